import Derived.Test.YtkcfcimophjomaaDiskS
import Derived.Lib.ConvBytes
import Derived.Laws.AppendOwn
namespace Go.Proofs.Ytkcfcimophjomaa
open Go.RowKit
set_option linter.unusedVariables false
set_option linter.unusedSimpArgs false
/-- The string of a row of bytes. -/
def strL (bs : List Nat) : ByteArray := ⟨(bs.map (fun x => UInt8.ofNat x)).toArray⟩
theorem bstr_strL (g : Nat → Nat) (n : Nat) : bstr g n = strL (fl g n) := by
  apply ByteArray.ext
  show (strOfNums _).data = _
  apply Array.toList_inj.1
  rw [strOfNums_data]
  unfold strL fl
  simp [Function.comp_def]
theorem fl_own (bs : List Nat) : fl (fun i => bs.getD i 0) bs.length = bs := by
  rw [fl_getD bs _ (Nat.le_refl _), List.take_length]
theorem bstr_own (bs : List Nat) : bstr (fun i => bs.getD i 0) bs.length = strL bs := by rw [bstr_strL, fl_own]
theorem strL_size (bs : List Nat) : (strL bs).size = bs.length := by simp [strL, ByteArray.size]
theorem strL_take (bs : List Nat) (k : Nat) : (strL bs).extract 0 k = strL (bs.take k) := by
  apply ByteArray.ext
  apply Array.toList_inj.1
  simp [strL, ByteArray.data_extract]
theorem strL_append (xs ys : List Nat) : strL xs ++ strL ys = strL (xs ++ ys) := by
  apply ByteArray.ext
  simp [strL]
theorem strL_bytes (bs : List Nat) (j : Nat) (hj : j < bs.length) (h : ∀ x ∈ bs, x < 256) : ((strL bs).data.toList.getD j 0).toNat = bs.getD j 0 := by
  have := h _ (List.getElem_mem hj)
  simp [strL, List.getD_eq_getElem?_getD, List.getElem?_map, List.getElem?_eq_getElem hj, Nat.mod_eq_of_lt this]
theorem bytesWorld_below (w : World) (e : TypeId) (s : ByteArray) : Below w.heap.size w (Lib.bytesWorld w e s) :=
  ⟨rfl, rfl, rfl, by rw [Lib.bytesWorld_size]; omega, fun k hk => Lib.bytesWorld_at_old w e s k hk⟩
theorem bytes_rd (w : World) (bs : List Nat) (h : ∀ x ∈ bs, x < 256) (hn : bs.length ≤ 100000) :
    ∃ v w', (convert 9 26 (.string (strL bs))).run Try.prog w = .ok v w' ∧ Rd w' v bs.length (fun i => bs.getD i 0) ∧ Below w.heap.size w w' := by
  refine ⟨_, _, Lib.run_convert_string_bytes w 9 26 5 _ Try.underlying9 Try.underlying26 Try.underlying5, ⟨bs_256 h, ?_⟩, bytesWorld_below w 5 _⟩
  have hc : grownCap w (strL bs).size 0 5 ≤ maxLen := grownCap_le_maxLen w _ 0 5 (by rw [strL_size]; unfold maxLen; omega)
  have hc2 := grownCap_ge w (strL bs).size 0 5
  unfold maxLen at hc
  rw [strL_size] at hc hc2 ⊢
  rcases Nat.eq_zero_or_pos bs.length with h0 | h0
  · exact .inl ⟨h0, some ⟨w.heap.size, 0, none⟩, _, by rw [h0], by rw [h0] at hc; exact hc⟩
  · refine .inr ⟨h0, w.heap.size, 0, _, rfl, hc2, hc, by rw [Lib.bytesWorld_size]; omega, fun i hi => ?_⟩
    rw [Nat.zero_add, Lib.bytesWorld_cell w 5 _ i (by rw [strL_size]; exact hi), strL_bytes bs i hi h]
/-- What a disk has, when it was left alone but for the first ones. -/
def trimL (bs : List Nat) (n : Int) : List Nat := if 0 ≤ n ∧ n ≤ (bs.length : Int) then bs.take n.toNat else bs
theorem trim_any (w : World) (m : Nat) (bs : List Nat) (d : Bool) (o : Option Int) (n : Int) (h : IsDisk w m bs d o) (hx : ∀ i, bs.getD i 0 < 256) (hb : bs.length ≤ 100000) :
    Calls Try.prog 24 #[.pointer (some ⟨m + 1, 0, none⟩), .int .i64 n] w fun e w' => e = .returned (.tuple #[]) ∧ IsDisk w' m (trimL bs n) d o ∧ Below m w w' := by
  unfold trimL
  by_cases hn : 0 ≤ n ∧ n ≤ (bs.length : Int)
  · rw [if_pos hn]
    obtain ⟨k, rfl⟩ := Int.eq_ofNat_of_zero_le hn.1
    exact trim_some w m bs d o k h hx hb (by omega)
  · rw [if_neg hn]
    refine (trim_none w m bs d o n h hb (by omega)).mono ?_
    rintro e w' ⟨rfl, rfl⟩
    exact ⟨rfl, h, Below.refl _ _⟩
theorem bytes_own (w : World) (m : Nat) (bs : List Nat) (d : Bool) (o : Option Int) (h : IsDisk w m bs d o) (hb : ∀ x ∈ bs, x < 256) (hn : bs.length ≤ 100000) :
    Calls Try.prog 14 #[.pointer (some ⟨m + 1, 0, none⟩)] w fun e w' => ∃ v', e = .returned v' ∧ (convert 26 9 v').run Try.prog w' = .ok (.string (strL bs)) w' ∧ Below w.heap.size w w' := by
  refine (bytes_any w m bs d o h (bs_256 hb) hn).mono ?_
  rintro e w' ⟨v', rfl, hR, hb⟩
  have h1 := hR.conv
  rw [bstr_own] at h1
  exact ⟨v', rfl, h1, hb⟩
end Go.Proofs.Ytkcfcimophjomaa

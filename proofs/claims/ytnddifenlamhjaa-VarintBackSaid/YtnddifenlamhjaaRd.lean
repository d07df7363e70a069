import Derived.Test.YtnddifenlamhjaaPut
namespace Go.Proofs.Ytnddifenlamhjaa
open Go.RowKit
set_option linter.unusedVariables false

/-- A byte slice's value reads as these n bytes. -/
def Rd (w : World) (v : Value) (n : Nat) (g : Nat → Nat) : Prop :=
  (∀ i, g i < 256) ∧ ((n = 0 ∧ ∃ a c, v = .slice a 0 c ∧ c ≤ 9223372036854775807) ∨
    (0 < n ∧ ∃ b off c, v = .slice (some ⟨b, off, none⟩) n c ∧ n ≤ c ∧ c ≤ 9223372036854775807 ∧ b < w.heap.size ∧ ∀ i, i < n → w.cell? ⟨b, off + i, none⟩ = some (.int .u8 (g i : Nat))))
theorem Rd.below {w w' : World} {v : Value} {n : Nat} {g : Nat → Nat} (h : Rd w v n g) (hb : Below w.heap.size w w') : Rd w' v n g := by
  obtain ⟨h1, h2 | ⟨h2, b, off, c, h3, h4, h5, h6, h7⟩⟩ := h
  · exact ⟨h1, .inl h2⟩
  · exact ⟨h1, .inr ⟨h2, b, off, c, h3, h4, h5, Nat.lt_of_lt_of_le h6 hb.size, fun i hi => (hb.cell (p := ⟨b, off + i, none⟩) h6).trans (h7 i hi)⟩⟩
theorem Rd.take {w : World} {v : Value} {n : Nat} {g : Nat → Nat} (h : Rd w v n g) : ∃ a c, v = .slice a n c ∧ n ≤ c ∧ c ≤ 9223372036854775807 := by
  obtain ⟨_, ⟨rfl, a, c, h3, h4⟩ | ⟨_, b, off, c, h3, h4, h5, _, _⟩⟩ := h
  · exact ⟨a, c, h3, by omega, h4⟩
  · exact ⟨_, c, h3, h4, h5⟩
/-- A shorter piece, from the first byte on. -/
theorem Rd.cut {w : World} {a : Option Addr} {n c m : Nat} {g : Nat → Nat} (h : Rd w (.slice a n c) n g) (hm : m ≤ n) : Rd w (.slice a m c) m g := by
  obtain ⟨h1, ⟨rfl, a', c', h3, h4⟩ | ⟨h2, b, off, c', h3, h4, h5, h6, h7⟩⟩ := h
  · injection h3 with e1 e2 e3
    subst e1; subst e3
    obtain rfl : m = 0 := by omega
    exact ⟨h1, .inl ⟨rfl, a, c, rfl, h4⟩⟩
  · injection h3 with e1 e2 e3
    subst e1; subst e3
    rcases Nat.eq_zero_or_pos m with h0 | h0
    · subst h0; exact ⟨h1, .inl ⟨rfl, _, c, rfl, h5⟩⟩
    · exact ⟨h1, .inr ⟨h0, b, off, c, rfl, by omega, h5, h6, fun i hi => h7 i (by omega)⟩⟩
theorem Rd.same {w : World} {v : Value} {n : Nat} {g g' : Nat → Nat} (h : Rd w v n g) (h' : ∀ i, g' i < 256) (he : ∀ i, i < n → g i = g' i) : Rd w v n g' := by
  obtain ⟨h1, h2 | ⟨h2, b, off, c, h3, h4, h5, h6, h7⟩⟩ := h
  · exact ⟨h', .inl h2⟩
  · exact ⟨h', .inr ⟨h2, b, off, c, h3, h4, h5, h6, fun i hi => by rw [h7 i hi, he i hi]⟩⟩
theorem Rd.of_own {w : World} {B : Nat} {v : Value} {xs : List Nat} (h : w.ownsRow B 5 1 v xs.length (cells8 xs)) (hx : ∀ i, xs.getD i 0 < 256) : Rd w v xs.length (fun i => xs.getD i 0) := by
  refine ⟨hx, ?_⟩
  rcases Nat.eq_zero_or_pos xs.length with h0 | h0
  · left
    refine ⟨h0, ?_⟩
    rcases h.2 with ⟨rfl, _⟩ | ⟨g, cap, cur, rfl, _, _, _, hc, _⟩
    · exact ⟨none, 0, rfl, by omega⟩
    · exact ⟨_, cap, by rw [h0], by unfold maxLen at hc; omega⟩
  · right
    refine ⟨h0, ?_⟩
    rcases h.2 with ⟨_, hv⟩ | ⟨g, cap, cur, rfl, _, hg, hn, hcm, hcs, ht⟩
    · omega
    · have hlt : g < w.heap.size := (Array.getElem?_eq_some_iff.1 hg).1
      refine ⟨g, 0, cap, rfl, hn, by unfold maxLen at hcm; omega, hlt, fun i hi => ?_⟩
      rw [cell_of_row w g (0 + i) cur 5 (0, 0) hg, Nat.zero_add]
      have h2 : (cells8 xs)[i]? = some (.int .u8 (xs.getD i 0 : Nat)) := by
        unfold cells8
        rw [List.getElem?_map, List.getElem?_eq_getElem hi]
        simp [List.getD, List.getElem?_eq_getElem hi]
      rw [← ht, List.getElem?_take, if_pos (by omega)] at h2
      simpa using h2

theorem Rd.of_enc {w : World} {B : Nat} {v : Value} {n : Nat} (h : w.ownsRow B 5 1 v (enc n).length (cells8 (enc n))) : Rd w v (enc n).length (eg n) := Rd.of_own h (fun i => eg_256 n i)

/-- The text of these bytes. -/
def bstr (g : Nat → Nat) (n : Nat) : ByteArray := strOfNums ((List.range n).map fun i => ((g i : Nat) : Int))
theorem Rd.conv {w : World} {v : Value} {n : Nat} {g : Nat → Nat} (h : Rd w v n g) : (convert 23 9 v).run Try.prog w = .ok (.string (bstr g n)) w := by
  obtain ⟨h1, ⟨rfl, a, c, rfl, h4⟩ | ⟨h2, b, off, c, rfl, h4, h5, h6, h7⟩⟩ := h
  · cases a with
    | none => exact run_convert_bytes_nil w 23 5 Try.underlying23 Try.underlying5 0 c 9 Try.underlying9
    | some ad =>
      rw [run_convert_bytes_string w 23 9 5 _ 0 c Try.underlying23 Try.underlying5 Try.underlying9]
      rw [run_bytesToString w ad 0 c [] (by simp [loadCells, loadCellsFrom])]
      rfl
  · refine run_convert_bytes_arg w 23 5 Try.underlying23 Try.underlying5 b off n c _ (by simp) (fun i hi => ?_) 9 Try.underlying9
    rw [h7 i hi]
    simp [List.getD, List.getElem?_map, List.getElem?_range hi]
theorem bstr_list (g : Nat → Nat) (n : Nat) : (bstr g n).toList = (fl g n).map (fun x => UInt8.ofNat x) := by
  rw [ByteArray.toList_eq]
  show (strOfNums _).data.toList = _
  rw [strOfNums_data, fl]
  simp [Function.comp_def]
theorem map8_inj : ∀ (xs ys : List Nat), (∀ x ∈ xs, x < 256) → (∀ y ∈ ys, y < 256) → (xs.map (fun x => UInt8.ofNat x) = ys.map (fun x => UInt8.ofNat x) ↔ xs = ys)
  | [], [], _, _ => by simp
  | [], _ :: _, _, _ => by simp
  | _ :: _, [], _, _ => by simp
  | x :: xs, y :: ys, hx, hy => by
    have ih := map8_inj xs ys (fun a ha => hx a (by simp [ha])) (fun a ha => hy a (by simp [ha]))
    have h1 := hx x (by simp)
    have h2 := hy y (by simp)
    simp only [List.map_cons, List.cons.injEq, ih]
    have : UInt8.ofNat x = UInt8.ofNat y ↔ x = y := by
      rw [← UInt8.toNat_inj]
      simp [Nat.mod_eq_of_lt h1, Nat.mod_eq_of_lt h2]
    rw [this]
theorem fl_256 {g : Nat → Nat} (h : ∀ i, g i < 256) (n : Nat) : ∀ x ∈ fl g n, x < 256 := by
  intro x hx
  obtain ⟨i, _, rfl⟩ := List.mem_map.1 hx
  exact h i
/-- Two texts are alike just if the bytes are. -/
theorem bstr_eq {g g' : Nat → Nat} (h : ∀ i, g i < 256) (h' : ∀ i, g' i < 256) (n m : Nat) : ((bstr g n).toList == (bstr g' m).toList) = decide (fl g n = fl g' m) := by
  rw [bstr_list, bstr_list, Bool.eq_iff_iff, beq_iff_eq, decide_eq_true_iff]
  exact map8_inj _ _ (fl_256 h n) (fl_256 h' m)

theorem take_nil (a : Option Addr) (c : Nat) (w : World) (hc : c ≤ 9223372036854775807) : Calls Try.prog 10 #[.slice a 0 c] w fun e w' => e = .returned (tkV (0, 0, 2)) ∧ w = w' := by
  go_enter Try.func10, Try.ntmps10
  go_wp2
  refine wp_loop_rounds 1 ?_
  rw [rounds_succ]; go_wp2
  go_ret3
  exact ⟨rfl, rfl⟩
theorem take_any {v : Value} {n : Nat} {g : Nat → Nat} {w : World} (h : Rd w v n g) : Calls Try.prog 10 #[v] w fun e w' => e = .returned (tkV (tkF g n)) ∧ w = w' := by
  obtain ⟨h1, ⟨rfl, a, c, rfl, h4⟩ | ⟨h2, b, off, c, rfl, h4, h5, h6, h7⟩⟩ := h
  · exact take_nil a c w h4
  · exact take_len b off n c g w h2 h4 h5 h7 h1

theorem take_as {v : Value} {n : Nat} {g : Nat → Nat} {w : World} (h : Rd w v n g) {x k e0 : Nat} (hT : tkF g n = (x, k, e0)) :
    Calls Try.prog 10 #[v] w fun e w' => e = .returned (.tuple #[.int .u64 x, .int .i64 k, .int .i64 e0]) ∧ w = w' := by
  have := take_any h
  rw [hT] at this
  exact this

theorem few_any {v : Value} {n : Nat} {g : Nat → Nat} {w : World} (h : Rd w v n g) : Calls Try.prog 11 #[v] w fun e w' => ∃ v', e = .returned v' ∧ w = w' ∧ Rd w v' (min n 20) g := by
  obtain ⟨a, c, rfl, hc, hm⟩ := h.take
  have H := Lib.hid (h.cut (m := min n 20) (by omega))
  clear h
  by_cases h20 : 20 < n
  · go_enter Try.func11, Try.ntmps11
    go_wp2
    go_ret
    refine ⟨_, rfl, rfl, ?_⟩
    have := H.out
    rw [show min n 20 = 20 by omega] at this ⊢
    exact this
  · go_enter Try.func11, Try.ntmps11
    go_wp2
    go_ret
    refine ⟨_, rfl, rfl, ?_⟩
    have := H.out
    rw [show min n 20 = n by omega] at this ⊢
    exact this

theorem lit_rd (w : World) (l : List Nat) (hl : ∀ i, l.getD i 0 < 256) (h0 : 0 < l.length) (h1 : l.length ≤ 9223372036854775807) :
    Rd (w.alloc (.cells (cells8 l).toArray 5)) (.slice (some ⟨w.heap.size, 0, none⟩) l.length l.length) l.length (fun i => l.getD i 0) := by
  refine ⟨hl, .inr ⟨h0, w.heap.size, 0, l.length, rfl, Nat.le_refl _, h1, by simp, fun i hi => ?_⟩⟩
  rw [cell_of_row _ w.heap.size (0 + i) _ 5 (0, 0) (heap_alloc_new w _), Nat.zero_add]
  unfold cells8
  simp [List.getElem?_map, List.getElem?_eq_getElem hi]

set_option maxHeartbeats 400000 in
theorem shown_any (w : World) : Calls Try.prog 9 #[] w fun e w' => e = .returned (.bool true) ∧ Below w.heap.size w w' := by
  have hT : tkF (fun i => [128, 0].getD i 0) 2 = (0, 0, 3) := by decide
  have hE : enc 300 = [172, 2] := by rw [enc_hi (by omega), enc_lo (by omega)]
  go_enter Try.func9, Try.ntmps9
  go_wp2_with (fail)
  have hR := lit_rd w [128, 0] (by intro i; match i with | 0 => decide | 1 => decide | i + 2 => simp) (by decide) (by decide)
  go_at_call 10; refine (take_as hR hT).mono ?_; rintro e w' ⟨rfl, rfl⟩
  clear hR hT
  go_wp2_with (fail)
  go_at_call 13; refine (put_any 300 _ (by omega)).mono ?_; rintro e w1 ⟨v, rfl, hown, hb⟩
  have hO := Rd.of_enc hown
  have hcv := hO.conv
  have hst : ((bstr (eg 300) (enc 300).length).toList == [172, 2]) = true := by
    rw [bstr_list, fl_eg, hE]; decide
  have HE := Lib.hid hE
  clear hE hO hown
  go_wp2_with (fail)
  go_ret
  exact ⟨rfl, (((Below.refl _ _).alloc (Nat.le_refl _) _)).trans (hb.mono (by simp))⟩
end Go.Proofs.Ytnddifenlamhjaa

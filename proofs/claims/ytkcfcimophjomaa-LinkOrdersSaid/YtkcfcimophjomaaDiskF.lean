import Derived.Test.YtkcfcimophjomaaDiskE
namespace Go.Proofs.Ytkcfcimophjomaa
open Go.RowKit
set_option linter.unusedVariables false
set_option linter.unusedSimpArgs false
theorem fl_getD (bs : List Nat) (n : Nat) (hn : n ≤ bs.length) : fl (fun i => bs.getD i 0) n = bs.take n := by
  apply List.ext_getElem?
  intro i
  rcases Nat.lt_or_ge i n with h | h
  · rw [fl_take _ _ _ h, List.getElem?_take, if_pos h, List.getElem?_eq_getElem (by omega)]
    simp [List.getD_eq_getElem?_getD, List.getElem?_eq_getElem (show i < bs.length by omega)]
  · rw [List.getElem?_eq_none (by rw [fl_len]; exact h), List.getElem?_take, if_neg (by omega)]
theorem trim_some (w : World) (m : Nat) (bs : List Nat) (d : Bool) (o : Option Int) (n : Nat) (h : IsDisk w m bs d o) (hx : ∀ i, bs.getD i 0 < 256) (hb : bs.length ≤ 100000) (hn : n ≤ bs.length) :
    Calls Try.prog 24 #[.pointer (some ⟨m + 1, 0, none⟩), .int .i64 n] w fun e w' => e = .returned (.tuple #[]) ∧ IsDisk w' m (bs.take n) d o ∧ Below m w w' := by
  have hlt := h.lt
  obtain ⟨v, c0, c1, c2, cf, cown, cm⟩ := h.cells
  have hR := Rd.of_own cown hx
  obtain ⟨a, c, rfl, hc1, hc2⟩ := hR.take
  have HR := Lib.hid (hR.cut hn)
  have HH := Lib.hid h
  clear hR cown cm h
  go_enter Try.func24, Try.ntmps24
  go_wp2_with (fail)
  go_at_call 34; refine (clone_own a n c _ w HR.out (by omega)).mono ?_; rintro e w3 ⟨v3, rfl, hown3, hB3⟩
  obtain ⟨a3, c3, rfl⟩ := own_slice hown3
  have hB2 : Below (m + 2) w w3 := hB3.mono (by omega)
  have k0 : w3.cell? ⟨m + 1, 0, none⟩ = some (.slice a bs.length c) := (hB2.cell (p := ⟨m + 1, 0, none⟩) (by show m + 1 < m + 2; omega)).trans c0
  have k1 : w3.frozen? ⟨m + 1, 0, none⟩ = false := (hB2.frozen (p := ⟨m + 1, 0, none⟩) (by show m + 1 < m + 2; omega)).trans (cf 0)
  have hl : (bs.take n).length = n := by rw [List.length_take]; omega
  have h5 := HH.out.store (bs' := bs.take n) hB2 (own_base (B' := m + 2) (by rw [hl, ← fl_getD bs n hn]; exact hown3) (by omega))
  have H5 := Lib.hid h5
  clear h5 hown3 c0 c1 c2 cf
  go_wp2
  go_end0
  exact ⟨rfl, H5.out.1, H5.out.2⟩
end Go.Proofs.Ytkcfcimophjomaa

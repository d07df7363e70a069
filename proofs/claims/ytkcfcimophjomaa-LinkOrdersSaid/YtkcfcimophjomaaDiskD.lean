import Derived.Test.YtkcfcimophjomaaDiskC
namespace Go.Proofs.Ytkcfcimophjomaa
open Go.RowKit
set_option linter.unusedVariables false
set_option linter.unusedSimpArgs false
theorem write_down (w : World) (m : Nat) (bs : List Nat) (o : Option Int) (vb : Value) (h : IsDisk w m bs true o) :
    Calls Try.prog 11 #[.pointer (some ⟨m + 1, 0, none⟩), vb] w fun e w' => e = .returned (.int .i64 18) ∧ w = w' := by
  obtain ⟨v, c0, c1, c2, cf, cown, cm⟩ := h.cells
  clear cown cm h
  go_enter Try.func11, Try.ntmps11
  go_wp2
  go_ret
  exact ⟨rfl, rfl⟩
theorem own_slice {w : World} {B n : Nat} {v : Value} {xs : List Value} (h : w.ownsRow B 5 1 v n xs) : ∃ a c, v = .slice a n c := by
  rcases h.2 with ⟨rfl, rfl⟩ | ⟨g, cap, cur, rfl, _⟩
  · exact ⟨none, 0, rfl⟩
  · exact ⟨_, cap, rfl⟩
theorem write_ok (w : World) (m : Nat) (bs : List Nat) (vb : Value) (n : Nat) (g : Nat → Nat) (h : IsDisk w m bs false none) (hv : Rd w vb n g) (hn : bs.length + n ≤ 100000) :
    Calls Try.prog 11 #[.pointer (some ⟨m + 1, 0, none⟩), vb] w fun e w' => e = .returned (.int .i64 0) ∧ IsDisk w' m (bs ++ fl g n) false none ∧ Below m w w' := by
  have hlt := h.lt
  obtain ⟨v, c0, c1, c2, cf, cown, cm⟩ := h.cells
  have hlk := look_none cm
  unfold keepV at hlk
  have HH := Lib.hid h
  have HO := Lib.hid cown
  have HV := Lib.hid hv
  clear cown cm h hv
  go_enter Try.func11, Try.ntmps11
  go_wp2_with ((at_builtin; apply Classical.byContradiction; intro hstop))
  apply hstop; clear hstop
  refine wpList_append_rd _ rfl (.tmp 25) (.tmp 26) rfl (m + 2) _ _ _ rfl HO.out _ n g rfl HV.out hn (by omega) ?_; intro v3 w3 hown3 hgr3
  have hB3 : Below (m + 2) w w3 := (Below.refl _ _).grown hgr3 (by omega) (fun j hj => (HO.out.lt j hj).1)
  obtain ⟨a3, c3, rfl⟩ := own_slice hown3
  have k0 : w3.cell? ⟨m + 1, 0, none⟩ = some v := (hB3.cell (p := ⟨m + 1, 0, none⟩) (by show m + 1 < m + 2; omega)).trans c0
  have k1 : w3.frozen? ⟨m + 1, 0, none⟩ = false := (hB3.frozen (p := ⟨m + 1, 0, none⟩) (by show m + 1 < m + 2; omega)).trans (cf 0)
  have h5 := HH.out.store (bs' := bs ++ fl g n) hB3 (by rw [List.length_append, fl_len]; exact hown3)
  have H5 := Lib.hid h5
  clear h5 hown3 hgr3 c0 c1 c2 cf hlk
  go_wp2
  go_ret
  exact ⟨rfl, H5.out.1, H5.out.2⟩
end Go.Proofs.Ytkcfcimophjomaa

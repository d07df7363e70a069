import Derived.Test.YtkcfcimophjomaaOg
import Derived.LoopTactic
namespace Go.Proofs.Ytkcfcimophjomaa
open Go.RowKit
set_option linter.unusedVariables false
set_option linter.unusedSimpArgs false
theorem same_true (w : World) (v1 v2 : Value) (es : List (Int × Int)) (h1 : RdC w 12 v1 es.length (evs es)) (h2 : RdC w 12 v2 es.length (evs es)) (hn : es.length ≤ 100000) :
    Calls Try.prog 23 #[v1, v2] w fun e w' => e = .returned (.bool true) ∧ Below w.heap.size w w' := by
  obtain ⟨a1, c1, rfl, hc11, hc12⟩ := h1.take
  obtain ⟨a2, c2, rfl, hc21, hc22⟩ := h2.take
  have H1 := Lib.hid h1
  have H2 := Lib.hid h2
  clear h1 h2
  go_enter Try.func23, Try.ntmps23
  go_wp2
  go_loopw [5] (fun i wr => ∃ k : Nat, k ≤ es.length ∧ i = .int .i64 k ∧ Below w.heap.size w wr) (fun i _ => es.length - (intOf i).toNat)
  case atStart => exact ⟨0, by omega, rfl, Below.refl _ _⟩
  case round =>
    obtain ⟨k, hk, rfl, hbel⟩ := hrel
    by_cases hlt : k < es.length
    · obtain ⟨b1, off1, rfl, hb1, hc1⟩ := (H1.out.below hbel).at (by omega)
      obtain ⟨b2, off2, rfl, hb2, hc2⟩ := (H2.out.below hbel).at (by omega)
      have hx : es[k]? = some es[k] := List.getElem?_eq_getElem hlt
      obtain ⟨x, hx'⟩ : ∃ x, es[k] = x := ⟨_, rfl⟩
      rw [hx'] at hx
      have q1 : (k : Int) < (es.length : Int) := by omega
      have q0 : (0 : Int) ≤ (k : Int) := by omega
      have r1 : Hid (∀ w, (∃ u : WB wr.heap.size wr, w = u.w) → w.rangeAt b1 (off1 + k * 12) (evL x)) := Lib.hid (by
        rintro _ ⟨u, rfl⟩; exact ev_range (fun j v hj => (u.2.cell (p := ⟨b1, off1 + j, none⟩) hb1).trans (hc1 j v hj)) x hx)
      have r2 : Hid (∀ w, (∃ u : WB wr.heap.size wr, w = u.w) → w.rangeAt b2 (off2 + k * 12) (evL x)) := Lib.hid (by
        rintro _ ⟨u, rfl⟩; exact ev_range (fun j v hj => (u.2.cell (p := ⟨b2, off2 + j, none⟩) hb2).trans (hc2 j v hj)) x hx)
      clear hx hx' hc1 hc2
      go_wp2_with (fail)
      refine wp_region_wb2 (by kernel_rfl) (by kernel_rfl) ?_
      iterate 3 go_big_quiet_step (fail)
      refine wpQuiet_load_mid (by rfl) 40 (.tmp 19) (by rfl) b1 (off1 + k * 12) (by rfl) (evL x) _ r1.out Try.underlying40 (by rfl) size40 ?_
      simp only [Act.put, List.setIfInBounds_toArray, List.set_cons_zero, List.set_cons_succ]
      iterate 3 go_big_quiet_step (fail)
      refine wpQuiet_load_mid (by rfl) 40 (.tmp 23) (by rfl) b2 (off2 + k * 12) (by rfl) (evL x) _ r2.out Try.underlying40 (by rfl) size40 ?_
      simp only [Act.put, List.setIfInBounds_toArray, List.set_cons_zero, List.set_cons_succ]
      refine wpQuiet_neq_ev (by rfl) (.tmp 20) (.tmp 24) (by rfl) x (by rfl) (by rfl) ?_
      simp only [Act.put, List.setIfInBounds_toArray, List.set_cons_zero, List.set_cons_succ]
      refine wpQuiet_nil ?_; intro wq hbq
      clear r1 r2
      go_wp2_with (fail)
      go_roundw
      case rel => exact ⟨k + 1, by omega, by go_num, hbel.trans (hbq.mono hbel.size)⟩
      case measure => simp [intOf]; omega
    · go_wp2_with (fail)
      go_ret
      exact ⟨rfl, hbel⟩
end Go.Proofs.Ytkcfcimophjomaa

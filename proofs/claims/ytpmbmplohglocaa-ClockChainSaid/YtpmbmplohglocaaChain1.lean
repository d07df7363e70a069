import Derived.Test.YtpmbmplohglocaaClockM
import Derived.Deep.Cut
namespace Go.Proofs.Ytpmbmplohglocaa
open Go.RowKit
attribute [local go_sem high] run_max_mx
attribute [local go_sem] WB.cell WB.frozen run_eq_c5
attribute [local go_sem] eq5_refl
set_option linter.unusedVariables false

set_option maxHeartbeats 4000000 in
theorem chain1 (a0 a1 a2 a3 a4 m0 m1 m2 m3 m4 r n : Int) (w : World) (e0 : bits .and .i64 a0 511 = m0) (p0 : 0 ≤ m0) (q0 : m0 ≤ 511) (e1 : bits .and .i64 a1 511 = m1) (p1 : 0 ≤ m1) (q1 : m1 ≤ 511) (e2 : bits .and .i64 a2 511 = m2) (p2 : 0 ≤ m2) (q2 : m2 ≤ 511) (e3 : bits .and .i64 a3 511 = m3) (p3 : 0 ≤ m3) (q3 : m3 ≤ 511) (e4 : bits .and .i64 a4 511 = m4) (p4 : 0 ≤ m4) (q4 : m4 ≤ 511) (r0 : 0 ≤ r) (r1 : r ≤ 255) (n0 : 0 ≤ n) (n1 : n ≤ 255) (hk : r % 5 = 1) :
    Calls Try.prog 8 #[.agg (C5 a0 a1 a2 a3 a4), .int .u8 r, .int .u8 n] w fun e w' => e = .returned (.bool true) ∧ Below w.heap.size w w' := by
  go_enter Try.func8, Try.ntmps8
  go_wp2_with (fail)
  go_at_call 13; refine (shown_any _).mono ?_; rintro e w1 ⟨rfl, hb1⟩; obtain ⟨hc1, hf1⟩ := bcell hb1; have hz1 := hb1.size; simp at hz1; have k10 : w.heap.size < w1.heap.size := (by omega)
  go_wp2_with (fail)
  refine wp_loop_rounds 6 ?_
  rw [rounds_succ]; go_wp2_with (fail)
  rw [rounds_succ]; go_wp2_with (fail)
  rw [rounds_succ]; go_wp2_with (fail)
  rw [rounds_succ]; go_wp2_with (fail)
  rw [rounds_succ]; go_wp2_with (fail)
  rw [rounds_succ]; go_upto_region 7 with (fail)
  rw [hk]
  have b0 : IsBlk w1 w.heap.size 23 (C5 a0 a1 a2 a3 a4) := (IsBlk.new w 23 (C5 a0 a1 a2 a3 a4)).below hb1 (by simp)
  have b5 := ((((b0.store 0 (.int .i64 m0)).store 1 (.int .i64 m1)).store 2 (.int .i64 m2)).store 3 (.int .i64 m3)).store 4 (.int .i64 m4)
  have B1 : Below w.heap.size w w1 := ((Below.refl w.heap.size w).alloc (Nat.le_refl _) _).trans (hb1.mono (by simp))
  have B5 := ((((B1.setCell (p := ⟨w.heap.size, 0, none⟩) (Nat.le_refl _) (.int .i64 m0)).setCell (p := ⟨w.heap.size, 1, none⟩) (Nat.le_refl _) (.int .i64 m1)).setCell (p := ⟨w.heap.size, 2, none⟩) (Nat.le_refl _) (.int .i64 m2)).setCell (p := ⟨w.heap.size, 3, none⟩) (Nat.le_refl _) (.int .i64 m3)).setCell (p := ⟨w.heap.size, 4, none⟩) (Nat.le_refl _) (.int .i64 m4)
  have z5 : w1.heap.size ≤ (((((w1.setCell ⟨w.heap.size, 0, none⟩ (.int .i64 m0)).setCell ⟨w.heap.size, 1, none⟩ (.int .i64 m1)).setCell ⟨w.heap.size, 2, none⟩ (.int .i64 m2)).setCell ⟨w.heap.size, 3, none⟩ (.int .i64 m3)).setCell ⟨w.heap.size, 4, none⟩ (.int .i64 m4)).heap.size := (by simp)
  clear hc1 hf1
  generalize (((((w1.setCell ⟨w.heap.size, 0, none⟩ (.int .i64 m0)).setCell ⟨w.heap.size, 1, none⟩ (.int .i64 m1)).setCell ⟨w.heap.size, 2, none⟩ (.int .i64 m2)).setCell ⟨w.heap.size, 3, none⟩ (.int .i64 m3)).setCell ⟨w.heap.size, 4, none⟩ (.int .i64 m4)) = wv at *
  have kv0 : w.heap.size < wv.heap.size := (by omega)
  have cv := b5.cell
  simp at cv
  have D5 : IsBlk wv w.heap.size 23 (C5 m0 m1 m2 m3 m4) := by simpa using b5
  clear b5
  go_wp2_with (fail)
  clear cv
  go_loopw [11] (fun i wr => ∃ j : Nat, (j : Int) ≤ n % 64 ∧ i = .int .i64 j ∧ IsBlk wr wv.heap.size 23 (C5 m0 (m1 + (j : Int)) m2 m3 m4) ∧ IsBlk wr w.heap.size 23 (C5 m0 m1 m2 m3 m4) ∧ Below w.heap.size w wr) (fun i _ => (n % 64).toNat - (intOf i).toNat)
  case atStart =>
    refine ⟨0, by omega, rfl, ?_, D5.alloc _, B5.alloc (by omega) _⟩
    simpa using IsBlk.new wv 23 (C5 m0 m1 m2 m3 m4)
  case round =>
    obtain ⟨j, hj, rfl, hC, hA, hB⟩ := hrel
    have s1 := hC.lt
    have s2 := hA.lt
    have cC := hC.cell
    simp at cC
    have fC := hC.frozen
    by_cases hlt : (j : Int) < n % 64
    · have hh1 : has5 m0 (m1 + (j : Int) + 1) m2 m3 m4 1 (m1 + (j : Int) + 1) = true := by rw [has5_iff]; simp [get5]; omega
      have hh2 : has5 m0 (m1 + (j : Int)) m2 m3 m4 1 (m1 + (j : Int) + 1) = false := by rw [Bool.eq_false_iff, ne_eq, has5_iff]; simp [get5]; omega
      go_wp2_with (fail)
      go_at_call 17; refine (next_ok1 _ _ _ _ _ _ (by omega) (by omega)).mono ?_; rintro e w2 ⟨rfl, hb2⟩; obtain ⟨hc2, hf2⟩ := bcell hb2; have hz2 := hb2.size; have k20 : w.heap.size < w2.heap.size := (by omega); have k21 : wv.heap.size < w2.heap.size := (by omega)
      go_wp2_with (fail)
      refine wp_region_wb2 (by kernel_rfl) (by kernel_rfl) ?_
      repeat (go_big_quiet_step ((first | (go_at_call 16; with_reducible exact wb_of (has_val hh1 _)) | (go_at_call 16; with_reducible exact wb_of (has_val hh2 _)))))
      refine wpQuiet_nil ?_
      intro w3 hb3; have hz3 := hb3.size; simp at hz3; have k30 : w.heap.size < w3.heap.size := (by omega); have k31 : wv.heap.size < w3.heap.size := (by omega); have k32 : w2.heap.size < w3.heap.size := (by omega)
      have hC3 : IsBlk w3 wv.heap.size 23 (C5 m0 (m1 + (j : Int)) m2 m3 m4) := ((hC.below hb2 s1).alloc _).below hb3 (by simp; omega)
      have hA3 : IsBlk w3 w.heap.size 23 (C5 m0 m1 m2 m3 m4) := ((hA.below hb2 s2).alloc _).below hb3 (by simp; omega)
      have hB3 : Below w.heap.size w w3 := ((hB.trans (hb2.mono (by omega))).alloc (by omega) _).trans (hb3.mono (by simp; omega))
      have cC3 := hC3.cell
      simp at cC3
      have fC3 := hC3.frozen
      have cD3 := ((IsBlk.new w2 23 (C5 m0 (m1 + (j : Int) + 1) m2 m3 m4)).below hb3 (by simp)).cell
      simp at cD3
      clear hc2 hf2 cC fC
      go_wp2_with (fail)
      have hC4 := ((((hC3.store 0 (.int .i64 m0)).store 1 (.int .i64 (m1 + (j : Int) + 1))).store 2 (.int .i64 m2)).store 3 (.int .i64 m3)).store 4 (.int .i64 m4)
      have hne4 : w.heap.size ≠ wv.heap.size := (by omega)
      have hA4 := ((((hA3.other (p := ⟨wv.heap.size, 0, none⟩) hne4 (.int .i64 m0)).other (p := ⟨wv.heap.size, 1, none⟩) hne4 (.int .i64 (m1 + (j : Int) + 1))).other (p := ⟨wv.heap.size, 2, none⟩) hne4 (.int .i64 m2)).other (p := ⟨wv.heap.size, 3, none⟩) hne4 (.int .i64 m3)).other (p := ⟨wv.heap.size, 4, none⟩) hne4 (.int .i64 m4)
      have hB4 := ((((hB3.setCell (p := ⟨wv.heap.size, 0, none⟩) (Nat.le_of_lt kv0) (.int .i64 m0)).setCell (p := ⟨wv.heap.size, 1, none⟩) (Nat.le_of_lt kv0) (.int .i64 (m1 + (j : Int) + 1))).setCell (p := ⟨wv.heap.size, 2, none⟩) (Nat.le_of_lt kv0) (.int .i64 m2)).setCell (p := ⟨wv.heap.size, 3, none⟩) (Nat.le_of_lt kv0) (.int .i64 m3)).setCell (p := ⟨wv.heap.size, 4, none⟩) (Nat.le_of_lt kv0) (.int .i64 m4)
      go_roundw
      case rel =>
        refine ⟨j + 1, by omega, by go_num, ?_, hA4, hB4⟩
        have e1 : m1 + ((j + 1 : Nat) : Int) = m1 + (j : Int) + 1 := by omega
        rw [e1]
        simpa using hC4
      case measure => simp [intOf]; omega
    · have hjq : n % 64 = (j : Int) := by omega
      have hF : eq5 m0 (m1 + (j : Int)) m2 m3 m4 m0 (m1 + n % 64) m2 m3 m4 = true := by rw [eq5_iff]; omega
      have cA := hA.cell
      simp at cA
      have fA := hA.frozen
      have ks0 : w.heap.size < wr.heap.size := (by omega)
      have ks1 : wv.heap.size < wr.heap.size := (by omega)
      have hM : eq5 (max m0 m0) (max m1 (m1 + (j : Int))) (max m2 m2) (max m3 m3) (max m4 m4) m0 (m1 + (j : Int)) m2 m3 m4 = true := by rw [eq5_iff]; omega
      have hM2 : eq5 m0 (max m1 (m1 + (j : Int))) m2 m3 m4 m0 (m1 + (j : Int)) m2 m3 m4 = true := by rw [eq5_iff]; omega
      have hLe : le5 m0 m1 m2 m3 m4 m0 (m1 + (j : Int)) m2 m3 m4 = true := by rw [le5_iff]; omega
      clear hjq
      go_wp2_with (fail)
      refine wp_region_wb2 (by kernel_rfl) (by kernel_rfl) ?_
      repeat (go_big_quiet_step ((first | (go_at_call 14; exact wb_of (join_any _ _ _ _ _ _ _ _ _ _ _)) | (go_at_call 15; exact wb_of (lessEq_any _ _ _ _ _ _ _ _ _ _ _)) | (go_at_call 16; exact wb_of (has_any _ _ _ _ _ _ _ _)) | (go_at_call 19; exact wb_of (rhas_any _ _ _ _ _ _ _ _)) | (go_at_call 20; exact wb_of (rjoin_any _ _ _ _ _ _ _ _ _ _ _)) | (go_at_call 21; exact wb_of (rle_any _ _ _ _ _ _ _ _ _ _ _)))))
      refine wpQuiet_nil ?_
      intro w6 hb6
      go_wp2_with (fail)
      go_ret
      exact ⟨rfl, (hB.alloc (by omega) _).trans (hb6.mono (by simp; omega))⟩
end Go.Proofs.Ytpmbmplohglocaa

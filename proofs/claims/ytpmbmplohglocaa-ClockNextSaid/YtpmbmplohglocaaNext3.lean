import Derived.Test.YtpmbmplohglocaaClockM
import Derived.Deep.Cut
namespace Go.Proofs.Ytpmbmplohglocaa
open Go.RowKit
set_option linter.unusedVariables false
attribute [local go_sem high] run_max_mx
attribute [local go_sem] WB.cell WB.frozen run_eq_c5
attribute [local go_sem] eq5_refl

set_option maxHeartbeats 2000000 in
theorem next3_rt (a0 a1 a2 a3 a4 m0 m1 m2 m3 m4 r R N : Int) (w : World) (e0 : bits .and .i64 a0 1048575 = m0) (p0 : 0 ≤ m0) (q0 : m0 ≤ 1048575) (e1 : bits .and .i64 a1 1048575 = m1) (p1 : 0 ≤ m1) (q1 : m1 ≤ 1048575) (e2 : bits .and .i64 a2 1048575 = m2) (p2 : 0 ≤ m2) (q2 : m2 ≤ 1048575) (e3 : bits .and .i64 a3 1048575 = m3) (p3 : 0 ≤ m3) (q3 : m3 ≤ 1048575) (e4 : bits .and .i64 a4 1048575 = m4) (p4 : 0 ≤ m4) (q4 : m4 ≤ 1048575) (r0 : 0 ≤ r) (r1 : r ≤ 255) (hk : r % 5 = 3) (hR : (R == 3) = false) (hA : has5 m0 m1 m2 m3 m4 R N = true) :
    Calls Try.prog 7 #[.agg (C5 a0 a1 a2 a3 a4), .int .u8 r, .agg #[.int .i64 R, .int .i64 N]] w fun e w' => e = .returned (.bool true) ∧ Below w.heap.size w w' := by
  have hne : R ≠ 3 := by simpa using hR
  have hB : has5 m0 m1 m2 (m3 + 1) m4 R N = true := by
    have h0 := hA
    rw [has5_iff] at h0 ⊢
    obtain ⟨z0, z1, z2, z3⟩ := h0
    refine ⟨z0, z1, z2, ?_⟩
    unfold get5 at z3 ⊢
    repeat' split at z3
    all_goals (first | omega | (simp [*]; omega))
  have hL : le5 m0 m1 m2 m3 m4 m0 m1 m2 (m3 + 1) m4 = true := by rw [le5_iff]; omega
  have hG : le5 m0 m1 m2 (m3 + 1) m4 m0 m1 m2 m3 m4 = false := by rw [Bool.eq_false_iff, ne_eq, le5_iff]; omega
  go_enter Try.func7, Try.ntmps7
  go_wp2_with (fail)
  go_at_call 13; refine (shown_any _).mono ?_; rintro e w1 ⟨rfl, hb1⟩; obtain ⟨hc1, hf1⟩ := bcell hb1; have hz1 := hb1.size; simp at hz1; have k10 : w.heap.size < w1.heap.size := (by omega); have k11 : w.heap.size + 1 < w1.heap.size := (by omega)
  go_wp2_with (fail)
  refine wp_loop_rounds 6 ?_
  rw [rounds_succ]; go_wp2_with (fail)
  rw [rounds_succ]; go_wp2_with (fail)
  rw [rounds_succ]; go_wp2_with (fail)
  rw [rounds_succ]; go_wp2_with (fail)
  rw [rounds_succ]; go_wp2_with (fail)
  rw [rounds_succ]; go_upto_region 7 with (fail)
  rw [hk]
  have b0 : IsBlk w1 w.heap.size 23 (C5 a0 a1 a2 a3 a4) := (((IsBlk.new w 23 (C5 a0 a1 a2 a3 a4)).alloc _).below hb1 (by simp; omega))
  have b5 := ((((b0.store 0 (.int .i64 m0)).store 1 (.int .i64 m1)).store 2 (.int .i64 m2)).store 3 (.int .i64 m3)).store 4 (.int .i64 m4)
  have n0 : IsBlk w1 (w.heap.size + 1) 29 #[.int .i64 R, .int .i64 N] := (by simpa using IsBlk.new (w.alloc (.cells (C5 a0 a1 a2 a3 a4) 23)) 29 #[.int .i64 R, .int .i64 N] : IsBlk _ (w.heap.size + 1) 29 _).below hb1 (by simp)
  have hne1 : w.heap.size + 1 ≠ w.heap.size := (by omega)
  have n5 := ((((n0.other (p := ⟨w.heap.size, 0, none⟩) hne1 (.int .i64 m0)).other (p := ⟨w.heap.size, 1, none⟩) hne1 (.int .i64 m1)).other (p := ⟨w.heap.size, 2, none⟩) hne1 (.int .i64 m2)).other (p := ⟨w.heap.size, 3, none⟩) hne1 (.int .i64 m3)).other (p := ⟨w.heap.size, 4, none⟩) hne1 (.int .i64 m4)
  have B1 : Below w.heap.size w w1 := (((Below.refl w.heap.size w).alloc (Nat.le_refl _) _).alloc (by simp) _).trans (hb1.mono (by simp; omega))
  have B5 := ((((B1.setCell (p := ⟨w.heap.size, 0, none⟩) (Nat.le_refl _) (.int .i64 m0)).setCell (p := ⟨w.heap.size, 1, none⟩) (Nat.le_refl _) (.int .i64 m1)).setCell (p := ⟨w.heap.size, 2, none⟩) (Nat.le_refl _) (.int .i64 m2)).setCell (p := ⟨w.heap.size, 3, none⟩) (Nat.le_refl _) (.int .i64 m3)).setCell (p := ⟨w.heap.size, 4, none⟩) (Nat.le_refl _) (.int .i64 m4)
  have z5 : w1.heap.size ≤ (((((w1.setCell ⟨w.heap.size, 0, none⟩ (.int .i64 m0)).setCell ⟨w.heap.size, 1, none⟩ (.int .i64 m1)).setCell ⟨w.heap.size, 2, none⟩ (.int .i64 m2)).setCell ⟨w.heap.size, 3, none⟩ (.int .i64 m3)).setCell ⟨w.heap.size, 4, none⟩ (.int .i64 m4)).heap.size := (by simp)
  clear hc1 hf1
  generalize (((((w1.setCell ⟨w.heap.size, 0, none⟩ (.int .i64 m0)).setCell ⟨w.heap.size, 1, none⟩ (.int .i64 m1)).setCell ⟨w.heap.size, 2, none⟩ (.int .i64 m2)).setCell ⟨w.heap.size, 3, none⟩ (.int .i64 m3)).setCell ⟨w.heap.size, 4, none⟩ (.int .i64 m4)) = wv at *
  have kv0 : w.heap.size < wv.heap.size := (by omega)
  have kv1 : w.heap.size + 1 < wv.heap.size := (by omega)
  have cv := b5.cell
  have fv := b5.frozen
  have dv := n5.cell
  simp at cv
  go_wp2_with (fail)
  go_at_call 17; refine (next_ok3 _ _ _ _ _ _ (by omega) (by omega)).mono ?_; rintro e w2 ⟨rfl, hb2⟩; obtain ⟨hc2, hf2⟩ := bcell hb2; have hz2 := hb2.size; have k20 : w.heap.size < w2.heap.size := (by omega); have k21 : w.heap.size + 1 < w2.heap.size := (by omega)
  go_wp2_with (fail)
  refine wp_region_wb2 (by kernel_rfl) (by kernel_rfl) ?_
  repeat (go_big_quiet_step ((first | (go_at_call 14; exact wb_of (join_any _ _ _ _ _ _ _ _ _ _ _)) | (go_at_call 15; exact wb_of (lessEq_any _ _ _ _ _ _ _ _ _ _ _)) | (go_at_call 16; exact wb_of (has_any _ _ _ _ _ _ _ _)) | (go_at_call 19; exact wb_of (rhas_any _ _ _ _ _ _ _ _)) | (go_at_call 20; exact wb_of (rjoin_any _ _ _ _ _ _ _ _ _ _ _)) | (go_at_call 21; exact wb_of (rle_any _ _ _ _ _ _ _ _ _ _ _)))))
  refine wpQuiet_nil ?_
  intro w3 hb3; obtain ⟨hc3, hf3⟩ := bcell hb3; have hz3 := hb3.size; simp at hz3; have k30 : w.heap.size < w3.heap.size := (by omega); have k31 : w.heap.size + 1 < w3.heap.size := (by omega); have k32 : w2.heap.size < w3.heap.size := (by omega)
  go_wp2_with (fail)
  refine wp_region_wb2 (by kernel_rfl) (by kernel_rfl) ?_
  repeat (go_big_quiet_step ((first | (go_at_call 16; with_reducible exact wb_of (has_val hB _)) | (go_at_call 16; with_reducible exact wb_of (has_val hA _)))))
  refine wpQuiet_nil ?_
  intro w4 hb4; obtain ⟨hc4, hf4⟩ := bcell hb4; have hz4 := hb4.size; have k40 : w.heap.size < w4.heap.size := (by omega); have k41 : w.heap.size + 1 < w4.heap.size := (by omega); have k42 : w2.heap.size < w4.heap.size := (by omega)
  go_wp2_with (fail)
  go_at_call 17; refine (next_spent3 _ _ _ _ _ _ (by omega)).mono ?_; rintro e w5 ⟨rfl, hb5⟩; obtain ⟨hc5, hf5⟩ := bcell hb5; have hz5 := hb5.size; simp at hz5; have k50 : w.heap.size < w5.heap.size := (by omega); have k51 : w.heap.size + 1 < w5.heap.size := (by omega); have k52 : w2.heap.size < w5.heap.size := (by omega); have k53 : w4.heap.size < w5.heap.size := (by omega)
  go_wp2_with (fail)
  refine wp_region_wb2 (by kernel_rfl) (by kernel_rfl) ?_
  repeat (go_big_quiet_step ((first | (go_at_call 14; exact wb_of (join_any _ _ _ _ _ _ _ _ _ _ _)) | (go_at_call 15; exact wb_of (lessEq_any _ _ _ _ _ _ _ _ _ _ _)) | (go_at_call 16; exact wb_of (has_any _ _ _ _ _ _ _ _)) | (go_at_call 19; exact wb_of (rhas_any _ _ _ _ _ _ _ _)) | (go_at_call 20; exact wb_of (rjoin_any _ _ _ _ _ _ _ _ _ _ _)) | (go_at_call 21; exact wb_of (rle_any _ _ _ _ _ _ _ _ _ _ _)))))
  refine wpQuiet_nil ?_
  intro w6 hb6
  go_wp2_with (fail)
  go_ret
  have B2 : Below w.heap.size w w2 := B5.trans (hb2.mono (by omega))
  have B3 : Below w.heap.size w w3 := (B2.alloc (by omega) _).trans (hb3.mono (by simp; omega))
  have B4 : Below w.heap.size w w4 := B3.trans (hb4.mono (by omega))
  have B6 : Below w.heap.size w w5 := (B4.alloc (by omega) _).trans (hb5.mono (by simp; omega))
  exact ⟨rfl, (B6.alloc (by omega) _).trans (hb6.mono (by simp; omega))⟩

set_option maxHeartbeats 2000000 in
theorem next3_rf (a0 a1 a2 a3 a4 m0 m1 m2 m3 m4 r R N : Int) (w : World) (e0 : bits .and .i64 a0 1048575 = m0) (p0 : 0 ≤ m0) (q0 : m0 ≤ 1048575) (e1 : bits .and .i64 a1 1048575 = m1) (p1 : 0 ≤ m1) (q1 : m1 ≤ 1048575) (e2 : bits .and .i64 a2 1048575 = m2) (p2 : 0 ≤ m2) (q2 : m2 ≤ 1048575) (e3 : bits .and .i64 a3 1048575 = m3) (p3 : 0 ≤ m3) (q3 : m3 ≤ 1048575) (e4 : bits .and .i64 a4 1048575 = m4) (p4 : 0 ≤ m4) (q4 : m4 ≤ 1048575) (r0 : 0 ≤ r) (r1 : r ≤ 255) (hk : r % 5 = 3) (hR : (R == 3) = false) (hA : has5 m0 m1 m2 m3 m4 R N = false) :
    Calls Try.prog 7 #[.agg (C5 a0 a1 a2 a3 a4), .int .u8 r, .agg #[.int .i64 R, .int .i64 N]] w fun e w' => e = .returned (.bool true) ∧ Below w.heap.size w w' := by
  have hne : R ≠ 3 := by simpa using hR
  have hB : has5 m0 m1 m2 (m3 + 1) m4 R N = false := by
    have h0 := hA
    rw [Bool.eq_false_iff, ne_eq, has5_iff] at h0 ⊢
    intro ⟨z0, z1, z2, z3⟩
    refine h0 ⟨z0, z1, z2, ?_⟩
    unfold get5 at z3 ⊢
    repeat' split at z3
    all_goals (first | omega | (simp [*]; omega))
  have hL : le5 m0 m1 m2 m3 m4 m0 m1 m2 (m3 + 1) m4 = true := by rw [le5_iff]; omega
  have hG : le5 m0 m1 m2 (m3 + 1) m4 m0 m1 m2 m3 m4 = false := by rw [Bool.eq_false_iff, ne_eq, le5_iff]; omega
  go_enter Try.func7, Try.ntmps7
  go_wp2_with (fail)
  go_at_call 13; refine (shown_any _).mono ?_; rintro e w1 ⟨rfl, hb1⟩; obtain ⟨hc1, hf1⟩ := bcell hb1; have hz1 := hb1.size; simp at hz1; have k10 : w.heap.size < w1.heap.size := (by omega); have k11 : w.heap.size + 1 < w1.heap.size := (by omega)
  go_wp2_with (fail)
  refine wp_loop_rounds 6 ?_
  rw [rounds_succ]; go_wp2_with (fail)
  rw [rounds_succ]; go_wp2_with (fail)
  rw [rounds_succ]; go_wp2_with (fail)
  rw [rounds_succ]; go_wp2_with (fail)
  rw [rounds_succ]; go_wp2_with (fail)
  rw [rounds_succ]; go_upto_region 7 with (fail)
  rw [hk]
  have b0 : IsBlk w1 w.heap.size 23 (C5 a0 a1 a2 a3 a4) := (((IsBlk.new w 23 (C5 a0 a1 a2 a3 a4)).alloc _).below hb1 (by simp; omega))
  have b5 := ((((b0.store 0 (.int .i64 m0)).store 1 (.int .i64 m1)).store 2 (.int .i64 m2)).store 3 (.int .i64 m3)).store 4 (.int .i64 m4)
  have n0 : IsBlk w1 (w.heap.size + 1) 29 #[.int .i64 R, .int .i64 N] := (by simpa using IsBlk.new (w.alloc (.cells (C5 a0 a1 a2 a3 a4) 23)) 29 #[.int .i64 R, .int .i64 N] : IsBlk _ (w.heap.size + 1) 29 _).below hb1 (by simp)
  have hne1 : w.heap.size + 1 ≠ w.heap.size := (by omega)
  have n5 := ((((n0.other (p := ⟨w.heap.size, 0, none⟩) hne1 (.int .i64 m0)).other (p := ⟨w.heap.size, 1, none⟩) hne1 (.int .i64 m1)).other (p := ⟨w.heap.size, 2, none⟩) hne1 (.int .i64 m2)).other (p := ⟨w.heap.size, 3, none⟩) hne1 (.int .i64 m3)).other (p := ⟨w.heap.size, 4, none⟩) hne1 (.int .i64 m4)
  have B1 : Below w.heap.size w w1 := (((Below.refl w.heap.size w).alloc (Nat.le_refl _) _).alloc (by simp) _).trans (hb1.mono (by simp; omega))
  have B5 := ((((B1.setCell (p := ⟨w.heap.size, 0, none⟩) (Nat.le_refl _) (.int .i64 m0)).setCell (p := ⟨w.heap.size, 1, none⟩) (Nat.le_refl _) (.int .i64 m1)).setCell (p := ⟨w.heap.size, 2, none⟩) (Nat.le_refl _) (.int .i64 m2)).setCell (p := ⟨w.heap.size, 3, none⟩) (Nat.le_refl _) (.int .i64 m3)).setCell (p := ⟨w.heap.size, 4, none⟩) (Nat.le_refl _) (.int .i64 m4)
  have z5 : w1.heap.size ≤ (((((w1.setCell ⟨w.heap.size, 0, none⟩ (.int .i64 m0)).setCell ⟨w.heap.size, 1, none⟩ (.int .i64 m1)).setCell ⟨w.heap.size, 2, none⟩ (.int .i64 m2)).setCell ⟨w.heap.size, 3, none⟩ (.int .i64 m3)).setCell ⟨w.heap.size, 4, none⟩ (.int .i64 m4)).heap.size := (by simp)
  clear hc1 hf1
  generalize (((((w1.setCell ⟨w.heap.size, 0, none⟩ (.int .i64 m0)).setCell ⟨w.heap.size, 1, none⟩ (.int .i64 m1)).setCell ⟨w.heap.size, 2, none⟩ (.int .i64 m2)).setCell ⟨w.heap.size, 3, none⟩ (.int .i64 m3)).setCell ⟨w.heap.size, 4, none⟩ (.int .i64 m4)) = wv at *
  have kv0 : w.heap.size < wv.heap.size := (by omega)
  have kv1 : w.heap.size + 1 < wv.heap.size := (by omega)
  have cv := b5.cell
  have fv := b5.frozen
  have dv := n5.cell
  simp at cv
  go_wp2_with (fail)
  go_at_call 17; refine (next_ok3 _ _ _ _ _ _ (by omega) (by omega)).mono ?_; rintro e w2 ⟨rfl, hb2⟩; obtain ⟨hc2, hf2⟩ := bcell hb2; have hz2 := hb2.size; have k20 : w.heap.size < w2.heap.size := (by omega); have k21 : w.heap.size + 1 < w2.heap.size := (by omega)
  go_wp2_with (fail)
  refine wp_region_wb2 (by kernel_rfl) (by kernel_rfl) ?_
  repeat (go_big_quiet_step ((first | (go_at_call 14; exact wb_of (join_any _ _ _ _ _ _ _ _ _ _ _)) | (go_at_call 15; exact wb_of (lessEq_any _ _ _ _ _ _ _ _ _ _ _)) | (go_at_call 16; exact wb_of (has_any _ _ _ _ _ _ _ _)) | (go_at_call 19; exact wb_of (rhas_any _ _ _ _ _ _ _ _)) | (go_at_call 20; exact wb_of (rjoin_any _ _ _ _ _ _ _ _ _ _ _)) | (go_at_call 21; exact wb_of (rle_any _ _ _ _ _ _ _ _ _ _ _)))))
  refine wpQuiet_nil ?_
  intro w3 hb3; obtain ⟨hc3, hf3⟩ := bcell hb3; have hz3 := hb3.size; simp at hz3; have k30 : w.heap.size < w3.heap.size := (by omega); have k31 : w.heap.size + 1 < w3.heap.size := (by omega); have k32 : w2.heap.size < w3.heap.size := (by omega)
  go_wp2_with (fail)
  refine wp_region_wb2 (by kernel_rfl) (by kernel_rfl) ?_
  repeat (go_big_quiet_step ((first | (go_at_call 16; with_reducible exact wb_of (has_val hB _)) | (go_at_call 16; with_reducible exact wb_of (has_val hA _)))))
  refine wpQuiet_nil ?_
  intro w4 hb4; obtain ⟨hc4, hf4⟩ := bcell hb4; have hz4 := hb4.size; have k40 : w.heap.size < w4.heap.size := (by omega); have k41 : w.heap.size + 1 < w4.heap.size := (by omega); have k42 : w2.heap.size < w4.heap.size := (by omega)
  go_wp2_with (fail)
  go_at_call 17; refine (next_spent3 _ _ _ _ _ _ (by omega)).mono ?_; rintro e w5 ⟨rfl, hb5⟩; obtain ⟨hc5, hf5⟩ := bcell hb5; have hz5 := hb5.size; simp at hz5; have k50 : w.heap.size < w5.heap.size := (by omega); have k51 : w.heap.size + 1 < w5.heap.size := (by omega); have k52 : w2.heap.size < w5.heap.size := (by omega); have k53 : w4.heap.size < w5.heap.size := (by omega)
  go_wp2_with (fail)
  refine wp_region_wb2 (by kernel_rfl) (by kernel_rfl) ?_
  repeat (go_big_quiet_step ((first | (go_at_call 14; exact wb_of (join_any _ _ _ _ _ _ _ _ _ _ _)) | (go_at_call 15; exact wb_of (lessEq_any _ _ _ _ _ _ _ _ _ _ _)) | (go_at_call 16; exact wb_of (has_any _ _ _ _ _ _ _ _)) | (go_at_call 19; exact wb_of (rhas_any _ _ _ _ _ _ _ _)) | (go_at_call 20; exact wb_of (rjoin_any _ _ _ _ _ _ _ _ _ _ _)) | (go_at_call 21; exact wb_of (rle_any _ _ _ _ _ _ _ _ _ _ _)))))
  refine wpQuiet_nil ?_
  intro w6 hb6
  go_wp2_with (fail)
  go_ret
  have B2 : Below w.heap.size w w2 := B5.trans (hb2.mono (by omega))
  have B3 : Below w.heap.size w w3 := (B2.alloc (by omega) _).trans (hb3.mono (by simp; omega))
  have B4 : Below w.heap.size w w4 := B3.trans (hb4.mono (by omega))
  have B6 : Below w.heap.size w w5 := (B4.alloc (by omega) _).trans (hb5.mono (by simp; omega))
  exact ⟨rfl, (B6.alloc (by omega) _).trans (hb6.mono (by simp; omega))⟩

set_option maxHeartbeats 2000000 in
theorem next3_fresh (a0 a1 a2 a3 a4 m0 m1 m2 m3 m4 r : Int) (w : World) (e0 : bits .and .i64 a0 1048575 = m0) (p0 : 0 ≤ m0) (q0 : m0 ≤ 1048575) (e1 : bits .and .i64 a1 1048575 = m1) (p1 : 0 ≤ m1) (q1 : m1 ≤ 1048575) (e2 : bits .and .i64 a2 1048575 = m2) (p2 : 0 ≤ m2) (q2 : m2 ≤ 1048575) (e3 : bits .and .i64 a3 1048575 = m3) (p3 : 0 ≤ m3) (q3 : m3 ≤ 1048575) (e4 : bits .and .i64 a4 1048575 = m4) (p4 : 0 ≤ m4) (q4 : m4 ≤ 1048575) (r0 : 0 ≤ r) (r1 : r ≤ 255) (hk : r % 5 = 3)  :
    Calls Try.prog 7 #[.agg (C5 a0 a1 a2 a3 a4), .int .u8 r, .agg #[.int .i64 3, .int .i64 (m3 + 1)]] w fun e w' => e = .returned (.bool true) ∧ Below w.heap.size w w' := by
  have hA : has5 m0 m1 m2 m3 m4 3 (m3 + 1) = false := by rw [Bool.eq_false_iff, ne_eq, has5_iff]; simp [get5]; omega
  have hB : has5 m0 m1 m2 (m3 + 1) m4 3 (m3 + 1) = true := by rw [has5_iff]; simp [get5]; omega
  have hL : le5 m0 m1 m2 m3 m4 m0 m1 m2 (m3 + 1) m4 = true := by rw [le5_iff]; omega
  have hG : le5 m0 m1 m2 (m3 + 1) m4 m0 m1 m2 m3 m4 = false := by rw [Bool.eq_false_iff, ne_eq, le5_iff]; omega
  go_enter Try.func7, Try.ntmps7
  go_wp2_with (fail)
  go_at_call 13; refine (shown_any _).mono ?_; rintro e w1 ⟨rfl, hb1⟩; obtain ⟨hc1, hf1⟩ := bcell hb1; have hz1 := hb1.size; simp at hz1; have k10 : w.heap.size < w1.heap.size := (by omega); have k11 : w.heap.size + 1 < w1.heap.size := (by omega)
  go_wp2_with (fail)
  refine wp_loop_rounds 6 ?_
  rw [rounds_succ]; go_wp2_with (fail)
  rw [rounds_succ]; go_wp2_with (fail)
  rw [rounds_succ]; go_wp2_with (fail)
  rw [rounds_succ]; go_wp2_with (fail)
  rw [rounds_succ]; go_wp2_with (fail)
  rw [rounds_succ]; go_upto_region 7 with (fail)
  rw [hk]
  have b0 : IsBlk w1 w.heap.size 23 (C5 a0 a1 a2 a3 a4) := (((IsBlk.new w 23 (C5 a0 a1 a2 a3 a4)).alloc _).below hb1 (by simp; omega))
  have b5 := ((((b0.store 0 (.int .i64 m0)).store 1 (.int .i64 m1)).store 2 (.int .i64 m2)).store 3 (.int .i64 m3)).store 4 (.int .i64 m4)
  have n0 : IsBlk w1 (w.heap.size + 1) 29 #[.int .i64 3, .int .i64 (m3 + 1)] := (by simpa using IsBlk.new (w.alloc (.cells (C5 a0 a1 a2 a3 a4) 23)) 29 #[.int .i64 3, .int .i64 (m3 + 1)] : IsBlk _ (w.heap.size + 1) 29 _).below hb1 (by simp)
  have hne1 : w.heap.size + 1 ≠ w.heap.size := (by omega)
  have n5 := ((((n0.other (p := ⟨w.heap.size, 0, none⟩) hne1 (.int .i64 m0)).other (p := ⟨w.heap.size, 1, none⟩) hne1 (.int .i64 m1)).other (p := ⟨w.heap.size, 2, none⟩) hne1 (.int .i64 m2)).other (p := ⟨w.heap.size, 3, none⟩) hne1 (.int .i64 m3)).other (p := ⟨w.heap.size, 4, none⟩) hne1 (.int .i64 m4)
  have B1 : Below w.heap.size w w1 := (((Below.refl w.heap.size w).alloc (Nat.le_refl _) _).alloc (by simp) _).trans (hb1.mono (by simp; omega))
  have B5 := ((((B1.setCell (p := ⟨w.heap.size, 0, none⟩) (Nat.le_refl _) (.int .i64 m0)).setCell (p := ⟨w.heap.size, 1, none⟩) (Nat.le_refl _) (.int .i64 m1)).setCell (p := ⟨w.heap.size, 2, none⟩) (Nat.le_refl _) (.int .i64 m2)).setCell (p := ⟨w.heap.size, 3, none⟩) (Nat.le_refl _) (.int .i64 m3)).setCell (p := ⟨w.heap.size, 4, none⟩) (Nat.le_refl _) (.int .i64 m4)
  have z5 : w1.heap.size ≤ (((((w1.setCell ⟨w.heap.size, 0, none⟩ (.int .i64 m0)).setCell ⟨w.heap.size, 1, none⟩ (.int .i64 m1)).setCell ⟨w.heap.size, 2, none⟩ (.int .i64 m2)).setCell ⟨w.heap.size, 3, none⟩ (.int .i64 m3)).setCell ⟨w.heap.size, 4, none⟩ (.int .i64 m4)).heap.size := (by simp)
  clear hc1 hf1
  generalize (((((w1.setCell ⟨w.heap.size, 0, none⟩ (.int .i64 m0)).setCell ⟨w.heap.size, 1, none⟩ (.int .i64 m1)).setCell ⟨w.heap.size, 2, none⟩ (.int .i64 m2)).setCell ⟨w.heap.size, 3, none⟩ (.int .i64 m3)).setCell ⟨w.heap.size, 4, none⟩ (.int .i64 m4)) = wv at *
  have kv0 : w.heap.size < wv.heap.size := (by omega)
  have kv1 : w.heap.size + 1 < wv.heap.size := (by omega)
  have cv := b5.cell
  have fv := b5.frozen
  have dv := n5.cell
  simp at cv
  go_wp2_with (fail)
  go_at_call 17; refine (next_ok3 _ _ _ _ _ _ (by omega) (by omega)).mono ?_; rintro e w2 ⟨rfl, hb2⟩; obtain ⟨hc2, hf2⟩ := bcell hb2; have hz2 := hb2.size; have k20 : w.heap.size < w2.heap.size := (by omega); have k21 : w.heap.size + 1 < w2.heap.size := (by omega)
  go_wp2_with (fail)
  refine wp_region_wb2 (by kernel_rfl) (by kernel_rfl) ?_
  repeat (go_big_quiet_step ((first | (go_at_call 14; exact wb_of (join_any _ _ _ _ _ _ _ _ _ _ _)) | (go_at_call 15; exact wb_of (lessEq_any _ _ _ _ _ _ _ _ _ _ _)) | (go_at_call 16; exact wb_of (has_any _ _ _ _ _ _ _ _)) | (go_at_call 19; exact wb_of (rhas_any _ _ _ _ _ _ _ _)) | (go_at_call 20; exact wb_of (rjoin_any _ _ _ _ _ _ _ _ _ _ _)) | (go_at_call 21; exact wb_of (rle_any _ _ _ _ _ _ _ _ _ _ _)))))
  refine wpQuiet_nil ?_
  intro w3 hb3; obtain ⟨hc3, hf3⟩ := bcell hb3; have hz3 := hb3.size; simp at hz3; have k30 : w.heap.size < w3.heap.size := (by omega); have k31 : w.heap.size + 1 < w3.heap.size := (by omega); have k32 : w2.heap.size < w3.heap.size := (by omega)
  go_wp2_with (fail)
  refine wp_region_wb2 (by kernel_rfl) (by kernel_rfl) ?_
  repeat (go_big_quiet_step ((first | (go_at_call 16; with_reducible exact wb_of (has_val hB _)) | (go_at_call 16; with_reducible exact wb_of (has_val hA _)))))
  refine wpQuiet_nil ?_
  intro w4 hb4; obtain ⟨hc4, hf4⟩ := bcell hb4; have hz4 := hb4.size; have k40 : w.heap.size < w4.heap.size := (by omega); have k41 : w.heap.size + 1 < w4.heap.size := (by omega); have k42 : w2.heap.size < w4.heap.size := (by omega)
  go_wp2_with (fail)
  go_at_call 17; refine (next_spent3 _ _ _ _ _ _ (by omega)).mono ?_; rintro e w5 ⟨rfl, hb5⟩; obtain ⟨hc5, hf5⟩ := bcell hb5; have hz5 := hb5.size; simp at hz5; have k50 : w.heap.size < w5.heap.size := (by omega); have k51 : w.heap.size + 1 < w5.heap.size := (by omega); have k52 : w2.heap.size < w5.heap.size := (by omega); have k53 : w4.heap.size < w5.heap.size := (by omega)
  go_wp2_with (fail)
  refine wp_region_wb2 (by kernel_rfl) (by kernel_rfl) ?_
  repeat (go_big_quiet_step ((first | (go_at_call 14; exact wb_of (join_any _ _ _ _ _ _ _ _ _ _ _)) | (go_at_call 15; exact wb_of (lessEq_any _ _ _ _ _ _ _ _ _ _ _)) | (go_at_call 16; exact wb_of (has_any _ _ _ _ _ _ _ _)) | (go_at_call 19; exact wb_of (rhas_any _ _ _ _ _ _ _ _)) | (go_at_call 20; exact wb_of (rjoin_any _ _ _ _ _ _ _ _ _ _ _)) | (go_at_call 21; exact wb_of (rle_any _ _ _ _ _ _ _ _ _ _ _)))))
  refine wpQuiet_nil ?_
  intro w6 hb6
  go_wp2_with (fail)
  go_ret
  have B2 : Below w.heap.size w w2 := B5.trans (hb2.mono (by omega))
  have B3 : Below w.heap.size w w3 := (B2.alloc (by omega) _).trans (hb3.mono (by simp; omega))
  have B4 : Below w.heap.size w w4 := B3.trans (hb4.mono (by omega))
  have B6 : Below w.heap.size w w5 := (B4.alloc (by omega) _).trans (hb5.mono (by simp; omega))
  exact ⟨rfl, (B6.alloc (by omega) _).trans (hb6.mono (by simp; omega))⟩

set_option maxHeartbeats 2000000 in
theorem next3_kt (a0 a1 a2 a3 a4 m0 m1 m2 m3 m4 r N : Int) (w : World) (e0 : bits .and .i64 a0 1048575 = m0) (p0 : 0 ≤ m0) (q0 : m0 ≤ 1048575) (e1 : bits .and .i64 a1 1048575 = m1) (p1 : 0 ≤ m1) (q1 : m1 ≤ 1048575) (e2 : bits .and .i64 a2 1048575 = m2) (p2 : 0 ≤ m2) (q2 : m2 ≤ 1048575) (e3 : bits .and .i64 a3 1048575 = m3) (p3 : 0 ≤ m3) (q3 : m3 ≤ 1048575) (e4 : bits .and .i64 a4 1048575 = m4) (p4 : 0 ≤ m4) (q4 : m4 ≤ 1048575) (r0 : 0 ≤ r) (r1 : r ≤ 255) (hk : r % 5 = 3) (hN : (N == m3 + 1) = false) (hA : has5 m0 m1 m2 m3 m4 3 N = true) :
    Calls Try.prog 7 #[.agg (C5 a0 a1 a2 a3 a4), .int .u8 r, .agg #[.int .i64 3, .int .i64 N]] w fun e w' => e = .returned (.bool true) ∧ Below w.heap.size w w' := by
  have hne : N ≠ m3 + 1 := by simpa using hN
  have hB : has5 m0 m1 m2 (m3 + 1) m4 3 N = true := by
    have h0 := hA
    rw [has5_iff] at h0 ⊢
    obtain ⟨z0, z1, z2, z3⟩ := h0
    refine ⟨z0, z1, z2, ?_⟩
    unfold get5 at z3 ⊢
    repeat' split at z3
    all_goals (first | omega | (simp [*]; omega))
  have hL : le5 m0 m1 m2 m3 m4 m0 m1 m2 (m3 + 1) m4 = true := by rw [le5_iff]; omega
  have hG : le5 m0 m1 m2 (m3 + 1) m4 m0 m1 m2 m3 m4 = false := by rw [Bool.eq_false_iff, ne_eq, le5_iff]; omega
  go_enter Try.func7, Try.ntmps7
  go_wp2_with (fail)
  go_at_call 13; refine (shown_any _).mono ?_; rintro e w1 ⟨rfl, hb1⟩; obtain ⟨hc1, hf1⟩ := bcell hb1; have hz1 := hb1.size; simp at hz1; have k10 : w.heap.size < w1.heap.size := (by omega); have k11 : w.heap.size + 1 < w1.heap.size := (by omega)
  go_wp2_with (fail)
  refine wp_loop_rounds 6 ?_
  rw [rounds_succ]; go_wp2_with (fail)
  rw [rounds_succ]; go_wp2_with (fail)
  rw [rounds_succ]; go_wp2_with (fail)
  rw [rounds_succ]; go_wp2_with (fail)
  rw [rounds_succ]; go_wp2_with (fail)
  rw [rounds_succ]; go_upto_region 7 with (fail)
  rw [hk]
  have b0 : IsBlk w1 w.heap.size 23 (C5 a0 a1 a2 a3 a4) := (((IsBlk.new w 23 (C5 a0 a1 a2 a3 a4)).alloc _).below hb1 (by simp; omega))
  have b5 := ((((b0.store 0 (.int .i64 m0)).store 1 (.int .i64 m1)).store 2 (.int .i64 m2)).store 3 (.int .i64 m3)).store 4 (.int .i64 m4)
  have n0 : IsBlk w1 (w.heap.size + 1) 29 #[.int .i64 3, .int .i64 N] := (by simpa using IsBlk.new (w.alloc (.cells (C5 a0 a1 a2 a3 a4) 23)) 29 #[.int .i64 3, .int .i64 N] : IsBlk _ (w.heap.size + 1) 29 _).below hb1 (by simp)
  have hne1 : w.heap.size + 1 ≠ w.heap.size := (by omega)
  have n5 := ((((n0.other (p := ⟨w.heap.size, 0, none⟩) hne1 (.int .i64 m0)).other (p := ⟨w.heap.size, 1, none⟩) hne1 (.int .i64 m1)).other (p := ⟨w.heap.size, 2, none⟩) hne1 (.int .i64 m2)).other (p := ⟨w.heap.size, 3, none⟩) hne1 (.int .i64 m3)).other (p := ⟨w.heap.size, 4, none⟩) hne1 (.int .i64 m4)
  have B1 : Below w.heap.size w w1 := (((Below.refl w.heap.size w).alloc (Nat.le_refl _) _).alloc (by simp) _).trans (hb1.mono (by simp; omega))
  have B5 := ((((B1.setCell (p := ⟨w.heap.size, 0, none⟩) (Nat.le_refl _) (.int .i64 m0)).setCell (p := ⟨w.heap.size, 1, none⟩) (Nat.le_refl _) (.int .i64 m1)).setCell (p := ⟨w.heap.size, 2, none⟩) (Nat.le_refl _) (.int .i64 m2)).setCell (p := ⟨w.heap.size, 3, none⟩) (Nat.le_refl _) (.int .i64 m3)).setCell (p := ⟨w.heap.size, 4, none⟩) (Nat.le_refl _) (.int .i64 m4)
  have z5 : w1.heap.size ≤ (((((w1.setCell ⟨w.heap.size, 0, none⟩ (.int .i64 m0)).setCell ⟨w.heap.size, 1, none⟩ (.int .i64 m1)).setCell ⟨w.heap.size, 2, none⟩ (.int .i64 m2)).setCell ⟨w.heap.size, 3, none⟩ (.int .i64 m3)).setCell ⟨w.heap.size, 4, none⟩ (.int .i64 m4)).heap.size := (by simp)
  clear hc1 hf1
  generalize (((((w1.setCell ⟨w.heap.size, 0, none⟩ (.int .i64 m0)).setCell ⟨w.heap.size, 1, none⟩ (.int .i64 m1)).setCell ⟨w.heap.size, 2, none⟩ (.int .i64 m2)).setCell ⟨w.heap.size, 3, none⟩ (.int .i64 m3)).setCell ⟨w.heap.size, 4, none⟩ (.int .i64 m4)) = wv at *
  have kv0 : w.heap.size < wv.heap.size := (by omega)
  have kv1 : w.heap.size + 1 < wv.heap.size := (by omega)
  have cv := b5.cell
  have fv := b5.frozen
  have dv := n5.cell
  simp at cv
  go_wp2_with (fail)
  go_at_call 17; refine (next_ok3 _ _ _ _ _ _ (by omega) (by omega)).mono ?_; rintro e w2 ⟨rfl, hb2⟩; obtain ⟨hc2, hf2⟩ := bcell hb2; have hz2 := hb2.size; have k20 : w.heap.size < w2.heap.size := (by omega); have k21 : w.heap.size + 1 < w2.heap.size := (by omega)
  go_wp2_with (fail)
  refine wp_region_wb2 (by kernel_rfl) (by kernel_rfl) ?_
  repeat (go_big_quiet_step ((first | (go_at_call 14; exact wb_of (join_any _ _ _ _ _ _ _ _ _ _ _)) | (go_at_call 15; exact wb_of (lessEq_any _ _ _ _ _ _ _ _ _ _ _)) | (go_at_call 16; exact wb_of (has_any _ _ _ _ _ _ _ _)) | (go_at_call 19; exact wb_of (rhas_any _ _ _ _ _ _ _ _)) | (go_at_call 20; exact wb_of (rjoin_any _ _ _ _ _ _ _ _ _ _ _)) | (go_at_call 21; exact wb_of (rle_any _ _ _ _ _ _ _ _ _ _ _)))))
  refine wpQuiet_nil ?_
  intro w3 hb3; obtain ⟨hc3, hf3⟩ := bcell hb3; have hz3 := hb3.size; simp at hz3; have k30 : w.heap.size < w3.heap.size := (by omega); have k31 : w.heap.size + 1 < w3.heap.size := (by omega); have k32 : w2.heap.size < w3.heap.size := (by omega)
  go_wp2_with (fail)
  refine wp_region_wb2 (by kernel_rfl) (by kernel_rfl) ?_
  repeat (go_big_quiet_step ((first | (go_at_call 16; with_reducible exact wb_of (has_val hB _)) | (go_at_call 16; with_reducible exact wb_of (has_val hA _)))))
  refine wpQuiet_nil ?_
  intro w4 hb4; obtain ⟨hc4, hf4⟩ := bcell hb4; have hz4 := hb4.size; have k40 : w.heap.size < w4.heap.size := (by omega); have k41 : w.heap.size + 1 < w4.heap.size := (by omega); have k42 : w2.heap.size < w4.heap.size := (by omega)
  go_wp2_with (fail)
  go_at_call 17; refine (next_spent3 _ _ _ _ _ _ (by omega)).mono ?_; rintro e w5 ⟨rfl, hb5⟩; obtain ⟨hc5, hf5⟩ := bcell hb5; have hz5 := hb5.size; simp at hz5; have k50 : w.heap.size < w5.heap.size := (by omega); have k51 : w.heap.size + 1 < w5.heap.size := (by omega); have k52 : w2.heap.size < w5.heap.size := (by omega); have k53 : w4.heap.size < w5.heap.size := (by omega)
  go_wp2_with (fail)
  refine wp_region_wb2 (by kernel_rfl) (by kernel_rfl) ?_
  repeat (go_big_quiet_step ((first | (go_at_call 14; exact wb_of (join_any _ _ _ _ _ _ _ _ _ _ _)) | (go_at_call 15; exact wb_of (lessEq_any _ _ _ _ _ _ _ _ _ _ _)) | (go_at_call 16; exact wb_of (has_any _ _ _ _ _ _ _ _)) | (go_at_call 19; exact wb_of (rhas_any _ _ _ _ _ _ _ _)) | (go_at_call 20; exact wb_of (rjoin_any _ _ _ _ _ _ _ _ _ _ _)) | (go_at_call 21; exact wb_of (rle_any _ _ _ _ _ _ _ _ _ _ _)))))
  refine wpQuiet_nil ?_
  intro w6 hb6
  go_wp2_with (fail)
  go_ret
  have B2 : Below w.heap.size w w2 := B5.trans (hb2.mono (by omega))
  have B3 : Below w.heap.size w w3 := (B2.alloc (by omega) _).trans (hb3.mono (by simp; omega))
  have B4 : Below w.heap.size w w4 := B3.trans (hb4.mono (by omega))
  have B6 : Below w.heap.size w w5 := (B4.alloc (by omega) _).trans (hb5.mono (by simp; omega))
  exact ⟨rfl, (B6.alloc (by omega) _).trans (hb6.mono (by simp; omega))⟩

set_option maxHeartbeats 2000000 in
theorem next3_kf (a0 a1 a2 a3 a4 m0 m1 m2 m3 m4 r N : Int) (w : World) (e0 : bits .and .i64 a0 1048575 = m0) (p0 : 0 ≤ m0) (q0 : m0 ≤ 1048575) (e1 : bits .and .i64 a1 1048575 = m1) (p1 : 0 ≤ m1) (q1 : m1 ≤ 1048575) (e2 : bits .and .i64 a2 1048575 = m2) (p2 : 0 ≤ m2) (q2 : m2 ≤ 1048575) (e3 : bits .and .i64 a3 1048575 = m3) (p3 : 0 ≤ m3) (q3 : m3 ≤ 1048575) (e4 : bits .and .i64 a4 1048575 = m4) (p4 : 0 ≤ m4) (q4 : m4 ≤ 1048575) (r0 : 0 ≤ r) (r1 : r ≤ 255) (hk : r % 5 = 3) (hN : (N == m3 + 1) = false) (hA : has5 m0 m1 m2 m3 m4 3 N = false) :
    Calls Try.prog 7 #[.agg (C5 a0 a1 a2 a3 a4), .int .u8 r, .agg #[.int .i64 3, .int .i64 N]] w fun e w' => e = .returned (.bool true) ∧ Below w.heap.size w w' := by
  have hne : N ≠ m3 + 1 := by simpa using hN
  have hB : has5 m0 m1 m2 (m3 + 1) m4 3 N = false := by
    have h0 := hA
    rw [Bool.eq_false_iff, ne_eq, has5_iff] at h0 ⊢
    intro ⟨z0, z1, z2, z3⟩
    refine h0 ⟨z0, z1, z2, ?_⟩
    unfold get5 at z3 ⊢
    repeat' split at z3
    all_goals (first | omega | (simp [*]; omega))
  have hL : le5 m0 m1 m2 m3 m4 m0 m1 m2 (m3 + 1) m4 = true := by rw [le5_iff]; omega
  have hG : le5 m0 m1 m2 (m3 + 1) m4 m0 m1 m2 m3 m4 = false := by rw [Bool.eq_false_iff, ne_eq, le5_iff]; omega
  go_enter Try.func7, Try.ntmps7
  go_wp2_with (fail)
  go_at_call 13; refine (shown_any _).mono ?_; rintro e w1 ⟨rfl, hb1⟩; obtain ⟨hc1, hf1⟩ := bcell hb1; have hz1 := hb1.size; simp at hz1; have k10 : w.heap.size < w1.heap.size := (by omega); have k11 : w.heap.size + 1 < w1.heap.size := (by omega)
  go_wp2_with (fail)
  refine wp_loop_rounds 6 ?_
  rw [rounds_succ]; go_wp2_with (fail)
  rw [rounds_succ]; go_wp2_with (fail)
  rw [rounds_succ]; go_wp2_with (fail)
  rw [rounds_succ]; go_wp2_with (fail)
  rw [rounds_succ]; go_wp2_with (fail)
  rw [rounds_succ]; go_upto_region 7 with (fail)
  rw [hk]
  have b0 : IsBlk w1 w.heap.size 23 (C5 a0 a1 a2 a3 a4) := (((IsBlk.new w 23 (C5 a0 a1 a2 a3 a4)).alloc _).below hb1 (by simp; omega))
  have b5 := ((((b0.store 0 (.int .i64 m0)).store 1 (.int .i64 m1)).store 2 (.int .i64 m2)).store 3 (.int .i64 m3)).store 4 (.int .i64 m4)
  have n0 : IsBlk w1 (w.heap.size + 1) 29 #[.int .i64 3, .int .i64 N] := (by simpa using IsBlk.new (w.alloc (.cells (C5 a0 a1 a2 a3 a4) 23)) 29 #[.int .i64 3, .int .i64 N] : IsBlk _ (w.heap.size + 1) 29 _).below hb1 (by simp)
  have hne1 : w.heap.size + 1 ≠ w.heap.size := (by omega)
  have n5 := ((((n0.other (p := ⟨w.heap.size, 0, none⟩) hne1 (.int .i64 m0)).other (p := ⟨w.heap.size, 1, none⟩) hne1 (.int .i64 m1)).other (p := ⟨w.heap.size, 2, none⟩) hne1 (.int .i64 m2)).other (p := ⟨w.heap.size, 3, none⟩) hne1 (.int .i64 m3)).other (p := ⟨w.heap.size, 4, none⟩) hne1 (.int .i64 m4)
  have B1 : Below w.heap.size w w1 := (((Below.refl w.heap.size w).alloc (Nat.le_refl _) _).alloc (by simp) _).trans (hb1.mono (by simp; omega))
  have B5 := ((((B1.setCell (p := ⟨w.heap.size, 0, none⟩) (Nat.le_refl _) (.int .i64 m0)).setCell (p := ⟨w.heap.size, 1, none⟩) (Nat.le_refl _) (.int .i64 m1)).setCell (p := ⟨w.heap.size, 2, none⟩) (Nat.le_refl _) (.int .i64 m2)).setCell (p := ⟨w.heap.size, 3, none⟩) (Nat.le_refl _) (.int .i64 m3)).setCell (p := ⟨w.heap.size, 4, none⟩) (Nat.le_refl _) (.int .i64 m4)
  have z5 : w1.heap.size ≤ (((((w1.setCell ⟨w.heap.size, 0, none⟩ (.int .i64 m0)).setCell ⟨w.heap.size, 1, none⟩ (.int .i64 m1)).setCell ⟨w.heap.size, 2, none⟩ (.int .i64 m2)).setCell ⟨w.heap.size, 3, none⟩ (.int .i64 m3)).setCell ⟨w.heap.size, 4, none⟩ (.int .i64 m4)).heap.size := (by simp)
  clear hc1 hf1
  generalize (((((w1.setCell ⟨w.heap.size, 0, none⟩ (.int .i64 m0)).setCell ⟨w.heap.size, 1, none⟩ (.int .i64 m1)).setCell ⟨w.heap.size, 2, none⟩ (.int .i64 m2)).setCell ⟨w.heap.size, 3, none⟩ (.int .i64 m3)).setCell ⟨w.heap.size, 4, none⟩ (.int .i64 m4)) = wv at *
  have kv0 : w.heap.size < wv.heap.size := (by omega)
  have kv1 : w.heap.size + 1 < wv.heap.size := (by omega)
  have cv := b5.cell
  have fv := b5.frozen
  have dv := n5.cell
  simp at cv
  go_wp2_with (fail)
  go_at_call 17; refine (next_ok3 _ _ _ _ _ _ (by omega) (by omega)).mono ?_; rintro e w2 ⟨rfl, hb2⟩; obtain ⟨hc2, hf2⟩ := bcell hb2; have hz2 := hb2.size; have k20 : w.heap.size < w2.heap.size := (by omega); have k21 : w.heap.size + 1 < w2.heap.size := (by omega)
  go_wp2_with (fail)
  refine wp_region_wb2 (by kernel_rfl) (by kernel_rfl) ?_
  repeat (go_big_quiet_step ((first | (go_at_call 14; exact wb_of (join_any _ _ _ _ _ _ _ _ _ _ _)) | (go_at_call 15; exact wb_of (lessEq_any _ _ _ _ _ _ _ _ _ _ _)) | (go_at_call 16; exact wb_of (has_any _ _ _ _ _ _ _ _)) | (go_at_call 19; exact wb_of (rhas_any _ _ _ _ _ _ _ _)) | (go_at_call 20; exact wb_of (rjoin_any _ _ _ _ _ _ _ _ _ _ _)) | (go_at_call 21; exact wb_of (rle_any _ _ _ _ _ _ _ _ _ _ _)))))
  refine wpQuiet_nil ?_
  intro w3 hb3; obtain ⟨hc3, hf3⟩ := bcell hb3; have hz3 := hb3.size; simp at hz3; have k30 : w.heap.size < w3.heap.size := (by omega); have k31 : w.heap.size + 1 < w3.heap.size := (by omega); have k32 : w2.heap.size < w3.heap.size := (by omega)
  go_wp2_with (fail)
  refine wp_region_wb2 (by kernel_rfl) (by kernel_rfl) ?_
  repeat (go_big_quiet_step ((first | (go_at_call 16; with_reducible exact wb_of (has_val hB _)) | (go_at_call 16; with_reducible exact wb_of (has_val hA _)))))
  refine wpQuiet_nil ?_
  intro w4 hb4; obtain ⟨hc4, hf4⟩ := bcell hb4; have hz4 := hb4.size; have k40 : w.heap.size < w4.heap.size := (by omega); have k41 : w.heap.size + 1 < w4.heap.size := (by omega); have k42 : w2.heap.size < w4.heap.size := (by omega)
  go_wp2_with (fail)
  go_at_call 17; refine (next_spent3 _ _ _ _ _ _ (by omega)).mono ?_; rintro e w5 ⟨rfl, hb5⟩; obtain ⟨hc5, hf5⟩ := bcell hb5; have hz5 := hb5.size; simp at hz5; have k50 : w.heap.size < w5.heap.size := (by omega); have k51 : w.heap.size + 1 < w5.heap.size := (by omega); have k52 : w2.heap.size < w5.heap.size := (by omega); have k53 : w4.heap.size < w5.heap.size := (by omega)
  go_wp2_with (fail)
  refine wp_region_wb2 (by kernel_rfl) (by kernel_rfl) ?_
  repeat (go_big_quiet_step ((first | (go_at_call 14; exact wb_of (join_any _ _ _ _ _ _ _ _ _ _ _)) | (go_at_call 15; exact wb_of (lessEq_any _ _ _ _ _ _ _ _ _ _ _)) | (go_at_call 16; exact wb_of (has_any _ _ _ _ _ _ _ _)) | (go_at_call 19; exact wb_of (rhas_any _ _ _ _ _ _ _ _)) | (go_at_call 20; exact wb_of (rjoin_any _ _ _ _ _ _ _ _ _ _ _)) | (go_at_call 21; exact wb_of (rle_any _ _ _ _ _ _ _ _ _ _ _)))))
  refine wpQuiet_nil ?_
  intro w6 hb6
  go_wp2_with (fail)
  go_ret
  have B2 : Below w.heap.size w w2 := B5.trans (hb2.mono (by omega))
  have B3 : Below w.heap.size w w3 := (B2.alloc (by omega) _).trans (hb3.mono (by simp; omega))
  have B4 : Below w.heap.size w w4 := B3.trans (hb4.mono (by omega))
  have B6 : Below w.heap.size w w5 := (B4.alloc (by omega) _).trans (hb5.mono (by simp; omega))
  exact ⟨rfl, (B6.alloc (by omega) _).trans (hb6.mono (by simp; omega))⟩
end Go.Proofs.Ytpmbmplohglocaa

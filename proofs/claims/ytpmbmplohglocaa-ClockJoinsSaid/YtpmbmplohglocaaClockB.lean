import Derived.Test.YtpmbmplohglocaaClockA
namespace Go.Proofs.Ytpmbmplohglocaa
open Go.RowKit
attribute [local go_sem high] run_max_mx
attribute [local go_sem] WB.cell WB.frozen run_eq_c5
theorem eq5_self (a0 a1 a2 a3 a4 : Int) : eq5 a0 a1 a2 a3 a4 a0 a1 a2 a3 a4 = true := by rw [eq5_iff]; exact ⟨rfl, rfl, rfl, rfl, rfl⟩
attribute [local go_sem] eq5_self

set_option maxHeartbeats 1000000 in
theorem joins_n1 (a0 a1 a2 a3 a4 b0 b1 b2 b3 b4 c0 c1 c2 c3 c4 : Int) (w : World) (h : le5 a0 a1 a2 a3 a4 c0 c1 c2 c3 c4 = false) :
    Calls Try.prog 3 #[.agg (C5 a0 a1 a2 a3 a4), .agg (C5 b0 b1 b2 b3 b4), .agg (C5 c0 c1 c2 c3 c4)] w fun e w' => e = .returned (.bool true) ∧ Below w.heap.size w w' := by
  have f1 : eq5 (max a0 b0) (max a1 b1) (max a2 b2) (max a3 b3) (max a4 b4) (max b0 a0) (max b1 a1) (max b2 a2) (max b3 a3) (max b4 a4) = true := by rw [eq5_iff]; omega
  have f4 : le5 a0 a1 a2 a3 a4 (max a0 b0) (max a1 b1) (max a2 b2) (max a3 b3) (max a4 b4) = true := by rw [le5_iff]; omega
  have f5 : le5 b0 b1 b2 b3 b4 (max a0 b0) (max a1 b1) (max a2 b2) (max a3 b3) (max a4 b4) = true := by rw [le5_iff]; omega
  have f6 := le5_of_max a0 a1 a2 a3 a4 b0 b1 b2 b3 b4
  go_enter Try.func3, Try.ntmps3
  go_wp2_with (fail)
  go_at_call 13; refine (shown_any _).mono ?_; rintro e w1 ⟨rfl, hb1⟩; obtain ⟨hc1, hf1⟩ := bcell hb1; have hz1 := hb1.size; simp at hz1; have k10 : w.heap.size < w1.heap.size := (by omega); have k11 : w.heap.size + 1 < w1.heap.size := (by omega); have k12 : w.heap.size + 1 + 1 < w1.heap.size := (by omega)
  go_wp2_with (fail)
  go_at_call 14; refine (join_any _ _ _ _ _ _ _ _ _ _ _).mono ?_; rintro e w2 ⟨rfl, hb2⟩; obtain ⟨hc2, hf2⟩ := bcell hb2; have hz2 := hb2.size; have k20 : w.heap.size < w2.heap.size := (by omega); have k21 : w.heap.size + 1 < w2.heap.size := (by omega); have k22 : w.heap.size + 1 + 1 < w2.heap.size := (by omega)
  go_wp2_with (fail)
  go_at_call 15; refine (lessEq_any _ _ _ _ _ _ _ _ _ _ _).mono ?_; rintro e w3 ⟨rfl, hb3⟩; obtain ⟨hc3, hf3⟩ := bcell hb3; have hz3 := hb3.size; simp at hz3; have k30 : w.heap.size < w3.heap.size := (by omega); have k31 : w.heap.size + 1 < w3.heap.size := (by omega); have k32 : w.heap.size + 1 + 1 < w3.heap.size := (by omega); have k33 : w2.heap.size < w3.heap.size := (by omega)
  go_wp2_with (fail)
  refine wp_region_wb (by kernel_rfl) (by kernel_rfl) ?_
  repeat (go_big_quiet_step ((first | (go_at_call 14; exact wb_of (join_any _ _ _ _ _ _ _ _ _ _ _)) | (go_at_call 15; exact wb_of (lessEq_any _ _ _ _ _ _ _ _ _ _ _)))))
  refine wpQuiet_nil ?_
  intro _ hw'
  obtain ⟨u1, hw''⟩ := hw'
  subst hw''
  go_wp2
  go_ret
  have B1 : Below w.heap.size w w1 := ((((Below.refl w.heap.size w).alloc (Nat.le_refl _) _).alloc (by simp) _).alloc (by simp; omega) _).trans (hb1.mono (by simp; omega))
  have B2 : Below w.heap.size w w2 := B1.trans (hb2.mono (by omega))
  have B3 : Below w.heap.size w w3 := (B2.alloc (by omega) _).trans (hb3.mono (by simp; omega))
  exact ⟨rfl, B3.trans (u1.2.mono (by omega))⟩

set_option maxHeartbeats 1000000 in
theorem joins_n2 (a0 a1 a2 a3 a4 b0 b1 b2 b3 b4 c0 c1 c2 c3 c4 : Int) (w : World) (h : le5 a0 a1 a2 a3 a4 c0 c1 c2 c3 c4 = true) (h2 : le5 b0 b1 b2 b3 b4 c0 c1 c2 c3 c4 = false) :
    Calls Try.prog 3 #[.agg (C5 a0 a1 a2 a3 a4), .agg (C5 b0 b1 b2 b3 b4), .agg (C5 c0 c1 c2 c3 c4)] w fun e w' => e = .returned (.bool true) ∧ Below w.heap.size w w' := by
  have f1 : eq5 (max a0 b0) (max a1 b1) (max a2 b2) (max a3 b3) (max a4 b4) (max b0 a0) (max b1 a1) (max b2 a2) (max b3 a3) (max b4 a4) = true := by rw [eq5_iff]; omega
  have f4 : le5 a0 a1 a2 a3 a4 (max a0 b0) (max a1 b1) (max a2 b2) (max a3 b3) (max a4 b4) = true := by rw [le5_iff]; omega
  have f5 : le5 b0 b1 b2 b3 b4 (max a0 b0) (max a1 b1) (max a2 b2) (max a3 b3) (max a4 b4) = true := by rw [le5_iff]; omega
  have f6 := le5_of_max a0 a1 a2 a3 a4 b0 b1 b2 b3 b4
  go_enter Try.func3, Try.ntmps3
  go_wp2_with (fail)
  go_at_call 13; refine (shown_any _).mono ?_; rintro e w1 ⟨rfl, hb1⟩; obtain ⟨hc1, hf1⟩ := bcell hb1; have hz1 := hb1.size; simp at hz1; have k10 : w.heap.size < w1.heap.size := (by omega); have k11 : w.heap.size + 1 < w1.heap.size := (by omega); have k12 : w.heap.size + 1 + 1 < w1.heap.size := (by omega)
  go_wp2_with (fail)
  go_at_call 14; refine (join_any _ _ _ _ _ _ _ _ _ _ _).mono ?_; rintro e w2 ⟨rfl, hb2⟩; obtain ⟨hc2, hf2⟩ := bcell hb2; have hz2 := hb2.size; have k20 : w.heap.size < w2.heap.size := (by omega); have k21 : w.heap.size + 1 < w2.heap.size := (by omega); have k22 : w.heap.size + 1 + 1 < w2.heap.size := (by omega)
  go_wp2_with (fail)
  go_at_call 15; refine (lessEq_any _ _ _ _ _ _ _ _ _ _ _).mono ?_; rintro e w3 ⟨rfl, hb3⟩; obtain ⟨hc3, hf3⟩ := bcell hb3; have hz3 := hb3.size; simp at hz3; have k30 : w.heap.size < w3.heap.size := (by omega); have k31 : w.heap.size + 1 < w3.heap.size := (by omega); have k32 : w.heap.size + 1 + 1 < w3.heap.size := (by omega); have k33 : w2.heap.size < w3.heap.size := (by omega)
  go_wp2_with (fail)
  go_at_call 15; refine (lessEq_any _ _ _ _ _ _ _ _ _ _ _).mono ?_; rintro e w4 ⟨rfl, hb4⟩; obtain ⟨hc4, hf4⟩ := bcell hb4; have hz4 := hb4.size; have k40 : w.heap.size < w4.heap.size := (by omega); have k41 : w.heap.size + 1 < w4.heap.size := (by omega); have k42 : w.heap.size + 1 + 1 < w4.heap.size := (by omega); have k43 : w2.heap.size < w4.heap.size := (by omega)
  go_wp2_with (fail)
  refine wp_region_wb (by kernel_rfl) (by kernel_rfl) ?_
  repeat (go_big_quiet_step ((first | (go_at_call 14; exact wb_of (join_any _ _ _ _ _ _ _ _ _ _ _)) | (go_at_call 15; exact wb_of (lessEq_any _ _ _ _ _ _ _ _ _ _ _)))))
  refine wpQuiet_nil ?_
  intro _ hw'
  obtain ⟨u1, hw''⟩ := hw'
  subst hw''
  go_wp2
  go_ret
  have B1 : Below w.heap.size w w1 := ((((Below.refl w.heap.size w).alloc (Nat.le_refl _) _).alloc (by simp) _).alloc (by simp; omega) _).trans (hb1.mono (by simp; omega))
  have B2 : Below w.heap.size w w2 := B1.trans (hb2.mono (by omega))
  have B3 : Below w.heap.size w w3 := (B2.alloc (by omega) _).trans (hb3.mono (by simp; omega))
  have B4 : Below w.heap.size w w4 := B3.trans (hb4.mono (by omega))
  exact ⟨rfl, B4.trans (u1.2.mono (by omega))⟩

set_option maxHeartbeats 1000000 in
theorem joins_y (a0 a1 a2 a3 a4 b0 b1 b2 b3 b4 c0 c1 c2 c3 c4 : Int) (w : World) (h : le5 a0 a1 a2 a3 a4 c0 c1 c2 c3 c4 = true) (h2 : le5 b0 b1 b2 b3 b4 c0 c1 c2 c3 c4 = true) (h3 : le5 (max a0 b0) (max a1 b1) (max a2 b2) (max a3 b3) (max a4 b4) c0 c1 c2 c3 c4 = true) :
    Calls Try.prog 3 #[.agg (C5 a0 a1 a2 a3 a4), .agg (C5 b0 b1 b2 b3 b4), .agg (C5 c0 c1 c2 c3 c4)] w fun e w' => e = .returned (.bool true) ∧ Below w.heap.size w w' := by
  have f1 : eq5 (max a0 b0) (max a1 b1) (max a2 b2) (max a3 b3) (max a4 b4) (max b0 a0) (max b1 a1) (max b2 a2) (max b3 a3) (max b4 a4) = true := by rw [eq5_iff]; omega
  have f4 : le5 a0 a1 a2 a3 a4 (max a0 b0) (max a1 b1) (max a2 b2) (max a3 b3) (max a4 b4) = true := by rw [le5_iff]; omega
  have f5 : le5 b0 b1 b2 b3 b4 (max a0 b0) (max a1 b1) (max a2 b2) (max a3 b3) (max a4 b4) = true := by rw [le5_iff]; omega
  have f6 := le5_of_max a0 a1 a2 a3 a4 b0 b1 b2 b3 b4
  go_enter Try.func3, Try.ntmps3
  go_wp2_with (fail)
  go_at_call 13; refine (shown_any _).mono ?_; rintro e w1 ⟨rfl, hb1⟩; obtain ⟨hc1, hf1⟩ := bcell hb1; have hz1 := hb1.size; simp at hz1; have k10 : w.heap.size < w1.heap.size := (by omega); have k11 : w.heap.size + 1 < w1.heap.size := (by omega); have k12 : w.heap.size + 1 + 1 < w1.heap.size := (by omega)
  go_wp2_with (fail)
  go_at_call 14; refine (join_any _ _ _ _ _ _ _ _ _ _ _).mono ?_; rintro e w2 ⟨rfl, hb2⟩; obtain ⟨hc2, hf2⟩ := bcell hb2; have hz2 := hb2.size; have k20 : w.heap.size < w2.heap.size := (by omega); have k21 : w.heap.size + 1 < w2.heap.size := (by omega); have k22 : w.heap.size + 1 + 1 < w2.heap.size := (by omega)
  go_wp2_with (fail)
  go_at_call 15; refine (lessEq_any _ _ _ _ _ _ _ _ _ _ _).mono ?_; rintro e w3 ⟨rfl, hb3⟩; obtain ⟨hc3, hf3⟩ := bcell hb3; have hz3 := hb3.size; simp at hz3; have k30 : w.heap.size < w3.heap.size := (by omega); have k31 : w.heap.size + 1 < w3.heap.size := (by omega); have k32 : w.heap.size + 1 + 1 < w3.heap.size := (by omega); have k33 : w2.heap.size < w3.heap.size := (by omega)
  go_wp2_with (fail)
  go_at_call 15; refine (lessEq_any _ _ _ _ _ _ _ _ _ _ _).mono ?_; rintro e w4 ⟨rfl, hb4⟩; obtain ⟨hc4, hf4⟩ := bcell hb4; have hz4 := hb4.size; have k40 : w.heap.size < w4.heap.size := (by omega); have k41 : w.heap.size + 1 < w4.heap.size := (by omega); have k42 : w.heap.size + 1 + 1 < w4.heap.size := (by omega); have k43 : w2.heap.size < w4.heap.size := (by omega)
  go_wp2_with (fail)
  go_at_call 15; refine (lessEq_any _ _ _ _ _ _ _ _ _ _ _).mono ?_; rintro e w5 ⟨rfl, hb5⟩; obtain ⟨hc5, hf5⟩ := bcell hb5; have hz5 := hb5.size; have k50 : w.heap.size < w5.heap.size := (by omega); have k51 : w.heap.size + 1 < w5.heap.size := (by omega); have k52 : w.heap.size + 1 + 1 < w5.heap.size := (by omega); have k53 : w2.heap.size < w5.heap.size := (by omega)
  go_wp2_with (fail)
  refine wp_region_wb (by kernel_rfl) (by kernel_rfl) ?_
  repeat (go_big_quiet_step ((first | (go_at_call 14; exact wb_of (join_any _ _ _ _ _ _ _ _ _ _ _)) | (go_at_call 15; exact wb_of (lessEq_any _ _ _ _ _ _ _ _ _ _ _)))))
  refine wpQuiet_nil ?_
  intro _ hw'
  obtain ⟨u1, hw''⟩ := hw'
  subst hw''
  go_wp2
  go_ret
  have B1 : Below w.heap.size w w1 := ((((Below.refl w.heap.size w).alloc (Nat.le_refl _) _).alloc (by simp) _).alloc (by simp; omega) _).trans (hb1.mono (by simp; omega))
  have B2 : Below w.heap.size w w2 := B1.trans (hb2.mono (by omega))
  have B3 : Below w.heap.size w w3 := (B2.alloc (by omega) _).trans (hb3.mono (by simp; omega))
  have B4 : Below w.heap.size w w4 := B3.trans (hb4.mono (by omega))
  have B5 : Below w.heap.size w w5 := B4.trans (hb5.mono (by omega))
  exact ⟨rfl, B5.trans (u1.2.mono (by omega))⟩

theorem joins_any (a0 a1 a2 a3 a4 b0 b1 b2 b3 b4 c0 c1 c2 c3 c4 : Int) (w : World) :
    Calls Try.prog 3 #[.agg (C5 a0 a1 a2 a3 a4), .agg (C5 b0 b1 b2 b3 b4), .agg (C5 c0 c1 c2 c3 c4)] w fun e w' => e = .returned (.bool true) ∧ Below w.heap.size w w' := by
  cases h : le5 a0 a1 a2 a3 a4 c0 c1 c2 c3 c4
  · exact joins_n1 _ _ _ _ _ _ _ _ _ _ _ _ _ _ _ w h
  · cases h2 : le5 b0 b1 b2 b3 b4 c0 c1 c2 c3 c4
    · exact joins_n2 _ _ _ _ _ _ _ _ _ _ _ _ _ _ _ w h h2
    · refine joins_y _ _ _ _ _ _ _ _ _ _ _ _ _ _ _ w h h2 ?_
      rw [le5_iff] at h h2 ⊢
      omega

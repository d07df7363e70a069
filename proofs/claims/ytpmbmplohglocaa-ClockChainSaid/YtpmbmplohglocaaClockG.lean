import Derived.Test.YtpmbmplohglocaaClockF
namespace Go.Proofs.Ytpmbmplohglocaa
open Go.RowKit
attribute [local go_sem high] run_max_mx
attribute [local go_sem] WB.cell WB.frozen run_eq_c5

theorem and_le (R : Int) (m : Nat) (hm : m < 4611686018427387904) : 0 ≤ bits .and .i64 R (m : Int) ∧ bits .and .i64 R (m : Int) ≤ m := by
  have h1 : (BitVec.ofInt 64 (m : Int)).toNat = m := by
    rw [BitVec.ofInt_natCast, BitVec.toNat_ofNat]; exact Nat.mod_eq_of_lt (by omega)
  have h2 : (BitVec.ofInt 64 R &&& BitVec.ofInt 64 (m : Int)).toNat ≤ m := by
    rw [BitVec.toNat_and, h1]; exact Nat.and_le_right
  have h3 : bits .and .i64 R (m : Int) = IntKind.i64.wrap ((BitVec.ofInt 64 R &&& BitVec.ofInt 64 (m : Int)).toNat : Int) := rfl
  rw [h3, IntKind.wrap_i64]
  omega
theorem and_lit (R : Int) : 0 ≤ bits .and .i64 R 1023 ∧ bits .and .i64 R 1023 ≤ 1023 := and_le R 1023 (by omega)
theorem has5_off (a0 a1 a2 a3 a4 r n : Int) (h : r < 0 ∨ 5 ≤ r) : has5 a0 a1 a2 a3 a4 r n = false := by
  unfold has5; rw [decide_eq_false_iff_not]; omega
theorem has5_zero (a0 a1 a2 a3 a4 r n : Int) (h : n ≤ 0) : has5 a0 a1 a2 a3 a4 r n = false := by
  unfold has5; rw [decide_eq_false_iff_not]; omega
theorem low_neg (R : Int) : wrap64 (-1 - bits .and .i64 R 1023) < 0 := by
  have := and_lit R
  generalize bits .and .i64 R 1023 = z at this
  unfold wrap64; omega
theorem low_big (R : Int) : 5 ≤ wrap64 (5 + bits .and .i64 R 1023) := by
  have := and_lit R
  generalize bits .and .i64 R 1023 = z at this
  unfold wrap64; omega
theorem get5_max (a0 a1 a2 a3 a4 b0 b1 b2 b3 b4 r : Int) : get5 (max a0 b0) (max a1 b1) (max a2 b2) (max a3 b3) (max a4 b4) r = max (get5 a0 a1 a2 a3 a4 r) (get5 b0 b1 b2 b3 b4 r) := by
  unfold get5; repeat' split
  all_goals rfl
theorem has5_max (a0 a1 a2 a3 a4 b0 b1 b2 b3 b4 r n : Int) : has5 (max a0 b0) (max a1 b1) (max a2 b2) (max a3 b3) (max a4 b4) r n = (has5 a0 a1 a2 a3 a4 r n || has5 b0 b1 b2 b3 b4 r n) := by
  rw [Bool.eq_iff_iff, Bool.or_eq_true, has5_iff, has5_iff, has5_iff, get5_max]; omega
theorem get5_le (a0 a1 a2 a3 a4 b0 b1 b2 b3 b4 r : Int) (h : le5 a0 a1 a2 a3 a4 b0 b1 b2 b3 b4 = true) : get5 a0 a1 a2 a3 a4 r ≤ get5 b0 b1 b2 b3 b4 r := by
  rw [le5_iff] at h
  unfold get5; repeat' split
  all_goals omega
theorem has5_le (a0 a1 a2 a3 a4 b0 b1 b2 b3 b4 r n : Int) (h : le5 a0 a1 a2 a3 a4 b0 b1 b2 b3 b4 = true) (h1 : has5 a0 a1 a2 a3 a4 r n = true) : has5 b0 b1 b2 b3 b4 r n = true := by
  have := get5_le a0 a1 a2 a3 a4 b0 b1 b2 b3 b4 r h
  rw [has5_iff] at h1 ⊢; omega

set_option maxHeartbeats 1000000 in
theorem has_tt (a0 a1 a2 a3 a4 b0 b1 b2 b3 b4 R N : Int) (w : World) (h1 : has5 a0 a1 a2 a3 a4 R N = true) (h2 : has5 b0 b1 b2 b3 b4 R N = true) :
    Calls Try.prog 4 #[.agg (C5 a0 a1 a2 a3 a4), .agg (C5 b0 b1 b2 b3 b4), .agg #[.int .i64 R, .int .i64 N]] w fun e w' => e = .returned (.bool true) ∧ Below w.heap.size w w' := by
  have h3 : has5 (max a0 b0) (max a1 b1) (max a2 b2) (max a3 b3) (max a4 b4) R N = true := by rw [has5_max, h1, h2]; rfl
  have h4 : has5 a0 a1 a2 a3 a4 R 0 = false := has5_zero a0 a1 a2 a3 a4 R 0 (Int.le_refl _)
  have h6 : has5 a0 a1 a2 a3 a4 (wrap64 (-1 - bits .and .i64 R 1023)) N = false := has5_off a0 a1 a2 a3 a4 _ _ (.inl (low_neg R))
  have h7 : has5 a0 a1 a2 a3 a4 (wrap64 (5 + bits .and .i64 R 1023)) N = false := has5_off a0 a1 a2 a3 a4 _ _ (.inr (low_big R))
  go_enter Try.func4, Try.ntmps4
  go_wp2_with (fail)
  go_at_call 13; refine (shown_any _).mono ?_; rintro e w1 ⟨rfl, hb1⟩; obtain ⟨hc1, hf1⟩ := bcell hb1; have hz1 := hb1.size; simp at hz1; have k10 : w.heap.size < w1.heap.size := (by omega); have k11 : w.heap.size + 1 < w1.heap.size := (by omega); have k12 : w.heap.size + 1 + 1 < w1.heap.size := (by omega)
  go_wp2_with (fail)
  go_at_call 16; refine (has_any _ _ _ _ _ _ _ _).mono ?_; rintro e w2 ⟨rfl, hb2⟩; obtain ⟨hc2, hf2⟩ := bcell hb2; have hz2 := hb2.size; have k20 : w.heap.size < w2.heap.size := (by omega); have k21 : w.heap.size + 1 < w2.heap.size := (by omega); have k22 : w.heap.size + 1 + 1 < w2.heap.size := (by omega)
  go_wp2_with (fail)
  go_at_call 16; refine (has_any _ _ _ _ _ _ _ _).mono ?_; rintro e w3 ⟨rfl, hb3⟩; obtain ⟨hc3, hf3⟩ := bcell hb3; have hz3 := hb3.size; have k30 : w.heap.size < w3.heap.size := (by omega); have k31 : w.heap.size + 1 < w3.heap.size := (by omega); have k32 : w.heap.size + 1 + 1 < w3.heap.size := (by omega)
  go_wp2_with (fail)
  refine wp_region_wb (by kernel_rfl) (by kernel_rfl) ?_
  repeat (go_big_quiet_step ((first | (go_at_call 14; exact wb_of (join_any _ _ _ _ _ _ _ _ _ _ _)) | (go_at_call 15; exact wb_of (lessEq_any _ _ _ _ _ _ _ _ _ _ _)) | (go_at_call 16; exact wb_of (has_any _ _ _ _ _ _ _ _)) | (go_at_call 19; exact wb_of (rhas_any _ _ _ _ _ _ _ _)) | (go_at_call 20; exact wb_of (rjoin_any _ _ _ _ _ _ _ _ _ _ _)) | (go_at_call 21; exact wb_of (rle_any _ _ _ _ _ _ _ _ _ _ _)))))
  refine wpQuiet_nil ?_
  intro _ hw'
  obtain ⟨u1, hw''⟩ := hw'
  subst hw''
  go_wp2
  go_ret
  have B1 : Below w.heap.size w w1 := ((((Below.refl w.heap.size w).alloc (Nat.le_refl _) _).alloc (by simp) _).alloc (by simp; omega) _).trans (hb1.mono (by simp; omega))
  have B2 : Below w.heap.size w w2 := B1.trans (hb2.mono (by omega))
  have B3 : Below w.heap.size w w3 := B2.trans (hb3.mono (by omega))
  exact ⟨rfl, B3.trans (u1.2.mono (by omega))⟩

set_option maxHeartbeats 1000000 in
theorem has_tf (a0 a1 a2 a3 a4 b0 b1 b2 b3 b4 R N : Int) (w : World) (h1 : has5 a0 a1 a2 a3 a4 R N = true) (h2 : has5 b0 b1 b2 b3 b4 R N = false) :
    Calls Try.prog 4 #[.agg (C5 a0 a1 a2 a3 a4), .agg (C5 b0 b1 b2 b3 b4), .agg #[.int .i64 R, .int .i64 N]] w fun e w' => e = .returned (.bool true) ∧ Below w.heap.size w w' := by
  have h3 : has5 (max a0 b0) (max a1 b1) (max a2 b2) (max a3 b3) (max a4 b4) R N = true := by rw [has5_max, h1, h2]; rfl
  have h4 : has5 a0 a1 a2 a3 a4 R 0 = false := has5_zero a0 a1 a2 a3 a4 R 0 (Int.le_refl _)
  have h6 : has5 a0 a1 a2 a3 a4 (wrap64 (-1 - bits .and .i64 R 1023)) N = false := has5_off a0 a1 a2 a3 a4 _ _ (.inl (low_neg R))
  have h7 : has5 a0 a1 a2 a3 a4 (wrap64 (5 + bits .and .i64 R 1023)) N = false := has5_off a0 a1 a2 a3 a4 _ _ (.inr (low_big R))
  have h5 : le5 a0 a1 a2 a3 a4 b0 b1 b2 b3 b4 = false := by
    rw [Bool.eq_false_iff]; intro h; have := has5_le a0 a1 a2 a3 a4 b0 b1 b2 b3 b4 R N h h1; rw [h2] at this; cases this
  go_enter Try.func4, Try.ntmps4
  go_wp2_with (fail)
  go_at_call 13; refine (shown_any _).mono ?_; rintro e w1 ⟨rfl, hb1⟩; obtain ⟨hc1, hf1⟩ := bcell hb1; have hz1 := hb1.size; simp at hz1; have k10 : w.heap.size < w1.heap.size := (by omega); have k11 : w.heap.size + 1 < w1.heap.size := (by omega); have k12 : w.heap.size + 1 + 1 < w1.heap.size := (by omega)
  go_wp2_with (fail)
  go_at_call 16; refine (has_any _ _ _ _ _ _ _ _).mono ?_; rintro e w2 ⟨rfl, hb2⟩; obtain ⟨hc2, hf2⟩ := bcell hb2; have hz2 := hb2.size; have k20 : w.heap.size < w2.heap.size := (by omega); have k21 : w.heap.size + 1 < w2.heap.size := (by omega); have k22 : w.heap.size + 1 + 1 < w2.heap.size := (by omega)
  go_wp2_with (fail)
  go_at_call 16; refine (has_any _ _ _ _ _ _ _ _).mono ?_; rintro e w3 ⟨rfl, hb3⟩; obtain ⟨hc3, hf3⟩ := bcell hb3; have hz3 := hb3.size; have k30 : w.heap.size < w3.heap.size := (by omega); have k31 : w.heap.size + 1 < w3.heap.size := (by omega); have k32 : w.heap.size + 1 + 1 < w3.heap.size := (by omega)
  go_wp2_with (fail)
  refine wp_region_wb (by kernel_rfl) (by kernel_rfl) ?_
  repeat (go_big_quiet_step ((first | (go_at_call 14; exact wb_of (join_any _ _ _ _ _ _ _ _ _ _ _)) | (go_at_call 15; exact wb_of (lessEq_any _ _ _ _ _ _ _ _ _ _ _)) | (go_at_call 16; exact wb_of (has_any _ _ _ _ _ _ _ _)) | (go_at_call 19; exact wb_of (rhas_any _ _ _ _ _ _ _ _)) | (go_at_call 20; exact wb_of (rjoin_any _ _ _ _ _ _ _ _ _ _ _)) | (go_at_call 21; exact wb_of (rle_any _ _ _ _ _ _ _ _ _ _ _)))))
  refine wpQuiet_nil ?_
  intro _ hw'
  obtain ⟨u1, hw''⟩ := hw'
  subst hw''
  go_wp2
  go_ret
  have B1 : Below w.heap.size w w1 := ((((Below.refl w.heap.size w).alloc (Nat.le_refl _) _).alloc (by simp) _).alloc (by simp; omega) _).trans (hb1.mono (by simp; omega))
  have B2 : Below w.heap.size w w2 := B1.trans (hb2.mono (by omega))
  have B3 : Below w.heap.size w w3 := B2.trans (hb3.mono (by omega))
  exact ⟨rfl, B3.trans (u1.2.mono (by omega))⟩

set_option maxHeartbeats 1000000 in
theorem has_ft (a0 a1 a2 a3 a4 b0 b1 b2 b3 b4 R N : Int) (w : World) (h1 : has5 a0 a1 a2 a3 a4 R N = false) (h2 : has5 b0 b1 b2 b3 b4 R N = true) :
    Calls Try.prog 4 #[.agg (C5 a0 a1 a2 a3 a4), .agg (C5 b0 b1 b2 b3 b4), .agg #[.int .i64 R, .int .i64 N]] w fun e w' => e = .returned (.bool true) ∧ Below w.heap.size w w' := by
  have h3 : has5 (max a0 b0) (max a1 b1) (max a2 b2) (max a3 b3) (max a4 b4) R N = true := by rw [has5_max, h1, h2]; rfl
  have h4 : has5 a0 a1 a2 a3 a4 R 0 = false := has5_zero a0 a1 a2 a3 a4 R 0 (Int.le_refl _)
  have h6 : has5 a0 a1 a2 a3 a4 (wrap64 (-1 - bits .and .i64 R 1023)) N = false := has5_off a0 a1 a2 a3 a4 _ _ (.inl (low_neg R))
  have h7 : has5 a0 a1 a2 a3 a4 (wrap64 (5 + bits .and .i64 R 1023)) N = false := has5_off a0 a1 a2 a3 a4 _ _ (.inr (low_big R))
  go_enter Try.func4, Try.ntmps4
  go_wp2_with (fail)
  go_at_call 13; refine (shown_any _).mono ?_; rintro e w1 ⟨rfl, hb1⟩; obtain ⟨hc1, hf1⟩ := bcell hb1; have hz1 := hb1.size; simp at hz1; have k10 : w.heap.size < w1.heap.size := (by omega); have k11 : w.heap.size + 1 < w1.heap.size := (by omega); have k12 : w.heap.size + 1 + 1 < w1.heap.size := (by omega)
  go_wp2_with (fail)
  go_at_call 16; refine (has_any _ _ _ _ _ _ _ _).mono ?_; rintro e w2 ⟨rfl, hb2⟩; obtain ⟨hc2, hf2⟩ := bcell hb2; have hz2 := hb2.size; have k20 : w.heap.size < w2.heap.size := (by omega); have k21 : w.heap.size + 1 < w2.heap.size := (by omega); have k22 : w.heap.size + 1 + 1 < w2.heap.size := (by omega)
  go_wp2_with (fail)
  go_at_call 16; refine (has_any _ _ _ _ _ _ _ _).mono ?_; rintro e w3 ⟨rfl, hb3⟩; obtain ⟨hc3, hf3⟩ := bcell hb3; have hz3 := hb3.size; have k30 : w.heap.size < w3.heap.size := (by omega); have k31 : w.heap.size + 1 < w3.heap.size := (by omega); have k32 : w.heap.size + 1 + 1 < w3.heap.size := (by omega)
  go_wp2_with (fail)
  refine wp_region_wb (by kernel_rfl) (by kernel_rfl) ?_
  repeat (go_big_quiet_step ((first | (go_at_call 14; exact wb_of (join_any _ _ _ _ _ _ _ _ _ _ _)) | (go_at_call 15; exact wb_of (lessEq_any _ _ _ _ _ _ _ _ _ _ _)) | (go_at_call 16; exact wb_of (has_any _ _ _ _ _ _ _ _)) | (go_at_call 19; exact wb_of (rhas_any _ _ _ _ _ _ _ _)) | (go_at_call 20; exact wb_of (rjoin_any _ _ _ _ _ _ _ _ _ _ _)) | (go_at_call 21; exact wb_of (rle_any _ _ _ _ _ _ _ _ _ _ _)))))
  refine wpQuiet_nil ?_
  intro _ hw'
  obtain ⟨u1, hw''⟩ := hw'
  subst hw''
  go_wp2
  go_ret
  have B1 : Below w.heap.size w w1 := ((((Below.refl w.heap.size w).alloc (Nat.le_refl _) _).alloc (by simp) _).alloc (by simp; omega) _).trans (hb1.mono (by simp; omega))
  have B2 : Below w.heap.size w w2 := B1.trans (hb2.mono (by omega))
  have B3 : Below w.heap.size w w3 := B2.trans (hb3.mono (by omega))
  exact ⟨rfl, B3.trans (u1.2.mono (by omega))⟩

set_option maxHeartbeats 1000000 in
theorem has_ff (a0 a1 a2 a3 a4 b0 b1 b2 b3 b4 R N : Int) (w : World) (h1 : has5 a0 a1 a2 a3 a4 R N = false) (h2 : has5 b0 b1 b2 b3 b4 R N = false) :
    Calls Try.prog 4 #[.agg (C5 a0 a1 a2 a3 a4), .agg (C5 b0 b1 b2 b3 b4), .agg #[.int .i64 R, .int .i64 N]] w fun e w' => e = .returned (.bool true) ∧ Below w.heap.size w w' := by
  have h3 : has5 (max a0 b0) (max a1 b1) (max a2 b2) (max a3 b3) (max a4 b4) R N = false := by rw [has5_max, h1, h2]; rfl
  have h4 : has5 a0 a1 a2 a3 a4 R 0 = false := has5_zero a0 a1 a2 a3 a4 R 0 (Int.le_refl _)
  have h6 : has5 a0 a1 a2 a3 a4 (wrap64 (-1 - bits .and .i64 R 1023)) N = false := has5_off a0 a1 a2 a3 a4 _ _ (.inl (low_neg R))
  have h7 : has5 a0 a1 a2 a3 a4 (wrap64 (5 + bits .and .i64 R 1023)) N = false := has5_off a0 a1 a2 a3 a4 _ _ (.inr (low_big R))
  go_enter Try.func4, Try.ntmps4
  go_wp2_with (fail)
  go_at_call 13; refine (shown_any _).mono ?_; rintro e w1 ⟨rfl, hb1⟩; obtain ⟨hc1, hf1⟩ := bcell hb1; have hz1 := hb1.size; simp at hz1; have k10 : w.heap.size < w1.heap.size := (by omega); have k11 : w.heap.size + 1 < w1.heap.size := (by omega); have k12 : w.heap.size + 1 + 1 < w1.heap.size := (by omega)
  go_wp2_with (fail)
  go_at_call 16; refine (has_any _ _ _ _ _ _ _ _).mono ?_; rintro e w2 ⟨rfl, hb2⟩; obtain ⟨hc2, hf2⟩ := bcell hb2; have hz2 := hb2.size; have k20 : w.heap.size < w2.heap.size := (by omega); have k21 : w.heap.size + 1 < w2.heap.size := (by omega); have k22 : w.heap.size + 1 + 1 < w2.heap.size := (by omega)
  go_wp2_with (fail)
  go_at_call 16; refine (has_any _ _ _ _ _ _ _ _).mono ?_; rintro e w3 ⟨rfl, hb3⟩; obtain ⟨hc3, hf3⟩ := bcell hb3; have hz3 := hb3.size; have k30 : w.heap.size < w3.heap.size := (by omega); have k31 : w.heap.size + 1 < w3.heap.size := (by omega); have k32 : w.heap.size + 1 + 1 < w3.heap.size := (by omega)
  go_wp2_with (fail)
  refine wp_region_wb (by kernel_rfl) (by kernel_rfl) ?_
  repeat (go_big_quiet_step ((first | (go_at_call 14; exact wb_of (join_any _ _ _ _ _ _ _ _ _ _ _)) | (go_at_call 15; exact wb_of (lessEq_any _ _ _ _ _ _ _ _ _ _ _)) | (go_at_call 16; exact wb_of (has_any _ _ _ _ _ _ _ _)) | (go_at_call 19; exact wb_of (rhas_any _ _ _ _ _ _ _ _)) | (go_at_call 20; exact wb_of (rjoin_any _ _ _ _ _ _ _ _ _ _ _)) | (go_at_call 21; exact wb_of (rle_any _ _ _ _ _ _ _ _ _ _ _)))))
  refine wpQuiet_nil ?_
  intro _ hw'
  obtain ⟨u1, hw''⟩ := hw'
  subst hw''
  go_wp2
  go_ret
  have B1 : Below w.heap.size w w1 := ((((Below.refl w.heap.size w).alloc (Nat.le_refl _) _).alloc (by simp) _).alloc (by simp; omega) _).trans (hb1.mono (by simp; omega))
  have B2 : Below w.heap.size w w2 := B1.trans (hb2.mono (by omega))
  have B3 : Below w.heap.size w w3 := B2.trans (hb3.mono (by omega))
  exact ⟨rfl, B3.trans (u1.2.mono (by omega))⟩

theorem hasLaw_any (a0 a1 a2 a3 a4 b0 b1 b2 b3 b4 R N : Int) (w : World) :
    Calls Try.prog 4 #[.agg (C5 a0 a1 a2 a3 a4), .agg (C5 b0 b1 b2 b3 b4), .agg #[.int .i64 R, .int .i64 N]] w fun e w' => e = .returned (.bool true) ∧ Below w.heap.size w w' := by
  cases h1 : has5 a0 a1 a2 a3 a4 R N <;> cases h2 : has5 b0 b1 b2 b3 b4 R N
  · exact has_ff a0 a1 a2 a3 a4 b0 b1 b2 b3 b4 R N w h1 h2
  · exact has_ft a0 a1 a2 a3 a4 b0 b1 b2 b3 b4 R N w h1 h2
  · exact has_tf a0 a1 a2 a3 a4 b0 b1 b2 b3 b4 R N w h1 h2
  · exact has_tt a0 a1 a2 a3 a4 b0 b1 b2 b3 b4 R N w h1 h2

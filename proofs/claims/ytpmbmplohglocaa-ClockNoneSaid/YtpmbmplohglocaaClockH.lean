import Derived.Test.YtpmbmplohglocaaClockG
namespace Go.Proofs.Ytpmbmplohglocaa
open Go.RowKit
attribute [local go_sem high] run_max_mx
attribute [local go_sem] WB.cell WB.frozen run_eq_c5
attribute [local go_sem] eq5_refl

theorem low_zero (m : Int) : wrap64 (bits .and .i64 m 1023 - 1023) ≤ 0 := by
  have := and_lit m
  generalize bits .and .i64 m 1023 = z at this
  unfold wrap64; omega

set_option maxHeartbeats 1000000 in
theorem none_pos (a0 a1 a2 a3 a4 n r : Int) (w : World) (h : ¬ r < 0) :
    Calls Try.prog 5 #[.agg (C5 a0 a1 a2 a3 a4), .int .i64 n, .int .i64 r] w fun e w' => e = .returned (.bool true) ∧ Below w.heap.size w w' := by
  have h1 : ∀ m, has5 a0 a1 a2 a3 a4 (wrap64 (5 + bits .and .i64 r 1023)) m = false := fun m => has5_off a0 a1 a2 a3 a4 _ _ (.inr (low_big r))
  have H2 := Lib.hid (show wrap64 (5 + bits .and .i64 r 1023) < 0 ∨ 5 ≤ wrap64 (5 + bits .and .i64 r 1023) from .inr (low_big r))
  have h4 : has5 a0 a1 a2 a3 a4 (bits .and .i64 n 3) (wrap64 (bits .and .i64 (wrap64 (-n)) 1023 - 1023)) = false := has5_zero a0 a1 a2 a3 a4 _ _ (low_zero _)
  go_enter Try.func5, Try.ntmps5
  go_wp2_with (fail)
  go_at_call 13; refine (shown_any _).mono ?_; rintro e w1 ⟨rfl, hb1⟩; obtain ⟨hc1, hf1⟩ := bcell hb1; have hz1 := hb1.size; simp at hz1; have k10 : w.heap.size < w1.heap.size := (by omega)
  go_wp2_with (fail)
  go_at_call 17; refine (next_no _ _ _ _ _ _ _ H2.out).mono ?_; rintro e w2 ⟨rfl, hb2⟩; obtain ⟨hc2, hf2⟩ := bcell hb2; have hz2 := hb2.size; have k20 : w.heap.size < w2.heap.size := (by omega)
  go_wp2_with (fail)
  go_at_call 16; refine (has_any _ _ _ _ _ _ _ _).mono ?_; rintro e w3 ⟨rfl, hb3⟩; obtain ⟨hc3, hf3⟩ := bcell hb3; have hz3 := hb3.size; simp at hz3; have k30 : w.heap.size < w3.heap.size := (by omega); have k31 : w2.heap.size < w3.heap.size := (by omega)
  go_wp2_with (fail)
  go_at_call 16; refine (has_any _ _ _ _ _ _ _ _).mono ?_; rintro e w4 ⟨rfl, hb4⟩
  go_wp2_with (fail)
  go_ret
  have B1 : Below w.heap.size w w1 := ((Below.refl w.heap.size w).alloc (Nat.le_refl _) _).trans (hb1.mono (by simp))
  have B2 : Below w.heap.size w w2 := B1.trans (hb2.mono (by omega))
  have B3 : Below w.heap.size w w3 := (B2.alloc (by omega) _).trans (hb3.mono (by simp; omega))
  exact ⟨rfl, B3.trans (hb4.mono (by omega))⟩

set_option maxHeartbeats 1000000 in
theorem none_neg (a0 a1 a2 a3 a4 n r : Int) (w : World) (h : r < 0) :
    Calls Try.prog 5 #[.agg (C5 a0 a1 a2 a3 a4), .int .i64 n, .int .i64 r] w fun e w' => e = .returned (.bool true) ∧ Below w.heap.size w w' := by
  have h1 : ∀ m, has5 a0 a1 a2 a3 a4 (wrap64 (-1 - bits .and .i64 r 1023)) m = false := fun m => has5_off a0 a1 a2 a3 a4 _ _ (.inl (low_neg r))
  have H2 := Lib.hid (show wrap64 (-1 - bits .and .i64 r 1023) < 0 ∨ 5 ≤ wrap64 (-1 - bits .and .i64 r 1023) from .inl (low_neg r))
  have h4 : has5 a0 a1 a2 a3 a4 (bits .and .i64 n 3) (wrap64 (bits .and .i64 (wrap64 (-n)) 1023 - 1023)) = false := has5_zero a0 a1 a2 a3 a4 _ _ (low_zero _)
  go_enter Try.func5, Try.ntmps5
  go_wp2_with (fail)
  go_at_call 13; refine (shown_any _).mono ?_; rintro e w1 ⟨rfl, hb1⟩; obtain ⟨hc1, hf1⟩ := bcell hb1; have hz1 := hb1.size; simp at hz1; have k10 : w.heap.size < w1.heap.size := (by omega)
  go_wp2_with (fail)
  go_at_call 17; refine (next_no _ _ _ _ _ _ _ H2.out).mono ?_; rintro e w2 ⟨rfl, hb2⟩; obtain ⟨hc2, hf2⟩ := bcell hb2; have hz2 := hb2.size; have k20 : w.heap.size < w2.heap.size := (by omega)
  go_wp2_with (fail)
  go_at_call 16; refine (has_any _ _ _ _ _ _ _ _).mono ?_; rintro e w3 ⟨rfl, hb3⟩; obtain ⟨hc3, hf3⟩ := bcell hb3; have hz3 := hb3.size; simp at hz3; have k30 : w.heap.size < w3.heap.size := (by omega); have k31 : w2.heap.size < w3.heap.size := (by omega)
  go_wp2_with (fail)
  go_at_call 16; refine (has_any _ _ _ _ _ _ _ _).mono ?_; rintro e w4 ⟨rfl, hb4⟩
  go_wp2_with (fail)
  go_ret
  have B1 : Below w.heap.size w w1 := ((Below.refl w.heap.size w).alloc (Nat.le_refl _) _).trans (hb1.mono (by simp))
  have B2 : Below w.heap.size w w2 := B1.trans (hb2.mono (by omega))
  have B3 : Below w.heap.size w w3 := (B2.alloc (by omega) _).trans (hb3.mono (by simp; omega))
  exact ⟨rfl, B3.trans (hb4.mono (by omega))⟩

theorem none_any (a0 a1 a2 a3 a4 n r : Int) (w : World) :
    Calls Try.prog 5 #[.agg (C5 a0 a1 a2 a3 a4), .int .i64 n, .int .i64 r] w fun e w' => e = .returned (.bool true) ∧ Below w.heap.size w w' := by
  by_cases h : r < 0
  · exact none_neg a0 a1 a2 a3 a4 n r w h
  · exact none_pos a0 a1 a2 a3 a4 n r w h

import Derived.Test.YtpmbmplohglocaaClockA
namespace Go.Proofs.Ytpmbmplohglocaa
open Go.RowKit
attribute [local go_sem high] run_max_mx
attribute [local go_sem] WB.cell WB.frozen run_eq_c5

theorem rhas_neg (a0 a1 a2 a3 a4 r n : Int) (w : World) (h : r < 0) :
    Calls Try.prog 19 #[.agg (C5 a0 a1 a2 a3 a4), .int .i64 r, .int .i64 n] w fun e w' => e = .returned (.bool false) ∧ Below w.heap.size w w' := by
  have h1 : ¬ 0 ≤ r := by omega
  go_enter Try.func19, Try.ntmps19
  go_wp2
  go_ret
  exact ⟨rfl, (Below.refl _ _).alloc (Nat.le_refl _) _⟩

theorem rhas_big (a0 a1 a2 a3 a4 r n : Int) (w : World) (h : 5 ≤ r) :
    Calls Try.prog 19 #[.agg (C5 a0 a1 a2 a3 a4), .int .i64 r, .int .i64 n] w fun e w' => e = .returned (.bool false) ∧ Below w.heap.size w w' := by
  have h1 : 0 ≤ r := by omega
  have h2 : ¬ r < 5 := by omega
  go_enter Try.func19, Try.ntmps19
  go_wp2
  go_ret
  exact ⟨rfl, (Below.refl _ _).alloc (Nat.le_refl _) _⟩

theorem rhas_lo0 (a0 a1 a2 a3 a4 n : Int) (w : World) (h : ¬ 1 ≤ n) :
    Calls Try.prog 19 #[.agg (C5 a0 a1 a2 a3 a4), .int .i64 0, .int .i64 n] w fun e w' => e = .returned (.bool false) ∧ Below w.heap.size w w' := by
  go_enter Try.func19, Try.ntmps19
  go_wp2
  go_ret
  exact ⟨rfl, (Below.refl _ _).alloc (Nat.le_refl _) _⟩

theorem rhas_hi0 (a0 a1 a2 a3 a4 n : Int) (w : World) (h : 1 ≤ n) :
    Calls Try.prog 19 #[.agg (C5 a0 a1 a2 a3 a4), .int .i64 0, .int .i64 n] w fun e w' => e = .returned (.bool (decide (n ≤ a0))) ∧ Below w.heap.size w w' := by
  go_enter Try.func19, Try.ntmps19
  go_wp2
  go_ret
  exact ⟨rfl, (Below.refl _ _).alloc (Nat.le_refl _) _⟩

theorem rhas_lo1 (a0 a1 a2 a3 a4 n : Int) (w : World) (h : ¬ 1 ≤ n) :
    Calls Try.prog 19 #[.agg (C5 a0 a1 a2 a3 a4), .int .i64 1, .int .i64 n] w fun e w' => e = .returned (.bool false) ∧ Below w.heap.size w w' := by
  go_enter Try.func19, Try.ntmps19
  go_wp2
  go_ret
  exact ⟨rfl, (Below.refl _ _).alloc (Nat.le_refl _) _⟩

theorem rhas_hi1 (a0 a1 a2 a3 a4 n : Int) (w : World) (h : 1 ≤ n) :
    Calls Try.prog 19 #[.agg (C5 a0 a1 a2 a3 a4), .int .i64 1, .int .i64 n] w fun e w' => e = .returned (.bool (decide (n ≤ a1))) ∧ Below w.heap.size w w' := by
  go_enter Try.func19, Try.ntmps19
  go_wp2
  go_ret
  exact ⟨rfl, (Below.refl _ _).alloc (Nat.le_refl _) _⟩

theorem rhas_lo2 (a0 a1 a2 a3 a4 n : Int) (w : World) (h : ¬ 1 ≤ n) :
    Calls Try.prog 19 #[.agg (C5 a0 a1 a2 a3 a4), .int .i64 2, .int .i64 n] w fun e w' => e = .returned (.bool false) ∧ Below w.heap.size w w' := by
  go_enter Try.func19, Try.ntmps19
  go_wp2
  go_ret
  exact ⟨rfl, (Below.refl _ _).alloc (Nat.le_refl _) _⟩

theorem rhas_hi2 (a0 a1 a2 a3 a4 n : Int) (w : World) (h : 1 ≤ n) :
    Calls Try.prog 19 #[.agg (C5 a0 a1 a2 a3 a4), .int .i64 2, .int .i64 n] w fun e w' => e = .returned (.bool (decide (n ≤ a2))) ∧ Below w.heap.size w w' := by
  go_enter Try.func19, Try.ntmps19
  go_wp2
  go_ret
  exact ⟨rfl, (Below.refl _ _).alloc (Nat.le_refl _) _⟩

theorem rhas_lo3 (a0 a1 a2 a3 a4 n : Int) (w : World) (h : ¬ 1 ≤ n) :
    Calls Try.prog 19 #[.agg (C5 a0 a1 a2 a3 a4), .int .i64 3, .int .i64 n] w fun e w' => e = .returned (.bool false) ∧ Below w.heap.size w w' := by
  go_enter Try.func19, Try.ntmps19
  go_wp2
  go_ret
  exact ⟨rfl, (Below.refl _ _).alloc (Nat.le_refl _) _⟩

theorem rhas_hi3 (a0 a1 a2 a3 a4 n : Int) (w : World) (h : 1 ≤ n) :
    Calls Try.prog 19 #[.agg (C5 a0 a1 a2 a3 a4), .int .i64 3, .int .i64 n] w fun e w' => e = .returned (.bool (decide (n ≤ a3))) ∧ Below w.heap.size w w' := by
  go_enter Try.func19, Try.ntmps19
  go_wp2
  go_ret
  exact ⟨rfl, (Below.refl _ _).alloc (Nat.le_refl _) _⟩

theorem rhas_lo4 (a0 a1 a2 a3 a4 n : Int) (w : World) (h : ¬ 1 ≤ n) :
    Calls Try.prog 19 #[.agg (C5 a0 a1 a2 a3 a4), .int .i64 4, .int .i64 n] w fun e w' => e = .returned (.bool false) ∧ Below w.heap.size w w' := by
  go_enter Try.func19, Try.ntmps19
  go_wp2
  go_ret
  exact ⟨rfl, (Below.refl _ _).alloc (Nat.le_refl _) _⟩

theorem rhas_hi4 (a0 a1 a2 a3 a4 n : Int) (w : World) (h : 1 ≤ n) :
    Calls Try.prog 19 #[.agg (C5 a0 a1 a2 a3 a4), .int .i64 4, .int .i64 n] w fun e w' => e = .returned (.bool (decide (n ≤ a4))) ∧ Below w.heap.size w w' := by
  go_enter Try.func19, Try.ntmps19
  go_wp2
  go_ret
  exact ⟨rfl, (Below.refl _ _).alloc (Nat.le_refl _) _⟩

theorem rhas_any (a0 a1 a2 a3 a4 r n : Int) (w : World) :
    Calls Try.prog 19 #[.agg (C5 a0 a1 a2 a3 a4), .int .i64 r, .int .i64 n] w fun e w' => e = .returned (.bool (has5 a0 a1 a2 a3 a4 r n)) ∧ Below w.heap.size w w' := by
  by_cases hr : r < 0
  · refine (rhas_neg a0 a1 a2 a3 a4 r n w hr).mono fun e w' ⟨he, hb⟩ => ⟨he.trans (ret_bool ?_), hb⟩
    unfold has5; symm; rw [decide_eq_false_iff_not]; omega
  by_cases hr2 : 5 ≤ r
  · refine (rhas_big a0 a1 a2 a3 a4 r n w hr2).mono fun e w' ⟨he, hb⟩ => ⟨he.trans (ret_bool ?_), hb⟩
    unfold has5; symm; rw [decide_eq_false_iff_not]; omega
  have h5 : r = 0 ∨ r = 1 ∨ r = 2 ∨ r = 3 ∨ r = 4 := by omega
  by_cases hn : 1 ≤ n
  · have hn' : 0 < n := by omega
    rcases h5 with rfl | rfl | rfl | rfl | rfl
    · exact (rhas_hi0 a0 a1 a2 a3 a4 n w hn).mono fun e w' ⟨he, hb⟩ => ⟨he.trans (ret_bool (by simp [has5, get5, hn'])), hb⟩
    · exact (rhas_hi1 a0 a1 a2 a3 a4 n w hn).mono fun e w' ⟨he, hb⟩ => ⟨he.trans (ret_bool (by simp [has5, get5, hn'])), hb⟩
    · exact (rhas_hi2 a0 a1 a2 a3 a4 n w hn).mono fun e w' ⟨he, hb⟩ => ⟨he.trans (ret_bool (by simp [has5, get5, hn'])), hb⟩
    · exact (rhas_hi3 a0 a1 a2 a3 a4 n w hn).mono fun e w' ⟨he, hb⟩ => ⟨he.trans (ret_bool (by simp [has5, get5, hn'])), hb⟩
    · exact (rhas_hi4 a0 a1 a2 a3 a4 n w hn).mono fun e w' ⟨he, hb⟩ => ⟨he.trans (ret_bool (by simp [has5, get5, hn'])), hb⟩
  · have hn' : ¬ 0 < n := by omega
    rcases h5 with rfl | rfl | rfl | rfl | rfl
    · exact (rhas_lo0 a0 a1 a2 a3 a4 n w hn).mono fun e w' ⟨he, hb⟩ => ⟨he.trans (ret_bool (by simp [has5, hn'])), hb⟩
    · exact (rhas_lo1 a0 a1 a2 a3 a4 n w hn).mono fun e w' ⟨he, hb⟩ => ⟨he.trans (ret_bool (by simp [has5, hn'])), hb⟩
    · exact (rhas_lo2 a0 a1 a2 a3 a4 n w hn).mono fun e w' ⟨he, hb⟩ => ⟨he.trans (ret_bool (by simp [has5, hn'])), hb⟩
    · exact (rhas_lo3 a0 a1 a2 a3 a4 n w hn).mono fun e w' ⟨he, hb⟩ => ⟨he.trans (ret_bool (by simp [has5, hn'])), hb⟩
    · exact (rhas_lo4 a0 a1 a2 a3 a4 n w hn).mono fun e w' ⟨he, hb⟩ => ⟨he.trans (ret_bool (by simp [has5, hn'])), hb⟩

set_option maxHeartbeats 400000 in
theorem rjoin_any (a0 a1 a2 a3 a4 b0 b1 b2 b3 b4 : Int) (w : World) :
    Calls Try.prog 20 #[.agg (C5 a0 a1 a2 a3 a4), .agg (C5 b0 b1 b2 b3 b4)] w fun e w' =>
      e = .returned (.agg (C5 (max a0 b0) (max a1 b1) (max a2 b2) (max a3 b3) (max a4 b4))) ∧ Below w.heap.size w w' := by
  go_enter Try.func20, Try.ntmps20
  go_wp2
  refine wp_loop_rounds 6 ?_
  rw [rounds_succ]; go_wp2
  go_region; go_wp2
  rw [rounds_succ]; go_wp2
  go_region; go_wp2
  rw [rounds_succ]; go_wp2
  go_region; go_wp2
  rw [rounds_succ]; go_wp2
  go_region; go_wp2
  rw [rounds_succ]; go_wp2
  go_region; go_wp2
  rw [rounds_succ]; go_wp2
  refine bodyPost_ret (v := .agg (C5 (max a0 b0) (max a1 b1) (max a2 b2) (max a3 b3) (max a4 b4))) (by simp [results, Try.results20, go_sem]) rfl ⟨rfl, ?_⟩
  exact ((((((((Below.refl _ _).alloc (Nat.le_refl _) _).alloc (by simp) _).alloc (by simp; omega) _).alloc (by simp; omega) _).drew).drew).drew).drew.drew

set_option maxHeartbeats 400000 in
theorem rle_0 (a0 a1 a2 a3 a4 b0 b1 b2 b3 b4 : Int) (w : World)  (h0 : ¬ a0 ≤ b0) :
    Calls Try.prog 21 #[.agg (C5 a0 a1 a2 a3 a4), .agg (C5 b0 b1 b2 b3 b4)] w fun e w' =>
      e = .returned (.bool false) ∧ Below w.heap.size w w' := by
  have g0 : b0 < a0 := by omega
  go_enter Try.func21, Try.ntmps21
  go_wp2
  refine wp_loop_rounds 6 ?_
  rw [rounds_succ]; go_wp2
  go_region; go_wp2
  go_ret
  refine ⟨rfl, ?_⟩
  repeat (first | exact ((Below.refl _ _).alloc (Nat.le_refl _) _).alloc (by simp) _ | apply Below.drew)

set_option maxHeartbeats 400000 in
theorem rle_1 (a0 a1 a2 a3 a4 b0 b1 b2 b3 b4 : Int) (w : World) (h0 : a0 ≤ b0) (h1 : ¬ a1 ≤ b1) :
    Calls Try.prog 21 #[.agg (C5 a0 a1 a2 a3 a4), .agg (C5 b0 b1 b2 b3 b4)] w fun e w' =>
      e = .returned (.bool false) ∧ Below w.heap.size w w' := by
  have g0 : ¬ b0 < a0 := by omega
  have g1 : b1 < a1 := by omega
  go_enter Try.func21, Try.ntmps21
  go_wp2
  refine wp_loop_rounds 6 ?_
  rw [rounds_succ]; go_wp2
  go_region; go_wp2
  rw [rounds_succ]; go_wp2
  go_region; go_wp2
  go_ret
  refine ⟨rfl, ?_⟩
  repeat (first | exact ((Below.refl _ _).alloc (Nat.le_refl _) _).alloc (by simp) _ | apply Below.drew)

set_option maxHeartbeats 400000 in
theorem rle_2 (a0 a1 a2 a3 a4 b0 b1 b2 b3 b4 : Int) (w : World) (h0 : a0 ≤ b0) (h1 : a1 ≤ b1) (h2 : ¬ a2 ≤ b2) :
    Calls Try.prog 21 #[.agg (C5 a0 a1 a2 a3 a4), .agg (C5 b0 b1 b2 b3 b4)] w fun e w' =>
      e = .returned (.bool false) ∧ Below w.heap.size w w' := by
  have g0 : ¬ b0 < a0 := by omega
  have g1 : ¬ b1 < a1 := by omega
  have g2 : b2 < a2 := by omega
  go_enter Try.func21, Try.ntmps21
  go_wp2
  refine wp_loop_rounds 6 ?_
  rw [rounds_succ]; go_wp2
  go_region; go_wp2
  rw [rounds_succ]; go_wp2
  go_region; go_wp2
  rw [rounds_succ]; go_wp2
  go_region; go_wp2
  go_ret
  refine ⟨rfl, ?_⟩
  repeat (first | exact ((Below.refl _ _).alloc (Nat.le_refl _) _).alloc (by simp) _ | apply Below.drew)

set_option maxHeartbeats 400000 in
theorem rle_3 (a0 a1 a2 a3 a4 b0 b1 b2 b3 b4 : Int) (w : World) (h0 : a0 ≤ b0) (h1 : a1 ≤ b1) (h2 : a2 ≤ b2) (h3 : ¬ a3 ≤ b3) :
    Calls Try.prog 21 #[.agg (C5 a0 a1 a2 a3 a4), .agg (C5 b0 b1 b2 b3 b4)] w fun e w' =>
      e = .returned (.bool false) ∧ Below w.heap.size w w' := by
  have g0 : ¬ b0 < a0 := by omega
  have g1 : ¬ b1 < a1 := by omega
  have g2 : ¬ b2 < a2 := by omega
  have g3 : b3 < a3 := by omega
  go_enter Try.func21, Try.ntmps21
  go_wp2
  refine wp_loop_rounds 6 ?_
  rw [rounds_succ]; go_wp2
  go_region; go_wp2
  rw [rounds_succ]; go_wp2
  go_region; go_wp2
  rw [rounds_succ]; go_wp2
  go_region; go_wp2
  rw [rounds_succ]; go_wp2
  go_region; go_wp2
  go_ret
  refine ⟨rfl, ?_⟩
  repeat (first | exact ((Below.refl _ _).alloc (Nat.le_refl _) _).alloc (by simp) _ | apply Below.drew)

set_option maxHeartbeats 400000 in
theorem rle_4 (a0 a1 a2 a3 a4 b0 b1 b2 b3 b4 : Int) (w : World) (h0 : a0 ≤ b0) (h1 : a1 ≤ b1) (h2 : a2 ≤ b2) (h3 : a3 ≤ b3) (h4 : ¬ a4 ≤ b4) :
    Calls Try.prog 21 #[.agg (C5 a0 a1 a2 a3 a4), .agg (C5 b0 b1 b2 b3 b4)] w fun e w' =>
      e = .returned (.bool false) ∧ Below w.heap.size w w' := by
  have g0 : ¬ b0 < a0 := by omega
  have g1 : ¬ b1 < a1 := by omega
  have g2 : ¬ b2 < a2 := by omega
  have g3 : ¬ b3 < a3 := by omega
  have g4 : b4 < a4 := by omega
  go_enter Try.func21, Try.ntmps21
  go_wp2
  refine wp_loop_rounds 6 ?_
  rw [rounds_succ]; go_wp2
  go_region; go_wp2
  rw [rounds_succ]; go_wp2
  go_region; go_wp2
  rw [rounds_succ]; go_wp2
  go_region; go_wp2
  rw [rounds_succ]; go_wp2
  go_region; go_wp2
  rw [rounds_succ]; go_wp2
  go_region; go_wp2
  go_ret
  refine ⟨rfl, ?_⟩
  repeat (first | exact ((Below.refl _ _).alloc (Nat.le_refl _) _).alloc (by simp) _ | apply Below.drew)

set_option maxHeartbeats 400000 in
theorem rle_5 (a0 a1 a2 a3 a4 b0 b1 b2 b3 b4 : Int) (w : World) (h0 : a0 ≤ b0) (h1 : a1 ≤ b1) (h2 : a2 ≤ b2) (h3 : a3 ≤ b3) (h4 : a4 ≤ b4) :
    Calls Try.prog 21 #[.agg (C5 a0 a1 a2 a3 a4), .agg (C5 b0 b1 b2 b3 b4)] w fun e w' =>
      e = .returned (.bool true) ∧ Below w.heap.size w w' := by
  have g0 : ¬ b0 < a0 := by omega
  have g1 : ¬ b1 < a1 := by omega
  have g2 : ¬ b2 < a2 := by omega
  have g3 : ¬ b3 < a3 := by omega
  have g4 : ¬ b4 < a4 := by omega
  go_enter Try.func21, Try.ntmps21
  go_wp2
  refine wp_loop_rounds 6 ?_
  rw [rounds_succ]; go_wp2
  go_region; go_wp2
  rw [rounds_succ]; go_wp2
  go_region; go_wp2
  rw [rounds_succ]; go_wp2
  go_region; go_wp2
  rw [rounds_succ]; go_wp2
  go_region; go_wp2
  rw [rounds_succ]; go_wp2
  go_region; go_wp2
  rw [rounds_succ]; go_wp2
  go_ret
  refine ⟨rfl, ?_⟩
  repeat (first | exact ((Below.refl _ _).alloc (Nat.le_refl _) _).alloc (by simp) _ | apply Below.drew)

theorem rle_any (a0 a1 a2 a3 a4 b0 b1 b2 b3 b4 : Int) (w : World) :
    Calls Try.prog 21 #[.agg (C5 a0 a1 a2 a3 a4), .agg (C5 b0 b1 b2 b3 b4)] w fun e w' =>
      e = .returned (.bool (le5 a0 a1 a2 a3 a4 b0 b1 b2 b3 b4)) ∧ Below w.heap.size w w' := by
  by_cases h0 : a0 ≤ b0
  case neg => exact (rle_0 _ _ _ _ _ _ _ _ _ _ w h0).mono fun e w' ⟨he, hb⟩ => ⟨he.trans (ret_bool (by unfold le5; symm; rw [decide_eq_false_iff_not]; omega)), hb⟩
  by_cases h1 : a1 ≤ b1
  case neg => exact (rle_1 _ _ _ _ _ _ _ _ _ _ w h0 h1).mono fun e w' ⟨he, hb⟩ => ⟨he.trans (ret_bool (by unfold le5; symm; rw [decide_eq_false_iff_not]; omega)), hb⟩
  by_cases h2 : a2 ≤ b2
  case neg => exact (rle_2 _ _ _ _ _ _ _ _ _ _ w h0 h1 h2).mono fun e w' ⟨he, hb⟩ => ⟨he.trans (ret_bool (by unfold le5; symm; rw [decide_eq_false_iff_not]; omega)), hb⟩
  by_cases h3 : a3 ≤ b3
  case neg => exact (rle_3 _ _ _ _ _ _ _ _ _ _ w h0 h1 h2 h3).mono fun e w' ⟨he, hb⟩ => ⟨he.trans (ret_bool (by unfold le5; symm; rw [decide_eq_false_iff_not]; omega)), hb⟩
  by_cases h4 : a4 ≤ b4
  case neg => exact (rle_4 _ _ _ _ _ _ _ _ _ _ w h0 h1 h2 h3 h4).mono fun e w' ⟨he, hb⟩ => ⟨he.trans (ret_bool (by unfold le5; symm; rw [decide_eq_false_iff_not]; omega)), hb⟩
  exact (rle_5 _ _ _ _ _ _ _ _ _ _ w h0 h1 h2 h3 h4).mono fun e w' ⟨he, hb⟩ => ⟨he.trans (ret_bool (by unfold le5; symm; rw [decide_eq_true_iff]; omega)), hb⟩

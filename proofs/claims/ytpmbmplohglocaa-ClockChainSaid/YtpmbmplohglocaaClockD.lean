import Derived.Test.YtpmbmplohglocaaClockA
namespace Go.Proofs.Ytpmbmplohglocaa
open Go.RowKit
attribute [local go_sem high] run_max_mx
attribute [local go_sem] WB.cell WB.frozen run_eq_c5

theorem next_no (a0 a1 a2 a3 a4 r : Int) (w : World) (h : r < 0 ∨ 5 ≤ r) :
    Calls Try.prog 17 #[.agg (C5 a0 a1 a2 a3 a4), .int .i64 r] w fun e w' => e = .returned (.tuple #[.agg (C5 0 0 0 0 0), .int .i64 1]) ∧ Below w.heap.size w w' := by
  have H := Lib.hid h
  clear h
  go_enter Try.func17, Try.ntmps17
  go_wp2_with (go_at_call 28; refine (is_no _ _ H.out).mono ?_; rintro e w' ⟨rfl, rfl⟩)
  refine bodyPost_ret (v := .tuple #[.agg (C5 0 0 0 0 0), .int .i64 1]) (by simp [results, Try.results17, go_sem]) rfl ⟨rfl, ?_⟩
  exact (((Below.refl _ _).alloc (Nat.le_refl _) _).alloc (by simp) _)

theorem next_spent0 (a0 a1 a2 a3 a4 : Int) (w : World) (h : 1048576 ≤ a0) :
    Calls Try.prog 17 #[.agg (C5 a0 a1 a2 a3 a4), .int .i64 0] w fun e w' => e = .returned (.tuple #[.agg (C5 0 0 0 0 0), .int .i64 25]) ∧ Below w.heap.size w w' := by
  go_enter Try.func17, Try.ntmps17
  go_wp2_with (go_at_call 28; refine (is_yes _ _ (by omega) (by omega)).mono ?_; rintro e w' ⟨rfl, rfl⟩)
  refine bodyPost_ret (v := .tuple #[.agg (C5 0 0 0 0 0), .int .i64 25]) (by simp [results, Try.results17, go_sem]) rfl ⟨rfl, ?_⟩
  exact (((Below.refl _ _).alloc (Nat.le_refl _) _).alloc (by simp) _)

theorem next_ok0 (a0 a1 a2 a3 a4 : Int) (w : World) (h : ¬ 1048576 ≤ a0) (h0 : -9223372036854775808 ≤ a0) :
    Calls Try.prog 17 #[.agg (C5 a0 a1 a2 a3 a4), .int .i64 0] w fun e w' => e = .returned (.tuple #[.agg (C5 (a0 + 1) a1 a2 a3 a4), .int .i64 0]) ∧ Below w.heap.size w w' := by
  go_enter Try.func17, Try.ntmps17
  go_wp2_with (go_at_call 28; refine (is_yes _ _ (by omega) (by omega)).mono ?_; rintro e w' ⟨rfl, rfl⟩)
  refine bodyPost_ret (v := .tuple #[.agg (C5 (a0 + 1) a1 a2 a3 a4), .int .i64 0]) (by simp [results, Try.results17, go_sem]) rfl ⟨rfl, ?_⟩
  exact (((Below.refl _ _).alloc (Nat.le_refl _) _).alloc (by simp) _)


theorem next_spent1 (a0 a1 a2 a3 a4 : Int) (w : World) (h : 1048576 ≤ a1) :
    Calls Try.prog 17 #[.agg (C5 a0 a1 a2 a3 a4), .int .i64 1] w fun e w' => e = .returned (.tuple #[.agg (C5 0 0 0 0 0), .int .i64 25]) ∧ Below w.heap.size w w' := by
  go_enter Try.func17, Try.ntmps17
  go_wp2_with (go_at_call 28; refine (is_yes _ _ (by omega) (by omega)).mono ?_; rintro e w' ⟨rfl, rfl⟩)
  refine bodyPost_ret (v := .tuple #[.agg (C5 0 0 0 0 0), .int .i64 25]) (by simp [results, Try.results17, go_sem]) rfl ⟨rfl, ?_⟩
  exact (((Below.refl _ _).alloc (Nat.le_refl _) _).alloc (by simp) _)

theorem next_ok1 (a0 a1 a2 a3 a4 : Int) (w : World) (h : ¬ 1048576 ≤ a1) (h0 : -9223372036854775808 ≤ a1) :
    Calls Try.prog 17 #[.agg (C5 a0 a1 a2 a3 a4), .int .i64 1] w fun e w' => e = .returned (.tuple #[.agg (C5 a0 (a1 + 1) a2 a3 a4), .int .i64 0]) ∧ Below w.heap.size w w' := by
  go_enter Try.func17, Try.ntmps17
  go_wp2_with (go_at_call 28; refine (is_yes _ _ (by omega) (by omega)).mono ?_; rintro e w' ⟨rfl, rfl⟩)
  refine bodyPost_ret (v := .tuple #[.agg (C5 a0 (a1 + 1) a2 a3 a4), .int .i64 0]) (by simp [results, Try.results17, go_sem]) rfl ⟨rfl, ?_⟩
  exact (((Below.refl _ _).alloc (Nat.le_refl _) _).alloc (by simp) _)


theorem next_spent2 (a0 a1 a2 a3 a4 : Int) (w : World) (h : 1048576 ≤ a2) :
    Calls Try.prog 17 #[.agg (C5 a0 a1 a2 a3 a4), .int .i64 2] w fun e w' => e = .returned (.tuple #[.agg (C5 0 0 0 0 0), .int .i64 25]) ∧ Below w.heap.size w w' := by
  go_enter Try.func17, Try.ntmps17
  go_wp2_with (go_at_call 28; refine (is_yes _ _ (by omega) (by omega)).mono ?_; rintro e w' ⟨rfl, rfl⟩)
  refine bodyPost_ret (v := .tuple #[.agg (C5 0 0 0 0 0), .int .i64 25]) (by simp [results, Try.results17, go_sem]) rfl ⟨rfl, ?_⟩
  exact (((Below.refl _ _).alloc (Nat.le_refl _) _).alloc (by simp) _)

theorem next_ok2 (a0 a1 a2 a3 a4 : Int) (w : World) (h : ¬ 1048576 ≤ a2) (h0 : -9223372036854775808 ≤ a2) :
    Calls Try.prog 17 #[.agg (C5 a0 a1 a2 a3 a4), .int .i64 2] w fun e w' => e = .returned (.tuple #[.agg (C5 a0 a1 (a2 + 1) a3 a4), .int .i64 0]) ∧ Below w.heap.size w w' := by
  go_enter Try.func17, Try.ntmps17
  go_wp2_with (go_at_call 28; refine (is_yes _ _ (by omega) (by omega)).mono ?_; rintro e w' ⟨rfl, rfl⟩)
  refine bodyPost_ret (v := .tuple #[.agg (C5 a0 a1 (a2 + 1) a3 a4), .int .i64 0]) (by simp [results, Try.results17, go_sem]) rfl ⟨rfl, ?_⟩
  exact (((Below.refl _ _).alloc (Nat.le_refl _) _).alloc (by simp) _)


theorem next_spent3 (a0 a1 a2 a3 a4 : Int) (w : World) (h : 1048576 ≤ a3) :
    Calls Try.prog 17 #[.agg (C5 a0 a1 a2 a3 a4), .int .i64 3] w fun e w' => e = .returned (.tuple #[.agg (C5 0 0 0 0 0), .int .i64 25]) ∧ Below w.heap.size w w' := by
  go_enter Try.func17, Try.ntmps17
  go_wp2_with (go_at_call 28; refine (is_yes _ _ (by omega) (by omega)).mono ?_; rintro e w' ⟨rfl, rfl⟩)
  refine bodyPost_ret (v := .tuple #[.agg (C5 0 0 0 0 0), .int .i64 25]) (by simp [results, Try.results17, go_sem]) rfl ⟨rfl, ?_⟩
  exact (((Below.refl _ _).alloc (Nat.le_refl _) _).alloc (by simp) _)

theorem next_ok3 (a0 a1 a2 a3 a4 : Int) (w : World) (h : ¬ 1048576 ≤ a3) (h0 : -9223372036854775808 ≤ a3) :
    Calls Try.prog 17 #[.agg (C5 a0 a1 a2 a3 a4), .int .i64 3] w fun e w' => e = .returned (.tuple #[.agg (C5 a0 a1 a2 (a3 + 1) a4), .int .i64 0]) ∧ Below w.heap.size w w' := by
  go_enter Try.func17, Try.ntmps17
  go_wp2_with (go_at_call 28; refine (is_yes _ _ (by omega) (by omega)).mono ?_; rintro e w' ⟨rfl, rfl⟩)
  refine bodyPost_ret (v := .tuple #[.agg (C5 a0 a1 a2 (a3 + 1) a4), .int .i64 0]) (by simp [results, Try.results17, go_sem]) rfl ⟨rfl, ?_⟩
  exact (((Below.refl _ _).alloc (Nat.le_refl _) _).alloc (by simp) _)


theorem next_spent4 (a0 a1 a2 a3 a4 : Int) (w : World) (h : 1048576 ≤ a4) :
    Calls Try.prog 17 #[.agg (C5 a0 a1 a2 a3 a4), .int .i64 4] w fun e w' => e = .returned (.tuple #[.agg (C5 0 0 0 0 0), .int .i64 25]) ∧ Below w.heap.size w w' := by
  go_enter Try.func17, Try.ntmps17
  go_wp2_with (go_at_call 28; refine (is_yes _ _ (by omega) (by omega)).mono ?_; rintro e w' ⟨rfl, rfl⟩)
  refine bodyPost_ret (v := .tuple #[.agg (C5 0 0 0 0 0), .int .i64 25]) (by simp [results, Try.results17, go_sem]) rfl ⟨rfl, ?_⟩
  exact (((Below.refl _ _).alloc (Nat.le_refl _) _).alloc (by simp) _)

theorem next_ok4 (a0 a1 a2 a3 a4 : Int) (w : World) (h : ¬ 1048576 ≤ a4) (h0 : -9223372036854775808 ≤ a4) :
    Calls Try.prog 17 #[.agg (C5 a0 a1 a2 a3 a4), .int .i64 4] w fun e w' => e = .returned (.tuple #[.agg (C5 a0 a1 a2 a3 (a4 + 1)), .int .i64 0]) ∧ Below w.heap.size w w' := by
  go_enter Try.func17, Try.ntmps17
  go_wp2_with (go_at_call 28; refine (is_yes _ _ (by omega) (by omega)).mono ?_; rintro e w' ⟨rfl, rfl⟩)
  refine bodyPost_ret (v := .tuple #[.agg (C5 a0 a1 a2 a3 (a4 + 1)), .int .i64 0]) (by simp [results, Try.results17, go_sem]) rfl ⟨rfl, ?_⟩
  exact (((Below.refl _ _).alloc (Nat.le_refl _) _).alloc (by simp) _)


theorem rnext_neg (a0 a1 a2 a3 a4 r : Int) (w : World) (h : r < 0) :
    Calls Try.prog 18 #[.agg (C5 a0 a1 a2 a3 a4), .int .i64 r] w fun e w' => e = .returned (.tuple #[.agg (C5 0 0 0 0 0), .int .i64 1]) ∧ Below w.heap.size w w' := by
  go_enter Try.func18, Try.ntmps18
  go_wp2
  refine bodyPost_ret (v := .tuple #[.agg (C5 0 0 0 0 0), .int .i64 1]) (by simp [results, Try.results18, go_sem]) rfl ⟨rfl, ?_⟩
  exact (((Below.refl _ _).alloc (Nat.le_refl _) _).alloc (by simp) _)

theorem rnext_big (a0 a1 a2 a3 a4 r : Int) (w : World) (h : 5 ≤ r) :
    Calls Try.prog 18 #[.agg (C5 a0 a1 a2 a3 a4), .int .i64 r] w fun e w' => e = .returned (.tuple #[.agg (C5 0 0 0 0 0), .int .i64 1]) ∧ Below w.heap.size w w' := by
  have h1 : ¬ r < 0 := by omega
  go_enter Try.func18, Try.ntmps18
  go_wp2
  refine bodyPost_ret (v := .tuple #[.agg (C5 0 0 0 0 0), .int .i64 1]) (by simp [results, Try.results18, go_sem]) rfl ⟨rfl, ?_⟩
  exact (((Below.refl _ _).alloc (Nat.le_refl _) _).alloc (by simp) _)

theorem rnext_no (a0 a1 a2 a3 a4 r : Int) (w : World) (h : r < 0 ∨ 5 ≤ r) :
    Calls Try.prog 18 #[.agg (C5 a0 a1 a2 a3 a4), .int .i64 r] w fun e w' => e = .returned (.tuple #[.agg (C5 0 0 0 0 0), .int .i64 1]) ∧ Below w.heap.size w w' :=
  h.elim (rnext_neg a0 a1 a2 a3 a4 r w) (rnext_big a0 a1 a2 a3 a4 r w)

theorem rnext_spent0 (a0 a1 a2 a3 a4 : Int) (w : World) (h : 1048576 ≤ a0) :
    Calls Try.prog 18 #[.agg (C5 a0 a1 a2 a3 a4), .int .i64 0] w fun e w' => e = .returned (.tuple #[.agg (C5 0 0 0 0 0), .int .i64 25]) ∧ Below w.heap.size w w' := by
  go_enter Try.func18, Try.ntmps18
  go_wp2
  refine bodyPost_ret (v := .tuple #[.agg (C5 0 0 0 0 0), .int .i64 25]) (by simp [results, Try.results18, go_sem]) rfl ⟨rfl, ?_⟩
  exact (((Below.refl _ _).alloc (Nat.le_refl _) _).alloc (by simp) _)

theorem rnext_ok0 (a0 a1 a2 a3 a4 : Int) (w : World) (h : ¬ 1048576 ≤ a0) (h0 : -9223372036854775808 ≤ a0) :
    Calls Try.prog 18 #[.agg (C5 a0 a1 a2 a3 a4), .int .i64 0] w fun e w' => e = .returned (.tuple #[.agg (C5 (a0 + 1) a1 a2 a3 a4), .int .i64 0]) ∧ Below w.heap.size w w' := by
  go_enter Try.func18, Try.ntmps18
  go_wp2
  refine bodyPost_ret (v := .tuple #[.agg (C5 (a0 + 1) a1 a2 a3 a4), .int .i64 0]) (by simp [results, Try.results18, go_sem]) rfl ⟨rfl, ?_⟩
  exact (((Below.refl _ _).alloc (Nat.le_refl _) _).alloc (by simp) _)


theorem rnext_spent1 (a0 a1 a2 a3 a4 : Int) (w : World) (h : 1048576 ≤ a1) :
    Calls Try.prog 18 #[.agg (C5 a0 a1 a2 a3 a4), .int .i64 1] w fun e w' => e = .returned (.tuple #[.agg (C5 0 0 0 0 0), .int .i64 25]) ∧ Below w.heap.size w w' := by
  go_enter Try.func18, Try.ntmps18
  go_wp2
  refine bodyPost_ret (v := .tuple #[.agg (C5 0 0 0 0 0), .int .i64 25]) (by simp [results, Try.results18, go_sem]) rfl ⟨rfl, ?_⟩
  exact (((Below.refl _ _).alloc (Nat.le_refl _) _).alloc (by simp) _)

theorem rnext_ok1 (a0 a1 a2 a3 a4 : Int) (w : World) (h : ¬ 1048576 ≤ a1) (h0 : -9223372036854775808 ≤ a1) :
    Calls Try.prog 18 #[.agg (C5 a0 a1 a2 a3 a4), .int .i64 1] w fun e w' => e = .returned (.tuple #[.agg (C5 a0 (a1 + 1) a2 a3 a4), .int .i64 0]) ∧ Below w.heap.size w w' := by
  go_enter Try.func18, Try.ntmps18
  go_wp2
  refine bodyPost_ret (v := .tuple #[.agg (C5 a0 (a1 + 1) a2 a3 a4), .int .i64 0]) (by simp [results, Try.results18, go_sem]) rfl ⟨rfl, ?_⟩
  exact (((Below.refl _ _).alloc (Nat.le_refl _) _).alloc (by simp) _)


theorem rnext_spent2 (a0 a1 a2 a3 a4 : Int) (w : World) (h : 1048576 ≤ a2) :
    Calls Try.prog 18 #[.agg (C5 a0 a1 a2 a3 a4), .int .i64 2] w fun e w' => e = .returned (.tuple #[.agg (C5 0 0 0 0 0), .int .i64 25]) ∧ Below w.heap.size w w' := by
  go_enter Try.func18, Try.ntmps18
  go_wp2
  refine bodyPost_ret (v := .tuple #[.agg (C5 0 0 0 0 0), .int .i64 25]) (by simp [results, Try.results18, go_sem]) rfl ⟨rfl, ?_⟩
  exact (((Below.refl _ _).alloc (Nat.le_refl _) _).alloc (by simp) _)

theorem rnext_ok2 (a0 a1 a2 a3 a4 : Int) (w : World) (h : ¬ 1048576 ≤ a2) (h0 : -9223372036854775808 ≤ a2) :
    Calls Try.prog 18 #[.agg (C5 a0 a1 a2 a3 a4), .int .i64 2] w fun e w' => e = .returned (.tuple #[.agg (C5 a0 a1 (a2 + 1) a3 a4), .int .i64 0]) ∧ Below w.heap.size w w' := by
  go_enter Try.func18, Try.ntmps18
  go_wp2
  refine bodyPost_ret (v := .tuple #[.agg (C5 a0 a1 (a2 + 1) a3 a4), .int .i64 0]) (by simp [results, Try.results18, go_sem]) rfl ⟨rfl, ?_⟩
  exact (((Below.refl _ _).alloc (Nat.le_refl _) _).alloc (by simp) _)


theorem rnext_spent3 (a0 a1 a2 a3 a4 : Int) (w : World) (h : 1048576 ≤ a3) :
    Calls Try.prog 18 #[.agg (C5 a0 a1 a2 a3 a4), .int .i64 3] w fun e w' => e = .returned (.tuple #[.agg (C5 0 0 0 0 0), .int .i64 25]) ∧ Below w.heap.size w w' := by
  go_enter Try.func18, Try.ntmps18
  go_wp2
  refine bodyPost_ret (v := .tuple #[.agg (C5 0 0 0 0 0), .int .i64 25]) (by simp [results, Try.results18, go_sem]) rfl ⟨rfl, ?_⟩
  exact (((Below.refl _ _).alloc (Nat.le_refl _) _).alloc (by simp) _)

theorem rnext_ok3 (a0 a1 a2 a3 a4 : Int) (w : World) (h : ¬ 1048576 ≤ a3) (h0 : -9223372036854775808 ≤ a3) :
    Calls Try.prog 18 #[.agg (C5 a0 a1 a2 a3 a4), .int .i64 3] w fun e w' => e = .returned (.tuple #[.agg (C5 a0 a1 a2 (a3 + 1) a4), .int .i64 0]) ∧ Below w.heap.size w w' := by
  go_enter Try.func18, Try.ntmps18
  go_wp2
  refine bodyPost_ret (v := .tuple #[.agg (C5 a0 a1 a2 (a3 + 1) a4), .int .i64 0]) (by simp [results, Try.results18, go_sem]) rfl ⟨rfl, ?_⟩
  exact (((Below.refl _ _).alloc (Nat.le_refl _) _).alloc (by simp) _)


theorem rnext_spent4 (a0 a1 a2 a3 a4 : Int) (w : World) (h : 1048576 ≤ a4) :
    Calls Try.prog 18 #[.agg (C5 a0 a1 a2 a3 a4), .int .i64 4] w fun e w' => e = .returned (.tuple #[.agg (C5 0 0 0 0 0), .int .i64 25]) ∧ Below w.heap.size w w' := by
  go_enter Try.func18, Try.ntmps18
  go_wp2
  refine bodyPost_ret (v := .tuple #[.agg (C5 0 0 0 0 0), .int .i64 25]) (by simp [results, Try.results18, go_sem]) rfl ⟨rfl, ?_⟩
  exact (((Below.refl _ _).alloc (Nat.le_refl _) _).alloc (by simp) _)

theorem rnext_ok4 (a0 a1 a2 a3 a4 : Int) (w : World) (h : ¬ 1048576 ≤ a4) (h0 : -9223372036854775808 ≤ a4) :
    Calls Try.prog 18 #[.agg (C5 a0 a1 a2 a3 a4), .int .i64 4] w fun e w' => e = .returned (.tuple #[.agg (C5 a0 a1 a2 a3 (a4 + 1)), .int .i64 0]) ∧ Below w.heap.size w w' := by
  go_enter Try.func18, Try.ntmps18
  go_wp2
  refine bodyPost_ret (v := .tuple #[.agg (C5 a0 a1 a2 a3 (a4 + 1)), .int .i64 0]) (by simp [results, Try.results18, go_sem]) rfl ⟨rfl, ?_⟩
  exact (((Below.refl _ _).alloc (Nat.le_refl _) _).alloc (by simp) _)


import Derived.Test.YtpmbmplohglocaaClockD
import Derived.Test.YtpmbmplohglocaaClockE
namespace Go.Proofs.Ytpmbmplohglocaa
open Go.RowKit
attribute [local go_sem high] run_max_mx
attribute [local go_sem] WB.cell WB.frozen run_eq_c5

theorem eq5_refl (a0 a1 a2 a3 a4 : Int) : eq5 a0 a1 a2 a3 a4 a0 a1 a2 a3 a4 = true := by rw [eq5_iff]; exact ⟨rfl, rfl, rfl, rfl, rfl⟩
attribute [local go_sem] eq5_refl
def nx5 (a0 a1 a2 a3 a4 r i : Int) : Int := if r < 0 ∨ 5 ≤ r then 0 else if 1048576 ≤ get5 a0 a1 a2 a3 a4 r then 0 else if i = r then get5 a0 a1 a2 a3 a4 r + 1 else get5 a0 a1 a2 a3 a4 i
def nxE (a0 a1 a2 a3 a4 r : Int) : Int := if r < 0 ∨ 5 ≤ r then 1 else if 1048576 ≤ get5 a0 a1 a2 a3 a4 r then 25 else 0
def nxV (a0 a1 a2 a3 a4 r : Int) : Value := .tuple #[.agg (C5 (nx5 a0 a1 a2 a3 a4 r 0) (nx5 a0 a1 a2 a3 a4 r 1) (nx5 a0 a1 a2 a3 a4 r 2) (nx5 a0 a1 a2 a3 a4 r 3) (nx5 a0 a1 a2 a3 a4 r 4)), .int .i64 (nxE a0 a1 a2 a3 a4 r)]
theorem ret_v {a b : Value} (h : a = b) : Ending.returned a = .returned b := by rw [h]

theorem next_any (a0 a1 a2 a3 a4 r : Int) (w : World) (g0 : -9223372036854775808 ≤ a0) (g1 : -9223372036854775808 ≤ a1) (g2 : -9223372036854775808 ≤ a2) (g3 : -9223372036854775808 ≤ a3) (g4 : -9223372036854775808 ≤ a4) :
    Calls Try.prog 17 #[.agg (C5 a0 a1 a2 a3 a4), .int .i64 r] w fun e w' => e = .returned (.tuple #[.agg (C5 (nx5 a0 a1 a2 a3 a4 r 0) (nx5 a0 a1 a2 a3 a4 r 1) (nx5 a0 a1 a2 a3 a4 r 2) (nx5 a0 a1 a2 a3 a4 r 3) (nx5 a0 a1 a2 a3 a4 r 4)), .int .i64 (nxE a0 a1 a2 a3 a4 r)]) ∧ Below w.heap.size w w' := by
  show Calls Try.prog 17 #[.agg (C5 a0 a1 a2 a3 a4), .int .i64 r] w fun e w' => e = .returned (nxV a0 a1 a2 a3 a4 r) ∧ Below w.heap.size w w'
  by_cases hr : r < 0 ∨ 5 ≤ r
  · exact (next_no a0 a1 a2 a3 a4 r w hr).mono fun e w' ⟨he, hb⟩ => ⟨he.trans (ret_v (by simp [nxV, nx5, nxE, hr])), hb⟩
  have h5 : r = 0 ∨ r = 1 ∨ r = 2 ∨ r = 3 ∨ r = 4 := by omega
  rcases h5 with rfl | rfl | rfl | rfl | rfl
  · by_cases h : 1048576 ≤ a0
    · exact (next_spent0 a0 a1 a2 a3 a4 w h).mono fun e w' ⟨he, hb⟩ => ⟨he.trans (ret_v (by simp [nxV, nx5, nxE, get5, h])), hb⟩
    · exact (next_ok0 a0 a1 a2 a3 a4 w h g0).mono fun e w' ⟨he, hb⟩ => ⟨he.trans (ret_v (by simp [nxV, nx5, nxE, get5, h])), hb⟩
  · by_cases h : 1048576 ≤ a1
    · exact (next_spent1 a0 a1 a2 a3 a4 w h).mono fun e w' ⟨he, hb⟩ => ⟨he.trans (ret_v (by simp [nxV, nx5, nxE, get5, h])), hb⟩
    · exact (next_ok1 a0 a1 a2 a3 a4 w h g1).mono fun e w' ⟨he, hb⟩ => ⟨he.trans (ret_v (by simp [nxV, nx5, nxE, get5, h])), hb⟩
  · by_cases h : 1048576 ≤ a2
    · exact (next_spent2 a0 a1 a2 a3 a4 w h).mono fun e w' ⟨he, hb⟩ => ⟨he.trans (ret_v (by simp [nxV, nx5, nxE, get5, h])), hb⟩
    · exact (next_ok2 a0 a1 a2 a3 a4 w h g2).mono fun e w' ⟨he, hb⟩ => ⟨he.trans (ret_v (by simp [nxV, nx5, nxE, get5, h])), hb⟩
  · by_cases h : 1048576 ≤ a3
    · exact (next_spent3 a0 a1 a2 a3 a4 w h).mono fun e w' ⟨he, hb⟩ => ⟨he.trans (ret_v (by simp [nxV, nx5, nxE, get5, h])), hb⟩
    · exact (next_ok3 a0 a1 a2 a3 a4 w h g3).mono fun e w' ⟨he, hb⟩ => ⟨he.trans (ret_v (by simp [nxV, nx5, nxE, get5, h])), hb⟩
  · by_cases h : 1048576 ≤ a4
    · exact (next_spent4 a0 a1 a2 a3 a4 w h).mono fun e w' ⟨he, hb⟩ => ⟨he.trans (ret_v (by simp [nxV, nx5, nxE, get5, h])), hb⟩
    · exact (next_ok4 a0 a1 a2 a3 a4 w h g4).mono fun e w' ⟨he, hb⟩ => ⟨he.trans (ret_v (by simp [nxV, nx5, nxE, get5, h])), hb⟩

theorem rnext_any (a0 a1 a2 a3 a4 r : Int) (w : World) (g0 : -9223372036854775808 ≤ a0) (g1 : -9223372036854775808 ≤ a1) (g2 : -9223372036854775808 ≤ a2) (g3 : -9223372036854775808 ≤ a3) (g4 : -9223372036854775808 ≤ a4) :
    Calls Try.prog 18 #[.agg (C5 a0 a1 a2 a3 a4), .int .i64 r] w fun e w' => e = .returned (.tuple #[.agg (C5 (nx5 a0 a1 a2 a3 a4 r 0) (nx5 a0 a1 a2 a3 a4 r 1) (nx5 a0 a1 a2 a3 a4 r 2) (nx5 a0 a1 a2 a3 a4 r 3) (nx5 a0 a1 a2 a3 a4 r 4)), .int .i64 (nxE a0 a1 a2 a3 a4 r)]) ∧ Below w.heap.size w w' := by
  show Calls Try.prog 18 #[.agg (C5 a0 a1 a2 a3 a4), .int .i64 r] w fun e w' => e = .returned (nxV a0 a1 a2 a3 a4 r) ∧ Below w.heap.size w w'
  by_cases hr : r < 0 ∨ 5 ≤ r
  · exact (rnext_no a0 a1 a2 a3 a4 r w hr).mono fun e w' ⟨he, hb⟩ => ⟨he.trans (ret_v (by simp [nxV, nx5, nxE, hr])), hb⟩
  have h5 : r = 0 ∨ r = 1 ∨ r = 2 ∨ r = 3 ∨ r = 4 := by omega
  rcases h5 with rfl | rfl | rfl | rfl | rfl
  · by_cases h : 1048576 ≤ a0
    · exact (rnext_spent0 a0 a1 a2 a3 a4 w h).mono fun e w' ⟨he, hb⟩ => ⟨he.trans (ret_v (by simp [nxV, nx5, nxE, get5, h])), hb⟩
    · exact (rnext_ok0 a0 a1 a2 a3 a4 w h g0).mono fun e w' ⟨he, hb⟩ => ⟨he.trans (ret_v (by simp [nxV, nx5, nxE, get5, h])), hb⟩
  · by_cases h : 1048576 ≤ a1
    · exact (rnext_spent1 a0 a1 a2 a3 a4 w h).mono fun e w' ⟨he, hb⟩ => ⟨he.trans (ret_v (by simp [nxV, nx5, nxE, get5, h])), hb⟩
    · exact (rnext_ok1 a0 a1 a2 a3 a4 w h g1).mono fun e w' ⟨he, hb⟩ => ⟨he.trans (ret_v (by simp [nxV, nx5, nxE, get5, h])), hb⟩
  · by_cases h : 1048576 ≤ a2
    · exact (rnext_spent2 a0 a1 a2 a3 a4 w h).mono fun e w' ⟨he, hb⟩ => ⟨he.trans (ret_v (by simp [nxV, nx5, nxE, get5, h])), hb⟩
    · exact (rnext_ok2 a0 a1 a2 a3 a4 w h g2).mono fun e w' ⟨he, hb⟩ => ⟨he.trans (ret_v (by simp [nxV, nx5, nxE, get5, h])), hb⟩
  · by_cases h : 1048576 ≤ a3
    · exact (rnext_spent3 a0 a1 a2 a3 a4 w h).mono fun e w' ⟨he, hb⟩ => ⟨he.trans (ret_v (by simp [nxV, nx5, nxE, get5, h])), hb⟩
    · exact (rnext_ok3 a0 a1 a2 a3 a4 w h g3).mono fun e w' ⟨he, hb⟩ => ⟨he.trans (ret_v (by simp [nxV, nx5, nxE, get5, h])), hb⟩
  · by_cases h : 1048576 ≤ a4
    · exact (rnext_spent4 a0 a1 a2 a3 a4 w h).mono fun e w' ⟨he, hb⟩ => ⟨he.trans (ret_v (by simp [nxV, nx5, nxE, get5, h])), hb⟩
    · exact (rnext_ok4 a0 a1 a2 a3 a4 w h g4).mono fun e w' ⟨he, hb⟩ => ⟨he.trans (ret_v (by simp [nxV, nx5, nxE, get5, h])), hb⟩

set_option maxHeartbeats 1000000 in
theorem all_any (a0 a1 a2 a3 a4 b0 b1 b2 b3 b4 x0 x1 : Int) (w : World) (g0 : -9223372036854775808 ≤ a0) (g1 : -9223372036854775808 ≤ a1) (g2 : -9223372036854775808 ≤ a2) (g3 : -9223372036854775808 ≤ a3) (g4 : -9223372036854775808 ≤ a4) :
    Calls Try.prog 6 #[.agg (C5 a0 a1 a2 a3 a4), .agg (C5 b0 b1 b2 b3 b4), .agg #[.int .i64 x0, .int .i64 x1]] w fun e w' => e = .returned (.bool true) ∧ Below w.heap.size w w' := by
  go_enter Try.func6, Try.ntmps6
  go_wp2_with (fail)
  go_at_call 13; refine (shown_any _).mono ?_; rintro e w1 ⟨rfl, hb1⟩; obtain ⟨hc1, hf1⟩ := bcell hb1; have hz1 := hb1.size; simp at hz1; have k10 : w.heap.size < w1.heap.size := (by omega); have k11 : w.heap.size + 1 < w1.heap.size := (by omega); have k12 : w.heap.size + 1 + 1 < w1.heap.size := (by omega)
  go_wp2_with (fail)
  go_at_call 17; refine (next_any _ _ _ _ _ _ _ g0 g1 g2 g3 g4).mono ?_; rintro e w2 ⟨rfl, hb2⟩; obtain ⟨hc2, hf2⟩ := bcell hb2; have hz2 := hb2.size; have k20 : w.heap.size < w2.heap.size := (by omega); have k21 : w.heap.size + 1 < w2.heap.size := (by omega); have k22 : w.heap.size + 1 + 1 < w2.heap.size := (by omega)
  go_wp2_with (fail)
  go_at_call 18; refine (rnext_any _ _ _ _ _ _ _ g0 g1 g2 g3 g4).mono ?_; rintro e w3 ⟨rfl, hb3⟩; obtain ⟨hc3, hf3⟩ := bcell hb3; have hz3 := hb3.size; simp at hz3; have k30 : w.heap.size < w3.heap.size := (by omega); have k31 : w.heap.size + 1 < w3.heap.size := (by omega); have k32 : w.heap.size + 1 + 1 < w3.heap.size := (by omega); have k33 : w2.heap.size < w3.heap.size := (by omega)
  go_wp2_with (fail)
  refine wp_region_wb (by kernel_rfl) (by kernel_rfl) ?_
  repeat (go_big_quiet_step ((first | (go_at_call 14; exact wb_of (join_any _ _ _ _ _ _ _ _ _ _ _)) | (go_at_call 15; exact wb_of (lessEq_any _ _ _ _ _ _ _ _ _ _ _)) | (go_at_call 16; exact wb_of (has_any _ _ _ _ _ _ _ _)) | (go_at_call 19; exact wb_of (rhas_any _ _ _ _ _ _ _ _)) | (go_at_call 20; exact wb_of (rjoin_any _ _ _ _ _ _ _ _ _ _ _)) | (go_at_call 21; exact wb_of (rle_any _ _ _ _ _ _ _ _ _ _ _)))))
  refine wpQuiet_nil ?_
  intro _ hw'
  obtain ⟨u1, hw''⟩ := hw'
  subst hw''
  go_wp2
  go_ret
  have B1 : Below w.heap.size w w1 := ((((Below.refl w.heap.size w).alloc (Nat.le_refl _) _).alloc (by simp) _).alloc (by simp; omega) _).trans (hb1.mono (by simp; omega))
  have B2 : Below w.heap.size w w2 := B1.trans (hb2.mono (by omega))
  have B3 : Below w.heap.size w w3 := (B2.alloc (by omega) _).trans (hb3.mono (by simp; omega))
  exact ⟨rfl, (B3.alloc (by omega) _).trans (u1.2.mono (by simp; omega))⟩

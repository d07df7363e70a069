import Derived.Test.YtenmjhkmehckhaaShown
namespace Go.Proofs.Ytenmjhkmehckhaa
open Go.RowKit
set_option linter.unusedVariables false
set_option linter.unusedSimpArgs false
set_option maxHeartbeats 1000000 in
theorem apart_any (a b c0 c1 : Nat) (w : World) (ha : a < 4294967296) (hb : b < 4294967296) (h0 : c0 < 256) (h1 : c1 < 256) :
    Calls Try.prog 6 #[.int .u32 a, .int .u32 b, .agg #[.int .u8 c0, .int .u8 c1]] w fun e w' => e = .returned (.bool true) ∧ Below w.heap.size w w' := by
  have S1 := fun w => Lib.hid (step_any a c0 w ha h0)
  have S2 := fun w => Lib.hid (step_any b c0 w hb h0)
  have S3 := fun w => Lib.hid (step_any a c1 w ha h1)
  have q1 : (((stepN a c0 : Nat) : Int) == ((stepN b c0 : Nat) : Int)) = decide (a = b) := by
    rw [Bool.eq_iff_iff, beq_iff_eq, decide_eq_true_iff, Int.natCast_inj]; exact step_left ha hb h0
  have q2 : (((stepN a c0 : Nat) : Int) == ((stepN a c1 : Nat) : Int)) = decide (c0 = c1) := by
    rw [Bool.eq_iff_iff, beq_iff_eq, decide_eq_true_iff, Int.natCast_inj]; exact step_right ha h0 h1
  have q3 : ((a : Int) == (b : Int)) = decide (a = b) := by
    rw [Bool.eq_iff_iff, beq_iff_eq, decide_eq_true_iff, Int.natCast_inj]
  have q4' : ((c0 : Int) == (c1 : Int)) = decide (c0 = c1) := by
    rw [Bool.eq_iff_iff, beq_iff_eq, decide_eq_true_iff, Int.natCast_inj]
  clear ha hb h0 h1
  have hb0 : Below w.heap.size w (w.alloc (.cells #[.int .u8 c0, .int .u8 c1] 33)) := (Below.refl _ _).alloc (Nat.le_refl _) _
  have hA := heap_alloc_new w (.cells #[.int .u8 c0, .int .u8 c1] 33)
  go_enter Try.func6, Try.ntmps6
  go_wp2_with (fail)
  generalize hwa : w.alloc (.cells #[.int .u8 c0, .int .u8 c1] 33) = wa at *
  have hsz : w.heap.size < wa.heap.size := by rw [← hwa]; simp
  go_at_call 9; refine (shown_any wa).mono ?_; rintro e w1 ⟨rfl, hb1⟩
  go_wp2_with (fail)
  have r0 : ∀ u : WB w1.heap.size w1, u.w.cell? ⟨w.heap.size, 0, none⟩ = some (.int .u8 c0) := fun u => (u.2.cell (p := ⟨w.heap.size, 0, none⟩) (Nat.lt_of_lt_of_le hsz hb1.size)).trans ((hb1.cell (p := ⟨w.heap.size, 0, none⟩) hsz).trans (by rw [cell_of_row wa w.heap.size 0 _ 33 (0, 0) hA]; rfl))
  have r1 : ∀ u : WB w1.heap.size w1, u.w.cell? ⟨w.heap.size, 1, none⟩ = some (.int .u8 c1) := fun u => (u.2.cell (p := ⟨w.heap.size, 1, none⟩) (Nat.lt_of_lt_of_le hsz hb1.size)).trans ((hb1.cell (p := ⟨w.heap.size, 1, none⟩) hsz).trans (by rw [cell_of_row wa w.heap.size 1 _ 33 (0, 0) hA]; rfl))
  refine wp_region_wb2 (by kernel_rfl) (by kernel_rfl) ?_
  repeat (go_big_quiet_step ((first | (go_at_call 15; with_reducible exact wb_pure (S1 _).out) | (go_at_call 15; with_reducible exact wb_pure (S2 _).out) | (go_at_call 15; with_reducible exact wb_pure (S3 _).out))))
  refine wpQuiet_nil ?_; intro w' hb
  go_wp2
  go_ret
  exact ⟨rfl, (hb0.trans (hb1.mono (Nat.le_of_lt hsz))).trans (hb.mono (Nat.le_trans (Nat.le_of_lt hsz) hb1.size))⟩
end Go.Proofs.Ytenmjhkmehckhaa

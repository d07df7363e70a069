import Derived.Test.YtenmjhkmehckhaaFour
import Derived.Lib.AppendZeros
namespace Go.Proofs.Ytenmjhkmehckhaa
open Go.RowKit
set_option linter.unusedVariables false
set_option linter.unusedSimpArgs false
theorem grow_nil (n : Nat) (w : World) (h0 : 0 < n) (hn : n ≤ 100000) :
    Calls Try.prog 22 #[.slice none 0 0, .int .i64 n] w fun e w' => ∃ v, e = .returned v ∧ w'.ownsRow w.heap.size 5 1 v 0 [] ∧ Below w.heap.size w w' := by
  obtain ⟨i0, hi, hz0, hz1, hz2⟩ := info_parts info5
  have ha : ∀ ty, (Builtin.append_ #[22, 3] ty #[.slice none 0 0, .int .i64 n]).run Try.prog w = _ := fun ty => Lib.run_append_nil_zeros (P := Try.prog) w 22 3 ty 5 i0 (.int .u8 0) .i64 .i64 Try.underlying22 Try.underlying3 hi hz0 n h0 (by omega) (by omega) (by rw [hz2]; omega)
  go_enter Try.func22, Try.ntmps22
  go_wp2_with (at_builtin; refine Lib.wpList_append_run _ rfl _ _ _ _ rfl _ _ rfl rfl _ _ (ha _) ?_)
  go_ret
  have hle := grownCap_ge w n 0 5
  have hmx := grownCap_le_maxLen w n 0 5 (by unfold maxLen; omega)
  refine ⟨_, rfl, ?_, ((Below.refl _ _).alloc (Nat.le_refl _) _).drew⟩
  exact World.ownsRow_made w _ (grownCap w n 0 5) (Nat.le_refl _) hmx (by rw [Array.size_append, size_zeroCells, size_zeroCells]; simp; omega)

theorem grow_two (n1 n2 : Nat) (w : World) (h0 : 0 < n1 + n2) (hn : n1 + n2 ≤ 100000) :
    Calls Try.prog 22 #[.slice none 0 0, .int .i64 ((n1 : Int) + (n2 : Int))] w fun e w' => ∃ v, e = .returned v ∧ w'.ownsRow w.heap.size 5 1 v 0 [] ∧ Below w.heap.size w w' := by
  rw [← Int.natCast_add]
  exact grow_nil (n1 + n2) w h0 hn
set_option maxHeartbeats 1000000 in
theorem concat_two (b : Nat) (a1 a2 : Option Addr) (n1 n2 c1 c2 : Nat) (g1 g2 : Nat → Nat) (w : World) (hb : b < w.heap.size) (hc0 : w.cell? ⟨b, 0, none⟩ = some (.slice a1 n1 c1)) (hc1 : w.cell? ⟨b, 1, none⟩ = some (.slice a2 n2 c2))
    (hr1 : Rd w (.slice a1 n1 c1) n1 g1) (hr2 : Rd w (.slice a2 n2 c2) n2 g2) (h0 : 0 < n1 + n2) (hn : n1 + n2 ≤ 100000) :
    Calls Try.prog 21 #[.slice (some ⟨b, 0, none⟩) 2 2] w fun e w' => ∃ v, e = .returned v ∧ w'.ownsRow w.heap.size 5 1 v (n1 + n2) (cells8 (fl g1 n1 ++ fl g2 n2)) ∧ Below w.heap.size w w' := by
  have HR1 := Lib.hid hr1
  have HR2 := Lib.hid hr2
  clear hr1 hr2
  go_enter Try.func21, Try.ntmps21
  go_wp2
  refine wp_loop_rounds 3 ?_
  rw [rounds_succ]; go_wp2
  rw [rounds_succ]; go_wp2
  rw [rounds_succ]; go_wp2_with (fail)
  go_at_call 22; refine (grow_two n1 n2 _ h0 hn).mono ?_; rintro e w1 ⟨v1, rfl, hown1, hb1⟩
  have hz1 := hb1.size
  have hd0 : w1.cell? ⟨b, 0, none⟩ = some (.slice a1 n1 c1) := (hb1.cell (p := ⟨b, 0, none⟩) hb).trans hc0
  have hR1 : Rd w1 (.slice a1 n1 c1) n1 g1 := HR1.out.below hb1
  go_wp2
  refine wp_loop_rounds 3 ?_
  rw [rounds_succ]
  go_wp2_with (at_builtin; refine wpList_append_rd _ rfl (.tmp 31) (.tmp 32) rfl w.heap.size _ 0 [] rfl hown1 _ n1 g1 rfl hR1 (by omega) hz1 ?_; intro v2 w2 hown2 hgr2)
  have hB2 : Below w.heap.size w w2 := hb1.grown hgr2 hz1 (fun k hk => (hown1.lt k hk).1)
  have hz2 := hB2.size
  have hd1 : w2.cell? ⟨b, 1, none⟩ = some (.slice a2 n2 c2) := (hB2.cell (p := ⟨b, 1, none⟩) hb).trans hc1
  have hR2 : Rd w2 (.slice a2 n2 c2) n2 g2 := HR2.out.below hB2
  clear hd0 hc0 hc1 hR1
  rw [rounds_succ]
  go_wp2_with (at_builtin; refine wpList_append_rd _ rfl (.tmp 31) (.tmp 32) rfl w.heap.size _ _ _ rfl hown2 _ n2 g2 rfl hR2 (by omega) hz2 ?_; intro v3 w3 hown3 hgr3)
  have hB3 : Below w.heap.size w w3 := hB2.grown hgr3 hz2 (fun k hk => (hown2.lt k hk).1)
  clear hd1 hR2
  rw [rounds_succ]
  go_wp2
  go_ret
  exact ⟨v3, rfl, by simpa using hown3, hB3⟩
end Go.Proofs.Ytenmjhkmehckhaa

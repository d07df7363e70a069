import Derived.Test.YtenmjhkmehckhaaLin
namespace Go.Proofs.Ytenmjhkmehckhaa
open Go.RowKit
set_option linter.unusedVariables false
set_option linter.unusedSimpArgs false
set_option maxHeartbeats 1000000 in
theorem ends_at (v1 : Value) (l1 N : Nat) (g1 : Nat → Nat) (w : World) (hv1 : Rd w v1 l1 g1) (hN : min l1 300 = N) (b3 : Bool) (h3 : decide (3 < N) = b3) :
    Calls Try.prog 8 #[v1] w fun e w' => e = .returned (.bool true) ∧ Below w.heap.size w w' := by
  obtain ⟨a1, c1, rfl, hc11, hc12⟩ := hv1.take
  have HR1 := Lib.hid hv1
  clear hv1
  have F1 := fun w => Lib.hid (few_at a1 l1 c1 w hc11 hc12)
  rw [hN] at F1
  have hn1 : N ≤ 300 := by omega
  have hm1 : N ≤ c1 := by omega
  have hl1 : N ≤ l1 := by omega
  clear hN
  have SS := Lib.hid (sum_sealed HR1.out.1 N)
  cases b3 with
  | true =>
    have h3' : 3 < N := of_decide_eq_true h3
    clear h3
    go_enter Try.func8, Try.ntmps8
    go_wp2_with (fail)
    go_at_call 9; refine (shown_any _).mono ?_; rintro e w1 ⟨rfl, hb1⟩
    go_wp2_with (fail)
    go_at_call 10; refine (F1 _).out.mono ?_; rintro e w9 ⟨rfl, rfl⟩
    have HS1 := Lib.hid ((HR1.out.below hb1).cut hl1)
    go_wp2_with (fail)
    go_at_call 11; refine (open_short _ _ _ _ (by omega)).mono ?_; rintro e w2 ⟨rfl, hb2⟩
    have HS2 := Lib.hid (HS1.out.below hb2)
    go_wp2_with (fail)
    go_at_call 17; refine (seal_rd HS2.out (by omega)).mono ?_; rintro e w3 ⟨v3, rfl, hR3, hb3⟩
    have HR3 := Lib.hid hR3
    clear hR3
    go_wp2_with (fail)
    go_at_call 13; refine (sum_any HR3.out).mono ?_; rintro e w9 ⟨rfl, rfl⟩
    rw [SS.out]
    go_wp2_with (fail)
    go_ret
    exact ⟨rfl, (hb1.trans (hb2.mono hb1.size)).trans (hb3.mono (Nat.le_trans hb1.size hb2.size))⟩
  | false =>
    have h3' : ¬ 3 < N := of_decide_eq_false h3
    clear h3
    go_enter Try.func8, Try.ntmps8
    go_wp2_with (fail)
    go_at_call 9; refine (shown_any _).mono ?_; rintro e w1 ⟨rfl, hb1⟩
    go_wp2_with (fail)
    go_at_call 10; refine (F1 _).out.mono ?_; rintro e w9 ⟨rfl, rfl⟩
    have HS1 := Lib.hid ((HR1.out.below hb1).cut hl1)
    go_wp2_with (fail)
    go_at_call 11; refine (open_short _ _ _ _ (by omega)).mono ?_; rintro e w2 ⟨rfl, hb2⟩
    have HS2 := Lib.hid (HS1.out.below hb2)
    go_wp2_with (fail)
    go_at_call 17; refine (seal_rd HS2.out (by omega)).mono ?_; rintro e w3 ⟨v3, rfl, hR3, hb3⟩
    have HR3 := Lib.hid hR3
    clear hR3
    go_wp2_with (fail)
    go_at_call 13; refine (sum_any HR3.out).mono ?_; rintro e w9 ⟨rfl, rfl⟩
    rw [SS.out]
    go_wp2_with (fail)
    go_ret
    exact ⟨rfl, (hb1.trans (hb2.mono hb1.size)).trans (hb3.mono (Nat.le_trans hb1.size hb2.size))⟩
theorem ends_any (v1 : Value) (l1 : Nat) (g1 : Nat → Nat) (w : World) (hv1 : Rd w v1 l1 g1) :
    Calls Try.prog 8 #[v1] w fun e w' => e = .returned (.bool true) ∧ Below w.heap.size w w' := ends_at v1 l1 _ g1 w hv1 rfl _ rfl
end Go.Proofs.Ytenmjhkmehckhaa

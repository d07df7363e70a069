import Derived.Test.YtkcfcimophjomaaOf
namespace Go.Proofs.Ytkcfcimophjomaa
open Go.RowKit
set_option linter.unusedVariables false
set_option linter.unusedSimpArgs false
set_option maxHeartbeats 1000000 in
theorem oshown_any (w : World) : Calls Try.prog 16 #[] w fun e w' => e = .returned (.bool true) ∧ Below w.heap.size w w' := by
  go_enter Try.func16, Try.ntmps16
  go_wp2_with (fail)
  go_at_call 17; refine (box_new 2 1 0 1 w (by decide)).mono ?_; rintro e w1 ⟨rfl, hD1, hb1⟩
  have H1 := Lib.hid hD1
  clear hD1
  go_wp2_with (fail)
  go_at_call 19; refine (box_add_ok _ w.heap.size 2 1 0 1 0 [] H1.out (by simp) (by simp) (by omega) (by omega) (by simp)).mono ?_; rintro e w2 ⟨rfl, hD2, hb2⟩
  have H2 := Lib.hid hD2
  have hz2 := hb1.trans hb2
  clear hD2
  go_wp2_with (fail)
  go_at_call 19; refine (box_add_ok _ w.heap.size 2 1 0 2 0 _ H2.out (by simp) (by simp) (by omega) (by omega) (by simp)).mono ?_; rintro e w3 ⟨rfl, hD3, hb3⟩
  have H3 := Lib.hid hD3
  have hz3 := hz2.trans hb3
  clear hD3
  go_wp2_with (fail)
  go_at_call 19; refine (box_add_full _ w.heap.size 2 1 0 _ (3, 0) H3.out (by simp)).mono ?_; rintro e w4 ⟨rfl, hb4⟩
  have H4 := Lib.hid (H3.out.below hb4)
  have hz4 := hz3.trans (hb4.mono hz3.size)
  go_wp2_with (fail)
  go_at_call 20; refine (box_batch _ w.heap.size 2 1 0 _ 1 H4.out (by decide) (by simp)).mono ?_; rintro e w5 ⟨v5, rfl, ho5, hb5⟩
  have H5 := Lib.hid (H4.out.below hb5)
  have hz5 := hz4.trans (hb5.mono hz4.size)
  obtain ⟨a5, c5, rfl, h51, h52⟩ := ownE_slice ho5
  have hR5 := RdC.of_own ho5
  have HR5 := Lib.hid hR5
  have HO5 := Lib.hid ho5
  clear hR5 ho5
  go_wp2_with (fail)
  go_at_call 22; refine (box_sent _ w.heap.size 2 1 0 1 _ 1 H5.out (by decide) (by simp) (by omega) (by omega) (by omega) (by omega)).mono ?_; rintro e w6 ⟨rfl, hD6, hb6⟩
  have H6 := Lib.hid hD6
  have hz6 := hz5.trans (grown_below hb6 (Nat.le_refl _) H5.out.lt)
  obtain ⟨b5, off5, rfl, hb5l, hc5⟩ := HR5.out.at (by omega)
  have hne : w.heap.size < b5 := by
    rcases HO5.out.2 with ⟨_, h⟩ | ⟨g, cap, cur, h1, h2, _⟩
    · omega
    · injection h1 with e1; injection e1 with e1; injection e1 with e1
      have := H4.out.lt
      omega
  have hN : w6.cell? ⟨b5, off5 + 1, none⟩ = some (.int .i64 1) := by
    rw [World.cell?_of_block (a := ⟨b5, off5 + 1, none⟩) (hb6.block b5 hb5l (by intro e; injection e; omega))]
    exact hc5 1 _ rfl
  clear hD6 hc5
  go_wp2_with (fail)
  go_at_call 21; refine (box_len _ w.heap.size 2 1 _ _ H6.out).mono ?_; rintro e w7 ⟨rfl, rfl⟩
  go_wp2_with (fail)
  go_at_call 18; refine (box_room _ w.heap.size 2 1 _ _ H6.out).mono ?_; rintro e w8 ⟨rfl, hb8⟩
  have hz8 := hz6.trans (hb8.mono hz6.size)
  go_wp2_with (fail)
  go_ret
  exact ⟨rfl, hz8⟩
end Go.Proofs.Ytkcfcimophjomaa

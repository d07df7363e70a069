import Derived.Test.YtkcfcimophjomaaLe
namespace Go.Proofs.Ytkcfcimophjomaa
open Go.RowKit
set_option linter.unusedVariables false
set_option linter.unusedSimpArgs false
attribute [local go_sem] conv_const
set_option maxHeartbeats 2000000 in
theorem lshown_any (w : World) : Calls Try.prog 26 #[] w fun e w' => e = .returned (.bool true) ∧ Below w.heap.size w w' := by
  have hsx : ((bstr (fun _ => 120) 1).toList == [120]) = true := by decide +kernel
  have hsb : ((strL (bL (fl (fun i => [1, 0].getD i 0) 2) 7 3 9)).toList == [129, 1]) = true := by decide +kernel
  obtain ⟨SX, hSX⟩ : ∃ S, bstr (fun _ => 120) 1 = S := ⟨_, rfl⟩
  obtain ⟨SB, hSB⟩ : ∃ S, strL (bL (fl (fun i => [1, 0].getD i 0) 2) 7 3 9) = S := ⟨_, rfl⟩
  rw [hSX] at hsx
  rw [hSB] at hsb
  have HSX := Lib.hid hSX
  have HSB := Lib.hid hSB
  clear hSX hSB
  go_enter Try.func26, Try.ntmps26
  go_wp2_with (fail)
  go_at_call 27; refine (link_new _).mono ?_; rintro e w1 ⟨rfl, hD1, hb1⟩
  have HD1 := Lib.hid hD1
  clear hD1
  go_wp2_with (fail)
  have hR1 : Rd (w1.alloc (.cells (cells8 [120]).toArray 5 (1, 2))) (.slice (some ⟨w1.heap.size, 0, none⟩) 1 1) 1 (fun _ => 120) :=
    (litm_rd w1 [120] (1, 2) (bs_256 (by decide)) (by decide) (by decide)).same (fun _ => by omega) (fun i hi => by
      obtain rfl : i = 0 := by simpa using hi
      rfl)
  have hc1 : Below w1.heap.size w1 (w1.alloc (.cells (cells8 [120]).toArray 5 (1, 2))) := (Below.refl _ _).alloc (Nat.le_refl _) _
  go_at_call 28; refine (link_send _ w.heap.size 0 [] 2 _ 120 (HD1.out.below hc1) hR1 (by simp) (by omega)).mono ?_; rintro e w2 ⟨rfl, hD2, hb2⟩
  have HD2 := Lib.hid hD2
  have hz2 : Below w.heap.size w w2 := (hb1.trans (hc1.mono hb1.size)).trans hb2
  clear hD2 hR1
  go_wp2_with (fail)
  go_at_call 30; refine (link_take_at _ w.heap.size 1 0 0 120 2 _ HD2.out rfl (by simp)).mono ?_; rintro e w3 ⟨v3, rfl, hR3, hD3, hb3⟩
  have hz3 := hz2.trans hb3
  obtain ⟨a3, c3, rfl, _, _⟩ := hR3.take
  have HD3 := Lib.hid hD3
  have HR3 := Lib.hid hR3
  clear hD3 hR3
  obtain ⟨w4, hw4⟩ : ∃ w4, w3.alloc (.cells #[.int .i64 2, .slice a3 1 c3] 54) = w4 := ⟨_, rfl⟩
  have hb4 : Below w3.heap.size w3 w4 := by rw [← hw4]; exact (Below.refl _ _).alloc (Nat.le_refl _) _
  have hs4 : w3.heap.size < w4.heap.size := by rw [← hw4]; simp
  have hk4 : w4.heap[w3.heap.size]? = some (.cells #[.int .i64 2, .slice a3 1 c3] 54 (0, 0)) := by rw [← hw4]; exact heap_alloc_new w3 _
  have HK4 := Lib.hid hk4
  have HW4 := Lib.hid hw4
  clear hk4 hw4
  go_upto_region 6 with (fail)
  rw [HW4.out]
  go_wp2_with (fail)
  have hR5 : Rd (w4.alloc (.cells (cells8 [1, 0]).toArray 5)) (.slice (some ⟨w4.heap.size, 0, none⟩) 2 2) 2 (fun i => [1, 0].getD i 0) := lit_rd w4 [1, 0] (bs_256 (by decide)) (by decide) (by decide)
  have hc4 : Below w4.heap.size w4 (w4.alloc (.cells (cells8 [1, 0]).toArray 5)) := (Below.refl _ _).alloc (Nat.le_refl _) _
  go_at_call 33; refine (burst_any _ _ 2 7 9 3 7 _ hR5 (by omega) (by omega) (by omega) (by omega) (by decide) (by decide) (by omega)).mono ?_; rintro e w6 ⟨v6, rfl, ho6, hb6⟩
  have h46 : Below w4.heap.size w4 w6 := hc4.trans (hb6.mono hc4.size)
  have h36 : Below w3.heap.size w3 w6 := hb4.trans (h46.mono hb4.size)
  have hz6 := hz3.trans (h36.mono hz3.size)
  have hk6 : w6.heap[w3.heap.size]? = some (.cells #[.int .i64 2, .slice a3 1 c3] 54 (0, 0)) := (h46.block w3.heap.size hs4).trans HK4.out
  have s0 : w6.cell? ⟨w3.heap.size, 0, none⟩ = some (.int .i64 2) := by rw [cell_of_row w6 w3.heap.size 0 _ 54 (0, 0) hk6]; rfl
  have s1 : w6.cell? ⟨w3.heap.size, 1, none⟩ = some (.slice a3 1 c3) := by rw [cell_of_row w6 w3.heap.size 1 _ 54 (0, 0) hk6]; rfl
  have cv3 := (HR3.out.below h36).conv
  rw [HSX.out] at cv3
  have cv6 := own_conv ho6 (by decide +kernel) (by decide +kernel)
  rw [HSB.out] at cv6
  have HD6 := Lib.hid (HD3.out.below h36)
  clear hk6 ho6 hR5
  go_wp2_with (fail)
  go_at_call 31; refine (link_len _ w.heap.size 1 _ HD6.out).mono ?_; rintro e w7 ⟨rfl, rfl⟩
  go_wp2_with (fail)
  go_ret
  exact ⟨rfl, hz6⟩
end Go.Proofs.Ytkcfcimophjomaa

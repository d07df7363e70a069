import Derived.Test.YtkcfcimophjomaaOh
import Derived.Laws.OwnMore
import Derived.Maps.AppendAt
namespace Go.Proofs.Ytkcfcimophjomaa
open Go.RowKit
set_option linter.unusedVariables false
set_option linter.unusedSimpArgs false
attribute [local go_sem high] min_mx max_mx
def evN (k : Nat) : List (Int × Int) := (List.range k).map fun (i : Nat) => ((i : Int) + 1, 0)
theorem evN_len (k : Nat) : (evN k).length = k := by simp [evN]
theorem evN_succ (k : Nat) : evN (k + 1) = evN k ++ [((k : Int) + 1, 0)] := by simp [evN, List.range_succ]
theorem evN_drop (k m : Nat) (h : k < m) : ∃ r, (evN m).drop k = ((k : Int) + 1, 0) :: r := by
  refine ⟨(evN m).drop (k + 1), ?_⟩
  rw [List.drop_eq_getElem_cons (by rw [evN_len]; exact h)]
  simp [evN]
set_option maxRecDepth 100000 in
set_option maxHeartbeats 2000000 in
theorem looks_at (n0 n1 n2 m0 m1 m2 k2 q L : Nat) (w : World) (h0 : n0 < 256) (h1 : n1 < 256) (h2 : n2 < 256) (hm0 : (n0 : Int) % 8 = (m0 : Int)) (hm1 : (n1 : Int) % 8 = (m1 : Int)) (hm2 : (n2 : Int) % 9 = (m2 : Int))
    (hk2 : min (m2 : Int) (1 + (m0 : Int)) = (k2 : Int)) (hL : 1 + (m0 : Int) - (k2 : Int) = (L : Int)) (hq : min (L : Int) (1 + (m1 : Int)) = (q : Int)) :
    Calls Try.prog 5 #[.agg #[.int .u8 n0, .int .u8 n1, .int .u8 n2]] w fun e w' => e = .returned (.bool true) ∧ Below w.heap.size w w' := by
  have b0 : m0 < 8 := by omega
  have b1 : m1 < 8 := by omega
  have b2 : m2 < 9 := by omega
  have hblk := heap_alloc_new w (.cells #[.int .u8 n0, .int .u8 n1, .int .u8 n2] 32)
  have hA : Below w.heap.size w (w.alloc (.cells #[.int .u8 n0, .int .u8 n1, .int .u8 n2] 32)) := (Below.refl _ _).alloc (Nat.le_refl _) _
  have HBLK := Lib.hid hblk
  have HK := Lib.hid hk2
  have HLL := Lib.hid hL
  have HQ := Lib.hid hq
  clear hblk hk2 hL hq
  go_enter Try.func5, Try.ntmps5
  go_wp2_with (fail)
  go_at_call 16; refine (oshown_any _).mono ?_; rintro e w1 ⟨rfl, hb1⟩
  have hz1 := hA.trans (hb1.mono hA.size)
  have hblk1 : w1.heap[w.heap.size]? = _ := (hb1.block w.heap.size (by simp)).trans HBLK.out
  have e0 : w1.cell? ⟨w.heap.size, 0, none⟩ = some (.int .u8 n0) := by rw [cell_of_row w1 w.heap.size 0 _ 32 (0, 0) hblk1]; rfl
  have e1 : w1.cell? ⟨w.heap.size, 1, none⟩ = some (.int .u8 n1) := by rw [cell_of_row w1 w.heap.size 1 _ 32 (0, 0) hblk1]; rfl
  have e2 : w1.cell? ⟨w.heap.size, 2, none⟩ = some (.int .u8 n2) := by rw [cell_of_row w1 w.heap.size 2 _ 32 (0, 0) hblk1]; rfl
  have hsz1 : w.heap.size < w1.heap.size := by have := hb1.size; simp at this; omega
  have HE1 := Lib.hid e1
  have HE2 := Lib.hid e2
  clear hblk1
  go_wp2_with (fail)
  go_at_call 17; refine (box_new 8 (1 + (m1 : Int)) 0 (1 + (m1 : Int)) _ (by omega)).mono ?_; rintro e w2 ⟨rfl, hD2, hb2⟩
  have hz2 := hz1.trans (hb2.mono hz1.size)
  have HD2 := Lib.hid hD2
  clear hD2 e0 e1 e2
  obtain ⟨p, hp⟩ : ∃ p, w1.heap.size = p := ⟨_, rfl⟩
  rw [hp] at HD2 hb2 hsz1
  go_wp2_with (fail)
  clear hp
  have hz1s : w.heap.size ≤ p := by omega
  have hb12 : Below p w1 w2 := hb2
  go_loopw [6] (fun i wr => ∃ k : Nat, k ≤ 1 + m0 ∧ i = .int .i64 ((k : Int) + 1) ∧ IsBox wr p 8 (1 + (m1 : Int)) 0 (evN k) ∧ Below p w1 wr) (fun i _ => 2 + m0 - (intOf i).toNat)
  case atStart => exact ⟨0, by omega, rfl, HD2.out, hb12⟩
  case round =>
    obtain ⟨k, hk, rfl, hD, hbel⟩ := hrel
    have HD := Lib.hid hD
    clear hD
    by_cases hlt : k < 1 + m0
    · have q1 : (k : Int) + 1 ≤ 1 + (m0 : Int) := by omega
      go_wp2_with (fail)
      go_at_call 19; refine (box_add_ok _ p 8 _ 0 _ 0 _ HD.out (by rw [evN_len]; omega) (by rw [evN_len]; omega) (by omega) (by omega) (by rw [evN_len]; omega)).mono ?_; rintro e w4 ⟨rfl, hD4, hb4⟩
      rw [← evN_succ] at hD4
      have HD4 := Lib.hid hD4
      clear hD4
      go_wp2_with (fail)
      go_roundw
      case rel => exact ⟨k + 1, by omega, by go_num, HD4.out, hbel.trans hb4⟩
      case measure => simp [intOf]; omega
    · obtain rfl : k = 1 + m0 := by omega
      have q1 : ¬ ((1 + m0 : Nat) : Int) + 1 ≤ 1 + (m0 : Int) := by omega
      have f1 : wr.cell? ⟨w.heap.size, 1, none⟩ = some (.int .u8 n1) := (hbel.cell (p := ⟨w.heap.size, 1, none⟩) hsz1).trans HE1.out
      have f2 : wr.cell? ⟨w.heap.size, 2, none⟩ = some (.int .u8 n2) := (hbel.cell (p := ⟨w.heap.size, 2, none⟩) hsz1).trans HE2.out
      go_wp2_with (fail)
      go_at_call 22; refine (box_sent _ p 8 _ 0 m2 _ k2 HD.out (by rw [evN_len]; have := HK.out; omega) (by rw [evN_len]; omega) (by omega) (by omega) (by omega) (by omega)).mono ?_; rintro e w5 ⟨rfl, hD5, hb5⟩
      rw [Int.zero_add] at hD5 ⊢
      have hw5 : Below p wr w5 := grown_below hb5 (Nat.le_refl _) HD.out.lt
      obtain ⟨E, hE⟩ : ∃ E, (evN (1 + m0)).drop k2 = E := ⟨_, rfl⟩
      have hEl : E.length = L := by rw [← hE, List.length_drop, evN_len]; have := HLL.out; omega
      have hEh : 0 < L → ∃ r, E = ((k2 : Int) + 1, 0) :: r := fun h => by rw [← hE]; exact evN_drop k2 _ (by have := HLL.out; omega)
      rw [hE] at hD5
      have HD5 := Lib.hid hD5
      have HEl := Lib.hid hEl
      have HEh := Lib.hid hEh
      have hL8 : L ≤ 8 := by have := HLL.out; omega
      have hqL : q ≤ L := by have := HQ.out; omega
      have hTl : (E.take q).length = q := by rw [List.length_take, HEl.out]; omega
      have HTl := Lib.hid hTl
      clear hD5 hE hEl hEh hTl f1 f2
      go_wp2_with (fail)
      go_at_call 20; refine (box_batch _ p 8 _ _ _ q HD5.out (by rw [HEl.out]; have := HQ.out; omega) (by rw [HEl.out]; omega)).mono ?_; rintro e w6 ⟨v6, rfl, ho6, hb6⟩
      obtain ⟨a6, c6, rfl, h61, h62⟩ := ownE_slice ho6
      have HO6 := Lib.hid ho6
      have HD6 := Lib.hid (HD5.out.below hb6)
      clear ho6
      go_wp2_with (fail)
      go_at_call 20; refine (box_batch _ p 8 _ _ _ q HD6.out (by rw [HEl.out]; have := HQ.out; omega) (by rw [HEl.out]; omega)).mono ?_; rintro e w7 ⟨v7, rfl, ho7, hb7⟩
      obtain ⟨a7, c7, rfl, h71, h72⟩ := ownE_slice ho7
      have HO7 := Lib.hid ho7
      have HO6b := Lib.hid (ownE_below HO6.out hb7)
      clear ho7
      go_wp2_with (fail)
      go_at_call 23; refine (same_true _ _ _ (E.take q) (by rw [HTl.out]; exact RdC.of_own HO6b.out) (by rw [HTl.out]; exact RdC.of_own HO7.out) (by rw [HTl.out]; omega)).mono ?_; rintro e w8 ⟨rfl, hb8⟩
      have HO6c := Lib.hid (ownE_below HO6b.out hb8)
      have HO7c := Lib.hid (ownE_below HO7.out hb8)
      have hB5 : Below p w1 w5 := hbel.trans hw5
      have hz58 : Below w5.heap.size w5 w8 := (hb6.trans (hb7.mono hb6.size)).trans (hb8.mono (Nat.le_trans hb6.size hb7.size))
      have h58s : w5.heap.size ≤ w8.heap.size := hz58.size
      go_wp2_with (fail)
      go_loopw [11] (fun i wx => ∃ j : Nat, j ≤ q ∧ i = .int .i64 j ∧ Below w5.heap.size w5 wx ∧ w8.grownBy wx (Value.slice a6 q c6).ownBlock ∧ ∃ xs, wx.ownsRow w5.heap.size 40 12 (.slice a6 q c6) q xs) (fun i _ => q - (intOf i).toNat)
      case atStart => exact ⟨0, by omega, rfl, hz58, World.grownBy.refl _ _, _, HO6c.out⟩
      case round =>
        obtain ⟨j, hj, rfl, hbx, hgx, xs, hox⟩ := hrel
        by_cases hlt2 : j < q
        · have q1 : (j : Int) < (q : Int) := by omega
          have q0 : (0 : Int) ≤ (j : Int) := by omega
          obtain ⟨g, rfl⟩ : ∃ g, a6 = some ⟨g, 0, none⟩ := by
            rcases hox.2 with ⟨_, h⟩ | ⟨g, cap, cur, h, _⟩
            · omega
            · injection h with e1; exact ⟨g, e1⟩
          obtain ⟨cv, hc⟩ : ∃ cv, wr.cell? ⟨g, j * 12 + 1, none⟩ = some cv := ⟨_, by rw [hox.cellAt (j * 12 + 1) (by omega), List.getElem?_eq_getElem (by rw [hox.1]; omega)]⟩
          have hf := hox.frozenAt (j * 12 + 1)
          have hst := hox.stored (j * 12 + 1) (.int .i64 (-1))
          have hgl := hox.lt g rfl
          have HST := Lib.hid hst
          have HGX := Lib.hid hgx
          clear hst hgx hox
          go_wp2_with (fail)
          go_roundw
          case rel => exact ⟨j + 1, by omega, by go_num, hbx.setCell hgl.1 _, HGX.out.trans HST.out.2, _, HST.out.1⟩
          case measure => simp [intOf]; omega
        · obtain rfl : j = q := by omega
          have hne7 : (Value.slice a7 j c7).ownBlock = none ∨ (Value.slice a7 j c7).ownBlock ≠ (Value.slice a6 j c6).ownBlock := by
            cases a7 with
            | none => exact .inl rfl
            | some x7 =>
              refine .inr ?_
              cases a6 with
              | none => simp [Value.ownBlock]
              | some x6 =>
                have r7 := HO7.out.lt x7.block rfl
                have r6 := HO6.out.lt x6.block rfl
                simp only [Value.ownBlock, ne_eq, Option.some.injEq]
                omega
          have HO7x := Lib.hid (HO7c.out.kept hgx hne7)
          have HDx := Lib.hid (HD5.out.below hbx)
          clear hox hgx
          go_wp2_with (fail)
          go_at_call 20; refine (box_batch _ p 8 _ _ _ j HDx.out (by rw [HEl.out]; have := HQ.out; omega) (by rw [HEl.out]; omega)).mono ?_; rintro e w9 ⟨v9, rfl, ho9, hb9⟩
          have HO9 := Lib.hid ho9
          have HO7y := Lib.hid (ownE_below HO7x.out hb9)
          clear ho9
          go_wp2_with (fail)
          go_at_call 23; refine (same_true _ _ _ (E.take j) (by rw [HTl.out]; exact RdC.of_own HO9.out) (by rw [HTl.out]; exact RdC.of_own HO7y.out) (by rw [HTl.out]; omega)).mono ?_; rintro e wz ⟨rfl, hbz⟩
          have HRz := Lib.hid ((RdC.of_own HO7y.out).below hbz)
          have hz5z : Below w5.heap.size w5 wz := (hbx.trans (hb9.mono hbx.size)).trans (hbz.mono (Nat.le_trans hbx.size hb9.size))
          have HDz := Lib.hid (HD5.out.below hz5z)
          have hp5 : p < w5.heap.size := HD5.out.lt
          have hBz : Below p w1 wz := hB5.trans (hz5z.mono (by omega))
          have hZ : Below w.heap.size w wz := hz1.trans (hBz.mono (by omega))
          have d2 : wz.cell? ⟨w.heap.size, 2, none⟩ = some (.int .u8 n2) := (hBz.cell (p := ⟨w.heap.size, 2, none⟩) hsz1).trans HE2.out
          have d1 : wz.cell? ⟨w.heap.size, 1, none⟩ = some (.int .u8 n1) := (hBz.cell (p := ⟨w.heap.size, 1, none⟩) hsz1).trans HE1.out
          have g1 := HK.out
          have g2 := HLL.out
          have g3 := HQ.out
          have g4 : ((k2 : Int) == 1 + (m0 : Int) - (L : Int)) = true := by rw [beq_iff_eq]; omega
          have HLX := HEl.out
          by_cases hL0 : L = 0
          · have g5 : ((L : Int) == 0) = true := by rw [beq_iff_eq]; omega
            clear hL0
            go_wp2_with (fail)
            go_at_call 21; refine (box_len _ p 8 _ _ _ HDz.out).mono ?_; rintro e wy ⟨rfl, rfl⟩
            go_wp2_with (fail)
            go_ret
            exact ⟨rfl, hZ⟩
          · have g5 : ((L : Int) == 0) = false := by rw [beq_eq_false_iff_ne]; omega
            obtain ⟨r, hr⟩ := HEh.out (by omega)
            obtain ⟨b7, off7, rfl, hb7l, hc7⟩ := HRz.out.at (by omega)
            have hj1 : 0 < j := by omega
            have hc := hc7 1 (.int .i64 ((k2 : Int) + 1)) (by
              rw [hr]
              obtain ⟨j', rfl⟩ : ∃ j', j = j' + 1 := ⟨j - 1, by omega⟩
              rfl)
            have q1 : (0 : Int) < (j : Int) := by omega
            clear hL0 hr hc7
            go_wp2_with (fail)
            go_at_call 21; refine (box_len _ p 8 _ _ _ HDz.out).mono ?_; rintro e wy ⟨rfl, rfl⟩
            go_wp2_with (fail)
            go_ret
            exact ⟨rfl, hZ⟩
theorem outboxLooks_any (n0 n1 n2 : Nat) (w : World) (h0 : n0 < 256) (h1 : n1 < 256) (h2 : n2 < 256) :
    Calls Try.prog 5 #[.agg #[.int .u8 n0, .int .u8 n1, .int .u8 n2]] w fun e w' => e = .returned (.bool true) ∧ Below w.heap.size w w' :=
  looks_at n0 n1 n2 (n0 % 8) (n1 % 8) (n2 % 9) (min (n2 % 9) (1 + n0 % 8)) (min (1 + n0 % 8 - min (n2 % 9) (1 + n0 % 8)) (1 + n1 % 8)) (1 + n0 % 8 - min (n2 % 9) (1 + n0 % 8)) w h0 h1 h2 (by omega) (by omega) (by omega) (by omega) (by omega) (by omega)
end Go.Proofs.Ytkcfcimophjomaa

import Derived.Test.YtkcfcimophjomaaOutboxLooks
import Derived.Deep.Grids
namespace Go.Proofs.Ytkcfcimophjomaa
open Go.RowKit
set_option linter.unusedVariables false
set_option linter.unusedSimpArgs false
attribute [local go_sem high] min_mx max_mx
def evS (g c : Nat) : List (Int × Int) := (List.range c).map fun (i : Nat) => ((g : Int) + 1 + i, 7 * ((g : Int) + 1 + i))
theorem evS_len (g c : Nat) : (evS g c).length = c := by simp [evS]
theorem evS_succ (g c : Nat) : evS g (c + 1) = evS g c ++ [((g : Int) + 1 + c, 7 * ((g : Int) + 1 + c))] := by simp [evS, List.range_succ]
theorem evS_get (g c k : Nat) (h : k < c) : (evS g c)[k]? = some ((g : Int) + 1 + k, 7 * ((g : Int) + 1 + k)) := by simp [evS, h]
theorem evS_drop (g c q : Nat) (h : q ≤ c) : (evS g c).drop q = evS (g + q) (c - q) := by
  apply List.ext_getElem?
  intro i
  rw [List.getElem?_drop]
  rcases Nat.lt_or_ge (q + i) c with h1 | h1
  · rw [evS_get _ _ _ h1, evS_get _ _ _ (by omega)]
    congr 2 <;> push_cast <;> omega
  · rw [List.getElem?_eq_none (by rw [evS_len]; exact h1), List.getElem?_eq_none (by rw [evS_len]; omega)]
theorem evS_take (g c q : Nat) (h : q ≤ c) : (evS g c).take q = evS g q := by
  apply List.ext_getElem?
  intro i
  rw [List.getElem?_take]
  rcases Nat.lt_or_ge i q with h1 | h1
  · rw [if_pos h1, evS_get _ _ _ h1, evS_get _ _ _ (by omega)]
  · rw [if_neg (by omega), List.getElem?_eq_none (by rw [evS_len]; exact h1)]
/-- A row of bools. -/
def IsBools (w : World) (a : Option Addr) (n c : Nat) : Prop :=
  n ≤ c ∧ c ≤ 9223372036854775807 ∧ (0 < n → ∃ b off, a = some ⟨b, off, none⟩ ∧ b < w.heap.size ∧ ∀ i, i < n → ∃ x, w.cell? ⟨b, off + i, none⟩ = some (.bool x))
theorem bools_of {w : World} {a : Addr} {len cap : Nat} {B : Nat → Bool} (hl : len ≤ cap) (hm : cap ≤ maxLen) (h : ∀ i, i < cap → w.cell? (a.add i) = some (.bool (B i))) : IsBools w (some a) len cap := by
  refine ⟨hl, by unfold maxLen at hm; omega, fun h0 => ?_⟩
  obtain ⟨b, off, spot⟩ := a
  have hc0 := h 0 (by omega)
  have hspot : spot = none := by simpa [Addr.add] using World.cell?_spot hc0
  subst hspot
  refine ⟨b, off, rfl, block_lt_of_cell (by simpa [Addr.add] using hc0), fun i hi => ⟨B i, ?_⟩⟩
  have e : (⟨b, off, none⟩ : Addr).add i = ⟨b, off + i, none⟩ := by unfold Addr.add; split <;> simp_all
  rw [← e]; exact h i (by omega)
set_option maxRecDepth 100000 in
set_option maxHeartbeats 4000000 in
theorem sends_at (a1 : Option Addr) (H c1 n0 n1 n2 m0 m1 m2 : Nat) (w : World) (hv : IsBools w a1 H c1) (h0 : n0 < 256) (h1 : n1 < 256) (h2 : n2 < 256) (hm0 : (n0 : Int) % 16 = (m0 : Int)) (hm1 : (n1 : Int) % 8 = (m1 : Int)) (hm2 : (n2 : Int) % 64 = (m2 : Int)) :
    Calls Try.prog 4 #[.agg #[.int .u8 n0, .int .u8 n1, .int .u8 n2], .slice a1 H c1] w fun e w' => e = .returned (.bool true) ∧ Below w.heap.size w w' := by
  obtain ⟨hHc, hcM, hrow⟩ := hv
  have b0 : m0 < 16 := by omega
  have b1 : m1 < 8 := by omega
  have b2 : m2 < 64 := by omega
  have hH63 : H ≤ 9223372036854775807 := by omega
  have hblk := heap_alloc_new w (.cells #[.int .u8 n0, .int .u8 n1, .int .u8 n2] 32)
  have hA : Below w.heap.size w (w.alloc (.cells #[.int .u8 n0, .int .u8 n1, .int .u8 n2] 32)) := (Below.refl _ _).alloc (Nat.le_refl _) _
  have HBLK := Lib.hid hblk
  have HROW := Lib.hid hrow
  clear hblk hrow
  go_enter Try.func4, Try.ntmps4
  go_wp2_with (fail)
  go_at_call 16; refine (oshown_any _).mono ?_; rintro e w1 ⟨rfl, hb1⟩
  have hz1 := hA.trans (hb1.mono hA.size)
  have hblk1 : w1.heap[w.heap.size]? = _ := (hb1.block w.heap.size (by simp)).trans HBLK.out
  have e0 : w1.cell? ⟨w.heap.size, 0, none⟩ = some (.int .u8 n0) := by rw [cell_of_row w1 w.heap.size 0 _ 32 (0, 0) hblk1]; rfl
  have e1 : w1.cell? ⟨w.heap.size, 1, none⟩ = some (.int .u8 n1) := by rw [cell_of_row w1 w.heap.size 1 _ 32 (0, 0) hblk1]; rfl
  have e2 : w1.cell? ⟨w.heap.size, 2, none⟩ = some (.int .u8 n2) := by rw [cell_of_row w1 w.heap.size 2 _ 32 (0, 0) hblk1]; rfl
  have hsz1 : w.heap.size < w1.heap.size := by have := hb1.size; simp at this; omega
  clear hblk1
  go_wp2_with (fail)
  go_at_call 17; refine (box_new (1 + (m0 : Int)) (1 + (m1 : Int)) 0 (1 + (m1 : Int)) _ (by omega)).mono ?_; rintro e w2 ⟨rfl, hD2, hb2⟩
  have HD2 := Lib.hid hD2
  clear hD2 e0 e1 e2
  obtain ⟨p, hp⟩ : ∃ p, w1.heap.size = p := ⟨_, rfl⟩
  rw [hp] at HD2 hb2 hsz1
  go_wp2_with (fail)
  clear hp
  have hz1s : w.heap.size ≤ p := by omega
  go_loopw [10, 11, 12] (fun s10 s11 s12 wr => ∃ g c i : Nat, i ≤ 200 ∧ g + c ≤ m2 ∧ c ≤ 1 + m0 ∧ i ≤ g + H ∧ s10 = .int .i64 ((g : Int) + 1 + (c : Int)) ∧ s11 = .int .i64 (g : Int) ∧ s12 = .int .i64 (i : Int) ∧ IsBox wr p (1 + (m0 : Int)) (1 + (m1 : Int)) (g : Int) (evS g c) ∧ Below p w1 wr) (fun _ _ i _ => 200 - (intOf i).toNat)
  case atStart => exact ⟨0, 0, 0, by omega, by omega, by omega, by omega, rfl, rfl, rfl, HD2.out, hb2⟩
  case round =>
    obtain ⟨g, c, i, hi, hgc, hc, hiH, rfl, rfl, rfl, hD, hbel⟩ := hrel
    have HD := Lib.hid hD
    clear hD
    by_cases hlt : i < 200
    · have q1 : (i : Int) < 200 := by omega
      by_cases hg : g < m2
      · have q2 : (g : Int) < (m2 : Int) := by omega
        go_wp2_with (fail)
        go_loopw [10] (fun s10 wr => ∃ c : Nat, g + c ≤ m2 ∧ c ≤ 1 + m0 ∧ s10 = .int .i64 ((g : Int) + 1 + (c : Int)) ∧ IsBox wr p (1 + (m0 : Int)) (1 + (m1 : Int)) (g : Int) (evS g c) ∧ Below p w1 wr) (fun s _ => m2 + 1 - (intOf s).toNat)
        case atStart => exact ⟨c, hgc, hc, rfl, HD.out, hbel⟩
        case round =>
          clear HD hbel
          obtain ⟨d, hgd, hd, rfl, hD, hbel⟩ := hrel
          have HD := Lib.hid hD
          clear hD
          by_cases hn : g + d < m2
          · have q3 : (g : Int) + 1 + (d : Int) ≤ (m2 : Int) := by omega
            by_cases hr : d < 1 + m0
            · have q4 : decide (((evS g d).length : Int) < 1 + (m0 : Int)) = true := by rw [evS_len]; simp; omega
              have Q4 := Lib.hid q4
              clear q4
              go_wp2_with (fail)
              go_at_call 18; refine (box_room _ p _ _ _ _ HD.out).mono ?_; rintro e w3 ⟨rfl, hb3⟩
              rw [Q4.out]
              have HD3 := Lib.hid (HD.out.below hb3)
              have hB3 : Below p w1 w3 := hbel.trans (hb3.mono (by have := HD.out.lt; omega))
              go_wp2_with (fail)
              go_at_call 19; refine (box_add_ok _ p _ _ (g : Int) ((g : Int) + 1 + (d : Int)) (7 * ((g : Int) + 1 + (d : Int))) _ HD3.out (by rw [evS_len]; omega) (by rw [evS_len]; omega) (by omega) (by omega) (by rw [evS_len]; omega)).mono ?_; rintro e w4 ⟨rfl, hD4, hb4⟩
              rw [← evS_succ] at hD4
              have HD4 := Lib.hid hD4
              clear hD4
              go_wp2_with (fail)
              go_roundw
              case rel => exact ⟨d + 1, by omega, by omega, (by first | (congr 1; done) | (congr 1; omega)), HD4.out, hB3.trans hb4⟩
              case measure => simp [intOf]; omega
            · have q4 : decide (((evS g d).length : Int) < 1 + (m0 : Int)) = false := by rw [evS_len]; simp; omega
              have Q4 := Lib.hid q4
              clear q4
              go_wp2_with (fail)
              go_at_call 18; refine (box_room _ p _ _ _ _ HD.out).mono ?_; rintro e w3 ⟨rfl, hb3⟩
              rw [Q4.out]
              have HD3 := Lib.hid (HD.out.below hb3)
              have hB3 : Below p w1 w3 := hbel.trans (hb3.mono (by have := HD.out.lt; omega))
              have hc1 : 1 ≤ d := by omega
              clear HD hb3
              obtain ⟨r, hr⟩ : ∃ r, min (1 + m1) d = r + 1 := ⟨min (1 + m1) d - 1, by omega⟩
              have hrd : r + 1 ≤ d := by omega
              have hr8 : r + 1 ≤ 1 + m1 := by omega
              have HR0 := Lib.hid hr
              clear hr
              go_wp2_with (fail)
              go_at_call 20; refine (box_batch _ p _ _ _ _ (r + 1) HD3.out (by rw [evS_len]; have := HR0.out; omega) (by rw [evS_len]; omega)).mono ?_; rintro e w5 ⟨v5, rfl, ho5, hb5⟩
              rw [evS_take _ _ _ hrd] at ho5
              obtain ⟨b5, c5, rfl, h51, h52⟩ : ∃ b c, v5 = .slice (some ⟨b, 0, none⟩) (r + 1) c ∧ r + 1 ≤ c ∧ c ≤ 9223372036854775807 := by
                rcases ho5.2 with ⟨_, h⟩ | ⟨g5, cap, cur, h, _, _, h3, h4, _⟩
                · omega
                · exact ⟨g5, cap, h, h3, by unfold maxLen at h4; omega⟩
              have HO5 := Lib.hid ho5
              have HD5 := Lib.hid (HD3.out.below hb5)
              have hp3 := HD3.out.lt
              have hB5 : Below p w1 w5 := hB3.trans (hb5.mono (by omega))
              clear ho5
              have q5 : (((r : Int) + 1) == 0) = false := by rw [beq_eq_false_iff_ne]; omega
              go_wp2_with (fail)
              go_at_call 21; refine (box_len _ p _ _ _ _ HD5.out).mono ?_; rintro e wy ⟨rfl, rfl⟩
              rw [evS_len]
              have q6 : decide (1 + (m0 : Int) < (d : Int)) = false := by simp; omega
              have q7 : decide (1 + (m1 : Int) < (r : Int) + 1) = false := by simp; omega
              have q8 : ¬ (1 + (m1 : Int) < (r : Int) + 1) := by omega
              have q9 : ¬ (1 + (m0 : Int) < (d : Int)) := by omega
              go_wp2_with (fail)
              clear q5 q6 q7 q8 q9
              go_loopw [14] (fun s14 wr => ∃ k : Nat, k ≤ r + 1 ∧ s14 = .int .i64 (k : Int) ∧ Below w5.heap.size w5 wr) (fun s _ => r + 1 - (intOf s).toNat)
              case atStart => exact ⟨0, by omega, rfl, Below.refl _ _⟩
              case round =>
                obtain ⟨k, hk, rfl, hbk⟩ := hrel
                have HX5 := Lib.hid (ownE_below HO5.out hbk)
                by_cases hkr : k < r + 1
                · have hl5 : b5 < wr.heap.size := (HX5.out.lt b5 rfl).2
                  have hxs := evS_get g (r + 1) k hkr
                  have rN : ∀ u : WB wr.heap.size wr, u.w.cell? ⟨b5, k * 12 + 1, none⟩ = some (.int .i64 ((g : Int) + 1 + (k : Int))) := fun u => (u.2.cell (p := ⟨b5, k * 12 + 1, none⟩) hl5).trans (by rw [HX5.out.cellAt _ (by omega)]; exact evs_at _ k 1 _ _ hxs rfl)
                  have rH : ∀ u : WB wr.heap.size wr, u.w.cell? ⟨b5, k * 12 + 7, none⟩ = some (.int .i64 (7 * ((g : Int) + 1 + (k : Int)))) := fun u => (u.2.cell (p := ⟨b5, k * 12 + 7, none⟩) hl5).trans (by rw [HX5.out.cellAt _ (by omega)]; exact evs_at _ k 7 _ _ hxs rfl)
                  have k1 : (k : Int) < ((r + 1 : Nat) : Int) := by omega
                  have k0 : (0 : Int) ≤ (k : Int) := by omega
                  have hw1 : IntKind.i64.wrap ((g : Int) + 1) = (g : Int) + 1 := IntWalk.i64_in _ (by omega)
                  have hw2 : IntKind.i64.wrap ((g : Int) + 1 + (k : Int)) = (g : Int) + 1 + (k : Int) := IntWalk.i64_in _ (by omega)
                  have hw3 : IntKind.i64.wrap (7 * ((g : Int) + 1 + (k : Int))) = 7 * ((g : Int) + 1 + (k : Int)) := IntWalk.i64_in _ (by omega)
                  have n1' : ((g : Int) + 1 + (k : Int) != (g : Int) + 1 + (k : Int)) = false := by simp
                  have n2' : (7 * ((g : Int) + 1 + (k : Int)) != 7 * ((g : Int) + 1 + (k : Int))) = false := by simp
                  clear hxs
                  go_wp2_with (fail)
                  refine wp_region_wb2 (by kernel_rfl) (by kernel_rfl) ?_
                  repeat (go_big_quiet_step (fail))
                  refine wpQuiet_nil ?_; intro wq hbq
                  clear rN rH hw1 hw2 hw3 n1' n2'
                  go_wp2_with (fail)
                  go_roundw
                  case rel => exact ⟨k + 1, by omega, by go_num, hbk.trans (hbq.mono hbk.size)⟩
                  case measure => simp [intOf]; omega
                · obtain rfl : k = r + 1 := by omega
                  have HDX := Lib.hid (HD5.out.below hbk)
                  have hBX : Below p w1 wr := hB5.trans (hbk.mono (by have := HD5.out.lt; omega))
                  have hWX : Below w.heap.size w wr := hz1.trans (hBX.mono hz1s)
                  by_cases hiH2 : i < H
                  · obtain ⟨b, off, rfl, hbl, hcs⟩ := HROW.out (by omega)
                    obtain ⟨x, hx⟩ := hcs i hiH2
                    have hxr : wr.cell? ⟨b, off + i, none⟩ = some (.bool x) := (hWX.cell (p := ⟨b, off + i, none⟩) hbl).trans hx
                    have k1 : (i : Int) < (H : Int) := by omega
                    clear hx hcs
                    cases x with
                    | false =>
                      go_wp2_with (fail)
                      go_at_call 22; refine (box_sent_lt _ p _ _ (g : Int) ((g : Int) - 1) _ HDX.out (by rw [evS_len]; omega) (by omega) (by omega) (by omega) (by omega) (by omega)).mono ?_; rintro e w8 ⟨rfl, hD8, hb8⟩
                      have HD8 := Lib.hid hD8
                      have hB8 : Below p w1 w8 := hBX.trans (grown_below hb8 (Nat.le_refl _) HDX.out.lt)
                      clear hD8
                      have hnn : ((g : Int) != (g : Int)) = false := by simp
                      go_wp2_with (fail)
                      go_roundw
                      case rel => exact ⟨g, d, i + 1, by omega, by omega, by omega, by omega, rfl, rfl, by go_num, HD8.out, hB8⟩
                      case measure => simp [intOf]; omega
                    | true =>
                      have hc5 := HX5.out.cellAt (r * 12 + 1) (by omega)
                      have hc5' : wr.cell? ⟨b5, r * 12 + 1, none⟩ = some (.int .i64 ((g : Int) + 1 + (r : Int))) := by
                        rw [hc5]; exact evs_at _ r 1 _ _ (evS_get g (r + 1) r (by omega)) rfl
                      clear hc5
                      go_wp2_with (fail)
                      go_at_call 22; refine (box_sent _ p _ _ (g : Int) ((g : Int) + 1 + (r : Int)) _ (r + 1) HDX.out (by rw [evS_len]; omega) (by rw [evS_len]; omega) (by omega) (by omega) (by omega) (by omega)).mono ?_; rintro e w8 ⟨rfl, hD8, hb8⟩
                      rw [show (g : Int) + ((r + 1 : Nat) : Int) = (g : Int) + 1 + (r : Int) by omega] at hD8 ⊢
                      rw [evS_drop _ _ _ (by omega)] at hD8
                      have HD8 := Lib.hid hD8
                      have hB8 : Below p w1 w8 := hBX.trans (grown_below hb8 (Nat.le_refl _) HDX.out.lt)
                      clear hD8 hc5'
                      have hnn : ((g : Int) + 1 + (r : Int) != (g : Int) + 1 + (r : Int)) = false := by simp
                      go_wp2_with (fail)
                      go_roundw
                      case rel => exact ⟨g + (r + 1), d - (r + 1), i + 1, by omega, by omega, by omega, by omega, by congr 1; omega, by congr 1; omega, (by first | go_num | (congr 1; omega)), by rw [show ((g + (r + 1) : Nat) : Int) = (g : Int) + 1 + (r : Int) by omega]; exact HD8.out, hB8⟩
                      case measure => simp [intOf]; omega
                  · have k1 : ¬ (i : Int) < (H : Int) := by omega
                    have hc5 := HX5.out.cellAt (r * 12 + 1) (by omega)
                    have hc5' : wr.cell? ⟨b5, r * 12 + 1, none⟩ = some (.int .i64 ((g : Int) + 1 + (r : Int))) := by
                      rw [hc5]; exact evs_at _ r 1 _ _ (evS_get g (r + 1) r (by omega)) rfl
                    clear hc5
                    go_wp2_with (fail)
                    go_at_call 22; refine (box_sent _ p _ _ (g : Int) ((g : Int) + 1 + (r : Int)) _ (r + 1) HDX.out (by rw [evS_len]; omega) (by rw [evS_len]; omega) (by omega) (by omega) (by omega) (by omega)).mono ?_; rintro e w8 ⟨rfl, hD8, hb8⟩
                    rw [show (g : Int) + ((r + 1 : Nat) : Int) = (g : Int) + 1 + (r : Int) by omega] at hD8 ⊢
                    rw [evS_drop _ _ _ (by omega)] at hD8
                    have HD8 := Lib.hid hD8
                    have hB8 : Below p w1 w8 := hBX.trans (grown_below hb8 (Nat.le_refl _) HDX.out.lt)
                    clear hD8 hc5'
                    have hnn : ((g : Int) + 1 + (r : Int) != (g : Int) + 1 + (r : Int)) = false := by simp
                    go_wp2_with (fail)
                    go_roundw
                    case rel => exact ⟨g + (r + 1), d - (r + 1), i + 1, by omega, by omega, by omega, by omega, by congr 1; omega, by congr 1; omega, (by first | go_num | (congr 1; omega)), by rw [show ((g + (r + 1) : Nat) : Int) = (g : Int) + 1 + (r : Int) by omega]; exact HD8.out, hB8⟩
                    case measure => simp [intOf]; omega
          · have q3 : ¬ (g : Int) + 1 + (d : Int) ≤ (m2 : Int) := by omega
            have hc1 : 1 ≤ d := by omega
            have HD3 := HD
            have hB3 := hbel
            clear HD hbel
            obtain ⟨r, hr⟩ : ∃ r, min (1 + m1) d = r + 1 := ⟨min (1 + m1) d - 1, by omega⟩
            have hrd : r + 1 ≤ d := by omega
            have hr8 : r + 1 ≤ 1 + m1 := by omega
            have HR0 := Lib.hid hr
            clear hr
            go_wp2_with (fail)
            go_at_call 20; refine (box_batch _ p _ _ _ _ (r + 1) HD3.out (by rw [evS_len]; have := HR0.out; omega) (by rw [evS_len]; omega)).mono ?_; rintro e w5 ⟨v5, rfl, ho5, hb5⟩
            rw [evS_take _ _ _ hrd] at ho5
            obtain ⟨b5, c5, rfl, h51, h52⟩ : ∃ b c, v5 = .slice (some ⟨b, 0, none⟩) (r + 1) c ∧ r + 1 ≤ c ∧ c ≤ 9223372036854775807 := by
              rcases ho5.2 with ⟨_, h⟩ | ⟨g5, cap, cur, h, _, _, h3, h4, _⟩
              · omega
              · exact ⟨g5, cap, h, h3, by unfold maxLen at h4; omega⟩
            have HO5 := Lib.hid ho5
            have HD5 := Lib.hid (HD3.out.below hb5)
            have hp3 := HD3.out.lt
            have hB5 : Below p w1 w5 := hB3.trans (hb5.mono (by omega))
            clear ho5
            have q5 : (((r : Int) + 1) == 0) = false := by rw [beq_eq_false_iff_ne]; omega
            go_wp2_with (fail)
            go_at_call 21; refine (box_len _ p _ _ _ _ HD5.out).mono ?_; rintro e wy ⟨rfl, rfl⟩
            rw [evS_len]
            have q6 : decide (1 + (m0 : Int) < (d : Int)) = false := by simp; omega
            have q7 : decide (1 + (m1 : Int) < (r : Int) + 1) = false := by simp; omega
            have q8 : ¬ (1 + (m1 : Int) < (r : Int) + 1) := by omega
            have q9 : ¬ (1 + (m0 : Int) < (d : Int)) := by omega
            go_wp2_with (fail)
            clear q5 q6 q7 q8 q9
            go_loopw [14] (fun s14 wr => ∃ k : Nat, k ≤ r + 1 ∧ s14 = .int .i64 (k : Int) ∧ Below w5.heap.size w5 wr) (fun s _ => r + 1 - (intOf s).toNat)
            case atStart => exact ⟨0, by omega, rfl, Below.refl _ _⟩
            case round =>
              obtain ⟨k, hk, rfl, hbk⟩ := hrel
              have HX5 := Lib.hid (ownE_below HO5.out hbk)
              by_cases hkr : k < r + 1
              · have hl5 : b5 < wr.heap.size := (HX5.out.lt b5 rfl).2
                have hxs := evS_get g (r + 1) k hkr
                have rN : ∀ u : WB wr.heap.size wr, u.w.cell? ⟨b5, k * 12 + 1, none⟩ = some (.int .i64 ((g : Int) + 1 + (k : Int))) := fun u => (u.2.cell (p := ⟨b5, k * 12 + 1, none⟩) hl5).trans (by rw [HX5.out.cellAt _ (by omega)]; exact evs_at _ k 1 _ _ hxs rfl)
                have rH : ∀ u : WB wr.heap.size wr, u.w.cell? ⟨b5, k * 12 + 7, none⟩ = some (.int .i64 (7 * ((g : Int) + 1 + (k : Int)))) := fun u => (u.2.cell (p := ⟨b5, k * 12 + 7, none⟩) hl5).trans (by rw [HX5.out.cellAt _ (by omega)]; exact evs_at _ k 7 _ _ hxs rfl)
                have k1 : (k : Int) < ((r + 1 : Nat) : Int) := by omega
                have k0 : (0 : Int) ≤ (k : Int) := by omega
                have hw1 : IntKind.i64.wrap ((g : Int) + 1) = (g : Int) + 1 := IntWalk.i64_in _ (by omega)
                have hw2 : IntKind.i64.wrap ((g : Int) + 1 + (k : Int)) = (g : Int) + 1 + (k : Int) := IntWalk.i64_in _ (by omega)
                have hw3 : IntKind.i64.wrap (7 * ((g : Int) + 1 + (k : Int))) = 7 * ((g : Int) + 1 + (k : Int)) := IntWalk.i64_in _ (by omega)
                have n1' : ((g : Int) + 1 + (k : Int) != (g : Int) + 1 + (k : Int)) = false := by simp
                have n2' : (7 * ((g : Int) + 1 + (k : Int)) != 7 * ((g : Int) + 1 + (k : Int))) = false := by simp
                clear hxs
                go_wp2_with (fail)
                refine wp_region_wb2 (by kernel_rfl) (by kernel_rfl) ?_
                repeat (go_big_quiet_step (fail))
                refine wpQuiet_nil ?_; intro wq hbq
                clear rN rH hw1 hw2 hw3 n1' n2'
                go_wp2_with (fail)
                go_roundw
                case rel => exact ⟨k + 1, by omega, by go_num, hbk.trans (hbq.mono hbk.size)⟩
                case measure => simp [intOf]; omega
              · obtain rfl : k = r + 1 := by omega
                have HDX := Lib.hid (HD5.out.below hbk)
                have hBX : Below p w1 wr := hB5.trans (hbk.mono (by have := HD5.out.lt; omega))
                have hWX : Below w.heap.size w wr := hz1.trans (hBX.mono hz1s)
                by_cases hiH2 : i < H
                · obtain ⟨b, off, rfl, hbl, hcs⟩ := HROW.out (by omega)
                  obtain ⟨x, hx⟩ := hcs i hiH2
                  have hxr : wr.cell? ⟨b, off + i, none⟩ = some (.bool x) := (hWX.cell (p := ⟨b, off + i, none⟩) hbl).trans hx
                  have k1 : (i : Int) < (H : Int) := by omega
                  clear hx hcs
                  cases x with
                  | false =>
                    go_wp2_with (fail)
                    go_at_call 22; refine (box_sent_lt _ p _ _ (g : Int) ((g : Int) - 1) _ HDX.out (by rw [evS_len]; omega) (by omega) (by omega) (by omega) (by omega) (by omega)).mono ?_; rintro e w8 ⟨rfl, hD8, hb8⟩
                    have HD8 := Lib.hid hD8
                    have hB8 : Below p w1 w8 := hBX.trans (grown_below hb8 (Nat.le_refl _) HDX.out.lt)
                    clear hD8
                    have hnn : ((g : Int) != (g : Int)) = false := by simp
                    go_wp2_with (fail)
                    go_roundw
                    case rel => exact ⟨g, d, i + 1, by omega, by omega, by omega, by omega, rfl, rfl, by go_num, HD8.out, hB8⟩
                    case measure => simp [intOf]; omega
                  | true =>
                    have hc5 := HX5.out.cellAt (r * 12 + 1) (by omega)
                    have hc5' : wr.cell? ⟨b5, r * 12 + 1, none⟩ = some (.int .i64 ((g : Int) + 1 + (r : Int))) := by
                      rw [hc5]; exact evs_at _ r 1 _ _ (evS_get g (r + 1) r (by omega)) rfl
                    clear hc5
                    go_wp2_with (fail)
                    go_at_call 22; refine (box_sent _ p _ _ (g : Int) ((g : Int) + 1 + (r : Int)) _ (r + 1) HDX.out (by rw [evS_len]; omega) (by rw [evS_len]; omega) (by omega) (by omega) (by omega) (by omega)).mono ?_; rintro e w8 ⟨rfl, hD8, hb8⟩
                    rw [show (g : Int) + ((r + 1 : Nat) : Int) = (g : Int) + 1 + (r : Int) by omega] at hD8 ⊢
                    rw [evS_drop _ _ _ (by omega)] at hD8
                    have HD8 := Lib.hid hD8
                    have hB8 : Below p w1 w8 := hBX.trans (grown_below hb8 (Nat.le_refl _) HDX.out.lt)
                    clear hD8 hc5'
                    have hnn : ((g : Int) + 1 + (r : Int) != (g : Int) + 1 + (r : Int)) = false := by simp
                    go_wp2_with (fail)
                    go_roundw
                    case rel => exact ⟨g + (r + 1), d - (r + 1), i + 1, by omega, by omega, by omega, by omega, by congr 1; omega, by congr 1; omega, (by first | go_num | (congr 1; omega)), by rw [show ((g + (r + 1) : Nat) : Int) = (g : Int) + 1 + (r : Int) by omega]; exact HD8.out, hB8⟩
                    case measure => simp [intOf]; omega
                · have k1 : ¬ (i : Int) < (H : Int) := by omega
                  have hc5 := HX5.out.cellAt (r * 12 + 1) (by omega)
                  have hc5' : wr.cell? ⟨b5, r * 12 + 1, none⟩ = some (.int .i64 ((g : Int) + 1 + (r : Int))) := by
                    rw [hc5]; exact evs_at _ r 1 _ _ (evS_get g (r + 1) r (by omega)) rfl
                  clear hc5
                  go_wp2_with (fail)
                  go_at_call 22; refine (box_sent _ p _ _ (g : Int) ((g : Int) + 1 + (r : Int)) _ (r + 1) HDX.out (by rw [evS_len]; omega) (by rw [evS_len]; omega) (by omega) (by omega) (by omega) (by omega)).mono ?_; rintro e w8 ⟨rfl, hD8, hb8⟩
                  rw [show (g : Int) + ((r + 1 : Nat) : Int) = (g : Int) + 1 + (r : Int) by omega] at hD8 ⊢
                  rw [evS_drop _ _ _ (by omega)] at hD8
                  have HD8 := Lib.hid hD8
                  have hB8 : Below p w1 w8 := hBX.trans (grown_below hb8 (Nat.le_refl _) HDX.out.lt)
                  clear hD8 hc5'
                  have hnn : ((g : Int) + 1 + (r : Int) != (g : Int) + 1 + (r : Int)) = false := by simp
                  go_wp2_with (fail)
                  go_roundw
                  case rel => exact ⟨g + (r + 1), d - (r + 1), i + 1, by omega, by omega, by omega, by omega, by congr 1; omega, by congr 1; omega, (by first | go_num | (congr 1; omega)), by rw [show ((g + (r + 1) : Nat) : Int) = (g : Int) + 1 + (r : Int) by omega]; exact HD8.out, hB8⟩
                  case measure => simp [intOf]; omega
      · skip
        obtain rfl : g = m2 := by omega
        obtain rfl : c = 0 := by omega
        have HDE : Hid (IsBox wr p (1 + (m0 : Int)) (1 + (m1 : Int)) (g : Int) []) := Lib.hid HD.out
        have hZ : Below w.heap.size w wr := hz1.trans (hbel.mono hz1s)
        have q2 : ¬ (g : Int) < (g : Int) := by omega
        have q3 : ((g : Int) == (g : Int)) = true := by simp
        go_wp2_with (fail)
        go_at_call 21; refine (box_len _ p _ _ _ _ HDE.out).mono ?_; rintro e wy ⟨rfl, rfl⟩
        go_wp2_with (fail)
        go_at_call 20; refine (box_batch _ p _ _ _ _ 0 HDE.out (by simp; omega) (by simp)).mono ?_; rintro e w5 ⟨v5, rfl, ho5, hb5⟩
        obtain ⟨a5, c5, rfl, _, _⟩ := ownE_slice ho5
        clear ho5
        have hZ5 := hZ.trans (hb5.mono hZ.size)
        go_wp2_with (fail)
        go_ret
        exact ⟨rfl, hZ5⟩
    · have q1 : ¬ (i : Int) < 200 := by omega
      by_cases hg : g < m2
      · skip
        have q2 : (g : Int) < (m2 : Int) := by omega
        have q3 : ((g : Int) == (m2 : Int)) = false := by rw [beq_eq_false_iff_ne]; omega
        have q4 : (100 : Int) < (H : Int) := by omega
        have q5 : decide ((100 : Int) < (H : Int)) = true := by simp; omega
        have q6 : decide ((g : Int) < (m2 : Int)) = true := by simp; omega
        have hZ : Below w.heap.size w wr := hz1.trans (hbel.mono hz1s)
        go_wp2_with (fail)
        go_ret
        exact ⟨rfl, hZ⟩
      · skip
        obtain rfl : g = m2 := by omega
        obtain rfl : c = 0 := by omega
        have HDE : Hid (IsBox wr p (1 + (m0 : Int)) (1 + (m1 : Int)) (g : Int) []) := Lib.hid HD.out
        have hZ : Below w.heap.size w wr := hz1.trans (hbel.mono hz1s)
        have q2 : ¬ (g : Int) < (g : Int) := by omega
        have q3 : ((g : Int) == (g : Int)) = true := by simp
        go_wp2_with (fail)
        go_at_call 21; refine (box_len _ p _ _ _ _ HDE.out).mono ?_; rintro e wy ⟨rfl, rfl⟩
        go_wp2_with (fail)
        go_at_call 20; refine (box_batch _ p _ _ _ _ 0 HDE.out (by simp; omega) (by simp)).mono ?_; rintro e w5 ⟨v5, rfl, ho5, hb5⟩
        obtain ⟨a5, c5, rfl, _, _⟩ := ownE_slice ho5
        clear ho5
        have hZ5 := hZ.trans (hb5.mono hZ.size)
        go_wp2_with (fail)
        go_ret
        exact ⟨rfl, hZ5⟩
theorem outboxSends_any (a1 : Option Addr) (H c1 n0 n1 n2 : Nat) (w : World) (hv : IsBools w a1 H c1) (h0 : n0 < 256) (h1 : n1 < 256) (h2 : n2 < 256) :
    Calls Try.prog 4 #[.agg #[.int .u8 n0, .int .u8 n1, .int .u8 n2], .slice a1 H c1] w fun e w' => e = .returned (.bool true) ∧ Below w.heap.size w w' :=
  sends_at a1 H c1 n0 n1 n2 (n0 % 16) (n1 % 8) (n2 % 64) w hv h0 h1 h2 (by omega) (by omega) (by omega)
end Go.Proofs.Ytkcfcimophjomaa

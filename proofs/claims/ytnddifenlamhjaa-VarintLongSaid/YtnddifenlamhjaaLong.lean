import Derived.Test.YtnddifenlamhjaaPutAt
namespace Go.Proofs.Ytnddifenlamhjaa
open Go.RowKit
set_option linter.unusedVariables false
set_option linter.unusedSimpArgs false

theorem or128_ge_fin : ∀ x : Fin 256, 128 ≤ x.val ||| 128 ∧ x.val ||| 128 < 256 := by decide +kernel
theorem or128_val (c : Nat) (h : c < 256) : bits .or .u8 (c : Int) 128 = ((c ||| 128 : Nat) : Int) ∧ 128 ≤ c ||| 128 ∧ c ||| 128 < 256 :=
  ⟨u8_or_nat c 128 h (by omega), or128_ge_fin ⟨c, h⟩⟩

theorem Rd.of_heap {w : World} {B q : Nat} {cs : Array Value} {g : Nat → Nat} (hh : w.heap[B]? = some (.cells cs 5 (0, 0))) (hq : q ≤ 9223372036854775807) (hg : ∀ i, g i < 256) (hc : ∀ i, i < q → cs[i]? = some (.int .u8 (g i : Nat))) :
    Rd w (.slice (some ⟨B, 0, none⟩) q q) q g := by
  refine ⟨hg, ?_⟩
  rcases Nat.eq_zero_or_pos q with h0 | h0
  · subst h0; exact .inl ⟨rfl, _, 0, rfl, hq⟩
  · exact .inr ⟨h0, B, 0, q, rfl, Nat.le_refl _, hq, (Array.getElem?_eq_some_iff.1 hh).1, fun i hi => by rw [cell_of_row w B (0 + i) cs 5 (0, 0) hh, Nat.zero_add]; exact hc i hi⟩

/-- A row of the call's own, its last element written. -/
theorem own_last {w : World} {base b m c D : Nat} {xs : List Nat} (h : w.ownsRow base 5 1 (.slice (some ⟨b, 0, none⟩) (m + 1) c) (m + 1) (cells8 xs)) :
    (w.setCell ⟨b, m, none⟩ (.int .u8 (D : Nat))).ownsRow base 5 1 (.slice (some ⟨b, 0, none⟩) (m + 1) c) (m + 1) (cells8 (xs.set m D)) := by
  obtain ⟨h1, ⟨_, hv⟩ | ⟨g, cap, cur, hv, hg0, hg, hle, hcm, hcs, ht⟩⟩ := h
  · omega
  · injection hv with e1 e2 e3
    injection e1 with e1
    injection e1 with e1
    subst e1; subst e3
    refine ⟨by simpa [cells8] using h1, .inr ⟨b, c, cur.setIfInBounds m (.int .u8 (D : Nat)), rfl, hg0, heap_setCell_same w b m cur 5 _ hg, hle, hcm, by simpa using hcs, ?_⟩⟩
    rw [Array.toList_setIfInBounds, List.take_set, ht]
    unfold cells8
    rw [List.map_set]

/-- A number with a nought behind it, gone on to, is none. -/
theorem tkF_gone (n m : Nat) (hm : (enc n).length = m + 1) (h10 : m + 1 ≤ 10) : tkF (fun i => ((enc n).set m (eg n m ||| 128) ++ [0]).getD i 0) (m + 1 + 1) = (0, 0, 3) := by
  have hge : ∀ i, i < m + 1 → 128 ≤ ((enc n).set m (eg n m ||| 128) ++ [0]).getD i 0 := by
    intro i hi
    have h1 : i < ((enc n).set m (eg n m ||| 128)).length := by rw [List.length_set]; omega
    rw [List.getD_eq_getElem?_getD, List.getElem?_append_left h1, List.getElem?_set]
    by_cases e : m = i
    · subst e
      rw [if_pos rfl, if_pos (by omega)]
      exact (or128_val (eg n m) (eg_256 n m)).2.1
    · rw [if_neg e]
      have := ((eg_spec n).1 i (by omega)).1
      unfold eg at this
      rwa [List.getD_eq_getElem?_getD] at this
  have hz : ((enc n).set m (eg n m ||| 128) ++ [0]).getD (m + 1) 0 = 0 := by
    rw [List.getD_eq_getElem?_getD, List.getElem?_append_right (by rw [List.length_set]; omega)]
    simp [hm]
  by_cases h9 : m + 1 ≤ 9
  · rw [tkF_at _ (m + 1 + 1) (m + 1) (by omega) (fun j hj => hge j hj) (by rw [hz]; omega), if_pos (by unfold bad; exact .inl ⟨hz, by omega⟩)]
  · rw [tkF_all _ (m + 1 + 1) (fun j hj => hge j (by omega)), if_pos (by omega)]
theorem gone_256 (n m : Nat) : ∀ i, ((enc n).set m (eg n m ||| 128) ++ [0]).getD i 0 < 256 := by
  intro i
  rw [List.getD_eq_getElem?_getD]
  rcases Nat.lt_or_ge i ((enc n).set m (eg n m ||| 128)).length with h | h
  · rw [List.getElem?_append_left h, List.getElem?_set]
    by_cases e : m = i
    · subst e
      rw [if_pos rfl]
      split
      · exact (or128_val (eg n m) (eg_256 n m)).2.2
      · simp
    · rw [if_neg e]
      have := eg_256 n i
      unfold eg at this
      rwa [List.getD_eq_getElem?_getD] at this
  · rw [List.getElem?_append_right h]
    generalize i - ((enc n).set m (eg n m ||| 128)).length = k
    cases k <;> simp

set_option maxRecDepth 100000 in
set_option maxHeartbeats 2000000 in
theorem long_any (n many c : Nat) (w : World) (hn : n < 18446744073709551616) (hmany : many < 256) (hc : c < 256) :
    Calls Try.prog 8 #[.int .u64 n, .int .u8 many, .int .u8 c] w fun e w' => e = .returned (.bool true) ∧ Below w.heap.size w w' := by
  have HN := Lib.hid hn
  clear hn
  obtain ⟨i0, hi, hz0, hz1, hz2⟩ := info_parts info5
  obtain ⟨q, hq⟩ : ∃ q, many % 16 = q := ⟨_, rfl⟩
  have hq16 : q < 16 := by omega
  have hqi : ((many : Int) % 16) = (q : Int) := by omega
  have hmk : ∀ u : World, (Instr.makeSlice 23 (.int .i64 ((many : Int) % 16)) (.int .i64 ((many : Int) % 16))).run Try.prog u =
      .ok (.slice (some ⟨u.heap.size, 0, none⟩) q q) (u.alloc (.cells (madeCells #[.int .u8 0] q) 5)) := fun u => by
    have h := run_make (P := Try.prog) u 23 5 i0 (.int .u8 0) Try.underlying23 hi hz0 .i64 .i64 (q : Int) (q : Int) (by omega) (Int.le_refl _) (by rw [hz2]; omega) (by omega)
    rw [hqi]
    simpa [hz1, Value.cells] using h
  have HQ := Lib.hid hq
  have HQI := Lib.hid hqi
  clear hq hqi
  obtain ⟨hC, hC1, hC2⟩ := or128_val c hc
  go_enter Try.func8, Try.ntmps8
  go_wp2_with (fail)
  go_at_call 9; refine (shown_any _).mono ?_; rintro e w1 ⟨rfl, hb1⟩
  go_wp2_with (fail)
  have hB1 : Below w.heap.size w (w1.alloc (.cells (madeCells #[.int .u8 0] q) 5)) := hb1.alloc hb1.size _
  have hH1 : (w1.alloc (.cells (madeCells #[.int .u8 0] q) 5)).heap[w1.heap.size]? = some (.cells (madeCells #[.int .u8 0] q) 5 (0, 0)) := heap_alloc_new w1 _
  have hS1 := size_madeCells #[.int .u8 0] q
  generalize madeCells #[.int .u8 0] q = cs0 at *
  have HMK := Lib.hid hmk
  clear hmk
  have hzw1 := hb1.size
  go_loopw [9] (fun i wr => ∃ (j : Nat) (cs : Array Value), j ≤ q ∧ i = .int .i64 j ∧ wr.heap[w1.heap.size]? = some (.cells cs 5 (0, 0)) ∧ cs.size = q ∧ (∀ t, t < j → cs[t]? = some (.int .u8 ((c ||| 128 : Nat) : Int))) ∧ Below w.heap.size w wr) (fun i _ => q - (intOf i).toNat)
  case atStart => exact ⟨0, cs0, by omega, rfl, hH1, hS1, fun t ht => by omega, hB1⟩
  case round =>
    obtain ⟨j, cs, hj, rfl, hH, hS, hT, hB⟩ := hrel
    clear hH1 hS1 hB1
    by_cases hlt : j < q
    · obtain ⟨u, hck⟩ : ∃ u, wr.cell? ⟨w1.heap.size, j, none⟩ = some u := ⟨cs[j]'(by omega), by rw [cell_of_row wr w1.heap.size j cs 5 (0, 0) hH]; exact Array.getElem?_eq_getElem (by omega)⟩
      have hfz := frozen_of_row wr w1.heap.size j cs 5 hH
      have HT := Lib.hid hT
      have HS := Lib.hid hS
      clear hT hS
      go_wp2_with (fail)
      go_roundw
      case rel =>
        refine ⟨j + 1, cs.setIfInBounds j (.int .u8 ((c ||| 128 : Nat) : Int)), by omega, by go_num, heap_setCell_same wr w1.heap.size j cs 5 _ hH, by simpa using HS.out, fun t ht => ?_, hB.setCell (p := ⟨w1.heap.size, j, none⟩) hzw1 _⟩
        rw [Array.getElem?_setIfInBounds]
        by_cases e : j = t
        · subst e; rw [if_pos rfl, if_pos (by rw [HS.out]; exact hlt)]
        · rw [if_neg e]; exact HT.out t (by omega)
      case measure => simp [intOf]; omega
    · obtain rfl : j = q := by omega
      have hR := Rd.of_heap (g := fun _ => c ||| 128) hH (by omega) (fun _ => hC2) hT
      have HR := Lib.hid hR
      clear hR hT
      have fin : ∀ E : Nat, tkF (fun _ => c ||| 128) j = (0, 0, E) → (E = if 10 ≤ j then 3 else 2) → E = if 10 ≤ j then 3 else 2 := fun _ _ h => h
      by_cases h10 : 10 ≤ j
      all_goals
        have hTk := tkF_all (fun _ => c ||| 128) j (fun _ _ => hC1)
        first | rw [if_pos h10] at hTk | rw [if_neg h10] at hTk
        have HTk := Lib.hid hTk
        clear hTk fin
        go_wp2_with (fail)
        go_at_call 10; refine (take_as HR.out HTk.out).mono ?_; rintro e w3 ⟨rfl, rfl⟩
        go_wp2_with (fail)
        go_at_call 13; refine (put_at n _ HN.out).mono ?_; rintro e w3 ⟨b3, m, c3, rfl, hm, hc31, hc32, hlt3, hge3, hcell3, hfz3, hown3, hb3⟩
        have hck := hcell3 m (by omega)
        have hfk := hfz3 m
        obtain ⟨hD, hD1, hD2⟩ := or128_val (eg n m) (eg_256 n m)
        have hm10 := enc_len10 HN.out
        have HM := Lib.hid hm
        have hmm : m + 1 ≤ 10 := by omega
        clear hm hm10 hcell3 hfz3
        have hne0 : (((m : Int) + 1) == 0) = false := by simp; omega
        go_upto_region 12 with (fail)
        have hown4 := own_last (D := eg n m ||| 128) hown3
        have hB4 : Below w.heap.size w (w3.setCell ⟨b3, m, none⟩ (.int .u8 ((eg n m ||| 128 : Nat) : Int))) := (hB.trans (hb3.mono hB.size)).setCell (p := ⟨b3, m, none⟩) (Nat.le_trans hB.size hge3) _
        have hz4 : wr.heap.size ≤ (w3.setCell ⟨b3, m, none⟩ (.int .u8 ((eg n m ||| 128 : Nat) : Int))).heap.size := by rw [World.size_setCell]; exact hb3.size
        generalize w3.setCell ⟨b3, m, none⟩ (.int .u8 ((eg n m ||| 128 : Nat) : Int)) = w4 at *
        clear hown3 hck hfk hb3 hlt3
        go_wp2_with ((at_builtin; refine wpList_append_own _ rfl (.tmp 58) (.tmp 59) 23 rfl wr.heap.size 5 i0 (.int .u8 0) 1 1 Try.underlying23 hi hz0 hz1 hz2 rfl (by decide) _ _ _ rfl (hown4.alloc _) ⟨w4.heap.size, 0, none⟩ 1 1 [.int .u8 0] rfl rfl (new_one _ _ _) (fun x hx => by simp at hx; subst hx; rfl) (by unfold maxLen; omega) (by omega) (by simp; omega) ?_; intro v' w5 hown5 hgrow _))
        have hB5 : Below w.heap.size w w5 := (hB4.alloc (Nat.le_trans hB.size hz4) _).grown hgrow (by simp; have := hB.size; omega) (fun k hk => by have := (hown4.lt k hk).1; have := hB.size; omega)
        have hlen : ((enc n).set m (eg n m ||| 128) ++ [0]).length = m + 1 + 1 := by simp [HM.out]
        have hR5 : Rd w5 v' (m + 1 + 1) (fun i => ((enc n).set m (eg n m ||| 128) ++ [0]).getD i 0) := by
          have := Rd.of_own (B := wr.heap.size) (xs := (enc n).set m (eg n m ||| 128) ++ [0]) (by rw [hlen, cells8_snoc]; exact hown5) (gone_256 n m)
          rwa [hlen] at this
        have HT5 := Lib.hid (tkF_gone n m HM.out hmm)
        have HR5 := Lib.hid hR5
        clear hR5 hlen hown5 hgrow hown4
        go_wp2_with (fail)
        go_at_call 10; refine (take_as HR5.out HT5.out).mono ?_; rintro e w6 ⟨rfl, rfl⟩
        go_wp2_with (fail)
        go_ret
        exact ⟨rfl, hB5⟩
end Go.Proofs.Ytnddifenlamhjaa

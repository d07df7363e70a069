import Derived.Test.YtkcfcimophjomaaLc
namespace Go.Proofs.Ytkcfcimophjomaa
open Go.RowKit
set_option linter.unusedVariables false
set_option linter.unusedSimpArgs false
theorem zeroV3 (w : World) : (zeroValue 3).run Try.prog w = .ok (.int .i64 0) w := by
  obtain ⟨i0, hi, hz0, hz1, hz2⟩ := info_parts info3
  simp [zeroValue, typeInfo, hi, hz0]
theorem clear_one {w : World} {g k c : Nat} {u : Value} (h : w.cell? ⟨g, k, none⟩ = some u) (hf : w.frozen? ⟨g, k, none⟩ = false) (ty : TypeId) : (Builtin.clear_ #[51] ty #[.slice (some ⟨g, k, none⟩) 1 c]).run Try.prog w = .ok (.tuple #[]) (w.setCell ⟨g, k, none⟩ (.int .i64 0)) := by
  simp [Builtin.clear_, run_underlying Try.underlying51, zeroV3, Builtin.zeroCells, Value.cells, storeCells]
  simp [Addr.add, go_sem, h, hf]
theorem del_append {w : World} {B g cap i r : Nat} {xs : List Value} (hown : w.ownsRow B 3 1 (.slice (some ⟨g, 0, none⟩) (i + 1 + r) cap) (i + 1 + r) xs) (h1 : ∀ u ∈ xs, u.oneCell' = true) (q : Nat) (hq : r = 0 ∨ q = i + 1) (c2 : Nat) (ty : TypeId) :
    ∃ w', (Builtin.append_ #[51, 51] ty #[.slice (some ⟨g, 0, none⟩) i cap, .slice (some ⟨g, q, none⟩) r c2]).run Try.prog w = .ok (.slice (some ⟨g, 0, none⟩) (i + r) cap) w' ∧ w.grownBy w' (some g) ∧ w'.heap.size = w.heap.size ∧ B ≤ g ∧ i + r < cap ∧ cap ≤ maxLen ∧
      ∃ cur : Array Value, w'.heap[g]? = some (.cells cur 3 (0, 0)) ∧ cur.size = cap ∧ cur.toList.take (i + r) = xs.eraseIdx i := by
  obtain ⟨i0, hi, hz0, hz1, hz2⟩ := info_parts info3
  rcases hown.2 with ⟨h, _⟩ | ⟨g', cap', cur, h, hb, hg, hn, hcm, hcs, ht⟩
  · cases h
  · simp only [Value.slice.injEq, Option.some.injEq, Addr.mk.injEq, and_true, true_and] at h
    obtain ⟨rfl, rfl⟩ := h
    rw [Nat.mul_one] at hcs ht
    have hxl : xs.length = i + 1 + r := by rw [hown.1, Nat.mul_one]
    have hnl : (xs.drop (i + 1)).length = r := by rw [List.length_drop, hxl]; omega
    have hr := run_append_room (P := Try.prog) w 51 ty 3 i0 Try.underlying51 hi g i cap cur hg ⟨g, q, none⟩ r c2 (xs.drop (i + 1)) (by rw [hnl, hz1, Nat.mul_one]) (fun j u hj => by
      have hjl : j < r := by have := (List.getElem?_eq_some_iff.1 hj).1; omega
      rcases hq with h | h
      · omega
      · subst h
        rw [Addr.add_mid, cell_of_row w g (i + 1 + j) cur 3 (0, 0) hg]
        rw [List.getElem?_drop, ← ht, List.getElem?_take, if_pos (by omega)] at hj
        simpa using hj) (fun u hu => h1 u (List.mem_of_mem_drop hu)) (by omega) (by rw [hnl, hz1, Nat.mul_one, hcs]; omega)
    rw [hz1, Nat.mul_one, hnl] at hr
    refine ⟨_, hr, ⟨rfl, rfl, rfl, by simp, fun k _ hk => setRow_other w g k _ (fun e => hk (by simp [e]))⟩, by simp, hb, by omega, hcm, _, setRow_heap w g cur _ 3 _ hg, ?_, ?_⟩
    · simp only [List.size_toArray, List.length_append, List.length_take, List.length_drop, Array.length_toList, hcs, hxl]
      omega
    · have h1 : (cur.toList.take i ++ xs.drop (i + 1)).length = i + r := by
        rw [List.length_append, hnl, List.length_take, Array.length_toList, hcs]; omega
      rw [List.toList_toArray, ← h1, List.take_left, List.eraseIdx_eq_take_drop_succ, ← ht, List.take_take, Nat.min_eq_left (by omega)]
set_option maxHeartbeats 1000000 in
theorem delete_own (w : World) (B g cap i r : Nat) (xs : List Value) (hown : w.ownsRow B 3 1 (.slice (some ⟨g, 0, none⟩) (i + 1 + r) cap) (i + 1 + r) xs) (hn : i + 1 + r ≤ 10000) (h1 : ∀ u ∈ xs, u.oneCell' = true) :
    Calls Try.prog 36 #[.slice (some ⟨g, 0, none⟩) (i + 1 + r) cap, .int .i64 i, .int .i64 ((i : Int) + 1)] w fun e w' => e = .returned (.slice (some ⟨g, 0, none⟩) (i + r) cap) ∧ w'.ownsRow B 3 1 (.slice (some ⟨g, 0, none⟩) (i + r) cap) (i + r) (xs.eraseIdx i) ∧ w.grownBy w' (some g) := by
  obtain ⟨hcap, hcM⟩ : i + 1 + r ≤ cap ∧ cap ≤ 9223372036854775807 := by
    obtain ⟨a, c, e, h1, h2⟩ := ownE_slice hown
    injection e with _ _ e3
    omega
  have HO := Lib.hid hown
  have H1 := Lib.hid h1
  clear hown h1
  have q1 : ((i : Int) == (i : Int) + 1) = false := by rw [beq_eq_false_iff_ne]; omega
  have hzc : ∀ u, u ∈ xs → u.oneCell' = true := H1.out
  have HZ := Lib.hid hzc
  clear hzc
  by_cases hci : cap = i + 1
  · obtain rfl : r = 0 := by omega
    subst hci
    obtain ⟨w2, hrun, hgr, hsz, hBg, hlt, hcm, cur, hg, hcs, htk⟩ := del_append (w := w.drew) (show w.drew.ownsRow B 3 1 _ _ _ from HO.out) HZ.out (0) (.inl rfl) (0) 51
    have HR := Lib.hid hrun
    have hcell : w2.cell? ⟨g, i + 0, none⟩ = cur[i + 0]? := cell_of_row w2 g (i + 0) cur 3 (0, 0) hg
    rw [Array.getElem?_eq_getElem (by omega)] at hcell
    have hfr : w2.frozen? ⟨g, i + 0, none⟩ = false := frozen_of_row w2 g (i + 0) cur 3 hg
    have hcl := fun ty c => clear_one (c := c) hcell hfr ty
    have hfin : Hid ((w2.setCell ⟨g, i + 0, none⟩ (.int .i64 0)).ownsRow B 3 1 (.slice (some ⟨g, 0, none⟩) (i + 0) (i + 1)) (i + 0) (xs.eraseIdx i) ∧ w.grownBy (w2.setCell ⟨g, i + 0, none⟩ (.int .i64 0)) (some g)) := Lib.hid (by
      refine ⟨⟨by rw [← htk, List.length_take, Array.length_toList, hcs]; omega, .inr ⟨g, (i + 1), _, rfl, hBg, heap_setCell_same w2 g (i + 0) cur 3 _ hg, by omega, hcm, by rw [Array.size_setIfInBounds, hcs, Nat.mul_one], ?_⟩⟩, ?_⟩
      · rw [Nat.mul_one, Array.toList_setIfInBounds, List.take_set, htk, List.set_eq_of_length_le (by rw [← htk, List.length_take]; omega)]
      · exact ⟨hgr.os, hgr.tape, hgr.output, by simpa using hgr.size, fun k hk hne => (heap_setCell_other w2 ⟨g, i + 0, none⟩ k _ (by intro e; subst e; exact hne rfl)).trans (hgr.block k hk hne)⟩)
    clear hrun hgr hsz hg hcs htk hcell hfr
    have e1 : i + 1 - i = 1 := by omega
    have p1 : (0 : Int) ≤ (i : Int) := by omega
    have p2 : (i : Int) ≤ ((i : Int) + 1) := by omega
    have p3 : (0 : Int) ≤ (i : Int) + 1 := by omega
    have p4 : (i : Int) + 1 ≤ ((i : Int) + 1) := by omega
    have p5 : (i : Int) + 1 ≤ (i : Int) + 1 + 0 := by omega
    simp only [Nat.add_zero] at hcl
    go_enter Try.func36, Try.ntmps36
    go_wp2_with (fail)
    refine wp_region_any (by kernel_rfl) ?_
    change wpAny _ _ _ _ _ _ _ (World.drew _)
    refine take_at (i := 0) (v := ?_) 20 rfl (by kernel_rfl) (by kernel_rfl) (by kernel_rfl) rfl (fun _ _ _ h => h) (Or.inl ⟨by rfl, ?_⟩) ?_
    rotate_left; (intro w; go_simp; try with_reducible rfl); try simp only [Act.put, List.setIfInBounds_toArray, List.set_cons_zero, List.set_cons_succ]
    refine take_at (i := 1) (v := ?_) 21 rfl (by kernel_rfl) (by kernel_rfl) (by kernel_rfl) rfl (fun _ _ _ h => h) (Or.inl ⟨by rfl, ?_⟩) ?_
    rotate_left; (intro w; go_simp; try with_reducible rfl); try simp only [Act.put, List.setIfInBounds_toArray, List.set_cons_zero, List.set_cons_succ]
    refine take_at (i := 2) (v := ?_) 22 rfl (by kernel_rfl) (by kernel_rfl) (by kernel_rfl) rfl (fun _ _ _ h => h) (Or.inl ⟨by rfl, ?_⟩) ?_
    rotate_left; (intro w; go_simp; try with_reducible rfl); try simp only [Act.put, List.setIfInBounds_toArray, List.set_cons_zero, List.set_cons_succ]
    refine take_at (i := 3) (v := ?_) 23 rfl (by kernel_rfl) (by kernel_rfl) (by kernel_rfl) rfl (fun _ _ _ h => h) (Or.inl ⟨by rfl, ?_⟩) ?_
    rotate_left; (intro w; go_simp; try with_reducible rfl); try simp only [Act.put, List.setIfInBounds_toArray, List.set_cons_zero, List.set_cons_succ]
    refine take_at (i := 4) (v := ?_) 24 rfl (by kernel_rfl) (by kernel_rfl) (by kernel_rfl) rfl (fun _ _ _ h => h) (Or.inl ⟨by rfl, ?_⟩) ?_
    rotate_left; (intro w; go_simp; try with_reducible rfl); try simp only [Act.put, List.setIfInBounds_toArray, List.set_cons_zero, List.set_cons_succ]
    refine take_at (i := 5) (v := ?_) 25 rfl (by kernel_rfl) (by kernel_rfl) (by kernel_rfl) rfl (fun _ _ _ h => h) (Or.inl ⟨by rfl, ?_⟩) ?_
    rotate_left; (intro w; go_simp; try with_reducible rfl); try simp only [Act.put, List.setIfInBounds_toArray, List.set_cons_zero, List.set_cons_succ]
    refine wpAny_ready (rs := [6]) (by kernel_rfl) (by simp) ?_
    refine AllReady.cons rfl (fun K hK => ?_) AllReady.nil
    refine opx_append rfl (.tmp 22) (.tmp 25) 51 51 rfl _ _ rfl rfl _ _ HR ?_
    refine hK _ _ ?_
    clear hK K
    try simp only [Act.put, List.setIfInBounds_toArray, List.set_cons_zero, List.set_cons_succ]
    refine take_at (i := 7) (v := ?_) 0 rfl (by kernel_rfl) (by kernel_rfl) (by kernel_rfl) rfl (fun _ _ _ h => h) (Or.inl ⟨by rfl, ?_⟩) ?_
    rotate_left; (intro w; go_simp; try with_reducible rfl); try simp only [Act.put, List.setIfInBounds_toArray, List.set_cons_zero, List.set_cons_succ]
    refine wpAny_done (by kernel_rfl) ?_ _
    go_wp2_with (fail)
    go_ret
    exact ⟨rfl, hfin.out⟩
  · skip
    obtain ⟨w2, hrun, hgr, hsz, hBg, hlt, hcm, cur, hg, hcs, htk⟩ := del_append (w := w.drew) (show w.drew.ownsRow B 3 1 _ _ _ from HO.out) HZ.out (i + 1) (.inr rfl) (cap - (i + 1)) 51
    have HR := Lib.hid hrun
    have hcell : w2.cell? ⟨g, i + r, none⟩ = cur[i + r]? := cell_of_row w2 g (i + r) cur 3 (0, 0) hg
    rw [Array.getElem?_eq_getElem (by omega)] at hcell
    have hfr : w2.frozen? ⟨g, i + r, none⟩ = false := frozen_of_row w2 g (i + r) cur 3 hg
    have hcl := fun ty c => clear_one (c := c) hcell hfr ty
    have hfin : Hid ((w2.setCell ⟨g, i + r, none⟩ (.int .i64 0)).ownsRow B 3 1 (.slice (some ⟨g, 0, none⟩) (i + r) cap) (i + r) (xs.eraseIdx i) ∧ w.grownBy (w2.setCell ⟨g, i + r, none⟩ (.int .i64 0)) (some g)) := Lib.hid (by
      refine ⟨⟨by rw [← htk, List.length_take, Array.length_toList, hcs]; omega, .inr ⟨g, cap, _, rfl, hBg, heap_setCell_same w2 g (i + r) cur 3 _ hg, by omega, hcm, by rw [Array.size_setIfInBounds, hcs, Nat.mul_one], ?_⟩⟩, ?_⟩
      · rw [Nat.mul_one, Array.toList_setIfInBounds, List.take_set, htk, List.set_eq_of_length_le (by rw [← htk, List.length_take]; omega)]
      · exact ⟨hgr.os, hgr.tape, hgr.output, by simpa using hgr.size, fun k hk hne => (heap_setCell_other w2 ⟨g, i + r, none⟩ k _ (by intro e; subst e; exact hne rfl)).trans (hgr.block k hk hne)⟩)
    clear hrun hgr hsz hg hcs htk hcell hfr
    have e1 : i + 1 + r - (i + r) = 1 := by omega
    have p1 : (0 : Int) ≤ (i : Int) := by omega
    have p2 : (i : Int) ≤ (cap : Int) := by omega
    have p3 : (0 : Int) ≤ (i : Int) + 1 := by omega
    have p4 : (i : Int) + 1 ≤ (cap : Int) := by omega
    have p5 : (i : Int) + 1 ≤ (i : Int) + 1 + (r : Int) := by omega
    go_enter Try.func36, Try.ntmps36
    go_wp2_with (fail)
    refine wp_region_any (by kernel_rfl) ?_
    change wpAny _ _ _ _ _ _ _ (World.drew _)
    refine take_at (i := 0) (v := ?_) 20 rfl (by kernel_rfl) (by kernel_rfl) (by kernel_rfl) rfl (fun _ _ _ h => h) (Or.inl ⟨by rfl, ?_⟩) ?_
    rotate_left; (intro w; go_simp; try with_reducible rfl); try simp only [Act.put, List.setIfInBounds_toArray, List.set_cons_zero, List.set_cons_succ]
    refine take_at (i := 1) (v := ?_) 21 rfl (by kernel_rfl) (by kernel_rfl) (by kernel_rfl) rfl (fun _ _ _ h => h) (Or.inl ⟨by rfl, ?_⟩) ?_
    rotate_left; (intro w; go_simp; try with_reducible rfl); try simp only [Act.put, List.setIfInBounds_toArray, List.set_cons_zero, List.set_cons_succ]
    refine take_at (i := 2) (v := ?_) 22 rfl (by kernel_rfl) (by kernel_rfl) (by kernel_rfl) rfl (fun _ _ _ h => h) (Or.inl ⟨by rfl, ?_⟩) ?_
    rotate_left; (intro w; go_simp; try with_reducible rfl); try simp only [Act.put, List.setIfInBounds_toArray, List.set_cons_zero, List.set_cons_succ]
    refine take_at (i := 3) (v := ?_) 23 rfl (by kernel_rfl) (by kernel_rfl) (by kernel_rfl) rfl (fun _ _ _ h => h) (Or.inl ⟨by rfl, ?_⟩) ?_
    rotate_left; (intro w; go_simp; try with_reducible rfl); try simp only [Act.put, List.setIfInBounds_toArray, List.set_cons_zero, List.set_cons_succ]
    refine take_at (i := 4) (v := ?_) 24 rfl (by kernel_rfl) (by kernel_rfl) (by kernel_rfl) rfl (fun _ _ _ h => h) (Or.inl ⟨by rfl, ?_⟩) ?_
    rotate_left; (intro w; go_simp; try with_reducible rfl); try simp only [Act.put, List.setIfInBounds_toArray, List.set_cons_zero, List.set_cons_succ]
    refine take_at (i := 5) (v := ?_) 25 rfl (by kernel_rfl) (by kernel_rfl) (by kernel_rfl) rfl (fun _ _ _ h => h) (Or.inl ⟨by rfl, ?_⟩) ?_
    rotate_left; (intro w; go_simp; try with_reducible rfl); try simp only [Act.put, List.setIfInBounds_toArray, List.set_cons_zero, List.set_cons_succ]
    refine wpAny_ready (rs := [6]) (by kernel_rfl) (by simp) ?_
    refine AllReady.cons rfl (fun K hK => ?_) AllReady.nil
    refine opx_append rfl (.tmp 22) (.tmp 25) 51 51 rfl _ _ rfl rfl _ _ HR ?_
    refine hK _ _ ?_
    clear hK K
    try simp only [Act.put, List.setIfInBounds_toArray, List.set_cons_zero, List.set_cons_succ]
    refine take_at (i := 7) (v := ?_) 0 rfl (by kernel_rfl) (by kernel_rfl) (by kernel_rfl) rfl (fun _ _ _ h => h) (Or.inl ⟨by rfl, ?_⟩) ?_
    rotate_left; (intro w; go_simp; try with_reducible rfl); try simp only [Act.put, List.setIfInBounds_toArray, List.set_cons_zero, List.set_cons_succ]
    refine wpAny_done (by kernel_rfl) ?_ _
    go_wp2_with (fail)
    go_ret
    exact ⟨rfl, hfin.out⟩
end Go.Proofs.Ytkcfcimophjomaa

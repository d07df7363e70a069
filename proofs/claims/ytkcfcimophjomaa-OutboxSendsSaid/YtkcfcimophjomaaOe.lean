import Derived.Test.YtkcfcimophjomaaOd
namespace Go.Proofs.Ytkcfcimophjomaa
open Go.RowKit
set_option linter.unusedVariables false
set_option linter.unusedSimpArgs false
theorem box_add_full (w : World) (p : Nat) (most batch sent : Int) (es : List (Int × Int)) (x : Int × Int) (h : IsBox w p most batch sent es) (hf : ¬ (es.length : Int) < most) :
    Calls Try.prog 19 #[.pointer (some ⟨p, 0, none⟩), .agg (evL x).toArray] w fun e w' => e = .returned (.int .i64 17) ∧ Below w.heap.size w w' := by
  have hA : Below w.heap.size w (w.alloc (.cells (evL x).toArray 40)) := (Below.refl _ _).alloc (Nat.le_refl _) _
  have HA := Lib.hid (h.below hA)
  have hf2 : decide ((es.length : Int) < most) = false := by simpa using hf
  clear h
  go_enter Try.func19, Try.ntmps19
  go_wp2_with (fail)
  go_at_call 18; refine (box_room _ p _ _ _ _ HA.out).mono ?_; rintro e w2 ⟨rfl, hb2⟩
  have hz2 := hA.trans (hb2.mono hA.size)
  go_wp2_with (fail)
  go_ret
  exact ⟨rfl, hz2⟩
/-- The row is another one. -/
theorem IsBox.stored {w w3 : World} {p : Nat} {most batch sent : Int} {es es' : List (Int × Int)} (h : IsBox w p most batch sent es) (hb : Below (p + 1) w w3) {v3 : Value} (hown : w3.ownsRow (p + 1) 40 12 v3 es'.length (evs es')) :
    IsBox (w3.setCell ⟨p, 3, none⟩ v3) p most batch sent es' ∧ Below p w (w3.setCell ⟨p, 3, none⟩ v3) := by
  obtain ⟨v, h1, h2⟩ := h
  have h3 : w3.heap[p]? = _ := (hb.block p (by omega)).trans h1
  have h4 := heap_setCell_same w3 p 3 _ 68 v3 h3
  refine ⟨⟨v3, h4, ownE_same hown (fun k hk => ?_)⟩, ((hb.mono (by omega)).setCell (by simp) _)⟩
  rw [heap_setCell_other _ ⟨p, 3, none⟩ k _ (by simp; omega)]
set_option maxHeartbeats 1000000 in
theorem box_add_ok (w : World) (p : Nat) (most batch sent n ht : Int) (es : List (Int × Int)) (h : IsBox w p most batch sent es) (hf : (es.length : Int) < most) (hn : es.length ≤ 50000) (hs1 : -1000000 ≤ sent) (hs2 : sent ≤ 1000000) (hx : n = sent + (es.length : Int) + 1) :
    Calls Try.prog 19 #[.pointer (some ⟨p, 0, none⟩), .agg (evL (n, ht)).toArray] w fun e w' => e = .returned (.int .i64 0) ∧ IsBox w' p most batch sent (es ++ [(n, ht)]) ∧ Below p w w' := by
  have hA : Below w.heap.size w (w.alloc (.cells (evL (n, ht)).toArray 40)) := (Below.refl _ _).alloc (Nat.le_refl _) _
  have hblk := heap_alloc_new w (.cells (evL (n, ht)).toArray 40)
  have hlt := h.lt
  have HA := Lib.hid (h.below hA)
  have hf2 : decide ((es.length : Int) < most) = true := by simpa using hf
  have hw1 : IntKind.i64.wrap (sent + (es.length : Int)) = sent + (es.length : Int) := IntWalk.i64_in _ (by omega)
  have hw2 : IntKind.i64.wrap (sent + (es.length : Int) + 1) = n := by rw [hx]; exact IntWalk.i64_in _ (by omega)
  have hnn : (n != n) = false := by simp
  have W1 := Lib.hid hw1
  have W2 := Lib.hid hw2
  have HX := Lib.hid hx
  have HBLK := Lib.hid hblk
  clear h hx hw1 hw2 hblk
  go_enter Try.func19, Try.ntmps19
  go_wp2_with (fail)
  go_at_call 18; refine (box_room _ p _ _ _ _ HA.out).mono ?_; rintro e w2 ⟨rfl, hb2⟩
  have hz2 := hA.trans (hb2.mono hA.size)
  have H2 := Lib.hid (HA.out.below hb2)
  have hev : w2.heap[w.heap.size]? = some (.cells (evL (n, ht)).toArray 40 (0, 0)) := (hb2.block w.heap.size (by simp)).trans HBLK.out
  have hev1 : w2.cell? ⟨w.heap.size, 1, none⟩ = some (.int .i64 n) := by rw [cell_of_row w2 w.heap.size 1 _ 40 (0, 0) hev]; rfl
  have hsz2 : w.heap.size < w2.heap.size := by have := hb2.size; simp at this; omega
  obtain ⟨a, c, hown, h1, h2, h3, h4, c0, c1, c2, c3⟩ := H2.out.cells
  have r1 := wb_cell hev1 hsz2
  have r2 := wb_cell c2 h3
  have r3 := wb_cell c3 h3
  have HEV := Lib.hid hev
  have HO := Lib.hid hown
  have HF := Lib.hid h4
  have C3 := Lib.hid c3
  have hw1 := W1.out
  have hw2 := W2.out
  clear hown h4 c0 c1 c2 c3 hev hev1
  go_wp2_with (fail)
  refine wp_region_wb2 (by kernel_rfl) (by kernel_rfl) ?_
  repeat (go_big_quiet_step (fail))
  refine wpQuiet_nil ?_; intro wq hbq
  clear r1 r2 r3 hw1 hw2
  go_wp2_with (fail)
  have RNG : Hid (wq.drew.rangeAt w.heap.size 0 [.int .i64 0, .int .i64 n, .int .i64 0, .int .i64 0, .int .i64 0, .int .i64 0, .int .i64 0, .int .i64 ht, .int .i64 0, .string ⟨#[]⟩, .int .i64 0, .string ⟨#[]⟩]) := Lib.hid (fun j u hj => by
    show wq.cell? _ = _
    rw [hbq.cell (p := ⟨w.heap.size, 0 + j, none⟩) hsz2, cell_of_row w2 w.heap.size (0 + j) _ 40 (0, 0) HEV.out, Nat.zero_add]
    simpa [evL] using hj)
  have c3 : wq.cell? ⟨p, 3, none⟩ = some (.slice a es.length c) := (hbq.cell (p := ⟨p, 3, none⟩) h3).trans C3.out
  have hBq := H2.out.below hbq
  have HBq := Lib.hid hBq
  have hownq : wq.ownsRow (p + 1) 40 12 (.slice a es.length c) es.length (evs es) := ownE_below HO.out hbq
  obtain ⟨wB, hwB⟩ : ∃ wB, (wq.alloc (.cells (evL (n, ht)).toArray 40)).drew = wB := ⟨_, rfl⟩
  have hbB : Below wq.heap.size wq wB := by rw [← hwB]; exact ((Below.refl _ _).alloc (Nat.le_refl _) _).drew
  have hRx : RdC wB 12 (.slice (some ⟨wq.heap.size, 0, none⟩) 1 1) 1 (evL (n, ht)) := by
    refine ⟨rfl, .inr ⟨by omega, wq.heap.size, 0, 1, rfl, by omega, by omega, by rw [← hwB]; simp, fun j u hj => ?_⟩⟩
    rw [← hwB]
    show (wq.alloc (.cells (evL (n, ht)).toArray 40)).cell? _ = _
    rw [cell_of_row _ wq.heap.size (0 + j) _ 40 (0, 0) (heap_alloc_new wq _), Nat.zero_add]
    simpa using hj
  have hpq : p + 1 ≤ wq.heap.size := by have := hBq.lt; omega
  have kB : (wq.alloc (.cells #[.int .i64 0, .int .i64 n, .int .i64 0, .int .i64 0, .int .i64 0, .int .i64 0, .int .i64 0, .int .i64 ht, .int .i64 0, .string ⟨#[]⟩, .int .i64 0, .string ⟨#[]⟩] 40)).cell? ⟨p, 3, none⟩ = some (.slice a es.length c) := ((((Below.refl wq.heap.size wq).alloc (Nat.le_refl _) (.cells #[.int .i64 0, .int .i64 n, .int .i64 0, .int .i64 0, .int .i64 0, .int .i64 0, .int .i64 0, .int .i64 ht, .int .i64 0, .string ⟨#[]⟩, .int .i64 0, .string ⟨#[]⟩] 40)).cell (p := ⟨p, 3, none⟩) (by show p < wq.heap.size; omega)).trans c3)
  obtain ⟨v3, w3, hrun, hown3, hgr3⟩ := append_rdc (P := Try.prog) wB (p + 1) 41 40 12 112 _ info40 Try.underlying41 rfl (by omega) (by omega) _ es.length _ (ownE_below hownq hbB) _ 1 _ hRx (evL_one _) (by omega) (Nat.le_trans hpq hbB.size) 41
  obtain ⟨a3, c3', rfl, _, _⟩ := ownE_slice hown3
  have hb3 : Below (p + 1) wq w3 := (hbB.mono hpq).grown hgr3 (Nat.le_trans hpq hbB.size) (fun j hj => ((ownE_below hownq hbB).lt j hj).1)
  have k0 : w3.cell? ⟨p, 3, none⟩ = some (.slice a es.length c) := (hb3.cell (p := ⟨p, 3, none⟩) (by show p < p + 1; omega)).trans c3
  have k1 : w3.frozen? ⟨p, 3, none⟩ = false := (hb3.frozen (p := ⟨p, 3, none⟩) (by show p < p + 1; omega)).trans ((hbq.frozen (p := ⟨p, 3, none⟩) h3).trans (HF.out 3))
  have hzq : Below w.heap.size w wq := hz2.trans (hbq.mono hz2.size)
  have h5 := hBq.stored (es' := es ++ [(n, ht)]) hb3 (by rw [List.length_append, List.length_singleton, evs_append, evs_one]; exact hown3)
  have H5 : Hid (IsBox (w3.setCell ⟨p, 3, none⟩ (.slice a3 (es.length + 1) c3')) p most batch sent (es ++ [(n, ht)]) ∧ Below p w (w3.setCell ⟨p, 3, none⟩ (.slice a3 (es.length + 1) c3'))) := Lib.hid ⟨h5.1, (hzq.mono (by omega)).trans h5.2⟩
  have HR := Lib.hid hrun
  have HWB := Lib.hid hwB
  clear hRx hown3 hgr3 hrun h5 hownq hBq hwB
  refine wp_region_any (by kernel_rfl) ?_
  change wpAny _ _ _ _ _ _ _ (World.drew _)
  refine take_at (i := 0) (v := ?_) 24 rfl (by kernel_rfl) (by kernel_rfl) (by kernel_rfl) rfl (fun _ _ _ h => h) (Or.inl ⟨by rfl, ?_⟩) ?_
  rotate_left; (intro w; go_simp; try with_reducible rfl); try simp only [Act.put, List.setIfInBounds_toArray, List.set_cons_zero, List.set_cons_succ]
  refine take_at (i := 1) (v := ?_) 25 rfl (by kernel_rfl) (by kernel_rfl) (by kernel_rfl) rfl (fun _ _ _ h => h) (Or.inl ⟨by rfl, ?_⟩) ?_
  rotate_left; (intro w; go_simp; try with_reducible rfl); try simp only [Act.put, List.setIfInBounds_toArray, List.set_cons_zero, List.set_cons_succ]
  refine take_at (i := 2) (v := ?_) 26 rfl (by kernel_rfl) (by kernel_rfl) (by kernel_rfl) rfl (fun _ _ _ h => h) (Or.inl ⟨by rfl, ?_⟩) ?_
  rotate_left; (intro w; go_simp; try with_reducible rfl); try simp only [Act.put, List.setIfInBounds_toArray, List.set_cons_zero, List.set_cons_succ]
  refine take_at (i := 3) (v := ?_) 27 rfl (by kernel_rfl) (by kernel_rfl) (by kernel_rfl) rfl (fun _ _ _ h => h) (Or.inl ⟨by rfl, ?_⟩) ?_
  rotate_left; (intro w; go_simp; try with_reducible rfl); try simp only [Act.put, List.setIfInBounds_toArray, List.set_cons_zero, List.set_cons_succ]
  refine wpAny_ready (rs := [4, 5]) (by kernel_rfl) (by simp) ?_
  refine AllReady.cons rfl (fun K hK => ?_) (AllReady.cons rfl (fun K hK => ?_) AllReady.nil)
  · skip
    go_simp
    refine hK _ _ ?_
    clear hK K
    try simp only [Act.put, List.setIfInBounds_toArray, List.set_cons_zero, List.set_cons_succ]
    refine wpAny_ready (rs := [5]) (by kernel_rfl) (by simp) ?_
    refine AllReady.cons rfl (fun K hK => ?_) AllReady.nil
    rw [if_pos (by rfl)]
    refine wp_load_mid 40 (.tmp 3) (by rfl) w.heap.size 0 (by rfl) [.int .i64 0, .int .i64 n, .int .i64 0, .int .i64 0, .int .i64 0, .int .i64 0, .int .i64 0, .int .i64 ht, .int .i64 0, .string ⟨#[]⟩, .int .i64 0, .string ⟨#[]⟩] _ RNG.out Try.underlying40 (by rfl) size40 ?_
    refine hK _ _ ?_
    clear hK K
    try simp only [Act.put, List.setIfInBounds_toArray, List.set_cons_zero, List.set_cons_succ]
    refine wpAny_ready (rs := [6]) (by kernel_rfl) (by simp) ?_
    refine AllReady.cons rfl (fun K hK => ?_) AllReady.nil
    go_simp
    refine hK _ _ ?_
    clear hK K
    try simp only [Act.put, List.setIfInBounds_toArray, List.set_cons_zero, List.set_cons_succ]
    refine wpAny_ready (rs := [7]) (by kernel_rfl) (by simp) ?_
    refine AllReady.cons rfl (fun K hK => ?_) AllReady.nil
    have hwB := HWB.out
    unfold evL at hwB
    dsimp only at hwB
    rw [hwB]
    clear hwB
    refine opx_append rfl (.tmp 28) (.tmp 30) 41 41 rfl _ _ rfl rfl _ _ HR ?_
    refine hK _ _ ?_
    clear hK K
    try simp only [Act.put, List.setIfInBounds_toArray, List.set_cons_zero, List.set_cons_succ]
    refine take_at (i := 8) (v := ?_) 32 rfl (by kernel_rfl) (by kernel_rfl) (by kernel_rfl) rfl (fun _ _ _ h => h) (Or.inl ⟨by rfl, ?_⟩) ?_
    rotate_left; (intro w; go_simp; try with_reducible rfl); try simp only [Act.put, List.setIfInBounds_toArray, List.set_cons_zero, List.set_cons_succ]
    refine take_at (i := 9) (v := ?_) 33 rfl (by kernel_rfl) (by kernel_rfl) (by kernel_rfl) rfl (fun _ _ _ h => h) (Or.inl ⟨by rfl, ?_⟩) ?_
    rotate_left; (intro w; go_simp; try with_reducible rfl); try simp only [Act.put, List.setIfInBounds_toArray, List.set_cons_zero, List.set_cons_succ]
    refine wpAny_ready (rs := [10]) (by kernel_rfl) (by simp) ?_
    refine AllReady.cons rfl (fun K hK => ?_) AllReady.nil
    go_simp
    refine hK _ _ ?_
    clear hK K
    try simp only [Act.put, List.setIfInBounds_toArray, List.set_cons_zero, List.set_cons_succ]
    refine wpAny_done (by kernel_rfl) ?_ _
    go_wp2_with (fail)
    go_ret
    exact ⟨rfl, H5.out.1, H5.out.2⟩
  · skip
    rw [if_pos (by rfl)]
    refine wp_load_mid 40 (.tmp 3) (by rfl) w.heap.size 0 (by rfl) [.int .i64 0, .int .i64 n, .int .i64 0, .int .i64 0, .int .i64 0, .int .i64 0, .int .i64 0, .int .i64 ht, .int .i64 0, .string ⟨#[]⟩, .int .i64 0, .string ⟨#[]⟩] _ RNG.out Try.underlying40 (by rfl) size40 ?_
    refine hK _ _ ?_
    clear hK K
    try simp only [Act.put, List.setIfInBounds_toArray, List.set_cons_zero, List.set_cons_succ]
    refine wpAny_ready (rs := [4, 6]) (by kernel_rfl) (by simp) ?_
    refine AllReady.cons rfl (fun K hK => ?_) (AllReady.cons rfl (fun K hK => ?_) AllReady.nil)
    · skip
      go_simp
      refine hK _ _ ?_
      clear hK K
      try simp only [Act.put, List.setIfInBounds_toArray, List.set_cons_zero, List.set_cons_succ]
      refine wpAny_ready (rs := [6]) (by kernel_rfl) (by simp) ?_
      refine AllReady.cons rfl (fun K hK => ?_) AllReady.nil
      go_simp
      refine hK _ _ ?_
      clear hK K
      try simp only [Act.put, List.setIfInBounds_toArray, List.set_cons_zero, List.set_cons_succ]
      refine wpAny_ready (rs := [7]) (by kernel_rfl) (by simp) ?_
      refine AllReady.cons rfl (fun K hK => ?_) AllReady.nil
      have hwB := HWB.out
      unfold evL at hwB
      dsimp only at hwB
      rw [hwB]
      clear hwB
      refine opx_append rfl (.tmp 28) (.tmp 30) 41 41 rfl _ _ rfl rfl _ _ HR ?_
      refine hK _ _ ?_
      clear hK K
      try simp only [Act.put, List.setIfInBounds_toArray, List.set_cons_zero, List.set_cons_succ]
      refine take_at (i := 8) (v := ?_) 32 rfl (by kernel_rfl) (by kernel_rfl) (by kernel_rfl) rfl (fun _ _ _ h => h) (Or.inl ⟨by rfl, ?_⟩) ?_
      rotate_left; (intro w; go_simp; try with_reducible rfl); try simp only [Act.put, List.setIfInBounds_toArray, List.set_cons_zero, List.set_cons_succ]
      refine take_at (i := 9) (v := ?_) 33 rfl (by kernel_rfl) (by kernel_rfl) (by kernel_rfl) rfl (fun _ _ _ h => h) (Or.inl ⟨by rfl, ?_⟩) ?_
      rotate_left; (intro w; go_simp; try with_reducible rfl); try simp only [Act.put, List.setIfInBounds_toArray, List.set_cons_zero, List.set_cons_succ]
      refine wpAny_ready (rs := [10]) (by kernel_rfl) (by simp) ?_
      refine AllReady.cons rfl (fun K hK => ?_) AllReady.nil
      go_simp
      refine hK _ _ ?_
      clear hK K
      try simp only [Act.put, List.setIfInBounds_toArray, List.set_cons_zero, List.set_cons_succ]
      refine wpAny_done (by kernel_rfl) ?_ _
      go_wp2_with (fail)
      go_ret
      exact ⟨rfl, H5.out.1, H5.out.2⟩
    · skip
      go_simp
      refine hK _ _ ?_
      clear hK K
      try simp only [Act.put, List.setIfInBounds_toArray, List.set_cons_zero, List.set_cons_succ]
      refine wpAny_ready (rs := [4]) (by kernel_rfl) (by simp) ?_
      refine AllReady.cons rfl (fun K hK => ?_) AllReady.nil
      go_simp
      refine hK _ _ ?_
      clear hK K
      try simp only [Act.put, List.setIfInBounds_toArray, List.set_cons_zero, List.set_cons_succ]
      refine wpAny_ready (rs := [7]) (by kernel_rfl) (by simp) ?_
      refine AllReady.cons rfl (fun K hK => ?_) AllReady.nil
      have hwB := HWB.out
      unfold evL at hwB
      dsimp only at hwB
      rw [hwB]
      clear hwB
      refine opx_append rfl (.tmp 28) (.tmp 30) 41 41 rfl _ _ rfl rfl _ _ HR ?_
      refine hK _ _ ?_
      clear hK K
      try simp only [Act.put, List.setIfInBounds_toArray, List.set_cons_zero, List.set_cons_succ]
      refine take_at (i := 8) (v := ?_) 32 rfl (by kernel_rfl) (by kernel_rfl) (by kernel_rfl) rfl (fun _ _ _ h => h) (Or.inl ⟨by rfl, ?_⟩) ?_
      rotate_left; (intro w; go_simp; try with_reducible rfl); try simp only [Act.put, List.setIfInBounds_toArray, List.set_cons_zero, List.set_cons_succ]
      refine take_at (i := 9) (v := ?_) 33 rfl (by kernel_rfl) (by kernel_rfl) (by kernel_rfl) rfl (fun _ _ _ h => h) (Or.inl ⟨by rfl, ?_⟩) ?_
      rotate_left; (intro w; go_simp; try with_reducible rfl); try simp only [Act.put, List.setIfInBounds_toArray, List.set_cons_zero, List.set_cons_succ]
      refine wpAny_ready (rs := [10]) (by kernel_rfl) (by simp) ?_
      refine AllReady.cons rfl (fun K hK => ?_) AllReady.nil
      go_simp
      refine hK _ _ ?_
      clear hK K
      try simp only [Act.put, List.setIfInBounds_toArray, List.set_cons_zero, List.set_cons_succ]
      refine wpAny_done (by kernel_rfl) ?_ _
      go_wp2_with (fail)
      go_ret
      exact ⟨rfl, H5.out.1, H5.out.2⟩
end Go.Proofs.Ytkcfcimophjomaa

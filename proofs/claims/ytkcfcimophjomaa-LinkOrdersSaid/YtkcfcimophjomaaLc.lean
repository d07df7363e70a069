import Derived.Test.YtkcfcimophjomaaLs
import Derived.Laws.OwnMore
namespace Go.Proofs.Ytkcfcimophjomaa
open Go.RowKit
set_option linter.unusedVariables false
set_option linter.unusedSimpArgs false
theorem link_copy_none (w : World) (m next k : Nat) (es : List Ent) (h : IsLink w m es next) (hk : es.length ≤ k) (hk2 : k ≤ 10000) :
    Calls Try.prog 29 #[.pointer (some ⟨m + 1, 0, none⟩), .int .i64 k] w fun e w' => e = .returned (.tuple #[.agg #[.int .i64 0, .slice none 0 0], .int .i64 24]) ∧ Below w.heap.size w w' := by
  have hlt := h.lt
  obtain ⟨a, c, arr, clock, hown, h1, h2, hf, c0, c1, c2, hm, hE⟩ := h.cells
  have d1 : (w.alloc (.cells #[.int .i64 0, .slice none 0 0] 54)).cell? ⟨m + 1, 1, none⟩ = some (.slice a es.length c) := (((Below.refl w.heap.size w).alloc (Nat.le_refl _) _).cell (p := ⟨m + 1, 1, none⟩) hlt).trans c1
  have q1 : (es.length : Int) ≤ (k : Int) := by omega
  clear h hown hm hE hf
  go_enter Try.func29, Try.ntmps29
  go_wp2
  exact bodyPost_ret (v := .tuple #[.agg #[.int .i64 0, .slice none 0 0], .int .i64 24]) (by simp [results, Try.results29, go_sem]) rfl ⟨rfl, (Below.refl _ _).alloc (Nat.le_refl _) _⟩
theorem look_at {w : World} {m : Nat} {arr : Array MapEntry} {clock B : Nat} {g : Option Nat} {es : List Ent} (h : w.heap[m]? = some (.map arr clock)) (hE : EntsOk w B g es arr.toList) (hn : (es.map (·.1)).Nodup) {k id x : Nat} {to : Int} (hk : es[k]? = some (id, to, x)) :
    ∃ b off c, (Instr.lookup 70 (.map (some m)) (.int .i64 id) false).run Try.prog w = .ok (.agg #[.int .i64 to, .slice (some ⟨b, off, none⟩) 1 c]) w ∧ 1 ≤ c ∧ c ≤ 9223372036854775807 ∧ b < w.heap.size ∧ w.cell? ⟨b, off, none⟩ = some (.int .u8 x) ∧ x < 256 ∧
      ∀ w', w'.heap[m]? = some (.map arr clock) → (Instr.lookup 70 (.map (some m)) (.int .i64 id) false).run Try.prog w' = .ok (.agg #[.int .i64 to, .slice (some ⟨b, off, none⟩) 1 c]) w' := by
  obtain ⟨b, off, c, hf, h1, h2, h3, h4, h5, h6, h7⟩ := EntsOk.find k 0 id to x hE hn hk
  have key : ∀ w' : World, w'.heap[m]? = some (.map arr clock) → (Instr.lookup 70 (.map (some m)) (.int .i64 id) false).run Try.prog w' = .ok (.agg #[.int .i64 to, .slice (some ⟨b, off, none⟩) 1 c]) w' := fun w' hw' => by
    have h1 := fun e => MapKept.run_checkKey (P := Try.prog) (w := w') (k := .int .i64 id) Try.underlying3 (by simp [MapKept.IsKey]) e 9999
    have h2 := MapKept.run_findKey (P := Try.prog) (w := w') (k := .int .i64 id) Try.underlying3 hf
    simp [Instr.lookup, run_underlying Try.underlying70, MapKept.run_getObj_map hw', h1, h2]
  exact ⟨b, off, c, key w h, h1, h2, h4, h6, h7, key⟩
theorem opx_lookup {P : Program} {ops : Array Oper} {o : Oper} {a : Act} {w : World} {K : Act → World → Prop} {Q : Exit → Act → World → Prop} {E : Prop} (hgd : o.guard = none) (t : TypeId) (s x : Operand) (b : Bool)
    (ho : o.op = .lookup t s x b) (vs vx : Value) (hs : a.eval s = vs) (hx : a.eval x = vx) (v : Value) (hr : (Instr.lookup t vs vx b).run P w = .ok v w) (h : K (a.put o.dst v) w) :
    if Region.wanted o (yielded ops a.tmps) = true then Oper.wp P o a w K Q else E := by
  rw [if_pos (by simp [Region.wanted, hgd])]
  unfold Oper.wp execOp
  simp only [ho, hs, hx, Sem.run_bind, hr, Result.andThen_ok, Sem.run_pure]
  exact h
set_option maxHeartbeats 1000000 in
theorem link_copy_at (w : World) (m next k id x : Nat) (to : Int) (es : List Ent) (h : IsLink w m es next) (hk : es[k]? = some (id, to, x)) (hk2 : es.length ≤ 10000) :
    Calls Try.prog 29 #[.pointer (some ⟨m + 1, 0, none⟩), .int .i64 k] w fun e w' => ∃ v', e = .returned (.tuple #[.agg #[.int .i64 to, v'], .int .i64 0]) ∧ w'.ownsRow w.heap.size 5 1 v' 1 (cells8 (fl (fun _ => x) 1)) ∧ x < 256 ∧ Below w.heap.size w w' := by
  have hlt := h.lt
  have hkl : k < es.length := (List.getElem?_eq_some_iff.1 hk).1
  obtain ⟨a, c, arr, clock, hown, h1, h2, hf, c0, c1, c2, hm, hE⟩ := h.cells
  obtain ⟨b, off, cb, _, f1, f2, f3, f4, f5, hlook⟩ := look_at hm hE h.2.1 hk
  obtain ⟨bo, rfl⟩ : ∃ bo, a = some ⟨bo, 0, none⟩ := by
    rcases hown.2 with ⟨_, h⟩ | ⟨g, cap, cur, h, _⟩
    · omega
    · injection h with e1; exact ⟨g, e1⟩
  have hbo := (hown.lt bo rfl).2
  have hco : w.cell? ⟨bo, k, none⟩ = some (.int .i64 id) := by
    rw [hown.cellAt k (by omega), List.getElem?_map, hk]; rfl
  obtain ⟨w0, hw0⟩ : ∃ w0, w.alloc (.cells #[.int .i64 0, .slice none 0 0] 54) = w0 := ⟨_, rfl⟩
  have hb0 : Below w.heap.size w w0 := by rw [← hw0]; exact (Below.refl _ _).alloc (Nat.le_refl _) _
  have hs0 : w.heap.size < w0.heap.size := by rw [← hw0]; simp
  have d0 : w0.cell? ⟨m + 1, 0, none⟩ = some (.map (some m)) := (hb0.cell (p := ⟨m + 1, 0, none⟩) hlt).trans c0
  have d1 : w0.cell? ⟨m + 1, 1, none⟩ = some (.slice (some ⟨bo, 0, none⟩) es.length c) := (hb0.cell (p := ⟨m + 1, 1, none⟩) hlt).trans c1
  have d2 : w0.cell? ⟨bo, k, none⟩ = some (.int .i64 id) := (hb0.cell (p := ⟨bo, k, none⟩) hbo).trans hco
  have dm : w0.heap[m]? = some (.map arr clock) := (hb0.block m (by omega)).trans hm
  have hr0 : w0.heap[w.heap.size]? = some (.cells #[.int .i64 0, .slice none 0 0] 54 (0, 0)) := by rw [← hw0]; exact heap_alloc_new w _
  have q1 : (k : Int) < (es.length : Int) := by omega
  have q0 : (0 : Int) ≤ (k : Int) := by omega
  have HL := Lib.hid hlook
  have HW0 := Lib.hid hw0
  have HR0 := Lib.hid hr0
  have HFB := Lib.hid f4
  have DM := Lib.hid dm
  have hsa : ∀ o, (w0.alloc o).cell? ⟨m + 1, 0, none⟩ = some (.map (some m)) ∧ (w0.alloc o).cell? ⟨m + 1, 1, none⟩ = some (.slice (some ⟨bo, 0, none⟩) es.length c) ∧ (w0.alloc o).cell? ⟨bo, k, none⟩ = some (.int .i64 id) ∧ (w0.alloc o).heap[m]? = some (.map arr clock) := fun o => by
    have hbo' : Below w0.heap.size w0 (w0.alloc o) := (Below.refl _ _).alloc (Nat.le_refl _) _
    exact ⟨(hbo'.cell (p := ⟨m + 1, 0, none⟩) (by show m + 1 < _; omega)).trans d0, (hbo'.cell (p := ⟨m + 1, 1, none⟩) (by show m + 1 < _; omega)).trans d1, (hbo'.cell (p := ⟨bo, k, none⟩) (by show bo < _; omega)).trans d2, (hbo'.block m (by omega)).trans dm⟩
  have HSA := Lib.hid hsa
  clear h hown hm hE hf c0 c1 c2 hco hk hlook hw0 hr0 dm f4 hsa
  have e1 : (w.alloc (.cells #[.int .i64 0, .slice none 0 0] 54)).cell? ⟨m + 1, 1, none⟩ = some (.slice (some ⟨bo, 0, none⟩) es.length c) := by rw [HW0.out]; exact d1
  go_enter Try.func29, Try.ntmps29
  go_wp2_with (fail)
  rw [HW0.out]
  clear e1
  refine wp_region_held_drew (S := fun w' => w'.cell? ⟨m + 1, 0, none⟩ = some (.map (some m)) ∧ w'.cell? ⟨m + 1, 1, none⟩ = some (.slice (some ⟨bo, 0, none⟩) es.length c) ∧ w'.cell? ⟨bo, k, none⟩ = some (.int .i64 id) ∧ w'.heap[m]? = some (.map arr clock)) (by kernel_rfl) ?_ (fun hHeld => ?_)
  · first | exact ⟨d0, d1, d2, DM.out⟩ | exact HSA.out _
  refine takeH_at (i := 0) (v := ?_) 19 rfl (by kernel_rfl) (by kernel_rfl) (by kernel_rfl) rfl (fun _ _ _ h => h) (Or.inl ⟨by rfl, ?_⟩) (by assumption) ?_
  rotate_left; (intro w hSw; (try dsimp only at hSw); go_simp; try with_reducible rfl); try simp only [Act.put, List.setIfInBounds_toArray, List.set_cons_zero, List.set_cons_succ]
  refine takeH_at (i := 1) (v := ?_) 20 rfl (by kernel_rfl) (by kernel_rfl) (by kernel_rfl) rfl (fun _ _ _ h => h) (Or.inl ⟨by rfl, ?_⟩) (by assumption) ?_
  rotate_left; (intro w hSw; (try dsimp only at hSw); go_simp; try with_reducible rfl); try simp only [Act.put, List.setIfInBounds_toArray, List.set_cons_zero, List.set_cons_succ]
  refine takeH_at (i := 2) (v := ?_) 21 rfl (by kernel_rfl) (by kernel_rfl) (by kernel_rfl) rfl (fun _ _ _ h => h) (Or.inl ⟨by rfl, ?_⟩) (by assumption) ?_
  rotate_left; (intro w hSw; (try dsimp only at hSw); go_simp; try with_reducible rfl); try simp only [Act.put, List.setIfInBounds_toArray, List.set_cons_zero, List.set_cons_succ]
  refine takeH_at (i := 3) (v := ?_) 22 rfl (by kernel_rfl) (by kernel_rfl) (by kernel_rfl) rfl (fun _ _ _ h => h) (Or.inl ⟨by rfl, ?_⟩) (by assumption) ?_
  rotate_left; (intro w hSw; (try dsimp only at hSw); go_simp; try with_reducible rfl); try simp only [Act.put, List.setIfInBounds_toArray, List.set_cons_zero, List.set_cons_succ]
  refine takeH_at (i := 4) (v := ?_) 23 rfl (by kernel_rfl) (by kernel_rfl) (by kernel_rfl) rfl (fun _ _ _ h => h) (Or.inl ⟨by rfl, ?_⟩) (by assumption) ?_
  rotate_left; (intro w hSw; (try dsimp only at hSw); go_simp; try with_reducible rfl); try simp only [Act.put, List.setIfInBounds_toArray, List.set_cons_zero, List.set_cons_succ]
  refine takeH_at (i := 5) (v := ?_) 24 rfl (by kernel_rfl) (by kernel_rfl) (by kernel_rfl) rfl (fun _ _ _ h => h) (Or.inl ⟨by rfl, ?_⟩) (by assumption) ?_
  rotate_left; (intro w hSw; (try dsimp only at hSw); go_simp; try with_reducible rfl); try simp only [Act.put, List.setIfInBounds_toArray, List.set_cons_zero, List.set_cons_succ]
  refine takeH_at (i := 6) (v := ?_) 25 rfl (by kernel_rfl) (by kernel_rfl) (by kernel_rfl) rfl (fun _ _ _ h => h) (Or.inl ⟨by rfl, ?_⟩) (by assumption) ?_
  rotate_left; (intro w hSw; (try dsimp only at hSw); go_simp; try with_reducible rfl); try simp only [Act.put, List.setIfInBounds_toArray, List.set_cons_zero, List.set_cons_succ]
  refine takeH_at (i := 7) (v := ?_) 26 rfl (by kernel_rfl) (by kernel_rfl) (by kernel_rfl) rfl (fun _ _ _ h => h) (Or.inl ⟨by rfl, ?_⟩) (by assumption) ?_
  rotate_left; (intro w hSw; (try dsimp only at hSw); go_simp; try with_reducible rfl); try simp only [Act.put, List.setIfInBounds_toArray, List.set_cons_zero, List.set_cons_succ]
  refine takeH_at (i := 8) (v := ?_) 27 rfl (by kernel_rfl) (by kernel_rfl) (by kernel_rfl) rfl (fun _ _ _ h => h) (Or.inl ⟨by rfl, ?_⟩) (by assumption) ?_
  rotate_left; (intro w hSw; (try dsimp only at hSw); go_simp; try with_reducible rfl); try simp only [Act.put, List.setIfInBounds_toArray, List.set_cons_zero, List.set_cons_succ]
  refine takeH_at (i := 9) (v := ?_) 28 rfl (by kernel_rfl) (by kernel_rfl) (by kernel_rfl) rfl (fun _ _ _ h => h) (Or.inl ⟨by rfl, ?_⟩) (by assumption) ?_
  rotate_left; (intro w hSw; (try dsimp only at hSw); go_simp; try with_reducible rfl); try simp only [Act.put, List.setIfInBounds_toArray, List.set_cons_zero, List.set_cons_succ]
  refine takeH_at (i := 10) (v := ?_) 29 rfl (by kernel_rfl) (by kernel_rfl) (by kernel_rfl) rfl (fun _ _ _ h => h) (Or.inl ⟨by rfl, ?_⟩) (by assumption) ?_
  rotate_left; (intro w hSw; (try dsimp only at hSw); go_simp; try with_reducible rfl); try simp only [Act.put, List.setIfInBounds_toArray, List.set_cons_zero, List.set_cons_succ]
  refine wpAnyH_ready (rs := [11, 12]) (by kernel_rfl) (by simp) ?_
  refine AllReadyH.cons rfl (fun K hK => ?_) (AllReadyH.cons rfl (fun K hK => ?_) AllReadyH.nil)
  · skip
    refine opx_lookup rfl 70 (.tmp 22) (.tmp 29) false rfl _ _ rfl rfl _ (HL.out _ (by first | exact DM.out | exact (HSA.out _).2.2.2)) ?_
    refine hK.out _ _ ?_ (fun hHeld => ?_)
    · first | exact ⟨d0, d1, d2, DM.out⟩ | exact HSA.out _
    clear hK K
    try simp only [Act.put, List.setIfInBounds_toArray, List.set_cons_zero, List.set_cons_succ]
    refine wpAnyH_ready (rs := [12]) (by kernel_rfl) (by simp) ?_
    refine AllReadyH.cons rfl (fun K hK => ?_) AllReadyH.nil
    go_simp
    refine hK.out _ _ ?_ (fun hHeld => ?_)
    · first | exact ⟨d0, d1, d2, DM.out⟩ | exact HSA.out _
    clear hK K
    try simp only [Act.put, List.setIfInBounds_toArray, List.set_cons_zero, List.set_cons_succ]
    refine wpAnyH_ready (rs := [13]) (by kernel_rfl) (by simp) ?_
    refine AllReadyH.cons rfl (fun K hK => ?_) AllReadyH.nil
    go_simp
    refine hK.out _ _ ?_ (fun hHeld => ?_)
    · first | exact ⟨d0, d1, d2, DM.out⟩ | exact HSA.out _
    clear hK K
    try simp only [Act.put, List.setIfInBounds_toArray, List.set_cons_zero, List.set_cons_succ]
    refine wpAnyH_done (by kernel_rfl) ?_ _
    obtain ⟨w4, hw4⟩ : ∃ w4, (w0.alloc (.cells #[.int .i64 to, .slice (some ⟨b, off, none⟩) 1 cb] 54)).drew = w4 := ⟨_, rfl⟩
    have hb4 : Below w0.heap.size w0 w4 := by rw [← hw4]; exact ((Below.refl _ _).alloc (Nat.le_refl _) _).drew
    have hs4 : w0.heap.size < w4.heap.size := by rw [← hw4]; simp
    have hblk4 : w4.heap[w0.heap.size]? = some (.cells #[.int .i64 to, .slice (some ⟨b, off, none⟩) 1 cb] 54 (0, 0)) := by rw [← hw4]; exact heap_alloc_new w0 _
    have s0 : w4.cell? ⟨w0.heap.size, 0, none⟩ = some (.int .i64 to) := by rw [cell_of_row w4 w0.heap.size 0 _ 54 (0, 0) hblk4]; rfl
    have s1 : w4.cell? ⟨w0.heap.size, 1, none⟩ = some (.slice (some ⟨b, off, none⟩) 1 cb) := by rw [cell_of_row w4 w0.heap.size 1 _ 54 (0, 0) hblk4]; rfl
    have hz4 : Below w.heap.size w w4 := hb0.trans (hb4.mono hb0.size)
    have hr4 : w4.heap[w.heap.size]? = some (.cells #[.int .i64 0, .slice none 0 0] 54 (0, 0)) := (hb4.block w.heap.size hs0).trans HR0.out
    have hR4 : Rd w4.drew (.slice (some ⟨b, off, none⟩) 1 cb) 1 (fun _ => x) := ⟨fun _ => f5, .inr ⟨by omega, b, off, cb, rfl, f1, f2, Nat.lt_of_lt_of_le f3 hz4.size, fun j hj => by
      obtain rfl : j = 0 := by omega
      exact (hz4.cell (p := ⟨b, off, none⟩) f3).trans HFB.out⟩⟩
    have HR4 := Lib.hid hR4
    have HB4 := Lib.hid hr4
    rw [hw4]
    clear hw4 hb4 hblk4 d0 d1 d2 hr4 hR4 HL DM HSA
    go_wp2_with (fail)
    refine wp_region_held_drew (S := fun w' => w'.cell? ⟨w0.heap.size, 0, none⟩ = some (.int .i64 to) ∧ w'.cell? ⟨w0.heap.size, 1, none⟩ = some (.slice (some ⟨b, off, none⟩) 1 cb)) (by kernel_rfl) ?_ (fun hHeld => ?_)
    · first | exact ⟨s0, s1⟩ | exact ⟨t0, t1⟩ | exact ⟨u0, u1⟩
    refine takeH_at (i := 0) (v := ?_) 31 rfl (by kernel_rfl) (by kernel_rfl) (by kernel_rfl) rfl (fun _ _ _ h => h) (Or.inl ⟨by rfl, ?_⟩) (by assumption) ?_
    rotate_left; (intro w hSw; (try dsimp only at hSw); go_simp; try with_reducible rfl); try simp only [Act.put, List.setIfInBounds_toArray, List.set_cons_zero, List.set_cons_succ]
    refine takeH_at (i := 1) (v := ?_) 32 rfl (by kernel_rfl) (by kernel_rfl) (by kernel_rfl) rfl (fun _ _ _ h => h) (Or.inl ⟨by rfl, ?_⟩) (by assumption) ?_
    rotate_left; (intro w hSw; (try dsimp only at hSw); go_simp; try with_reducible rfl); try simp only [Act.put, List.setIfInBounds_toArray, List.set_cons_zero, List.set_cons_succ]
    refine takeH_at (i := 2) (v := ?_) 33 rfl (by kernel_rfl) (by kernel_rfl) (by kernel_rfl) rfl (fun _ _ _ h => h) (Or.inl ⟨by rfl, ?_⟩) (by assumption) ?_
    rotate_left; (intro w hSw; (try dsimp only at hSw); go_simp; try with_reducible rfl); try simp only [Act.put, List.setIfInBounds_toArray, List.set_cons_zero, List.set_cons_succ]
    refine takeH_at (i := 3) (v := ?_) 34 rfl (by kernel_rfl) (by kernel_rfl) (by kernel_rfl) rfl (fun _ _ _ h => h) (Or.inl ⟨by rfl, ?_⟩) (by assumption) ?_
    rotate_left; (intro w hSw; (try dsimp only at hSw); go_simp; try with_reducible rfl); try simp only [Act.put, List.setIfInBounds_toArray, List.set_cons_zero, List.set_cons_succ]
    refine wpAnyH_ready (rs := [4]) (by kernel_rfl) (by simp) ?_
    refine AllReadyH.cons rfl (fun K hK => ?_) AllReadyH.nil
    go_simp
    go_at_call 34; refine (clone8 HR4.out (by omega)).mono ?_
    rintro e w5 ⟨v5, rfl, hR5, hb5⟩
    obtain ⟨a5, c5, rfl, _, _⟩ := ownE_slice hR5
    have hz5 : Below w.heap.size w w5 := hz4.drew.trans (hb5.mono hz4.size)
    have hs5 : w4.heap.size ≤ w5.heap.size := hb5.size
    have t0 : w5.cell? ⟨w0.heap.size, 0, none⟩ = some (.int .i64 to) := (hb5.cell (p := ⟨w0.heap.size, 0, none⟩) hs4).trans s0
    have t1 : w5.cell? ⟨w0.heap.size, 1, none⟩ = some (.slice (some ⟨b, off, none⟩) 1 cb) := (hb5.cell (p := ⟨w0.heap.size, 1, none⟩) hs4).trans s1
    have hr5 : w5.heap[w.heap.size]? = some (.cells #[.int .i64 0, .slice none 0 0] 54 (0, 0)) := (hb5.block w.heap.size (by show w.heap.size < w4.heap.size; omega)).trans HB4.out
    have p0 : w5.cell? ⟨w.heap.size, 0, none⟩ = some (.int .i64 0) := by rw [cell_of_row w5 w.heap.size 0 _ 54 (0, 0) hr5]; rfl
    have p1 : w5.cell? ⟨w.heap.size, 1, none⟩ = some (.slice none 0 0) := by rw [cell_of_row w5 w.heap.size 1 _ 54 (0, 0) hr5]; rfl
    have pf0 : w5.frozen? ⟨w.heap.size, 0, none⟩ = false := frozen_of_row w5 w.heap.size 0 _ 54 hr5
    have pf1 : w5.frozen? ⟨w.heap.size, 1, none⟩ = false := frozen_of_row w5 w.heap.size 1 _ 54 hr5
    have u0 : ((w5.setCell ⟨w.heap.size, 0, none⟩ (.int .i64 to)).setCell ⟨w.heap.size, 1, none⟩ (.slice a5 1 c5)).cell? ⟨w0.heap.size, 0, none⟩ = some (.int .i64 to) := by
      rw [World.cell?_setCell_far _ _ _ _ (by show w.heap.size ≠ w0.heap.size; omega), World.cell?_setCell_far _ _ _ _ (by show w.heap.size ≠ w0.heap.size; omega)]; exact t0
    have u1 : ((w5.setCell ⟨w.heap.size, 0, none⟩ (.int .i64 to)).setCell ⟨w.heap.size, 1, none⟩ (.slice a5 1 c5)).cell? ⟨w0.heap.size, 1, none⟩ = some (.slice (some ⟨b, off, none⟩) 1 cb) := by
      rw [World.cell?_setCell_far _ _ _ _ (by show w.heap.size ≠ w0.heap.size; omega), World.cell?_setCell_far _ _ _ _ (by show w.heap.size ≠ w0.heap.size; omega)]; exact t1
    have hsz4 : w.heap.size < w4.drew.heap.size := by show w.heap.size < w4.heap.size; omega
    have hRF : ((w5.setCell ⟨w.heap.size, 0, none⟩ (.int .i64 to)).setCell ⟨w.heap.size, 1, none⟩ (.slice a5 1 c5)).ownsRow w.heap.size 5 1 (.slice a5 1 c5) 1 (cells8 (fl (fun _ => x) 1)) := ownE_base (ownE_same hR5 (fun j hj => by
      rw [heap_setCell_other _ ⟨w.heap.size, 1, none⟩ j _ (by show j ≠ w.heap.size; omega), heap_setCell_other _ ⟨w.heap.size, 0, none⟩ j _ (by show j ≠ w.heap.size; omega)])) (Nat.le_of_lt hsz4)
    have HRF := Lib.hid hRF
    have g0 := heap_setCell_same w5 w.heap.size 0 _ 54 (.int .i64 to) hr5
    have g1 := heap_setCell_same _ w.heap.size 1 _ 54 (.slice a5 1 c5) g0
    have HG1 := Lib.hid g1
    clear hRF hR5 g0 g1 hr5
    refine hK.out _ _ ?_ (fun hHeld => ?_)
    · first | exact ⟨s0, s1⟩ | exact ⟨t0, t1⟩ | exact ⟨u0, u1⟩
    clear hK K
    try simp only [Act.put, List.setIfInBounds_toArray, List.set_cons_zero, List.set_cons_succ]
    refine takeH_at (i := 5) (v := ?_) 36 rfl (by kernel_rfl) (by kernel_rfl) (by kernel_rfl) rfl (fun _ _ _ h => h) (Or.inl ⟨by rfl, ?_⟩) (by assumption) ?_
    rotate_left; (intro w hSw; (try dsimp only at hSw); go_simp; try with_reducible rfl); try simp only [Act.put, List.setIfInBounds_toArray, List.set_cons_zero, List.set_cons_succ]
    refine wpAnyH_ready (rs := [6]) (by kernel_rfl) (by simp) ?_
    refine AllReadyH.cons rfl (fun K hK => ?_) AllReadyH.nil
    go_simp
    refine hK.out _ _ ?_ (fun hHeld => ?_)
    · first | exact ⟨s0, s1⟩ | exact ⟨t0, t1⟩ | exact ⟨u0, u1⟩
    clear hK K
    try simp only [Act.put, List.setIfInBounds_toArray, List.set_cons_zero, List.set_cons_succ]
    refine takeH_at (i := 7) (v := ?_) 5 rfl (by kernel_rfl) (by kernel_rfl) (by kernel_rfl) rfl (fun _ _ _ h => h) (Or.inl ⟨by rfl, ?_⟩) (by assumption) ?_
    rotate_left; (intro w hSw; (try dsimp only at hSw); go_simp; try with_reducible rfl); try simp only [Act.put, List.setIfInBounds_toArray, List.set_cons_zero, List.set_cons_succ]
    refine wpAnyH_done (by kernel_rfl) ?_ _
    go_wp2_with (fail)
    obtain ⟨wF, hwF⟩ : ∃ wF, (w5.setCell ⟨w.heap.size, 0, none⟩ (.int .i64 to)).setCell ⟨w.heap.size, 1, none⟩ (.slice a5 1 c5) = wF := ⟨_, rfl⟩
    have hRF := HRF.out
    have hG := HG1.out
    rw [hwF] at hRF hG
    have y0 : wF.cell? ⟨w.heap.size, 0, none⟩ = some (.int .i64 to) := by rw [cell_of_row wF w.heap.size 0 _ 54 (0, 0) hG]; rfl
    have y1 : wF.cell? ⟨w.heap.size, 1, none⟩ = some (.slice a5 1 c5) := by rw [cell_of_row wF w.heap.size 1 _ 54 (0, 0) hG]; rfl
    have hbF : Below w.heap.size w wF := by rw [← hwF]; exact (hz5.setCell (Nat.le_refl _) _).setCell (Nat.le_refl _) _
    rw [hwF]
    exact bodyPost_ret (v := .tuple #[.agg #[.int .i64 to, .slice a5 1 c5], .int .i64 0]) (by simp [results, Try.results29, go_sem, y0, y1]) rfl ⟨_, rfl, hRF, f5, hbF⟩
  · skip
    go_simp
    refine hK.out _ _ ?_ (fun hHeld => ?_)
    · first | exact ⟨d0, d1, d2, DM.out⟩ | exact HSA.out _
    clear hK K
    try simp only [Act.put, List.setIfInBounds_toArray, List.set_cons_zero, List.set_cons_succ]
    refine wpAnyH_ready (rs := [11]) (by kernel_rfl) (by simp) ?_
    refine AllReadyH.cons rfl (fun K hK => ?_) AllReadyH.nil
    refine opx_lookup rfl 70 (.tmp 22) (.tmp 29) false rfl _ _ rfl rfl _ (HL.out _ (by first | exact DM.out | exact (HSA.out _).2.2.2)) ?_
    refine hK.out _ _ ?_ (fun hHeld => ?_)
    · first | exact ⟨d0, d1, d2, DM.out⟩ | exact HSA.out _
    clear hK K
    try simp only [Act.put, List.setIfInBounds_toArray, List.set_cons_zero, List.set_cons_succ]
    refine wpAnyH_ready (rs := [13]) (by kernel_rfl) (by simp) ?_
    refine AllReadyH.cons rfl (fun K hK => ?_) AllReadyH.nil
    go_simp
    refine hK.out _ _ ?_ (fun hHeld => ?_)
    · first | exact ⟨d0, d1, d2, DM.out⟩ | exact HSA.out _
    clear hK K
    try simp only [Act.put, List.setIfInBounds_toArray, List.set_cons_zero, List.set_cons_succ]
    refine wpAnyH_done (by kernel_rfl) ?_ _
    obtain ⟨w4, hw4⟩ : ∃ w4, (w0.alloc (.cells #[.int .i64 to, .slice (some ⟨b, off, none⟩) 1 cb] 54)).drew = w4 := ⟨_, rfl⟩
    have hb4 : Below w0.heap.size w0 w4 := by rw [← hw4]; exact ((Below.refl _ _).alloc (Nat.le_refl _) _).drew
    have hs4 : w0.heap.size < w4.heap.size := by rw [← hw4]; simp
    have hblk4 : w4.heap[w0.heap.size]? = some (.cells #[.int .i64 to, .slice (some ⟨b, off, none⟩) 1 cb] 54 (0, 0)) := by rw [← hw4]; exact heap_alloc_new w0 _
    have s0 : w4.cell? ⟨w0.heap.size, 0, none⟩ = some (.int .i64 to) := by rw [cell_of_row w4 w0.heap.size 0 _ 54 (0, 0) hblk4]; rfl
    have s1 : w4.cell? ⟨w0.heap.size, 1, none⟩ = some (.slice (some ⟨b, off, none⟩) 1 cb) := by rw [cell_of_row w4 w0.heap.size 1 _ 54 (0, 0) hblk4]; rfl
    have hz4 : Below w.heap.size w w4 := hb0.trans (hb4.mono hb0.size)
    have hr4 : w4.heap[w.heap.size]? = some (.cells #[.int .i64 0, .slice none 0 0] 54 (0, 0)) := (hb4.block w.heap.size hs0).trans HR0.out
    have hR4 : Rd w4.drew (.slice (some ⟨b, off, none⟩) 1 cb) 1 (fun _ => x) := ⟨fun _ => f5, .inr ⟨by omega, b, off, cb, rfl, f1, f2, Nat.lt_of_lt_of_le f3 hz4.size, fun j hj => by
      obtain rfl : j = 0 := by omega
      exact (hz4.cell (p := ⟨b, off, none⟩) f3).trans HFB.out⟩⟩
    have HR4 := Lib.hid hR4
    have HB4 := Lib.hid hr4
    rw [hw4]
    clear hw4 hb4 hblk4 d0 d1 d2 hr4 hR4 HL DM HSA
    go_wp2_with (fail)
    refine wp_region_held_drew (S := fun w' => w'.cell? ⟨w0.heap.size, 0, none⟩ = some (.int .i64 to) ∧ w'.cell? ⟨w0.heap.size, 1, none⟩ = some (.slice (some ⟨b, off, none⟩) 1 cb)) (by kernel_rfl) ?_ (fun hHeld => ?_)
    · first | exact ⟨s0, s1⟩ | exact ⟨t0, t1⟩ | exact ⟨u0, u1⟩
    refine takeH_at (i := 0) (v := ?_) 31 rfl (by kernel_rfl) (by kernel_rfl) (by kernel_rfl) rfl (fun _ _ _ h => h) (Or.inl ⟨by rfl, ?_⟩) (by assumption) ?_
    rotate_left; (intro w hSw; (try dsimp only at hSw); go_simp; try with_reducible rfl); try simp only [Act.put, List.setIfInBounds_toArray, List.set_cons_zero, List.set_cons_succ]
    refine takeH_at (i := 1) (v := ?_) 32 rfl (by kernel_rfl) (by kernel_rfl) (by kernel_rfl) rfl (fun _ _ _ h => h) (Or.inl ⟨by rfl, ?_⟩) (by assumption) ?_
    rotate_left; (intro w hSw; (try dsimp only at hSw); go_simp; try with_reducible rfl); try simp only [Act.put, List.setIfInBounds_toArray, List.set_cons_zero, List.set_cons_succ]
    refine takeH_at (i := 2) (v := ?_) 33 rfl (by kernel_rfl) (by kernel_rfl) (by kernel_rfl) rfl (fun _ _ _ h => h) (Or.inl ⟨by rfl, ?_⟩) (by assumption) ?_
    rotate_left; (intro w hSw; (try dsimp only at hSw); go_simp; try with_reducible rfl); try simp only [Act.put, List.setIfInBounds_toArray, List.set_cons_zero, List.set_cons_succ]
    refine takeH_at (i := 3) (v := ?_) 34 rfl (by kernel_rfl) (by kernel_rfl) (by kernel_rfl) rfl (fun _ _ _ h => h) (Or.inl ⟨by rfl, ?_⟩) (by assumption) ?_
    rotate_left; (intro w hSw; (try dsimp only at hSw); go_simp; try with_reducible rfl); try simp only [Act.put, List.setIfInBounds_toArray, List.set_cons_zero, List.set_cons_succ]
    refine wpAnyH_ready (rs := [4]) (by kernel_rfl) (by simp) ?_
    refine AllReadyH.cons rfl (fun K hK => ?_) AllReadyH.nil
    go_simp
    go_at_call 34; refine (clone8 HR4.out (by omega)).mono ?_
    rintro e w5 ⟨v5, rfl, hR5, hb5⟩
    obtain ⟨a5, c5, rfl, _, _⟩ := ownE_slice hR5
    have hz5 : Below w.heap.size w w5 := hz4.drew.trans (hb5.mono hz4.size)
    have hs5 : w4.heap.size ≤ w5.heap.size := hb5.size
    have t0 : w5.cell? ⟨w0.heap.size, 0, none⟩ = some (.int .i64 to) := (hb5.cell (p := ⟨w0.heap.size, 0, none⟩) hs4).trans s0
    have t1 : w5.cell? ⟨w0.heap.size, 1, none⟩ = some (.slice (some ⟨b, off, none⟩) 1 cb) := (hb5.cell (p := ⟨w0.heap.size, 1, none⟩) hs4).trans s1
    have hr5 : w5.heap[w.heap.size]? = some (.cells #[.int .i64 0, .slice none 0 0] 54 (0, 0)) := (hb5.block w.heap.size (by show w.heap.size < w4.heap.size; omega)).trans HB4.out
    have p0 : w5.cell? ⟨w.heap.size, 0, none⟩ = some (.int .i64 0) := by rw [cell_of_row w5 w.heap.size 0 _ 54 (0, 0) hr5]; rfl
    have p1 : w5.cell? ⟨w.heap.size, 1, none⟩ = some (.slice none 0 0) := by rw [cell_of_row w5 w.heap.size 1 _ 54 (0, 0) hr5]; rfl
    have pf0 : w5.frozen? ⟨w.heap.size, 0, none⟩ = false := frozen_of_row w5 w.heap.size 0 _ 54 hr5
    have pf1 : w5.frozen? ⟨w.heap.size, 1, none⟩ = false := frozen_of_row w5 w.heap.size 1 _ 54 hr5
    have u0 : ((w5.setCell ⟨w.heap.size, 0, none⟩ (.int .i64 to)).setCell ⟨w.heap.size, 1, none⟩ (.slice a5 1 c5)).cell? ⟨w0.heap.size, 0, none⟩ = some (.int .i64 to) := by
      rw [World.cell?_setCell_far _ _ _ _ (by show w.heap.size ≠ w0.heap.size; omega), World.cell?_setCell_far _ _ _ _ (by show w.heap.size ≠ w0.heap.size; omega)]; exact t0
    have u1 : ((w5.setCell ⟨w.heap.size, 0, none⟩ (.int .i64 to)).setCell ⟨w.heap.size, 1, none⟩ (.slice a5 1 c5)).cell? ⟨w0.heap.size, 1, none⟩ = some (.slice (some ⟨b, off, none⟩) 1 cb) := by
      rw [World.cell?_setCell_far _ _ _ _ (by show w.heap.size ≠ w0.heap.size; omega), World.cell?_setCell_far _ _ _ _ (by show w.heap.size ≠ w0.heap.size; omega)]; exact t1
    have hsz4 : w.heap.size < w4.drew.heap.size := by show w.heap.size < w4.heap.size; omega
    have hRF : ((w5.setCell ⟨w.heap.size, 0, none⟩ (.int .i64 to)).setCell ⟨w.heap.size, 1, none⟩ (.slice a5 1 c5)).ownsRow w.heap.size 5 1 (.slice a5 1 c5) 1 (cells8 (fl (fun _ => x) 1)) := ownE_base (ownE_same hR5 (fun j hj => by
      rw [heap_setCell_other _ ⟨w.heap.size, 1, none⟩ j _ (by show j ≠ w.heap.size; omega), heap_setCell_other _ ⟨w.heap.size, 0, none⟩ j _ (by show j ≠ w.heap.size; omega)])) (Nat.le_of_lt hsz4)
    have HRF := Lib.hid hRF
    have g0 := heap_setCell_same w5 w.heap.size 0 _ 54 (.int .i64 to) hr5
    have g1 := heap_setCell_same _ w.heap.size 1 _ 54 (.slice a5 1 c5) g0
    have HG1 := Lib.hid g1
    clear hRF hR5 g0 g1 hr5
    refine hK.out _ _ ?_ (fun hHeld => ?_)
    · first | exact ⟨s0, s1⟩ | exact ⟨t0, t1⟩ | exact ⟨u0, u1⟩
    clear hK K
    try simp only [Act.put, List.setIfInBounds_toArray, List.set_cons_zero, List.set_cons_succ]
    refine takeH_at (i := 5) (v := ?_) 36 rfl (by kernel_rfl) (by kernel_rfl) (by kernel_rfl) rfl (fun _ _ _ h => h) (Or.inl ⟨by rfl, ?_⟩) (by assumption) ?_
    rotate_left; (intro w hSw; (try dsimp only at hSw); go_simp; try with_reducible rfl); try simp only [Act.put, List.setIfInBounds_toArray, List.set_cons_zero, List.set_cons_succ]
    refine wpAnyH_ready (rs := [6]) (by kernel_rfl) (by simp) ?_
    refine AllReadyH.cons rfl (fun K hK => ?_) AllReadyH.nil
    go_simp
    refine hK.out _ _ ?_ (fun hHeld => ?_)
    · first | exact ⟨s0, s1⟩ | exact ⟨t0, t1⟩ | exact ⟨u0, u1⟩
    clear hK K
    try simp only [Act.put, List.setIfInBounds_toArray, List.set_cons_zero, List.set_cons_succ]
    refine takeH_at (i := 7) (v := ?_) 5 rfl (by kernel_rfl) (by kernel_rfl) (by kernel_rfl) rfl (fun _ _ _ h => h) (Or.inl ⟨by rfl, ?_⟩) (by assumption) ?_
    rotate_left; (intro w hSw; (try dsimp only at hSw); go_simp; try with_reducible rfl); try simp only [Act.put, List.setIfInBounds_toArray, List.set_cons_zero, List.set_cons_succ]
    refine wpAnyH_done (by kernel_rfl) ?_ _
    go_wp2_with (fail)
    obtain ⟨wF, hwF⟩ : ∃ wF, (w5.setCell ⟨w.heap.size, 0, none⟩ (.int .i64 to)).setCell ⟨w.heap.size, 1, none⟩ (.slice a5 1 c5) = wF := ⟨_, rfl⟩
    have hRF := HRF.out
    have hG := HG1.out
    rw [hwF] at hRF hG
    have y0 : wF.cell? ⟨w.heap.size, 0, none⟩ = some (.int .i64 to) := by rw [cell_of_row wF w.heap.size 0 _ 54 (0, 0) hG]; rfl
    have y1 : wF.cell? ⟨w.heap.size, 1, none⟩ = some (.slice a5 1 c5) := by rw [cell_of_row wF w.heap.size 1 _ 54 (0, 0) hG]; rfl
    have hbF : Below w.heap.size w wF := by rw [← hwF]; exact (hz5.setCell (Nat.le_refl _) _).setCell (Nat.le_refl _) _
    rw [hwF]
    exact bodyPost_ret (v := .tuple #[.agg #[.int .i64 to, .slice a5 1 c5], .int .i64 0]) (by simp [results, Try.results29, go_sem, y0, y1]) rfl ⟨_, rfl, hRF, f5, hbF⟩
end Go.Proofs.Ytkcfcimophjomaa

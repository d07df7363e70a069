import Derived.Test.YtkcfcimophjomaaLd
import Derived.Deep.Cut
namespace Go.Proofs.Ytkcfcimophjomaa
open Go.RowKit
set_option linter.unusedVariables false
set_option linter.unusedSimpArgs false
theorem opx_delete {P : Program} {ops : Array Oper} {o : Oper} {a : Act} {w : World} {K : Act → World → Prop} {Q : Exit → Act → World → Prop} {E : Prop} (hgd : o.guard = none) (s x : Operand) (t tn : TypeId)
    (ho : o.op = .call { callee := .builtin .delete, args := #[s, x], argTypes := #[t, tn] }) (vs vx : Value) (hs : a.eval s = vs) (hx : a.eval x = vx)
    (v' : Value) (w' : World) (hr : Hid ((Builtin.delete_ #[t, tn] o.type #[vs, vx]).run P w = .ok v' w')) (h : K (a.put o.dst v') w') :
    if Region.wanted o (yielded ops a.tmps) = true then Oper.wp P o a w K Q else E := by
  rw [if_pos (by simp [Region.wanted, hgd])]
  unfold Oper.wp execOp
  simp only [ho, resolve, invoke, builtin, Sem.run_bind, Sem.run_pure, Result.andThen_ok, List.map_toArray, List.map_cons, List.map_nil, hs, hx, hr.out]
  exact h
theorem del_at {w : World} {m : Nat} {arr : Array MapEntry} {clock B : Nat} {g : Option Nat} {es : List Ent} (h : w.heap[m]? = some (.map arr clock)) (hE : EntsOk w B g es arr.toList) (hn : (es.map (·.1)).Nodup) {k id x : Nat} {to : Int} (hk : es[k]? = some (id, to, x)) (w' : World) (hw' : w'.heap[m]? = some (.map arr clock)) (ty : TypeId) :
    (Builtin.delete_ #[70, 3] ty #[.map (some m), .int .i64 id]).run Try.prog w' = .ok (.tuple #[]) { w' with heap := w'.heap.setIfInBounds m (.map (arr.eraseIdxIfInBounds k) clock) } := by
  obtain ⟨b, off, c, hf, h1, h2, h3, h4, h5, h6, h7⟩ := EntsOk.find k 0 id to x hE hn hk
  have h1 := fun e => MapKept.run_checkKey (P := Try.prog) (w := w') (k := .int .i64 id) Try.underlying3 (by simp [MapKept.IsKey]) e 9999
  have h2 := MapKept.run_findKey (P := Try.prog) (w := w') (k := .int .i64 id) Try.underlying3 hf
  simp [Builtin.delete_, run_underlying Try.underlying70, MapKept.run_getObj_map hw', MapKept.run_setObj_map _ hw', h1, h2]
theorem erase_list (arr : Array MapEntry) (k : Nat) : (arr.eraseIdxIfInBounds k).toList = arr.toList.eraseIdx k := by
  unfold Array.eraseIdxIfInBounds
  split
  · simp
  · rw [List.eraseIdx_of_length_le (by simp; omega)]
theorem map_erase {α β : Type} (f : α → β) : ∀ (l : List α) (k : Nat), (l.eraseIdx k).map f = (l.map f).eraseIdx k
  | [], _ => rfl
  | _ :: _, 0 => rfl
  | _ :: l, k + 1 => by simp [map_erase f l k]
/-- What is left behind a take. -/
theorem take_fin {w w3 wD wE : World} {m next k r0 : Nat} {es : List Ent} {bo c : Nat} {clock : Nat} {arr : Array MapEntry} {u0 u1 : Value} (h : IsLink w m es next) (hk : k < es.length) (C1 : w.cell? ⟨m + 1, 1, none⟩ = some (.slice (some ⟨bo, 0, none⟩) es.length c))
    (hm : w.heap[m]? = some (.map arr clock)) (hb3 : Below w.heap.size w w3) (hDm : wD.heap[m]? = some (.map (arr.eraseIdxIfInBounds k) clock)) (hDo : ∀ j, j ≠ m → wD.heap[j]? = w3.heap[j]?) (hDb : Below m w3 wD)
    (hown : wE.ownsRow (m + 2) 3 1 (.slice (some ⟨bo, 0, none⟩) (es.length - 1) c) (es.length - 1) ((es.map fun x => .int .i64 x.1).eraseIdx k)) (hgr : wD.grownBy wE (some bo)) (hr0 : w.heap.size ≤ r0) (hbo : m + 2 ≤ bo) (hbo2 : bo < w.heap.size) :
    IsLink (((wE.setCell ⟨m + 1, 1, none⟩ (.slice (some ⟨bo, 0, none⟩) (es.length - 1) c)).setCell ⟨r0, 0, none⟩ u0).setCell ⟨r0, 1, none⟩ u1) m (es.eraseIdx k) next ∧
      Below m w (((wE.setCell ⟨m + 1, 1, none⟩ (.slice (some ⟨bo, 0, none⟩) (es.length - 1) c)).setCell ⟨r0, 0, none⟩ u0).setCell ⟨r0, 1, none⟩ u1) ∧
      (∀ g, g < w.heap.size → m + 2 ≤ g → LinkFree w m g → LinkFree (((wE.setCell ⟨m + 1, 1, none⟩ (.slice (some ⟨bo, 0, none⟩) (es.length - 1) c)).setCell ⟨r0, 0, none⟩ u0).setCell ⟨r0, 1, none⟩ u1) m g ∧ (((wE.setCell ⟨m + 1, 1, none⟩ (.slice (some ⟨bo, 0, none⟩) (es.length - 1) c)).setCell ⟨r0, 0, none⟩ u0).setCell ⟨r0, 1, none⟩ u1).heap[g]? = w.heap[g]?) := by
  have hlt := h.lt
  obtain ⟨⟨v, f1, f2, arr', clock', f3, f4⟩, f5, f6⟩ := h
  rw [hm] at f3
  injection f3 with f3
  injection f3 with e1 e2
  subst e1; subst e2
  rw [cell_of_row w (m + 1) 1 _ 72 (0, 0) f1] at C1
  obtain rfl : v = .slice (some ⟨bo, 0, none⟩) es.length c := by simpa using C1
  have hs3 := hb3.size
  have hsD := hDb.size
  have hDk : ∀ j, j ≠ m → j < w.heap.size → wD.heap[j]? = w.heap[j]? := fun j h1 h2 => (hDo j h1).trans (hb3.block j h2)
  have hEk : ∀ j, j ≠ m → j ≠ bo → j < w.heap.size → wE.heap[j]? = w.heap[j]? := fun j h1 h2 h3 => (hgr.block j (by omega) (by intro e; injection e; omega)).trans (hDk j h1 h3)
  have e1 : wE.heap[m + 1]? = some (.cells #[.map (some m), .slice (some ⟨bo, 0, none⟩) es.length c, .int .i64 next] 72 (0, 0)) := (hEk (m + 1) (by omega) (by omega) (by omega)).trans f1
  have e2 := heap_setCell_same wE (m + 1) 1 _ 72 (.slice (some ⟨bo, 0, none⟩) (es.length - 1) c) e1
  have hfar : ∀ j, j ≠ m + 1 → j ≠ r0 → (((wE.setCell ⟨m + 1, 1, none⟩ (.slice (some ⟨bo, 0, none⟩) (es.length - 1) c)).setCell ⟨r0, 0, none⟩ u0).setCell ⟨r0, 1, none⟩ u1).heap[j]? = wE.heap[j]? := fun j h1 h2 => by
    rw [heap_setCell_other _ ⟨r0, 1, none⟩ j _ (by simpa using h2), heap_setCell_other _ ⟨r0, 0, none⟩ j _ (by simpa using h2), heap_setCell_other _ ⟨m + 1, 1, none⟩ j _ (by simpa using h1)]
  have hle : (es.eraseIdx k).length = es.length - 1 := by rw [List.length_eraseIdx, if_pos hk]
  have hsz : wE.heap.size ≥ wD.heap.size := hgr.size
  have hM1 : (((wE.setCell ⟨m + 1, 1, none⟩ (.slice (some ⟨bo, 0, none⟩) (es.length - 1) c)).setCell ⟨r0, 0, none⟩ u0).setCell ⟨r0, 1, none⟩ u1).heap[m + 1]? = some (.cells #[.map (some m), .slice (some ⟨bo, 0, none⟩) (es.length - 1) c, .int .i64 next] 72 (0, 0)) := by
    rw [heap_setCell_other _ ⟨r0, 1, none⟩ (m + 1) _ (by show m + 1 ≠ r0; omega), heap_setCell_other _ ⟨r0, 0, none⟩ (m + 1) _ (by show m + 1 ≠ r0; omega)]
    exact e2
  have hM0 : (((wE.setCell ⟨m + 1, 1, none⟩ (.slice (some ⟨bo, 0, none⟩) (es.length - 1) c)).setCell ⟨r0, 0, none⟩ u0).setCell ⟨r0, 1, none⟩ u1).heap[m]? = some (.map (arr.eraseIdxIfInBounds k) clock) := (hfar m (by omega) (by omega)).trans ((hgr.block m (by omega) (by intro e; injection e; omega)).trans hDm)
  refine ⟨⟨⟨.slice (some ⟨bo, 0, none⟩) (es.length - 1) c, ?_, ?_, arr.eraseIdxIfInBounds k, clock, ?_, ?_⟩, ?_, ?_⟩, ?_, fun g hgs hgm hfree => ?_⟩
  · rw [heap_setCell_other _ ⟨r0, 1, none⟩ (m + 1) _ (by show m + 1 ≠ r0; omega), heap_setCell_other _ ⟨r0, 0, none⟩ (m + 1) _ (by show m + 1 ≠ r0; omega)]
    exact e2
  · rw [hle]
    have hmap : (es.eraseIdx k).map (fun x => Value.int .i64 x.1) = (es.map fun x => .int .i64 x.1).eraseIdx k := by rw [map_erase]
    rw [hmap]
    rcases hown.2 with ⟨h1, _⟩ | ⟨g, cap, cur, h1, h2, h3, h4⟩
    · cases h1
    · injection h1 with h1a h1b h1c
      injection h1a with h1a
      injection h1a with h1a
      subst h1a
      exact ⟨hown.1, .inr ⟨bo, cap, cur, by rw [h1c], h2, (hfar bo (by omega) (by omega)).trans h3, h4⟩⟩
  · exact (hfar m (by omega) (by omega)).trans ((hgr.block m (by omega) (by intro e; injection e; omega)).trans hDm)
  · rw [erase_list]
    refine (f4.move (w' := ((wE.setCell ⟨m + 1, 1, none⟩ (.slice (some ⟨bo, 0, none⟩) (es.length - 1) c)).setCell ⟨r0, 0, none⟩ u0).setCell ⟨r0, 1, none⟩ u1) (g' := some bo) (by simp; omega) (fun b h1 h2 h3 => ⟨?_, h3⟩)).erase k
    have hbne : b ≠ bo := fun e => h3 (show some b = some bo from congrArg some e)
    exact (hfar b (by omega) (by omega)).trans (hEk b (by omega) hbne h2)
  · exact f5.sublist ((List.eraseIdx_sublist es k).map _)
  · exact fun x hx => f6 x ((List.eraseIdx_sublist es k).subset hx)
  · refine (((?_ : Below m w wE).setCell (by show m ≤ m + 1; omega) _).setCell (by show m ≤ r0; omega) _).setCell (by show m ≤ r0; omega) _
    exact ⟨hgr.os.trans (hDb.os.trans hb3.os), hgr.tape.trans (hDb.tape.trans hb3.tape), hgr.output.trans (hDb.output.trans hb3.output), by omega, fun j hj => hEk j (by omega) (by omega) (by omega)⟩
  · have hgo : g ≠ bo := fun e => hfree.1 _ _ _ _ f1 rfl (by rw [e]; rfl)
    refine ⟨⟨fun cs t z v g1 g2 => ?_, fun arr' clock' g1 e he to' b off n c' hv => ?_⟩, ?_⟩
    · rw [hM1] at g1
      injection g1 with g1
      injection g1 with g1a g1b g1c
      subst g1a
      have : v = .slice (some ⟨bo, 0, none⟩) (es.length - 1) c := by simpa using g2.symm
      rw [this]; intro e; injection e with e; exact hgo e.symm
    · rw [hM0] at g1
      injection g1 with g1
      injection g1 with g1a g1b
      subst g1a
      rw [erase_list] at he
      exact hfree.2 arr clock hm e ((List.eraseIdx_sublist _ _).subset he) to' b off n c' hv
    · rw [hfar g (by omega) (by omega)]
      exact hEk g (by omega) hgo hgs
theorem link_take_none (w : World) (m next k : Nat) (es : List Ent) (h : IsLink w m es next) (hk : es.length ≤ k) (hk2 : k ≤ 10000) :
    Calls Try.prog 30 #[.pointer (some ⟨m + 1, 0, none⟩), .int .i64 k] w fun e w' => e = .returned (.tuple #[.agg #[.int .i64 0, .slice none 0 0], .int .i64 24]) ∧ Below w.heap.size w w' := by
  have hA : Below w.heap.size w (w.alloc (.cells #[.int .i64 0, .slice none 0 0] 54)) := (Below.refl _ _).alloc (Nat.le_refl _) _
  have hblk := heap_alloc_new w (.cells #[.int .i64 0, .slice none 0 0] 54)
  have HBLK := Lib.hid hblk
  have HA := Lib.hid (h.below hA)
  clear h hblk
  go_enter Try.func30, Try.ntmps30
  go_wp2_with (fail)
  go_at_call 29; refine (link_copy_none _ m next k es HA.out hk hk2).mono ?_; rintro e w2 ⟨rfl, hb2⟩
  have hz2 := hA.trans (hb2.mono hA.size)
  have hs2 : w.heap.size < w2.heap.size := by have := hb2.size; simp at this; omega
  have hr2 : w2.heap[w.heap.size]? = _ := (hb2.block w.heap.size (by simp)).trans HBLK.out
  have hblk3 := heap_alloc_new w2 (.cells #[.int .i64 0, .slice none 0 0] 54)
  have hr3 : (w2.alloc (.cells #[.int .i64 0, .slice none 0 0] 54)).heap[w.heap.size]? = _ := (((Below.refl w2.heap.size w2).alloc (Nat.le_refl _) (.cells #[.int .i64 0, .slice none 0 0] 54)).block w.heap.size hs2).trans hr2
  obtain ⟨w3, hw3⟩ : ∃ w3, w2.alloc (.cells #[.int .i64 0, .slice none 0 0] 54) = w3 := ⟨_, rfl⟩
  have hz3 : Below w.heap.size w w3 := by rw [← hw3]; exact hz2.alloc (Nat.le_of_lt hs2) _
  rw [hw3] at hblk3 hr3
  have s0 : w3.cell? ⟨w2.heap.size, 0, none⟩ = some (.int .i64 0) := by rw [cell_of_row w3 w2.heap.size 0 _ 54 (0, 0) hblk3]; rfl
  have s1 : w3.cell? ⟨w2.heap.size, 1, none⟩ = some (.slice none 0 0) := by rw [cell_of_row w3 w2.heap.size 1 _ 54 (0, 0) hblk3]; rfl
  have p0 : w3.cell? ⟨w.heap.size, 0, none⟩ = some (.int .i64 0) := by rw [cell_of_row w3 w.heap.size 0 _ 54 (0, 0) hr3]; rfl
  have p1 : w3.cell? ⟨w.heap.size, 1, none⟩ = some (.slice none 0 0) := by rw [cell_of_row w3 w.heap.size 1 _ 54 (0, 0) hr3]; rfl
  have pf0 : w3.frozen? ⟨w.heap.size, 0, none⟩ = false := frozen_of_row w3 w.heap.size 0 _ 54 hr3
  have pf1 : w3.frozen? ⟨w.heap.size, 1, none⟩ = false := frozen_of_row w3 w.heap.size 1 _ 54 hr3
  have g1 := heap_setCell_same _ w.heap.size 1 _ 54 (.slice none 0 0) (heap_setCell_same w3 w.heap.size 0 _ 54 (.int .i64 0) hr3)
  have HG1 := Lib.hid g1
  have HW3 := Lib.hid hw3
  clear hblk3 hr3 hr2 g1 hw3
  go_upto_region 5 with (fail)
  rw [HW3.out]
  go_wp2_with (fail)
  obtain ⟨wF, hwF⟩ : ∃ wF, (w3.setCell ⟨w.heap.size, 0, none⟩ (.int .i64 0)).setCell ⟨w.heap.size, 1, none⟩ (.slice none 0 0) = wF := ⟨_, rfl⟩
  have hG := HG1.out
  rw [hwF] at hG
  have y0 : wF.cell? ⟨w.heap.size, 0, none⟩ = some (.int .i64 0) := by rw [cell_of_row wF w.heap.size 0 _ 54 (0, 0) hG]; rfl
  have y1 : wF.cell? ⟨w.heap.size, 1, none⟩ = some (.slice none 0 0) := by rw [cell_of_row wF w.heap.size 1 _ 54 (0, 0) hG]; rfl
  have hbF : Below w.heap.size w wF := by rw [← hwF]; exact (hz3.setCell (Nat.le_refl _) _).setCell (Nat.le_refl _) _
  rw [hwF]
  exact bodyPost_ret (v := .tuple #[.agg #[.int .i64 0, .slice none 0 0], .int .i64 24]) (by simp [results, Try.results30, go_sem, y0, y1]) rfl ⟨rfl, hbF⟩
set_option maxHeartbeats 2000000 in
theorem link_take_f (w : World) (m next k id x : Nat) (to : Int) (es : List Ent) (h : IsLink w m es next) (hk : es[k]? = some (id, to, x)) (hk2 : es.length ≤ 10000) :
    Calls Try.prog 30 #[.pointer (some ⟨m + 1, 0, none⟩), .int .i64 k] w fun e w' => ∃ v', e = .returned (.tuple #[.agg #[.int .i64 to, v'], .int .i64 0]) ∧ (Rd w' v' 1 (fun _ => x) ∧ ∃ bb cc, v' = .slice (some ⟨bb, 0, none⟩) 1 cc ∧ w.heap.size < bb) ∧ IsLink w' m (es.eraseIdx k) next ∧ Below m w w' ∧ (∀ g, g < w.heap.size → m + 2 ≤ g → LinkFree w m g → LinkFree w' m g ∧ w'.heap[g]? = w.heap[g]?) := by
  have hlt := h.lt
  have hkl : k < es.length := (List.getElem?_eq_some_iff.1 hk).1
  obtain ⟨r, hr⟩ : ∃ r, es.length = k + 1 + r := ⟨es.length - (k + 1), by omega⟩
  obtain ⟨a, c, arr, clock, hown, h1, h2, hf, c0, c1, c2, hm, hE⟩ := h.cells
  obtain ⟨bo, rfl⟩ : ∃ bo, a = some ⟨bo, 0, none⟩ := by
    rcases hown.2 with ⟨_, h⟩ | ⟨g, cap, cur, h, _⟩
    · omega
    · injection h with e1; exact ⟨g, e1⟩
  have hbo := hown.lt bo rfl
  have hco : w.cell? ⟨bo, k, none⟩ = some (.int .i64 id) := by
    rw [hown.cellAt k (by omega), List.getElem?_map, hk]; rfl
  have hA : Below w.heap.size w (w.alloc (.cells #[.int .i64 0, .slice none 0 0] 54)) := (Below.refl _ _).alloc (Nat.le_refl _) _
  have hblk := heap_alloc_new w (.cells #[.int .i64 0, .slice none 0 0] 54)
  have HBLK := Lib.hid hblk
  have HA := Lib.hid (h.below hA)
  have HH := Lib.hid h
  have HO := Lib.hid hown
  have HF := Lib.hid hf
  have HM := Lib.hid hm
  have HE := Lib.hid hE
  have HK := Lib.hid hk
  have HR := Lib.hid hr
  have C0 := Lib.hid c0
  have C1 := Lib.hid c1
  have CO := Lib.hid hco
  have hn63 : k + 1 + r ≤ 10000 := by omega
  clear h hblk hown hf hm hE hk c0 c1 c2 hco hr
  go_enter Try.func30, Try.ntmps30
  go_wp2_with (fail)
  go_at_call 29; refine (link_copy_at _ m next k id x to es HA.out HK.out hk2).mono ?_; rintro e w2 ⟨v2, rfl, ho2, hx, hb2⟩
  have hz2 := hA.trans (hb2.mono hA.size)
  have hs2 : w.heap.size < w2.heap.size := by have := hb2.size; simp at this; omega
  obtain ⟨a2, q2, rfl, _, _⟩ := ownE_slice ho2
  have hr2 : w2.heap[w.heap.size]? = _ := (hb2.block w.heap.size (by simp)).trans HBLK.out
  have hblk3 := heap_alloc_new w2 (.cells #[.int .i64 to, .slice a2 1 q2] 54)
  have hb23 : Below w2.heap.size w2 (w2.alloc (.cells #[.int .i64 to, .slice a2 1 q2] 54)) := (Below.refl _ _).alloc (Nat.le_refl _) _
  obtain ⟨w3, hw3⟩ : ∃ w3, w2.alloc (.cells #[.int .i64 to, .slice a2 1 q2] 54) = w3 := ⟨_, rfl⟩
  rw [hw3] at hblk3 hb23
  have hz3 : Below w.heap.size w w3 := hz2.trans (hb23.mono (Nat.le_of_lt hs2))
  have hs3 : w2.heap.size < w3.heap.size := by rw [← hw3]; simp
  have hr3 : w3.heap[w.heap.size]? = _ := (hb23.block w.heap.size hs2).trans hr2
  have ho3 := ownE_below ho2 hb23
  have d0 : w3.cell? ⟨m + 1, 0, none⟩ = some (.map (some m)) := (hz3.cell (p := ⟨m + 1, 0, none⟩) hlt).trans C0.out
  have d1 : w3.cell? ⟨m + 1, 1, none⟩ = some (.slice (some ⟨bo, 0, none⟩) (k + 1 + r) c) := (hz3.cell (p := ⟨m + 1, 1, none⟩) hlt).trans (by rw [C1.out, HR.out])
  have d2 : w3.cell? ⟨bo, k, none⟩ = some (.int .i64 id) := (hz3.cell (p := ⟨bo, k, none⟩) hbo.2).trans CO.out
  have dm : w3.heap[m]? = some (.map arr clock) := (hz3.block m (by omega)).trans HM.out
  have hdel := del_at HM.out HE.out HH.out.2.1 HK.out w3.drew (show w3.drew.heap[m]? = _ from dm) 0
  obtain ⟨wD, hwD⟩ : ∃ wD, ({ w3.drew with heap := w3.drew.heap.setIfInBounds m (.map (arr.eraseIdxIfInBounds k) clock) } : World) = wD := ⟨_, rfl⟩
  rw [hwD] at hdel
  have hset := MapKept.heap_set (w := w3) (o' := .map (arr.eraseIdxIfInBounds k) clock) dm
  have hDm : wD.heap[m]? = some (.map (arr.eraseIdxIfInBounds k) clock) := by rw [← hwD]; exact hset.1
  have hDo : ∀ j, j ≠ m → wD.heap[j]? = w3.heap[j]? := fun j hj => by rw [← hwD]; exact hset.2 j hj
  have hDs : wD.heap.size = w3.heap.size := by rw [← hwD]; show (w3.heap.setIfInBounds m _).size = _; simp
  have hDb : Below m w3 wD := ⟨by rw [← hwD]; rfl, by rw [← hwD]; rfl, by rw [← hwD]; rfl, by omega, fun j hj => hDo j (by omega)⟩
  have e0 : wD.cell? ⟨m + 1, 0, none⟩ = some (.map (some m)) := (World.cell?_of_block (a := ⟨m + 1, 0, none⟩) (hDo (m + 1) (by omega))).trans d0
  have e1 : wD.cell? ⟨m + 1, 1, none⟩ = some (.slice (some ⟨bo, 0, none⟩) (k + 1 + r) c) := (World.cell?_of_block (a := ⟨m + 1, 1, none⟩) (hDo (m + 1) (by omega))).trans d1
  have e2 : wD.cell? ⟨bo, k, none⟩ = some (.int .i64 id) := (World.cell?_of_block (a := ⟨bo, k, none⟩) (hDo bo (by omega))).trans d2
  have hownD : wD.ownsRow (m + 2) 3 1 (.slice (some ⟨bo, 0, none⟩) (k + 1 + r) c) (k + 1 + r) (es.map fun x => .int .i64 x.1) := by
    have h1 := ownE_same (ownE_below HO.out hz3) (fun j hj => hDo j (by omega))
    rw [HR.out] at h1; exact h1
  have q1 : (k : Int) < (k : Int) + 1 + (r : Int) := by omega
  have q0 : (0 : Int) ≤ (k : Int) := by omega
  have HDEL := Lib.hid hdel
  have HW3 := Lib.hid hw3
  have HDM := Lib.hid hDm
  have HDO := Lib.hid hDo
  have HDS := Lib.hid hDs
  have HOD := Lib.hid hownD
  have HR3 := Lib.hid hr3
  have HB3 := Lib.hid hblk3
  have HO3 := Lib.hid ho3
  clear hblk3 hr3 hr2 hw3 hdel hwD hset hDm hDo hDs hownD ho2 ho3 dm
  go_wp2_with (fail)
  rw [HW3.out]
  refine wp_region_held_drew (S := fun w' => w'.cell? ⟨m + 1, 0, none⟩ = some (.map (some m)) ∧ w'.cell? ⟨m + 1, 1, none⟩ = some (.slice (some ⟨bo, 0, none⟩) (k + 1 + r) c) ∧ w'.cell? ⟨bo, k, none⟩ = some (.int .i64 id)) (by kernel_rfl) ?_ (fun hHeld => ?_)
  · first | exact ⟨d0, d1, d2⟩ | exact ⟨e0, e1, e2⟩
  refine takeH_at (i := 0) (v := ?_) 16 rfl (by kernel_rfl) (by kernel_rfl) (by kernel_rfl) rfl (fun _ _ _ h => h) (Or.inl ⟨by rfl, ?_⟩) (by assumption) ?_
  rotate_left; (intro w hSw; (try dsimp only at hSw); go_simp; try with_reducible rfl); try simp only [Act.put, List.setIfInBounds_toArray, List.set_cons_zero, List.set_cons_succ]
  refine takeH_at (i := 1) (v := ?_) 17 rfl (by kernel_rfl) (by kernel_rfl) (by kernel_rfl) rfl (fun _ _ _ h => h) (Or.inl ⟨by rfl, ?_⟩) (by assumption) ?_
  rotate_left; (intro w hSw; (try dsimp only at hSw); go_simp; try with_reducible rfl); try simp only [Act.put, List.setIfInBounds_toArray, List.set_cons_zero, List.set_cons_succ]
  refine takeH_at (i := 2) (v := ?_) 18 rfl (by kernel_rfl) (by kernel_rfl) (by kernel_rfl) rfl (fun _ _ _ h => h) (Or.inl ⟨by rfl, ?_⟩) (by assumption) ?_
  rotate_left; (intro w hSw; (try dsimp only at hSw); go_simp; try with_reducible rfl); try simp only [Act.put, List.setIfInBounds_toArray, List.set_cons_zero, List.set_cons_succ]
  refine takeH_at (i := 3) (v := ?_) 19 rfl (by kernel_rfl) (by kernel_rfl) (by kernel_rfl) rfl (fun _ _ _ h => h) (Or.inl ⟨by rfl, ?_⟩) (by assumption) ?_
  rotate_left; (intro w hSw; (try dsimp only at hSw); go_simp; try with_reducible rfl); try simp only [Act.put, List.setIfInBounds_toArray, List.set_cons_zero, List.set_cons_succ]
  refine takeH_at (i := 4) (v := ?_) 20 rfl (by kernel_rfl) (by kernel_rfl) (by kernel_rfl) rfl (fun _ _ _ h => h) (Or.inl ⟨by rfl, ?_⟩) (by assumption) ?_
  rotate_left; (intro w hSw; (try dsimp only at hSw); go_simp; try with_reducible rfl); try simp only [Act.put, List.setIfInBounds_toArray, List.set_cons_zero, List.set_cons_succ]
  refine takeH_at (i := 5) (v := ?_) 21 rfl (by kernel_rfl) (by kernel_rfl) (by kernel_rfl) rfl (fun _ _ _ h => h) (Or.inl ⟨by rfl, ?_⟩) (by assumption) ?_
  rotate_left; (intro w hSw; (try dsimp only at hSw); go_simp; try with_reducible rfl); try simp only [Act.put, List.setIfInBounds_toArray, List.set_cons_zero, List.set_cons_succ]
  refine takeH_at (i := 6) (v := ?_) 22 rfl (by kernel_rfl) (by kernel_rfl) (by kernel_rfl) rfl (fun _ _ _ h => h) (Or.inl ⟨by rfl, ?_⟩) (by assumption) ?_
  rotate_left; (intro w hSw; (try dsimp only at hSw); go_simp; try with_reducible rfl); try simp only [Act.put, List.setIfInBounds_toArray, List.set_cons_zero, List.set_cons_succ]
  refine takeH_at (i := 7) (v := ?_) 23 rfl (by kernel_rfl) (by kernel_rfl) (by kernel_rfl) rfl (fun _ _ _ h => h) (Or.inl ⟨by rfl, ?_⟩) (by assumption) ?_
  rotate_left; (intro w hSw; (try dsimp only at hSw); go_simp; try with_reducible rfl); try simp only [Act.put, List.setIfInBounds_toArray, List.set_cons_zero, List.set_cons_succ]
  refine takeH_at (i := 8) (v := ?_) 24 rfl (by kernel_rfl) (by kernel_rfl) (by kernel_rfl) rfl (fun _ _ _ h => h) (Or.inl ⟨by rfl, ?_⟩) (by assumption) ?_
  rotate_left; (intro w hSw; (try dsimp only at hSw); go_simp; try with_reducible rfl); try simp only [Act.put, List.setIfInBounds_toArray, List.set_cons_zero, List.set_cons_succ]
  refine takeH_at (i := 9) (v := ?_) 25 rfl (by kernel_rfl) (by kernel_rfl) (by kernel_rfl) rfl (fun _ _ _ h => h) (Or.inl ⟨by rfl, ?_⟩) (by assumption) ?_
  rotate_left; (intro w hSw; (try dsimp only at hSw); go_simp; try with_reducible rfl); try simp only [Act.put, List.setIfInBounds_toArray, List.set_cons_zero, List.set_cons_succ]
  refine takeH_at (i := 10) (v := ?_) 26 rfl (by kernel_rfl) (by kernel_rfl) (by kernel_rfl) rfl (fun _ _ _ h => h) (Or.inl ⟨by rfl, ?_⟩) (by assumption) ?_
  rotate_left; (intro w hSw; (try dsimp only at hSw); go_simp; try with_reducible rfl); try simp only [Act.put, List.setIfInBounds_toArray, List.set_cons_zero, List.set_cons_succ]
  refine wpAnyH_ready (rs := [11]) (by kernel_rfl) (by simp) ?_
  refine AllReadyH.cons rfl (fun K hK => ?_) AllReadyH.nil
  refine opx_delete rfl (.tmp 19) (.tmp 26) 70 3 rfl _ _ rfl rfl _ _ HDEL ?_
  refine hK.out _ _ ?_ (fun hHeld => ?_)
  · first | exact ⟨d0, d1, d2⟩ | exact ⟨e0, e1, e2⟩
  clear hK K
  try simp only [Act.put, List.setIfInBounds_toArray, List.set_cons_zero, List.set_cons_succ]
  refine wpAnyH_done (by kernel_rfl) ?_ _
  clear d0 d1 d2
  go_wp2_with (fail)
  go_at_call 36; refine (delete_own _ (m + 2) bo c k r _ HOD.out hn63 (by intro u hu; obtain ⟨y, _, rfl⟩ := List.mem_map.1 hu; rfl)).mono ?_; rintro e wE ⟨rfl, hoE, hgE⟩
  have hsE := hgE.size
  have hsD := HDS.out
  have hnb : ∀ j, j ≠ m → j ≠ bo → j < w3.heap.size → wE.heap[j]? = w3.heap[j]? := fun j h1 h2 h3 => (hgE.block j (by omega) (by intro e; injection e; omega)).trans (HDO.out j h1)
  have hE1 : wE.cell? ⟨m + 1, 1, none⟩ = some (.slice (some ⟨bo, 0, none⟩) (k + 1 + r) c) := (World.cell?_of_block (a := ⟨m + 1, 1, none⟩) (hgE.block (m + 1) (by omega) (by intro e; injection e; omega))).trans e1
  have hEf : wE.frozen? ⟨m + 1, 1, none⟩ = false := (World.frozen?_of_block (a := ⟨m + 1, 1, none⟩) (hnb (m + 1) (by omega) (by omega) (by omega))).trans ((hz3.frozen (p := ⟨m + 1, 1, none⟩) hlt).trans (HF.out 1))
  have hfin := fun u0 u1 => take_fin (u0 := u0) (u1 := u1) (r0 := w.heap.size) HH.out hkl C1.out HM.out hz3 HDM.out HDO.out hDb (by rw [HR.out, show k + 1 + r - 1 = k + r by omega]; exact hoE) hgE (Nat.le_refl _) hbo.1 hbo.2
  rw [HR.out, show k + 1 + r - 1 = k + r by omega] at hfin
  have HFIN := Lib.hid hfin
  obtain ⟨wF, hwF⟩ : ∃ wF, wE.setCell ⟨m + 1, 1, none⟩ (.slice (some ⟨bo, 0, none⟩) (k + r) c) = wF := ⟨_, rfl⟩
  have hFo : ∀ j, j ≠ m → j ≠ m + 1 → j ≠ bo → j < w3.heap.size → wF.heap[j]? = w3.heap[j]? := fun j h1 h2 h3 h4 => by
    rw [← hwF, heap_setCell_other wE ⟨m + 1, 1, none⟩ j _ (by simpa using h2)]; exact hnb j h1 h3 h4
  have f3 : wF.heap[w2.heap.size]? = _ := (hFo w2.heap.size (by omega) (by omega) (by omega) hs3).trans HB3.out
  have fr : wF.heap[w.heap.size]? = _ := (hFo w.heap.size (by omega) (by omega) (by omega) (by omega)).trans HR3.out
  have s0 : wF.cell? ⟨w2.heap.size, 0, none⟩ = some (.int .i64 to) := by rw [cell_of_row wF w2.heap.size 0 _ 54 (0, 0) f3]; rfl
  have s1 : wF.cell? ⟨w2.heap.size, 1, none⟩ = some (.slice a2 1 q2) := by rw [cell_of_row wF w2.heap.size 1 _ 54 (0, 0) f3]; rfl
  have p0 : wF.cell? ⟨w.heap.size, 0, none⟩ = some (.int .i64 0) := by rw [cell_of_row wF w.heap.size 0 _ 54 (0, 0) fr]; rfl
  have p1 : wF.cell? ⟨w.heap.size, 1, none⟩ = some (.slice none 0 0) := by rw [cell_of_row wF w.heap.size 1 _ 54 (0, 0) fr]; rfl
  have pf0 : wF.frozen? ⟨w.heap.size, 0, none⟩ = false := frozen_of_row wF w.heap.size 0 _ 54 fr
  have pf1 : wF.frozen? ⟨w.heap.size, 1, none⟩ = false := frozen_of_row wF w.heap.size 1 _ 54 fr
  have g1 := heap_setCell_same _ w.heap.size 1 _ 54 (.slice a2 1 q2) (heap_setCell_same wF w.heap.size 0 _ 54 (.int .i64 to) fr)
  have HG1 := Lib.hid g1
  have hRd : Rd ((wF.setCell ⟨w.heap.size, 0, none⟩ (.int .i64 to)).setCell ⟨w.heap.size, 1, none⟩ (.slice a2 1 q2)) (.slice a2 1 q2) 1 (fun _ => x) ∧ ∃ bb cc, Value.slice a2 1 q2 = .slice (some ⟨bb, 0, none⟩) 1 cc ∧ w.heap.size < bb := by
    obtain ⟨bb, cc, ee, i1, i2, i3, i4, i5, _⟩ := own_at HO3.out (by omega) (by rw [fl_len])
    have hbb : w.heap.size + 1 ≤ bb := by simpa using i3
    refine ⟨⟨fun _ => hx, .inr ⟨by omega, bb, 0, cc, ee, i1, i2, by simp; have := hwF; rw [← this]; simp; omega, fun j hj => ?_⟩⟩, bb, cc, ee, by omega⟩
    obtain rfl : j = 0 := by omega
    have hh : ((wF.setCell ⟨w.heap.size, 0, none⟩ (.int .i64 to)).setCell ⟨w.heap.size, 1, none⟩ (.slice a2 1 q2)).heap[bb]? = w3.heap[bb]? := by
      rw [heap_setCell_other _ ⟨w.heap.size, 1, none⟩ bb _ (by show bb ≠ w.heap.size; omega), heap_setCell_other _ ⟨w.heap.size, 0, none⟩ bb _ (by show bb ≠ w.heap.size; omega)]
      exact hFo bb (by omega) (by omega) (by omega) i4
    exact (World.cell?_of_block (a := ⟨bb, 0 + 0, none⟩) hh).trans (i5 0 (by omega))
  have HRD := Lib.hid hRd
  have HWF := Lib.hid hwF
  clear hoE hgE hnb hfin hwF hFo f3 fr g1 hRd e0 e1 e2
  go_upto_region 5 with (fail)
  rw [HWF.out]
  clear hE1 hEf
  go_wp2_with (fail)
  have hG := HG1.out
  have hF := HFIN.out (.int .i64 to) (.slice a2 1 q2)
  rw [HWF.out] at hF
  have hRD := HRD.out
  obtain ⟨wG, hwG⟩ : ∃ wG, (wF.setCell ⟨w.heap.size, 0, none⟩ (.int .i64 to)).setCell ⟨w.heap.size, 1, none⟩ (.slice a2 1 q2) = wG := ⟨_, rfl⟩
  rw [hwG] at hG hF hRD ⊢
  have y0 : wG.cell? ⟨w.heap.size, 0, none⟩ = some (.int .i64 to) := by rw [cell_of_row wG w.heap.size 0 _ 54 (0, 0) hG]; rfl
  have y1 : wG.cell? ⟨w.heap.size, 1, none⟩ = some (.slice a2 1 q2) := by rw [cell_of_row wG w.heap.size 1 _ 54 (0, 0) hG]; rfl
  exact bodyPost_ret (v := .tuple #[.agg #[.int .i64 to, .slice a2 1 q2], .int .i64 0]) (by simp [results, Try.results30, go_sem, y0, y1]) rfl ⟨_, rfl, hRD, hF⟩
theorem link_take_at (w : World) (m next k id x : Nat) (to : Int) (es : List Ent) (h : IsLink w m es next) (hk : es[k]? = some (id, to, x)) (hk2 : es.length ≤ 10000) :
    Calls Try.prog 30 #[.pointer (some ⟨m + 1, 0, none⟩), .int .i64 k] w fun e w' => ∃ v', e = .returned (.tuple #[.agg #[.int .i64 to, v'], .int .i64 0]) ∧ Rd w' v' 1 (fun _ => x) ∧ IsLink w' m (es.eraseIdx k) next ∧ Below m w w' :=
  (link_take_f w m next k id x to es h hk hk2).mono fun _ _ ⟨v, h1, h2, h3, h4, _⟩ => ⟨v, h1, h2.1, h3, h4⟩
end Go.Proofs.Ytkcfcimophjomaa

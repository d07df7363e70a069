import Derived.Test.YtkcfcimophjomaaLk
import Derived.Deep.RegionHeld3
namespace Go.Proofs.Ytkcfcimophjomaa
open Go.RowKit
set_option linter.unusedVariables false
set_option linter.unusedSimpArgs false
theorem takeH_at {P : Program} {ops : Array Oper} {Q : Exit → Act → World → Prop} {md : Region.Mode} {S : World → Prop} {i : Nat} {oi : Oper} {v : Value} {fuel : Nat} {listed : Array Bool} {a : Act} {w : World} (d : Nat) (hi : ops[i]? = some oi)
    (hs : Region.noSelect ops = true) (hf : Region.free md ops listed i = true) (hr : (Region.ready md ops listed).contains i = true) (hd : oi.dst = some d)
    (hQ : ∀ (c : List PanicEntry) (a : Act) (w : World), Q (Exit.panic c) (a.put (some d) v) w → Q (Exit.panic c) a w) (hy : YieldsIf P ops S oi v a) (hS : S w)
    (h : wpAnyH P md ops Q S fuel (listed.setIfInBounds i true) (a.put (some d) v) w) : wpAnyH P md ops Q S (fuel + 1) listed a w :=
  wpAnyH_take hi hs hf hr (by rw [hd]; exact hQ) hy hS (by rw [hd]; exact h)
attribute [local go_sem] eqNone eqSome
theorem clone8 {v : Value} {n : Nat} {g : Nat → Nat} {w : World} (h : Rd w v n g) (hn : n ≤ 100000) : Calls Try.prog 34 #[v] w fun e w' => ∃ v', e = .returned v' ∧ w'.ownsRow w.heap.size 5 1 v' n (cells8 (fl g n)) ∧ Below w.heap.size w w' := by
  obtain ⟨a, c, rfl, hc, hm⟩ := h.take
  cases a with
  | none =>
    have h0 : n = 0 := by
      obtain ⟨_, ⟨h1, _⟩ | ⟨_, b, off, c', h3, _⟩⟩ := h
      · exact h1
      · cases h3
    subst h0
    clear h
    go_enter Try.func34, Try.ntmps34
    go_wp2
    go_ret
    exact ⟨_, rfl, World.ownsRow_nil _ _ _ _, Below.refl _ _⟩
  | some a =>
    have hR : Rd (w.alloc (.cells #[] 5)) (.slice (some a) n c) n g := h.below ((Below.refl _ _).alloc (Nat.le_refl _) _)
    have own0 := own_empty w 5
    clear h
    go_enter Try.func34, Try.ntmps34
    go_wp2_with (at_builtin; refine wpList_append_rd _ rfl (.tmp 5) (.tmp 6) rfl w.heap.size _ 0 [] rfl own0 _ n g rfl hR (by omega) (by simp) ?_; intro v3 w3 hown3 hgr3)
    go_ret
    exact ⟨_, rfl, by simpa using hown3, ((Below.refl _ _).alloc (Nat.le_refl _) _).grown hgr3 (by simp) (fun k hk => (own0.lt k hk).1)⟩
theorem update_new {w : World} {m : Nat} {arr : Array MapEntry} {clock : Nat} {B : Nat} {g : Option Nat} {es : List Ent} (h : w.heap[m]? = some (.map arr clock)) (hE : EntsOk w B g es arr.toList) (id : Nat) (hid : ∀ x ∈ es, x.1 < id) (val : Value) :
    (Instr.mapUpdate 70 (.map (some m)) (.int .i64 id) val).run Try.prog w = .ok () { w with heap := w.heap.setIfInBounds m (.map (arr.push ⟨.int .i64 id, val, clock⟩) (clock + 1)) } := by
  have h1 := fun e => MapKept.run_checkKey (P := Try.prog) (w := w) (k := .int .i64 id) Try.underlying3 (by simp [MapKept.IsKey]) e 9999
  have h2 := MapKept.run_findKey (P := Try.prog) (w := w) (k := .int .i64 id) Try.underlying3 (EntsOk.fresh 0 id hE hid)
  simp [Instr.mapUpdate, run_underlying Try.underlying70, MapKept.run_getObj_map h, MapKept.run_setObj_map _ h, h1, h2]
theorem info3 : (Try.prog.info? 3).map (fun i => (i.zero, i.size, i.bytes)) = some (some (.int .i64 0), 1, 8) := by kernel_rfl
/-- An append of one number to the order: in place, or in a new block. -/
theorem append_one {w : World} {B n : Nat} {v : Value} {xs : List Value} (hown : w.ownsRow B 3 1 v n xs) (hn : n ≤ 50000) (hB : B ≤ w.heap.size) (k : Int) (b c : Nat) (hc : w.cell? ⟨b, 0, none⟩ = some (.int .i64 k)) (ty : TypeId) :
    ∃ v' w', (Builtin.append_ #[51, 51] ty #[v, .slice (some ⟨b, 0, none⟩) 1 c]).run Try.prog w = .ok v' w' ∧ w'.ownsRow B 3 1 v' (n + 1) (xs ++ [.int .i64 k]) ∧ w.grownBy w' v.ownBlock ∧ (v'.ownBlock = v.ownBlock ∨ v'.ownBlock = some w.heap.size) := by
  obtain ⟨i0, hi, hz0, hz1, hz2⟩ := info_parts info3
  obtain ⟨v', w', h1, h2, h3, _, h5⟩ := run_append_own_at (P := Try.prog) w B 51 ty 3 i0 (.int .i64 0) 1 8 Try.underlying51 hi hz0 hz1 hz2 rfl (by omega) v n xs hown ⟨b, 0, none⟩ 1 c [.int .i64 k] rfl (fun j u hj => by
    cases j with
    | zero => simp at hj; subst hj; simpa [Addr.add] using hc
    | succ j => simp at hj) (by simp [Value.oneCell']) (by unfold maxLen; omega) (by omega) hB
  exact ⟨v', w', h1, h2, h3, h5⟩
/-- A block that the link has nothing in. -/
def LinkFree (w : World) (m g : Nat) : Prop :=
  (∀ cs t z v, w.heap[m + 1]? = some (.cells cs t z) → cs[1]? = some v → v.ownBlock ≠ some g) ∧
    ∀ arr clock, w.heap[m]? = some (.map arr clock) → ∀ e ∈ arr.toList, ∀ to b off n c, e.val = .agg #[to, .slice (some ⟨b, off, none⟩) n c] → b ≠ g
theorem sent_fin {w w2 wA wB w3 : World} {m next : Nat} {es : List Ent} {to : Int} {x : Nat} {a a3 : Option Addr} {c c3 clock b2 q2 : Nat} {arr : Array MapEntry} (h : IsLink w m es next) (hm : w.heap[m]? = some (.map arr clock)) (hbz : Below w.heap.size w w2)
    (hAm : wA.heap[m]? = some (.map (arr.push ⟨.int .i64 next, .agg #[.int .i64 to, .slice (some ⟨b2, 0, none⟩) 1 q2], clock⟩) (clock + 1))) (hAo : ∀ k, k ≠ m → wA.heap[k]? = w2.heap[k]?) (hAs : wA.heap.size = w2.heap.size) (hAb : Below m w wA)
    (C1 : w.cell? ⟨m + 1, 1, none⟩ = some (.slice a es.length c)) (hE2 : EntsOk w2 (m + 2) (Value.slice a es.length c).ownBlock es arr.toList) (hx256 : x < 256)
    (HG : m + 2 ≤ b2 ∧ b2 < w2.heap.size ∧ 1 ≤ q2 ∧ q2 ≤ 9223372036854775807 ∧ w2.cell? ⟨b2, 0, none⟩ = some (.int .u8 x) ∧ w.heap.size ≤ b2)
    (hbB : Below wA.heap.size wA wB) (hAB : wA.heap.size < wB.heap.size) (hown3 : w3.ownsRow (m + 2) 3 1 (.slice a3 (es.length + 1) c3) (es.length + 1) ((es.map fun x => .int .i64 x.1) ++ [.int .i64 next]))
    (hgr3 : wB.grownBy w3 (Value.slice a es.length c).ownBlock) (hat3 : (Value.slice a3 (es.length + 1) c3).ownBlock = (Value.slice a es.length c).ownBlock ∨ (Value.slice a3 (es.length + 1) c3).ownBlock = some wB.heap.size) :
    (IsLink ((w3.setCell ⟨m + 1, 1, none⟩ (.slice a3 (es.length + 1) c3)).setCell ⟨m + 1, 2, none⟩ (.int .i64 ((next : Int) + 1))) m (es ++ [(next, to, x)]) (next + 1) ∧ Below m w ((w3.setCell ⟨m + 1, 1, none⟩ (.slice a3 (es.length + 1) c3)).setCell ⟨m + 1, 2, none⟩ (.int .i64 ((next : Int) + 1)))) ∧
    (∀ j u, wA.cell? ⟨m + 1, j, none⟩ = some u → w3.cell? ⟨m + 1, j, none⟩ = some u) ∧ (∀ j, wA.frozen? ⟨m + 1, j, none⟩ = false → w3.frozen? ⟨m + 1, j, none⟩ = false) ∧
    (∀ g, g < w.heap.size → m + 2 ≤ g → LinkFree w m g → LinkFree ((w3.setCell ⟨m + 1, 1, none⟩ (.slice a3 (es.length + 1) c3)).setCell ⟨m + 1, 2, none⟩ (.int .i64 ((next : Int) + 1))) m g ∧ ((w3.setCell ⟨m + 1, 1, none⟩ (.slice a3 (es.length + 1) c3)).setCell ⟨m + 1, 2, none⟩ (.int .i64 ((next : Int) + 1))).heap[g]? = w.heap[g]?) := by
  have hlt := h.lt
  have hwz := hbz.size
  have hown : w.ownsRow (m + 2) 3 1 (.slice a es.length c) es.length (es.map fun x => .int .i64 x.1) := by
    obtain ⟨⟨v, f1, f2, _⟩, _⟩ := id h
    rw [cell_of_row w (m + 1) 1 _ 72 (0, 0) f1] at C1
    obtain rfl : v = .slice a es.length c := by simpa using C1
    exact f2
  have hownA : wA.ownsRow (m + 2) 3 1 (.slice a es.length c) es.length (es.map fun x => .int .i64 x.1) := ownE_same (ownE_below hown hbz) (fun k hk => hAo k (by omega))
  have hoth : ∀ k, k < wA.heap.size → some k ≠ (Value.slice a es.length c).ownBlock → w3.heap[k]? = wA.heap[k]? := fun k hk hne => (hgr3.block k (by omega) hne).trans (hbB.block k hk)
  have hnorow : ∀ k, k < m + 2 → some k ≠ (Value.slice a es.length c).ownBlock := fun k hk h => by
    have := (hownA.lt k h.symm).1
    omega
  have k3 : ∀ j u, wA.cell? ⟨m + 1, j, none⟩ = some u → w3.cell? ⟨m + 1, j, none⟩ = some u := fun j u hu => (World.cell?_of_block (a := ⟨m + 1, j, none⟩) (hoth (m + 1) (by omega) (hnorow (m + 1) (by omega)))).trans hu
  have hB3 : Below m w w3 := hAb.trans ⟨hgr3.os.trans hbB.os, hgr3.tape.trans hbB.tape, hgr3.output.trans hbB.output, by have := hgr3.size; omega, fun k hk => hoth k (by omega) (hnorow k (by omega))⟩
  have kf3 : ∀ j, wA.frozen? ⟨m + 1, j, none⟩ = false → w3.frozen? ⟨m + 1, j, none⟩ = false := fun j hj => (World.frozen?_of_block (a := ⟨m + 1, j, none⟩) (hoth (m + 1) (by omega) (hnorow _ (by omega)))).trans hj
  have e1 : w3.heap[m + 1]? = some (.cells #[.map (some m), .slice a es.length c, .int .i64 next] 72 (0, 0)) := by
    obtain ⟨⟨v, f1, _⟩, _⟩ := h
    have f2 : wA.heap[m + 1]? = _ := (hAo (m + 1) (by omega)).trans ((hbz.block (m + 1) hlt).trans f1)
    have f3 := C1
    rw [cell_of_row w (m + 1) 1 _ 72 (0, 0) f1] at f3
    obtain rfl : v = .slice a es.length c := by simpa using f3
    exact (hoth (m + 1) (by omega) (hnorow _ (by omega))).trans f2
  have e2 := heap_setCell_same w3 (m + 1) 1 _ 72 (.slice a3 (es.length + 1) c3) e1
  have e3 := heap_setCell_same _ (m + 1) 2 _ 72 (.int .i64 ((next : Int) + 1)) e2
  have hfar : ∀ k, k ≠ m + 1 → ((w3.setCell ⟨m + 1, 1, none⟩ (.slice a3 (es.length + 1) c3)).setCell ⟨m + 1, 2, none⟩ (.int .i64 ((next : Int) + 1))).heap[k]? = w3.heap[k]? := fun k hk => by
    rw [heap_setCell_other _ ⟨m + 1, 2, none⟩ k _ (by simpa using hk), heap_setCell_other _ ⟨m + 1, 1, none⟩ k _ (by simpa using hk)]
  obtain ⟨j1, j2, j3, j4, j5, j6⟩ := HG
  have hnew : some b2 ≠ (Value.slice a es.length c).ownBlock := fun h => by
    have := (hown.lt b2 h.symm).2
    omega
  have hents : EntsOk w3 (m + 2) (Value.slice a3 (es.length + 1) c3).ownBlock (es ++ [(next, to, x)]) (arr.toList ++ [⟨.int .i64 next, .agg #[.int .i64 to, .slice (some ⟨b2, 0, none⟩) 1 q2], clock⟩]) := by
    have hA2 : EntsOk wA (m + 2) (Value.slice a es.length c).ownBlock es arr.toList := hE2.keep (by omega) (fun b hb _ _ => hAo b (by omega))
    have hA3 := EntsOk.snoc (w := wA) (g := (Value.slice a es.length c).ownBlock) (B := m + 2) next to x ⟨.int .i64 next, .agg #[.int .i64 to, .slice (some ⟨b2, 0, none⟩) 1 q2], clock⟩
      ⟨rfl, hx256, b2, 0, q2, rfl, j3, j4, j1, by omega, hnew, (World.cell?_of_block (a := ⟨b2, 0, none⟩) (hAo b2 (by omega))).trans j5⟩ hA2
    exact hA3.move (by have := hgr3.size; omega) (fun b _ hl hne => ⟨hoth b hl hne, by
      rcases hat3 with h | h
      · rw [h]; exact hne
      · rw [h]; intro e; injection e; omega⟩)
  refine ⟨?_, k3, kf3, fun g hgs hgm hfree => ?_⟩
  · refine ⟨⟨⟨.slice a3 (es.length + 1) c3, by exact e3, ?_, arr.push ⟨.int .i64 next, .agg #[.int .i64 to, .slice (some ⟨b2, 0, none⟩) 1 q2], clock⟩, clock + 1, ?_, ?_⟩, ?_, ?_⟩, ?_⟩
    · rw [List.length_append, List.map_append]; exact ownE_same hown3 (fun k hk => hfar k (by omega))
    · rw [hfar m (by omega), hoth m (by omega) (hnorow m (by omega))]; exact hAm
    · rw [Array.toList_push]; exact hents.keep (by simp) (fun b hb _ _ => hfar b (by omega))
    · rw [List.map_append, List.nodup_append]
      refine ⟨h.2.1, by simp, fun u hu v hv => ?_⟩
      simp only [List.map_cons, List.map_nil, List.mem_singleton] at hv
      subst hv
      obtain ⟨y, hy, rfl⟩ := List.mem_map.1 hu
      exact Nat.ne_of_lt (h.2.2 y hy)
    · intro y hy
      rcases List.mem_append.1 hy with hy1 | hy1
      · have := h.2.2 y hy1; omega
      · simp only [List.mem_singleton] at hy1; subst hy1; simp
    · exact (hB3.setCell (by simp) _).setCell (by simp) _
  · have hgo : some g ≠ (Value.slice a es.length c).ownBlock := by
      obtain ⟨⟨v, f1, _⟩, _⟩ := h
      have f3 := C1
      rw [cell_of_row w (m + 1) 1 _ 72 (0, 0) f1] at f3
      obtain rfl : v = .slice a es.length c := by simpa using f3
      exact fun e => hfree.1 _ _ _ _ f1 rfl e.symm
    refine ⟨⟨fun cs t z v f1 f2 => ?_, fun arr' clock' f1 e he to' b off n c' hv => ?_⟩, ?_⟩
    · rw [e3] at f1
      injection f1 with f1
      injection f1 with f1a f1b f1c
      subst f1a
      have : v = .slice a3 (es.length + 1) c3 := by simpa using f2.symm
      rw [this]
      rcases hat3 with h1 | h1
      · rw [h1]; exact fun e => hgo e.symm
      · rw [h1]; intro e; injection e; omega
    · rw [hfar m (by omega), hoth m (by omega) (hnorow m (by omega)), hAm] at f1
      injection f1 with f1
      injection f1 with f1a f1b
      subst f1a
      rw [Array.toList_push] at he
      rcases List.mem_append.1 he with h1 | h1
      · exact hfree.2 arr clock hm e h1 to' b off n c' hv
      · simp only [List.mem_singleton] at h1
        subst h1
        simp only at hv
        injection hv with hv
        have : b2 = b := by have e := congrArg (fun a : Array Value => a[1]?) hv; simp at e; exact e.1.1
        omega
    · rw [hfar g (by omega), hoth g (by omega) hgo, hAo g (by omega)]
      exact hbz.block g hgs
set_option maxHeartbeats 1000000 in
theorem link_send_f (w : World) (m next : Nat) (es : List Ent) (to : Int) (vb : Value) (x : Nat) (h : IsLink w m es next) (hv : Rd w vb 1 (fun _ => x)) (hn : es.length ≤ 10000) (hx : next ≤ 10000) :
    Calls Try.prog 28 #[.pointer (some ⟨m + 1, 0, none⟩), .int .i64 to, vb] w fun e w' => e = .returned (.tuple #[]) ∧ IsLink w' m (es ++ [(next, to, x)]) (next + 1) ∧ Below m w w' ∧ (∀ g, g < w.heap.size → m + 2 ≤ g → LinkFree w m g → LinkFree w' m g ∧ w'.heap[g]? = w.heap[g]?) := by
  have hlt := h.lt
  have hx256 := hv.1 0
  obtain ⟨a, c, arr, clock, hown, h1, h2, hf, c0, c1, c2, hm, hE⟩ := h.cells
  have HV := Lib.hid (hv.below ((Below.refl w.heap.size w).drew))
  have HH := Lib.hid h
  have HO := Lib.hid hown
  have HF := Lib.hid hf
  have HM := Lib.hid hm
  have HE := Lib.hid hE
  have C0 := Lib.hid c0
  have C1 := Lib.hid c1
  have C2 := Lib.hid c2
  clear h hv hown hm hE hf
  go_enter Try.func28, Try.ntmps28
  clear c1
  go_wp2_with (fail)
  refine wp_region_held_drew (S := fun w' => w'.cell? ⟨m + 1, 0, none⟩ = some (.map (some m)) ∧ w'.cell? ⟨m + 1, 2, none⟩ = some (.int .i64 next)) (by kernel_rfl) ?_ (fun hHeld => ?_)
  · first | exact ⟨c0, c2⟩ | exact ⟨d0, d2⟩ | exact ⟨s0, s2⟩
  refine takeH_at (i := 0) (v := ?_) 6 rfl (by kernel_rfl) (by kernel_rfl) (by kernel_rfl) rfl (fun _ _ _ h => h) (Or.inl ⟨by rfl, ?_⟩) (by assumption) ?_
  rotate_left; (intro w hSw; (try dsimp only at hSw); go_simp; try with_reducible rfl); try simp only [Act.put, List.setIfInBounds_toArray, List.set_cons_zero, List.set_cons_succ]
  refine takeH_at (i := 1) (v := ?_) 7 rfl (by kernel_rfl) (by kernel_rfl) (by kernel_rfl) rfl (fun _ _ _ h => h) (Or.inl ⟨by rfl, ?_⟩) (by assumption) ?_
  rotate_left; (intro w hSw; (try dsimp only at hSw); go_simp; try with_reducible rfl); try simp only [Act.put, List.setIfInBounds_toArray, List.set_cons_zero, List.set_cons_succ]
  refine takeH_at (i := 2) (v := ?_) 8 rfl (by kernel_rfl) (by kernel_rfl) (by kernel_rfl) rfl (fun _ _ _ h => h) (Or.inl ⟨by rfl, ?_⟩) (by assumption) ?_
  rotate_left; (intro w hSw; (try dsimp only at hSw); go_simp; try with_reducible rfl); try simp only [Act.put, List.setIfInBounds_toArray, List.set_cons_zero, List.set_cons_succ]
  refine takeH_at (i := 3) (v := ?_) 9 rfl (by kernel_rfl) (by kernel_rfl) (by kernel_rfl) rfl (fun _ _ _ h => h) (Or.inl ⟨by rfl, ?_⟩) (by assumption) ?_
  rotate_left; (intro w hSw; (try dsimp only at hSw); go_simp; try with_reducible rfl); try simp only [Act.put, List.setIfInBounds_toArray, List.set_cons_zero, List.set_cons_succ]
  refine takeH_at (i := 4) (v := ?_) 10 rfl (by kernel_rfl) (by kernel_rfl) (by kernel_rfl) rfl (fun _ _ _ h => h) (Or.inl ⟨by rfl, ?_⟩) (by assumption) ?_
  rotate_left; (intro w hSw; (try dsimp only at hSw); go_simp; try with_reducible rfl); try simp only [Act.put, List.setIfInBounds_toArray, List.set_cons_zero, List.set_cons_succ]
  refine takeH_at (i := 5) (v := ?_) 11 rfl (by kernel_rfl) (by kernel_rfl) (by kernel_rfl) rfl (fun _ _ _ h => h) (Or.inl ⟨by rfl, ?_⟩) (by assumption) ?_
  rotate_left; (intro w hSw; (try dsimp only at hSw); go_simp; try with_reducible rfl); try simp only [Act.put, List.setIfInBounds_toArray, List.set_cons_zero, List.set_cons_succ]
  refine takeH_at (i := 6) (v := ?_) 12 rfl (by kernel_rfl) (by kernel_rfl) (by kernel_rfl) rfl (fun _ _ _ h => h) (Or.inl ⟨by rfl, ?_⟩) (by assumption) ?_
  rotate_left; (intro w hSw; (try dsimp only at hSw); go_simp; try with_reducible rfl); try simp only [Act.put, List.setIfInBounds_toArray, List.set_cons_zero, List.set_cons_succ]
  refine takeH_at (i := 7) (v := ?_) 13 rfl (by kernel_rfl) (by kernel_rfl) (by kernel_rfl) rfl (fun _ _ _ h => h) (Or.inl ⟨by rfl, ?_⟩) (by assumption) ?_
  rotate_left; (intro w hSw; (try dsimp only at hSw); go_simp; try with_reducible rfl); try simp only [Act.put, List.setIfInBounds_toArray, List.set_cons_zero, List.set_cons_succ]
  refine takeH_at (i := 8) (v := ?_) 14 rfl (by kernel_rfl) (by kernel_rfl) (by kernel_rfl) rfl (fun _ _ _ h => h) (Or.inl ⟨by rfl, ?_⟩) (by assumption) ?_
  rotate_left; (intro w hSw; (try dsimp only at hSw); go_simp; try with_reducible rfl); try simp only [Act.put, List.setIfInBounds_toArray, List.set_cons_zero, List.set_cons_succ]
  refine takeH_at (i := 9) (v := ?_) 15 rfl (by kernel_rfl) (by kernel_rfl) (by kernel_rfl) rfl (fun _ _ _ h => h) (Or.inl ⟨by rfl, ?_⟩) (by assumption) ?_
  rotate_left; (intro w hSw; (try dsimp only at hSw); go_simp; try with_reducible rfl); try simp only [Act.put, List.setIfInBounds_toArray, List.set_cons_zero, List.set_cons_succ]
  refine wpAnyH_ready (rs := [10]) (by kernel_rfl) (by simp) ?_
  refine AllReadyH.cons rfl (fun K hK => ?_) AllReadyH.nil
  go_simp
  refine (clone8 HV.out (by omega)).mono ?_
  rintro e w2 ⟨v2, rfl, ho2, hb2⟩
  have hbz : Below w.heap.size w w2 := ((Below.refl w.heap.size w).drew).trans (hb2.mono (Nat.le_refl _))
  obtain ⟨b2, q2, rfl, g1, g2, g3, g4, g5, g6⟩ := own_at ho2 (by omega) (by rw [fl_len])
  have g7 := g5 0 (by omega)
  have d0 : w2.cell? ⟨m + 1, 0, none⟩ = some (.map (some m)) := (hbz.cell (p := ⟨m + 1, 0, none⟩) hlt).trans C0.out
  have d2 : w2.cell? ⟨m + 1, 2, none⟩ = some (.int .i64 next) := (hbz.cell (p := ⟨m + 1, 2, none⟩) hlt).trans C2.out
  have dm : w2.heap[m]? = some (.map arr clock) := (hbz.block m (by omega)).trans HM.out
  have hE2 : EntsOk w2 (m + 2) (Value.slice a es.length c).ownBlock es arr.toList := HE.out.keep hbz.size (fun b _ hl _ => hbz.block b hl)
  have hup := update_new dm hE2 next HH.out.2.2 (.agg #[.int .i64 to, .slice (some ⟨b2, 0, none⟩) 1 q2])
  obtain ⟨wA, hwA⟩ : ∃ wA, ({ w2 with heap := w2.heap.setIfInBounds m (.map (arr.push ⟨.int .i64 next, .agg #[.int .i64 to, .slice (some ⟨b2, 0, none⟩) 1 q2], clock⟩) (clock + 1)) } : World) = wA := ⟨_, rfl⟩
  rw [hwA] at hup
  have hA := MapKept.heap_set (o' := .map (arr.push ⟨.int .i64 next, .agg #[.int .i64 to, .slice (some ⟨b2, 0, none⟩) 1 q2], clock⟩) (clock + 1)) dm
  have hAm : wA.heap[m]? = some (.map (arr.push ⟨.int .i64 next, .agg #[.int .i64 to, .slice (some ⟨b2, 0, none⟩) 1 q2], clock⟩) (clock + 1)) := by rw [← hwA]; exact hA.1
  have hAo : ∀ k, k ≠ m → wA.heap[k]? = w2.heap[k]? := fun k hk => by rw [← hwA]; exact hA.2 k hk
  have hAs : wA.heap.size = w2.heap.size := by rw [← hwA]; simp
  have hAs1 : w2.heap.size ≤ wA.heap.size := Nat.le_of_eq hAs.symm
  have hAs2 : wA.heap.size ≤ w2.heap.size := Nat.le_of_eq hAs
  have hwz : w.heap.size ≤ w2.heap.size := hbz.size
  have HAS := Lib.hid hAs
  have hAb : Below m w wA := by
    refine (hbz.mono (by omega)).trans ?_
    rw [← hwA]
    exact ⟨rfl, rfl, rfl, by simp, fun k hk => hA.2 k (by omega)⟩
  have s0 : wA.cell? ⟨m + 1, 0, none⟩ = some (.map (some m)) := (World.cell?_of_block (a := ⟨m + 1, 0, none⟩) (hAo (m + 1) (by omega))).trans d0
  have s2 : wA.cell? ⟨m + 1, 2, none⟩ = some (.int .i64 next) := (World.cell?_of_block (a := ⟨m + 1, 2, none⟩) (hAo (m + 1) (by omega))).trans d2
  have HG := Lib.hid (show m + 2 ≤ b2 ∧ b2 < w2.heap.size ∧ 1 ≤ q2 ∧ q2 ≤ 9223372036854775807 ∧ w2.cell? ⟨b2, 0, none⟩ = some (.int .u8 x) ∧ w.heap.size ≤ b2 from ⟨by change w.heap.size ≤ b2 at g3; omega, g4, g1, g2, by rw [g7]; rfl, g3⟩)
  have HAM := Lib.hid hAm
  have HAO := Lib.hid hAo
  have HBZ := Lib.hid hbz
  have HE2 := Lib.hid hE2
  clear hAm hAo hwA hA hAs ho2 g5 g6 g7 hE2 dm g1 g2 g3 g4
  refine hK.out _ _ ?_ (fun hHeld => ?_)
  · first | exact ⟨c0, c2⟩ | exact ⟨d0, d2⟩ | exact ⟨s0, s2⟩
  clear hK K
  try simp only [Act.put, List.setIfInBounds_toArray, List.set_cons_zero, List.set_cons_succ]
  refine takeH_at (i := 11) (v := ?_) 17 rfl (by kernel_rfl) (by kernel_rfl) (by kernel_rfl) rfl (fun _ _ _ h => h) (Or.inl ⟨by rfl, ?_⟩) (by assumption) ?_
  rotate_left; (intro w hSw; (try dsimp only at hSw); go_simp; try with_reducible rfl); try simp only [Act.put, List.setIfInBounds_toArray, List.set_cons_zero, List.set_cons_succ]
  refine wpAnyH_ready (rs := [12]) (by kernel_rfl) (by simp) ?_
  refine AllReadyH.cons rfl (fun K hK => ?_) AllReadyH.nil
  go_simp
  refine hK.out _ _ ?_ (fun hHeld => ?_)
  · first | exact ⟨c0, c2⟩ | exact ⟨d0, d2⟩ | exact ⟨s0, s2⟩
  clear hK K
  try simp only [Act.put, List.setIfInBounds_toArray, List.set_cons_zero, List.set_cons_succ]
  refine wpAnyH_done (by kernel_rfl) ?_ _
  clear c0 c2 d0 d2 hup
  go_wp2_with (fail)
  have k1 : wA.cell? ⟨m + 1, 1, none⟩ = some (.slice a es.length c) := (World.cell?_of_block (a := ⟨m + 1, 1, none⟩) (HAO.out (m + 1) (by omega))).trans ((HBZ.out.cell (p := ⟨m + 1, 1, none⟩) hlt).trans C1.out)
  have kf : ∀ j, wA.frozen? ⟨m + 1, j, none⟩ = false := fun j => (World.frozen?_of_block (a := ⟨m + 1, j, none⟩) (HAO.out (m + 1) (by omega))).trans ((HBZ.out.frozen (p := ⟨m + 1, j, none⟩) hlt).trans (HF.out j))
  have hownA : wA.ownsRow (m + 2) 3 1 (.slice a es.length c) es.length (es.map fun x => .int .i64 x.1) := ownE_same (ownE_below HO.out HBZ.out) (fun k hk => HAO.out k (by omega))
  obtain ⟨wB, hwB⟩ : ∃ wB, (wA.alloc (.cells #[.int .i64 next] 3)).drew = wB := ⟨_, rfl⟩
  have hbB : Below wA.heap.size wA wB := by rw [← hwB]; exact ((Below.refl _ _).alloc (Nat.le_refl _) _).drew
  have hcB : wB.cell? ⟨wA.heap.size, 0, none⟩ = some (.int .i64 next) := by
    rw [← hwB]
    show (wA.alloc (.cells #[.int .i64 next] 3)).cell? _ = _
    rw [cell_of_row _ wA.heap.size 0 _ 3 (0, 0) (heap_alloc_new wA _)]; rfl
  have hlA : m + 2 ≤ wA.heap.size := by omega
  obtain ⟨v3, w3, hrun, hown3, hgr3, hat3⟩ := append_one (ownE_below hownA hbB) (by omega) (Nat.le_trans hlA hbB.size) next wA.heap.size 1 hcB 51
  obtain ⟨a3, c3, rfl, _, _⟩ := ownE_slice hown3
  have hAB : wA.heap.size < wB.heap.size := by rw [← hwB]; simp
  have hfin := sent_fin HH.out HM.out HBZ.out HAM.out HAO.out HAS.out hAb C1.out HE2.out hx256 HG.out hbB hAB hown3 hgr3 hat3
  have k31 := hfin.2.1 1 _ k1
  have k32 := hfin.2.1 2 _ s2
  have kf31 := hfin.2.2.1 1 (kf 1)
  have kf32 := hfin.2.2.1 2 (kf 2)
  have HFIN := Lib.hid (And.intro hfin.1.1 (And.intro hfin.1.2 hfin.2.2.2))
  have kB1 : (wA.alloc (.cells #[.int .i64 next] 3)).cell? ⟨m + 1, 1, none⟩ = some (.slice a es.length c) := (((Below.refl wA.heap.size wA).alloc (Nat.le_refl _) (.cells #[.int .i64 next] 3)).cell (p := ⟨m + 1, 1, none⟩) (by show m + 1 < wA.heap.size; omega)).trans k1
  clear hfin kf
  have HR := Lib.hid hrun
  have HWB := Lib.hid hwB
  clear hrun hown3 hgr3 hwB hownA hat3
  refine wp_region_any (by kernel_rfl) ?_
  change wpAny _ _ _ _ _ _ _ (World.drew _)
  refine take_at (i := 0) (v := ?_) 18 rfl (by kernel_rfl) (by kernel_rfl) (by kernel_rfl) rfl (fun _ _ _ h => h) (Or.inl ⟨by rfl, ?_⟩) ?_
  rotate_left; (intro w; go_simp; try with_reducible rfl); try simp only [Act.put, List.setIfInBounds_toArray, List.set_cons_zero, List.set_cons_succ]
  refine take_at (i := 1) (v := ?_) 19 rfl (by kernel_rfl) (by kernel_rfl) (by kernel_rfl) rfl (fun _ _ _ h => h) (Or.inl ⟨by rfl, ?_⟩) ?_
  rotate_left; (intro w; go_simp; try with_reducible rfl); try simp only [Act.put, List.setIfInBounds_toArray, List.set_cons_zero, List.set_cons_succ]
  refine take_at (i := 2) (v := ?_) 20 rfl (by kernel_rfl) (by kernel_rfl) (by kernel_rfl) rfl (fun _ _ _ h => h) (Or.inl ⟨by rfl, ?_⟩) ?_
  rotate_left; (intro w; go_simp; try with_reducible rfl); try simp only [Act.put, List.setIfInBounds_toArray, List.set_cons_zero, List.set_cons_succ]
  refine take_at (i := 3) (v := ?_) 21 rfl (by kernel_rfl) (by kernel_rfl) (by kernel_rfl) rfl (fun _ _ _ h => h) (Or.inl ⟨by rfl, ?_⟩) ?_
  rotate_left; (intro w; go_simp; try with_reducible rfl); try simp only [Act.put, List.setIfInBounds_toArray, List.set_cons_zero, List.set_cons_succ]
  refine take_at (i := 5) (v := ?_) 23 rfl (by kernel_rfl) (by kernel_rfl) (by kernel_rfl) rfl (fun _ _ _ h => h) (Or.inl ⟨by rfl, ?_⟩) ?_
  rotate_left; (intro w; go_simp; try with_reducible rfl); try simp only [Act.put, List.setIfInBounds_toArray, List.set_cons_zero, List.set_cons_succ]
  refine take_at (i := 6) (v := ?_) 24 rfl (by kernel_rfl) (by kernel_rfl) (by kernel_rfl) rfl (fun _ _ _ h => h) (Or.inl ⟨by rfl, ?_⟩) ?_
  rotate_left; (intro w; go_simp; try with_reducible rfl); try simp only [Act.put, List.setIfInBounds_toArray, List.set_cons_zero, List.set_cons_succ]
  refine take_at (i := 7) (v := ?_) 25 rfl (by kernel_rfl) (by kernel_rfl) (by kernel_rfl) rfl (fun _ _ _ h => h) (Or.inl ⟨by rfl, ?_⟩) ?_
  rotate_left; (intro w; go_simp; try with_reducible rfl); try simp only [Act.put, List.setIfInBounds_toArray, List.set_cons_zero, List.set_cons_succ]
  refine wpAny_ready (rs := [4, 8]) (by kernel_rfl) (by simp) ?_
  refine AllReady.cons rfl (fun K hK => ?_) (AllReady.cons rfl (fun K hK => ?_) AllReady.nil)
  · skip
    go_simp
    refine hK _ _ ?_
    clear hK K
    try simp only [Act.put, List.setIfInBounds_toArray, List.set_cons_zero, List.set_cons_succ]
    refine wpAny_ready (rs := [8]) (by kernel_rfl) (by simp) ?_
    refine AllReady.cons rfl (fun K hK => ?_) AllReady.nil
    go_simp
    refine hK _ _ ?_
    clear hK K
    try simp only [Act.put, List.setIfInBounds_toArray, List.set_cons_zero, List.set_cons_succ]
    refine wpAny_ready (rs := [9]) (by kernel_rfl) (by simp) ?_
    refine AllReady.cons rfl (fun K hK => ?_) AllReady.nil
    go_simp
    refine hK _ _ ?_
    clear hK K
    try simp only [Act.put, List.setIfInBounds_toArray, List.set_cons_zero, List.set_cons_succ]
    refine wpAny_ready (rs := [10]) (by kernel_rfl) (by simp) ?_
    refine AllReady.cons rfl (fun K hK => ?_) AllReady.nil
    have hwB := HWB.out
    rw [hwB]
    clear hwB
    refine opx_append rfl (.tmp 22) (.tmp 27) 51 51 rfl _ _ rfl rfl _ _ HR ?_
    refine hK _ _ ?_
    clear hK K
    try simp only [Act.put, List.setIfInBounds_toArray, List.set_cons_zero, List.set_cons_succ]
    refine take_at (i := 11) (v := ?_) 29 rfl (by kernel_rfl) (by kernel_rfl) (by kernel_rfl) rfl (fun _ _ _ h => h) (Or.inl ⟨by rfl, ?_⟩) ?_
    rotate_left; (intro w; go_simp; try with_reducible rfl); try simp only [Act.put, List.setIfInBounds_toArray, List.set_cons_zero, List.set_cons_succ]
    refine take_at (i := 12) (v := ?_) 30 rfl (by kernel_rfl) (by kernel_rfl) (by kernel_rfl) rfl (fun _ _ _ h => h) (Or.inl ⟨by rfl, ?_⟩) ?_
    rotate_left; (intro w; go_simp; try with_reducible rfl); try simp only [Act.put, List.setIfInBounds_toArray, List.set_cons_zero, List.set_cons_succ]
    refine wpAny_ready (rs := [13]) (by kernel_rfl) (by simp) ?_
    refine AllReady.cons rfl (fun K hK => ?_) AllReady.nil
    go_simp
    refine hK _ _ ?_
    clear hK K
    try simp only [Act.put, List.setIfInBounds_toArray, List.set_cons_zero, List.set_cons_succ]
    refine wpAny_done (by kernel_rfl) ?_ _
    go_wp2_with (fail)
    go_end0
    exact ⟨rfl, HFIN.out⟩
  · skip
    go_simp
    refine hK _ _ ?_
    clear hK K
    try simp only [Act.put, List.setIfInBounds_toArray, List.set_cons_zero, List.set_cons_succ]
    refine wpAny_ready (rs := [4, 9]) (by kernel_rfl) (by simp) ?_
    refine AllReady.cons rfl (fun K hK => ?_) (AllReady.cons rfl (fun K hK => ?_) AllReady.nil)
    · skip
      go_simp
      refine hK _ _ ?_
      clear hK K
      try simp only [Act.put, List.setIfInBounds_toArray, List.set_cons_zero, List.set_cons_succ]
      refine wpAny_ready (rs := [9]) (by kernel_rfl) (by simp) ?_
      refine AllReady.cons rfl (fun K hK => ?_) AllReady.nil
      go_simp
      refine hK _ _ ?_
      clear hK K
      try simp only [Act.put, List.setIfInBounds_toArray, List.set_cons_zero, List.set_cons_succ]
      refine wpAny_ready (rs := [10]) (by kernel_rfl) (by simp) ?_
      refine AllReady.cons rfl (fun K hK => ?_) AllReady.nil
      have hwB := HWB.out
      rw [hwB]
      clear hwB
      refine opx_append rfl (.tmp 22) (.tmp 27) 51 51 rfl _ _ rfl rfl _ _ HR ?_
      refine hK _ _ ?_
      clear hK K
      try simp only [Act.put, List.setIfInBounds_toArray, List.set_cons_zero, List.set_cons_succ]
      refine take_at (i := 11) (v := ?_) 29 rfl (by kernel_rfl) (by kernel_rfl) (by kernel_rfl) rfl (fun _ _ _ h => h) (Or.inl ⟨by rfl, ?_⟩) ?_
      rotate_left; (intro w; go_simp; try with_reducible rfl); try simp only [Act.put, List.setIfInBounds_toArray, List.set_cons_zero, List.set_cons_succ]
      refine take_at (i := 12) (v := ?_) 30 rfl (by kernel_rfl) (by kernel_rfl) (by kernel_rfl) rfl (fun _ _ _ h => h) (Or.inl ⟨by rfl, ?_⟩) ?_
      rotate_left; (intro w; go_simp; try with_reducible rfl); try simp only [Act.put, List.setIfInBounds_toArray, List.set_cons_zero, List.set_cons_succ]
      refine wpAny_ready (rs := [13]) (by kernel_rfl) (by simp) ?_
      refine AllReady.cons rfl (fun K hK => ?_) AllReady.nil
      go_simp
      refine hK _ _ ?_
      clear hK K
      try simp only [Act.put, List.setIfInBounds_toArray, List.set_cons_zero, List.set_cons_succ]
      refine wpAny_done (by kernel_rfl) ?_ _
      go_wp2_with (fail)
      go_end0
      exact ⟨rfl, HFIN.out⟩
    · skip
      go_simp
      refine hK _ _ ?_
      clear hK K
      try simp only [Act.put, List.setIfInBounds_toArray, List.set_cons_zero, List.set_cons_succ]
      refine wpAny_ready (rs := [4]) (by kernel_rfl) (by simp) ?_
      refine AllReady.cons rfl (fun K hK => ?_) AllReady.nil
      go_simp
      refine hK _ _ ?_
      clear hK K
      try simp only [Act.put, List.setIfInBounds_toArray, List.set_cons_zero, List.set_cons_succ]
      refine wpAny_ready (rs := [10]) (by kernel_rfl) (by simp) ?_
      refine AllReady.cons rfl (fun K hK => ?_) AllReady.nil
      have hwB := HWB.out
      rw [hwB]
      clear hwB
      refine opx_append rfl (.tmp 22) (.tmp 27) 51 51 rfl _ _ rfl rfl _ _ HR ?_
      refine hK _ _ ?_
      clear hK K
      try simp only [Act.put, List.setIfInBounds_toArray, List.set_cons_zero, List.set_cons_succ]
      refine take_at (i := 11) (v := ?_) 29 rfl (by kernel_rfl) (by kernel_rfl) (by kernel_rfl) rfl (fun _ _ _ h => h) (Or.inl ⟨by rfl, ?_⟩) ?_
      rotate_left; (intro w; go_simp; try with_reducible rfl); try simp only [Act.put, List.setIfInBounds_toArray, List.set_cons_zero, List.set_cons_succ]
      refine take_at (i := 12) (v := ?_) 30 rfl (by kernel_rfl) (by kernel_rfl) (by kernel_rfl) rfl (fun _ _ _ h => h) (Or.inl ⟨by rfl, ?_⟩) ?_
      rotate_left; (intro w; go_simp; try with_reducible rfl); try simp only [Act.put, List.setIfInBounds_toArray, List.set_cons_zero, List.set_cons_succ]
      refine wpAny_ready (rs := [13]) (by kernel_rfl) (by simp) ?_
      refine AllReady.cons rfl (fun K hK => ?_) AllReady.nil
      go_simp
      refine hK _ _ ?_
      clear hK K
      try simp only [Act.put, List.setIfInBounds_toArray, List.set_cons_zero, List.set_cons_succ]
      refine wpAny_done (by kernel_rfl) ?_ _
      go_wp2_with (fail)
      go_end0
      exact ⟨rfl, HFIN.out⟩
theorem link_send (w : World) (m next : Nat) (es : List Ent) (to : Int) (vb : Value) (x : Nat) (h : IsLink w m es next) (hv : Rd w vb 1 (fun _ => x)) (hn : es.length ≤ 10000) (hx : next ≤ 10000) :
    Calls Try.prog 28 #[.pointer (some ⟨m + 1, 0, none⟩), .int .i64 to, vb] w fun e w' => e = .returned (.tuple #[]) ∧ IsLink w' m (es ++ [(next, to, x)]) (next + 1) ∧ Below m w w' :=
  (link_send_f w m next es to vb x h hv hn hx).mono fun _ _ ⟨h1, h2, h3, _⟩ => ⟨h1, h2, h3⟩
end Go.Proofs.Ytkcfcimophjomaa

import Derived.Test.YtkcfcimophjomaaLf
namespace Go.Proofs.Ytkcfcimophjomaa
open Go.RowKit
set_option linter.unusedVariables false
set_option linter.unusedSimpArgs false
theorem LinkFree.same {w w' : World} {m g : Nat} (h : LinkFree w m g) (h0 : w'.heap[m]? = w.heap[m]?) (h1 : w'.heap[m + 1]? = w.heap[m + 1]?) : LinkFree w' m g :=
  ⟨fun cs t z v f1 f2 => h.1 cs t z v (h1.symm.trans f1) f2, fun arr clock f1 => h.2 arr clock (h0.symm.trans f1)⟩
theorem EntsOk.mem {w : World} {B : Nat} {g : Option Nat} : ∀ {es : List Ent} {l : List MapEntry}, EntsOk w B g es l → ∀ e ∈ l, ∃ (to : Int) (b off c : Nat), e.val = .agg #[.int .i64 to, .slice (some ⟨b, off, none⟩) 1 c] ∧ b < w.heap.size
  | [], [], _, e, he => by simp at he
  | (id, to, x) :: es, e' :: l, h, e, he => by
    rcases List.mem_cons.1 he with h1 | h1
    · subst h1
      obtain ⟨⟨_, _, b, off, c, h3, _, _, _, h7, _⟩, _⟩ := h
      exact ⟨to, b, off, c, h3, h7⟩
    · exact EntsOk.mem h.2 e h1
theorem LinkFree.fresh {w : World} {m next g : Nat} {es : List Ent} (h : IsLink w m es next) (hg : w.heap.size ≤ g) : LinkFree w m g := by
  obtain ⟨⟨v, f1, f2, arr, clock, f3, f4⟩, _⟩ := h
  refine ⟨fun cs t z v' g1 g2 => ?_, fun arr' clock' g1 e he to b off n c hv => ?_⟩
  · rw [f1] at g1
    injection g1 with g1
    injection g1 with g1a
    subst g1a
    have : v' = v := by simpa using g2.symm
    rw [this]
    intro e
    have := (f2.lt g e).2
    omega
  · rw [f3] at g1
    injection g1 with g1
    injection g1 with g1a
    subst g1a
    obtain ⟨to', b', off', c', h1, h2⟩ := f4.mem e he
    rw [h1] at hv
    injection hv with hv
    have : b' = b := by have e := congrArg (fun a : Array Value => a[1]?) hv; simp at e; exact e.1.1
    omega
theorem EntsOk.keepG {w w' : World} {B G : Nat} {g : Option Nat} (hs : w.heap.size ≤ w'.heap.size) (hk : ∀ b, b < w.heap.size → b ≠ G → w'.heap[b]? = w.heap[b]?) :
    ∀ {es : List Ent} {l : List MapEntry}, EntsOk w B g es l → (∀ e ∈ l, ∀ to b off n c, e.val = .agg #[to, .slice (some ⟨b, off, none⟩) n c] → b ≠ G) → EntsOk w' B g es l
  | [], [], _, _ => trivial
  | (_, _, _) :: es, e :: l, h, hm => by
    obtain ⟨⟨h1, h2, b, off, c, h3, h4, h5, h6, h7, h8, h9⟩, h10⟩ := h
    have hb := hm e (by simp) _ _ _ _ _ h3
    exact ⟨⟨h1, h2, b, off, c, h3, h4, h5, h6, Nat.lt_of_lt_of_le h7 hs, h8, (World.cell?_of_block (a := ⟨b, off, none⟩) (hk b h7 hb)).trans h9⟩, EntsOk.keepG hs hk h10 (fun e he => hm e (by simp [he]))⟩
/-- A write into a block that the link has nothing in. -/
theorem IsLink.keepG {w w' : World} {m next g : Nat} {es : List Ent} (h : IsLink w m es next) (hf : LinkFree w m g) (hg : m + 2 ≤ g) (hgr : w.grownBy w' (some g)) : IsLink w' m es next ∧ w'.heap[m]? = w.heap[m]? ∧ w'.heap[m + 1]? = w.heap[m + 1]? := by
  have hl := h.lt
  obtain ⟨⟨v, f1, f2, arr, clock, f3, f4⟩, f5⟩ := h
  have hk : ∀ b, b < w.heap.size → b ≠ g → w'.heap[b]? = w.heap[b]? := fun b h1 h2 => hgr.block b h1 (by intro e; injection e; exact h2 ‹_›)
  have e0 := hk m (by omega) (by omega)
  have e1 := hk (m + 1) (by omega) (by omega)
  refine ⟨⟨⟨v, e1.trans f1, f2.kept hgr ?_, arr, clock, e0.trans f3, f4.keepG hgr.size hk (hf.2 arr clock f3)⟩, f5⟩, e0, e1⟩
  exact .inr (hf.1 _ _ _ _ f1 rfl)
def ents (ids : List Nat) : List Ent := ids.map fun i => (i, (i : Int) % 6, i)
theorem ents_len (ids : List Nat) : (ents ids).length = ids.length := by simp [ents]
theorem ents_snoc (ids : List Nat) (k : Nat) : ents (ids ++ [k]) = ents ids ++ [(k, (k : Int) % 6, k)] := by simp [ents]
theorem ents_get (ids : List Nat) (k id : Nat) (h : ids[k]? = some id) : (ents ids)[k]? = some (id, (id : Int) % 6, id) := by simp [ents, h]
theorem ents_erase (ids : List Nat) (k : Nat) : (ents ids).eraseIdx k = ents (ids.eraseIdx k) := (map_erase _ ids k).symm
def intsV (ids : List Nat) : List Value := ids.map fun (i : Nat) => .int .i64 (i : Int)
theorem intsV_len (ids : List Nat) : (intsV ids).length = ids.length := by simp [intsV]
theorem intsV_one (ids : List Nat) : ∀ u ∈ intsV ids, u.oneCell' = true := by
  intro u hu
  obtain ⟨x, _, rfl⟩ := List.mem_map.1 hu
  rfl
/-- What is left, and the link, apart. -/
def LO (w : World) (m : Nat) (ids : List Nat) (next : Nat) (v : Value) : Prop :=
  IsLink w m (ents ids) next ∧ ∃ g c, v = .slice (some ⟨g, 0, none⟩) ids.length c ∧ m + 2 ≤ g ∧ w.ownsRow (m + 2) 3 1 v ids.length (intsV ids) ∧ LinkFree w m g
theorem LO.below {w w' : World} {m next : Nat} {ids : List Nat} {v : Value} (h : LO w m ids next v) (hb : Below w.heap.size w w') : LO w' m ids next v := by
  obtain ⟨h1, g, c, rfl, h2, h3, h4⟩ := h
  have hl := h1.lt
  exact ⟨h1.below hb, g, c, rfl, h2, ownE_below h3 hb, h4.same (hb.block m (by omega)) (hb.block (m + 1) hl)⟩
/-- The link goes on, in other blocks than that of what is left. -/
theorem LO.link {w w' : World} {m next next' : Nat} {ids : List Nat} {es' : List Ent} {v : Value} (h : LO w m ids next v) (hl : IsLink w' m es' next') (hb : Below m w w')
    (hf : ∀ g, g < w.heap.size → m + 2 ≤ g → LinkFree w m g → LinkFree w' m g ∧ w'.heap[g]? = w.heap[g]?) :
    ∃ g c, v = .slice (some ⟨g, 0, none⟩) ids.length c ∧ m + 2 ≤ g ∧ w'.ownsRow (m + 2) 3 1 v ids.length (intsV ids) ∧ LinkFree w' m g := by
  obtain ⟨h1, g, c, rfl, h2, h3, h4⟩ := h
  have hg := (h3.lt g rfl).2
  obtain ⟨h5, h6⟩ := hf g hg h2 h4
  refine ⟨g, c, rfl, h2, ?_, h5⟩
  refine ⟨h3.1, ?_⟩
  rcases h3.2 with h | ⟨g', cap, cur, e, q1, q2, q3⟩
  · exact .inl h
  · have : g = g' := by injection e with e; injection e with e; injection e
    subst this
    exact .inr ⟨g, cap, cur, e, q1, h6.trans q2, q3⟩
end Go.Proofs.Ytkcfcimophjomaa

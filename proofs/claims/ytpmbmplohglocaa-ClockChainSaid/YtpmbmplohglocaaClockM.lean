import Derived.Test.YtpmbmplohglocaaClockG
namespace Go.Proofs.Ytpmbmplohglocaa
open Go.RowKit

/-- Block g is just these cells, none of them frozen. -/
def IsBlk (w : World) (g : Nat) (t : TypeId) (cs : Array Value) : Prop := w.heap[g]? = some (.cells cs t (0, 0))
section
variable {w w' : World} {g : Nat} {t : TypeId} {cs : Array Value}
theorem IsBlk.cell (h : IsBlk w g t cs) (i : Nat) : w.cell? ⟨g, i, none⟩ = cs[i]? := cell_of_row w g i cs t (0, 0) h
theorem IsBlk.frozen (h : IsBlk w g t cs) (i : Nat) : w.frozen? ⟨g, i, none⟩ = false := by
  unfold IsBlk at h
  simp [World.frozen?, h]
theorem IsBlk.new (w : World) (t : TypeId) (cs : Array Value) : IsBlk (w.alloc (.cells cs t)) w.heap.size t cs := heap_alloc_new w _
theorem IsBlk.lt (h : IsBlk w g t cs) : g < w.heap.size := by
  rcases Nat.lt_or_ge g w.heap.size with hlt | hge
  · exact hlt
  · unfold IsBlk at h; rw [Array.getElem?_eq_none hge] at h; cases h
theorem IsBlk.alloc (h : IsBlk w g t cs) (o : Obj) : IsBlk (w.alloc o) g t cs := (Below.heap_alloc w o g h.lt).trans h
theorem IsBlk.drew (h : IsBlk w g t cs) : IsBlk w.drew g t cs := h
theorem IsBlk.store (h : IsBlk w g t cs) (i : Nat) (u : Value) : IsBlk (w.setCell ⟨g, i, none⟩ u) g t (cs.setIfInBounds i u) := by
  unfold IsBlk at h ⊢
  simp [World.setCell, Array.getElem?_modify, h]
theorem IsBlk.other (h : IsBlk w g t cs) {p : Addr} (hp : g ≠ p.block) (u : Value) : IsBlk (w.setCell p u) g t cs := (Below.heap_setCell w p u g hp).trans h
theorem IsBlk.below {B : Nat} (h : IsBlk w g t cs) (hb : Below B w w') (hg : g < B) : IsBlk w' g t cs := (hb.block g hg).trans h
end

theorem wp_region_wb2 {P : Program} {id : Nat} {Q : Exit → Act → World → Prop} {a : Act} {w : World} {l : List Oper} (hm : P.follows .mixedOrders = true) (hB : Region.lexB .any l.toArray = true)
    (h : wpQuiet P l.toArray (fun w' => ∃ u : WB w.heap.size w, w' = u.w) (fun a' => ∀ w', Below w.heap.size w w' → Q .normal a' w') l a) : (Code.region id l.toArray true).wp P Q a w := by
  have e : (fun a' => ∀ w', Below w.heap.size w w' → Q .normal a' w') = (fun a' => ∀ w', (∃ u : WB w.heap.size w, w' = u.w) → Q .normal a' w') := by
    funext a'
    apply propext
    exact ⟨fun h w' ⟨u, hu⟩ => hu ▸ h u.w u.2, fun h w' hb => h w' ⟨⟨w', hb⟩, rfl⟩⟩
  rw [e] at h
  exact wp_region_wb hm hB h

theorem has_val {a0 a1 a2 a3 a4 r n : Int} {b : Bool} (h : has5 a0 a1 a2 a3 a4 r n = b) (w : World) :
    Calls Try.prog 16 #[.agg (C5 a0 a1 a2 a3 a4), .int .i64 r, .int .i64 n] w fun e w' => e = .returned (.bool b) ∧ Below w.heap.size w w' := by
  subst h
  exact has_any _ _ _ _ _ _ _ _
end Go.Proofs.Ytpmbmplohglocaa

import Derived.Test.YtkcfcimophjomaaMm
import Derived.Maps.AppendAt
import Derived.Carry
namespace Go.Proofs.Ytkcfcimophjomaa
open Go.RowKit
set_option linter.unusedVariables false
set_option linter.unusedSimpArgs false
/-- A frame on its way: its number, for whom, its byte. -/
abbrev Ent := Nat × Int × Nat
/-- What the map's entries hold, one behind the other. -/
def EntsOk (w : World) (B : Nat) (g : Option Nat) : List Ent → List MapEntry → Prop
  | [], [] => True
  | (id, to, x) :: es, e :: l => (e.key = .int .i64 id ∧ x < 256 ∧ ∃ b off c, e.val = .agg #[.int .i64 to, .slice (some ⟨b, off, none⟩) 1 c] ∧ 1 ≤ c ∧ c ≤ 9223372036854775807 ∧ B ≤ b ∧ b < w.heap.size ∧ some b ≠ g ∧ w.cell? ⟨b, off, none⟩ = some (.int .u8 x)) ∧ EntsOk w B g es l
  | _, _ => False
theorem EntsOk.len {w : World} {B : Nat} {g : Option Nat} : ∀ {es : List Ent} {l : List MapEntry}, EntsOk w B g es l → l.length = es.length
  | [], [], _ => rfl
  | (_, _, _) :: es, _ :: l, h => by simp [EntsOk.len h.2]
theorem EntsOk.keep {w w' : World} {B : Nat} {g : Option Nat} (hs : w.heap.size ≤ w'.heap.size) (hk : ∀ b, B ≤ b → b < w.heap.size → some b ≠ g → w'.heap[b]? = w.heap[b]?) : ∀ {es : List Ent} {l : List MapEntry}, EntsOk w B g es l → EntsOk w' B g es l
  | [], [], _ => trivial
  | (_, _, _) :: es, _ :: l, h => by
    obtain ⟨⟨h1, h2, b, off, c, h3, h4, h5, h6, h7, h8, h9⟩, h10⟩ := h
    exact ⟨⟨h1, h2, b, off, c, h3, h4, h5, h6, Nat.lt_of_lt_of_le h7 hs, h8, (World.cell?_of_block (a := ⟨b, off, none⟩) (hk b h6 h7 h8)).trans h9⟩, EntsOk.keep hs hk h10⟩
theorem EntsOk.row {w : World} {B : Nat} {g g' : Option Nat} (hk : ∀ b, b < w.heap.size → some b ≠ g → some b ≠ g') : ∀ {es : List Ent} {l : List MapEntry}, EntsOk w B g es l → EntsOk w B g' es l
  | [], [], _ => trivial
  | (_, _, _) :: es, _ :: l, h => by
    obtain ⟨⟨h1, h2, b, off, c, h3, h4, h5, h6, h7, h8, h9⟩, h10⟩ := h
    exact ⟨⟨h1, h2, b, off, c, h3, h4, h5, h6, h7, hk b h7 h8, h9⟩, EntsOk.row hk h10⟩
theorem EntsOk.move {w w' : World} {B : Nat} {g g' : Option Nat} (hs : w.heap.size ≤ w'.heap.size) (hk : ∀ b, B ≤ b → b < w.heap.size → some b ≠ g → w'.heap[b]? = w.heap[b]? ∧ some b ≠ g') : ∀ {es : List Ent} {l : List MapEntry}, EntsOk w B g es l → EntsOk w' B g' es l
  | [], [], _ => trivial
  | (_, _, _) :: es, _ :: l, h => by
    obtain ⟨⟨h1, h2, b, off, c, h3, h4, h5, h6, h7, h8, h9⟩, h10⟩ := h
    exact ⟨⟨h1, h2, b, off, c, h3, h4, h5, h6, Nat.lt_of_lt_of_le h7 hs, (hk b h6 h7 h8).2, (World.cell?_of_block (a := ⟨b, off, none⟩) (hk b h6 h7 h8).1).trans h9⟩, EntsOk.move hs hk h10⟩
theorem EntsOk.snoc {w : World} {B : Nat} {g : Option Nat} (id : Nat) (to : Int) (x : Nat) (e : MapEntry) (he : e.key = .int .i64 id ∧ x < 256 ∧ ∃ b off c, e.val = .agg #[.int .i64 to, .slice (some ⟨b, off, none⟩) 1 c] ∧ 1 ≤ c ∧ c ≤ 9223372036854775807 ∧ B ≤ b ∧ b < w.heap.size ∧ some b ≠ g ∧ w.cell? ⟨b, off, none⟩ = some (.int .u8 x)) :
    ∀ {es : List Ent} {l : List MapEntry}, EntsOk w B g es l → EntsOk w B g (es ++ [(id, to, x)]) (l ++ [e])
  | [], [], _ => ⟨he, trivial⟩
  | (_, _, _) :: es, _ :: l, h => ⟨h.1, EntsOk.snoc id to x e he h.2⟩
theorem EntsOk.erase {w : World} {B : Nat} {g : Option Nat} : ∀ {es : List Ent} {l : List MapEntry} (i : Nat), EntsOk w B g es l → EntsOk w B g (es.eraseIdx i) (l.eraseIdx i)
  | [], [], _, _ => trivial
  | (_, _, _) :: es, _ :: l, 0, h => h.2
  | (_, _, _) :: es, _ :: l, i + 1, h => ⟨h.1, EntsOk.erase i h.2⟩
/-- Which entry a number finds. -/
theorem EntsOk.find {w : World} {B : Nat} {g : Option Nat} : ∀ {es : List Ent} {l : List MapEntry} (i n : Nat) (id : Nat) (to : Int) (x : Nat), EntsOk w B g es l → (es.map (·.1)).Nodup → es[i]? = some (id, to, x) →
    ∃ b off c, Instr.findNow (.int .i64) (.int .i64 id) l n = some (some (n + i, .agg #[.int .i64 to, .slice (some ⟨b, off, none⟩) 1 c])) ∧ 1 ≤ c ∧ c ≤ 9223372036854775807 ∧ B ≤ b ∧ b < w.heap.size ∧ some b ≠ g ∧ w.cell? ⟨b, off, none⟩ = some (.int .u8 x) ∧ x < 256
  | [], [], i, n, id, to, x, _, _, h => by simp at h
  | (id', to', x') :: es, e :: l, 0, n, id, to, x, h, _, hi => by
    simp only [List.getElem?_cons_zero, Option.some.injEq, Prod.mk.injEq] at hi
    obtain ⟨rfl, rfl, rfl⟩ := hi
    obtain ⟨⟨h1, h2, b, off, c, h3, h4, h5, h6, h7, h8, h9⟩, _⟩ := h
    refine ⟨b, off, c, ?_, h4, h5, h6, h7, h8, h9, h2⟩
    simp [Instr.findNow, Instr.sameNow, h1, h3]
  | (id', to', x') :: es, e :: l, i + 1, n, id, to, x, h, hn, hi => by
    rw [List.getElem?_cons_succ] at hi
    simp only [List.map_cons, List.nodup_cons] at hn
    obtain ⟨b, off, c, hf, hr⟩ := EntsOk.find i (n + 1) id to x h.2 hn.2 hi
    have hne : ¬ ((id' : Int) = (id : Int)) := fun h => by
      have : id' = id := by omega
      subst this
      exact hn.1 (List.mem_map.2 ⟨_, List.mem_of_getElem? hi, rfl⟩)
    refine ⟨b, off, c, ?_, hr⟩
    have h1 := h.1.1
    have hb : ((id : Int) == (id' : Int)) = false := beq_eq_false_iff_ne.2 (fun h => hne h.symm)
    simp only [Instr.findNow, Instr.sameNow, h1, hb]
    rw [hf, Nat.add_assoc, Nat.add_comm 1 i]
    simp
theorem EntsOk.fresh {w : World} {B : Nat} {g : Option Nat} : ∀ {es : List Ent} {l : List MapEntry} (n : Nat) (id : Nat), EntsOk w B g es l → (∀ x ∈ es, x.1 < id) →
    Instr.findNow (.int .i64) (.int .i64 id) l n = some none
  | [], [], n, id, _, _ => rfl
  | (id', to', x') :: es, e :: l, n, id, h, hn => by
    have hlt := hn (id', to', x') (by simp)
    have ih := EntsOk.fresh (n + 1) id h.2 (fun x hx => hn x (by simp [hx]))
    have h1 := h.1.1
    have hb : ((id : Int) == (id' : Int)) = false := beq_eq_false_iff_ne.2 (by simp only at hlt; omega)
    simp only [Instr.findNow, Instr.sameNow, h1, hb]
    exact ih
/-- A link: the map's block m, its own block behind it, its order's row behind these. -/
def IsLink (w : World) (m : Nat) (es : List Ent) (next : Nat) : Prop :=
  (∃ v, w.heap[m + 1]? = some (.cells #[.map (some m), v, .int .i64 next] 72 (0, 0)) ∧ w.ownsRow (m + 2) 3 1 v es.length (es.map fun x => .int .i64 x.1) ∧
    ∃ arr clock, w.heap[m]? = some (.map arr clock) ∧ EntsOk w (m + 2) v.ownBlock es arr.toList) ∧ (es.map (·.1)).Nodup ∧ ∀ x ∈ es, x.1 < next
theorem IsLink.lt {w : World} {m next : Nat} {es : List Ent} (h : IsLink w m es next) : m + 1 < w.heap.size := by
  obtain ⟨⟨v, h1, _⟩, _⟩ := h
  exact (Array.getElem?_eq_some_iff.1 h1).1
theorem IsLink.below {w w' : World} {m next : Nat} {es : List Ent} (h : IsLink w m es next) (hb : Below w.heap.size w w') : IsLink w' m es next := by
  have hl := h.lt
  obtain ⟨⟨v, h1, h2, arr, clock, h3, h4⟩, h5⟩ := h
  exact ⟨⟨v, (hb.block _ hl).trans h1, ownE_below h2 hb, arr, clock, (hb.block _ (by omega)).trans h3, h4.keep hb.size (fun b _ hlt _ => hb.block b hlt)⟩, h5⟩
theorem IsLink.cells {w : World} {m next : Nat} {es : List Ent} (h : IsLink w m es next) :
    ∃ a c arr clock, w.ownsRow (m + 2) 3 1 (.slice a es.length c) es.length (es.map fun x => .int .i64 x.1) ∧ es.length ≤ c ∧ c ≤ 9223372036854775807 ∧ (∀ i, w.frozen? ⟨m + 1, i, none⟩ = false) ∧
      w.cell? ⟨m + 1, 0, none⟩ = some (.map (some m)) ∧ w.cell? ⟨m + 1, 1, none⟩ = some (.slice a es.length c) ∧ w.cell? ⟨m + 1, 2, none⟩ = some (.int .i64 next) ∧
      w.heap[m]? = some (.map arr clock) ∧ EntsOk w (m + 2) (Value.slice a es.length c).ownBlock es arr.toList := by
  obtain ⟨⟨v, h1, h2, arr, clock, h3, h4⟩, h5⟩ := h
  obtain ⟨a, c, rfl, h6, h7⟩ := ownE_slice h2
  exact ⟨a, c, arr, clock, h2, h6, h7, fun i => frozen_of_row w (m + 1) i _ 72 h1, by rw [cell_of_row w (m + 1) 0 _ 72 (0, 0) h1]; rfl, by rw [cell_of_row w (m + 1) 1 _ 72 (0, 0) h1]; rfl, by rw [cell_of_row w (m + 1) 2 _ 72 (0, 0) h1]; rfl, h3, h4⟩
theorem make70 (w : World) : (Instr.makeMap 70 none).run Try.prog w = .ok (.map (some w.heap.size)) (w.alloc (.map #[] 0)) := run_makeMap 70 w
attribute [local go_sem] make70
theorem link_new (w : World) : Calls Try.prog 27 #[] w fun e w' => e = .returned (.pointer (some ⟨w.heap.size + 1, 0, none⟩)) ∧ IsLink w' w.heap.size [] 0 ∧ Below w.heap.size w w' := by
  go_enter Try.func27, Try.ntmps27
  go_wp2
  go_ret
  have h1 := heap_alloc_new w (.map #[] 0)
  have h2 := heap_alloc_new (w.alloc (.map #[] 0)) (.cells #[.map (some w.heap.size), .slice none 0 0, .int .i64 0] 72)
  have hs : (w.alloc (.map #[] 0)).heap.size = w.heap.size + 1 := by simp
  refine ⟨rfl, ⟨⟨.slice none 0 0, by rw [hs] at h2; exact h2, World.ownsRow_nil _ _ _ _, #[], 0, ?_, trivial⟩, by simp, by simp⟩, ((Below.refl _ _).alloc (Nat.le_refl _) _).alloc (by simp) _⟩
  rw [Below.heap_alloc _ _ _ (by rw [hs]; omega)]; exact h1
/-- How many there are. -/
theorem map_len {w : World} {m : Nat} {arr : Array MapEntry} {clock : Nat} (h : w.heap[m]? = some (.map arr clock)) (ty : TypeId) : (Builtin.len_ #[70] ty #[.map (some m)]).run Try.prog w = .ok (.int .i64 arr.size) w := by
  simp [Builtin.len_, MapKept.run_getObj_map h, goInt]
theorem link_len (w : World) (m next : Nat) (es : List Ent) (h : IsLink w m es next) : Calls Try.prog 31 #[.pointer (some ⟨m + 1, 0, none⟩)] w fun e w' => e = .returned (.int .i64 es.length) ∧ w = w' := by
  obtain ⟨a, c, arr, clock, hown, h1, h2, hf, c0, c1, c2, hm, hE⟩ := h.cells
  have hl := hE.len
  have hz := map_len hm 3
  rw [← Array.length_toList, hl] at hz
  clear hown h hE hl hm hf
  go_enter Try.func31, Try.ntmps31
  go_wp2
  go_ret
  exact ⟨rfl, rfl⟩
end Go.Proofs.Ytkcfcimophjomaa

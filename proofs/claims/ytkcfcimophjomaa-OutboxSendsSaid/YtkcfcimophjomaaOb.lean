import Derived.Test.YtkcfcimophjomaaMm
import Derived.Carry
namespace Go.Proofs.Ytkcfcimophjomaa
open Go.RowKit
set_option linter.unusedVariables false
set_option linter.unusedSimpArgs false
/-- An event of which just the number and the height are set. -/
def evL (x : Int × Int) : List Value := [.int .i64 0, .int .i64 x.1, .int .i64 0, .int .i64 0, .int .i64 0, .int .i64 0, .int .i64 0, .int .i64 x.2, .int .i64 0, .string ⟨#[]⟩, .int .i64 0, .string ⟨#[]⟩]
def evs : List (Int × Int) → List Value
  | [] => []
  | x :: r => evL x ++ evs r
theorem evL_len (x : Int × Int) : (evL x).length = 12 := rfl
theorem evs_len : ∀ l, (evs l).length = l.length * 12
  | [] => rfl
  | x :: r => by simp only [evs, List.length_append, evL_len, evs_len r, List.length_cons]; omega
theorem evs_append : ∀ l m, evs (l ++ m) = evs l ++ evs m
  | [], m => rfl
  | x :: r, m => by simp only [List.cons_append, evs, evs_append r m, List.append_assoc]
theorem evs_one (x : Int × Int) : evs [x] = evL x := by simp [evs]
theorem evs_take : ∀ (l : List (Int × Int)) (k : Nat), (evs l).take (k * 12) = evs (l.take k)
  | [], k => by simp [evs]
  | x :: r, 0 => by simp [evs]
  | x :: r, k + 1 => by
    rw [List.take_succ_cons, evs, evs, show (k + 1) * 12 = (evL x).length + k * 12 by rw [evL_len]; omega, List.take_length_add_append, evs_take r k]
theorem evs_drop : ∀ (l : List (Int × Int)) (k : Nat), (evs l).drop (k * 12) = evs (l.drop k)
  | [], k => by simp [evs]
  | x :: r, 0 => by simp [evs]
  | x :: r, k + 1 => by
    rw [List.drop_succ_cons, evs, show (k + 1) * 12 = (evL x).length + k * 12 by rw [evL_len]; omega, List.drop_length_add_append, evs_drop r k]
theorem evL_one : ∀ x, ∀ u ∈ evL x, u.oneCell' = true := by
  intro x u hu
  simp only [evL, List.mem_cons, List.not_mem_nil, or_false] at hu
  rcases hu with h | h | h | h | h | h | h | h | h | h | h | h <;> subst h <;> rfl
theorem evs_one' : ∀ l, ∀ u ∈ evs l, u.oneCell' = true
  | [], u, hu => by simp [evs] at hu
  | x :: r, u, hu => by
    rcases List.mem_append.1 hu with h | h
    · exact evL_one x u h
    · exact evs_one' r u h
theorem evs_at : ∀ (l : List (Int × Int)) (i j : Nat) (x : Int × Int) (u : Value), l[i]? = some x → (evL x)[j]? = some u → (evs l)[i * 12 + j]? = some u
  | [], i, j, x, u, h, _ => by simp at h
  | y :: r, 0, j, x, u, h, hu => by
    simp only [List.getElem?_cons_zero, Option.some.injEq] at h
    subst h
    have hj : j < (evL y).length := (List.getElem?_eq_some_iff.1 hu).1
    rw [evs, Nat.zero_mul, Nat.zero_add, List.getElem?_append_left hj]; exact hu
  | y :: r, i + 1, j, x, u, h, hu => by
    rw [List.getElem?_cons_succ] at h
    rw [evs, List.getElem?_append_right (by rw [evL_len]; omega), evL_len, show (i + 1) * 12 + j - 12 = i * 12 + j by omega]
    exact evs_at r i j x u h hu
theorem info40 : (Try.prog.info? 40).map (fun i => (i.zero, i.size, i.bytes)) = some (some (.agg (evL (0, 0)).toArray), 12, 112) := by kernel_rfl
theorem size40 : (Try.prog.info? 40).map (·.size) = some 12 := by kernel_rfl
/-- An outbox: its block p, its events' row behind it. -/
def IsBox (w : World) (p : Nat) (most batch sent : Int) (es : List (Int × Int)) : Prop :=
  ∃ v, w.heap[p]? = some (.cells #[.int .i64 most, .int .i64 batch, .int .i64 sent, v] 68 (0, 0)) ∧ w.ownsRow (p + 1) 40 12 v es.length (evs es)
theorem IsBox.lt {w : World} {p : Nat} {most batch sent : Int} {es : List (Int × Int)} (h : IsBox w p most batch sent es) : p < w.heap.size := by
  obtain ⟨v, h1, _⟩ := h
  exact (Array.getElem?_eq_some_iff.1 h1).1
theorem IsBox.below {w w' : World} {p : Nat} {most batch sent : Int} {es : List (Int × Int)} (h : IsBox w p most batch sent es) (hb : Below w.heap.size w w') : IsBox w' p most batch sent es := by
  have hl := h.lt
  obtain ⟨v, h1, h2⟩ := h
  exact ⟨v, (hb.block p hl).trans h1, ownE_below h2 hb⟩
theorem IsBox.cells {w : World} {p : Nat} {most batch sent : Int} {es : List (Int × Int)} (h : IsBox w p most batch sent es) :
    ∃ a c, w.ownsRow (p + 1) 40 12 (.slice a es.length c) es.length (evs es) ∧ es.length ≤ c ∧ c ≤ 9223372036854775807 ∧ p < w.heap.size ∧ (∀ i, w.frozen? ⟨p, i, none⟩ = false) ∧
      w.cell? ⟨p, 0, none⟩ = some (.int .i64 most) ∧ w.cell? ⟨p, 1, none⟩ = some (.int .i64 batch) ∧ w.cell? ⟨p, 2, none⟩ = some (.int .i64 sent) ∧ w.cell? ⟨p, 3, none⟩ = some (.slice a es.length c) := by
  have hl := h.lt
  obtain ⟨v, h1, h2⟩ := h
  obtain ⟨a, c, rfl, h3, h4⟩ := ownE_slice h2
  exact ⟨a, c, h2, h3, h4, hl, fun i => frozen_of_row w p i _ 68 h1, by rw [cell_of_row w p 0 _ 68 (0, 0) h1]; rfl, by rw [cell_of_row w p 1 _ 68 (0, 0) h1]; rfl, by rw [cell_of_row w p 2 _ 68 (0, 0) h1]; rfl, by rw [cell_of_row w p 3 _ 68 (0, 0) h1]; rfl⟩
attribute [local go_sem high] min_mx max_mx
theorem box_new (most batch sent b2 : Int) (w : World) (hb : max batch 0 = b2) : Calls Try.prog 17 #[.int .i64 most, .int .i64 batch, .int .i64 sent] w fun e w' => e = .returned (.pointer (some ⟨w.heap.size, 0, none⟩)) ∧ IsBox w' w.heap.size most b2 sent [] ∧ Below w.heap.size w w' := by
  go_enter Try.func17, Try.ntmps17
  go_wp2
  go_ret
  have h1 := heap_alloc_new w (.cells #[.int .i64 most, .int .i64 b2, .int .i64 sent, .slice none 0 0] 68)
  exact ⟨rfl, ⟨_, h1, World.ownsRow_nil _ _ _ _⟩, (Below.refl _ _).alloc (Nat.le_refl _) _⟩
theorem box_len (w : World) (p : Nat) (most batch sent : Int) (es : List (Int × Int)) (h : IsBox w p most batch sent es) : Calls Try.prog 21 #[.pointer (some ⟨p, 0, none⟩)] w fun e w' => e = .returned (.int .i64 es.length) ∧ w = w' := by
  obtain ⟨a, c, hown, h1, h2, h3, h4, c0, c1, c2, c3⟩ := h.cells
  clear hown h
  go_enter Try.func21, Try.ntmps21
  go_wp2
  go_ret
  exact ⟨rfl, rfl⟩
theorem wb_cell {w : World} {a : Addr} {v : Value} (h : w.cell? a = some v) (ha : a.block < w.heap.size) (u : WB w.heap.size w) : u.w.cell? a = some v := (u.2.cell ha).trans h
theorem box_room (w : World) (p : Nat) (most batch sent : Int) (es : List (Int × Int)) (h : IsBox w p most batch sent es) : Calls Try.prog 18 #[.pointer (some ⟨p, 0, none⟩)] w fun e w' => e = .returned (.bool (decide ((es.length : Int) < most))) ∧ Below w.heap.size w w' := by
  obtain ⟨a, c, hown, h1, h2, h3, h4, c0, c1, c2, c3⟩ := h.cells
  have r0 := wb_cell c0 h3
  have r3 := wb_cell c3 h3
  clear hown h h4 c0 c1 c2 c3
  go_enter Try.func18, Try.ntmps18
  go_wp2
  refine wp_region_wb2 (by kernel_rfl) (by kernel_rfl) ?_
  repeat (go_big_quiet_step (fail))
  refine wpQuiet_nil ?_; intro wq hbq
  go_wp2
  go_ret
  exact ⟨rfl, hbq⟩
end Go.Proofs.Ytkcfcimophjomaa

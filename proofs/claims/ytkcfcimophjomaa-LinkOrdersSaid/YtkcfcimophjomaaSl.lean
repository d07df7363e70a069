import Derived.Test.YtkcfcimophjomaaRd
import Derived.Deep.MidRow
namespace Go.Proofs.Ytkcfcimophjomaa
open Go.RowKit
set_option linter.unusedVariables false
set_option linter.unusedSimpArgs false
/-- A slice value reads as n elements of sz cells each: the cells xs. -/
def RdC (w : World) (sz : Nat) (v : Value) (n : Nat) (xs : List Value) : Prop :=
  xs.length = n * sz ∧ ((n = 0 ∧ ∃ a c, v = .slice a 0 c ∧ c ≤ 9223372036854775807) ∨
    (0 < n ∧ ∃ b off c, v = .slice (some ⟨b, off, none⟩) n c ∧ n ≤ c ∧ c ≤ 9223372036854775807 ∧ b < w.heap.size ∧ ∀ j u, xs[j]? = some u → w.cell? ⟨b, off + j, none⟩ = some u))
theorem RdC.below {w w' : World} {sz n : Nat} {v : Value} {xs : List Value} (h : RdC w sz v n xs) (hb : Below w.heap.size w w') : RdC w' sz v n xs := by
  obtain ⟨h1, h2 | ⟨h2, b, off, c, h3, h4, h5, h6, h7⟩⟩ := h
  · exact ⟨h1, .inl h2⟩
  · exact ⟨h1, .inr ⟨h2, b, off, c, h3, h4, h5, Nat.lt_of_lt_of_le h6 hb.size, fun j u hj => (hb.cell (p := ⟨b, off + j, none⟩) h6).trans (h7 j u hj)⟩⟩
theorem RdC.take {w : World} {sz n : Nat} {v : Value} {xs : List Value} (h : RdC w sz v n xs) : ∃ a c, v = .slice a n c ∧ n ≤ c ∧ c ≤ 9223372036854775807 := by
  obtain ⟨_, ⟨rfl, a, c, h3, h4⟩ | ⟨_, b, off, c, h3, h4, h5, _, _⟩⟩ := h
  · exact ⟨a, c, h3, by omega, h4⟩
  · exact ⟨_, c, h3, h4, h5⟩
theorem RdC.at {w : World} {sz n c : Nat} {a : Option Addr} {xs : List Value} (h : RdC w sz (.slice a n c) n xs) (h0 : 0 < n) : ∃ b off, a = some ⟨b, off, none⟩ ∧ b < w.heap.size ∧ ∀ j u, xs[j]? = some u → w.cell? ⟨b, off + j, none⟩ = some u := by
  obtain ⟨_, ⟨h1, _⟩ | ⟨h2, b, off, c', h3, h4, h5, h6, h7⟩⟩ := h
  · omega
  · injection h3 with e1 e2 e3
    exact ⟨b, off, e1, h6, h7⟩
/-- The first m. -/
theorem RdC.cut {w : World} {sz n c c2 m : Nat} {a : Option Addr} {xs : List Value} (h : RdC w sz (.slice a n c) n xs) (hm : m ≤ n) (hc : m ≤ c2) (hc2 : c2 ≤ 9223372036854775807) : RdC w sz (.slice a m c2) m (xs.take (m * sz)) := by
  have hl : (xs.take (m * sz)).length = m * sz := by
    rw [List.length_take, h.1]; exact Nat.min_eq_left (Nat.mul_le_mul_right _ hm)
  refine ⟨hl, ?_⟩
  rcases Nat.eq_zero_or_pos m with h0 | h0
  · subst h0; exact .inl ⟨rfl, a, c2, rfl, hc2⟩
  · obtain ⟨b, off, rfl, hb, hc'⟩ := h.at (by omega)
    exact .inr ⟨h0, b, off, c2, rfl, hc, hc2, hb, fun j u hj => hc' j u (by rw [List.getElem?_take] at hj; split at hj <;> simp_all)⟩
/-- Those from the m-th on. -/
theorem RdC.rest {w : World} {sz n c c2 m : Nat} {a : Option Addr} {xs : List Value} (h : RdC w sz (.slice a n c) n xs) (hm : m ≤ n) (a' : Option Addr) (ha : ∀ b off, a = some ⟨b, off, none⟩ → m < n → a' = some ⟨b, off + m * sz, none⟩) (hc : n - m ≤ c2) (hc2 : c2 ≤ 9223372036854775807) :
    RdC w sz (.slice a' (n - m) c2) (n - m) (xs.drop (m * sz)) := by
  have hl : (xs.drop (m * sz)).length = (n - m) * sz := by rw [List.length_drop, h.1, Nat.sub_mul]
  refine ⟨hl, ?_⟩
  rcases Nat.eq_zero_or_pos (n - m) with h0 | h0
  · rw [h0]; exact .inl ⟨rfl, a', c2, rfl, hc2⟩
  · obtain ⟨b, off, rfl, hb, hc'⟩ := h.at (by omega)
    have e := ha b off rfl (by omega)
    subst e
    exact .inr ⟨h0, b, off + m * sz, c2, rfl, hc, hc2, hb, fun j u hj => by
      rw [List.getElem?_drop] at hj
      rw [Nat.add_assoc]; exact hc' _ u hj⟩
theorem RdC.of_own {w : World} {B e sz n : Nat} {v : Value} {xs : List Value} (h : w.ownsRow B e sz v n xs) : RdC w sz v n xs := by
  refine ⟨h.1, ?_⟩
  rcases Nat.eq_zero_or_pos n with h0 | h0
  · left
    subst h0
    refine ⟨rfl, ?_⟩
    rcases h.2 with ⟨rfl, _⟩ | ⟨g, cap, cur, rfl, _, _, _, hc, _⟩
    · exact ⟨none, 0, rfl, by omega⟩
    · exact ⟨_, cap, rfl, by unfold maxLen at hc; omega⟩
  · right
    refine ⟨h0, ?_⟩
    rcases h.2 with ⟨_, hv⟩ | ⟨g, cap, cur, rfl, _, hg, hn, hcm, hcs, ht⟩
    · omega
    · refine ⟨g, 0, cap, rfl, hn, by unfold maxLen at hcm; omega, (Array.getElem?_eq_some_iff.1 hg).1, fun j u hj => ?_⟩
      rw [cell_of_row w g (0 + j) cur e (0, 0) hg, Nat.zero_add]
      rw [← ht, List.getElem?_take] at hj
      split at hj
      · simpa using hj
      · cases hj
section
variable {P : Program}
theorem append_none (w : World) (base t e sz by_ : Nat) (z : Value) (hi' : (P.info? e).map (fun i => (i.zero, i.size, i.bytes)) = some (some z, sz, by_)) (ht : P.underlying t = some (.slice e)) (v : Value) (n : Nat) (xs : List Value) (hown : w.ownsRow base e sz v n xs) (c : Nat) (ty : TypeId) : (Builtin.append_ #[t, t] ty #[v, .slice none 0 c]).run P w = .ok v w := by
  obtain ⟨i0, hi, hz0, hz1, hz2⟩ := info_parts hi'
  rcases hown.2 with ⟨rfl, rfl⟩ | ⟨g, cap, cur, rfl, _, _, hnc, _⟩
  · simp [Builtin.append_, run_underlying ht, sizeOf, typeInfo, hi, Builtin.lenOf, Builtin.firstCells]
  · simp [Builtin.append_, run_underlying ht, sizeOf, typeInfo, hi, Builtin.lenOf, Builtin.firstCells, hnc, storeCells]
/-- An append of what reads as m elements to a row of one's own. -/
theorem append_rdc (w : World) (base t e sz by_ : Nat) (z : Value) (hi' : (P.info? e).map (fun i => (i.zero, i.size, i.bytes)) = some (some z, sz, by_)) (ht : P.underlying t = some (.slice e)) (hzs : z.cells.size = sz) (hsz : 0 < sz) (hby : by_ ≤ 1000)
    (v : Value) (n : Nat) (xs : List Value) (hown : w.ownsRow base e sz v n xs) (vx : Value) (m : Nat) (ys : List Value) (hr : RdC w sz vx m ys) (h1 : ∀ u ∈ ys, u.oneCell' = true) (h63 : n + m ≤ 100000) (hbase : base ≤ w.heap.size) (ty : TypeId) :
    ∃ v' w', (Builtin.append_ #[t, t] ty #[v, vx]).run P w = .ok v' w' ∧ w'.ownsRow base e sz v' (n + m) (xs ++ ys) ∧ w.grownBy w' v.ownBlock := by
  obtain ⟨i0, hi, hz0, hz1, hz2⟩ := info_parts hi'
  have hbt : (n + m) * by_ ≤ 140737488355328 := Nat.le_trans (Nat.mul_le_mul h63 hby) (by omega)
  have some_ : ∀ (ad : Addr) (c : Nat), vx = .slice (some ad) m c → (∀ j u, ys[j]? = some u → w.cell? (ad.add j) = some u) →
      ∃ v' w', (Builtin.append_ #[t, t] ty #[v, vx]).run P w = .ok v' w' ∧ w'.ownsRow base e sz v' (n + m) (xs ++ ys) ∧ w.grownBy w' v.ownBlock := by
    intro ad c hv hc
    subst hv
    obtain ⟨v', w', h1, h2, h3, _⟩ := run_append_own (P := P) w base t ty e i0 z sz by_ ht hi hz0 hz1 hz2 hzs hsz v n xs hown ad m c ys hr.1 hc h1 (by unfold maxLen; omega) hbt hbase
    exact ⟨v', w', h1, h2, h3⟩
  obtain ⟨hl, ⟨rfl, a, c, rfl, h4⟩ | ⟨h2, b, off, c, rfl, h4, h5, h6, h7⟩⟩ := hr
  · have hys : ys = [] := List.eq_nil_of_length_eq_zero (by omega)
    subst hys
    cases a with
    | none => exact ⟨v, w, append_none w base t e sz by_ z hi' ht v n xs hown c ty, by simpa using hown, World.grownBy.refl w _⟩
    | some ad => exact some_ ad c rfl (fun j u hj => by simp at hj)
  · refine some_ ⟨b, off, none⟩ c rfl (fun j u hj => ?_)
    have e : (⟨b, off, none⟩ : Addr).add j = ⟨b, off + j, none⟩ := by unfold Addr.add; split <;> simp_all
    rw [e]; exact h7 j u hj
theorem wpList_append_rdc {ops : Array Oper} {rest : List Oper} {o : Oper} {a : Act} {Q : Exit → Act → World → Prop} (w : World) (hgd : o.guard = none) (s x : Operand) (t : TypeId)
    (ho : o.op = .call { callee := .builtin .append, args := #[s, x], argTypes := #[t, t] })
    (base e sz by_ : Nat) (z : Value) (hi' : (P.info? e).map (fun i => (i.zero, i.size, i.bytes)) = some (some z, sz, by_)) (ht : P.underlying t = some (.slice e)) (hzs : z.cells.size = sz) (hsz : 0 < sz) (hby : by_ ≤ 1000)
    (v : Value) (n : Nat) (xs : List Value) (hs : a.eval s = v) (hown : w.ownsRow base e sz v n xs) (vx : Value) (m : Nat) (ys : List Value) (hx : a.eval x = vx) (hr : RdC w sz vx m ys) (h1 : ∀ u ∈ ys, u.oneCell' = true)
    (h63 : n + m ≤ 100000) (hbase : base ≤ w.heap.size)
    (h : ∀ v' w', w'.ownsRow base e sz v' (n + m) (xs ++ ys) → w.grownBy w' v.ownBlock → wpList P ops Q rest (a.put o.dst v') w') : wpList P ops Q (o :: rest) a w := by
  refine wpList_plain hgd fun _ hK => ?_
  obtain ⟨v', w', hrun, h2, h3⟩ := append_rdc w base t e sz by_ z hi' ht hzs hsz hby v n xs hown vx m ys hr h1 h63 hbase o.type
  unfold Oper.wp execOp
  simp only [ho, resolve, invoke, builtin, Sem.run_bind, Sem.run_pure, Result.andThen_ok, List.map_toArray, List.map_cons, List.map_nil, hs, hx, hrun]
  exact hK _ _ (h v' w' h2 h3)
end
theorem ownE_empty (w : World) (e sz : Nat) : (w.alloc (.cells #[] e)).ownsRow w.heap.size e sz (.slice (some ⟨w.heap.size, 0, none⟩) 0 0) 0 [] :=
  World.ownsRow_made w #[] 0 (Nat.le_refl _) (by unfold maxLen; omega) (by simp)
theorem ownE_base {w : World} {B B' e sz n : Nat} {v : Value} {xs : List Value} (h : w.ownsRow B e sz v n xs) (hb : B' ≤ B) : w.ownsRow B' e sz v n xs :=
  ⟨h.1, h.2.imp id fun ⟨g, cap, cur, h1, h2, h3⟩ => ⟨g, cap, cur, h1, Nat.le_trans hb h2, h3⟩⟩
theorem ownE_slice {w : World} {B e sz n : Nat} {v : Value} {xs : List Value} (h : w.ownsRow B e sz v n xs) : ∃ a c, v = .slice a n c ∧ n ≤ c ∧ c ≤ 9223372036854775807 := (RdC.of_own h).take
theorem ownE_same {w w' : World} {B e sz n : Nat} {v : Value} {xs : List Value} (h : w.ownsRow B e sz v n xs) (hk : ∀ k, B ≤ k → w'.heap[k]? = w.heap[k]?) : w'.ownsRow B e sz v n xs :=
  ⟨h.1, h.2.imp id fun ⟨g, cap, cur, h1, h2, h3, h4⟩ => ⟨g, cap, cur, h1, h2, (hk g h2).trans h3, h4⟩⟩
theorem ownE_below {w w' : World} {B e sz n : Nat} {v : Value} {xs : List Value} (h : w.ownsRow B e sz v n xs) (hb : Below w.heap.size w w') : w'.ownsRow B e sz v n xs :=
  ⟨h.1, h.2.imp id fun ⟨g, cap, cur, h3, h4, h5, h6⟩ => ⟨g, cap, cur, h3, h4, (hb.block g (Array.getElem?_eq_some_iff.1 h5).1).trans h5, h6⟩⟩
end Go.Proofs.Ytkcfcimophjomaa

import Derived.Test.YtnddifenlamhjaaBackKit
namespace Go.Proofs.Ytnddifenlamhjaa
open Go.RowKit
set_option linter.unusedVariables false
set_option linter.unusedSimpArgs false

theorem append_nil (w : World) (base : Nat) (v : Value) (n : Nat) (xs : List Value) (hown : w.ownsRow base 5 1 v n xs) (c : Nat) (ty : TypeId) : (Builtin.append_ #[23, 23] ty #[v, .slice none 0 c]).run Try.prog w = .ok v w := by
  obtain ⟨i0, hi, hz0, hz1, hz2⟩ := info_parts info5
  rcases hown.2 with ⟨rfl, rfl⟩ | ⟨g, cap, cur, rfl, _, _, hnc, _⟩
  · simp [Builtin.append_, run_underlying Try.underlying23, sizeOf, typeInfo, hi, Builtin.lenOf, Builtin.firstCells]
  · simp [Builtin.append_, run_underlying Try.underlying23, sizeOf, typeInfo, hi, Builtin.lenOf, Builtin.firstCells, hnc, storeCells]

theorem append_rd (w : World) (base : Nat) (v : Value) (n : Nat) (xs : List Nat) (hown : w.ownsRow base 5 1 v n (cells8 xs)) (vx : Value) (m : Nat) (g : Nat → Nat) (hr : Rd w vx m g) (h63 : n + m ≤ 100000) (hbase : base ≤ w.heap.size) (ty : TypeId) :
    ∃ v' w', (Builtin.append_ #[23, 23] ty #[v, vx]).run Try.prog w = .ok v' w' ∧ w'.ownsRow base 5 1 v' (n + m) (cells8 (xs ++ fl g m)) ∧ w.grownBy w' v.ownBlock := by
  obtain ⟨i0, hi, hz0, hz1, hz2⟩ := info_parts info5
  have some_ : ∀ (ad : Addr) (c : Nat), vx = .slice (some ad) m c → (∀ j u, (cells8 (fl g m))[j]? = some u → w.cell? (ad.add j) = some u) →
      ∃ v' w', (Builtin.append_ #[23, 23] ty #[v, vx]).run Try.prog w = .ok v' w' ∧ w'.ownsRow base 5 1 v' (n + m) (cells8 (xs ++ fl g m)) ∧ w.grownBy w' v.ownBlock := by
    intro ad c hv hc
    subst hv
    obtain ⟨v', w', h1, h2, h3, _⟩ := run_append_own (P := Try.prog) w base 23 ty 5 i0 (.int .u8 0) 1 1 Try.underlying23 hi hz0 hz1 hz2 rfl (by decide) v n (cells8 xs) hown ad m c (cells8 (fl g m))
      (by rw [cells8_len, fl_len, Nat.mul_one]) hc (cells8_one _) (by unfold maxLen; omega) (by omega) hbase
    exact ⟨v', w', h1, by rw [cells8_append]; exact h2, h3⟩
  obtain ⟨h1, ⟨rfl, a, c, rfl, h4⟩ | ⟨h2, b, off, c, rfl, h4, h5, h6, h7⟩⟩ := hr
  · cases a with
    | none => exact ⟨v, w, append_nil w base v n _ hown c ty, by simpa [fl] using hown, World.grownBy.refl w _⟩
    | some ad => exact some_ ad c rfl (fun j u hj => by simp [cells8, fl] at hj)
  · refine some_ ⟨b, off, none⟩ c rfl (fun j u hj => ?_)
    have hjl : j < m := by
      rcases Nat.lt_or_ge j m with h | h
      · exact h
      · rw [List.getElem?_eq_none (by rw [cells8_len, fl_len]; exact h)] at hj; cases hj
    have e : (⟨b, off, none⟩ : Addr).add j = ⟨b, off + j, none⟩ := by unfold Addr.add; split <;> simp_all
    unfold cells8 at hj
    rw [List.getElem?_map, fl_take g m j hjl] at hj
    rw [e, h7 j hjl]
    simpa using hj

theorem wpList_append_rd {ops : Array Oper} {rest : List Oper} {o : Oper} {a : Act} {Q : Exit → Act → World → Prop} (w : World) (hgd : o.guard = none) (s x : Operand)
    (ho : o.op = .call { callee := .builtin .append, args := #[s, x], argTypes := #[23, 23] })
    (base : Nat) (v : Value) (n : Nat) (xs : List Nat) (hs : a.eval s = v) (hown : w.ownsRow base 5 1 v n (cells8 xs)) (vx : Value) (m : Nat) (g : Nat → Nat) (hx : a.eval x = vx) (hr : Rd w vx m g)
    (h63 : n + m ≤ 100000) (hbase : base ≤ w.heap.size)
    (h : ∀ v' w', w'.ownsRow base 5 1 v' (n + m) (cells8 (xs ++ fl g m)) → w.grownBy w' v.ownBlock → wpList Try.prog ops Q rest (a.put o.dst v') w') : wpList Try.prog ops Q (o :: rest) a w := by
  refine wpList_plain hgd fun _ hK => ?_
  obtain ⟨v', w', hrun, h2, h3⟩ := append_rd w base v n xs hown vx m g hr h63 hbase o.type
  unfold Oper.wp execOp
  simp only [ho, resolve, invoke, builtin, Sem.run_bind, Sem.run_pure, Result.andThen_ok, List.map_toArray, List.map_cons, List.map_nil, hs, hx, hrun]
  exact hK _ _ (h v' w' h2 h3)
end Go.Proofs.Ytnddifenlamhjaa

import Derived.Test.YtkcfcimophjomaaOe
import Derived.Laws.StructEq
import Derived.BigQuiet
namespace Go.Proofs.Ytkcfcimophjomaa
open Go.RowKit
set_option linter.unusedVariables false
set_option linter.unusedSimpArgs false
theorem eqArr (w : World) (d : Nat) (x0 x1 x2 x3 x4 : Int) : (Op.equalIn (d + 2) 38 (.agg #[.int .i64 x0, .int .i64 x1, .int .i64 x2, .int .i64 x3, .int .i64 x4]) (.agg #[.int .i64 x0, .int .i64 x1, .int .i64 x2, .int .i64 x3, .int .i64 x4])).run Try.prog w = .ok true w := by
  have u3 := Try.underlying3
  have a3 := Try.isAgg3
  have z3 := Try.sizeOf3
  rw [Op.equalIn]
  simp only [Sem.run_bind, run_underlying Try.underlying38, Result.andThen_ok]
  simp only [Std.Legacy.Range.forIn_eq_forIn_range', Std.Legacy.Range.size, Nat.sub_zero, Nat.add_sub_cancel, Nat.div_one, List.range'_succ, List.range'_zero, List.forIn_cons, List.forIn_nil]
  go_simp
theorem eqEv (w : World) (x : Int × Int) : (Op.equalIn 10000 40 (.agg (evL x).toArray) (.agg (evL x).toArray)).run Try.prog w = .ok true w := by
  have u3 := Try.underlying3
  have u9 := Try.underlying9
  have a3 := Try.isAgg3
  have z3 := Try.sizeOf3
  have a38 := Try.isAgg38
  have z38 := Try.sizeOf38
  have a9 := Try.isAgg9
  have z9 := Try.sizeOf9
  have hS : Try.prog.underlying 40 = some (.struct (Try.prog.fieldsOf 40)) := by kernel_rfl
  have hp : Try.prog.stoodInHeld 40 = false := by kernel_rfl
  have hE := fun x0 x1 x2 x3 x4 => eqArr w 9997 x0 x1 x2 x3 x4
  rw [show (10000 : Nat) = 9999 + 1 from rfl, run_equalIn_agg w 9999 40 _ _ hS hp]
  simp only [Program.fieldsOf, Try.underlying40]
  unfold evL
  go_simp
theorem ev_neq (x : Int × Int) (w : World) : (binOp .neq 40 (.agg (evL x).toArray) (.agg (evL x).toArray)).run Try.prog w = .ok (.bool false) w := by
  rw [run_neq_struct, eqEv]; rfl
theorem wpQuiet_exec {P : Program} {ops : Array Oper} {C : World → Prop} {Q : Act → Prop} {o : Oper} {rest : List Oper} {a : Act} (hw : Region.wanted o (yielded ops a.tmps) = true) (v : Value)
    (hr : ∀ w, C w → (execOp a.eval o).run P w = .ok (.value v) w) (h : wpQuiet P ops C Q rest (a.put o.dst v)) : wpQuiet P ops C Q (o :: rest) a :=
  BigFrame.wpQuiet_want hw fun K hK => ⟨v, fun w hC => by unfold Oper.quietAt; rw [hr w hC]; exact ⟨rfl, rfl⟩, hK _ h⟩
theorem wpQuiet_load_mid {P : Program} {ops : Array Oper} {C : World → Prop} {Q : Act → Prop} {o : Oper} {rest : List Oper} {a : Act} (hw : Region.wanted o (yielded ops a.tmps) = true) (ty : TypeId) (x : Operand) (ho : o.op = .load ty x)
    (b off : Nat) (hx : a.eval x = .pointer (some ⟨b, off, none⟩)) (cs : List Value) (d : TypeDesc) (hc : ∀ w, C w → w.rangeAt b off cs)
    (hu : P.underlying ty = some d) (hd : d.isRow = true) (hi : (P.info? ty).map (·.size) = some cs.length) (h : wpQuiet P ops C Q rest (a.put o.dst (.agg cs.toArray))) : wpQuiet P ops C Q (o :: rest) a :=
  wpQuiet_exec hw _ (fun w hC => by
    unfold execOp
    simp only [ho, hx, Instr.loadAt, Instr.sureAddr, Sem.run_bind, Sem.run_pure, Result.andThen_ok, run_loadVar_mid w b off ty cs d (hc w hC) hu hd hi]) h
theorem wpQuiet_neq_ev {ops : Array Oper} {C : World → Prop} {Q : Act → Prop} {o : Oper} {rest : List Oper} {a : Act} (hw : Region.wanted o (yielded ops a.tmps) = true) (x y : Operand) (ho : o.op = .binOp .neq 40 x y 40)
    (e : Int × Int) (hx : a.eval x = .agg (evL e).toArray) (hy : a.eval y = .agg (evL e).toArray) (h : wpQuiet Try.prog ops C Q rest (a.put o.dst (.bool false))) : wpQuiet Try.prog ops C Q (o :: rest) a :=
  wpQuiet_exec hw _ (fun w hC => by
    unfold execOp
    simp only [ho, hx, hy, Sem.run_bind, Result.andThen_ok, run_eqGuard_agg (P := Try.prog) w .neq 40 x y _ _ (by kernel_rfl), ev_neq]
    rfl) h
theorem ev_range {w : World} {b off k : Nat} {es : List (Int × Int)} (h : ∀ j u, (evs es)[j]? = some u → w.cell? ⟨b, off + j, none⟩ = some u) (x : Int × Int) (hk : es[k]? = some x) : w.rangeAt b (off + k * 12) (evL x) :=
  fun j u hj => by rw [Nat.add_assoc]; exact h _ u (evs_at es k j x u hk hj)
end Go.Proofs.Ytkcfcimophjomaa

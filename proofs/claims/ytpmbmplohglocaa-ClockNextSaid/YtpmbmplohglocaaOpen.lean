/-
  Small laws that open arguments: an array of integers by value.
-/
import Derived.Test.YtpmbmplohglocaaRows
import Derived.WalkKit
import Derived.ProofKit
import Derived.OpenShut
import Derived.ShutString
import Derived.ChangeOld
import Derived.Below
import Derived.Lib.SmallJoins
namespace Go.Proofs.Ytpmbmplohglocaa
open Go.ChangeShapes Go.WideShapes Go.ChangeAt Go.RowKit
open Go.ChangeMaps (open_string shut_string)
set_option linter.unusedVariables false

theorem own : ownKnob Try.prog.godebug = none := by kernel_rfl
theorem laidOut : laidOutB Try.prog = true := by kernel_rfl

theorem five_of : ∀ {l : List Int}, l.length = 5 → ∃ x0 x1 x2 x3 x4, l = [x0, x1, x2, x3, x4]
  | [x0, x1, x2, x3, x4], _ => ⟨x0, x1, x2, x3, x4, rfl⟩
theorem two_of : ∀ {l : List Int}, l.length = 2 → ∃ x0 x1, l = [x0, x1]
  | [x0, x1], _ => ⟨x0, x1, rfl⟩
/-- An array of integers by value, opened. -/
theorem open_arr {H : Type} {enc : TypeId × Value → H} {P : Program} {w : World} {base : Nat} {spare : Nat → Bool} {held : Bool} {n : Nat} {e : TypeId} {k : IntKind} {r : Reach} {b0 : Nat} {t : TypeId} {v : Value} {d : DataW H} {ps : List MemPlace}
    (ht : P.underlying t = some (.array n e)) (he : P.underlying e = some (.int k)) (hce : P.cellsOf e = 1) (hct : P.cellsOf t = n) (hv : Value.okWide P w r b0 t v) (h : DataW.Trod enc P w base spare held t v d ps) :
    ∃ l : List Int, l.length = n ∧ v = .agg (l.map (Value.int k)).toArray ∧ ∀ x ∈ l, (Lit.int k x).wf = true := by
  simp only [Value.okWide, ht] at hv
  obtain ⟨cs, rfl, hsz, _⟩ := hv
  obtain ⟨fuel, hf⟩ := h
  obtain ⟨xs, m, _, _, _, hlen, hg⟩ := DataW.trod_array ht hf
  have key : ∀ i, i < n → ∃ q : Int, cs.toList[i]? = some (.int k q) ∧ (Lit.int k q).wf = true := by
    intro i hi
    have h1 := hg i hi
    rw [hce, Nat.mul_one, List.getElem?_eq_getElem (by omega)] at h1
    obtain ⟨q, hq, _, hw⟩ := DataW.trod_int he h1
    refine ⟨q, ?_, hw⟩
    have h2 : (cs.toList.drop i).take 1 = [.int k q] := by simpa [Value.cells] using hq
    have h3 := congrArg (fun l : List Value => l[0]?) h2
    simpa [List.getElem?_take, List.getElem?_drop] using h3
  have hl : cs.toList.length = n := by rw [Array.length_toList, hsz, hct]
  refine ⟨cs.toList.map (fun | .int _ q => q | _ => 0), by simpa using hl, ?_, ?_⟩
  · congr 1
    apply Array.ext'
    apply List.ext_getElem?
    intro i
    rcases Nat.lt_or_ge i n with hi | hi
    · obtain ⟨q, hq, _⟩ := key i hi
      simp only [List.getElem?_map, hq, Option.map_some]
    · rw [List.getElem?_eq_none (by omega), List.getElem?_eq_none (by simp; omega)]
  · intro x hx
    obtain ⟨u, hu, rfl⟩ := List.mem_map.1 hx
    obtain ⟨i, hi, he2⟩ := List.mem_iff_getElem.1 hu
    obtain ⟨q, hq, hw⟩ := key i (by omega)
    rw [List.getElem?_eq_getElem hi, he2] at hq
    injection hq with hq
    subst hq
    exact hw
end Go.Proofs.Ytpmbmplohglocaa

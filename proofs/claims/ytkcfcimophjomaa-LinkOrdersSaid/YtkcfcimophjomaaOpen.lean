/-
  Small laws that open arguments: numbers, byte slices, an array by value.
-/
import Derived.Test.YtkcfcimophjomaaRd
import Derived.Test.YtkcfcimophjomaaRows
import Derived.WalkKit
import Derived.ProofKit
import Derived.OpenShut
import Derived.ShutString
import Derived.ChangeOld
import Derived.Below
import Derived.Lib.SmallJoins
import Derived.Deep.Matrix
import Derived.Test.YtkcfcimophjomaaDiskK
namespace Go.Proofs.Ytkcfcimophjomaa
open Go.ChangeShapes Go.WideShapes Go.ChangeAt Go.RowKit
open Go.ChangeMaps (open_string shut_string)
set_option linter.unusedVariables false

theorem own : ownKnob Try.prog.godebug = none := by kernel_rfl
theorem laidOut : laidOutB Try.prog = true := by kernel_rfl

theorem five_of : ∀ {l : List Int}, l.length = 5 → ∃ x0 x1 x2 x3 x4, l = [x0, x1, x2, x3, x4]
  | [x0, x1, x2, x3, x4], _ => ⟨x0, x1, x2, x3, x4, rfl⟩
theorem two_of : ∀ {l : List Int}, l.length = 2 → ∃ x0 x1, l = [x0, x1]
  | [x0, x1], _ => ⟨x0, x1, rfl⟩
theorem three_of : ∀ {l : List Int}, l.length = 3 → ∃ x0 x1 x2, l = [x0, x1, x2]
  | [x0, x1, x2], _ => ⟨x0, x1, x2, rfl⟩
/-- An array of integers by value, opened. -/
theorem open_arr {H : Type} {enc : TypeId × Value → H} {P : Program} {w : World} {base : Nat} {spare : Nat → Bool} {held : Bool} {n : Nat} {e : TypeId} {k : IntKind} {r : Reach} {b0 : Nat} {t : TypeId} {v : Value} {d : DataW H} {ps : List MemPlace}
    (ht : P.underlying t = some (.array n e)) (he : P.underlying e = some (.int k)) (hce : P.cellsOf e = 1) (hct : P.cellsOf t = n) (hv : Value.okWide P w r b0 t v) (h : DataW.Trod enc P w base spare held t v d ps) :
    ∃ l : List Int, l.length = n ∧ v = .agg (l.map (Value.int k)).toArray ∧ ∀ x ∈ l, (Lit.int k x).wf = true := by
  simp only [Value.okWide, ht] at hv
  obtain ⟨cs, rfl, hsz, _⟩ := hv
  obtain ⟨fuel, hf⟩ := h
  obtain ⟨xs, m, _, _, _, hlen, hg⟩ := DataW.trod_array ht hf
  have key : ∀ i, i < n → ∃ q : Int, cs.toList[i]? = some (.int k q) ∧ (Lit.int k q).wf = true := by
    intro i hi
    have h1 := hg i hi
    rw [hce, Nat.mul_one, List.getElem?_eq_getElem (by omega)] at h1
    obtain ⟨q, hq, _, hw⟩ := DataW.trod_int he h1
    refine ⟨q, ?_, hw⟩
    have h2 : (cs.toList.drop i).take 1 = [.int k q] := by simpa [Value.cells] using hq
    have h3 := congrArg (fun l : List Value => l[0]?) h2
    simpa [List.getElem?_take, List.getElem?_drop] using h3
  have hl : cs.toList.length = n := by rw [Array.length_toList, hsz, hct]
  refine ⟨cs.toList.map (fun | .int _ q => q | _ => 0), by simpa using hl, ?_, ?_⟩
  · congr 1
    apply Array.ext'
    apply List.ext_getElem?
    intro i
    rcases Nat.lt_or_ge i n with hi | hi
    · obtain ⟨q, hq, _⟩ := key i hi
      simp only [List.getElem?_map, hq, Option.map_some]
    · rw [List.getElem?_eq_none (by omega), List.getElem?_eq_none (by simp; omega)]
  · intro x hx
    obtain ⟨u, hu, rfl⟩ := List.mem_map.1 hx
    obtain ⟨i, hi, he2⟩ := List.mem_iff_getElem.1 hu
    obtain ⟨q, hq, hw⟩ := key i (by omega)
    rw [List.getElem?_eq_getElem hi, he2] at hq
    injection hq with hq
    subst hq
    exact hw

/-- What a byte slice that came in is: nil, or a row of cells. -/
def IsRow (k : IntKind) (w : World) (a : Option Addr) (len cap : Nat) (zs : List Int) : Prop :=
  (a = none ∧ len = 0 ∧ cap = 0 ∧ zs = []) ∨
  ∃ x, a = some x ∧ len ≤ cap ∧ cap ≤ maxLen ∧ zs.length = cap ∧ (∀ i, i < zs.length → w.cell? (x.add i) = some (.int k (zs.getD i 0))) ∧ ∀ n ∈ zs, (Lit.int k n).wf = true
theorem IsRow.rd {w : World} {a : Option Addr} {len cap : Nat} {zs : List Int} (h : IsRow .u8 w a len cap zs) : ∃ g, Rd w (.slice a len cap) len g := by
  rcases h with ⟨rfl, rfl, rfl, rfl⟩ | ⟨x, rfl, hl, hm, hz, hc, hw⟩
  · exact ⟨fun _ => 0, fun _ => by simp, .inl ⟨rfl, none, 0, rfl, by omega⟩⟩
  · have hm' : cap ≤ 9223372036854775807 := by unfold maxLen at hm; omega
    have hr : ∀ i, (zs.getD i 0).toNat < 256 ∧ 0 ≤ zs.getD i 0 := by
      intro i
      rcases Nat.lt_or_ge i zs.length with hi | hi
      · have := hw (zs.getD i 0) (by rw [List.getD_eq_getElem?_getD, List.getElem?_eq_getElem hi]; exact List.getElem_mem hi)
        simp [Lit.wf, IntKind.min, IntKind.max, IntKind.signed, IntKind.bits] at this
        constructor <;> simp <;> omega
      · rw [List.getD_eq_getElem?_getD, List.getElem?_eq_none hi]; simp
    refine ⟨fun i => (zs.getD i 0).toNat, fun i => (hr i).1, ?_⟩
    rcases Nat.eq_zero_or_pos len with h0 | h0
    · subst h0; exact .inl ⟨rfl, _, cap, rfl, hm'⟩
    · obtain ⟨b, off, spot⟩ := x
      have hc0 := hc 0 (by omega)
      have hspot : spot = none := by simpa [Addr.add] using World.cell?_spot hc0
      subst hspot
      have hb : b < w.heap.size := by
        have h1 : w.cell? ⟨b, off, none⟩ = some (.int .u8 (zs.getD 0 0)) := by simpa [Addr.add] using hc0
        exact block_lt_of_cell h1
      refine .inr ⟨h0, b, off, cap, rfl, hl, hm', hb, fun i hi => ?_⟩
      have := hc i (by omega)
      have e : (⟨b, off, none⟩ : Addr).add i = ⟨b, off + i, none⟩ := by unfold Addr.add; split <;> simp_all
      rw [e] at this
      rw [this]
      congr 2
      exact (Int.toNat_of_nonneg (hr i).2).symm
theorem u64_nat {n : Int} (h : (Lit.int .u64 n).wf = true) : ∃ m : Nat, n = m ∧ m < 18446744073709551616 := by
  simp [Lit.wf, IntKind.min, IntKind.max, IntKind.signed, IntKind.bits] at h
  exact ⟨n.toNat, by omega, by omega⟩
theorem u8_nat {n : Int} (h : (Lit.int .u8 n).wf = true) : ∃ m : Nat, n = m ∧ m < 256 := by
  simp [Lit.wf, IntKind.min, IntKind.max, IntKind.signed, IntKind.bits] at h
  exact ⟨n.toNat, by omega, by omega⟩
theorem u16_nat {n : Int} (h : (Lit.int .u16 n).wf = true) : ∃ m : Nat, n = m ∧ m < 65536 := by
  simp [Lit.wf, IntKind.min, IntKind.max, IntKind.signed, IntKind.bits] at h
  exact ⟨n.toNat, by omega, by omega⟩
theorem u32_nat {n : Int} (h : (Lit.int .u32 n).wf = true) : ∃ m : Nat, n = m ∧ m < 4294967296 := by
  simp [Lit.wf, IntKind.min, IntKind.max, IntKind.signed, IntKind.bits] at h
  exact ⟨n.toNat, by omega, by omega⟩

theorem rows_of {w : World} {a : Addr} {len cap base : Nat} {A : Nat → Option Addr} {L C : Nat → Nat} {Z : Nat → List Int} (hl : len ≤ cap) (hm : cap ≤ maxLen)
    (h : ∀ r, r < cap → w.cell? (a.add r) = some (.slice (A r) (L r) (C r)) ∧ L r ≤ C r ∧ C r ≤ maxLen ∧ (Z r).length = C r ∧ (∀ n ∈ Z r, (Lit.int .u8 n).wf = true) ∧ (A r = none → C r = 0) ∧
        ∀ a', A r = some a' → base ≤ a'.block ∧ ∀ c, c < C r → w.cell? (a'.add c) = some (.int .u8 ((Z r).getD c 0))) :
    ∃ V L G, IsRows w (some a) len cap V L G := by
  have each : ∀ r, ∃ g, r < cap → Rd w (.slice (A r) (L r) (C r)) (L r) g := by
    intro r
    by_cases hr : r < cap
    · obtain ⟨_, h2, h3, h4, h5, h6, h7⟩ := h r hr
      have hrow : IsRow .u8 w (A r) (L r) (C r) (Z r) := by
        cases ha : A r with
        | none =>
          have hc := h6 ha
          exact .inl ⟨rfl, by omega, hc, List.length_eq_zero_iff.1 (by omega)⟩
        | some a' => exact .inr ⟨a', rfl, h2, h3, h4, fun i hi => (h7 a' ha).2 i (by omega), h5⟩
      obtain ⟨g, hg⟩ := hrow.rd
      exact ⟨g, fun _ => hg⟩
    · exact ⟨fun _ => 0, fun h => absurd h hr⟩
  refine ⟨fun r => .slice (A r) (L r) (C r), L, fun r => (each r).choose, hl, by unfold maxLen at hm; omega, fun h0 => ?_⟩
  obtain ⟨b, off, spot⟩ := a
  have hc0 := (h 0 (by omega)).1
  have hspot : spot = none := by simpa [Addr.add] using World.cell?_spot hc0
  subst hspot
  refine ⟨b, off, rfl, block_lt_of_cell (by simpa [Addr.add] using hc0), fun i hi => ⟨?_, (each i).choose_spec (by omega)⟩⟩
  have e : (⟨b, off, none⟩ : Addr).add i = ⟨b, off + i, none⟩ := by unfold Addr.add; split <;> simp_all
  rw [← e]; exact (h i (by omega)).1
end Go.Proofs.Ytkcfcimophjomaa

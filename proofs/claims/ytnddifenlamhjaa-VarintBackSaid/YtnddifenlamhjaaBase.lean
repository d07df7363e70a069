import Derived.Test.YtnddifenlamhjaaRTake
namespace Go.Proofs.Ytnddifenlamhjaa
open Go.RowKit
set_option linter.unusedVariables false
set_option linter.unusedSimpArgs false

/-- 'wpAny_take', the slot by its number: so that the frame can be written out behind it. -/
theorem take_at {P : Program} {ops : Array Oper} {Q : Exit → Act → World → Prop} {md : Region.Mode} {i : Nat} {oi : Oper} {v : Value} {fuel : Nat} {listed : Array Bool} {a : Act} {w : World} (d : Nat)
    (hi : ops[i]? = some oi) (hs : Region.noSelect ops = true) (hf : Region.free md ops listed i = true) (hr : (Region.ready md ops listed).contains i = true) (hd : oi.dst = some d)
    (hQ : ∀ (c : List PanicEntry) (a : Act) (w : World), Q (Exit.panic c) (a.put (some d) v) w → Q (Exit.panic c) a w) (hy : Yields P ops oi v a)
    (h : wpAny P md ops Q fuel (listed.setIfInBounds i true) (a.put (some d) v) w) : wpAny P md ops Q (fuel + 1) listed a w :=
  wpAny_take hi hs hf hr (by rw [hd]; exact hQ) hy (by rw [hd]; exact h)

set_option maxHeartbeats 400000 in
theorem rtake_nil (a : Option Addr) (c : Nat) (w : World) (hc : c ≤ 9223372036854775807) : Calls Try.prog 12 #[.slice a 0 c] w fun e w' => e = .returned (.tuple #[.int .u64 0, .int .i64 0, .int .i64 2]) ∧ Below w.heap.size w w' := by
  go_enter Try.func12, Try.ntmps12
  go_wp2
  refine wp_loop_rounds 1 ?_
  rw [rounds_succ]; go_wp2
  go_ret3
  exact ⟨rfl, Below.refl _ _⟩
theorem rtake_as {v : Value} {n : Nat} {g : Nat → Nat} {w : World} (h : Rd w v n g) {x k e0 : Nat} (hT : tkF g n = (x, k, e0)) :
    Calls Try.prog 12 #[v] w fun e w' => e = .returned (.tuple #[.int .u64 x, .int .i64 k, .int .i64 e0]) ∧ Below w.heap.size w w' := by
  obtain ⟨h1, ⟨rfl, a, c, rfl, h4⟩ | ⟨h2, b, off, c, rfl, h4, h5, h6, h7⟩⟩ := h
  · have e : tkF g 0 = (0, 0, 2) := rfl
    rw [e] at hT
    simp only [Prod.mk.injEq] at hT
    obtain ⟨rfl, rfl, rfl⟩ := hT
    exact rtake_nil a c w h4
  · exact rtake_len b off n c g w x k e0 hT h2 h4 h5 h6 h7 h1 _ rfl

end Go.Proofs.Ytnddifenlamhjaa

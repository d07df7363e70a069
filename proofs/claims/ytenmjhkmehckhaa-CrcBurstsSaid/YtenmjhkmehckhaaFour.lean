import Derived.Test.YtenmjhkmehckhaaSum
namespace Go.Proofs.Ytenmjhkmehckhaa
open Go.RowKit
set_option linter.unusedVariables false
set_option linter.unusedSimpArgs false
/-- A sum's four bytes. -/
def q4 (s i : Nat) : Nat := s / 256 ^ i % 256
theorem four_any (s : Nat) (w : World) (hs : s < 4294967296) :
    Calls Try.prog 19 #[.int .u32 s] w fun e w' => e = .returned (.agg #[.int .u8 (q4 s 0 : Nat), .int .u8 (q4 s 1 : Nat), .int .u8 (q4 s 2 : Nat), .int .u8 (q4 s 3 : Nat)]) ∧ Below w.heap.size w w' := by
  go_enter Try.func19, Try.ntmps19
  go_wp2
  refine wp_loop_rounds 5 ?_
  rw [rounds_succ]; go_wp2
  rw [rounds_succ]; go_wp2
  rw [rounds_succ]; go_wp2
  rw [rounds_succ]; go_wp2
  rw [rounds_succ]; go_wp2
  refine bodyPost_ret (v := .agg #[.int .u8 (q4 s 0 : Nat), .int .u8 (q4 s 1 : Nat), .int .u8 (q4 s 2 : Nat), .int .u8 (q4 s 3 : Nat)]) ?_ rfl ⟨rfl, ((Below.refl _ _).alloc (Nat.le_refl _) _).alloc (by simp) _⟩
  have e0 : ((q4 s 0 : Nat) : Int) = (s : Int) % 256 := by unfold q4; omega
  have e1 : ((q4 s 1 : Nat) : Int) = (s : Int) / 256 % 256 := by unfold q4; omega
  have e2 : ((q4 s 2 : Nat) : Int) = (s : Int) / 65536 % 256 := by unfold q4; omega
  have e3 : ((q4 s 3 : Nat) : Int) = (s : Int) / 16777216 := by unfold q4; omega
  rw [e0, e1, e2, e3]
  simp [results, Try.results19, go_sem]
end Go.Proofs.Ytenmjhkmehckhaa

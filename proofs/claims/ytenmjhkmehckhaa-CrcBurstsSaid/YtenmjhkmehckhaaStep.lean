import Derived.Test.YtenmjhkmehckhaaChecked
import Derived.WalkKit
import Derived.ProofKit
import Derived.Lib.Hide
import Derived.Below
import Derived.Laws.BitsAllLaws
namespace Go.Proofs.Ytenmjhkmehckhaa
open Go.RowKit
set_option linter.unusedVariables false
set_option linter.unusedSimpArgs false

/-- One bit's turn of the register. -/
def oneN (x : Nat) : Nat := (x / 2) ^^^ (if x % 2 = 1 then 3988292384 else 0)
def oneI (x : Int) : Int := bits .xor .u32 (x / 2) (bits .and .u32 3988292384 (-bits .and .u32 x 1 % 4294967296))
theorem oneI_eq (x : Int) : bits .xor .u32 (x / 2) (bits .and .u32 3988292384 (-bits .and .u32 x 1 % 4294967296)) = oneI x := rfl
theorem oneN_lt {x : Nat} (h : x < 4294967296) : oneN x < 4294967296 := by
  unfold oneN
  refine Nat.xor_lt_two_pow (n := 32) (by omega) ?_
  split <;> omega
theorem oneI_nat {x : Nat} (h : x < 4294967296) : oneI (x : Int) = ((oneN x : Nat) : Int) := by
  unfold oneI oneN
  have h1 : bits .and .u32 (x : Int) 1 = ((x % 2 : Nat) : Int) := by
    have := u32_and_nat x 1 h (by omega)
    rw [Nat.and_one_is_mod] at this
    exact this
  have h2 : ((x : Int) / 2) = ((x / 2 : Nat) : Int) := by omega
  rw [h1, h2]
  rcases Nat.mod_two_eq_zero_or_one x with h0 | h0
  · rw [h0]
    have : bits .and .u32 3988292384 (-((0 : Nat) : Int) % 4294967296) = ((0 : Nat) : Int) := by decide +kernel
    rw [this, u32_xor_nat _ _ (by omega) (by omega)]; simp
  · rw [h0]
    have : bits .and .u32 3988292384 (-((1 : Nat) : Int) % 4294967296) = ((3988292384 : Nat) : Int) := by decide +kernel
    rw [this, u32_xor_nat _ _ (by omega) (by omega)]; simp
def it : Nat → Nat → Nat
  | 0, x => x
  | k + 1, x => it k (oneN x)
theorem it_lt : ∀ (k : Nat) {x : Nat}, x < 4294967296 → it k x < 4294967296
  | 0, _, h => h
  | k + 1, _, h => it_lt k (oneN_lt h)
/-- The register with a byte more. -/
def stepN (r c : Nat) : Nat := it 8 (r ^^^ c)
theorem xor_lt32 {r c : Nat} (hr : r < 4294967296) (hc : c < 256) : r ^^^ c < 4294967296 := Nat.xor_lt_two_pow (n := 32) (by omega) (by omega)
theorem stepN_lt {r c : Nat} (hr : r < 4294967296) (hc : c < 256) : stepN r c < 4294967296 := it_lt 8 (xor_lt32 hr hc)
theorem stepI_nat {r c : Nat} (hr : r < 4294967296) (hc : c < 256) : oneI (oneI (oneI (oneI (oneI (oneI (oneI (oneI (bits .xor .u32 (r : Int) (c : Int))))))))) = ((stepN r c : Nat) : Int) := by
  have h0 := xor_lt32 hr hc
  have h1 := oneN_lt h0
  have h2 := oneN_lt h1
  have h3 := oneN_lt h2
  have h4 := oneN_lt h3
  have h5 := oneN_lt h4
  have h6 := oneN_lt h5
  have h7 := oneN_lt h6
  rw [u32_xor_nat r c hr (by omega), oneI_nat h0, oneI_nat h1, oneI_nat h2, oneI_nat h3, oneI_nat h4, oneI_nat h5, oneI_nat h6, oneI_nat h7]
  rfl
theorem oneN_top {x : Nat} (h : x < 4294967296) : oneN x / 2147483648 = x % 2 := by
  unfold oneN
  have e : x / 2 < 2147483648 := by omega
  have hs : ∀ y : Nat, ((x / 2) ^^^ y) / 2147483648 = (x / 2) / 2147483648 ^^^ y / 2147483648 := by
    intro y
    have := Nat.shiftRight_xor_distrib (a := x / 2) (b := y) (i := 31)
    simpa [Nat.shiftRight_eq_div_pow] using this
  rw [hs, Nat.div_eq_of_lt e]
  rcases Nat.mod_two_eq_zero_or_one x with h0 | h0 <;> rw [h0] <;> simp
theorem oneN_inj {x y : Nat} (hx : x < 4294967296) (hy : y < 4294967296) (h : oneN x = oneN y) : x = y := by
  have h1 := oneN_top hx
  rw [h, oneN_top hy] at h1
  have h2 : x / 2 = y / 2 := by
    unfold oneN at h
    rw [h1] at h
    have := congrArg (fun z => z ^^^ (if x % 2 = 1 then 3988292384 else 0)) h
    simpa [Nat.xor_assoc] using this
  omega
theorem it_inj : ∀ (k : Nat) {x y : Nat}, x < 4294967296 → y < 4294967296 → it k x = it k y → x = y
  | 0, _, _, _, _, h => h
  | k + 1, _, _, hx, hy, h => oneN_inj hx hy (it_inj k (oneN_lt hx) (oneN_lt hy) h)
theorem step_left {a b c : Nat} (ha : a < 4294967296) (hb : b < 4294967296) (hc : c < 256) : stepN a c = stepN b c ↔ a = b := by
  constructor
  · intro h
    have := it_inj 8 (xor_lt32 ha hc) (xor_lt32 hb hc) h
    have := congrArg (fun z => z ^^^ c) this
    simpa [Nat.xor_assoc] using this
  · rintro rfl; rfl
theorem step_right {a c d : Nat} (ha : a < 4294967296) (hc : c < 256) (hd : d < 256) : stepN a c = stepN a d ↔ c = d := by
  constructor
  · intro h
    have := it_inj 8 (xor_lt32 ha hc) (xor_lt32 ha hd) h
    have := congrArg (fun z => a ^^^ z) this
    simpa [← Nat.xor_assoc] using this
  · rintro rfl; rfl

attribute [local go_sem] oneI_eq
set_option maxHeartbeats 1000000 in
theorem step_any (r c : Nat) (w : World) (hr : r < 4294967296) (hc : c < 256) :
    Calls Try.prog 15 #[.int .u32 r, .int .u8 c] w fun e w' => e = .returned (.int .u32 (stepN r c : Nat)) ∧ w = w' := by
  have HS := Lib.hid (stepI_nat hr hc)
  go_enter Try.func15, Try.ntmps15
  go_wp2
  refine wp_loop_rounds 9 ?_
  rw [rounds_succ]; go_wp2
  rw [rounds_succ]; go_wp2
  rw [rounds_succ]; go_wp2
  rw [rounds_succ]; go_wp2
  rw [rounds_succ]; go_wp2
  rw [rounds_succ]; go_wp2
  rw [rounds_succ]; go_wp2
  rw [rounds_succ]; go_wp2
  rw [rounds_succ]; go_wp2
  go_ret
  exact ⟨congrArg (fun z => Ending.returned (.int .u32 z)) HS.out, rfl⟩
end Go.Proofs.Ytenmjhkmehckhaa

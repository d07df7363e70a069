import Derived.Test.YtkcfcimophjomaaLb
import Derived.Test.YtkcfcimophjomaaDiskT
namespace Go.Proofs.Ytkcfcimophjomaa
open Go.RowKit
set_option linter.unusedVariables false
set_option linter.unusedSimpArgs false
theorem tmod_emod (b m : Int) : b.tmod m % m = b % m := by
  rw [Int.tmod_def, Int.sub_mul_emod_self_left]
theorem tmod_bounds (b m : Int) (hm : 0 < m) : -m ≤ b.tmod m ∧ b.tmod m ≤ m := by
  have h1 := Int.tmod_lt_of_pos b hm
  have h2 := Int.lt_tmod_of_pos b hm
  omega
theorem burst_any (w : World) (v : Value) (n F T mask : Nat) (bit : Int) (g : Nat → Nat) (h : Rd w v n g) (hn : n ≤ 60) (h0 : 0 < n) (hb1 : -1000000 ≤ bit) (hb2 : bit ≤ 1000000) (hF : bit % (8 * (n : Int)) = (F : Int)) (hT : min 32 (8 * n - F) = T) (hmask : mask < 4294967296) :
    Calls Try.prog 33 #[v, .int .i64 bit, .int .u32 mask] w fun e w' => ∃ v', e = .returned v' ∧ w'.ownsRow w.heap.size 5 1 v' n (cells8 (bL (fl g n) F mask T)) ∧ Below w.heap.size w w' := by
  obtain ⟨h1, h2⟩ := tmod_bounds bit (8 * (n : Int)) (by omega)
  have hF0 : F < 8 * n := by
    have := Int.emod_lt_of_pos bit (show 0 < 8 * (n : Int) by omega)
    omega
  exact burst_at w v n F T mask bit _ g h hn h0 hb1 hb2 rfl h1 h2 (by rw [tmod_emod]; exact hF) (by omega) hmask
theorem burst_none (w : World) (v : Value) (mask : Nat) (bit : Int) (g : Nat → Nat) (h : Rd w v 0 g) :
    Calls Try.prog 33 #[v, .int .i64 bit, .int .u32 mask] w fun e w' => ∃ a c, e = .returned (.slice a 0 c) ∧ Below w.heap.size w w' := by
  have HR := Lib.hid h
  clear h
  go_enter Try.func33, Try.ntmps33
  go_wp2_with (fail)
  go_at_call 34; refine (clone8 HR.out (by omega)).mono ?_; rintro e w2 ⟨v2, rfl, ho2, hb2'⟩
  obtain ⟨a2, c2, rfl, _, _⟩ := ownE_slice ho2
  clear ho2
  go_wp2_with (fail)
  go_ret
  exact ⟨_, _, rfl, hb2'⟩
theorem turnB_zero (xs : List Nat) (p : Nat) : turnB xs p 0 = xs := by
  unfold turnB
  apply List.ext_getElem?
  intro i
  rw [List.getElem?_set]
  split
  · rename_i h
    subst h
    split
    · rename_i hl
      rw [List.getElem?_eq_getElem hl]
      simp [List.getD_eq_getElem?_getD, List.getElem?_eq_getElem hl]
    · rename_i hl
      rw [List.getElem?_eq_none (by omega)]
  · rfl
theorem bL_zero (xs : List Nat) (F : Nat) : ∀ T, bL xs F 0 T = xs
  | 0 => rfl
  | t + 1 => by
    unfold bL
    rw [bL_zero xs F t, Nat.zero_div, Nat.zero_mod, turnB_zero]
theorem bL_one (xs : List Nat) (F : Nat) : ∀ T, bL xs F 1 (T + 1) = turnB xs F 1
  | 0 => by unfold bL; simp [bL]
  | t + 1 => by
    unfold bL
    rw [bL_one xs F t]
    have : 1 / 2 ^ (t + 1) % 2 = 0 := by
      rw [Nat.div_eq_of_lt (Nat.one_lt_two_pow (by omega))]
    rw [this, turnB_zero]
theorem bL_past (xs : List Nat) (F : Nat) : bL xs F 4294967294 1 = xs := by
  unfold bL bL
  exact turnB_zero xs _
theorem strL_list (xs : List Nat) : (strL xs).toList = xs.map (fun x => UInt8.ofNat x) := by
  rw [ByteArray.toList_eq]; simp [strL]
theorem turnB_ne (xs : List Nat) (p : Nat) (h : ∀ x ∈ xs, x < 256) (hp : p / 8 < xs.length) : ((strL xs).toList == (strL (turnB xs p 1)).toList) = false := by
  have h2 : ∀ x ∈ turnB xs p 1, x < 256 := by
    have := turnB_256 (xs := xs) h p 1 (by omega) 1
    unfold bL bL at this
    simpa using this
  rw [strL_list, strL_list, beq_eq_false_iff_ne]
  intro e
  have e2 := (map8_inj _ _ h h2).1 e
  have e3 := congrArg (fun l => l.getD (p / 8) 0) e2
  unfold turnB at e3
  simp only [List.getD_eq_getElem?_getD, List.getElem?_set_self hp, Option.getD_some] at e3
  generalize xs[p / 8]?.getD 0 = y at e3
  have e4 : y ^^^ y = y ^^^ (y ^^^ 1 * 2 ^ (p % 8)) := congrArg (fun z => y ^^^ z) e3
  rw [← Nat.xor_assoc, Nat.xor_self, Nat.zero_xor, Nat.one_mul] at e4
  have : 2 ^ (p % 8) ≠ 0 := Nat.ne_of_gt (Nat.two_pow_pos _)
  omega
/-- What one's own row of bytes is as a string. -/
theorem own_conv {w : World} {B n : Nat} {v : Value} {xs : List Nat} (h : w.ownsRow B 5 1 v n (cells8 xs)) (hx : ∀ x ∈ xs, x < 256) (hl : xs.length = n) : (convert 26 9 v).run Try.prog w = .ok (.string (strL xs)) w := by
  have h1 := Rd.of_own (w := w) (B := B) (v := v) (xs := xs) (by rw [hl]; exact h) (bs_256' hx)
  have h2 := h1.conv
  rw [bstr_own] at h2
  exact h2
end Go.Proofs.Ytkcfcimophjomaa

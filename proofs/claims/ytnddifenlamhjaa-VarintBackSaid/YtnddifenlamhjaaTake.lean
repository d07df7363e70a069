import Derived.Test.YtnddifenlamhjaaRows
import Derived.Test.YtnddifenlamhjaaPlain
import Derived.WalkKit
import Derived.ProofKit
import Derived.BigQuiet
import Derived.Deep.QuietTactic
import Derived.Deep.RegionWith
import Derived.Deep.Cut
import Derived.Lib.Hide
namespace Go.Proofs.Ytnddifenlamhjaa
open Go.RowKit
set_option linter.unusedVariables false

def cells8 (xs : List Nat) : List Value := xs.map fun (x : Nat) => Value.int .u8 (x : Int)
theorem info5 : (Try.prog.info? 5).map (fun i => (i.zero, i.size, i.bytes)) = some (some (.int .u8 0), 1, 1) := by kernel_rfl


theorem or128_fin : ∀ x : Fin 256, x.val ||| 128 = x.val % 128 + 128 := by decide +kernel
theorem or128 (m : Nat) : bits .or .u8 ((m : Int) % 256) 128 = ((m % 128 + 128 : Nat) : Int) := by
  have h0 : ((m : Int) % 256) = ((m % 256 : Nat) : Int) := by omega
  have h2 : m % 256 ||| 128 = m % 128 + 128 := by
    have := or128_fin ⟨m % 256, Nat.mod_lt _ (by omega)⟩
    simp only at this
    rw [this]; omega
  rw [h0, ← h2]
  exact u8_or_nat (m % 256) 128 (Nat.mod_lt _ (by omega)) (by omega)

/-- A new block of one cell: what append reads. -/
theorem new_one (w : World) (u : Value) (t : TypeId) : ∀ j v, [u][j]? = some v → (w.alloc (.cells #[u] t)).cell? ((⟨w.heap.size, 0, none⟩ : Addr).add j) = some v := by
  intro j v h
  cases j with
  | zero => simp at h; subst h; simp [Addr.add]
  | succ j => simp at h

theorem cells8_snoc (xs : List Nat) (x : Nat) : cells8 (xs ++ [x]) = cells8 xs ++ [.int .u8 (x : Int)] := by simp [cells8]


def tkV (r : Nat × Nat × Nat) : Value := .tuple #[.int .u64 r.1, .int .i64 r.2.1, .int .i64 r.2.2]
theorem and128_fin : ∀ x : Fin 256, (x.val &&& 128 = 0 ↔ x.val < 128) := by decide +kernel
theorem and128_t (c : Nat) (h : c < 256) (h1 : 128 ≤ c) : (bits .and .u8 (c : Int) 128 != 0) = true := by
  have e : bits .and .u8 (c : Int) 128 = ((c &&& 128 : Nat) : Int) := u8_and_nat c 128 h (by omega)
  have := and128_fin ⟨c, h⟩
  simp only at this
  rw [e, bne_iff_ne]; omega
theorem and128_f (c : Nat) (h : c < 256) (h1 : ¬ 128 ≤ c) : (bits .and .u8 (c : Int) 128 != 0) = false := by
  have e : bits .and .u8 (c : Int) 128 = ((c &&& 128 : Nat) : Int) := u8_and_nat c 128 h (by omega)
  have := and128_fin ⟨c, h⟩
  simp only at this
  rw [e, bne_eq_false_iff_eq]; omega
theorem not128_fin : ∀ x : Fin 256, bits .andNot .u8 (x.val : Int) 128 = ((x.val % 128 : Nat) : Int) := by decide +kernel
theorem or_low (a b k : Nat) (h : a < 2 ^ k) : a ||| b * 2 ^ k = a + b * 2 ^ k := by
  rw [Nat.mul_comm b, Nat.or_comm, ← Nat.two_pow_add_eq_or_of_lt h]; omega
theorem nx_val (acc c k : Nat) (hc : c < 256) (hk : k ≤ 9) (ha : acc < 2 ^ (7 * k)) :
    bits .or .u64 (acc : Int) (IntKind.u64.wrap (IntKind.u64.wrap (bits .andNot .u8 (c : Int) 128) * 2 ^ (7 * k))) = ((nx acc c k : Nat) : Int) := by
  have e1 : bits .andNot .u8 (c : Int) 128 = ((c % 128 : Nat) : Int) := not128_fin ⟨c, hc⟩
  have e2 : IntKind.u64.wrap ((c % 128 : Nat) : Int) = ((c % 128 : Nat) : Int) := by rw [IntKind.wrap_u64]; omega
  have e3 : (((c % 128 : Nat) : Int) * 2 ^ (7 * k)) = (((c % 128) * 2 ^ (7 * k) : Nat) : Int) := by push_cast; rfl
  rw [e1, e2, e3, IntKind.wrap_u64]
  have hp : 2 ^ (7 * k) ≤ 2 ^ 63 := Nat.pow_le_pow_right (by omega) (by omega)
  have e4 : (((c % 128) * 2 ^ (7 * k) : Nat) : Int) % 18446744073709551616 = (((c % 128) * 2 ^ (7 * k) % 18446744073709551616 : Nat) : Int) := by omega
  rw [e4]
  have hm : (c % 128) * 2 ^ (7 * k) % 18446744073709551616 < 18446744073709551616 := Nat.mod_lt _ (by omega)
  have h63 : (2 : Nat) ^ 63 = 9223372036854775808 := by decide
  rw [u64_or_nat _ _ (by omega) hm]
  unfold nx
  congr 1
  have e5 : (c % 128) * 2 ^ (7 * k) % 18446744073709551616 = ((c % 128) % 2 ^ (64 - 7 * k)) * 2 ^ (7 * k) := by
    have : (18446744073709551616 : Nat) = 2 ^ (64 - 7 * k) * 2 ^ (7 * k) := by rw [← Nat.pow_add]; rw [show 64 - 7 * k + 7 * k = 64 by omega]
    rw [this, Nat.mul_mod_mul_right]
  rw [e5, or_low _ _ _ ha]
theorem nx_lt (acc c k : Nat) (hk : k ≤ 8) (ha : acc < 2 ^ (7 * k)) : nx acc c k < 2 ^ (7 * (k + 1)) := by
  unfold nx
  have h1 : (c % 128) * 2 ^ (7 * k) % 18446744073709551616 ≤ (c % 128) * 2 ^ (7 * k) := Nat.mod_le _ _
  have h2 : (c % 128) * 2 ^ (7 * k) ≤ 127 * 2 ^ (7 * k) := Nat.mul_le_mul_right _ (by omega)
  rw [show 7 * (k + 1) = 7 * k + 7 by omega, Nat.pow_add]
  omega

set_option maxRecDepth 100000 in
set_option maxHeartbeats 1000000 in
theorem take_len (b off n c : Nat) (g : Nat → Nat) (w : World) (hn : 0 < n) (hc : n ≤ c) (hcap : c ≤ 9223372036854775807)
    (hcell : ∀ i, i < n → w.cell? ⟨b, off + i, none⟩ = some (.int .u8 (g i : Nat))) (hr : ∀ i, g i < 256) :
    Calls Try.prog 10 #[.slice (some ⟨b, off, none⟩) n c] w fun e w' => e = .returned (tkV (tkF g n)) ∧ w = w' := by
  by_cases h10 : 10 < n
  · have HF := Lib.hid (show tkF g n = (tkg g 10 0 0).getD (0, 0, if 10 ≤ n then 3 else 2) by unfold tkF; rw [show min n 10 = 10 by omega])
    go_enter Try.func10, Try.ntmps10
    go_wp2
    go_loop [2, 13] (fun s i => ∃ k acc : Nat, k ≤ 10 ∧ s = .int .u64 acc ∧ i = .int .i64 k ∧ (k ≤ 9 → acc < 2 ^ (7 * k)) ∧ tkg g 10 0 0 = tkg g (10 - k) k acc) (fun _ i => 10 - (intOf i).toNat)
    case atStart => exact ⟨0, 0, by omega, rfl, rfl, fun _ => by simp, rfl⟩
    case round =>
      obtain ⟨k, acc, hk, rfl, rfl, hacc, hT⟩ := hrel
      have HT := Lib.hid hT
      clear hT
      by_cases hlt : k < 10
      · have hck := hcell k (by omega)
        have hrk := hr k
        have hs : tkg g (10 - k) k acc = if 128 ≤ g k then tkg g (10 - (k + 1)) (k + 1) (nx acc (g k) k)
            else if (g k = 0 ∧ 0 < k) ∨ (k = 9 ∧ 1 < g k) then some (0, 0, 3) else some (nx acc (g k) k, k + 1, 0) := by
          rw [show 10 - k = (10 - (k + 1)) + 1 by omega]; rfl
        have hv := nx_val acc (g k) k hrk (by omega) (hacc (by omega))
        have ha' : k ≤ 8 → nx acc (g k) k < 2 ^ (7 * (k + 1)) := fun h8 => nx_lt acc (g k) k h8 (hacc (by omega))
        have HS := Lib.hid hs
        have HV := Lib.hid hv
        have HA := Lib.hid ha'
        clear hs hv ha' hacc
        by_cases h128 : 128 ≤ g k
        · have hb := and128_t (g k) hrk h128
          go_wp2
          go_round
          case rel => exact ⟨k + 1, nx acc (g k) k, by omega, by rw [HV.out], by go_num, fun h9 => HA.out (by omega), by rw [HT.out, HS.out, if_pos h128]⟩
          case measure => simp [intOf]; omega
        · have hb := and128_f (g k) hrk h128
          have hR := HS.out
          rw [if_neg h128] at hR
          have HR := Lib.hid hR
          clear hR
          go_wp2
          all_goals go_ret3
          all_goals refine ⟨?_, rfl⟩
          all_goals rw [HF.out, HT.out, HR.out]
          all_goals first | (rw [if_pos (by omega)]; rfl) | (rw [if_neg (by omega)]; simp [tkV, HV.out]; done) | (have hv := HV.out; have h9 : k = 9 := (by omega); subst h9; rw [if_neg (by omega)]; simp [tkV]; simpa using hv) | (have hv := HV.out; have hg : g k = 0 := (by assumption); have h0 : k = 0 := (by assumption); subst h0; rw [if_neg (by omega)]; rw [hg] at hv ⊢; simp [tkV]; simpa using hv)
      · obtain rfl : k = 10 := by omega
        have hE : tkg g (10 - 10) 10 acc = none := by rw [Nat.sub_self]; rfl
        have HE := Lib.hid hE
        clear hE
        go_wp2
        all_goals go_ret3
        all_goals refine ⟨?_, rfl⟩
        all_goals rw [HF.out, HT.out, HE.out]
        all_goals first | (rw [if_pos (by omega)]; rfl) | (rw [if_neg (by omega)]; rfl)
  · have HF := Lib.hid (show tkF g n = (tkg g n 0 0).getD (0, 0, if 10 ≤ n then 3 else 2) by unfold tkF; rw [show min n 10 = n by omega])
    go_enter Try.func10, Try.ntmps10
    go_wp2
    go_loop [2, 13] (fun s i => ∃ k acc : Nat, k ≤ n ∧ s = .int .u64 acc ∧ i = .int .i64 k ∧ (k ≤ 9 → acc < 2 ^ (7 * k)) ∧ tkg g n 0 0 = tkg g (n - k) k acc) (fun _ i => n - (intOf i).toNat)
    case atStart => exact ⟨0, 0, by omega, rfl, rfl, fun _ => by simp, rfl⟩
    case round =>
      obtain ⟨k, acc, hk, rfl, rfl, hacc, hT⟩ := hrel
      have HT := Lib.hid hT
      clear hT
      by_cases hlt : k < n
      · have hck := hcell k (by omega)
        have hrk := hr k
        have hs : tkg g (n - k) k acc = if 128 ≤ g k then tkg g (n - (k + 1)) (k + 1) (nx acc (g k) k)
            else if (g k = 0 ∧ 0 < k) ∨ (k = 9 ∧ 1 < g k) then some (0, 0, 3) else some (nx acc (g k) k, k + 1, 0) := by
          rw [show n - k = (n - (k + 1)) + 1 by omega]; rfl
        have hv := nx_val acc (g k) k hrk (by omega) (hacc (by omega))
        have ha' : k ≤ 8 → nx acc (g k) k < 2 ^ (7 * (k + 1)) := fun h8 => nx_lt acc (g k) k h8 (hacc (by omega))
        have HS := Lib.hid hs
        have HV := Lib.hid hv
        have HA := Lib.hid ha'
        clear hs hv ha' hacc
        by_cases h128 : 128 ≤ g k
        · have hb := and128_t (g k) hrk h128
          go_wp2
          go_round
          case rel => exact ⟨k + 1, nx acc (g k) k, by omega, by rw [HV.out], by go_num, fun h9 => HA.out (by omega), by rw [HT.out, HS.out, if_pos h128]⟩
          case measure => simp [intOf]; omega
        · have hb := and128_f (g k) hrk h128
          have hR := HS.out
          rw [if_neg h128] at hR
          have HR := Lib.hid hR
          clear hR
          go_wp2
          all_goals go_ret3
          all_goals refine ⟨?_, rfl⟩
          all_goals rw [HF.out, HT.out, HR.out]
          all_goals first | (rw [if_pos (by omega)]; rfl) | (rw [if_neg (by omega)]; simp [tkV, HV.out]; done) | (have hv := HV.out; have h9 : k = 9 := (by omega); subst h9; rw [if_neg (by omega)]; simp [tkV]; simpa using hv) | (have hv := HV.out; have hg : g k = 0 := (by assumption); have h0 : k = 0 := (by assumption); subst h0; rw [if_neg (by omega)]; rw [hg] at hv ⊢; simp [tkV]; simpa using hv)
      · have hkn : k = n := by omega
        subst hkn
        have hE : tkg g (k - k) k acc = none := by rw [Nat.sub_self]; rfl
        have HE := Lib.hid hE
        clear hE
        go_wp2
        all_goals go_ret3
        all_goals refine ⟨?_, rfl⟩
        all_goals rw [HF.out, HT.out, HE.out]
        all_goals first | (rw [if_pos (by omega)]; rfl) | (rw [if_neg (by omega)]; rfl)
end Go.Proofs.Ytnddifenlamhjaa

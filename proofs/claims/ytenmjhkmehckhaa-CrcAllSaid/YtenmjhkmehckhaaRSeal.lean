import Derived.Test.YtenmjhkmehckhaaParts
import Derived.Test.YtenmjhkmehckhaaLin
namespace Go.Proofs.Ytenmjhkmehckhaa
open Go.RowKit
set_option linter.unusedVariables false
set_option linter.unusedSimpArgs false
attribute [local go_sem] eqNone eqSome
theorem one_rd (w : World) (x : Nat) (h : x < 256) : Rd (w.alloc (.cells #[.int .u8 (x : Int)] 5)) (.slice (some ⟨w.heap.size, 0, none⟩) 1 1) 1 (fun _ => x) :=
  (lit_rd w [x] (by intro i; match i with | 0 => exact h | i + 1 => simp) (by simp) (by simp)).same (fun _ => h) (fun i hi => by
    have h0 : i = 0 := by simpa using hi
    subst h0; rfl)
theorem fl_snoc (g : Nat → Nat) (k : Nat) : fl g (k + 1) = fl g k ++ [g k] := by simp [fl, List.range_succ]
theorem fl_one (x : Nat) : fl (fun _ => x) 1 = [x] := rfl
set_option maxHeartbeats 1000000 in
theorem rseal_own {v : Value} {n : Nat} {g : Nat → Nat} {w : World} (h : Rd w v n g) (hn : n ≤ 80000) :
    Calls Try.prog 18 #[v] w fun e w' => ∃ v', e = .returned v' ∧ w'.ownsRow w.heap.size 5 1 v' (n + 4) (cells8 (fl g n ++ fl (q4 (sumN g n)) 4)) ∧ Below w.heap.size w w' := by
  obtain ⟨a, c, rfl, hc, hm⟩ := h.take
  have H := Lib.hid h
  have hR0 : Rd (w.alloc (.cells #[] 5)) (.slice a n c) n g := h.below ((Below.refl _ _).alloc (Nat.le_refl _) _)
  have own0 := own_empty w 5
  have HL := Lib.hid (sumN_lt h.1 n)
  clear h
  go_enter Try.func18, Try.ntmps18
  go_wp2_with (fail)
  go_at_call 14; refine (rsum_any H.out).mono ?_; rintro e w9 ⟨rfl, rfl⟩
  go_wp2_with (at_builtin; refine wpList_append_rd _ rfl (.tmp 8) (.tmp 9) rfl w.heap.size _ 0 [] rfl own0 _ n g rfl hR0 (by omega) (by simp) ?_; intro v3 w3 hown3 hgr3)
  have hB3 : Below w.heap.size w w3 := ((Below.refl _ _).alloc (Nat.le_refl _) _).grown hgr3 (by simp) (fun j hj => (own0.lt j hj).1)
  rw [List.nil_append, Nat.zero_add] at hown3
  have HO3 := Lib.hid hown3
  clear hgr3 own0 hR0 hown3
  go_loopw [3, 4, 5] (fun s v i wr => ∃ k T : Nat, k ≤ 4 ∧ T = sumN g n / 256 ^ k ∧ s = .int .u32 T ∧ i = .int .i64 k ∧ wr.ownsRow w.heap.size 5 1 v (n + k) (cells8 (fl g n ++ fl (q4 (sumN g n)) k)) ∧ Below w.heap.size w wr) (fun _ _ i _ => 4 - (intOf i).toNat)
  case atStart => exact ⟨0, sumN g n, by omega, by simp, rfl, rfl, by have := HO3.out; simpa [fl] using this, hB3⟩
  case round =>
    obtain ⟨k, T, hk, hT, rfl, rfl, hown, hb⟩ := hrel
    have hz := hb.size
    have HT := Lib.hid hT
    have HO := Lib.hid hown
    clear hT hown
    by_cases hlt : k < 4
    · have hq : ((T : Nat) : Int) % 256 = ((q4 (sumN g n) k : Nat) : Int) := by unfold q4; rw [← HT.out]; omega
      have hq2 : T < 4294967296 := by rw [HT.out]; exact Nat.lt_of_le_of_lt (Nat.div_le_self _ _) HL.out
      have h1 := one_rd wr (q4 (sumN g n) k) (q4_256 _ _)
      have H1 := Lib.hid h1
      clear h1
      have hoa := HO.out.alloc (.cells #[.int .u8 (q4 (sumN g n) k : Nat)] 5)
      go_wp2_with (at_builtin; refine wpList_append_rd _ rfl (.tmp 15) (.tmp 19) rfl w.heap.size _ (n + k) _ rfl hoa _ 1 _ rfl H1.out (by omega) (by simp; omega) ?_; intro v' w1 hown' hgrow)
      have hB : Below w.heap.size w w1 := (hb.alloc hz _).grown hgrow (by simp; omega) (fun j hj => (hoa.lt j hj).1)
      have HW := Lib.hid hown'
      clear hown' hgrow hoa
      go_roundw
      case rel => exact ⟨k + 1, T / 256, by omega, by rw [HT.out, Nat.div_div_eq_div_mul, ← Nat.pow_succ], by simp, by go_num, by have := HW.out; rw [fl_one, List.append_assoc, ← fl_snoc] at this; exact this, hB⟩
      case measure => simp [intOf]; omega
    · obtain rfl : k = 4 := by omega
      go_wp2
      go_ret
      exact ⟨_, rfl, HO.out, hb⟩
theorem rseal_rd {v : Value} {n : Nat} {g : Nat → Nat} {w : World} (h : Rd w v n g) (hn : n ≤ 80000) :
    Calls Try.prog 18 #[v] w fun e w' => ∃ v', e = .returned v' ∧ Rd w' v' (n + 4) (sealG g n) ∧ Below w.heap.size w w' := by
  refine (rseal_own h (by omega)).mono ?_
  rintro e w' ⟨v', rfl, hown, hb⟩
  refine ⟨v', rfl, ?_, hb⟩
  have h1 := Rd.of_own (w := w') (B := w.heap.size) (v := v') (xs := sealL g n) (by rw [sealL_len]; exact hown) (fun i => sealG_256 h.1 n i)
  rwa [sealL_len] at h1
end Go.Proofs.Ytenmjhkmehckhaa

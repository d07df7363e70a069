import Derived.Test.YtnddifenlamhjaaTake
namespace Go.Proofs.Ytnddifenlamhjaa
open Go.RowKit
set_option linter.unusedVariables false

theorem own_empty (w : World) (e : TypeId) : (w.alloc (.cells #[] e)).ownsRow w.heap.size e 1 (.slice (some ⟨w.heap.size, 0, none⟩) 0 0) 0 [] :=
  World.ownsRow_made w #[] 0 (Nat.le_refl _) (by unfold maxLen; omega) (by simp)

set_option maxRecDepth 100000 in
set_option maxHeartbeats 1000000 in
theorem put_any (n : Nat) (w : World) (hn : n < 18446744073709551616) :
    Calls Try.prog 13 #[.int .u64 n] w fun e w' => ∃ v, e = .returned v ∧ w'.ownsRow w.heap.size 5 1 v (enc n).length (cells8 (enc n)) ∧ Below w.heap.size w w' := by
  obtain ⟨i0, hi, hz0, hz1, hz2⟩ := info_parts info5
  have hlen : (enc n).length ≤ 10 := enc_len 9 n (by omega)
  go_enter Try.func13, Try.ntmps13
  go_wp2
  go_loopw [0, 3] (fun s v wr => ∃ (m : Nat) (xs : List Nat), s = .int .u64 m ∧ m < 18446744073709551616 ∧ enc n = xs ++ enc m ∧ wr.ownsRow w.heap.size 5 1 v xs.length (cells8 xs) ∧ Below w.heap.size w wr) (fun s _ _ => (intOf s).toNat)
  case atStart => exact ⟨n, [], rfl, hn, rfl, World.ownsRow_nil _ _ _ _, Below.refl _ _⟩
  case round =>
    obtain ⟨m, xs, rfl, hm, hx, hown, hb⟩ := hrel
    have hxl : xs.length ≤ 10 := by rw [hx] at hlen; simp at hlen; omega
    have hz := hb.size
    have HX := Lib.hid hx
    clear hx
    have HM := Lib.hid hm
    clear hm hn
    by_cases hlt : m < 128
    · have hc : ¬ (128 : Int) ≤ (m : Int) := by omega
      go_wp2_with ((at_builtin; refine wpList_append_own _ rfl (.tmp 14) (.tmp 17) 23 rfl w.heap.size 5 i0 (.int .u8 0) 1 1 Try.underlying23 hi hz0 hz1 hz2 rfl (by decide) _ _ _ rfl (hown.alloc _) ⟨wr.heap.size, 0, none⟩ 1 1 [.int .u8 (m : Int)] rfl rfl (new_one _ _ _) (fun x hx => by simp at hx; subst hx; rfl) (by unfold maxLen; omega) (by omega) (by simp; omega) ?_; intro v' w1 hown' hgrow _))
      go_ret
      have hB : Below w.heap.size w w1 := (hb.alloc hz _).grown hgrow (by simp; omega) (fun k hk => (hown.lt k hk).1)
      have hE : enc n = xs ++ [m] := by rw [HX.out, enc_lo hlt]
      refine ⟨v', rfl, ?_, hB⟩
      rw [hE, cells8_snoc, List.length_append]
      exact hown'
    · have hc : (128 : Int) ≤ (m : Int) := by omega
      go_wp2_with ((at_builtin; refine wpList_append_own _ rfl (.tmp 8) (.tmp 12) 23 rfl w.heap.size 5 i0 (.int .u8 0) 1 1 Try.underlying23 hi hz0 hz1 hz2 rfl (by decide) _ _ _ rfl (hown.alloc _) ⟨wr.heap.size, 0, none⟩ 1 1 [.int .u8 (bits .or .u8 ((m : Int) % 256) 128)] rfl rfl (new_one _ _ _) (fun x hx => by simp at hx; subst hx; rfl) (by unfold maxLen; omega) (by omega) (by simp; omega) ?_; intro v' w1 hown' hgrow _))
      have hB : Below w.heap.size w w1 := (hb.alloc hz _).grown hgrow (by simp; omega) (fun k hk => (hown.lt k hk).1)
      go_roundw
      case rel =>
        refine ⟨m / 128, xs ++ [m % 128 + 128], ?_, by have := HM.out; omega, by rw [HX.out, enc_hi hlt]; simp, ?_, hB⟩
        · simp
        · rw [cells8_snoc, List.length_append]
          rw [or128] at hown'
          exact hown'
      case measure => simp [intOf]; omega
set_option maxRecDepth 100000 in
set_option maxHeartbeats 1000000 in
theorem rput_any (n : Nat) (w : World) (hn : n < 18446744073709551616) :
    Calls Try.prog 14 #[.int .u64 n] w fun e w' => ∃ v, e = .returned v ∧ w'.ownsRow w.heap.size 5 1 v (enc n).length (cells8 (enc n)) ∧ Below w.heap.size w w' := by
  obtain ⟨i0, hi, hz0, hz1, hz2⟩ := info_parts info5
  have hlen : (enc n).length ≤ 10 := enc_len 9 n (by omega)
  go_enter Try.func14, Try.ntmps14
  go_wp2
  go_loopw [0, 3] (fun s v wr => ∃ (m : Nat) (xs : List Nat), s = .int .u64 m ∧ m < 18446744073709551616 ∧ enc n = xs ++ enc m ∧ wr.ownsRow w.heap.size 5 1 v xs.length (cells8 xs) ∧ Below w.heap.size w wr) (fun s _ _ => (intOf s).toNat)
  case atStart => exact ⟨n, [], rfl, hn, rfl, own_empty _ _, (Below.refl _ _).alloc (Nat.le_refl _) _⟩
  case round =>
    obtain ⟨m, xs, rfl, hm, hx, hown, hb⟩ := hrel
    have hxl : xs.length ≤ 10 := by rw [hx] at hlen; simp at hlen; omega
    have hz := hb.size
    have HX := Lib.hid hx
    clear hx
    have HM := Lib.hid hm
    clear hm hn
    by_cases hlt : m < 128
    · have hc : ¬ (128 : Int) ≤ (m : Int) := by omega
      go_wp2_with ((at_builtin; refine wpList_append_own _ rfl (.tmp 16) (.tmp 19) 23 rfl w.heap.size 5 i0 (.int .u8 0) 1 1 Try.underlying23 hi hz0 hz1 hz2 rfl (by decide) _ _ _ rfl (hown.alloc _) ⟨wr.heap.size, 0, none⟩ 1 1 [.int .u8 (m : Int)] rfl rfl (new_one _ _ _) (fun x hx => by simp at hx; subst hx; rfl) (by unfold maxLen; omega) (by omega) (by simp; omega) ?_; intro v' w1 hown' hgrow _))
      go_ret
      have hB : Below w.heap.size w w1 := (hb.alloc hz _).grown hgrow (by simp; omega) (fun k hk => (hown.lt k hk).1)
      have hE : enc n = xs ++ [m] := by rw [HX.out, enc_lo hlt]
      refine ⟨v', rfl, ?_, hB⟩
      rw [hE, cells8_snoc, List.length_append]
      exact hown'
    · have hc : (128 : Int) ≤ (m : Int) := by omega
      go_wp2_with ((at_builtin; refine wpList_append_own _ rfl (.tmp 7) (.tmp 12) 23 rfl w.heap.size 5 i0 (.int .u8 0) 1 1 Try.underlying23 hi hz0 hz1 hz2 rfl (by decide) _ _ _ rfl (hown.alloc _) ⟨wr.heap.size, 0, none⟩ 1 1 [.int .u8 ((m : Int) % 128 + 128)] rfl rfl (new_one _ _ _) (fun x hx => by simp at hx; subst hx; rfl) (by unfold maxLen; omega) (by omega) (by simp; omega) ?_; intro v' w1 hown' hgrow _))
      have hB : Below w.heap.size w w1 := (hb.alloc hz _).grown hgrow (by simp; omega) (fun k hk => (hown.lt k hk).1)
      have hw : IntKind.u64.wrap ((m : Int) / 128) = ((m / 128 : Nat) : Int) := by
        rw [IntKind.wrap_u64]; have := HM.out; omega
      go_roundw
      case rel =>
        refine ⟨m / 128, xs ++ [m % 128 + 128], ?_, by have := HM.out; omega, by rw [HX.out, enc_hi hlt]; simp, ?_, hB⟩
        · rw [hw]
        · rw [cells8_snoc, List.length_append]
          rw [show ((m : Int) % 128 + 128) = ((m % 128 + 128 : Nat) : Int) by omega] at hown'
          exact hown'
      case measure => rw [hw]; simp [intOf]; omega
end Go.Proofs.Ytnddifenlamhjaa

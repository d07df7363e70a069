import Derived.Test.YtnddifenlamhjaaPutAt
namespace Go.Proofs.Ytnddifenlamhjaa
open Go.RowKit
set_option linter.unusedVariables false
set_option linter.unusedSimpArgs false

set_option maxRecDepth 100000 in
set_option maxHeartbeats 1000000 in
theorem orders_a (x y : Nat) (w : World) (hx : x < 18446744073709551616) (hy : y < 18446744073709551616) (hle : x < y) :
    Calls Try.prog 7 #[.int .u64 x, .int .u64 y] w fun e w' => e = .returned (.bool true) ∧ Below w.heap.size w w' := by
  have h10 := enc_len10 hy
  have hmono := enc_mono x y (by omega)
  obtain ⟨_, _, hlast, _⟩ := eg_spec y
  have HX := Lib.hid hx
  have HY := Lib.hid hy
  have HL := Lib.hid hlast
  have HM := Lib.hid hmono
  have HH := Lib.hid h10
  clear hx hy hlast hmono h10
  go_enter Try.func7, Try.ntmps7
  go_wp2_with (fail)
  go_at_call 9; refine (shown_any _).mono ?_; rintro e w1 ⟨rfl, hb1⟩
  go_wp2_with (fail)
  go_at_call 13; refine (put_at x _ HX.out).mono ?_; rintro e w2 ⟨b2, m2, c2, rfl, hm2, _, _, _, _, _, _, _, hb2⟩
  go_wp2_with (fail)
  go_at_call 13; refine (put_at y _ HY.out).mono ?_; rintro e w3 ⟨b3, m3, c3, rfl, hm3, hc31, hc32, hlt3, hge3, hcell3, hfz3, hown3, hb3⟩
  have hle2 : m2 ≤ m3 := by have := HM.out; omega
  have hle3 : m3 + 1 ≤ 10 := by have := HH.out; omega
  have hck := hcell3 m3 (by omega)
  have hne : m3 = 0 ∨ ¬ eg y m3 = 0 := by have := HL.out; rw [hm3] at this; simpa using this
  have HN := Lib.hid hne
  clear hm2 hm3 hcell3 hfz3 hown3 hge3 hne
  by_cases h0 : m3 = 0
  · subst h0
    go_wp2_with (fail)
    go_ret
    exact ⟨rfl, (hb1.trans (hb2.mono hb1.size)).trans (hb3.mono (Nat.le_trans hb1.size hb2.size))⟩
  · have hnz : (((eg y m3 : Nat) : Int) != 0) = true := by have := HN.out; rw [bne_iff_ne]; omega
    have hm1 : (((m3 : Int) + 1) == 1) = false := by simp; omega
    go_wp2_with (fail)
    all_goals go_ret
    all_goals exact ⟨rfl, (hb1.trans (hb2.mono hb1.size)).trans (hb3.mono (Nat.le_trans hb1.size hb2.size))⟩

set_option maxRecDepth 100000 in
set_option maxHeartbeats 1000000 in
theorem orders_b (x y : Nat) (w : World) (hx : x < 18446744073709551616) (hy : y < 18446744073709551616) (hle : x < y) :
    Calls Try.prog 7 #[.int .u64 y, .int .u64 x] w fun e w' => e = .returned (.bool true) ∧ Below w.heap.size w w' := by
  have h10 := enc_len10 hy
  have hmono := enc_mono x y (by omega)
  obtain ⟨_, _, hlast, _⟩ := eg_spec y
  have HX := Lib.hid hx
  have HY := Lib.hid hy
  have HL := Lib.hid hlast
  have HM := Lib.hid hmono
  have HH := Lib.hid h10
  clear hx hy hlast hmono h10
  go_enter Try.func7, Try.ntmps7
  go_wp2_with (fail)
  go_at_call 9; refine (shown_any _).mono ?_; rintro e w1 ⟨rfl, hb1⟩
  go_wp2_with (fail)
  go_at_call 13; refine (put_at x _ HX.out).mono ?_; rintro e w2 ⟨b2, m2, c2, rfl, hm2, _, _, _, _, _, _, _, hb2⟩
  go_wp2_with (fail)
  go_at_call 13; refine (put_at y _ HY.out).mono ?_; rintro e w3 ⟨b3, m3, c3, rfl, hm3, hc31, hc32, hlt3, hge3, hcell3, hfz3, hown3, hb3⟩
  have hle2 : m2 ≤ m3 := by have := HM.out; omega
  have hle3 : m3 + 1 ≤ 10 := by have := HH.out; omega
  have hck := hcell3 m3 (by omega)
  have hne : m3 = 0 ∨ ¬ eg y m3 = 0 := by have := HL.out; rw [hm3] at this; simpa using this
  have HN := Lib.hid hne
  clear hm2 hm3 hcell3 hfz3 hown3 hge3 hne
  by_cases h0 : m3 = 0
  · subst h0
    go_wp2_with (fail)
    go_ret
    exact ⟨rfl, (hb1.trans (hb2.mono hb1.size)).trans (hb3.mono (Nat.le_trans hb1.size hb2.size))⟩
  · have hnz : (((eg y m3 : Nat) : Int) != 0) = true := by have := HN.out; rw [bne_iff_ne]; omega
    have hm1 : (((m3 : Int) + 1) == 1) = false := by simp; omega
    go_wp2_with (fail)
    all_goals go_ret
    all_goals exact ⟨rfl, (hb1.trans (hb2.mono hb1.size)).trans (hb3.mono (Nat.le_trans hb1.size hb2.size))⟩

set_option maxRecDepth 100000 in
set_option maxHeartbeats 1000000 in
theorem orders_e (x : Nat) (w : World) (hx : x < 18446744073709551616) :
    Calls Try.prog 7 #[.int .u64 x, .int .u64 x] w fun e w' => e = .returned (.bool true) ∧ Below w.heap.size w w' := by
  have h10 := enc_len10 hx
  have hmono := enc_mono x x (Nat.le_refl _)
  obtain ⟨_, _, hlast, _⟩ := eg_spec x
  have HX := Lib.hid hx
  have HY := Lib.hid hx
  have HL := Lib.hid hlast
  have HM := Lib.hid hmono
  have HH := Lib.hid h10
  clear hx hlast hmono h10
  go_enter Try.func7, Try.ntmps7
  go_wp2_with (fail)
  go_at_call 9; refine (shown_any _).mono ?_; rintro e w1 ⟨rfl, hb1⟩
  go_wp2_with (fail)
  go_at_call 13; refine (put_at x _ HX.out).mono ?_; rintro e w2 ⟨b2, m2, c2, rfl, hm2, _, _, _, _, _, _, _, hb2⟩
  go_wp2_with (fail)
  go_at_call 13; refine (put_at x _ HY.out).mono ?_; rintro e w3 ⟨b3, m3, c3, rfl, hm3, hc31, hc32, hlt3, hge3, hcell3, hfz3, hown3, hb3⟩
  have hle2 : m2 ≤ m3 := by have := HM.out; omega
  have hle3 : m3 + 1 ≤ 10 := by have := HH.out; omega
  have hck := hcell3 m3 (by omega)
  have hne : m3 = 0 ∨ ¬ eg x m3 = 0 := by have := HL.out; rw [hm3] at this; simpa using this
  have HN := Lib.hid hne
  clear hm2 hm3 hcell3 hfz3 hown3 hge3 hne
  by_cases h0 : m3 = 0
  · subst h0
    go_wp2_with (fail)
    go_ret
    exact ⟨rfl, (hb1.trans (hb2.mono hb1.size)).trans (hb3.mono (Nat.le_trans hb1.size hb2.size))⟩
  · have hnz : (((eg x m3 : Nat) : Int) != 0) = true := by have := HN.out; rw [bne_iff_ne]; omega
    have hm1 : (((m3 : Int) + 1) == 1) = false := by simp; omega
    go_wp2_with (fail)
    all_goals go_ret
    all_goals exact ⟨rfl, (hb1.trans (hb2.mono hb1.size)).trans (hb3.mono (Nat.le_trans hb1.size hb2.size))⟩

theorem orders_any (a b : Nat) (w : World) (ha : a < 18446744073709551616) (hb : b < 18446744073709551616) :
    Calls Try.prog 7 #[.int .u64 a, .int .u64 b] w fun e w' => e = .returned (.bool true) ∧ Below w.heap.size w w' := by
  by_cases e : a = b
  · subst e; exact orders_e a w ha
  · rcases Nat.lt_or_ge b a with h | h
    · exact orders_b b a w hb ha h
    · exact orders_a a b w ha hb (by omega)
end Go.Proofs.Ytnddifenlamhjaa

import Derived.Test.YtkcfcimophjomaaDiskG
namespace Go.Proofs.Ytkcfcimophjomaa
open Go.RowKit
set_option linter.unusedVariables false
set_option linter.unusedSimpArgs false
theorem write_cut_any (w : World) (m : Nat) (bs : List Nat) (x : Int) (k n : Nat) (v : Value) (g : Nat → Nat) (h : IsDisk w m bs false (some x)) (hv : Rd w v n g) (hn : bs.length + n ≤ 100000) (hk : min (max x 0) (n : Int) = (k : Int)) :
    Calls Try.prog 11 #[.pointer (some ⟨m + 1, 0, none⟩), v] w fun e w' => e = .returned (.int .i64 18) ∧ IsDisk w' m (bs ++ fl g k) true none ∧ Below m w w' := by
  obtain ⟨a, c, rfl, _, _⟩ := hv.take
  exact write_cut w m bs x k n c a g h hv hn hk
theorem IsDisk.up {w : World} {m : Nat} {bs : List Nat} {d : Bool} {o : Option Int} (h : IsDisk w m bs d o) : w.cell? ⟨m + 1, 1, none⟩ = some (.bool d) := by
  obtain ⟨_, _, h, _⟩ := h.cells; exact h
theorem bs_256 {bs : List Nat} (h : ∀ x ∈ bs, x < 256) : ∀ i, bs.getD i 0 < 256 := by
  intro i
  rcases Nat.lt_or_ge i bs.length with hi | hi
  · rw [List.getD_eq_getElem?_getD, List.getElem?_eq_getElem hi]; exact h _ (List.getElem_mem hi)
  · rw [List.getD_eq_getElem?_getD, List.getElem?_eq_none hi]; simp
def gab : Nat → Nat := fun i => [97, 98].getD i 0
def gcd' : Nat → Nat := fun i => [99, 100].getD i 0
theorem gab_256 : ∀ i, gab i < 256 := bs_256 (by decide)
theorem gcd_256 : ∀ i, gcd' i < 256 := bs_256 (by decide)
attribute [local go_sem] conv_const
set_option maxHeartbeats 1000000 in
theorem shown_any (w : World) : Calls Try.prog 9 #[] w fun e w' => e = .returned (.bool true) ∧ Below w.heap.size w w' := by
  have hst : ((bstr (fun i => ([] ++ fl gab 2 ++ fl gcd' 1).getD i 0) ([] ++ fl gab 2 ++ fl gcd' 1).length).toList == [97, 98, 99]) = true := by decide +kernel
  go_enter Try.func9, Try.ntmps9
  go_wp2_with (fail)
  go_at_call 10; refine (new_any _).mono ?_; rintro e w1 ⟨rfl, hD1, hb1⟩
  have HD1 := Lib.hid hD1
  clear hD1
  go_wp2_with (fail)
  have hR1 : Rd (w1.alloc (.cells (cells8 [97, 98]).toArray 5 (2, 3))) (.slice (some ⟨w1.heap.size, 0, none⟩) 2 2) 2 gab := litm_rd w1 [97, 98] (2, 3) gab_256 (by decide) (by decide)
  have hc1 : Below w1.heap.size w1 (w1.alloc (.cells (cells8 [97, 98]).toArray 5 (2, 3))) := (Below.refl _ _).alloc (Nat.le_refl _) _
  go_at_call 11; refine (write_ok _ w.heap.size _ _ 2 gab (HD1.out.below hc1) hR1 (by simp)).mono ?_; rintro e w2 ⟨rfl, hD2, hb2⟩
  have HD2 := Lib.hid hD2
  clear hD2 hR1
  have hz2 : Below w.heap.size w w2 := (hb1.trans (hc1.mono hb1.size)).trans hb2
  go_wp2_with (fail)
  go_at_call 12; refine (cut_any _ w.heap.size _ _ 1 HD2.out).mono ?_; rintro e w3 ⟨rfl, hD3, hb3⟩
  have HD3 := Lib.hid hD3
  clear hD3
  go_wp2_with (fail)
  have hR3 : Rd (w3.alloc (.cells (cells8 [99, 100]).toArray 5 (2, 3))) (.slice (some ⟨w3.heap.size, 0, none⟩) 2 2) 2 gcd' := litm_rd w3 [99, 100] (2, 3) gcd_256 (by decide) (by decide)
  have hc3 : Below w3.heap.size w3 (w3.alloc (.cells (cells8 [99, 100]).toArray 5 (2, 3))) := (Below.refl _ _).alloc (Nat.le_refl _) _
  have hz3 := hz2.trans hb3
  go_at_call 11; refine (write_cut_any _ w.heap.size _ 1 1 2 _ gcd' (HD3.out.below hc3) hR3 (by simp [fl_len]) (by decide)).mono ?_; rintro e w4 ⟨rfl, hD4, hb4⟩
  have HD4 := Lib.hid hD4
  clear hD4 hR3
  have hz4 : Below w.heap.size w w4 := (hz3.trans (hc3.mono hz3.size)).trans hb4
  go_wp2_with (fail)
  go_at_call 14; refine (bytes_any _ w.heap.size _ _ _ HD4.out (bs_256 (by decide +kernel)) (by decide +kernel)).mono ?_; rintro e w5 ⟨v5, rfl, hR5, hb5⟩
  have hcv := hR5.conv
  obtain ⟨T, hT⟩ : ∃ T, bstr (fun i => ([] ++ fl gab 2 ++ fl gcd' 1).getD i 0) ([] ++ fl gab 2 ++ fl gcd' 1).length = T := ⟨_, rfl⟩
  rw [hT] at hcv hst
  clear hR5 hT
  go_wp2_with (fail)
  go_at_call 13; refine (up_any _ _ _ (HD4.out.below hb5).up).mono ?_; rintro e w6 ⟨rfl, rfl⟩
  go_wp2_with (fail)
  go_ret
  exact ⟨rfl, hz4.trans (hb5.mono hz4.size)⟩
end Go.Proofs.Ytkcfcimophjomaa

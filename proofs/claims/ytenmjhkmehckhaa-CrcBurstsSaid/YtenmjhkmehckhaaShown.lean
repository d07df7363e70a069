import Derived.Test.YtenmjhkmehckhaaOpn
import Derived.Lib.SlBytesConst
namespace Go.Proofs.Ytenmjhkmehckhaa
open Go.RowKit
set_option linter.unusedVariables false
set_option linter.unusedSimpArgs false
/-- The bytes of what was sealed. -/
def sealL (g : Nat → Nat) (n : Nat) : List Nat := fl g n ++ [q4 (sumN g n) 0, q4 (sumN g n) 1, q4 (sumN g n) 2, q4 (sumN g n) 3]
def sealG (g : Nat → Nat) (n i : Nat) : Nat := (sealL g n).getD i 0
theorem sealL_len (g : Nat → Nat) (n : Nat) : (sealL g n).length = n + 4 := by simp [sealL, fl_len]
theorem sealG_lo (g : Nat → Nat) (n i : Nat) (h : i < n) : sealG g n i = g i := by
  unfold sealG sealL
  rw [List.getD_eq_getElem?_getD, List.getElem?_append_left (by rw [fl_len]; exact h), fl_take g n i h]; rfl
theorem sealG_hi (g : Nat → Nat) (n j : Nat) (h : j < 4) : sealG g n (n + j) = q4 (sumN g n) j := by
  unfold sealG sealL
  rw [List.getD_eq_getElem?_getD, List.getElem?_append_right (by rw [fl_len]; omega), fl_len, Nat.add_sub_cancel_left]
  match j, h with
  | 0, _ => rfl
  | 1, _ => rfl
  | 2, _ => rfl
  | 3, _ => rfl
theorem q4_256 (s i : Nat) : q4 s i < 256 := Nat.mod_lt _ (by omega)
theorem sealG_256 {g : Nat → Nat} (hg : ∀ i, g i < 256) (n i : Nat) : sealG g n i < 256 := by
  rcases Nat.lt_or_ge i n with h | h
  · rw [sealG_lo g n i h]; exact hg i
  · rcases Nat.lt_or_ge i (n + 4) with h4 | h4
    · obtain ⟨j, rfl⟩ : ∃ j, i = n + j := ⟨i - n, by omega⟩
      rw [sealG_hi g n j (by omega)]; exact q4_256 _ _
    · unfold sealG; rw [List.getD_eq_getElem?_getD, List.getElem?_eq_none (by rw [sealL_len]; exact h4)]; simp
theorem sumN_same {g g' : Nat → Nat} (n : Nat) (h : ∀ i, i < n → g i = g' i) : sumN g n = sumN g' n := by unfold sumN; rw [regN_same n h]
theorem sealG_ok (g : Nat → Nat) (n : Nat) : okN (sealG g n) n = true := by
  have e : sumN (sealG g n) n = sumN g n := sumN_same n (fun i hi => sealG_lo g n i hi)
  unfold okN
  rw [e]
  have h0 := sealG_hi g n 0 (by omega)
  have h1 := sealG_hi g n 1 (by omega)
  have h2 := sealG_hi g n 2 (by omega)
  have h3 := sealG_hi g n 3 (by omega)
  rw [Nat.add_zero] at h0
  rw [h0, h1, h2, h3]
  simp [eq4]
theorem seal_rd {v : Value} {n : Nat} {g : Nat → Nat} {w : World} (h : Rd w v n g) (hn : n ≤ 80000) :
    Calls Try.prog 17 #[v] w fun e w' => ∃ v', e = .returned v' ∧ Rd w' v' (n + 4) (sealG g n) ∧ Below w.heap.size w w' := by
  refine (seal_any h (by omega)).mono ?_
  rintro e w' ⟨v', rfl, hown, hb⟩
  refine ⟨v', rfl, ?_, hb⟩
  have h1 := Rd.of_own (w := w') (B := w.heap.size) (v := v') (xs := sealL g n) (by rw [sealL_len]; exact hown) (fun i => sealG_256 h.1 n i)
  rwa [sealL_len] at h1
/-- What was sealed is opened. -/
theorem open_sealed {v : Value} {n : Nat} {g : Nat → Nat} {w : World} (h : Rd w v (n + 4) (sealG g n)) (hg : ∀ i, g i < 256) (hn : n ≤ 80000) :
    Calls Try.prog 11 #[v] w fun e w' => ∃ v', e = .returned (.tuple #[v', .bool true]) ∧ Rd w' v' n g ∧ Below w.heap.size w w' := by
  refine (open_any h (by omega)).mono ?_
  rintro e w' ⟨v', rfl, hR, hb⟩
  have e1 : (decide (4 ≤ n + 4) && okN (sealG g n) (n + 4 - 4)) = true := by simp [sealG_ok]
  rw [e1] at hR ⊢
  refine ⟨v', rfl, ?_, hb⟩
  simp only [if_true, Nat.add_sub_cancel] at hR
  exact hR.same hg (fun i hi => sealG_lo g n i hi)

def gx : Nat → Nat := fun i => [120].getD i 0
def g9 : Nat → Nat := fun i => [49, 50, 51, 52, 53, 54, 55, 56, 57].getD i 0
theorem gx_256 : ∀ i, gx i < 256 := by intro i; match i with | 0 => decide | i + 1 => simp [gx]
theorem g9_256 : ∀ i, g9 i < 256 := by
  intro i
  match i with
  | 0 => decide | 1 => decide | 2 => decide | 3 => decide | 4 => decide | 5 => decide | 6 => decide | 7 => decide | 8 => decide
  | i + 9 => simp [g9]
theorem sum9 : sumN g9 9 = 3421780262 := by decide +kernel
theorem sum0 (g : Nat → Nat) : sumN g 0 = 0 := by unfold sumN regN; decide
theorem conv_const (w : World) (C : Array Value) (n c : Nat) : (convert 22 22 (.slice (some ⟨w.heap.size, 0, none⟩) n c)).run Try.prog (w.alloc (.cells C 5)) = .ok (.slice (some ⟨w.heap.size, 0, none⟩) n c) (w.alloc (.cells C 5 (C.size, C.size + 1))) :=
  Lib.run_convert_bytes_const w 22 5 C n c Try.underlying22 Try.underlying5
theorem conv_const0 (w : World) (C : Array Value) (n c N : Nat) (hN : C.size = N) : (convert 22 22 (.slice (some ⟨w.heap.size, 0, none⟩) n c)).run Try.prog (w.alloc (.cells C 5)) = .ok (.slice (some ⟨w.heap.size, 0, none⟩) n c) (w.alloc (.cells C 5 (N, N + 1))) := by
  rw [conv_const, hN]
theorem litm_rd (w : World) (l : List Nat) (z : Nat × Nat) (hl : ∀ i, l.getD i 0 < 256) (h0 : 0 < l.length) (h1 : l.length ≤ 9223372036854775807) :
    Rd (w.alloc (.cells (cells8 l).toArray 5 z)) (.slice (some ⟨w.heap.size, 0, none⟩) l.length l.length) l.length (fun i => l.getD i 0) := by
  refine ⟨hl, .inr ⟨h0, w.heap.size, 0, l.length, rfl, Nat.le_refl _, h1, by simp, fun i hi => ?_⟩⟩
  rw [cell_of_row _ w.heap.size (0 + i) _ 5 z (heap_alloc_new w _), Nat.zero_add]
  unfold cells8
  simp [List.getElem?_map, List.getElem?_eq_getElem hi]
attribute [local go_sem] conv_const
set_option maxHeartbeats 400000 in
theorem shown_any (w : World) : Calls Try.prog 9 #[] w fun e w' => e = .returned (.bool true) ∧ Below w.heap.size w w' := by
  have hst : ((bstr gx 1).toList == [120]) = true := by decide +kernel
  go_enter Try.func9, Try.ntmps9
  go_wp2_with (fail)
  have hR : Rd (w.alloc (.cells (cells8 [120]).toArray 5 (1, 2))) (.slice (some ⟨w.heap.size, 0, none⟩) 1 1) 1 gx := litm_rd w [120] (1, 2) gx_256 (by decide) (by decide)
  have hb0 : Below w.heap.size w (w.alloc (.cells (cells8 [120]).toArray 5 (1, 2))) := (Below.refl _ _).alloc (Nat.le_refl _) _
  go_at_call 17; refine (seal_rd hR (by omega)).mono ?_; rintro e w1 ⟨v1, rfl, hR1, hb1⟩
  clear hR
  have HR1 := Lib.hid hR1
  clear hR1
  go_wp2_with (fail)
  go_at_call 11; refine (open_sealed (n := 1) HR1.out gx_256 (by omega)).mono ?_; rintro e w2 ⟨v2, rfl, hR2, hb2⟩
  have hcv : (convert 22 9 v2).run Try.prog (w2.alloc (.cells (cells8 [49, 50, 51, 52, 53, 54, 55, 56, 57]).toArray 5 (9, 10))) = .ok (.string (bstr gx 1)) (w2.alloc (.cells (cells8 [49, 50, 51, 52, 53, 54, 55, 56, 57]).toArray 5 (9, 10))) := (hR2.below ((Below.refl _ _).alloc (Nat.le_refl _) _)).conv
  have HR2 := Lib.hid hR2
  clear hR2
  have hRn : Rd w2 (.slice none 0 0) 0 gx := ⟨gx_256, .inl ⟨rfl, none, 0, rfl, by omega⟩⟩
  have HRn := Lib.hid hRn
  clear hRn
  go_wp2_with (fail)
  go_at_call 13; refine (sum_any HRn.out).mono ?_; rintro e w3 ⟨rfl, rfl⟩
  rw [sum0]
  have hR9 : Rd (w2.alloc (.cells (cells8 [49, 50, 51, 52, 53, 54, 55, 56, 57]).toArray 5 (9, 10))) (.slice (some ⟨w2.heap.size, 0, none⟩) 9 9) 9 g9 := litm_rd w2 [49, 50, 51, 52, 53, 54, 55, 56, 57] (9, 10) g9_256 (by decide) (by decide)
  have HR9 := Lib.hid hR9
  clear hR9
  go_wp2_with (fail)
  go_at_call 13; refine (sum_any HR9.out).mono ?_; rintro e w3 ⟨rfl, rfl⟩
  rw [sum9]
  go_wp2_with (fail)
  go_ret
  exact ⟨rfl, (((hb0.trans (hb1.mono hb0.size)).trans (hb2.mono (Nat.le_trans hb0.size hb1.size))).alloc (Nat.le_trans (Nat.le_trans hb0.size hb1.size) hb2.size) _)⟩
theorem few_at (a : Option Addr) (n c : Nat) (w : World) (h : n ≤ c) (hc : c ≤ 9223372036854775807) : Calls Try.prog 10 #[.slice a n c] w fun e w' => e = .returned (.slice a (min n 300) c) ∧ w = w' := by
  by_cases h20 : 300 < n
  · go_enter Try.func10, Try.ntmps10
    go_wp2
    go_ret
    exact ⟨by rw [show min n 300 = 300 by omega]; rfl, rfl⟩
  · go_enter Try.func10, Try.ntmps10
    go_wp2
    go_ret
    exact ⟨by rw [show min n 300 = n by omega]; rfl, rfl⟩
end Go.Proofs.Ytenmjhkmehckhaa

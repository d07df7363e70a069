import Derived.Test.YtenmjhkmehckhaaSeal
namespace Go.Proofs.Ytenmjhkmehckhaa
open Go.RowKit
set_option linter.unusedVariables false
set_option linter.unusedSimpArgs false
attribute [local go_sem] eqNone eqSome
/-- A callee's contract, met in a world of the class. -/
theorem wb_of {P : Program} {f : FuncId} {args : Array Value} {w : World} {u : WB w.heap.size w} {v : Value}
    (h : Calls P f args u.w fun e w' => e = .returned v ∧ Below u.w.heap.size u.w w') : Calls P f args u.w fun e w'' => e = .returned v ∧ ∃ u' : WB w.heap.size w, w'' = u'.w :=
  h.mono fun _ w' ⟨he, hb⟩ => ⟨he, ⟨w', u.2.trans (hb.mono u.2.size)⟩, rfl⟩
theorem wb_pure {P : Program} {f : FuncId} {args : Array Value} {w : World} {u : WB w.heap.size w} {v : Value}
    (h : Calls P f args u.w fun e w' => e = .returned v ∧ u.w = w') : Calls P f args u.w fun e w'' => e = .returned v ∧ ∃ u' : WB w.heap.size w, w'' = u'.w :=
  h.mono fun _ w' ⟨he, hb⟩ => ⟨he, u, hb.symm⟩
theorem info5s : (Try.prog.info? 5).isSome = true := by kernel_rfl
theorem cellsOf5 : Try.prog.cellsOf 5 = 1 := by kernel_rfl
theorem under37 : Try.prog.underlying 37 = some (.array 4 5) := by kernel_rfl
theorem run_item (w : World) (xs ys : Array Value) (i : Nat) (a b : Int) (is : List Nat) (hx : xs[i]? = some (.int .u8 a)) (hy : ys[i]? = some (.int .u8 b)) :
    (Op.eqItems 9999 5 1 xs ys (i :: is)).run Try.prog w = if a = b then (Op.eqItems 9999 5 1 xs ys is).run Try.prog w else .ok false w := by
  have px : (part 5 xs (i * 1)).run Try.prog w = .ok (.int .u8 a) w := by simp [part, isAgg, run_underlying Try.underlying5, hx]
  have py : (part 5 ys (i * 1)).run Try.prog w = .ok (.int .u8 b) w := by simp [part, isAgg, run_underlying Try.underlying5, hy]
  simp only [Op.eqItems, Sem.run_bind, px, py, Result.andThen_ok, run_equalIn_int w 9998 5 .u8 .u8 a b Try.underlying5]
  by_cases h : a = b
  · subst h; simp
  · simp [h]
def eq4 (a0 a1 a2 a3 b0 b1 b2 b3 : Int) : Bool := decide (a0 = b0 ∧ a1 = b1 ∧ a2 = b2 ∧ a3 = b3)
abbrev C4 (a0 a1 a2 a3 : Int) : Array Value := #[.int .u8 a0, .int .u8 a1, .int .u8 a2, .int .u8 a3]
theorem run_eq_c4 (w : World) (a0 a1 a2 a3 b0 b1 b2 b3 : Int) :
    (Op.equalIn 10000 37 (.agg (C4 a0 a1 a2 a3)) (.agg (C4 b0 b1 b2 b3))).run Try.prog w = .ok (eq4 a0 a1 a2 a3 b0 b1 b2 b3) w := by
  obtain ⟨i, hi⟩ := Option.isSome_iff_exists.1 info5s
  rw [run_equalIn_array w 9999 _ _ under37 hi, cellsOf5, show List.range 4 = [0, 1, 2, 3] from rfl]
  rw [run_item w _ _ 0 a0 b0 _ rfl rfl, run_item w _ _ 1 a1 b1 _ rfl rfl, run_item w _ _ 2 a2 b2 _ rfl rfl, run_item w _ _ 3 a3 b3 _ rfl rfl]
  simp only [Op.eqItems, Sem.run_pure, eq4]
  by_cases h0 : a0 = b0
  · by_cases h1 : a1 = b1
    · by_cases h2 : a2 = b2
      · by_cases h3 : a3 = b3 <;> simp [h0, h1, h2, h3]
      · simp [h0, h1, h2]
    · simp [h0, h1]
  · simp [h0]
attribute [local go_sem] run_eq_c4

theorem at37 (a : Option Addr) (c : Nat) (w : World) : (Instr.arrayAt 37 (.slice a 4 c)).run Try.prog w = .ok (.pointer a) w := run_arrayAt w 37 5 4 a 4 c under37 (by omega)
attribute [local go_sem] at37
theorem open_short (a : Option Addr) (n c : Nat) (w : World) (hn : n < 4) :
    Calls Try.prog 11 #[.slice a n c] w fun e w' => e = .returned (.tuple #[.slice none 0 0, .bool false]) ∧ Below w.heap.size w w' := by
  have q1 : ((n : Int) - 4 < 0) := by omega
  go_enter Try.func11, Try.ntmps11
  go_wp2
  refine wp_region_wb2 (by kernel_rfl) (by kernel_rfl) ?_
  repeat (go_big_quiet_step (fail))
  refine wpQuiet_nil ?_; intro w' hb
  go_wp2
  go_ret2
  exact ⟨rfl, hb⟩
/-- What the last four bytes must be. -/
def okN (g : Nat → Nat) (m : Nat) : Bool := eq4 (q4 (sumN g m) 0 : Nat) (q4 (sumN g m) 1 : Nat) (q4 (sumN g m) 2 : Nat) (q4 (sumN g m) 3 : Nat) (g m : Nat) (g (m + 1) : Nat) (g (m + 2) : Nat) (g (m + 3) : Nat)
theorem open_no (b off m c : Nat) (g : Nat → Nat) (w : World) (h : Rd w (.slice (some ⟨b, off, none⟩) (m + 4) c) (m + 4) g) (hm : m ≤ 90000) (hok : okN g m = false) :
    Calls Try.prog 11 #[.slice (some ⟨b, off, none⟩) (m + 4) c] w fun e w' => e = .returned (.tuple #[.slice none 0 0, .bool false]) ∧ Below w.heap.size w w' := by
  obtain ⟨hc, hmx⟩ : m + 4 ≤ c ∧ c ≤ 9223372036854775807 := by
    obtain ⟨a', c', he, hc, hmx⟩ := h.take
    injection he with e1 e2 e3
    subst e3
    exact ⟨hc, hmx⟩
  have q1 : decide ((m : Int) < 0) = false := by rw [decide_eq_false_iff_not]; omega
  have q2 : m ≤ c := by omega
  have hl := sumN_lt h.1 m
  have HL := Lib.hid hl
  have H := Lib.hid h
  unfold okN at hok
  have hcell : ∀ i, i < m + 4 → w.cell? ⟨b, off + i, none⟩ = some (.int .u8 (g i : Nat)) := by
    obtain ⟨_, ⟨h0, _⟩ | ⟨h2, b', off', c', h3, h4, h5, h6, h7⟩⟩ := h
    · omega
    · injection h3 with f1 f2 f3
      injection f1 with f1
      injection f1 with f1 f2
      subst f1; subst f2
      exact h7
  have hbw : b < w.heap.size := block_lt_of_cell (hcell 0 (by omega))
  have r0 : ∀ u : WB w.heap.size w, u.w.cell? ⟨b, off + m, none⟩ = some (.int .u8 (g m : Nat)) := fun u => (u.2.cell (p := ⟨b, off + m, none⟩) hbw).trans (hcell m (by omega))
  have r1 : ∀ u : WB w.heap.size w, u.w.cell? ⟨b, off + m + 1, none⟩ = some (.int .u8 (g (m + 1) : Nat)) := fun u => (u.2.cell (p := ⟨b, off + m + 1, none⟩) hbw).trans (by rw [Nat.add_assoc]; exact hcell (m + 1) (by omega))
  have r2 : ∀ u : WB w.heap.size w, u.w.cell? ⟨b, off + m + 2, none⟩ = some (.int .u8 (g (m + 2) : Nat)) := fun u => (u.2.cell (p := ⟨b, off + m + 2, none⟩) hbw).trans (by rw [Nat.add_assoc]; exact hcell (m + 2) (by omega))
  have r3 : ∀ u : WB w.heap.size w, u.w.cell? ⟨b, off + m + 3, none⟩ = some (.int .u8 (g (m + 3) : Nat)) := fun u => (u.2.cell (p := ⟨b, off + m + 3, none⟩) hbw).trans (by rw [Nat.add_assoc]; exact hcell (m + 3) (by omega))
  have HS : Hid (∀ u : WB w.heap.size w, Rd u.w (.slice (some ⟨b, off, none⟩) m c) m g) := Lib.hid fun u => (h.below u.2).cut (by omega)
  clear h hcell hl
  go_enter Try.func11, Try.ntmps11
  go_wp2
  refine wp_region_wb2 (by kernel_rfl) (by kernel_rfl) ?_
  repeat (go_big_quiet_step ((first | (go_at_call 13; exact wb_pure (sum_any (HS.out _))) | (go_at_call 19; exact wb_of (four_any _ _ HL.out)))))
  refine wpQuiet_nil ?_; intro w' hb
  go_wp2
  go_ret2
  exact ⟨rfl, hb⟩
theorem open_yes (b off m c : Nat) (g : Nat → Nat) (w : World) (h : Rd w (.slice (some ⟨b, off, none⟩) (m + 4) c) (m + 4) g) (hm : m ≤ 90000) (hok : okN g m = true) :
    Calls Try.prog 11 #[.slice (some ⟨b, off, none⟩) (m + 4) c] w fun e w' => ∃ v', e = .returned (.tuple #[v', .bool true]) ∧ Rd w' v' m g ∧ Below w.heap.size w w' := by
  obtain ⟨hc, hmx⟩ : m + 4 ≤ c ∧ c ≤ 9223372036854775807 := by
    obtain ⟨a', c', he, hc, hmx⟩ := h.take
    injection he with e1 e2 e3
    subst e3
    exact ⟨hc, hmx⟩
  have q1 : decide ((m : Int) < 0) = false := by rw [decide_eq_false_iff_not]; omega
  have q2 : m ≤ c := by omega
  have hl := sumN_lt h.1 m
  have HL := Lib.hid hl
  have H := Lib.hid h
  unfold okN at hok
  have hcell : ∀ i, i < m + 4 → w.cell? ⟨b, off + i, none⟩ = some (.int .u8 (g i : Nat)) := by
    obtain ⟨_, ⟨h0, _⟩ | ⟨h2, b', off', c', h3, h4, h5, h6, h7⟩⟩ := h
    · omega
    · injection h3 with f1 f2 f3
      injection f1 with f1
      injection f1 with f1 f2
      subst f1; subst f2
      exact h7
  have hbw : b < w.heap.size := block_lt_of_cell (hcell 0 (by omega))
  have r0 : ∀ u : WB w.heap.size w, u.w.cell? ⟨b, off + m, none⟩ = some (.int .u8 (g m : Nat)) := fun u => (u.2.cell (p := ⟨b, off + m, none⟩) hbw).trans (hcell m (by omega))
  have r1 : ∀ u : WB w.heap.size w, u.w.cell? ⟨b, off + m + 1, none⟩ = some (.int .u8 (g (m + 1) : Nat)) := fun u => (u.2.cell (p := ⟨b, off + m + 1, none⟩) hbw).trans (by rw [Nat.add_assoc]; exact hcell (m + 1) (by omega))
  have r2 : ∀ u : WB w.heap.size w, u.w.cell? ⟨b, off + m + 2, none⟩ = some (.int .u8 (g (m + 2) : Nat)) := fun u => (u.2.cell (p := ⟨b, off + m + 2, none⟩) hbw).trans (by rw [Nat.add_assoc]; exact hcell (m + 2) (by omega))
  have r3 : ∀ u : WB w.heap.size w, u.w.cell? ⟨b, off + m + 3, none⟩ = some (.int .u8 (g (m + 3) : Nat)) := fun u => (u.2.cell (p := ⟨b, off + m + 3, none⟩) hbw).trans (by rw [Nat.add_assoc]; exact hcell (m + 3) (by omega))
  have HS : Hid (∀ u : WB w.heap.size w, Rd u.w (.slice (some ⟨b, off, none⟩) m c) m g) := Lib.hid fun u => (h.below u.2).cut (by omega)
  clear h hcell hl
  go_enter Try.func11, Try.ntmps11
  go_wp2
  refine wp_region_wb2 (by kernel_rfl) (by kernel_rfl) ?_
  repeat (go_big_quiet_step ((first | (go_at_call 13; exact wb_pure (sum_any (HS.out _))) | (go_at_call 19; exact wb_of (four_any _ _ HL.out)))))
  refine wpQuiet_nil ?_; intro w' hb
  have hRw := Lib.hid (HS.out ⟨w', hb⟩)
  clear r0 r1 r2 r3
  go_wp2_with (fail)
  go_at_call 20; refine (clone_any hRw.out (by omega)).mono ?_; rintro e w2 ⟨v2, rfl, hR2, hb2⟩
  go_wp2_with (fail)
  go_ret2
  exact ⟨v2, rfl, hR2, hb.trans (hb2.mono hb.size)⟩
/-- Open, whatever the bytes are. -/
theorem open_any {v : Value} {n : Nat} {g : Nat → Nat} {w : World} (h : Rd w v n g) (hn : n ≤ 90000) :
    Calls Try.prog 11 #[v] w fun e w' => ∃ v', e = .returned (.tuple #[v', .bool (decide (4 ≤ n) && okN g (n - 4))]) ∧ Rd w' v' (if (decide (4 ≤ n) && okN g (n - 4)) = true then n - 4 else 0) g ∧ Below w.heap.size w w' := by
  have hnil : ∀ w', Rd w' (.slice none 0 0) 0 g := fun w' => ⟨h.1, .inl ⟨rfl, none, 0, rfl, by omega⟩⟩
  by_cases h4 : 4 ≤ n
  · obtain ⟨m, rfl⟩ : ∃ m, n = m + 4 := ⟨n - 4, by omega⟩
    obtain ⟨_, ⟨h0, _⟩ | ⟨h2, b, off, c, rfl, h5⟩⟩ := id h
    · omega
    · cases hok : okN g m with
      | false =>
        refine (open_no b off m c g w h (by omega) hok).mono ?_
        rintro e w' ⟨rfl, hb⟩
        exact ⟨.slice none 0 0, by simp [hok], by simpa [hok] using hnil w', hb⟩
      | true =>
        refine (open_yes b off m c g w h (by omega) hok).mono ?_
        rintro e w' ⟨v', rfl, hR, hb⟩
        exact ⟨v', by simp [hok], by simpa [hok] using hR, hb⟩
  · obtain ⟨a, c, rfl, _, _⟩ := h.take
    refine (open_short a n c w (by omega)).mono ?_
    rintro e w' ⟨rfl, hb⟩
    exact ⟨.slice none 0 0, by simp [h4], by simpa [h4] using hnil w', hb⟩
end Go.Proofs.Ytenmjhkmehckhaa

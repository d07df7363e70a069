import Derived.Test.YtenmjhkmehckhaaShown
namespace Go.Proofs.Ytenmjhkmehckhaa
open Go.RowKit
set_option linter.unusedVariables false
set_option linter.unusedSimpArgs false
/-- Two rows, one behind the other. -/
def catG (g1 : Nat → Nat) (n1 : Nat) (g2 : Nat → Nat) (i : Nat) : Nat := if i < n1 then g1 i else g2 (i - n1)
theorem catG_256 {g1 g2 : Nat → Nat} (h1 : ∀ i, g1 i < 256) (h2 : ∀ i, g2 i < 256) (n1 : Nat) : ∀ i, catG g1 n1 g2 i < 256 := by
  intro i; unfold catG; split
  · exact h1 i
  · exact h2 _
theorem fl_cat (g1 g2 : Nat → Nat) (n1 n2 : Nat) : fl g1 n1 ++ fl g2 n2 = fl (catG g1 n1 g2) (n1 + n2) := by
  apply List.ext_getElem?
  intro i
  rcases Nat.lt_or_ge i n1 with h | h
  · rw [List.getElem?_append_left (by rw [fl_len]; exact h), fl_take _ _ _ h, fl_take _ _ _ (by omega)]; unfold catG; rw [if_pos h]
  · rw [List.getElem?_append_right (by rw [fl_len]; exact h), fl_len]
    rcases Nat.lt_or_ge i (n1 + n2) with h2 | h2
    · rw [fl_take _ _ _ (by omega), fl_take _ _ _ h2]; unfold catG; rw [if_neg (by omega)]
    · rw [List.getElem?_eq_none (by rw [fl_len]; omega), List.getElem?_eq_none (by rw [fl_len]; omega)]
theorem Rd.of_fl {w : World} {B : Nat} {v : Value} {n : Nat} {g : Nat → Nat} (h : w.ownsRow B 5 1 v n (cells8 (fl g n))) (hg : ∀ i, g i < 256) : Rd w v n g := by
  have h0 : (fl g n).length = n := fl_len g n
  have h1 := Rd.of_own (w := w) (B := B) (v := v) (xs := fl g n) (by rw [h0]; exact h) (fun i => by
    rcases Nat.lt_or_ge i n with hi | hi
    · rw [fl_get g n i hi]; exact hg i
    · rw [List.getD_eq_getElem?_getD, List.getElem?_eq_none (by rw [h0]; exact hi)]; simp)
  rw [h0] at h1
  exact h1.same hg (fun i hi => fl_get g n i hi)
theorem wpList_append_rdg {ops : Array Oper} {rest : List Oper} {o : Oper} {a : Act} {Q : Exit → Act → World → Prop} (w : World) (hgd : Region.wanted o (yielded ops a.tmps) = true) (s x : Operand)
    (ho : o.op = .call { callee := .builtin .append, args := #[s, x], argTypes := #[22, 22] })
    (base : Nat) (v : Value) (n : Nat) (xs : List Nat) (hs : a.eval s = v) (hown : w.ownsRow base 5 1 v n (cells8 xs)) (vx : Value) (m : Nat) (g : Nat → Nat) (hx : a.eval x = vx) (hr : Rd w vx m g)
    (h63 : n + m ≤ 100000) (hbase : base ≤ w.heap.size)
    (h : ∀ v' w', w'.ownsRow base 5 1 v' (n + m) (cells8 (xs ++ fl g m)) → w.grownBy w' v.ownBlock → wpList Try.prog ops Q rest (a.put o.dst v') w') : wpList Try.prog ops Q (o :: rest) a w := by
  refine BigFrame.wpList_want hgd fun _ hK => ?_
  obtain ⟨v', w', hrun, h2, h3⟩ := append_rd w base v n xs hown vx m g hr h63 hbase o.type
  unfold Oper.wp execOp
  simp only [ho, resolve, invoke, builtin, Sem.run_bind, Sem.run_pure, Result.andThen_ok, List.map_toArray, List.map_cons, List.map_nil, hs, hx, hrun]
  exact hK _ _ (h v' w' h2 h3)

theorem xor_max (x : Nat) (h : x < 4294967296) : bits .xor .u32 IntKind.u32.max (x : Int) = ((x ^^^ 4294967295 : Nat) : Int) := by
  have := u32_xor_nat 4294967295 x (by omega) h
  rw [Nat.xor_comm] at this
  exact this
theorem Rd.at {w : World} {a : Option Addr} {n c : Nat} {g : Nat → Nat} (h : Rd w (.slice a n c) n g) (h0 : 0 < n) : ∃ b off, a = some ⟨b, off, none⟩ ∧ ∀ i, i < n → w.cell? ⟨b, off + i, none⟩ = some (.int .u8 (g i : Nat)) := by
  obtain ⟨_, ⟨h1, _⟩ | ⟨h2, b, off, c', h3, h4, h5, h6, h7⟩⟩ := h
  · omega
  · injection h3 with e1 e2 e3
    exact ⟨b, off, e1, h7⟩
set_option maxHeartbeats 1000000 in
theorem parts_any (v1 v2 : Value) (l1 l2 : Nat) (g1 g2 : Nat → Nat) (w : World) (hv1 : Rd w v1 l1 g1) (hv2 : Rd w v2 l2 g2) :
    Calls Try.prog 4 #[v1, v2] w fun e w' => e = .returned (.bool true) ∧ Below w.heap.size w w' := by
  obtain ⟨a1, c1, rfl, hc11, hc12⟩ := hv1.take
  obtain ⟨a2, c2, rfl, hc21, hc22⟩ := hv2.take
  have HR1 := Lib.hid hv1
  have HR2 := Lib.hid hv2
  clear hv1 hv2
  obtain ⟨N1, hN1⟩ : ∃ N, min l1 300 = N := ⟨_, rfl⟩
  obtain ⟨N2, hN2⟩ : ∃ N, min l2 300 = N := ⟨_, rfl⟩
  have F1 := fun w => Lib.hid (few_at a1 l1 c1 w hc11 hc12)
  have F2 := fun w => Lib.hid (few_at a2 l2 c2 w hc21 hc22)
  rw [hN1] at F1
  rw [hN2] at F2
  have hn1 : N1 ≤ 300 := by omega
  have hn2 : N2 ≤ 300 := by omega
  have hm1 : N1 ≤ c1 := by omega
  have hm2 : N2 ≤ c2 := by omega
  have hl1 : N1 ≤ l1 := by omega
  have hl2 : N2 ≤ l2 := by omega
  clear hN1 hN2
  go_enter Try.func4, Try.ntmps4
  go_wp2_with (fail)
  go_at_call 9; refine (shown_any _).mono ?_; rintro e w1 ⟨rfl, hb1⟩
  go_wp2_with (fail)
  go_at_call 10; refine (F1 _).out.mono ?_; rintro e w9 ⟨rfl, rfl⟩
  go_wp2_with (fail)
  go_at_call 10; refine (F2 _).out.mono ?_; rintro e w9 ⟨rfl, rfl⟩
  have HS1 := Lib.hid ((HR1.out.below hb1).cut hl1)
  have HS2 := Lib.hid ((HR2.out.below hb1).cut hl2)
  go_wp2_with (fail)
  go_at_call 13; refine (sum_any HS1.out).mono ?_; rintro e w9 ⟨rfl, rfl⟩
  go_wp2_with (fail)
  have hG := catG_256 HR1.out.1 HR2.out.1 N1
  have hx0 : bits .xor .u32 IntKind.u32.max ((sumN g1 N1 : Nat) : Int) = ((regN (catG g1 N1 g2) (N1 + 0) : Nat) : Int) := by
    rw [xor_max _ (sumN_lt HR1.out.1 N1), Nat.add_zero]
    congr 1
    unfold sumN
    rw [Nat.xor_assoc, Nat.xor_self, Nat.xor_zero]
    exact regN_same N1 (fun i hi => by unfold catG; rw [if_pos hi])
  have hxE : bits .xor .u32 IntKind.u32.max ((regN (catG g1 N1 g2) (N1 + N2) : Nat) : Int) = ((sumN (catG g1 N1 g2) (N1 + N2) : Nat) : Int) := xor_max _ (regN_lt hG _)
  have HG := Lib.hid hG
  have HX0 := Lib.hid hx0
  have HXE := Lib.hid hxE
  clear hG hx0 hxE
  have own0 := own_empty w1 5
  have HR5 := Lib.hid (HS1.out.below ((Below.refl w1.heap.size w1).alloc (Nat.le_refl _) (.cells #[] 5)))
  go_loop [8, 9] (fun s i => ∃ k : Nat, k ≤ N2 ∧ s = .int .u32 (regN (catG g1 N1 g2) (N1 + k) : Nat) ∧ i = .int .i64 k) (fun _ i => N2 - (intOf i).toNat)
  case atStart => exact ⟨0, by omega, by rw [HX0.out], rfl⟩
  case round =>
    obtain ⟨k, hk, rfl, rfl⟩ := hrel
    by_cases hlt : k < N2
    · obtain ⟨b, off, rfl, hcell⟩ := HS2.out.at (by omega)
      have hck := hcell k hlt
      have HL := Lib.hid (regN_lt HG.out (N1 + k))
      have HK := Lib.hid (HR2.out.1 k)
      have HN : Hid (stepN (regN (catG g1 N1 g2) (N1 + k)) (g2 k) = regN (catG g1 N1 g2) (N1 + (k + 1))) := Lib.hid (by
        rw [← Nat.add_assoc, regN]
        congr 1
        unfold catG; rw [if_neg (by omega), Nat.add_sub_cancel_left])
      clear hcell
      go_wp2_with (fail)
      go_at_call 15; refine (step_any _ _ _ HL.out HK.out).mono ?_; rintro e w9 ⟨rfl, rfl⟩
      go_wp2_with (fail)
      go_round
      case rel => exact ⟨k + 1, by omega, by rw [HN.out], by go_num⟩
      case measure => simp [intOf]; omega
    · obtain rfl : k = N2 := by omega
      go_wp2_with ((at_builtin; apply Classical.byContradiction; intro hstop))
      apply hstop; clear hstop
      refine wpList_append_rdg _ (by rfl) (.tmp 34) (.tmp 35) rfl w1.heap.size _ 0 [] rfl own0 _ N1 g1 rfl HR5.out (by omega) (by simp) ?_; intro v3 w3 hown3 hgr3
      have hB3 : Below w1.heap.size w1 w3 := ((Below.refl _ _).alloc (Nat.le_refl _) _).grown hgr3 (by simp) (fun j hj => (own0.lt j hj).1)
      have hR6 := HS2.out.below hB3
      go_wp2_with ((at_builtin; apply Classical.byContradiction; intro hstop))
      apply hstop; clear hstop
      refine wpList_append_rdg _ (by rfl) (.tmp 36) (.tmp 37) rfl w1.heap.size _ _ _ rfl hown3 _ _ g2 rfl hR6 (by omega) hB3.size ?_; intro v4 w4 hown4 hgr4
      have hB4 : Below w1.heap.size w1 w4 := hB3.grown hgr4 hB3.size (fun j hj => (hown3.lt j hj).1)
      have HR7 : Hid (Rd w4 v4 (N1 + k) (catG g1 N1 g2)) := Lib.hid (Rd.of_fl (B := w1.heap.size) (by rw [List.nil_append, fl_cat, Nat.zero_add] at hown4; exact hown4) HG.out)
      clear hown4 hgr4 hown3 hgr3 hR6
      go_wp2_with (fail)
      go_at_call 13; refine (sum_any HR7.out).mono ?_; rintro e w9 ⟨rfl, rfl⟩
      have hxE := HXE.out
      go_wp2_with (fail)
      go_ret
      exact ⟨rfl, hb1.trans (hB4.mono hb1.size)⟩
end Go.Proofs.Ytenmjhkmehckhaa

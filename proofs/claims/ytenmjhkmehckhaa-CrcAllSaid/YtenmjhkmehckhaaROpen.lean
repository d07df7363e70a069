import Derived.Test.YtenmjhkmehckhaaRSeal
namespace Go.Proofs.Ytenmjhkmehckhaa
open Go.RowKit
set_option linter.unusedVariables false
set_option linter.unusedSimpArgs false
attribute [local go_sem] eqNone eqSome
theorem ropen_short (a : Option Addr) (n c : Nat) (w : World) (hn : n < 4) :
    Calls Try.prog 12 #[.slice a n c] w fun e w' => e = .returned (.tuple #[.slice none 0 0, .bool false]) ∧ Below w.heap.size w w' := by
  have q1 : ((n : Int) - 4 < 0) := by omega
  go_enter Try.func12, Try.ntmps12
  go_wp2
  refine wp_region_wb2 (by kernel_rfl) (by kernel_rfl) ?_
  repeat (go_big_quiet_step (fail))
  refine wpQuiet_nil ?_; intro w' hb
  go_wp2
  go_ret2
  exact ⟨rfl, hb⟩
theorem seal_cmp (g : Nat → Nat) (hg : ∀ i, g i < 256) (m : Nat) : ((bstr (sealG g m) (m + 4)).toList == (bstr g (m + 4)).toList) = okN g m := by
  rw [bstr_eq (sealG_256 hg m) hg, Bool.eq_iff_iff, decide_eq_true_iff]
  have hlist : fl (sealG g m) (m + 4) = fl g (m + 4) ↔ ∀ i, i < m + 4 → sealG g m i = g i := by
    constructor
    · intro h i hi
      have h1 := fl_take (sealG g m) (m + 4) i hi
      rw [h, fl_take g (m + 4) i hi] at h1
      exact (Option.some.inj h1).symm
    · intro h
      unfold fl
      exact List.map_congr_left fun i hi => h i (List.mem_range.1 hi)
  rw [hlist]
  have hz := sealG_hi g m 0 (by omega)
  rw [Nat.add_zero] at hz
  unfold okN eq4
  rw [decide_eq_true_iff]
  constructor
  · intro h
    have h0 := h m (by omega)
    have h1 := h (m + 1) (by omega)
    have h2 := h (m + 2) (by omega)
    have h3 := h (m + 3) (by omega)
    rw [hz] at h0
    rw [sealG_hi g m 1 (by omega)] at h1
    rw [sealG_hi g m 2 (by omega)] at h2
    rw [sealG_hi g m 3 (by omega)] at h3
    rw [h0, h1, h2, h3]
    exact ⟨rfl, rfl, rfl, rfl⟩
  · rintro ⟨h0, h1, h2, h3⟩ i hi
    rcases Nat.lt_or_ge i m with hl | hl
    · exact sealG_lo g m i hl
    · obtain ⟨j, rfl⟩ : ∃ j, i = m + j := ⟨i - m, by omega⟩
      rw [sealG_hi g m j (by omega)]
      match j, hi with
      | 0, _ => exact Int.ofNat.inj h0
      | 1, _ => exact Int.ofNat.inj h1
      | 2, _ => exact Int.ofNat.inj h2
      | 3, _ => exact Int.ofNat.inj h3
      | j + 4, hj => omega
set_option maxHeartbeats 2000000 in
theorem ropen_no (b off m c : Nat) (g : Nat → Nat) (w : World) (h : Rd w (.slice (some ⟨b, off, none⟩) (m + 4) c) (m + 4) g) (hm : m ≤ 80000) (hok : okN g m = false) :
    Calls Try.prog 12 #[.slice (some ⟨b, off, none⟩) (m + 4) c] w fun e w' => e = .returned (.tuple #[.slice none 0 0, .bool false]) ∧ Below w.heap.size w w' := by
  obtain ⟨hc, hmx⟩ : m + 4 ≤ c ∧ c ≤ 9223372036854775807 := by
    obtain ⟨a', c', he, hc, hmx⟩ := h.take
    injection he with e1 e2 e3
    subst e3
    exact ⟨hc, hmx⟩
  have q1 : decide ((m : Int) < 0) = false := by rw [decide_eq_false_iff_not]; omega
  have q2 : m ≤ c := by omega
  obtain ⟨T1, hT1⟩ : ∃ T, bstr (sealG g m) (m + 4) = T := ⟨_, rfl⟩
  obtain ⟨T2, hT2⟩ : ∃ T, bstr g (m + 4) = T := ⟨_, rfl⟩
  have hst : (T1.toList == T2.toList) = false := by rw [← hT1, ← hT2, seal_cmp g h.1 m, hok]
  have HT1 := Lib.hid hT1
  have HT2 := Lib.hid hT2
  have hw : Rd w.drew (.slice (some ⟨b, off, none⟩) (m + 4) c) (m + 4) g := h.below ((Below.refl _ _).drew)
  have cv0 := hw.conv
  rw [hT2] at cv0
  have H := Lib.hid hw
  have HM := Lib.hid (hw.cut (m := m) (by omega))
  clear h hw hT1 hT2 hok
  go_enter Try.func12, Try.ntmps12
  go_wp2
  refine wp_region_any (by kernel_rfl) ?_
  change wpAny _ _ _ _ _ _ _ (World.drew _)
  refine take_at (i := 0) (v := ?_) 8 rfl (by kernel_rfl) (by kernel_rfl) (by kernel_rfl) rfl (fun _ _ _ h => h) (Or.inl ⟨by rfl, ?_⟩) ?_
  rotate_left; (intro w; go_simp; try with_reducible rfl); try simp only [Act.put, List.setIfInBounds_toArray, List.set_cons_zero, List.set_cons_succ]
  refine take_at (i := 1) (v := ?_) 9 rfl (by kernel_rfl) (by kernel_rfl) (by kernel_rfl) rfl (fun _ _ _ h => h) (Or.inl ⟨by rfl, ?_⟩) ?_
  rotate_left; (intro w; go_simp; try with_reducible rfl); try simp only [Act.put, List.setIfInBounds_toArray, List.set_cons_zero, List.set_cons_succ]
  refine take_at (i := 2) (v := ?_) 10 rfl (by kernel_rfl) (by kernel_rfl) (by kernel_rfl) rfl (fun _ _ _ h => h) (Or.inl ⟨by rfl, ?_⟩) ?_
  rotate_left; (intro w; go_simp; try with_reducible rfl); try simp only [Act.put, List.setIfInBounds_toArray, List.set_cons_zero, List.set_cons_succ]
  refine take_at (i := 3) (v := ?_) 11 rfl (by kernel_rfl) (by kernel_rfl) (by kernel_rfl) rfl (fun _ _ _ h => h) (Or.inl ⟨by rfl, ?_⟩) ?_
  rotate_left; (intro w; go_simp; try with_reducible rfl); try simp only [Act.put, List.setIfInBounds_toArray, List.set_cons_zero, List.set_cons_succ]
  refine take_at (i := 4) (v := ?_) 12 rfl (by kernel_rfl) (by kernel_rfl) (by kernel_rfl) rfl (fun _ _ _ h => h) (Or.inl ⟨by rfl, ?_⟩) ?_
  rotate_left; (intro w; go_simp; try with_reducible rfl); try simp only [Act.put, List.setIfInBounds_toArray, List.set_cons_zero, List.set_cons_succ]
  refine take_at (i := 5) (v := ?_) 13 rfl (by kernel_rfl) (by kernel_rfl) (by kernel_rfl) rfl (fun _ _ _ h => h) (Or.inl ⟨by rfl, ?_⟩) ?_
  rotate_left; (intro w; go_simp; try with_reducible rfl); try simp only [Act.put, List.setIfInBounds_toArray, List.set_cons_zero, List.set_cons_succ]
  refine take_at (i := 8) (v := ?_) 16 rfl (by kernel_rfl) (by kernel_rfl) (by kernel_rfl) rfl (fun _ _ _ h => h) (Or.inl ⟨by rfl, ?_⟩) ?_
  rotate_left; (intro w; go_simp; try with_reducible rfl); try simp only [Act.put, List.setIfInBounds_toArray, List.set_cons_zero, List.set_cons_succ]
  refine wpAny_ready (rs := [6, 9]) (by kernel_rfl) (by simp) ?_
  refine AllReady.cons rfl (fun K hK => ?_) (AllReady.cons rfl (fun K hK => ?_) AllReady.nil)
  · skip
    go_simp
    refine (rseal_rd HM.out (by omega)).mono ?_
    rintro e w5 ⟨v5, rfl, hR5, hb5⟩
    have hcv5 := hR5.conv
    rw [HT1.out] at hcv5
    have hcv6 := (H.out.below hb5).conv
    rw [HT2.out] at hcv6
    have HR5 := Lib.hid hR5
    clear hR5
    refine hK _ _ ?_
    clear hK K
    try simp only [Act.put, List.setIfInBounds_toArray, List.set_cons_zero, List.set_cons_succ]
    refine wpAny_ready (rs := [7, 9]) (by kernel_rfl) (by simp) ?_
    refine AllReady.cons rfl (fun K hK => ?_) (AllReady.cons rfl (fun K hK => ?_) AllReady.nil)
    · skip
      go_simp
      refine hK _ _ ?_
      clear hK K
      try simp only [Act.put, List.setIfInBounds_toArray, List.set_cons_zero, List.set_cons_succ]
      refine wpAny_ready (rs := [9]) (by kernel_rfl) (by simp) ?_
      refine AllReady.cons rfl (fun K hK => ?_) AllReady.nil
      go_simp
      refine hK _ _ ?_
      clear hK K
      try simp only [Act.put, List.setIfInBounds_toArray, List.set_cons_zero, List.set_cons_succ]
      refine take_at (i := 10) (v := ?_) 18 rfl (by kernel_rfl) (by kernel_rfl) (by kernel_rfl) rfl (fun _ _ _ h => h) (Or.inl ⟨by rfl, ?_⟩) ?_
      rotate_left; (intro w; go_simp; try with_reducible rfl); try simp only [Act.put, List.setIfInBounds_toArray, List.set_cons_zero, List.set_cons_succ]
      refine take_at (i := 11) (v := ?_) 19 rfl (by kernel_rfl) (by kernel_rfl) (by kernel_rfl) rfl (fun _ _ _ h => h) (Or.inl ⟨by rfl, ?_⟩) ?_
      rotate_left; (intro w; go_simp; try with_reducible rfl); try simp only [Act.put, List.setIfInBounds_toArray, List.set_cons_zero, List.set_cons_succ]
      refine wpAny_done (by kernel_rfl) ?_ _
      go_wp2_with (fail)
      go_ret2
      exact ⟨rfl, ((Below.refl _ _).drew).trans (hb5.mono (Nat.le_refl _))⟩
    · skip
      go_simp
      refine hK _ _ ?_
      clear hK K
      try simp only [Act.put, List.setIfInBounds_toArray, List.set_cons_zero, List.set_cons_succ]
      refine wpAny_ready (rs := [7]) (by kernel_rfl) (by simp) ?_
      refine AllReady.cons rfl (fun K hK => ?_) AllReady.nil
      go_simp
      refine hK _ _ ?_
      clear hK K
      try simp only [Act.put, List.setIfInBounds_toArray, List.set_cons_zero, List.set_cons_succ]
      refine take_at (i := 10) (v := ?_) 18 rfl (by kernel_rfl) (by kernel_rfl) (by kernel_rfl) rfl (fun _ _ _ h => h) (Or.inl ⟨by rfl, ?_⟩) ?_
      rotate_left; (intro w; go_simp; try with_reducible rfl); try simp only [Act.put, List.setIfInBounds_toArray, List.set_cons_zero, List.set_cons_succ]
      refine take_at (i := 11) (v := ?_) 19 rfl (by kernel_rfl) (by kernel_rfl) (by kernel_rfl) rfl (fun _ _ _ h => h) (Or.inl ⟨by rfl, ?_⟩) ?_
      rotate_left; (intro w; go_simp; try with_reducible rfl); try simp only [Act.put, List.setIfInBounds_toArray, List.set_cons_zero, List.set_cons_succ]
      refine wpAny_done (by kernel_rfl) ?_ _
      go_wp2_with (fail)
      go_ret2
      exact ⟨rfl, ((Below.refl _ _).drew).trans (hb5.mono (Nat.le_refl _))⟩
  · skip
    go_simp
    refine hK _ _ ?_
    clear hK K
    try simp only [Act.put, List.setIfInBounds_toArray, List.set_cons_zero, List.set_cons_succ]
    refine wpAny_ready (rs := [6]) (by kernel_rfl) (by simp) ?_
    refine AllReady.cons rfl (fun K hK => ?_) AllReady.nil
    go_simp
    refine (rseal_rd HM.out (by omega)).mono ?_
    rintro e w5 ⟨v5, rfl, hR5, hb5⟩
    have hcv5 := hR5.conv
    rw [HT1.out] at hcv5
    have hcv6 := (H.out.below hb5).conv
    rw [HT2.out] at hcv6
    have HR5 := Lib.hid hR5
    clear hR5
    refine hK _ _ ?_
    clear hK K
    try simp only [Act.put, List.setIfInBounds_toArray, List.set_cons_zero, List.set_cons_succ]
    refine wpAny_ready (rs := [7]) (by kernel_rfl) (by simp) ?_
    refine AllReady.cons rfl (fun K hK => ?_) AllReady.nil
    go_simp
    refine hK _ _ ?_
    clear hK K
    try simp only [Act.put, List.setIfInBounds_toArray, List.set_cons_zero, List.set_cons_succ]
    refine take_at (i := 10) (v := ?_) 18 rfl (by kernel_rfl) (by kernel_rfl) (by kernel_rfl) rfl (fun _ _ _ h => h) (Or.inl ⟨by rfl, ?_⟩) ?_
    rotate_left; (intro w; go_simp; try with_reducible rfl); try simp only [Act.put, List.setIfInBounds_toArray, List.set_cons_zero, List.set_cons_succ]
    refine take_at (i := 11) (v := ?_) 19 rfl (by kernel_rfl) (by kernel_rfl) (by kernel_rfl) rfl (fun _ _ _ h => h) (Or.inl ⟨by rfl, ?_⟩) ?_
    rotate_left; (intro w; go_simp; try with_reducible rfl); try simp only [Act.put, List.setIfInBounds_toArray, List.set_cons_zero, List.set_cons_succ]
    refine wpAny_done (by kernel_rfl) ?_ _
    go_wp2_with (fail)
    go_ret2
    exact ⟨rfl, ((Below.refl _ _).drew).trans (hb5.mono (Nat.le_refl _))⟩
set_option maxHeartbeats 2000000 in
theorem ropen_yes (b off m c : Nat) (g : Nat → Nat) (w : World) (h : Rd w (.slice (some ⟨b, off, none⟩) (m + 4) c) (m + 4) g) (hm : m ≤ 80000) (hok : okN g m = true) :
    Calls Try.prog 12 #[.slice (some ⟨b, off, none⟩) (m + 4) c] w fun e w' => ∃ v', e = .returned (.tuple #[v', .bool true]) ∧ Rd w' v' m g ∧ Below w.heap.size w w' := by
  obtain ⟨hc, hmx⟩ : m + 4 ≤ c ∧ c ≤ 9223372036854775807 := by
    obtain ⟨a', c', he, hc, hmx⟩ := h.take
    injection he with e1 e2 e3
    subst e3
    exact ⟨hc, hmx⟩
  have q1 : decide ((m : Int) < 0) = false := by rw [decide_eq_false_iff_not]; omega
  have q2 : m ≤ c := by omega
  obtain ⟨T1, hT1⟩ : ∃ T, bstr (sealG g m) (m + 4) = T := ⟨_, rfl⟩
  obtain ⟨T2, hT2⟩ : ∃ T, bstr g (m + 4) = T := ⟨_, rfl⟩
  have hst : (T1.toList == T2.toList) = true := by rw [← hT1, ← hT2, seal_cmp g h.1 m, hok]
  have HT1 := Lib.hid hT1
  have HT2 := Lib.hid hT2
  have hw : Rd w.drew (.slice (some ⟨b, off, none⟩) (m + 4) c) (m + 4) g := h.below ((Below.refl _ _).drew)
  have cv0 := hw.conv
  rw [hT2] at cv0
  have H := Lib.hid hw
  have HM := Lib.hid (hw.cut (m := m) (by omega))
  clear h hw hT1 hT2 hok
  go_enter Try.func12, Try.ntmps12
  go_wp2
  refine wp_region_any (by kernel_rfl) ?_
  change wpAny _ _ _ _ _ _ _ (World.drew _)
  refine take_at (i := 0) (v := ?_) 8 rfl (by kernel_rfl) (by kernel_rfl) (by kernel_rfl) rfl (fun _ _ _ h => h) (Or.inl ⟨by rfl, ?_⟩) ?_
  rotate_left; (intro w; go_simp; try with_reducible rfl); try simp only [Act.put, List.setIfInBounds_toArray, List.set_cons_zero, List.set_cons_succ]
  refine take_at (i := 1) (v := ?_) 9 rfl (by kernel_rfl) (by kernel_rfl) (by kernel_rfl) rfl (fun _ _ _ h => h) (Or.inl ⟨by rfl, ?_⟩) ?_
  rotate_left; (intro w; go_simp; try with_reducible rfl); try simp only [Act.put, List.setIfInBounds_toArray, List.set_cons_zero, List.set_cons_succ]
  refine take_at (i := 2) (v := ?_) 10 rfl (by kernel_rfl) (by kernel_rfl) (by kernel_rfl) rfl (fun _ _ _ h => h) (Or.inl ⟨by rfl, ?_⟩) ?_
  rotate_left; (intro w; go_simp; try with_reducible rfl); try simp only [Act.put, List.setIfInBounds_toArray, List.set_cons_zero, List.set_cons_succ]
  refine take_at (i := 3) (v := ?_) 11 rfl (by kernel_rfl) (by kernel_rfl) (by kernel_rfl) rfl (fun _ _ _ h => h) (Or.inl ⟨by rfl, ?_⟩) ?_
  rotate_left; (intro w; go_simp; try with_reducible rfl); try simp only [Act.put, List.setIfInBounds_toArray, List.set_cons_zero, List.set_cons_succ]
  refine take_at (i := 4) (v := ?_) 12 rfl (by kernel_rfl) (by kernel_rfl) (by kernel_rfl) rfl (fun _ _ _ h => h) (Or.inl ⟨by rfl, ?_⟩) ?_
  rotate_left; (intro w; go_simp; try with_reducible rfl); try simp only [Act.put, List.setIfInBounds_toArray, List.set_cons_zero, List.set_cons_succ]
  refine take_at (i := 5) (v := ?_) 13 rfl (by kernel_rfl) (by kernel_rfl) (by kernel_rfl) rfl (fun _ _ _ h => h) (Or.inl ⟨by rfl, ?_⟩) ?_
  rotate_left; (intro w; go_simp; try with_reducible rfl); try simp only [Act.put, List.setIfInBounds_toArray, List.set_cons_zero, List.set_cons_succ]
  refine take_at (i := 8) (v := ?_) 16 rfl (by kernel_rfl) (by kernel_rfl) (by kernel_rfl) rfl (fun _ _ _ h => h) (Or.inl ⟨by rfl, ?_⟩) ?_
  rotate_left; (intro w; go_simp; try with_reducible rfl); try simp only [Act.put, List.setIfInBounds_toArray, List.set_cons_zero, List.set_cons_succ]
  refine wpAny_ready (rs := [6, 9]) (by kernel_rfl) (by simp) ?_
  refine AllReady.cons rfl (fun K hK => ?_) (AllReady.cons rfl (fun K hK => ?_) AllReady.nil)
  · skip
    go_simp
    refine (rseal_rd HM.out (by omega)).mono ?_
    rintro e w5 ⟨v5, rfl, hR5, hb5⟩
    have hcv5 := hR5.conv
    rw [HT1.out] at hcv5
    have hcv6 := (H.out.below hb5).conv
    rw [HT2.out] at hcv6
    have HR5 := Lib.hid hR5
    clear hR5
    refine hK _ _ ?_
    clear hK K
    try simp only [Act.put, List.setIfInBounds_toArray, List.set_cons_zero, List.set_cons_succ]
    refine wpAny_ready (rs := [7, 9]) (by kernel_rfl) (by simp) ?_
    refine AllReady.cons rfl (fun K hK => ?_) (AllReady.cons rfl (fun K hK => ?_) AllReady.nil)
    · skip
      go_simp
      refine hK _ _ ?_
      clear hK K
      try simp only [Act.put, List.setIfInBounds_toArray, List.set_cons_zero, List.set_cons_succ]
      refine wpAny_ready (rs := [9]) (by kernel_rfl) (by simp) ?_
      refine AllReady.cons rfl (fun K hK => ?_) AllReady.nil
      go_simp
      refine hK _ _ ?_
      clear hK K
      try simp only [Act.put, List.setIfInBounds_toArray, List.set_cons_zero, List.set_cons_succ]
      refine take_at (i := 10) (v := ?_) 18 rfl (by kernel_rfl) (by kernel_rfl) (by kernel_rfl) rfl (fun _ _ _ h => h) (Or.inl ⟨by rfl, ?_⟩) ?_
      rotate_left; (intro w; go_simp; try with_reducible rfl); try simp only [Act.put, List.setIfInBounds_toArray, List.set_cons_zero, List.set_cons_succ]
      refine take_at (i := 11) (v := ?_) 19 rfl (by kernel_rfl) (by kernel_rfl) (by kernel_rfl) rfl (fun _ _ _ h => h) (Or.inl ⟨by rfl, ?_⟩) ?_
      rotate_left; (intro w; go_simp; try with_reducible rfl); try simp only [Act.put, List.setIfInBounds_toArray, List.set_cons_zero, List.set_cons_succ]
      refine wpAny_done (by kernel_rfl) ?_ _
      have hbz : Below w.heap.size w w5 := ((Below.refl _ _).drew).trans (hb5.mono (Nat.le_refl _))
      have hRm := Lib.hid ((HM.out.below hb5).below ((Below.refl w5.heap.size w5).alloc (Nat.le_refl _) (.cells #[] 5)))
      have own0 := own_empty w5 5
      go_wp2_with (at_builtin; refine wpList_append_rd _ rfl (.tmp 20) (.tmp 23) rfl w5.heap.size _ 0 [] rfl own0 _ m g rfl hRm.out (by omega) (by simp) ?_; intro v3 w3 hown3 hgr3)
      go_ret2
      exact ⟨v3, rfl, Rd.of_fl (B := w5.heap.size) (by rw [List.nil_append, Nat.zero_add] at hown3; exact hown3) H.out.1, hbz.trans ((((Below.refl _ _).alloc (Nat.le_refl _) _).grown hgr3 (by simp) (fun j hj => (own0.lt j hj).1)).mono hbz.size)⟩
    · skip
      go_simp
      refine hK _ _ ?_
      clear hK K
      try simp only [Act.put, List.setIfInBounds_toArray, List.set_cons_zero, List.set_cons_succ]
      refine wpAny_ready (rs := [7]) (by kernel_rfl) (by simp) ?_
      refine AllReady.cons rfl (fun K hK => ?_) AllReady.nil
      go_simp
      refine hK _ _ ?_
      clear hK K
      try simp only [Act.put, List.setIfInBounds_toArray, List.set_cons_zero, List.set_cons_succ]
      refine take_at (i := 10) (v := ?_) 18 rfl (by kernel_rfl) (by kernel_rfl) (by kernel_rfl) rfl (fun _ _ _ h => h) (Or.inl ⟨by rfl, ?_⟩) ?_
      rotate_left; (intro w; go_simp; try with_reducible rfl); try simp only [Act.put, List.setIfInBounds_toArray, List.set_cons_zero, List.set_cons_succ]
      refine take_at (i := 11) (v := ?_) 19 rfl (by kernel_rfl) (by kernel_rfl) (by kernel_rfl) rfl (fun _ _ _ h => h) (Or.inl ⟨by rfl, ?_⟩) ?_
      rotate_left; (intro w; go_simp; try with_reducible rfl); try simp only [Act.put, List.setIfInBounds_toArray, List.set_cons_zero, List.set_cons_succ]
      refine wpAny_done (by kernel_rfl) ?_ _
      have hbz : Below w.heap.size w w5 := ((Below.refl _ _).drew).trans (hb5.mono (Nat.le_refl _))
      have hRm := Lib.hid ((HM.out.below hb5).below ((Below.refl w5.heap.size w5).alloc (Nat.le_refl _) (.cells #[] 5)))
      have own0 := own_empty w5 5
      go_wp2_with (at_builtin; refine wpList_append_rd _ rfl (.tmp 20) (.tmp 23) rfl w5.heap.size _ 0 [] rfl own0 _ m g rfl hRm.out (by omega) (by simp) ?_; intro v3 w3 hown3 hgr3)
      go_ret2
      exact ⟨v3, rfl, Rd.of_fl (B := w5.heap.size) (by rw [List.nil_append, Nat.zero_add] at hown3; exact hown3) H.out.1, hbz.trans ((((Below.refl _ _).alloc (Nat.le_refl _) _).grown hgr3 (by simp) (fun j hj => (own0.lt j hj).1)).mono hbz.size)⟩
  · skip
    go_simp
    refine hK _ _ ?_
    clear hK K
    try simp only [Act.put, List.setIfInBounds_toArray, List.set_cons_zero, List.set_cons_succ]
    refine wpAny_ready (rs := [6]) (by kernel_rfl) (by simp) ?_
    refine AllReady.cons rfl (fun K hK => ?_) AllReady.nil
    go_simp
    refine (rseal_rd HM.out (by omega)).mono ?_
    rintro e w5 ⟨v5, rfl, hR5, hb5⟩
    have hcv5 := hR5.conv
    rw [HT1.out] at hcv5
    have hcv6 := (H.out.below hb5).conv
    rw [HT2.out] at hcv6
    have HR5 := Lib.hid hR5
    clear hR5
    refine hK _ _ ?_
    clear hK K
    try simp only [Act.put, List.setIfInBounds_toArray, List.set_cons_zero, List.set_cons_succ]
    refine wpAny_ready (rs := [7]) (by kernel_rfl) (by simp) ?_
    refine AllReady.cons rfl (fun K hK => ?_) AllReady.nil
    go_simp
    refine hK _ _ ?_
    clear hK K
    try simp only [Act.put, List.setIfInBounds_toArray, List.set_cons_zero, List.set_cons_succ]
    refine take_at (i := 10) (v := ?_) 18 rfl (by kernel_rfl) (by kernel_rfl) (by kernel_rfl) rfl (fun _ _ _ h => h) (Or.inl ⟨by rfl, ?_⟩) ?_
    rotate_left; (intro w; go_simp; try with_reducible rfl); try simp only [Act.put, List.setIfInBounds_toArray, List.set_cons_zero, List.set_cons_succ]
    refine take_at (i := 11) (v := ?_) 19 rfl (by kernel_rfl) (by kernel_rfl) (by kernel_rfl) rfl (fun _ _ _ h => h) (Or.inl ⟨by rfl, ?_⟩) ?_
    rotate_left; (intro w; go_simp; try with_reducible rfl); try simp only [Act.put, List.setIfInBounds_toArray, List.set_cons_zero, List.set_cons_succ]
    refine wpAny_done (by kernel_rfl) ?_ _
    have hbz : Below w.heap.size w w5 := ((Below.refl _ _).drew).trans (hb5.mono (Nat.le_refl _))
    have hRm := Lib.hid ((HM.out.below hb5).below ((Below.refl w5.heap.size w5).alloc (Nat.le_refl _) (.cells #[] 5)))
    have own0 := own_empty w5 5
    go_wp2_with (at_builtin; refine wpList_append_rd _ rfl (.tmp 20) (.tmp 23) rfl w5.heap.size _ 0 [] rfl own0 _ m g rfl hRm.out (by omega) (by simp) ?_; intro v3 w3 hown3 hgr3)
    go_ret2
    exact ⟨v3, rfl, Rd.of_fl (B := w5.heap.size) (by rw [List.nil_append, Nat.zero_add] at hown3; exact hown3) H.out.1, hbz.trans ((((Below.refl _ _).alloc (Nat.le_refl _) _).grown hgr3 (by simp) (fun j hj => (own0.lt j hj).1)).mono hbz.size)⟩
/-- Open of the reference, whatever the bytes are. -/
theorem ropen_any {v : Value} {n : Nat} {g : Nat → Nat} {w : World} (h : Rd w v n g) (hn : n ≤ 80000) :
    Calls Try.prog 12 #[v] w fun e w' => ∃ v', e = .returned (.tuple #[v', .bool (decide (4 ≤ n) && okN g (n - 4))]) ∧ Rd w' v' (if (decide (4 ≤ n) && okN g (n - 4)) = true then n - 4 else 0) g ∧ Below w.heap.size w w' := by
  have hnil : ∀ w', Rd w' (.slice none 0 0) 0 g := fun w' => ⟨h.1, .inl ⟨rfl, none, 0, rfl, by omega⟩⟩
  by_cases h4 : 4 ≤ n
  · obtain ⟨m, rfl⟩ : ∃ m, n = m + 4 := ⟨n - 4, by omega⟩
    obtain ⟨_, ⟨h0, _⟩ | ⟨h2, b, off, c, rfl, h5⟩⟩ := id h
    · omega
    · cases hok : okN g m with
      | false =>
        refine (ropen_no b off m c g w h (by omega) hok).mono ?_
        rintro e w' ⟨rfl, hb⟩
        exact ⟨.slice none 0 0, by simp [hok], by simpa [hok] using hnil w', hb⟩
      | true =>
        refine (ropen_yes b off m c g w h (by omega) hok).mono ?_
        rintro e w' ⟨v', rfl, hR, hb⟩
        exact ⟨v', by simp [hok], by simpa [hok] using hR, hb⟩
  · obtain ⟨a, c, rfl, _, _⟩ := h.take
    refine (ropen_short a n c w (by omega)).mono ?_
    rintro e w' ⟨rfl, hb⟩
    exact ⟨.slice none 0 0, by simp [h4], by simpa [h4] using hnil w', hb⟩
end Go.Proofs.Ytenmjhkmehckhaa

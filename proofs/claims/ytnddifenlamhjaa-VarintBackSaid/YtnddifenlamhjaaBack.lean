import Derived.Test.YtnddifenlamhjaaApp
namespace Go.Proofs.Ytnddifenlamhjaa
open Go.RowKit
set_option linter.unusedVariables false
set_option linter.unusedSimpArgs false

set_option maxRecDepth 100000 in
set_option maxHeartbeats 4000000 in
theorem back_ok (n : Nat) (v1 v2 : Value) (l1 l2 : Nat) (g1 g2 : Nat → Nat) (w : World) (hn : n < 18446744073709551616) (hv1 : Rd w v1 l1 g1) (hv2 : Rd w v2 l2 g2)
    (y k f : Nat) (hT : tkF g2 (min l2 20) = (y, k, f)) :
    Calls Try.prog 4 #[.int .u64 n, v1, v2] w fun e w' => e = .returned (.bool true) ∧ Below w.heap.size w w' := by
  have HN := Lib.hid hn
  have told := tkF_told g2 hv2.1 _ y k f hT
  have HT := Lib.hid hT
  clear hn hT
  go_enter Try.func4, Try.ntmps4
  go_wp2_with (fail)
  go_at_call 9; refine (shown_any _).mono ?_; rintro e w1 ⟨rfl, hb1⟩
  go_wp2_with (fail)
  go_at_call 13; refine (put_at n _ HN.out).mono ?_; rintro e w2 ⟨b2, m, c2, rfl, hm, hc21, hc22, hlt2, hge2, hcell2, hfz2, hown2, hb2⟩
  have hm10 := enc_len10 HN.out
  have hm9 : m + 1 ≤ 10 := by omega
  have hRp : Rd w2 (.slice (some ⟨b2, 0, none⟩) (m + 1) c2) (m + 1) (eg n) := ⟨eg_256 n, .inr ⟨by omega, b2, 0, c2, rfl, hc21, hc22, hlt2, fun i hi => by rw [Nat.zero_add]; exact hcell2 i hi⟩⟩
  have hflp : fl (eg n) (m + 1) = enc n := by rw [← hm]; exact fl_eg n
  have hz1 := hb1.size
  have hz2 := hb2.size
  have HM := Lib.hid hm
  have HFL := Lib.hid hflp
  clear hm hm10 hcell2 hfz2 hown2 hflp
  have hv1' : Rd (w2.alloc (.cells #[] 5)) v1 l1 g1 := ((hv1.below hb1).below hb2).below ((Below.refl _ _).alloc (Nat.le_refl _) _)
  have hRp' : Rd (w2.alloc (.cells #[] 5)) (.slice (some ⟨b2, 0, none⟩) (m + 1) c2) (m + 1) (eg n) := hRp.below ((Below.refl _ _).alloc (Nat.le_refl _) _)
  have own0 := own_empty w2 5
  obtain ⟨a1, c1, rfl, hc11, hc12⟩ := hv1.take
  obtain ⟨a2, c3, rfl, hc31, hc32⟩ := hv2.take
  have HR1 := Lib.hid hv1
  have HR2 := Lib.hid hv2
  clear hv1 hv2
  go_wp2_with (first | (at_builtin; refine wpList_append_rd _ rfl (.tmp 20) (.tmp 21) rfl w2.heap.size _ 0 [] rfl own0 _ (m + 1) (eg n) rfl hRp' (by omega) (by simp) ?_; intro v3 w3 hown3 hgr3) | (go_at_call 11; refine (few_at _ _ _ _ hc11 hc12).mono ?_; rintro e w9 ⟨rfl, rfl⟩) | (at_builtin; apply Classical.byContradiction; intro hstop))
  have hB3 : Below w2.heap.size w2 w3 := ((Below.refl _ _).alloc (Nat.le_refl _) _).grown hgr3 (by simp) (fun k hk => (own0.lt k hk).1)
  have hR1' : Rd w3 (.slice a1 (min l1 20) c1) (min l1 20) g1 := (((HR1.out.below hb1).below hb2).below hB3).cut (by omega)
  apply hstop; clear hstop
  refine wpList_append_rd _ rfl (.tmp 22) (.tmp 24) rfl w2.heap.size _ _ _ rfl hown3 _ (min l1 20) g1 rfl hR1' (by omega) hB3.size ?_; intro v4 w4 hown4 hgr4
  have hB4 : Below w2.heap.size w2 w4 := hB3.grown hgr4 hB3.size (fun k hk => (hown3.lt k hk).1)
  have hR4 : Rd w4 v4 (m + 1 + min l1 20) (fun i => (enc n ++ fl g1 (min l1 20)).getD i 0) := by
    have h0 : (enc n ++ fl g1 (min l1 20)).length = m + 1 + min l1 20 := by rw [List.length_append, fl_len, HM.out]
    have h1 := Rd.of_own (w := w4) (B := w2.heap.size) (v := v4) (xs := enc n ++ fl g1 (min l1 20)) (by rw [h0]; rw [HFL.out] at hown4; simpa using hown4) (getD_256 n _ _ HR1.out.1)
    rwa [h0] at h1
  have hT4 : tkF (fun i => (enc n ++ fl g1 (min l1 20)).getD i 0) (m + 1 + min l1 20) = (n, m + 1, 0) :=
    tkF_put n m _ _ HN.out HM.out (fun i hi => by rw [getD_app _ _ _ (by rw [HM.out]; exact hi)]; rfl)
  have HR4 := Lib.hid hR4
  have HT4 := Lib.hid hT4
  clear hR4 hT4 hown4 hgr4 hown3 hgr3 hR1'
  go_wp2_with (fail)
  go_at_call 10; refine (take_as HR4.out HT4.out).mono ?_; rintro e w9 ⟨rfl, rfl⟩
  go_wp2_with (fail)
  go_at_call 11; refine (few_at _ _ _ _ hc31 hc32).mono ?_; rintro e w9 ⟨rfl, rfl⟩
  have HR5 := Lib.hid ((((HR2.out.below hb1).below hb2).below hB4).cut (m := min l2 20) (by omega))
  go_wp2_with (fail)
  go_at_call 10; refine (take_as HR5.out HT.out).mono ?_; rintro e w9 ⟨rfl, rfl⟩
  go_wp2_with (fail)
  rcases told with ⟨rfl, t1, t2, t3, t4⟩ | ⟨rfl, rfl, te⟩
  · have H3 := Lib.hid t3
    have hlen : (enc y).length = k := by rw [t4, fl_len]
    obtain ⟨T, hTT⟩ : ∃ T, bstr (eg y) (enc y).length = T := ⟨_, rfl⟩
    have HT2 := Lib.hid (show bstr g2 k = T by rw [← hTT]; unfold bstr; congr 1; rw [hlen]; apply List.map_congr_left; intro i hi; have hi' := List.mem_range.1 hi; have h1 := fl_take g2 k i hi'; rw [← t4] at h1; unfold eg; rw [List.getD_eq_getElem?_getD, h1]; rfl)
    have HTT := Lib.hid hTT
    have H4 := Lib.hid t4
    clear hTT t4 t3 hlen
    have HR6 := Lib.hid (HR5.out.cut (m := k) t2)
    have q1 : ¬ ((k : Int) < 1) := by omega
    have q2 : ¬ (((min l2 20 : Nat) : Int) < (k : Int)) := by omega
    have q3 : ¬ ((k : Int) > ((min l2 20 : Nat) : Int)) := by omega
    have q4 : ((k : Int) ≤ ((min l2 20 : Nat) : Int)) := by omega
    have q5 : k ≤ c3 := by omega
    have cv4 := (HR6.out.below ((Below.refl w4.heap.size w4).drew)).conv
    rw [HT2.out] at cv4
    have HZ : ∀ u, Below w4.heap.size w4 u → Below w.heap.size w u := fun u hu => ((hb1.trans (hb2.mono hz1)).trans (hB4.mono (Nat.le_trans hz1 hz2))).trans (hu.mono (Nat.le_trans (Nat.le_trans hz1 hz2) hB4.size))
    refine wp_region_any (by kernel_rfl) ?_
    change wpAny _ _ _ _ _ _ _ (World.drew _)
    refine take_at (i := 0) (v := ?_) 38 rfl (by kernel_rfl) (by kernel_rfl) (by kernel_rfl) rfl (fun _ _ _ h => h) (Or.inl ⟨by rfl, ?_⟩) ?_
    rotate_left; (intro w; go_simp; try with_reducible rfl); try simp only [Act.put, List.setIfInBounds_toArray, List.set_cons_zero, List.set_cons_succ]
    refine take_at (i := 1) (v := ?_) 39 rfl (by kernel_rfl) (by kernel_rfl) (by kernel_rfl) rfl (fun _ _ _ h => h) (Or.inl ⟨by rfl, ?_⟩) ?_
    rotate_left; (intro w; go_simp; try with_reducible rfl); try simp only [Act.put, List.setIfInBounds_toArray, List.set_cons_zero, List.set_cons_succ]
    refine take_at (i := 2) (v := ?_) 40 rfl (by kernel_rfl) (by kernel_rfl) (by kernel_rfl) rfl (fun _ _ _ h => h) (Or.inl ⟨by rfl, ?_⟩) ?_
    rotate_left; (intro w; go_simp; try with_reducible rfl); try simp only [Act.put, List.setIfInBounds_toArray, List.set_cons_zero, List.set_cons_succ]
    refine take_at (i := 3) (v := ?_) 41 rfl (by kernel_rfl) (by kernel_rfl) (by kernel_rfl) rfl (fun _ _ _ h => h) (Or.inl ⟨by rfl, ?_⟩) ?_
    rotate_left; (intro w; go_simp; try with_reducible rfl); try simp only [Act.put, List.setIfInBounds_toArray, List.set_cons_zero, List.set_cons_succ]
    refine take_at (i := 4) (v := ?_) 42 rfl (by kernel_rfl) (by kernel_rfl) (by kernel_rfl) rfl (fun _ _ _ h => h) (Or.inl ⟨by rfl, ?_⟩) ?_
    rotate_left; (intro w; go_simp; try with_reducible rfl); try simp only [Act.put, List.setIfInBounds_toArray, List.set_cons_zero, List.set_cons_succ]
    refine take_at (i := 5) (v := ?_) 43 rfl (by kernel_rfl) (by kernel_rfl) (by kernel_rfl) rfl (fun _ _ _ h => h) (Or.inl ⟨by rfl, ?_⟩) ?_
    rotate_left; (intro w; go_simp; try with_reducible rfl); try simp only [Act.put, List.setIfInBounds_toArray, List.set_cons_zero, List.set_cons_succ]
    refine take_at (i := 6) (v := ?_) 44 rfl (by kernel_rfl) (by kernel_rfl) (by kernel_rfl) rfl (fun _ _ _ h => h) (Or.inl ⟨by rfl, ?_⟩) ?_
    rotate_left; (intro w; go_simp; try with_reducible rfl); try simp only [Act.put, List.setIfInBounds_toArray, List.set_cons_zero, List.set_cons_succ]
    refine take_at (i := 7) (v := ?_) 45 rfl (by kernel_rfl) (by kernel_rfl) (by kernel_rfl) rfl (fun _ _ _ h => h) (Or.inl ⟨by rfl, ?_⟩) ?_
    rotate_left; (intro w; go_simp; try with_reducible rfl); try simp only [Act.put, List.setIfInBounds_toArray, List.set_cons_zero, List.set_cons_succ]
    refine take_at (i := 8) (v := ?_) 46 rfl (by kernel_rfl) (by kernel_rfl) (by kernel_rfl) rfl (fun _ _ _ h => h) (Or.inl ⟨by rfl, ?_⟩) ?_
    rotate_left; (intro w; go_simp; try with_reducible rfl); try simp only [Act.put, List.setIfInBounds_toArray, List.set_cons_zero, List.set_cons_succ]
    refine take_at (i := 9) (v := ?_) 47 rfl (by kernel_rfl) (by kernel_rfl) (by kernel_rfl) rfl (fun _ _ _ h => h) (Or.inl ⟨by rfl, ?_⟩) ?_
    rotate_left; (intro w; go_simp; try with_reducible rfl); try simp only [Act.put, List.setIfInBounds_toArray, List.set_cons_zero, List.set_cons_succ]
    refine take_at (i := 10) (v := ?_) 48 rfl (by kernel_rfl) (by kernel_rfl) (by kernel_rfl) rfl (fun _ _ _ h => h) (Or.inl ⟨by rfl, ?_⟩) ?_
    rotate_left; (intro w; go_simp; try with_reducible rfl); try simp only [Act.put, List.setIfInBounds_toArray, List.set_cons_zero, List.set_cons_succ]
    refine take_at (i := 11) (v := ?_) 49 rfl (by kernel_rfl) (by kernel_rfl) (by kernel_rfl) rfl (fun _ _ _ h => h) (Or.inl ⟨by rfl, ?_⟩) ?_
    rotate_left; (intro w; go_simp; try with_reducible rfl); try simp only [Act.put, List.setIfInBounds_toArray, List.set_cons_zero, List.set_cons_succ]
    refine take_at (i := 12) (v := ?_) 50 rfl (by kernel_rfl) (by kernel_rfl) (by kernel_rfl) rfl (fun _ _ _ h => h) (Or.inl ⟨by rfl, ?_⟩) ?_
    rotate_left; (intro w; go_simp; try with_reducible rfl); try simp only [Act.put, List.setIfInBounds_toArray, List.set_cons_zero, List.set_cons_succ]
    refine take_at (i := 15) (v := ?_) 53 rfl (by kernel_rfl) (by kernel_rfl) (by kernel_rfl) rfl (fun _ _ _ h => h) (Or.inl ⟨by rfl, ?_⟩) ?_
    rotate_left; (intro w; go_simp; try with_reducible rfl); try simp only [Act.put, List.setIfInBounds_toArray, List.set_cons_zero, List.set_cons_succ]
    refine take_at (i := 16) (v := ?_) 54 rfl (by kernel_rfl) (by kernel_rfl) (by kernel_rfl) rfl (fun _ _ _ h => h) (Or.inl ⟨by rfl, ?_⟩) ?_
    rotate_left; (intro w; go_simp; try with_reducible rfl); try simp only [Act.put, List.setIfInBounds_toArray, List.set_cons_zero, List.set_cons_succ]
    refine take_at (i := 17) (v := ?_) 55 rfl (by kernel_rfl) (by kernel_rfl) (by kernel_rfl) rfl (fun _ _ _ h => h) (Or.inl ⟨by rfl, ?_⟩) ?_
    rotate_left; (intro w; go_simp; try with_reducible rfl); try simp only [Act.put, List.setIfInBounds_toArray, List.set_cons_zero, List.set_cons_succ]
    refine wpAny_ready (rs := [13, 18]) (by kernel_rfl) (by simp) ?_
    refine AllReady.cons rfl (fun K hK => ?_) (AllReady.cons rfl (fun K hK => ?_) AllReady.nil)
    · skip
      go_simp
      refine (put_any y _ H3.out).mono ?_
      rintro e w5 ⟨v5, rfl, hown5, hb5⟩
      have hcv5 := (Rd.of_enc hown5).conv
      rw [HTT.out] at hcv5
      have hcv6 := (((HR6.out.below ((Below.refl w4.heap.size w4).drew))).below hb5).conv
      rw [HT2.out] at hcv6
      refine hK _ _ ?_
      clear hK K
      try simp only [Act.put, List.setIfInBounds_toArray, List.set_cons_zero, List.set_cons_succ]
      refine wpAny_ready (rs := [14, 18]) (by kernel_rfl) (by simp) ?_
      refine AllReady.cons rfl (fun K hK => ?_) (AllReady.cons rfl (fun K hK => ?_) AllReady.nil)
      · skip
        go_simp
        refine hK _ _ ?_
        clear hK K
        try simp only [Act.put, List.setIfInBounds_toArray, List.set_cons_zero, List.set_cons_succ]
        refine wpAny_ready (rs := [18]) (by kernel_rfl) (by simp) ?_
        refine AllReady.cons rfl (fun K hK => ?_) AllReady.nil
        go_simp
        refine hK _ _ ?_
        clear hK K
        try simp only [Act.put, List.setIfInBounds_toArray, List.set_cons_zero, List.set_cons_succ]
        refine take_at (i := 19) (v := ?_) 57 rfl (by kernel_rfl) (by kernel_rfl) (by kernel_rfl) rfl (fun _ _ _ h => h) (Or.inl ⟨by rfl, ?_⟩) ?_
        rotate_left; (intro w; go_simp; try with_reducible rfl); try simp only [Act.put, List.setIfInBounds_toArray, List.set_cons_zero, List.set_cons_succ]
        refine take_at (i := 20) (v := ?_) 58 rfl (by kernel_rfl) (by kernel_rfl) (by kernel_rfl) rfl (fun _ _ _ h => h) (Or.inl ⟨by rfl, ?_⟩) ?_
        rotate_left; (intro w; go_simp; try with_reducible rfl); try simp only [Act.put, List.setIfInBounds_toArray, List.set_cons_zero, List.set_cons_succ]
        refine take_at (i := 21) (v := ?_) 59 rfl (by kernel_rfl) (by kernel_rfl) (by kernel_rfl) rfl (fun _ _ _ h => h) (Or.inl ⟨by rfl, ?_⟩) ?_
        rotate_left; (intro w; go_simp; try with_reducible rfl); try simp only [Act.put, List.setIfInBounds_toArray, List.set_cons_zero, List.set_cons_succ]
        refine wpAny_done (by kernel_rfl) ?_ _
        go_wp2_with (fail)
        go_ret
        exact ⟨rfl, HZ _ (((Below.refl _ _).drew).trans (hb5.mono (Nat.le_refl _)))⟩
      · skip
        go_simp
        refine hK _ _ ?_
        clear hK K
        try simp only [Act.put, List.setIfInBounds_toArray, List.set_cons_zero, List.set_cons_succ]
        refine wpAny_ready (rs := [14]) (by kernel_rfl) (by simp) ?_
        refine AllReady.cons rfl (fun K hK => ?_) AllReady.nil
        go_simp
        refine hK _ _ ?_
        clear hK K
        try simp only [Act.put, List.setIfInBounds_toArray, List.set_cons_zero, List.set_cons_succ]
        refine take_at (i := 19) (v := ?_) 57 rfl (by kernel_rfl) (by kernel_rfl) (by kernel_rfl) rfl (fun _ _ _ h => h) (Or.inl ⟨by rfl, ?_⟩) ?_
        rotate_left; (intro w; go_simp; try with_reducible rfl); try simp only [Act.put, List.setIfInBounds_toArray, List.set_cons_zero, List.set_cons_succ]
        refine take_at (i := 20) (v := ?_) 58 rfl (by kernel_rfl) (by kernel_rfl) (by kernel_rfl) rfl (fun _ _ _ h => h) (Or.inl ⟨by rfl, ?_⟩) ?_
        rotate_left; (intro w; go_simp; try with_reducible rfl); try simp only [Act.put, List.setIfInBounds_toArray, List.set_cons_zero, List.set_cons_succ]
        refine take_at (i := 21) (v := ?_) 59 rfl (by kernel_rfl) (by kernel_rfl) (by kernel_rfl) rfl (fun _ _ _ h => h) (Or.inl ⟨by rfl, ?_⟩) ?_
        rotate_left; (intro w; go_simp; try with_reducible rfl); try simp only [Act.put, List.setIfInBounds_toArray, List.set_cons_zero, List.set_cons_succ]
        refine wpAny_done (by kernel_rfl) ?_ _
        go_wp2_with (fail)
        go_ret
        exact ⟨rfl, HZ _ (((Below.refl _ _).drew).trans (hb5.mono (Nat.le_refl _)))⟩
    · skip
      go_simp
      refine hK _ _ ?_
      clear hK K
      try simp only [Act.put, List.setIfInBounds_toArray, List.set_cons_zero, List.set_cons_succ]
      refine wpAny_ready (rs := [13]) (by kernel_rfl) (by simp) ?_
      refine AllReady.cons rfl (fun K hK => ?_) AllReady.nil
      go_simp
      refine (put_any y _ H3.out).mono ?_
      rintro e w5 ⟨v5, rfl, hown5, hb5⟩
      have hcv5 := (Rd.of_enc hown5).conv
      rw [HTT.out] at hcv5
      have hcv6 := (((HR6.out.below ((Below.refl w4.heap.size w4).drew))).below hb5).conv
      rw [HT2.out] at hcv6
      refine hK _ _ ?_
      clear hK K
      try simp only [Act.put, List.setIfInBounds_toArray, List.set_cons_zero, List.set_cons_succ]
      refine wpAny_ready (rs := [14]) (by kernel_rfl) (by simp) ?_
      refine AllReady.cons rfl (fun K hK => ?_) AllReady.nil
      go_simp
      refine hK _ _ ?_
      clear hK K
      try simp only [Act.put, List.setIfInBounds_toArray, List.set_cons_zero, List.set_cons_succ]
      refine take_at (i := 19) (v := ?_) 57 rfl (by kernel_rfl) (by kernel_rfl) (by kernel_rfl) rfl (fun _ _ _ h => h) (Or.inl ⟨by rfl, ?_⟩) ?_
      rotate_left; (intro w; go_simp; try with_reducible rfl); try simp only [Act.put, List.setIfInBounds_toArray, List.set_cons_zero, List.set_cons_succ]
      refine take_at (i := 20) (v := ?_) 58 rfl (by kernel_rfl) (by kernel_rfl) (by kernel_rfl) rfl (fun _ _ _ h => h) (Or.inl ⟨by rfl, ?_⟩) ?_
      rotate_left; (intro w; go_simp; try with_reducible rfl); try simp only [Act.put, List.setIfInBounds_toArray, List.set_cons_zero, List.set_cons_succ]
      refine take_at (i := 21) (v := ?_) 59 rfl (by kernel_rfl) (by kernel_rfl) (by kernel_rfl) rfl (fun _ _ _ h => h) (Or.inl ⟨by rfl, ?_⟩) ?_
      rotate_left; (intro w; go_simp; try with_reducible rfl); try simp only [Act.put, List.setIfInBounds_toArray, List.set_cons_zero, List.set_cons_succ]
      refine wpAny_done (by kernel_rfl) ?_ _
      go_wp2_with (fail)
      go_ret
      exact ⟨rfl, HZ _ (((Below.refl _ _).drew).trans (hb5.mono (Nat.le_refl _)))⟩
  · have HZ : ∀ u, Below w4.heap.size w4 u → Below w.heap.size w u := fun u hu => ((hb1.trans (hb2.mono hz1)).trans (hB4.mono (Nat.le_trans hz1 hz2))).trans (hu.mono (Nat.le_trans (Nat.le_trans hz1 hz2) hB4.size))
    rcases te with rfl | rfl
    · refine wp_region_wb2 (by kernel_rfl) (by kernel_rfl) ?_
      repeat (go_big_quiet_step (fail))
      refine wpQuiet_nil ?_; intro w5 hb5
      go_wp2_with (fail)
      go_ret
      exact ⟨rfl, HZ _ hb5⟩
    · refine wp_region_wb2 (by kernel_rfl) (by kernel_rfl) ?_
      repeat (go_big_quiet_step (fail))
      refine wpQuiet_nil ?_; intro w5 hb5
      go_wp2_with (fail)
      go_ret
      exact ⟨rfl, HZ _ hb5⟩
theorem back_any (n : Nat) (v1 v2 : Value) (l1 l2 : Nat) (g1 g2 : Nat → Nat) (w : World) (hn : n < 18446744073709551616) (hv1 : Rd w v1 l1 g1) (hv2 : Rd w v2 l2 g2) :
    Calls Try.prog 4 #[.int .u64 n, v1, v2] w fun e w' => e = .returned (.bool true) ∧ Below w.heap.size w w' := by
  obtain ⟨⟨y, k, f⟩, hT⟩ : ∃ r, tkF g2 (min l2 20) = r := ⟨_, rfl⟩
  exact back_ok n v1 v2 l1 l2 g1 g2 w hn hv1 hv2 y k f hT
end Go.Proofs.Ytnddifenlamhjaa

import Derived.Test.YtkcfcimophjomaaLf
namespace Go.Proofs.Ytkcfcimophjomaa
open Go.RowKit
set_option linter.unusedVariables false
set_option linter.unusedSimpArgs false
set_option maxRecDepth 100000 in
theorem clean_none (w : World) (v : Value) (n bit : Nat) (g : Nat → Nat) (hv : Rd w v n g) (hn : n = 0) (hbit : bit < 65536) :
    Calls Try.prog 8 #[v, .int .u16 bit] w fun e w' => e = .returned (.bool true) ∧ Below w.heap.size w w' := by
  subst hn
  have HV := Lib.hid hv
  clear hv
  go_enter Try.func8, Try.ntmps8
  go_wp2_with (fail)
  go_at_call 26; refine (lshown_any _).mono ?_; rintro e w1 ⟨rfl, hb1⟩
  go_wp2_with (fail)
  go_at_call 32; refine (few_any (N := 0) (HV.out.below hb1) (by decide)).mono ?_; rintro e w2 ⟨v2, rfl, ho2, hb2⟩
  have hz2 := hb1.trans (hb2.mono hb1.size)
  have hR2 := Rd.of_fl ho2 HV.out.1
  have HR2 := Lib.hid hR2
  obtain ⟨a2, c2, rfl, _, _⟩ := hR2.take
  clear ho2 hR2
  go_wp2_with (fail)
  go_at_call 33; refine (burst_none _ _ 1 bit g HR2.out).mono ?_; rintro e w3 ⟨a3, c3, rfl, hb3⟩
  have hz3 := hz2.trans (hb3.mono hz2.size)
  go_wp2_with (fail)
  go_ret
  exact ⟨rfl, hz3⟩
theorem wrap_two (s : Nat) (hs : s < 8) : IntKind.u8.wrap ((2 : Int) ^ s) = ((1 * 2 ^ s : Nat) : Int) := by
  match s, hs with
  | 0, _ => decide +kernel
  | 1, _ => decide +kernel
  | 2, _ => decide +kernel
  | 3, _ => decide +kernel
  | 4, _ => decide +kernel
  | 5, _ => decide +kernel
  | 6, _ => decide +kernel
  | 7, _ => decide +kernel
theorem turn_val2 (x s : Nat) (hx : x < 256) (hs : s < 8) : bits .xor .u8 (x : Int) (IntKind.u8.wrap (2 ^ s)) = ((x ^^^ (1 * 2 ^ s) : Nat) : Int) ∧ x ^^^ (1 * 2 ^ s) < 256 := by
  obtain ⟨h4, h5⟩ := wrap_bit 1 s (by omega) hs
  rw [wrap_two s hs, u8_xor_nat x _ hx h5]
  exact ⟨rfl, Nat.xor_lt_two_pow (n := 8) hx h5⟩
set_option maxRecDepth 100000 in
set_option maxHeartbeats 2000000 in
theorem clean_at (w : World) (v : Value) (n N k bit : Nat) (g : Nat → Nat) (hv : Rd w v n g) (hN : min (n : Int) 60 = (N : Int)) (h0 : 0 < N) (hbit : bit < 65536) (hk : (bit : Int) % (8 * (N : Int)) = (k : Int)) :
    Calls Try.prog 8 #[v, .int .u16 bit] w fun e w' => e = .returned (.bool true) ∧ Below w.heap.size w w' := by
  have HV := Lib.hid hv
  have HN := Lib.hid hN
  have hN60 : N ≤ 60 := by omega
  have hk8 : k < 8 * N := by
    have := Int.emod_lt_of_pos (bit : Int) (show 0 < 8 * (N : Int) by omega)
    omega
  have x256 := fl_256 hv.1 N
  obtain ⟨L, hL⟩ : ∃ L, fl g N = L := ⟨_, rfl⟩
  have hLl : L.length = N := by rw [← hL, fl_len]
  rw [hL] at x256
  have t256 : ∀ x ∈ turnB L k 1, x < 256 := by
    have := turnB_256 (xs := L) x256 k 1 (by omega) 1
    unfold bL bL at this
    simpa using this
  have hTl : (turnB L k 1).length = N := by unfold turnB; rw [List.length_set, hLl]
  have hne := turnB_ne L k x256 (by omega)
  obtain ⟨S0, hS0⟩ : ∃ S, strL L = S := ⟨_, rfl⟩
  obtain ⟨S1, hS1⟩ : ∃ S, strL (turnB L k 1) = S := ⟨_, rfl⟩
  rw [hS0, hS1] at hne
  have hone : ∀ T, 0 < T → bL L k 1 T = turnB L k 1 := fun T hT => by
    obtain ⟨t, rfl⟩ : ∃ t, T = t + 1 := ⟨T - 1, by omega⟩
    exact bL_one L k t
  obtain ⟨T1, hT1⟩ : ∃ T, min 32 (8 * N - k) = T := ⟨_, rfl⟩
  have hT0 : 0 < T1 := by omega
  have q1 : ((N : Int) == 0) = false := by rw [beq_eq_false_iff_ne]; omega
  have q2 : ¬ (N : Int) = 0 := by omega
  have q3 : ¬ (8 * (N : Int) = 0) := by omega
  have M1 : Hid ((k : Int) % (8 * (N : Int)) = (k : Int)) := Lib.hid (Int.emod_eq_of_lt (by omega) (by omega))
  have M2 : Hid ((8 * (N : Int) - 1) % (8 * (N : Int)) = ((8 * N - 1 : Nat) : Int)) := Lib.hid (by rw [Int.emod_eq_of_lt (by omega) (by omega)]; omega)
  have M3 : Hid (((k : Int) + 8 * (N : Int)) % (8 * (N : Int)) = (k : Int)) := Lib.hid (by rw [Int.add_emod_right]; exact M1.out)
  have M4 : Hid (((k : Int) - 8 * (N : Int)) % (8 * (N : Int)) = (k : Int)) := Lib.hid (by rw [Int.sub_emod_right]; exact M1.out)
  have HL := Lib.hid hL
  have HX := Lib.hid x256
  have HTX := Lib.hid t256
  have HLl := Lib.hid hLl
  have HTl := Lib.hid hTl
  have HS0 := Lib.hid hS0
  have HS1 := Lib.hid hS1
  have HONE := Lib.hid (hone T1 hT0)
  have HT1 := Lib.hid hT1
  clear hv hN hL x256 t256 hLl hTl hS0 hS1 hone hT1
  go_enter Try.func8, Try.ntmps8
  go_wp2_with (fail)
  go_at_call 26; refine (lshown_any _).mono ?_; rintro e w1 ⟨rfl, hb1⟩
  go_wp2_with (fail)
  go_at_call 32; refine (few_any (HV.out.below hb1) HN.out).mono ?_; rintro e w2 ⟨v2, rfl, ho2, hb2⟩
  have hz2 := hb1.trans (hb2.mono hb1.size)
  have hR2 := Rd.of_fl ho2 HV.out.1
  rw [HL.out] at ho2
  obtain ⟨b2, c2, rfl, hc1, hc2, hbw, hbl, _⟩ := own_at ho2 h0 HLl.out
  have HO2 := Lib.hid ho2
  have HR2 := Lib.hid hR2
  clear ho2 hR2
  go_wp2_with (fail)
  go_at_call 33; refine (burst_any _ _ N (k) T1 0 (k : Int) g HR2.out hN60 h0 (by omega) (by omega) M1.out HT1.out (by omega)).mono ?_; rintro e w3 ⟨v3, rfl, ho3, hb3⟩
  rw [HL.out, bL_zero L k T1] at ho3
  have HO3 := Lib.hid ho3
  have hB23 : Below w2.heap.size w2 w3 := hb3
  clear ho3
  go_wp2_with (fail)
  go_at_call 33; refine (burst_any _ _ N (8 * N - 1) 1 4294967294 (8 * (N : Int) - 1) g (HR2.out.below hB23) hN60 h0 (by omega) (by omega) M2.out (by omega) (by omega)).mono ?_; rintro e w4 ⟨v4, rfl, ho4, hb4⟩
  rw [HL.out, bL_past L (8 * N - 1)] at ho4
  have HO4 := Lib.hid ho4
  have hB24 : Below w2.heap.size w2 w4 := hB23.trans (hb4.mono hB23.size)
  clear ho4
  go_wp2_with (fail)
  go_at_call 33; refine (burst_any _ _ N (k) T1 1 (k : Int) g (HR2.out.below hB24) hN60 h0 (by omega) (by omega) M1.out HT1.out (by omega)).mono ?_; rintro e w5 ⟨v5, rfl, ho5, hb5⟩
  rw [HL.out, HONE.out] at ho5
  have HO5 := Lib.hid ho5
  have hB25 : Below w2.heap.size w2 w5 := hB24.trans (hb5.mono hB24.size)
  clear ho5
  go_wp2_with (fail)
  go_at_call 33; refine (burst_any _ _ N (k) T1 1 ((k : Int) + 8 * (N : Int)) g (HR2.out.below hB25) hN60 h0 (by omega) (by omega) M3.out HT1.out (by omega)).mono ?_; rintro e w6 ⟨v6, rfl, ho6, hb6⟩
  rw [HL.out, HONE.out] at ho6
  have HO6 := Lib.hid ho6
  have hB26 : Below w2.heap.size w2 w6 := hB25.trans (hb6.mono hB25.size)
  clear ho6
  go_wp2_with (fail)
  go_at_call 33; refine (burst_any _ _ N (k) T1 1 ((k : Int) - 8 * (N : Int)) g (HR2.out.below hB26) hN60 h0 (by omega) (by omega) M4.out HT1.out (by omega)).mono ?_; rintro e w7 ⟨v7, rfl, ho7, hb7⟩
  rw [HL.out, HONE.out] at ho7
  have HO7 := Lib.hid ho7
  have hB27 : Below w2.heap.size w2 w7 := hB26.trans (hb7.mono hB26.size)
  clear ho7
  go_wp2_with (fail)
  have hz7 := hz2.trans (hB27.mono hz2.size)
  obtain ⟨j, hj⟩ : ∃ j, k / 8 = j := ⟨_, rfl⟩
  obtain ⟨s, hs⟩ : ∃ s, k % 8 = s := ⟨_, rfl⟩
  have hjn : j < N := by omega
  have k3 : (j : Int) < (N : Int) := by omega
  have k4 : (0 : Int) ≤ (j : Int) := by omega
  have hs8 : s < 8 := by omega
  have k7 : (k : Int).tdiv 8 = (j : Int) := by rw [Int.tdiv_eq_ediv_of_nonneg (by omega)]; omega
  have k7' : (k : Int) / 8 = (j : Int) := by omega
  have k8 : (k : Int).tmod 8 = (s : Int) := by rw [Int.tmod_eq_emod_of_nonneg (by omega)]; omega
  have k8' : (k : Int) % 8 = (s : Int) := by omega
  have k9 : IntKind.i64.wrap (j : Int) = (j : Int) := IntWalk.i64_in _ (by omega)
  have k10 : IntKind.i64.wrap (s : Int) = (s : Int) := IntWalk.i64_in _ (by omega)
  have k11 : (0 : Int) ≤ (s : Int) := by omega
  obtain ⟨xj, hxj⟩ : ∃ xj, L.getD j 0 = xj := ⟨_, rfl⟩
  have hxj256 : xj < 256 := by rw [← hxj]; exact bs_256' HX.out j
  have hotw := ownE_below HO2.out hB27
  have hcj : w7.cell? ⟨b2, j, none⟩ = some (.int .u8 (xj : Nat)) := by
    rw [hotw.cellAt j (by omega), ← hxj]; unfold cells8
    rw [List.getElem?_map, List.getElem?_eq_getElem (by rw [HLl.out]; omega)]
    simp [List.getD, List.getElem?_eq_getElem (show j < L.length by rw [HLl.out]; omega)]
  have hfj := hotw.frozenAt j
  obtain ⟨hval, hval2⟩ := turn_val2 xj s hxj256 hs8
  obtain ⟨Y, hY⟩ : ∃ Y, xj ^^^ (1 * 2 ^ s) = Y := ⟨_, rfl⟩
  rw [hY] at hval
  have hst := (hotw.stored j (.int .u8 (Y : Int))).1
  have hset : (cells8 L).set j (.int .u8 (Y : Int)) = cells8 (turnB L k 1) := by
    unfold turnB cells8
    rw [hj, hs, hxj, hY, List.map_set]
  rw [hset] at hst
  have hfar : ∀ i, w2.heap.size ≤ i → (w7.setCell ⟨b2, j, none⟩ (.int .u8 (Y : Int))).heap[i]? = w7.heap[i]? := fun i hi => heap_setCell_other w7 ⟨b2, j, none⟩ i _ (by show i ≠ b2; omega)
  have cvl := own_conv (ownE_below hst ((Below.refl _ _).drew)) HTX.out HTl.out
  rw [HS1.out] at cvl
  have hB37 : Below w3.heap.size w3 w7 := (((hb4).trans (hb5.mono (by have := hb4.size; omega))).trans (hb6.mono (by have := hb4.size; have := hb5.size; omega))).trans (hb7.mono (by have := hb4.size; have := hb5.size; have := hb6.size; omega))
  have cv3 := own_conv (ownE_below (ownE_same (ownE_below HO3.out hB37) (fun i hi => hfar i (by omega))) ((Below.refl _ _).drew)) HX.out HLl.out
  rw [HS0.out] at cv3
  have hB47 : Below w4.heap.size w4 w7 := ((hb5).trans (hb6.mono (by have := hb5.size; omega))).trans (hb7.mono (by have := hb5.size; have := hb6.size; omega))
  have cv4 := own_conv (ownE_below (ownE_same (ownE_below HO4.out hB47) (fun i hi => hfar i (by have := hb3.size; omega))) ((Below.refl _ _).drew)) HX.out HLl.out
  rw [HS0.out] at cv4
  have hB57 : Below w5.heap.size w5 w7 := (hb6).trans (hb7.mono (by have := hb6.size; omega))
  have cv5 := own_conv (ownE_below (ownE_same (ownE_below HO5.out hB57) (fun i hi => hfar i (by have := hb3.size; have := hb4.size; omega))) ((Below.refl _ _).drew)) HTX.out HTl.out
  rw [HS1.out] at cv5
  have hB67 : Below w6.heap.size w6 w7 := hb7
  have cv6 := own_conv (ownE_below (ownE_same (ownE_below HO6.out hB67) (fun i hi => hfar i (by have := hb3.size; have := hb4.size; have := hb5.size; omega))) ((Below.refl _ _).drew)) HTX.out HTl.out
  rw [HS1.out] at cv6
  have cv7 := own_conv (ownE_below (ownE_same HO7.out (fun i hi => hfar i (by have := hb3.size; have := hb4.size; have := hb5.size; have := hb6.size; omega))) ((Below.refl _ _).drew)) HTX.out HTl.out
  rw [HS1.out] at cv7
  have HZ8 := Lib.hid (hz7.setCell (p := ⟨b2, j, none⟩) (by show w.heap.size ≤ b2; have := hb1.size; omega) (.int .u8 (Y : Int)))
  clear hotw hst hset hfar hval2 hxj hj hs hY
  go_wp2_with (fail)
  refine wp_region_any (by kernel_rfl) ?_
  change wpAny _ _ _ _ _ _ _ (World.drew _)
  refine take_at (i := 0) (v := ?_) 56 rfl (by kernel_rfl) (by kernel_rfl) (by kernel_rfl) rfl (fun _ _ _ h => h) (Or.inl ⟨by rfl, ?_⟩) ?_
  rotate_left; (intro w; go_simp; try with_reducible rfl); try simp only [Act.put, List.setIfInBounds_toArray, List.set_cons_zero, List.set_cons_succ]
  refine take_at (i := 1) (v := ?_) 57 rfl (by kernel_rfl) (by kernel_rfl) (by kernel_rfl) rfl (fun _ _ _ h => h) (Or.inl ⟨by rfl, ?_⟩) ?_
  rotate_left; (intro w; go_simp; try with_reducible rfl); try simp only [Act.put, List.setIfInBounds_toArray, List.set_cons_zero, List.set_cons_succ]
  refine take_at (i := 2) (v := ?_) 58 rfl (by kernel_rfl) (by kernel_rfl) (by kernel_rfl) rfl (fun _ _ _ h => h) (Or.inl ⟨by rfl, ?_⟩) ?_
  rotate_left; (intro w; go_simp; try with_reducible rfl); try simp only [Act.put, List.setIfInBounds_toArray, List.set_cons_zero, List.set_cons_succ]
  refine take_at (i := 3) (v := ?_) 59 rfl (by kernel_rfl) (by kernel_rfl) (by kernel_rfl) rfl (fun _ _ _ h => h) (Or.inl ⟨by rfl, ?_⟩) ?_
  rotate_left; (intro w; go_simp; try with_reducible rfl); try simp only [Act.put, List.setIfInBounds_toArray, List.set_cons_zero, List.set_cons_succ]
  refine take_at (i := 4) (v := ?_) 60 rfl (by kernel_rfl) (by kernel_rfl) (by kernel_rfl) rfl (fun _ _ _ h => h) (Or.inl ⟨by rfl, ?_⟩) ?_
  rotate_left; (intro w; go_simp; try with_reducible rfl); try simp only [Act.put, List.setIfInBounds_toArray, List.set_cons_zero, List.set_cons_succ]
  refine take_at (i := 5) (v := ?_) 61 rfl (by kernel_rfl) (by kernel_rfl) (by kernel_rfl) rfl (fun _ _ _ h => h) (Or.inl ⟨by rfl, ?_⟩) ?_
  rotate_left; (intro w; go_simp; try with_reducible rfl); try simp only [Act.put, List.setIfInBounds_toArray, List.set_cons_zero, List.set_cons_succ]
  refine take_at (i := 6) (v := ?_) 62 rfl (by kernel_rfl) (by kernel_rfl) (by kernel_rfl) rfl (fun _ _ _ h => h) (Or.inl ⟨by rfl, ?_⟩) ?_
  rotate_left; (intro w; go_simp; try with_reducible rfl); try simp only [Act.put, List.setIfInBounds_toArray, List.set_cons_zero, List.set_cons_succ]
  refine take_at (i := 8) (v := ?_) 64 rfl (by kernel_rfl) (by kernel_rfl) (by kernel_rfl) rfl (fun _ _ _ h => h) (Or.inl ⟨by rfl, ?_⟩) ?_
  rotate_left; (intro w; go_simp; try with_reducible rfl); try simp only [Act.put, List.setIfInBounds_toArray, List.set_cons_zero, List.set_cons_succ]
  refine take_at (i := 9) (v := ?_) 65 rfl (by kernel_rfl) (by kernel_rfl) (by kernel_rfl) rfl (fun _ _ _ h => h) (Or.inl ⟨by rfl, ?_⟩) ?_
  rotate_left; (intro w; go_simp; try with_reducible rfl); try simp only [Act.put, List.setIfInBounds_toArray, List.set_cons_zero, List.set_cons_succ]
  refine take_at (i := 10) (v := ?_) 66 rfl (by kernel_rfl) (by kernel_rfl) (by kernel_rfl) rfl (fun _ _ _ h => h) (Or.inl ⟨by rfl, ?_⟩) ?_
  rotate_left; (intro w; go_simp; try with_reducible rfl); try simp only [Act.put, List.setIfInBounds_toArray, List.set_cons_zero, List.set_cons_succ]
  refine wpAny_ready (rs := [7]) (by kernel_rfl) (by simp) ?_
  refine AllReady.cons rfl (fun K hK => ?_) AllReady.nil
  go_simp
  refine hK _ _ ?_
  clear hK K
  try simp only [Act.put, List.setIfInBounds_toArray, List.set_cons_zero, List.set_cons_succ]
  refine take_at (i := 11) (v := ?_) 67 rfl (by kernel_rfl) (by kernel_rfl) (by kernel_rfl) rfl (fun _ _ _ h => h) (Or.inl ⟨by rfl, ?_⟩) ?_
  rotate_left; (intro w; go_simp; try with_reducible rfl); try simp only [Act.put, List.setIfInBounds_toArray, List.set_cons_zero, List.set_cons_succ]
  refine take_at (i := 12) (v := ?_) 68 rfl (by kernel_rfl) (by kernel_rfl) (by kernel_rfl) rfl (fun _ _ _ h => h) (Or.inl ⟨by rfl, ?_⟩) ?_
  rotate_left; (intro w; go_simp; try with_reducible rfl); try simp only [Act.put, List.setIfInBounds_toArray, List.set_cons_zero, List.set_cons_succ]
  refine wpAny_ready (rs := [13]) (by kernel_rfl) (by simp) ?_
  refine AllReady.cons rfl (fun K hK => ?_) AllReady.nil
  go_simp
  refine hK _ _ ?_
  clear hK K
  try simp only [Act.put, List.setIfInBounds_toArray, List.set_cons_zero, List.set_cons_succ]
  refine wpAny_done (by kernel_rfl) ?_ _
  go_wp2_with (fail)
  go_ret
  exact ⟨rfl, HZ8.out.drew⟩
theorem linkClean_any (w : World) (v : Value) (n bit : Nat) (g : Nat → Nat) (hv : Rd w v n g) (hbit : bit < 65536) :
    Calls Try.prog 8 #[v, .int .u16 bit] w fun e w' => e = .returned (.bool true) ∧ Below w.heap.size w w' := by
  rcases Nat.eq_zero_or_pos n with h | h
  · exact clean_none w v n bit g hv h hbit
  · exact clean_at w v n (min n 60) (bit % (8 * min n 60)) bit g hv (by omega) (by omega) hbit (by push_cast; omega)
end Go.Proofs.Ytkcfcimophjomaa

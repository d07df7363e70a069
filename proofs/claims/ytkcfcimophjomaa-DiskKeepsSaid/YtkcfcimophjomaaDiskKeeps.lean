import Derived.Test.YtkcfcimophjomaaDiskK
namespace Go.Proofs.Ytkcfcimophjomaa
open Go.RowKit
set_option linter.unusedVariables false
set_option linter.unusedSimpArgs false
attribute [local go_sem high] run_min_mx
attribute [local go_sem] conv_const
set_option maxRecDepth 100000 in
set_option maxHeartbeats 2000000 in
theorem keeps_at (a : Option Addr) (n c n1 n2 W K : Nat) (V : Nat → Value) (L : Nat → Nat) (G : Nat → Nat → Nat) (w : World) (hv : IsRows w a n c V L G) (h1 : n1 < 256) (h2 : n2 < 256) (hW : (n1 : Int) % 20 = (W : Int)) (hK : (n2 : Int) % 50 = (K : Int)) :
    Calls Try.prog 3 #[.slice a n c, .int .u8 n1, .int .u8 n2] w fun e w' => e = .returned (.bool true) ∧ Below w.heap.size w w' := by
  obtain ⟨hnc, hcm, hrow⟩ := hv
  have HROW := Lib.hid hrow
  have hW20 : W < 20 := by omega
  have hK50 : K < 50 := by omega
  clear hrow
  go_enter Try.func3, Try.ntmps3
  go_wp2_with (fail)
  go_at_call 9; refine (shown_any _).mono ?_; rintro e w1 ⟨rfl, hb1⟩
  go_wp2_with (fail)
  go_at_call 10; refine (new_any _).mono ?_; rintro e w2 ⟨rfl, hD2, hb2⟩
  have hz2 := hb1.trans (hb2.mono hb1.size)
  have HD2 := Lib.hid hD2
  clear hD2
  obtain ⟨m, hm⟩ : ∃ m, w1.heap.size = m := ⟨_, rfl⟩
  have hmw : w.heap.size ≤ m := by rw [← hm]; exact hb1.size
  rw [hm] at HD2 hb2
  clear hb1 hb2
  go_wp2_with (fail)
  clear hm
  obtain ⟨N, hN⟩ : ∃ N, min n 20 = N := ⟨_, rfl⟩
  go_loopw [9, 10] (fun s i wr => ∃ k : Nat, k ≤ N ∧ i = .int .i64 k ∧ s = .string (strL (allL G L W K k)) ∧ IsDisk wr m (allL G L W K k) false none ∧ Below w.heap.size w wr) (fun _ i _ => N - (intOf i).toNat)
  case atStart => exact ⟨0, by omega, rfl, rfl, HD2.out, hz2⟩
  case round =>
    obtain ⟨k, hk, rfl, rfl, hD, hbel⟩ := hrel
    have HD := Lib.hid hD
    clear hD
    have hAl := allL_len G L W K k
    obtain ⟨SA, hSA⟩ : ∃ S, strL (allL G L W K k) = S := ⟨_, rfl⟩
    have hsA : SA.size = (allL G L W K k).length := by rw [← hSA, strL_size]
    obtain ⟨A, hA⟩ : ∃ A, (allL G L W K k).length = A := ⟨_, rfl⟩
    rw [hA] at hsA hAl
    have HA := Lib.hid hA
    have HSA := Lib.hid hSA
    rw [hSA]
    by_cases hlt : k < N
    · have q1 : (k : Int) < (n : Int) := by omega
      have q2 : (k : Int) < 20 := by omega
      obtain ⟨b, off, rfl, hbl, hc⟩ := HROW.out (by omega)
      obtain ⟨hcell, hR⟩ := hc k (by omega)
      have hx256 : ∀ j, j < k + 1 → ∀ i, G j i < 256 := fun j hj => (hc j (by omega)).2.1
      have HX := Lib.hid hx256
      obtain ⟨ak, ck, hVk, hLc, hcM⟩ := hR.take
      rw [hVk] at hcell hR
      obtain ⟨M, hM⟩ : ∃ M, min (L k) 40 = M := ⟨_, rfl⟩
      have hmin : min (L k : Int) 40 = (M : Int) := by omega
      have hML : M ≤ L k := by omega
      have hM40 : M ≤ 40 := by omega
      have hMc : M ≤ ck := by omega
      obtain ⟨B, hB⟩ : ∃ B, fl (G k) M = B := ⟨_, rfl⟩
      have hBl : B.length = M := by rw [← hB, fl_len]
      obtain ⟨SB, hSB⟩ : ∃ S, strL B = S := ⟨_, rfl⟩
      have hsB : SB.size = M := by rw [← hSB, strL_size, hBl]
      have rc : ∀ u : WB wr.heap.size wr, u.w.cell? ⟨b, off + k, none⟩ = some (.slice ak (L k) ck) := fun u => ((hbel.trans (u.2.mono hbel.size)).cell (p := ⟨b, off + k, none⟩) hbl).trans hcell
      have rv : ∀ u : WB wr.heap.size wr, (convert 26 9 (.slice ak M ck)).run Try.prog u.w = .ok (.string SB) u.w := fun u => by
        have h := cut_conv (hR.below (hbel.trans (u.2.mono hbel.size))) hML
        rw [hB, hSB] at h; exact h
      clear hc hR hx256
      have HB := Lib.hid hB
      have HBl := Lib.hid hBl
      have HSB := Lib.hid hSB
      have HVk := Lib.hid hVk
      have HM := Lib.hid hM
      clear hB hBl hSB hVk hM hA hSA
      by_cases hkW : k = W
      · subst hkW
        have w2' : ((k : Int) != (k : Int)) = false := by simp
        go_wp2_with (fail)
        refine wp_region_wb2 (by kernel_rfl) (by kernel_rfl) ?_
        repeat (go_big_quiet_step (fail))
        refine wpQuiet_nil ?_; intro wq hbq
        have hbz := hbel.trans (hbq.mono hbel.size)
        have hD1 := HD.out.below hbq
        have HD1 := Lib.hid hD1
        clear hD1 rc rv
        obtain ⟨Kc, hKc⟩ : ∃ Kc, min K M = Kc := ⟨_, rfl⟩
        have hmk : min (K : Int) (M : Int) = (Kc : Int) := by omega
        have hKcM : Kc ≤ M := by omega
        have hpart : part G L k K k = B.take Kc := by rw [part_cut G L k K k rfl, HM.out, HB.out, hKc]
        have hall : allL G L k K (k + 1) = allL G L k K k ++ B.take Kc := by rw [← hpart]; rfl
        have HALL := Lib.hid hall
        obtain ⟨SC, hSC⟩ : ∃ S, strL (allL G L k K (k + 1)) = S := ⟨_, rfl⟩
        obtain ⟨SD, hSD⟩ : ∃ S, strL (B.take Kc) = S := ⟨_, rfl⟩
        have hsD : SD.size = Kc := by rw [← hSD, strL_size, List.length_take, HBl.out]; omega
        have hex : SB.extract 0 Kc = SD := by rw [← HSB.out, strL_take, hSD]
        have hadd : SA ++ SD = SC := by rw [← HSA.out, ← hSD, strL_append, ← HALL.out, hSC]
        have HSC := Lib.hid hSC
        have hB256 : ∀ x ∈ B, x < 256 := by rw [← HB.out]; exact fl_256 (HX.out k (by omega)) M
        have HB256 := Lib.hid hB256
        have HKc := Lib.hid hKc
        clear hpart hall hSC hSD hB256 hKc
        go_wp2_with (fail)
        go_at_call 12; refine (cut_any _ m _ _ K HD1.out).mono ?_; rintro e w2c ⟨rfl, hD2, hb2⟩
        have HD2c := Lib.hid hD2
        have hz2c := hbz.trans (hb2.mono hmw)
        clear hD2
        obtain ⟨v3, w3, hr3, hR3, hb3⟩ := bytes_rd w2c B HB256.out (by rw [HBl.out]; omega)
        rw [HSB.out] at hr3
        have hz3 := hz2c.trans (hb3.mono hz2c.size)
        have HR3 := Lib.hid hR3
        clear hR3
        go_wp2_with (fail)
        go_at_call 11; refine (write_cut_any _ m _ K Kc _ v3 _ (HD2c.out.below hb3) HR3.out (by rw [HA.out, HBl.out]; omega) (by rw [HBl.out]; omega)).mono ?_; rintro e w4 ⟨rfl, hD4, hb4⟩
        rw [fl_getD B Kc (by rw [HBl.out]; exact hKcM), ← HALL.out] at hD4
        have HD4 := Lib.hid hD4
        have hz4 := hz3.trans (hb4.mono hmw)
        clear hr3 hD4
        go_wp2_with (fail)
        have hc4 : Below w4.heap.size w4 (w4.alloc (.cells #[.int .u8 108, .int .u8 111, .int .u8 115, .int .u8 116] 5 (4, 5))) := (Below.refl _ _).alloc (Nat.le_refl _) _
        have HD5 := Lib.hid (HD4.out.below hc4)
        have hz5 := hz4.trans (hc4.mono hz4.size)
        go_at_call 11; refine (write_down _ m _ _ _ HD5.out).mono ?_; rintro e w6 ⟨rfl, rfl⟩
        go_wp2_with (fail)
        go_at_call 13; refine (up_any _ _ _ HD5.out.up).mono ?_; rintro e w6 ⟨rfl, rfl⟩
        go_wp2_with (fail)
        go_at_call 14; refine (bytes_own _ m _ _ _ HD5.out (allL_256 G L k K (k + 1) HX.out) (by have := allL_len G L k K (k + 1); omega)).mono ?_; rintro e w7 ⟨v7, rfl, hcv7, hb7⟩
        rw [HSC.out] at hcv7
        have HD7 := Lib.hid (HD5.out.below hb7)
        have hz7 := hz5.trans (hb7.mono hz5.size)
        go_wp2_with (fail)
        go_at_call 15; refine (start_any _ m _ _ _ HD7.out).mono ?_; rintro e w8 ⟨rfl, hD8, hb8⟩
        have HD8 := Lib.hid hD8
        have hz8 := hz7.trans (hb8.mono hmw)
        clear hD8 hcv7
        go_wp2_with (fail)
        go_roundw
        case rel => exact ⟨k + 1, by omega, by go_num, by rw [HSC.out], HD8.out, hz8⟩
        case measure => simp [intOf]; omega
      · have w1' : ((k : Int) == (W : Int)) = false := by rw [beq_eq_false_iff_ne]; omega
        have w2' : ((k : Int) != (W : Int)) = true := by rw [bne_iff_ne]; omega
        have w3' : ¬ (k : Int) = (W : Int) := by omega
        go_wp2_with (fail)
        refine wp_region_wb2 (by kernel_rfl) (by kernel_rfl) ?_
        repeat (go_big_quiet_step (fail))
        refine wpQuiet_nil ?_; intro wq hbq
        have hbz := hbel.trans (hbq.mono hbel.size)
        have hD1 := HD.out.below hbq
        have HD1 := Lib.hid hD1
        clear hD1 rc rv
        have hpart : part G L W K k = B := by rw [part_all G L W K k hkW, HM.out, HB.out]
        have hall : allL G L W K (k + 1) = allL G L W K k ++ B := by rw [← hpart]; rfl
        have HALL := Lib.hid hall
        obtain ⟨SC, hSC⟩ : ∃ S, strL (allL G L W K (k + 1)) = S := ⟨_, rfl⟩
        have hadd : SA ++ SB = SC := by rw [← HSA.out, ← HSB.out, strL_append, ← HALL.out, hSC]
        have HSC := Lib.hid hSC
        have hB256 : ∀ x ∈ B, x < 256 := by rw [← HB.out]; exact fl_256 (HX.out k (by omega)) M
        obtain ⟨v3, w3, hr3, hR3, hb3⟩ := bytes_rd wq B hB256 (by rw [HBl.out]; omega)
        rw [HSB.out] at hr3
        have hz3 := hbz.trans (hb3.mono hbz.size)
        have HR3 := Lib.hid hR3
        clear hR3 hpart hall hSC hB256
        go_wp2_with (fail)
        go_at_call 11; refine (write_bytes _ m _ B v3 (HD1.out.below hb3) HR3.out (by rw [HA.out, HBl.out]; omega)).mono ?_; rintro e w4 ⟨rfl, hD4, hb4⟩
        rw [← HALL.out] at hD4
        have HD4 := Lib.hid hD4
        have hz4 := hz3.trans (hb4.mono hmw)
        clear hr3 hD4
        go_wp2_with (fail)
        go_roundw
        case rel => exact ⟨k + 1, by omega, by go_num, by rw [HSC.out], HD4.out, hz4⟩
        case measure => simp [intOf]; omega
    · obtain rfl : k = N := by omega
      have hall : ∀ x ∈ allL G L W K k, x < 256 := allL_256 G L W K k (fun j hj => by
        obtain ⟨b, off, _, _, hc⟩ := HROW.out (by omega)
        exact (hc j (by omega)).2.1)
      have HALL := Lib.hid hall
      clear hall hA hSA
      by_cases hkn : k < n
      · have q1 : (k : Int) < (n : Int) := by omega
        have q2 : ¬ (k : Int) < 20 := by omega
        go_wp2_with (fail)
        go_at_call 13; refine (up_any _ _ _ HD.out.up).mono ?_; rintro e w6 ⟨rfl, rfl⟩
        go_wp2_with (fail)
        go_at_call 14; refine (bytes_own _ m _ _ _ HD.out HALL.out (by rw [HA.out]; omega)).mono ?_; rintro e w7 ⟨v7, rfl, hcv7, hb7⟩
        rw [HSA.out] at hcv7
        have hz7 := hbel.trans (hb7.mono hbel.size)
        go_wp2_with (fail)
        go_ret
        exact ⟨rfl, hz7⟩
      · have q1 : ¬ (k : Int) < (n : Int) := by omega
        go_wp2_with (fail)
        go_at_call 13; refine (up_any _ _ _ HD.out.up).mono ?_; rintro e w6 ⟨rfl, rfl⟩
        go_wp2_with (fail)
        go_at_call 14; refine (bytes_own _ m _ _ _ HD.out HALL.out (by rw [HA.out]; omega)).mono ?_; rintro e w7 ⟨v7, rfl, hcv7, hb7⟩
        rw [HSA.out] at hcv7
        have hz7 := hbel.trans (hb7.mono hbel.size)
        go_wp2_with (fail)
        go_ret
        exact ⟨rfl, hz7⟩
/-- Of a row of rows of bytes that came in. -/
theorem diskKeeps_any (a : Option Addr) (n c n1 n2 : Nat) (V : Nat → Value) (L : Nat → Nat) (G : Nat → Nat → Nat) (w : World) (hv : IsRows w a n c V L G) (h1 : n1 < 256) (h2 : n2 < 256) :
    Calls Try.prog 3 #[.slice a n c, .int .u8 n1, .int .u8 n2] w fun e w' => e = .returned (.bool true) ∧ Below w.heap.size w w' :=
  keeps_at a n c n1 n2 (n1 % 20) (n2 % 50) V L G w hv h1 h2 (by omega) (by omega)
end Go.Proofs.Ytkcfcimophjomaa

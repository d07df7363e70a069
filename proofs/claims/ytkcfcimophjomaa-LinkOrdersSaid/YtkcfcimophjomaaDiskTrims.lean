import Derived.Test.YtkcfcimophjomaaDiskT
namespace Go.Proofs.Ytkcfcimophjomaa
open Go.RowKit
set_option linter.unusedVariables false
set_option linter.unusedSimpArgs false
theorem write_bytes (w : World) (m : Nat) (bs ys : List Nat) (v : Value) (h : IsDisk w m bs false none) (hv : Rd w v ys.length (fun i => ys.getD i 0)) (hn : bs.length + ys.length ≤ 100000) :
    Calls Try.prog 11 #[.pointer (some ⟨m + 1, 0, none⟩), v] w fun e w' => e = .returned (.int .i64 0) ∧ IsDisk w' m (bs ++ ys) false none ∧ Below m w w' := by
  refine (write_ok w m bs v ys.length _ h hv hn).mono ?_
  rintro e w' ⟨rfl, h1, h2⟩
  rw [fl_own] at h1
  exact ⟨rfl, h1, h2⟩
theorem cut_conv {w : World} {a : Option Addr} {n c m : Nat} {g : Nat → Nat} (h : Rd w (.slice a n c) n g) (hm : m ≤ n) : (convert 26 9 (.slice a m c)).run Try.prog w = .ok (.string (strL (fl g m))) w := by
  rw [← bstr_strL]; exact (h.cut hm).conv
attribute [local go_sem high] run_min_mx
set_option maxHeartbeats 2000000 in
theorem trims_lo (a0 a1 : Option Addr) (l0 l1 c0 c1 N0 N1 : Nat) (g0 g1 : Nat → Nat) (n : Int) (w : World) (hv0 : Rd w (.slice a0 l0 c0) l0 g0) (hv1 : Rd w (.slice a1 l1 c1) l1 g1) (hN0 : min (l0 : Int) 100 = (N0 : Int)) (hN1 : min (l1 : Int) 100 = (N1 : Int))
    (hc0 : l0 ≤ c0) (hc1 : l1 ≤ c1) (hm0 : c0 ≤ 9223372036854775807) (hm1 : c1 ≤ 9223372036854775807) (hn : n < 0) :
    Calls Try.prog 6 #[.slice a0 l0 c0, .slice a1 l1 c1, .int .i64 n] w fun e w' => e = .returned (.bool true) ∧ Below w.heap.size w w' := by
  have hl0 : N0 ≤ l0 := by omega
  have hl1 : N1 ≤ l1 := by omega
  have hd0 : N0 ≤ 100 := by omega
  have hd1 : N1 ≤ 100 := by omega
  have x0 := fl_256 hv0.1 N0
  have x1 := fl_256 hv1.1 N1
  obtain ⟨X, hX⟩ : ∃ X, fl g0 N0 = X := ⟨_, rfl⟩
  obtain ⟨Y, hY⟩ : ∃ Y, fl g1 N1 = Y := ⟨_, rfl⟩
  have hXl : X.length = N0 := by rw [← hX, fl_len]
  have hYl : Y.length = N1 := by rw [← hY, fl_len]
  rw [hX] at x0
  rw [hY] at x1
  obtain ⟨Z, hZ⟩ : ∃ Z, trimL X n = Z := ⟨_, rfl⟩
  have hZX : Z = X := by
    rw [← hZ]; unfold trimL
    rw [if_neg (by omega)]
  have hZl : Z.length ≤ 100 := by rw [hZX]; omega
  have xz : ∀ x ∈ Z, x < 256 := by rw [hZX]; intro x hx; exact x0 x hx
  have xzy : ∀ x ∈ Z ++ Y, x < 256 := by intro x hx; exact (List.mem_append.1 hx).elim (xz x) (x1 x)
  obtain ⟨SX, hSX⟩ : ∃ S, strL X = S := ⟨_, rfl⟩
  obtain ⟨SY, hSY⟩ : ∃ S, strL Y = S := ⟨_, rfl⟩
  obtain ⟨SZ, hSZ⟩ : ∃ S, strL Z = S := ⟨_, rfl⟩
  obtain ⟨SQ, hSQ⟩ : ∃ S, strL (Z ++ Y) = S := ⟨_, rfl⟩
  have hsz : SX.size = N0 := by rw [← hSX, strL_size, hXl]
  have hsy : SY.size = N1 := by rw [← hSY, strL_size, hYl]
  
  have hadd : SZ ++ SY = SQ := by rw [← hSZ, ← hSY, strL_append, hSQ]
  have hex : SX = SZ := by rw [← hSX, ← hSZ, hZX]
  subst hex
  have k1 : N0 ≤ c0 := by omega
  have k2 : N1 ≤ c1 := by omega
  have HV0 := Lib.hid hv0
  have HV1 := Lib.hid hv1
  have HX := Lib.hid hX
  have HY := Lib.hid hY
  have HZ := Lib.hid hZ
  have HXl := Lib.hid hXl
  have HYl := Lib.hid hYl
  have HSX := Lib.hid hSX
  have HSY := Lib.hid hSY
  have HSZ := Lib.hid hSZ
  have HSQ := Lib.hid hSQ
  have HX0 := Lib.hid x0
  have HX1 := Lib.hid x1
  have HXZ := Lib.hid xz
  have HXZY := Lib.hid xzy
  clear hv0 hv1 hX hY hZ hXl hYl hSX hSY hSZ hSQ hZX x0 x1 xz xzy
  go_enter Try.func6, Try.ntmps6
  go_wp2_with (fail)
  go_at_call 9; refine (shown_any _).mono ?_; rintro e w1 ⟨rfl, hb1⟩
  go_wp2_with (fail)
  go_at_call 10; refine (new_any _).mono ?_; rintro e w2 ⟨rfl, hD2, hb2⟩
  have HD2 := Lib.hid hD2
  clear hD2
  have hz2 := hb1.trans (hb2.mono hb1.size)
  have hcv0 := cut_conv (HV0.out.below hz2) hl0
  have hcv1 := cut_conv (HV1.out.below hz2) hl1
  rw [HX.out, HSX.out] at hcv0
  rw [HY.out, HSY.out] at hcv1
  obtain ⟨v3, w3, hr3, hR3, hb3⟩ := bytes_rd w2 X HX0.out (by rw [HXl.out]; omega)
  rw [HSX.out] at hr3
  have hz3 := hz2.trans (hb3.mono hz2.size)
  have HR3 := Lib.hid hR3
  clear hR3
  go_wp2_with (fail)
  go_at_call 11; refine (write_bytes _ w1.heap.size _ X v3 (HD2.out.below hb3) HR3.out (by rw [HXl.out]; simp; omega)).mono ?_; rintro e w4 ⟨rfl, hD4, hb4⟩
  rw [List.nil_append] at hD4
  have HD4 := Lib.hid hD4
  clear hD4 hr3 hcv0 hcv1
  have hz4 := hz3.trans (hb4.mono hb1.size)
  go_wp2_with (fail)
  go_at_call 24; refine (trim_any _ w1.heap.size _ _ _ n HD4.out (bs_256 HX0.out) (by rw [HXl.out]; omega)).mono ?_; rintro e w5 ⟨rfl, hD5, hb5⟩
  rw [HZ.out] at hD5
  have HD5 := Lib.hid hD5
  clear hD5
  have hz5 := hz4.trans (hb5.mono hb1.size)
  go_wp2_with (fail)
  go_at_call 14; refine (bytes_own _ w1.heap.size _ _ _ HD5.out HXZ.out (by omega)).mono ?_; rintro e w6 ⟨v6, rfl, hcv6, hb6⟩
  rw [HSZ.out] at hcv6
  have hz6 := hz5.trans (hb6.mono hz5.size)
  go_wp2_with (fail)
  go_at_call 25; refine (crash_any _ w1.heap.size _ _ _ (HD5.out.below hb6)).mono ?_; rintro e w7 ⟨rfl, hD7, hb7⟩
  have HD7 := Lib.hid hD7
  clear hD7 hcv6
  have hz7 := hz6.trans (hb7.mono hb1.size)
  obtain ⟨v8, w8, hr8, hR8, hb8⟩ := bytes_rd w7 Y HX1.out (by rw [HYl.out]; omega)
  rw [HSY.out] at hr8
  clear hR8
  go_wp2_with (fail)
  have hz8 := hz7.trans (hb8.mono hz7.size)
  go_at_call 11; refine (write_down _ w1.heap.size _ _ v8 (HD7.out.below hb8)).mono ?_; rintro e w9 ⟨rfl, rfl⟩
  clear hr8
  go_wp2_with (fail)
  go_at_call 15; refine (start_any _ w1.heap.size _ _ _ (HD7.out.below hb8)).mono ?_; rintro e w10 ⟨rfl, hD10, hb10⟩
  have HD10 := Lib.hid hD10
  clear hD10
  have hz10 := hz8.trans (hb10.mono hb1.size)
  obtain ⟨v11, w11, hr11, hR11, hb11⟩ := bytes_rd w10 Y HX1.out (by rw [HYl.out]; omega)
  rw [HSY.out] at hr11
  have HR11 := Lib.hid hR11
  clear hR11
  go_wp2_with (fail)
  have hz11 := hz10.trans (hb11.mono hz10.size)
  go_at_call 11; refine (write_bytes _ w1.heap.size _ Y v11 (HD10.out.below hb11) HR11.out (by rw [HYl.out]; omega)).mono ?_; rintro e w12 ⟨rfl, hD12, hb12⟩
  have HD12 := Lib.hid hD12
  clear hD12 hr11
  have hz12 := hz11.trans (hb12.mono hb1.size)
  go_wp2_with (fail)
  go_at_call 14; refine (bytes_own _ w1.heap.size _ _ _ HD12.out HXZY.out (by simp [HYl.out]; omega)).mono ?_; rintro e w13 ⟨v13, rfl, hcv13, hb13⟩
  rw [HSQ.out] at hcv13
  have hz13 := hz12.trans (hb13.mono hz12.size)
  go_wp2_with (fail)
  go_at_call 13; refine (up_any _ _ _ (HD12.out.below hb13).up).mono ?_; rintro e w14 ⟨rfl, rfl⟩
  go_wp2_with (fail)
  go_ret
  exact ⟨rfl, hz13⟩
set_option maxHeartbeats 2000000 in
theorem trims_hi (a0 a1 : Option Addr) (l0 l1 c0 c1 N0 N1 : Nat) (g0 g1 : Nat → Nat) (n : Int) (w : World) (hv0 : Rd w (.slice a0 l0 c0) l0 g0) (hv1 : Rd w (.slice a1 l1 c1) l1 g1) (hN0 : min (l0 : Int) 100 = (N0 : Int)) (hN1 : min (l1 : Int) 100 = (N1 : Int))
    (hc0 : l0 ≤ c0) (hc1 : l1 ≤ c1) (hm0 : c0 ≤ 9223372036854775807) (hm1 : c1 ≤ 9223372036854775807) (h0 : 0 ≤ n) (hn : (N0 : Int) < n) :
    Calls Try.prog 6 #[.slice a0 l0 c0, .slice a1 l1 c1, .int .i64 n] w fun e w' => e = .returned (.bool true) ∧ Below w.heap.size w w' := by
  have hl0 : N0 ≤ l0 := by omega
  have hl1 : N1 ≤ l1 := by omega
  have hd0 : N0 ≤ 100 := by omega
  have hd1 : N1 ≤ 100 := by omega
  have x0 := fl_256 hv0.1 N0
  have x1 := fl_256 hv1.1 N1
  obtain ⟨X, hX⟩ : ∃ X, fl g0 N0 = X := ⟨_, rfl⟩
  obtain ⟨Y, hY⟩ : ∃ Y, fl g1 N1 = Y := ⟨_, rfl⟩
  have hXl : X.length = N0 := by rw [← hX, fl_len]
  have hYl : Y.length = N1 := by rw [← hY, fl_len]
  rw [hX] at x0
  rw [hY] at x1
  obtain ⟨Z, hZ⟩ : ∃ Z, trimL X n = Z := ⟨_, rfl⟩
  have hZX : Z = X := by
    rw [← hZ]; unfold trimL
    rw [if_neg (by omega)]
  have hZl : Z.length ≤ 100 := by rw [hZX]; omega
  have xz : ∀ x ∈ Z, x < 256 := by rw [hZX]; intro x hx; exact x0 x hx
  have xzy : ∀ x ∈ Z ++ Y, x < 256 := by intro x hx; exact (List.mem_append.1 hx).elim (xz x) (x1 x)
  obtain ⟨SX, hSX⟩ : ∃ S, strL X = S := ⟨_, rfl⟩
  obtain ⟨SY, hSY⟩ : ∃ S, strL Y = S := ⟨_, rfl⟩
  obtain ⟨SZ, hSZ⟩ : ∃ S, strL Z = S := ⟨_, rfl⟩
  obtain ⟨SQ, hSQ⟩ : ∃ S, strL (Z ++ Y) = S := ⟨_, rfl⟩
  have hsz : SX.size = N0 := by rw [← hSX, strL_size, hXl]
  have hsy : SY.size = N1 := by rw [← hSY, strL_size, hYl]
  
  have hadd : SZ ++ SY = SQ := by rw [← hSZ, ← hSY, strL_append, hSQ]
  have hex : SX = SZ := by rw [← hSX, ← hSZ, hZX]
  subst hex
  have k1 : N0 ≤ c0 := by omega
  have k2 : N1 ≤ c1 := by omega
  have HV0 := Lib.hid hv0
  have HV1 := Lib.hid hv1
  have HX := Lib.hid hX
  have HY := Lib.hid hY
  have HZ := Lib.hid hZ
  have HXl := Lib.hid hXl
  have HYl := Lib.hid hYl
  have HSX := Lib.hid hSX
  have HSY := Lib.hid hSY
  have HSZ := Lib.hid hSZ
  have HSQ := Lib.hid hSQ
  have HX0 := Lib.hid x0
  have HX1 := Lib.hid x1
  have HXZ := Lib.hid xz
  have HXZY := Lib.hid xzy
  clear hv0 hv1 hX hY hZ hXl hYl hSX hSY hSZ hSQ hZX x0 x1 xz xzy
  go_enter Try.func6, Try.ntmps6
  go_wp2_with (fail)
  go_at_call 9; refine (shown_any _).mono ?_; rintro e w1 ⟨rfl, hb1⟩
  go_wp2_with (fail)
  go_at_call 10; refine (new_any _).mono ?_; rintro e w2 ⟨rfl, hD2, hb2⟩
  have HD2 := Lib.hid hD2
  clear hD2
  have hz2 := hb1.trans (hb2.mono hb1.size)
  have hcv0 := cut_conv (HV0.out.below hz2) hl0
  have hcv1 := cut_conv (HV1.out.below hz2) hl1
  rw [HX.out, HSX.out] at hcv0
  rw [HY.out, HSY.out] at hcv1
  obtain ⟨v3, w3, hr3, hR3, hb3⟩ := bytes_rd w2 X HX0.out (by rw [HXl.out]; omega)
  rw [HSX.out] at hr3
  have hz3 := hz2.trans (hb3.mono hz2.size)
  have HR3 := Lib.hid hR3
  clear hR3
  go_wp2_with (fail)
  go_at_call 11; refine (write_bytes _ w1.heap.size _ X v3 (HD2.out.below hb3) HR3.out (by rw [HXl.out]; simp; omega)).mono ?_; rintro e w4 ⟨rfl, hD4, hb4⟩
  rw [List.nil_append] at hD4
  have HD4 := Lib.hid hD4
  clear hD4 hr3 hcv0 hcv1
  have hz4 := hz3.trans (hb4.mono hb1.size)
  go_wp2_with (fail)
  go_at_call 24; refine (trim_any _ w1.heap.size _ _ _ n HD4.out (bs_256 HX0.out) (by rw [HXl.out]; omega)).mono ?_; rintro e w5 ⟨rfl, hD5, hb5⟩
  rw [HZ.out] at hD5
  have HD5 := Lib.hid hD5
  clear hD5
  have hz5 := hz4.trans (hb5.mono hb1.size)
  go_wp2_with (fail)
  go_at_call 14; refine (bytes_own _ w1.heap.size _ _ _ HD5.out HXZ.out (by omega)).mono ?_; rintro e w6 ⟨v6, rfl, hcv6, hb6⟩
  rw [HSZ.out] at hcv6
  have hz6 := hz5.trans (hb6.mono hz5.size)
  go_wp2_with (fail)
  go_at_call 25; refine (crash_any _ w1.heap.size _ _ _ (HD5.out.below hb6)).mono ?_; rintro e w7 ⟨rfl, hD7, hb7⟩
  have HD7 := Lib.hid hD7
  clear hD7 hcv6
  have hz7 := hz6.trans (hb7.mono hb1.size)
  obtain ⟨v8, w8, hr8, hR8, hb8⟩ := bytes_rd w7 Y HX1.out (by rw [HYl.out]; omega)
  rw [HSY.out] at hr8
  clear hR8
  go_wp2_with (fail)
  have hz8 := hz7.trans (hb8.mono hz7.size)
  go_at_call 11; refine (write_down _ w1.heap.size _ _ v8 (HD7.out.below hb8)).mono ?_; rintro e w9 ⟨rfl, rfl⟩
  clear hr8
  go_wp2_with (fail)
  go_at_call 15; refine (start_any _ w1.heap.size _ _ _ (HD7.out.below hb8)).mono ?_; rintro e w10 ⟨rfl, hD10, hb10⟩
  have HD10 := Lib.hid hD10
  clear hD10
  have hz10 := hz8.trans (hb10.mono hb1.size)
  obtain ⟨v11, w11, hr11, hR11, hb11⟩ := bytes_rd w10 Y HX1.out (by rw [HYl.out]; omega)
  rw [HSY.out] at hr11
  have HR11 := Lib.hid hR11
  clear hR11
  go_wp2_with (fail)
  have hz11 := hz10.trans (hb11.mono hz10.size)
  go_at_call 11; refine (write_bytes _ w1.heap.size _ Y v11 (HD10.out.below hb11) HR11.out (by rw [HYl.out]; omega)).mono ?_; rintro e w12 ⟨rfl, hD12, hb12⟩
  have HD12 := Lib.hid hD12
  clear hD12 hr11
  have hz12 := hz11.trans (hb12.mono hb1.size)
  go_wp2_with (fail)
  go_at_call 14; refine (bytes_own _ w1.heap.size _ _ _ HD12.out HXZY.out (by simp [HYl.out]; omega)).mono ?_; rintro e w13 ⟨v13, rfl, hcv13, hb13⟩
  rw [HSQ.out] at hcv13
  have hz13 := hz12.trans (hb13.mono hz12.size)
  go_wp2_with (fail)
  go_at_call 13; refine (up_any _ _ _ (HD12.out.below hb13).up).mono ?_; rintro e w14 ⟨rfl, rfl⟩
  go_wp2_with (fail)
  go_ret
  exact ⟨rfl, hz13⟩
set_option maxHeartbeats 2000000 in
theorem trims_in (a0 a1 : Option Addr) (l0 l1 c0 c1 N0 N1 : Nat) (g0 g1 : Nat → Nat) (n : Int) (w : World) (hv0 : Rd w (.slice a0 l0 c0) l0 g0) (hv1 : Rd w (.slice a1 l1 c1) l1 g1) (hN0 : min (l0 : Int) 100 = (N0 : Int)) (hN1 : min (l1 : Int) 100 = (N1 : Int))
    (hc0 : l0 ≤ c0) (hc1 : l1 ≤ c1) (hm0 : c0 ≤ 9223372036854775807) (hm1 : c1 ≤ 9223372036854775807) (k : Nat) (hk : k ≤ N0) :
    Calls Try.prog 6 #[.slice a0 l0 c0, .slice a1 l1 c1, .int .i64 (k : Int)] w fun e w' => e = .returned (.bool true) ∧ Below w.heap.size w w' := by
  have hl0 : N0 ≤ l0 := by omega
  have hl1 : N1 ≤ l1 := by omega
  have hd0 : N0 ≤ 100 := by omega
  have hd1 : N1 ≤ 100 := by omega
  have x0 := fl_256 hv0.1 N0
  have x1 := fl_256 hv1.1 N1
  obtain ⟨X, hX⟩ : ∃ X, fl g0 N0 = X := ⟨_, rfl⟩
  obtain ⟨Y, hY⟩ : ∃ Y, fl g1 N1 = Y := ⟨_, rfl⟩
  have hXl : X.length = N0 := by rw [← hX, fl_len]
  have hYl : Y.length = N1 := by rw [← hY, fl_len]
  rw [hX] at x0
  rw [hY] at x1
  obtain ⟨Z, hZ⟩ : ∃ Z, trimL X (k : Int) = Z := ⟨_, rfl⟩
  have hZX : Z = X.take k := by
    rw [← hZ]; unfold trimL
    rw [if_pos (by omega)]; rfl
  have hZl : Z.length ≤ 100 := by rw [hZX]; simp; omega
  have xz : ∀ x ∈ Z, x < 256 := by rw [hZX]; intro x hx; exact x0 x (List.mem_of_mem_take hx)
  have xzy : ∀ x ∈ Z ++ Y, x < 256 := by intro x hx; exact (List.mem_append.1 hx).elim (xz x) (x1 x)
  obtain ⟨SX, hSX⟩ : ∃ S, strL X = S := ⟨_, rfl⟩
  obtain ⟨SY, hSY⟩ : ∃ S, strL Y = S := ⟨_, rfl⟩
  obtain ⟨SZ, hSZ⟩ : ∃ S, strL Z = S := ⟨_, rfl⟩
  obtain ⟨SQ, hSQ⟩ : ∃ S, strL (Z ++ Y) = S := ⟨_, rfl⟩
  have hsz : SX.size = N0 := by rw [← hSX, strL_size, hXl]
  have hsy : SY.size = N1 := by rw [← hSY, strL_size, hYl]
  have hszz : SZ.size = Z.length := by rw [← hSZ, strL_size]
  have hadd : SZ ++ SY = SQ := by rw [← hSZ, ← hSY, strL_append, hSQ]
  have hex : SX.extract 0 k = SZ := by rw [← hSX, strL_take, ← hSZ, hZX]
  
  have k1 : N0 ≤ c0 := by omega
  have k2 : N1 ≤ c1 := by omega
  have HV0 := Lib.hid hv0
  have HV1 := Lib.hid hv1
  have HX := Lib.hid hX
  have HY := Lib.hid hY
  have HZ := Lib.hid hZ
  have HXl := Lib.hid hXl
  have HYl := Lib.hid hYl
  have HSX := Lib.hid hSX
  have HSY := Lib.hid hSY
  have HSZ := Lib.hid hSZ
  have HSQ := Lib.hid hSQ
  have HX0 := Lib.hid x0
  have HX1 := Lib.hid x1
  have HXZ := Lib.hid xz
  have HXZY := Lib.hid xzy
  clear hv0 hv1 hX hY hZ hXl hYl hSX hSY hSZ hSQ hZX x0 x1 xz xzy
  go_enter Try.func6, Try.ntmps6
  go_wp2_with (fail)
  go_at_call 9; refine (shown_any _).mono ?_; rintro e w1 ⟨rfl, hb1⟩
  go_wp2_with (fail)
  go_at_call 10; refine (new_any _).mono ?_; rintro e w2 ⟨rfl, hD2, hb2⟩
  have HD2 := Lib.hid hD2
  clear hD2
  have hz2 := hb1.trans (hb2.mono hb1.size)
  have hcv0 := cut_conv (HV0.out.below hz2) hl0
  have hcv1 := cut_conv (HV1.out.below hz2) hl1
  rw [HX.out, HSX.out] at hcv0
  rw [HY.out, HSY.out] at hcv1
  obtain ⟨v3, w3, hr3, hR3, hb3⟩ := bytes_rd w2 X HX0.out (by rw [HXl.out]; omega)
  rw [HSX.out] at hr3
  have hz3 := hz2.trans (hb3.mono hz2.size)
  have HR3 := Lib.hid hR3
  clear hR3
  go_wp2_with (fail)
  go_at_call 11; refine (write_bytes _ w1.heap.size _ X v3 (HD2.out.below hb3) HR3.out (by rw [HXl.out]; simp; omega)).mono ?_; rintro e w4 ⟨rfl, hD4, hb4⟩
  rw [List.nil_append] at hD4
  have HD4 := Lib.hid hD4
  clear hD4 hr3 hcv0 hcv1
  have hz4 := hz3.trans (hb4.mono hb1.size)
  go_wp2_with (fail)
  go_at_call 24; refine (trim_any _ w1.heap.size _ _ _ (k : Int) HD4.out (bs_256 HX0.out) (by rw [HXl.out]; omega)).mono ?_; rintro e w5 ⟨rfl, hD5, hb5⟩
  rw [HZ.out] at hD5
  have HD5 := Lib.hid hD5
  clear hD5
  have hz5 := hz4.trans (hb5.mono hb1.size)
  go_wp2_with (fail)
  go_at_call 14; refine (bytes_own _ w1.heap.size _ _ _ HD5.out HXZ.out (by omega)).mono ?_; rintro e w6 ⟨v6, rfl, hcv6, hb6⟩
  rw [HSZ.out] at hcv6
  have hz6 := hz5.trans (hb6.mono hz5.size)
  go_wp2_with (fail)
  go_at_call 25; refine (crash_any _ w1.heap.size _ _ _ (HD5.out.below hb6)).mono ?_; rintro e w7 ⟨rfl, hD7, hb7⟩
  have HD7 := Lib.hid hD7
  clear hD7 hcv6
  have hz7 := hz6.trans (hb7.mono hb1.size)
  obtain ⟨v8, w8, hr8, hR8, hb8⟩ := bytes_rd w7 Y HX1.out (by rw [HYl.out]; omega)
  rw [HSY.out] at hr8
  clear hR8
  go_wp2_with (fail)
  have hz8 := hz7.trans (hb8.mono hz7.size)
  go_at_call 11; refine (write_down _ w1.heap.size _ _ v8 (HD7.out.below hb8)).mono ?_; rintro e w9 ⟨rfl, rfl⟩
  clear hr8
  go_wp2_with (fail)
  go_at_call 15; refine (start_any _ w1.heap.size _ _ _ (HD7.out.below hb8)).mono ?_; rintro e w10 ⟨rfl, hD10, hb10⟩
  have HD10 := Lib.hid hD10
  clear hD10
  have hz10 := hz8.trans (hb10.mono hb1.size)
  obtain ⟨v11, w11, hr11, hR11, hb11⟩ := bytes_rd w10 Y HX1.out (by rw [HYl.out]; omega)
  rw [HSY.out] at hr11
  have HR11 := Lib.hid hR11
  clear hR11
  go_wp2_with (fail)
  have hz11 := hz10.trans (hb11.mono hz10.size)
  go_at_call 11; refine (write_bytes _ w1.heap.size _ Y v11 (HD10.out.below hb11) HR11.out (by rw [HYl.out]; omega)).mono ?_; rintro e w12 ⟨rfl, hD12, hb12⟩
  have HD12 := Lib.hid hD12
  clear hD12 hr11
  have hz12 := hz11.trans (hb12.mono hb1.size)
  go_wp2_with (fail)
  go_at_call 14; refine (bytes_own _ w1.heap.size _ _ _ HD12.out HXZY.out (by simp [HYl.out]; omega)).mono ?_; rintro e w13 ⟨v13, rfl, hcv13, hb13⟩
  rw [HSQ.out] at hcv13
  have hz13 := hz12.trans (hb13.mono hz12.size)
  go_wp2_with (fail)
  go_at_call 13; refine (up_any _ _ _ (HD12.out.below hb13).up).mono ?_; rintro e w14 ⟨rfl, rfl⟩
  go_wp2_with (fail)
  go_ret
  exact ⟨rfl, hz13⟩
theorem diskTrims_any (v0 v1 : Value) (l0 l1 : Nat) (g0 g1 : Nat → Nat) (n : Int) (w : World) (hv0 : Rd w v0 l0 g0) (hv1 : Rd w v1 l1 g1) :
    Calls Try.prog 6 #[v0, v1, .int .i64 n] w fun e w' => e = .returned (.bool true) ∧ Below w.heap.size w w' := by
  obtain ⟨a0, c0, rfl, h1, h2⟩ := hv0.take
  obtain ⟨a1, c1, rfl, h3, h4⟩ := hv1.take
  have e0 : min (l0 : Int) 100 = ((min l0 100 : Nat) : Int) := by omega
  have e1 : min (l1 : Int) 100 = ((min l1 100 : Nat) : Int) := by omega
  by_cases hn : n < 0
  · exact trims_lo a0 a1 l0 l1 c0 c1 _ _ g0 g1 n w hv0 hv1 e0 e1 h1 h3 h2 h4 hn
  · by_cases hi : ((min l0 100 : Nat) : Int) < n
    · exact trims_hi a0 a1 l0 l1 c0 c1 _ _ g0 g1 n w hv0 hv1 e0 e1 h1 h3 h2 h4 (by omega) hi
    · obtain ⟨k, rfl⟩ := Int.eq_ofNat_of_zero_le (show 0 ≤ n by omega)
      exact trims_in a0 a1 l0 l1 c0 c1 _ _ g0 g1 k w hv0 hv1 e0 e1 h1 h3 h2 h4 k (by omega)
end Go.Proofs.Ytkcfcimophjomaa

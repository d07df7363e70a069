import Derived.Test.YtenmjhkmehckhaaBurst
namespace Go.Proofs.Ytenmjhkmehckhaa
open Go.RowKit
set_option linter.unusedVariables false
set_option linter.unusedSimpArgs false
theorem place_at (at_ : Int) (N : Nat) (hn : N ≤ 300) : ∃ K : Nat, (wrap64 (at_.tmod (8 * ((N : Int) + 4)) + 8 * ((N : Int) + 4))).tmod (8 * ((N : Int) + 4)) = (K : Int) ∧ K < 8 * (N + 4) := by
  generalize hn' : 8 * ((N : Int) + 4) = n
  have h0 : 0 < n := by omega
  have h1 := Int.tmod_lt_of_pos at_ h0
  have h2 := Int.lt_tmod_of_pos at_ h0
  have h3 : wrap64 (at_.tmod n + n) = at_.tmod n + n := by unfold wrap64; omega
  rw [h3]
  have h4 := Int.tmod_nonneg (a := at_.tmod n + n) n (by omega)
  have h5 := Int.tmod_lt_of_pos (at_.tmod n + n) h0
  exact ⟨((at_.tmod n + n).tmod n).toNat, by omega, by omega⟩
theorem own_at {w : World} {B : Nat} {v : Value} {n : Nat} {xs : List Nat} (h : w.ownsRow B 5 1 v n (cells8 xs)) (hn : 0 < n) (hx : xs.length = n) :
    ∃ b c, v = .slice (some ⟨b, 0, none⟩) n c ∧ n ≤ c ∧ c ≤ 9223372036854775807 ∧ B ≤ b ∧ b < w.heap.size ∧ (∀ i, i < n → w.cell? ⟨b, i, none⟩ = some (.int .u8 (xs.getD i 0 : Nat))) ∧ ∀ i, w.frozen? ⟨b, i, none⟩ = false := by
  rcases h.2 with ⟨_, h0⟩ | ⟨g, cap, cur, rfl, hb, hg, hle, hcm, hcs, ht⟩
  · omega
  · refine ⟨g, cap, rfl, hle, by unfold maxLen at hcm; omega, hb, (Array.getElem?_eq_some_iff.1 hg).1, fun i hi => ?_, fun i => frozen_of_row w g i cur 5 hg⟩
    rw [cell_of_row w g i cur 5 (0, 0) hg]
    have h2 : (cells8 xs)[i]? = some (.int .u8 (xs.getD i 0 : Nat)) := by
      unfold cells8
      rw [List.getElem?_map, List.getElem?_eq_getElem (by omega)]
      simp [List.getD, List.getElem?_eq_getElem (show i < xs.length by omega)]
    rw [← ht, List.getElem?_take, if_pos (by omega)] at h2
    simpa using h2
theorem mask_bit (mask i : Nat) (hm : mask < 4294967296) : bits .and .u32 ((mask : Int) / 2 ^ i) 1 = ((mask / 2 ^ i % 2 : Nat) : Int) := by
  have h := u32_and_nat (mask / 2 ^ i) 1 (Nat.lt_of_le_of_lt (Nat.div_le_self _ _) hm) (by omega)
  rw [Nat.and_one_is_mod] at h
  have e : ((mask / 2 ^ i : Nat) : Int) = (mask : Int) / 2 ^ i := by push_cast; rfl
  rw [e] at h
  exact h
theorem turn_byte (s : Nat → Nat) (hs : ∀ i, s i < 256) (K mask i P R : Nat) (hb : mask.testBit i = true) (hP : (K + i) / 8 = P) (hR : (K + i) % 8 = R) :
    bits .xor .u8 ((turnG s K mask i P : Nat) : Int) (2 ^ R % 256) = ((turnG s K mask (i + 1) P : Nat) : Int) := by
  have h8 : 2 ^ R < 256 := by
    have : 2 ^ R < 2 ^ 8 := Nat.pow_lt_pow_right (by omega) (by omega)
    simpa using this
  have e : ((2 : Int) ^ R % 256) = ((2 ^ R : Nat) : Int) := by
    have e1 : ((2 : Int) ^ R) = ((2 ^ R : Nat) : Int) := by push_cast; rfl
    rw [e1]; exact Int.emod_eq_of_lt (Int.natCast_nonneg _) (Int.ofNat_lt.2 h8)
  rw [e, u8_xor_nat _ _ (turnG_256 hs _ _ _ _) h8, turnG_on s K mask i P hb, hP, if_pos rfl, hR]
theorem turned_ne {g : Nat → Nat} (hg : ∀ i, g i < 256) (N K mask i : Nat) (hok : okN (turnG (sealG g N) K mask i) N = false) :
    ((bstr (turnG (sealG g N) K mask i) (N + 4)).toList == (bstr (sealG g N) (N + 4)).toList) = false := by
  rw [bstr_eq (turnG_256 (sealG_256 hg N) K mask i) (sealG_256 hg N), decide_eq_false_iff_not]
  intro h
  have hj : ∀ j, j < N + 4 → turnG (sealG g N) K mask i j = sealG g N j := by
    intro j hj
    have h1 := fl_take (turnG (sealG g N) K mask i) (N + 4) j hj
    rw [h, fl_take (sealG g N) (N + 4) j hj] at h1
    exact (Option.some.inj h1).symm
  have e : okN (turnG (sealG g N) K mask i) N = okN (sealG g N) N := by
    unfold okN
    rw [sumN_same N (fun j hjn => hj j (by omega)), hj N (by omega), hj (N + 1) (by omega), hj (N + 2) (by omega), hj (N + 3) (by omega)]
  rw [e, sealG_ok] at hok
  cases hok
set_option maxHeartbeats 4000000 in
theorem bursts_any (v1 : Value) (l1 : Nat) (at_ : Int) (mask : Nat) (g : Nat → Nat) (w : World) (hv1 : Rd w v1 l1 g) (hat : (Lit.int .i64 at_).wf = true) (hm : mask < 4294967296) :
    Calls Try.prog 5 #[v1, .int .i64 at_, .int .u32 mask] w fun e w' => e = .returned (.bool true) ∧ Below w.heap.size w w' := by
  obtain ⟨a1, c1, rfl, hc11, hc12⟩ := hv1.take
  have HR1 := Lib.hid hv1
  have HM := Lib.hid hm
  have hat' : -9223372036854775808 ≤ at_ ∧ at_ ≤ 9223372036854775807 := by
    simp [Lit.wf, IntKind.min, IntKind.max, IntKind.signed, IntKind.bits] at hat
    omega
  have HAT := Lib.hid hat'
  clear hv1 hm hat hat'
  obtain ⟨N, hN⟩ : ∃ N, min l1 300 = N := ⟨_, rfl⟩
  have F1 := fun w => Lib.hid (few_at a1 l1 c1 w hc11 hc12)
  rw [hN] at F1
  have hn1 : N ≤ 300 := by omega
  have hm1 : N ≤ c1 := by omega
  have hl1 : N ≤ l1 := by omega
  clear hN
  obtain ⟨T, hT⟩ : ∃ T, bstr g N = T := ⟨_, rfl⟩
  have HT := Lib.hid hT
  clear hT
  go_enter Try.func5, Try.ntmps5
  go_wp2_with (fail)
  go_at_call 9; refine (shown_any _).mono ?_; rintro e w1 ⟨rfl, hb1⟩
  have hz1 := hb1.size
  go_wp2_with (fail)
  go_at_call 10; refine (F1 _).out.mono ?_; rintro e w9 ⟨rfl, rfl⟩
  clear F1
  have HS1 := Lib.hid ((HR1.out.below hb1).cut hl1)
  go_wp2_with (fail)
  go_at_call 17; refine (seal_rd HS1.out (by omega)).mono ?_; rintro e w2 ⟨v2, rfl, hR2, hb2⟩
  obtain ⟨a2, c2, rfl, hc21, hc22⟩ := hR2.take
  obtain ⟨b2, off2, rfl, hcl2⟩ := hR2.at (by omega)
  clear hcl2
  have HR2 := Lib.hid hR2
  have HS2 := Lib.hid (HS1.out.below hb2)
  have hz2 := hb2.size
  clear hR2
  go_wp2_with (fail)
  go_at_call 11; refine (open_sealed HR2.out HR1.out.1 (by omega)).mono ?_; rintro e w3 ⟨v3, rfl, hR3, hb3⟩
  have hz3 := hb3.size
  have hcv3 := hR3.conv
  have hcv1 := (HS2.out.below hb3).conv
  rw [HT.out] at hcv3 hcv1
  have HR23 := Lib.hid (HR2.out.below hb3)
  clear hR3
  have own0 := own_empty w3 5
  have HR5 := Lib.hid (HR23.out.below ((Below.refl w3.heap.size w3).alloc (Nat.le_refl _) (.cells #[] 5)))
  obtain ⟨K, hK, hKn⟩ := place_at at_ N hn1
  go_wp2_with ((at_builtin; apply Classical.byContradiction; intro hstop))
  apply hstop; clear hstop
  refine wpList_append_rd _ rfl (.tmp 59) (.tmp 60) rfl w3.heap.size _ 0 [] rfl own0 _ (N + 4) (sealG g N) rfl HR5.out (by omega) (by simp) ?_; intro v4 w4 hown4 hgr4
  have hB4 : Below w3.heap.size w3 w4 := ((Below.refl _ _).alloc (Nat.le_refl _) _).grown hgr4 (by simp) (fun j hj => (own0.lt j hj).1)
  rw [List.nil_append, Nat.zero_add] at hown4
  obtain ⟨b4, c4, rfl, hc41, hc42, hb40, hb41, hcell4, hfr4⟩ := own_at hown4 (by omega) (fl_len _ _)
  have HC4 : Hid (∀ j, j < N + 4 → w4.cell? ⟨b4, j, none⟩ = some (.int .u8 (turnG (sealG g N) K mask 0 j : Nat))) := Lib.hid (fun j hj => by rw [hcell4 j hj, turnG_zero, fl_get _ _ _ hj])
  have HF4 := Lib.hid hfr4
  clear hown4 hgr4 hcell4 hfr4 own0 hcv3 hcv1
  go_wp2_with (fail)
  go_loopw [15] (fun s wr => ∃ i : Nat, i ≤ 32 ∧ K + i ≤ 8 * (N + 4) ∧ s = .int .i64 i ∧ (∀ j, j < N + 4 → wr.cell? ⟨b4, j, none⟩ = some (.int .u8 (turnG (sealG g N) K mask i j : Nat))) ∧ (∀ j, wr.frozen? ⟨b4, j, none⟩ = false) ∧ b4 < wr.heap.size ∧ Below w3.heap.size w4 wr) (fun s _ => 32 - (intOf s).toNat)
  case atStart => exact ⟨0, by omega, by omega, rfl, HC4.out, HF4.out, hb41, Below.refl _ _⟩
  case round =>
    obtain ⟨i, hi32, hin, rfl, hcells, hfr, hbl, hbel⟩ := hrel
    have HCE := Lib.hid hcells
    have HFR := Lib.hid hfr
    clear hcells hfr
    by_cases hgo : i < 32 ∧ K + i < 8 * (N + 4)
    · obtain ⟨hg1, hg2⟩ := hgo
      have hg3 : ((K : Int) + (i : Int) < 8 * ((N : Int) + 4)) := by omega
      have hmb := mask_bit mask i HM.out
      cases hbit : mask.testBit i with
      | false =>
        have hb0 : mask / 2 ^ i % 2 = 0 := by
          have := Nat.testBit_eq_decide_div_mod_eq (x := mask) (i := i)
          rw [hbit] at this
          have := (decide_eq_false_iff_not.1 this.symm)
          omega
        rw [hb0] at hmb
        have HB := Lib.hid hbit
        clear hbit hb0
        go_wp2_with (fail)
        go_roundw
        case rel => exact ⟨i + 1, by omega, by omega, by go_num, fun j hj => by rw [turnG_off _ _ _ _ _ HB.out]; exact HCE.out j hj, HFR.out, hbl, hbel⟩
        case measure => simp [intOf]; omega
      | true =>
        have hb0 : mask / 2 ^ i % 2 = 1 := by
          have := Nat.testBit_eq_decide_div_mod_eq (x := mask) (i := i)
          rw [hbit] at this
          exact of_decide_eq_true this.symm
        rw [hb0] at hmb
        have HB := Lib.hid hbit
        obtain ⟨P, hP⟩ : ∃ P, (K + i) / 8 = P := ⟨_, rfl⟩
        obtain ⟨R, hR⟩ : ∃ R, (K + i) % 8 = R := ⟨_, rfl⟩
        have hPl : P < N + 4 := by omega
        have hR8 : R < 8 := by omega
        have t1 : ((K : Int) + (i : Int)).tdiv 8 = (P : Int) := by rw [Int.tdiv_eq_ediv_of_nonneg (by omega)]; omega
        have t2 : ((K : Int) + (i : Int)).tmod 8 = (R : Int) := by rw [Int.tmod_eq_emod_of_nonneg (by omega)]; omega
        have t3 : ((K : Int) + (i : Int)) / 8 = (P : Int) := by omega
        have t4 : ((K : Int) + (i : Int)) % 8 = (R : Int) := by omega
        have bx := turn_byte (sealG g N) (sealG_256 HR1.out.1 N) K mask i P R hbit hP hR
        have rt := HCE.out P hPl
        have ft := HFR.out P
        have HP := Lib.hid hP
        have HRm := Lib.hid hR
        clear hbit hb0 hP hR
        go_wp2_with (fail)
        go_region
        go_wp2_with (fail)
        go_roundw
        case rel =>
          refine ⟨i + 1, by omega, by omega, by go_num, fun j hj => ?_, fun j => ?_, ?_, ?_⟩
          · have hcj := HCE.out j hj
            by_cases hjk : j = P
            · subst hjk
              exact World.cell?_setCell_same _ _ _ rt
            · have hne : (⟨b4, P, none⟩ : Addr) ≠ ⟨b4, j, none⟩ := fun h => hjk (by injection h with _ h2 _; exact h2.symm)
              have h3 := World.cell?_setCell_other wr (⟨b4, P, none⟩ : Addr) ⟨b4, j, none⟩ (.int .u8 (turnG (sealG g N) K mask (i + 1) P : Nat)) hne
              have e1 : turnG (sealG g N) K mask (i + 1) j = turnG (sealG g N) K mask i j := by
                rw [turnG_on _ _ _ _ _ HB.out, if_neg (by rw [HP.out]; exact hjk), Nat.xor_zero]
              rw [e1]
              exact h3.trans hcj
          · have := HFR.out j
            simpa using this
          · simpa using hbl
          · exact (hbel.setCell hb40 _).drew
        case measure => simp [intOf]; omega
    · by_cases h32 : i < 32
      · have hg3 : ¬ ((K : Int) + (i : Int) < 8 * ((N : Int) + 4)) := by omega
        have hRt : Hid (Rd wr (.slice (some ⟨b4, 0, none⟩) (N + 4) c4) (N + 4) (turnG (sealG g N) K mask i)) := Lib.hid ⟨turnG_256 (sealG_256 HR1.out.1 N) K mask i, .inr ⟨by omega, b4, 0, c4, rfl, hc41, hc42, hbl, fun j hj => by rw [Nat.zero_add]; exact HCE.out j hj⟩⟩
        have hok := turned_ok HR1.out.1 N K mask i HM.out hin
        have OP := fun (w : World) (h : Rd w (.slice (some ⟨b4, 0, none⟩) (N + 4) c4) (N + 4) (turnG (sealG g N) K mask i)) => Lib.hid (open_any h (by omega))
        have hz4 : w3.heap.size ≤ wr.heap.size := Nat.le_trans hB4.size hbel.size
        have HSr : Hid (Rd wr (.slice (some ⟨b2, off2, none⟩) (N + 4) c2) (N + 4) (sealG g N)) := Lib.hid (HR23.out.below (hB4.trans hbel))
        have HBZ : Hid (Below w.heap.size w wr) := Lib.hid (((hb1.trans (hb2.mono hz1)).trans (hb3.mono (Nat.le_trans hz1 hz2))).trans ((hB4.trans hbel).mono (Nat.le_trans (Nat.le_trans hz1 hz2) hz3)))
        by_cases h0 : mask % 2 ^ i = 0
        · rw [decide_eq_true h0] at hok
          have he : turnG (sealG g N) K mask i = sealG g N := by
            funext j
            unfold turnG turnX
            rw [h0]; simp [byteOf]
          have h1 : (decide (4 ≤ N + 4) && okN (turnG (sealG g N) K mask i) (N + 4 - 4)) = true := by rw [Nat.add_sub_cancel, hok]; simp
          rw [h1, he] at OP
          rw [he] at hRt
          obtain ⟨T1, hT1⟩ : ∃ T, bstr (sealG g N) (N + 4) = T := ⟨_, rfl⟩
          have HT1 := Lib.hid hT1
          clear hok he h1 hT1 h0
          go_wp2_with (fail)
          go_at_call 11; refine (OP _ hRt.out).out.mono ?_; rintro e w5 ⟨v5, rfl, hR5, hb5⟩
          have cva := (hRt.out.below hb5).conv
          have cvb := (HSr.out.below hb5).conv
          rw [HT1.out] at cva cvb
          clear hR5 OP
          go_wp2_with (fail)
          go_ret
          exact ⟨rfl, HBZ.out.trans (hb5.mono HBZ.out.size)⟩
        · rw [decide_eq_false h0] at hok
          have h1 : (decide (4 ≤ N + 4) && okN (turnG (sealG g N) K mask i) (N + 4 - 4)) = false := by rw [Nat.add_sub_cancel, hok]; simp
          rw [h1] at OP
          have hne := turned_ne HR1.out.1 N K mask i hok
          obtain ⟨T1, hT1⟩ : ∃ T, bstr (sealG g N) (N + 4) = T := ⟨_, rfl⟩
          obtain ⟨T2, hT2⟩ : ∃ T, bstr (turnG (sealG g N) K mask i) (N + 4) = T := ⟨_, rfl⟩
          rw [hT1, hT2] at hne
          have HT1 := Lib.hid hT1
          have HT2 := Lib.hid hT2
          clear hok h1 hT1 hT2 h0
          go_wp2_with (fail)
          go_at_call 11; refine (OP _ hRt.out).out.mono ?_; rintro e w5 ⟨v5, rfl, hR5, hb5⟩
          have cva := (hRt.out.below hb5).conv
          have cvb := (HSr.out.below hb5).conv
          rw [HT2.out] at cva
          rw [HT1.out] at cvb
          obtain ⟨a5, c5, rfl, hc51, hc52⟩ := hR5.take
          clear hR5 OP
          go_wp2_with (fail)
          go_ret
          exact ⟨rfl, HBZ.out.trans (hb5.mono HBZ.out.size)⟩
      · have hi : i = 32 := by omega
        subst hi
        have hRt : Hid (Rd wr (.slice (some ⟨b4, 0, none⟩) (N + 4) c4) (N + 4) (turnG (sealG g N) K mask 32)) := Lib.hid ⟨turnG_256 (sealG_256 HR1.out.1 N) K mask 32, .inr ⟨by omega, b4, 0, c4, rfl, hc41, hc42, hbl, fun j hj => by rw [Nat.zero_add]; exact HCE.out j hj⟩⟩
        have hok := turned_ok HR1.out.1 N K mask 32 HM.out hin
        have OP := fun (w : World) (h : Rd w (.slice (some ⟨b4, 0, none⟩) (N + 4) c4) (N + 4) (turnG (sealG g N) K mask 32)) => Lib.hid (open_any h (by omega))
        have hz4 : w3.heap.size ≤ wr.heap.size := Nat.le_trans hB4.size hbel.size
        have HSr : Hid (Rd wr (.slice (some ⟨b2, off2, none⟩) (N + 4) c2) (N + 4) (sealG g N)) := Lib.hid (HR23.out.below (hB4.trans hbel))
        have HBZ : Hid (Below w.heap.size w wr) := Lib.hid (((hb1.trans (hb2.mono hz1)).trans (hb3.mono (Nat.le_trans hz1 hz2))).trans ((hB4.trans hbel).mono (Nat.le_trans (Nat.le_trans hz1 hz2) hz3)))
        by_cases h0 : mask % 2 ^ 32 = 0
        · rw [decide_eq_true h0] at hok
          have he : turnG (sealG g N) K mask 32 = sealG g N := by
            funext j
            unfold turnG turnX
            rw [h0]; simp [byteOf]
          have h1 : (decide (4 ≤ N + 4) && okN (turnG (sealG g N) K mask 32) (N + 4 - 4)) = true := by rw [Nat.add_sub_cancel, hok]; simp
          rw [h1, he] at OP
          rw [he] at hRt
          obtain ⟨T1, hT1⟩ : ∃ T, bstr (sealG g N) (N + 4) = T := ⟨_, rfl⟩
          have HT1 := Lib.hid hT1
          clear hok he h1 hT1 h0
          go_wp2_with (fail)
          go_at_call 11; refine (OP _ hRt.out).out.mono ?_; rintro e w5 ⟨v5, rfl, hR5, hb5⟩
          have cva := (hRt.out.below hb5).conv
          have cvb := (HSr.out.below hb5).conv
          rw [HT1.out] at cva cvb
          clear hR5 OP
          go_wp2_with (fail)
          go_ret
          exact ⟨rfl, HBZ.out.trans (hb5.mono HBZ.out.size)⟩
        · rw [decide_eq_false h0] at hok
          have h1 : (decide (4 ≤ N + 4) && okN (turnG (sealG g N) K mask 32) (N + 4 - 4)) = false := by rw [Nat.add_sub_cancel, hok]; simp
          rw [h1] at OP
          have hne := turned_ne HR1.out.1 N K mask 32 hok
          obtain ⟨T1, hT1⟩ : ∃ T, bstr (sealG g N) (N + 4) = T := ⟨_, rfl⟩
          obtain ⟨T2, hT2⟩ : ∃ T, bstr (turnG (sealG g N) K mask 32) (N + 4) = T := ⟨_, rfl⟩
          rw [hT1, hT2] at hne
          have HT1 := Lib.hid hT1
          have HT2 := Lib.hid hT2
          clear hok h1 hT1 hT2 h0
          go_wp2_with (fail)
          go_at_call 11; refine (OP _ hRt.out).out.mono ?_; rintro e w5 ⟨v5, rfl, hR5, hb5⟩
          have cva := (hRt.out.below hb5).conv
          have cvb := (HSr.out.below hb5).conv
          rw [HT2.out] at cva
          rw [HT1.out] at cvb
          obtain ⟨a5, c5, rfl, hc51, hc52⟩ := hR5.take
          clear hR5 OP
          go_wp2_with (fail)
          go_ret
          exact ⟨rfl, HBZ.out.trans (hb5.mono HBZ.out.size)⟩
end Go.Proofs.Ytenmjhkmehckhaa

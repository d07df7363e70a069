import Derived.Test.YtkcfcimophjomaaLt
import Derived.LoopTactic
import Derived.Laws.BitsAllLaws
import Derived.Laws.OwnMore
import Derived.IntWalk
namespace Go.Proofs.Ytkcfcimophjomaa
open Go.RowKit
set_option linter.unusedVariables false
set_option linter.unusedSimpArgs false
attribute [local go_sem high] min_mx max_mx
theorem few_any {v : Value} {n N : Nat} {g : Nat → Nat} {w : World} (h : Rd w v n g) (hN : min (n : Int) 60 = (N : Int)) : Calls Try.prog 32 #[v] w fun e w' => ∃ v', e = .returned v' ∧ w'.ownsRow w.heap.size 5 1 v' N (cells8 (fl g N)) ∧ Below w.heap.size w w' := by
  obtain ⟨a, c, rfl, hc, hm⟩ := h.take
  have hNn : N ≤ n := by omega
  have hN60 : N ≤ 60 := by omega
  have k1 : N ≤ c := by omega
  have hR : Rd (w.alloc (.cells #[] 5)) (.slice a N c) N g := (h.cut hNn).below ((Below.refl _ _).alloc (Nat.le_refl _) _)
  have own0 := own_empty w 5
  clear h
  go_enter Try.func32, Try.ntmps32
  go_wp2_with (at_builtin; refine wpList_append_rd _ rfl (.tmp 3) (.tmp 8) rfl w.heap.size _ 0 [] rfl own0 _ N g rfl hR (by omega) (by simp) ?_; intro v3 w3 hown3 hgr3)
  go_ret
  exact ⟨_, rfl, by simpa using hown3, ((Below.refl _ _).alloc (Nat.le_refl _) _).grown hgr3 (by simp) (fun k hk => (own0.lt k hk).1)⟩
/-- One bit of a row of bytes is turned, or none. -/
def turnB (xs : List Nat) (p b : Nat) : List Nat := xs.set (p / 8) (xs.getD (p / 8) 0 ^^^ (b * 2 ^ (p % 8)))
def bL (xs : List Nat) (F mask : Nat) : Nat → List Nat
  | 0 => xs
  | t + 1 => turnB (bL xs F mask t) (F + t) (mask / 2 ^ t % 2)
theorem bL_len (xs : List Nat) (F mask : Nat) : ∀ t, (bL xs F mask t).length = xs.length
  | 0 => rfl
  | t + 1 => by simp [bL, turnB, bL_len xs F mask t]
theorem bs_256' {bs : List Nat} (h : ∀ x ∈ bs, x < 256) : ∀ i, bs.getD i 0 < 256 := by
  intro i
  rcases Nat.lt_or_ge i bs.length with hi | hi
  · rw [List.getD_eq_getElem?_getD, List.getElem?_eq_getElem hi]; exact h _ (List.getElem_mem hi)
  · rw [List.getD_eq_getElem?_getD, List.getElem?_eq_none hi]; simp
theorem wrap_bit (b s : Nat) (hb : b < 2) (hs : s < 8) : IntKind.u8.wrap (IntKind.u8.wrap (b : Int) * 2 ^ s) = ((b * 2 ^ s : Nat) : Int) ∧ b * 2 ^ s < 256 := by
  match b, hb, s, hs with
  | 0, _, 0, _ => decide +kernel
  | 0, _, 1, _ => decide +kernel
  | 0, _, 2, _ => decide +kernel
  | 0, _, 3, _ => decide +kernel
  | 0, _, 4, _ => decide +kernel
  | 0, _, 5, _ => decide +kernel
  | 0, _, 6, _ => decide +kernel
  | 0, _, 7, _ => decide +kernel
  | 1, _, 0, _ => decide +kernel
  | 1, _, 1, _ => decide +kernel
  | 1, _, 2, _ => decide +kernel
  | 1, _, 3, _ => decide +kernel
  | 1, _, 4, _ => decide +kernel
  | 1, _, 5, _ => decide +kernel
  | 1, _, 6, _ => decide +kernel
  | 1, _, 7, _ => decide +kernel
theorem turn_val (x mask t s : Nat) (hx : x < 256) (hm : mask < 4294967296) (hs : s < 8) :
    bits .xor .u8 (x : Int) (IntKind.u8.wrap (IntKind.u8.wrap (bits .and .u32 ((mask : Int) / 2 ^ t) 1) * 2 ^ s)) = ((x ^^^ (mask / 2 ^ t % 2 * 2 ^ s) : Nat) : Int) ∧ x ^^^ (mask / 2 ^ t % 2 * 2 ^ s) < 256 := by
  have h1 : (mask : Int) / 2 ^ t = ((mask / 2 ^ t : Nat) : Int) := by push_cast; rfl
  have h2 : mask / 2 ^ t < 4294967296 := Nat.lt_of_le_of_lt (Nat.div_le_self _ _) hm
  have h3 : bits .and .u32 ((mask / 2 ^ t : Nat) : Int) 1 = ((mask / 2 ^ t % 2 : Nat) : Int) := by
    have := u32_and_nat (mask / 2 ^ t) 1 h2 (by omega)
    rw [Nat.and_one_is_mod] at this
    exact this
  obtain ⟨h4, h5⟩ := wrap_bit (mask / 2 ^ t % 2) s (by omega) hs
  rw [h1, h3, h4, u8_xor_nat x _ hx h5]
  exact ⟨rfl, Nat.xor_lt_two_pow (n := 8) hx h5⟩
theorem turnB_256 {xs : List Nat} (h : ∀ x ∈ xs, x < 256) (F mask : Nat) (hm : mask < 4294967296) : ∀ t, ∀ x ∈ bL xs F mask t, x < 256
  | 0 => h
  | t + 1 => by
    intro x hx
    have ih := turnB_256 h F mask hm t
    unfold bL turnB at hx
    rcases List.mem_or_eq_of_mem_set hx with h1 | h1
    · exact ih x h1
    · rw [h1]
      exact (turn_val _ mask t _ (bs_256' ih _) hm (Nat.mod_lt _ (by omega))).2
set_option maxHeartbeats 1000000 in
theorem burst_at (w : World) (v : Value) (n F T mask : Nat) (bit B : Int) (g : Nat → Nat) (h : Rd w v n g) (hn : n ≤ 60) (h0 : 0 < n) (hb1 : -1000000 ≤ bit) (hb2 : bit ≤ 1000000) (hB : bit.tmod (8 * (n : Int)) = B) (hB1 : -(8 * (n : Int)) ≤ B) (hB2 : B ≤ 8 * (n : Int)) (hF : B % (8 * (n : Int)) = (F : Int)) (hT : min (32 : Int) (8 * (n : Int) - F) = (T : Int)) (hmask : mask < 4294967296) :
    Calls Try.prog 33 #[v, .int .i64 bit, .int .u32 mask] w fun e w' => ∃ v', e = .returned v' ∧ w'.ownsRow w.heap.size 5 1 v' n (cells8 (bL (fl g n) F mask T)) ∧ Below w.heap.size w w' := by
  have HR := Lib.hid h
  have hF0 : F < 8 * n := by
    have := Int.emod_lt_of_pos B (show 0 < 8 * (n : Int) by omega)
    omega
  have hTF : F + T ≤ 8 * n := by omega
  have hT32 : T ≤ 32 := by omega
  have q0 : ((8 * (n : Int)) == 0) = false := by rw [beq_eq_false_iff_ne]; omega
  have q1 : ¬ (8 * (n : Int) = 0) := by omega
  have hF1 : (B + 8 * (n : Int)).tmod (8 * (n : Int)) = (F : Int) := by rw [Int.tmod_eq_emod_of_nonneg (by omega), Int.add_emod_right]; exact hF
  clear h
  go_enter Try.func33, Try.ntmps33
  go_wp2_with (fail)
  go_at_call 34; refine (clone8 HR.out (by omega)).mono ?_; rintro e w2 ⟨v2, rfl, ho2, hb2'⟩
  have hg256 := HR.out.1
  obtain ⟨b2, c2, rfl, hc1, hc2, hbw, _⟩ := own_at ho2 h0 (by rw [fl_len])
  have HO2 := Lib.hid ho2
  have HG := Lib.hid hg256
  clear ho2 hg256
  go_wp2_with (fail)
  clear hB hF hF1 hT
  go_loopw [31] (fun s wr => ∃ t : Nat, t ≤ T ∧ s = .int .i64 (t : Int) ∧ wr.ownsRow w.heap.size 5 1 (.slice (some ⟨b2, 0, none⟩) n c2) n (cells8 (bL (fl g n) F mask t)) ∧ Below w.heap.size w wr) (fun s _ => T - (intOf s).toNat)
  case atStart => exact ⟨0, by omega, rfl, HO2.out, hb2'⟩
  case round =>
    obtain ⟨t, ht, rfl, hot, hbt⟩ := hrel
    by_cases hlt : t < T
    · have k1 : (t : Int) < (T : Int) := by omega
      obtain ⟨j, hj⟩ : ∃ j, (F + t) / 8 = j := ⟨_, rfl⟩
      have hjn : j < n := by omega
      have k2 : ((F : Int) + (t : Int)) / 8 = (j : Int) := by omega
      have k3 : (j : Int) < (n : Int) := by omega
      have k4 : (0 : Int) ≤ (j : Int) := by omega
      obtain ⟨s, hs⟩ : ∃ s, (F + t) % 8 = s := ⟨_, rfl⟩
      have k5 : ((F : Int) + (t : Int)) % 8 = (s : Int) := by omega
      have hs8 : s < 8 := by omega
      have k6 : IntKind.i64.wrap ((F : Int) + (t : Int)) = (F : Int) + (t : Int) := IntWalk.i64_in _ (by omega)
      have k7 : ((F : Int) + (t : Int)).tdiv 8 = (j : Int) := by rw [Int.tdiv_eq_ediv_of_nonneg (by omega)]; exact k2
      have k8 : ((F : Int) + (t : Int)).tmod 8 = (s : Int) := by rw [Int.tmod_eq_emod_of_nonneg (by omega)]; exact k5
      have k9 : IntKind.i64.wrap (j : Int) = (j : Int) := IntWalk.i64_in _ (by omega)
      have k10 : IntKind.i64.wrap (s : Int) = (s : Int) := IntWalk.i64_in _ (by omega)
      obtain ⟨X, hX⟩ : ∃ X, bL (fl g n) F mask t = X := ⟨_, rfl⟩
      have hXl : X.length = n := by rw [← hX, bL_len, fl_len]
      rw [hX] at hot
      have hX256 : ∀ y ∈ X, y < 256 := by rw [← hX]; exact turnB_256 (fl_256 HG.out n) F mask hmask t
      obtain ⟨xj, hxj⟩ : ∃ xj, X.getD j 0 = xj := ⟨_, rfl⟩
      have hxj256 : xj < 256 := by rw [← hxj]; exact bs_256' hX256 j
      obtain ⟨hval, hval2⟩ := turn_val xj mask t s hxj256 hmask hs8
      obtain ⟨Y, hY⟩ : ∃ Y, xj ^^^ (mask / 2 ^ t % 2 * 2 ^ s) = Y := ⟨_, rfl⟩
      rw [hY] at hval
      have hst := hot.stored j (.int .u8 (Y : Int))
      have hset : (cells8 X).set j (.int .u8 (Y : Int)) = cells8 (bL (fl g n) F mask (t + 1)) := by
        unfold bL turnB cells8
        rw [hX, hj, hs, hxj, hY, List.map_set]
      rw [hset] at hst
      have HST := Lib.hid hst
      have hc := hot.cellAt j (by omega)
      have hcj : wr.cell? ⟨b2, j, none⟩ = some (.int .u8 (xj : Nat)) := by
        rw [hc, ← hxj]; unfold cells8
        rw [List.getElem?_map, List.getElem?_eq_getElem (by omega)]
        simp [List.getD, List.getElem?_eq_getElem (show j < X.length by omega)]
      have hfj := hot.frozenAt j
      have HOT := Lib.hid hot
      have HX := Lib.hid hX
      have HJ := Lib.hid hj
      have HS := Lib.hid hs
      clear hot hX hc hj hs hst hset hX256 hY hxj hval2
      go_wp2_with (fail)
      refine wp_region_any (by kernel_rfl) ?_
      change wpAny _ _ _ _ _ _ _ (World.drew _)
      refine take_at (i := 0) (v := ?_) 37 rfl (by kernel_rfl) (by kernel_rfl) (by kernel_rfl) rfl (fun _ _ _ h => h) (Or.inl ⟨by rfl, ?_⟩) ?_
      rotate_left; (intro w; go_simp; try with_reducible rfl); try simp only [Act.put, List.setIfInBounds_toArray, List.set_cons_zero, List.set_cons_succ]
      refine take_at (i := 1) (v := ?_) 38 rfl (by kernel_rfl) (by kernel_rfl) (by kernel_rfl) rfl (fun _ _ _ h => h) (Or.inl ⟨by rfl, ?_⟩) ?_
      rotate_left; (intro w; go_simp; try with_reducible rfl); try simp only [Act.put, List.setIfInBounds_toArray, List.set_cons_zero, List.set_cons_succ]
      refine take_at (i := 2) (v := ?_) 39 rfl (by kernel_rfl) (by kernel_rfl) (by kernel_rfl) rfl (fun _ _ _ h => h) (Or.inl ⟨by rfl, ?_⟩) ?_
      rotate_left; (intro w; go_simp; try with_reducible rfl); try simp only [Act.put, List.setIfInBounds_toArray, List.set_cons_zero, List.set_cons_succ]
      refine take_at (i := 3) (v := ?_) 40 rfl (by kernel_rfl) (by kernel_rfl) (by kernel_rfl) rfl (fun _ _ _ h => h) (Or.inl ⟨by rfl, ?_⟩) ?_
      rotate_left; (intro w; go_simp; try with_reducible rfl); try simp only [Act.put, List.setIfInBounds_toArray, List.set_cons_zero, List.set_cons_succ]
      refine take_at (i := 5) (v := ?_) 42 rfl (by kernel_rfl) (by kernel_rfl) (by kernel_rfl) rfl (fun _ _ _ h => h) (Or.inl ⟨by rfl, ?_⟩) ?_
      rotate_left; (intro w; go_simp; try with_reducible rfl); try simp only [Act.put, List.setIfInBounds_toArray, List.set_cons_zero, List.set_cons_succ]
      refine take_at (i := 6) (v := ?_) 43 rfl (by kernel_rfl) (by kernel_rfl) (by kernel_rfl) rfl (fun _ _ _ h => h) (Or.inl ⟨by rfl, ?_⟩) ?_
      rotate_left; (intro w; go_simp; try with_reducible rfl); try simp only [Act.put, List.setIfInBounds_toArray, List.set_cons_zero, List.set_cons_succ]
      refine take_at (i := 7) (v := ?_) 44 rfl (by kernel_rfl) (by kernel_rfl) (by kernel_rfl) rfl (fun _ _ _ h => h) (Or.inl ⟨by rfl, ?_⟩) ?_
      rotate_left; (intro w; go_simp; try with_reducible rfl); try simp only [Act.put, List.setIfInBounds_toArray, List.set_cons_zero, List.set_cons_succ]
      refine take_at (i := 8) (v := ?_) 45 rfl (by kernel_rfl) (by kernel_rfl) (by kernel_rfl) rfl (fun _ _ _ h => h) (Or.inl ⟨by rfl, ?_⟩) ?_
      rotate_left; (intro w; go_simp; try with_reducible rfl); try simp only [Act.put, List.setIfInBounds_toArray, List.set_cons_zero, List.set_cons_succ]
      refine take_at (i := 10) (v := ?_) 47 rfl (by kernel_rfl) (by kernel_rfl) (by kernel_rfl) rfl (fun _ _ _ h => h) (Or.inl ⟨by rfl, ?_⟩) ?_
      rotate_left; (intro w; go_simp; try with_reducible rfl); try simp only [Act.put, List.setIfInBounds_toArray, List.set_cons_zero, List.set_cons_succ]
      refine take_at (i := 11) (v := ?_) 48 rfl (by kernel_rfl) (by kernel_rfl) (by kernel_rfl) rfl (fun _ _ _ h => h) (Or.inl ⟨by rfl, ?_⟩) ?_
      rotate_left; (intro w; go_simp; try with_reducible rfl); try simp only [Act.put, List.setIfInBounds_toArray, List.set_cons_zero, List.set_cons_succ]
      refine wpAny_ready (rs := [4, 9]) (by kernel_rfl) (by simp) ?_
      refine AllReady.cons rfl (fun K hK => ?_) (AllReady.cons rfl (fun K hK => ?_) AllReady.nil)
      · skip
        go_simp
        refine hK _ _ ?_
        clear hK K
        try simp only [Act.put, List.setIfInBounds_toArray, List.set_cons_zero, List.set_cons_succ]
        refine wpAny_ready (rs := [9]) (by kernel_rfl) (by simp) ?_
        refine AllReady.cons rfl (fun K hK => ?_) AllReady.nil
        go_simp
        refine hK _ _ ?_
        clear hK K
        try simp only [Act.put, List.setIfInBounds_toArray, List.set_cons_zero, List.set_cons_succ]
        refine take_at (i := 12) (v := ?_) 49 rfl (by kernel_rfl) (by kernel_rfl) (by kernel_rfl) rfl (fun _ _ _ h => h) (Or.inl ⟨by rfl, ?_⟩) ?_
        rotate_left; (intro w; go_simp; try with_reducible rfl); try simp only [Act.put, List.setIfInBounds_toArray, List.set_cons_zero, List.set_cons_succ]
        refine take_at (i := 13) (v := ?_) 50 rfl (by kernel_rfl) (by kernel_rfl) (by kernel_rfl) rfl (fun _ _ _ h => h) (Or.inl ⟨by rfl, ?_⟩) ?_
        rotate_left; (intro w; go_simp; try with_reducible rfl); try simp only [Act.put, List.setIfInBounds_toArray, List.set_cons_zero, List.set_cons_succ]
        refine take_at (i := 14) (v := ?_) 51 rfl (by kernel_rfl) (by kernel_rfl) (by kernel_rfl) rfl (fun _ _ _ h => h) (Or.inl ⟨by rfl, ?_⟩) ?_
        rotate_left; (intro w; go_simp; try with_reducible rfl); try simp only [Act.put, List.setIfInBounds_toArray, List.set_cons_zero, List.set_cons_succ]
        refine wpAny_ready (rs := [15]) (by kernel_rfl) (by simp) ?_
        refine AllReady.cons rfl (fun K hK => ?_) AllReady.nil
        go_simp
        refine hK _ _ ?_
        clear hK K
        try simp only [Act.put, List.setIfInBounds_toArray, List.set_cons_zero, List.set_cons_succ]
        refine wpAny_done (by kernel_rfl) ?_ _
        go_wp2_with (fail)
        go_roundw
        case rel => exact ⟨t + 1, by omega, by go_num, HST.out.1.drew, (hbt.setCell hbw _).drew⟩
        case measure => simp [intOf]; omega
      · skip
        go_simp
        refine hK _ _ ?_
        clear hK K
        try simp only [Act.put, List.setIfInBounds_toArray, List.set_cons_zero, List.set_cons_succ]
        refine take_at (i := 12) (v := ?_) 49 rfl (by kernel_rfl) (by kernel_rfl) (by kernel_rfl) rfl (fun _ _ _ h => h) (Or.inl ⟨by rfl, ?_⟩) ?_
        rotate_left; (intro w; go_simp; try with_reducible rfl); try simp only [Act.put, List.setIfInBounds_toArray, List.set_cons_zero, List.set_cons_succ]
        refine wpAny_ready (rs := [4]) (by kernel_rfl) (by simp) ?_
        refine AllReady.cons rfl (fun K hK => ?_) AllReady.nil
        go_simp
        refine hK _ _ ?_
        clear hK K
        try simp only [Act.put, List.setIfInBounds_toArray, List.set_cons_zero, List.set_cons_succ]
        refine take_at (i := 13) (v := ?_) 50 rfl (by kernel_rfl) (by kernel_rfl) (by kernel_rfl) rfl (fun _ _ _ h => h) (Or.inl ⟨by rfl, ?_⟩) ?_
        rotate_left; (intro w; go_simp; try with_reducible rfl); try simp only [Act.put, List.setIfInBounds_toArray, List.set_cons_zero, List.set_cons_succ]
        refine take_at (i := 14) (v := ?_) 51 rfl (by kernel_rfl) (by kernel_rfl) (by kernel_rfl) rfl (fun _ _ _ h => h) (Or.inl ⟨by rfl, ?_⟩) ?_
        rotate_left; (intro w; go_simp; try with_reducible rfl); try simp only [Act.put, List.setIfInBounds_toArray, List.set_cons_zero, List.set_cons_succ]
        refine wpAny_ready (rs := [15]) (by kernel_rfl) (by simp) ?_
        refine AllReady.cons rfl (fun K hK => ?_) AllReady.nil
        go_simp
        refine hK _ _ ?_
        clear hK K
        try simp only [Act.put, List.setIfInBounds_toArray, List.set_cons_zero, List.set_cons_succ]
        refine wpAny_done (by kernel_rfl) ?_ _
        go_wp2_with (fail)
        go_roundw
        case rel => exact ⟨t + 1, by omega, by go_num, HST.out.1.drew, (hbt.setCell hbw _).drew⟩
        case measure => simp [intOf]; omega
    · obtain rfl : t = T := by omega
      go_wp2_with (fail)
      go_ret
      exact ⟨_, rfl, hot, hbt⟩
end Go.Proofs.Ytkcfcimophjomaa

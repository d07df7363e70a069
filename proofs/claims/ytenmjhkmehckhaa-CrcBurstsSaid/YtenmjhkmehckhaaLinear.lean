import Derived.Test.YtenmjhkmehckhaaParts
import Derived.Test.YtenmjhkmehckhaaLin
import Derived.OwnWalk
import Derived.Laws.CopyOwn
namespace Go.Proofs.Ytenmjhkmehckhaa
open Go.RowKit
set_option linter.unusedVariables false
set_option linter.unusedSimpArgs false
/-- A block of bytes. -/
def Row8 (w : World) (b : Nat) (l : List Nat) : Prop := w.heap[b]? = some (.cells (cells8 l).toArray 5 (0, 0))
theorem Row8.below {w w' : World} {B b : Nat} {l : List Nat} (h : Row8 w b l) (hb : Below B w w') (hB : b < B) : Row8 w' b l := (hb.block b hB).trans h
theorem Row8.lt {w : World} {b : Nat} {l : List Nat} (h : Row8 w b l) : b < w.heap.size := (Array.getElem?_eq_some_iff.1 h).1
theorem Row8.cell {w : World} {b : Nat} {l : List Nat} (h : Row8 w b l) (i : Nat) (hi : i < l.length) : w.cell? ⟨b, i, none⟩ = some (.int .u8 (l.getD i 0 : Nat)) := by
  rw [cell_of_row w b i _ 5 (0, 0) h]
  unfold cells8
  simp [List.getElem?_map, List.getElem?_eq_getElem hi]
theorem Row8.rd {w : World} {b : Nat} {l : List Nat} (h : Row8 w b l) (hl : ∀ i, l.getD i 0 < 256) (hm : l.length ≤ 100000) (n : Nat) (hn : l.length = n) : Rd w (.slice (some ⟨b, 0, none⟩) n n) n (fun i => l.getD i 0) := by
  subst hn
  rcases Nat.eq_zero_or_pos l.length with h0 | h0
  · rw [h0]; exact ⟨hl, .inl ⟨rfl, _, 0, rfl, by omega⟩⟩
  · exact ⟨hl, .inr ⟨h0, b, 0, l.length, rfl, Nat.le_refl _, by omega, h.lt, fun i hi => by rw [Nat.zero_add]; exact h.cell i hi⟩⟩
theorem made8 (n : Nat) : (madeCells (Value.int IntKind.u8 0).cells (n * 1)).toList = cells8 (List.replicate n 0) := by
  apply List.ext_getElem?
  intro i
  unfold madeCells cells8
  rcases Nat.lt_or_ge i n with h | h
  · simp [h, Nat.mod_one, List.getElem?_replicate, Value.cells]
  · simp [List.getElem?_replicate, Nat.not_lt.2 h]
theorem Row8.of_made {w : World} {B b n : Nat} (h : w.ownsRow B 5 1 (.slice (some ⟨b, 0, none⟩) n n) n (madeCells (Value.int IntKind.u8 0).cells (n * 1)).toList) : Row8 w b (List.replicate n 0) := by
  rcases h.2 with ⟨h1, _⟩ | ⟨g, cap, cur, he, hb, hg, hle, hcm, hcs, ht⟩
  · cases h1
  · injection he with e1 e2 e3
    injection e1 with e1
    injection e1 with e1 _ _
    subst e1; subst e3
    rw [made8, List.take_of_length_le (by rw [Array.length_toList, hcs]; exact Nat.le_refl _)] at ht
    unfold Row8
    rw [hg, ← ht]
theorem splice8 (N K : Nat) (g : Nat → Nat) (h : K ≤ N) : splice (cells8 (List.replicate N 0)) 0 (cells8 (fl g K)) = cells8 (fl g K ++ List.replicate (N - K) 0) := by
  unfold splice cells8
  simp [fl_len, List.map_drop.symm, List.drop_replicate]
/-- As many of the bytes as there are, then zeros. -/
def padL (g : Nat → Nat) (K N : Nat) : List Nat := fl g K ++ List.replicate (N - K) 0
theorem padL_len (g : Nat → Nat) (K N : Nat) (h : K ≤ N) : (padL g K N).length = N := by simp [padL, fl_len]; omega
theorem padL_256 {g : Nat → Nat} (hg : ∀ i, g i < 256) (K N i : Nat) : (padL g K N).getD i 0 < 256 := by
  unfold padL
  rw [List.getD_eq_getElem?_getD]
  rcases Nat.lt_or_ge i K with h | h
  · rw [List.getElem?_append_left (by rw [fl_len]; exact h), fl_take _ _ _ h]; exact hg i
  · rw [List.getElem?_append_right (by rw [fl_len]; exact h), List.getElem?_replicate]
    split <;> simp
theorem src8 {w : World} {a : Option Addr} {n c : Nat} {g : Nat → Nat} (h : Rd w (.slice a n c) n g) (N : Nat) (b : Nat) :
    0 < (cells8 (fl g (min n N))).length → (some (⟨b, 0, none⟩ : Addr)) = some ⟨b, 0, none⟩ ∧ ∃ ad, a = some ad ∧ ∀ j v, (cells8 (fl g (min n N)))[j]? = some v → w.cell? (ad.add j) = some v := by
  intro h0
  rw [cells8_len, fl_len] at h0
  obtain ⟨bb, off, rfl, hcell⟩ := h.at (by omega)
  refine ⟨rfl, _, rfl, fun j v hj => ?_⟩
  have hjl : j < min n N := by
    rcases Nat.lt_or_ge j (min n N) with h | h
    · exact h
    · rw [List.getElem?_eq_none (by rw [cells8_len, fl_len]; exact h)] at hj; cases hj
  have e : (⟨bb, off, none⟩ : Addr).add j = ⟨bb, off + j, none⟩ := by unfold Addr.add; split <;> simp_all
  unfold cells8 at hj
  rw [List.getElem?_map, fl_take g _ j hjl] at hj
  rw [e, hcell j (by omega)]
  simpa using hj
/-- 'copy' into a made row, from its head on. -/
theorem wpList_copy8 {w : World} {ops : Array Oper} {rest : List Oper} {o : Oper} {a : Act} {Q : Exit → Act → World → Prop} (hgd : o.guard = none) (d s : Operand)
    (ho : o.op = .call { callee := .builtin .copy, args := #[d, s], argTypes := #[22, 22] }) (sp : Option Addr) (N n c b : Nat) (g : Nat → Nat)
    (hd : a.eval d = .slice (some ⟨b, 0, none⟩) N N) (hs : a.eval s = .slice sp n c) (hg : Row8 w b (List.replicate N 0)) (hr : Rd w (.slice sp n c) n g)
    (h : ∀ w', Hid (Row8 w' b (padL g (min n N) N)) → Hid (∀ k, k ≠ b → w'.heap[k]? = w.heap[k]?) → Below b w w' → wpList Try.prog ops Q rest (a.put o.dst (goInt (cells8 (fl g (min n N))).length)) w') :
    wpList Try.prog ops Q (o :: rest) a w := by
  obtain ⟨i0, hi, hz0, hz1, hz2⟩ := info_parts info5
  have hsz5 : (Try.prog.info? 5).map (·.size) = some 1 := by rw [hi]; simp [hz1]
  have hlen : (cells8 (fl g (min n N))).length = Nat.min n N := by rw [cells8_len, fl_len]
  by_cases h0 : (cells8 (fl g (min n N))).length = 0
  · have e : cells8 (fl g (min n N)) = [] := List.eq_nil_of_length_eq_zero h0
    have hm : min n N = 0 := by rw [cells8_len, fl_len] at h0; exact h0
    refine wpList_copy_nothing hgd d s 22 22 ho 5 Try.underlying22 hsz5 _ sp N N n c hd hs (by rw [hlen] at h0; exact h0) ?_
    have := h w (show Row8 w b (padL g (min n N) N) by unfold padL; rw [hm]; simpa [fl] using hg) (fun k _ => rfl) (Below.refl _ _)
    rw [e] at this
    exact this
  · obtain ⟨_, ad, rfl, hsrc⟩ := src8 hr N b (by omega)
    refine wpList_copy_own hgd d s 22 22 ho 5 Try.underlying22 hsz5 b 0 N N ad n c hd hs (cells8 (List.replicate N 0)).toArray 5 hg (cells8 (fl g (min n N))) hlen hsrc (by rw [hlen]; simp [cells8_len]; exact Nat.min_le_right _ _) (cells8_one _) ?_
    refine h _ ?_ (fun k hk => setRow_other w b k _ hk) (below_setRow (Below.refl _ _) (Nat.le_refl _) _)
    have h1 := setRow_heap w b (cells8 (List.replicate N 0)).toArray ((cells8 (List.replicate N 0)).take 0 ++ (cells8 (fl g (min n N)) ++ (cells8 (List.replicate N 0)).drop (0 + (cells8 (fl g (min n N))).length))).toArray 5 _ hg
    have h2 := splice8 N (min n N) g (Nat.min_le_right _ _)
    unfold splice at h2
    rw [h2] at h1
    show Row8 _ b _
    unfold Row8 padL
    rw [← h1]
    simp only [h2]
theorem stepN_xor (a b c d : Nat) : stepN (a ^^^ b) (c ^^^ d) = stepN a c ^^^ stepN b d := by
  unfold stepN
  rw [← it_xor]
  congr 1
  rw [Nat.xor_assoc, Nat.xor_assoc]
  congr 1
  rw [← Nat.xor_assoc, ← Nat.xor_assoc, Nat.xor_comm b c]
def xor3 (x y z : Nat → Nat) (i : Nat) : Nat := x i ^^^ y i ^^^ z i
theorem regN_lin (x y z : Nat → Nat) : ∀ k, regN (xor3 x y z) k = regN x k ^^^ regN y k ^^^ regN z k
  | 0 => by simp [regN]
  | k + 1 => by
    simp only [regN]
    rw [regN_lin x y z k]
    unfold xor3
    rw [stepN_xor, stepN_xor]
theorem sumN_lin (x y z : Nat → Nat) (k : Nat) : sumN x k ^^^ sumN y k ^^^ sumN z k = sumN (xor3 x y z) k := by
  unfold sumN
  rw [regN_lin]
  generalize regN x k = a
  generalize regN y k = b
  generalize regN z k = c
  have e : ∀ m : Nat, (a ^^^ m) ^^^ (b ^^^ m) ^^^ (c ^^^ m) = a ^^^ b ^^^ c ^^^ m := by
    intro m
    have h1 : (a ^^^ m) ^^^ (b ^^^ m) = a ^^^ b := by
      rw [Nat.xor_comm b m, ← Nat.xor_assoc, Nat.xor_assoc a m m, Nat.xor_self, Nat.xor_zero]
    rw [h1, ← Nat.xor_assoc]
  exact e _
theorem xor3_256 {x y z : Nat → Nat} (hx : ∀ i, x i < 256) (hy : ∀ i, y i < 256) (hz : ∀ i, z i < 256) (i : Nat) : xor3 x y z i < 256 :=
  Nat.xor_lt_two_pow (n := 8) (Nat.xor_lt_two_pow (n := 8) (hx i) (hy i)) (hz i)
theorem Rd.belowAt {w w' : World} {B b n c : Nat} {g : Nat → Nat} (h : Rd w (.slice (some ⟨b, 0, none⟩) n c) n g) (hb : Below B w w') (hB : b < B) (hlt : b < w'.heap.size) : Rd w' (.slice (some ⟨b, 0, none⟩) n c) n g := by
  obtain ⟨h1, h2 | ⟨h2, b', off, c', h3, h4, h5, h6, h7⟩⟩ := h
  · exact ⟨h1, .inl h2⟩
  · cases h3
    exact ⟨h1, .inr ⟨h2, b, 0, c, rfl, h4, h5, hlt, fun i hi => (hb.cell (p := ⟨b, 0 + i, none⟩) hB).trans (h7 i hi)⟩⟩
set_option maxHeartbeats 2000000 in
theorem linear_any (v1 v2 v3 : Value) (l1 l2 l3 : Nat) (g1 g2 g3 : Nat → Nat) (w : World) (hv1 : Rd w v1 l1 g1) (hv2 : Rd w v2 l2 g2) (hv3 : Rd w v3 l3 g3) :
    Calls Try.prog 7 #[v1, v2, v3] w fun e w' => e = .returned (.bool true) ∧ Below w.heap.size w w' := by
  obtain ⟨i0, hi, hz0, hz1, hz2⟩ := info_parts info5
  have hsz5 : (Try.prog.info? 5).map (·.size) = some 1 := by rw [hi]; simp [hz1]
  obtain ⟨a1, c1, rfl, hc11, hc12⟩ := hv1.take
  obtain ⟨a2, c2, rfl, hc21, hc22⟩ := hv2.take
  obtain ⟨a3, c3, rfl, hc31, hc32⟩ := hv3.take
  have HR1 := Lib.hid hv1
  have HR2 := Lib.hid hv2
  have HR3 := Lib.hid hv3
  clear hv1 hv2 hv3
  obtain ⟨N, hN⟩ : ∃ N, min l1 300 = N := ⟨_, rfl⟩
  have F1 := fun w => Lib.hid (few_at a1 l1 c1 w hc11 hc12)
  rw [hN] at F1
  have hn1 : N ≤ 300 := by omega
  have hm1 : N ≤ c1 := by omega
  have hl1 : N ≤ l1 := by omega
  clear hN
  go_enter Try.func7, Try.ntmps7
  go_wp2_with (fail)
  go_at_call 9; refine (shown_any _).mono ?_; rintro e w1 ⟨rfl, hb1⟩
  have hz1' := hb1.size
  go_wp2_with (fail)
  go_at_call 10; refine (F1 _).out.mono ?_; rintro e w9 ⟨rfl, rfl⟩
  clear F1
  have HS1 := Lib.hid ((HR1.out.below hb1).cut hl1)
  go_wp2_with ((at_make; apply Classical.byContradiction; intro hstop))
  apply hstop; clear hstop
  refine wpList_make_full _ rfl _ _ 22 rfl w1.heap.size 5 i0 (.int .u8 0) 1 Try.underlying22 hi hz0 hz1 _ _ _ _ N rfl rfl rfl rfl (by rw [hz2]; omega) (by unfold maxLen; omega) (Nat.le_refl _) ?_; intro w2 hown2 hgr2
  have hB2 : Below w1.heap.size w1 w2 := (Below.refl _ _).grown hgr2 (Nat.le_refl _) (fun j hj => by cases hj)
  have HW2 := Lib.hid (Row8.of_made hown2)
  have hz2' := hB2.size
  have hlt1 : w1.heap.size < w2.heap.size := HW2.out.lt
  clear hown2 hgr2
  go_wp2_with ((at_make; apply Classical.byContradiction; intro hstop))
  apply hstop; clear hstop
  refine wpList_make_full _ rfl _ _ 22 rfl w2.heap.size 5 i0 (.int .u8 0) 1 Try.underlying22 hi hz0 hz1 _ _ _ _ N rfl rfl rfl rfl (by rw [hz2]; omega) (by unfold maxLen; omega) (Nat.le_refl _) ?_; intro w3 hown3 hgr3
  have hB3 : Below w2.heap.size w2 w3 := (Below.refl _ _).grown hgr3 (Nat.le_refl _) (fun j hj => by cases hj)
  have HW3 := Lib.hid (Row8.of_made hown3)
  have HW23 := Lib.hid (HW2.out.below hB3 hlt1)
  have hz3' := hB3.size
  have hlt2 : w2.heap.size < w3.heap.size := HW3.out.lt
  clear hown3 hgr3
  have hQ2 := HR2.out.below (hb1.trans ((hB2.trans (hB3.mono hz2')).mono hz1'))
  go_wp2_with ((refine wpList_copy8 rfl (.tmp 22) (.tmp 23) rfl _ N l2 c2 w1.heap.size g2 rfl rfl HW23.out hQ2 ?_; apply Classical.byContradiction; intro hstop))
  apply hstop; clear hstop
  intro w4 HW4 HO4 hB4
  have hz4' := hB4.size
  have hlt4 : w1.heap.size < w4.heap.size := HW4.out.lt
  have HZ4 : Hid (Row8 w4 w2.heap.size (List.replicate N 0)) := Lib.hid ((HO4.out _ (by omega)).trans HW3.out)
  have hlt24 : w2.heap.size < w4.heap.size := HZ4.out.lt
  have hB03 : Below w.heap.size w w3 := hb1.trans ((hB2.trans (hB3.mono hz2')).mono hz1')
  have hB04 : Below w.heap.size w w4 := hB03.trans (hB4.mono hz1')
  have hQ3 := HR3.out.below hB04
  clear hQ2
  go_wp2_with ((refine wpList_copy8 rfl (.tmp 25) (.tmp 26) rfl _ N l3 c3 w2.heap.size g3 rfl rfl HZ4.out hQ3 ?_; apply Classical.byContradiction; intro hstop))
  apply hstop; clear hstop
  intro w5 HW5 HO5 hB5
  have hz5' := hB5.size
  have HY5 : Hid (Row8 w5 w1.heap.size (padL g2 (min l2 N) N)) := Lib.hid ((HO5.out _ (by omega)).trans HW4.out)
  have hB05 : Below w.heap.size w w5 := hB04.trans (hB5.mono (Nat.le_trans hz1' hz2'))
  have hlt25 : w2.heap.size < w5.heap.size := HW5.out.lt
  clear hQ3
  go_wp2_with ((at_make; apply Classical.byContradiction; intro hstop))
  apply hstop; clear hstop
  refine wpList_make_full _ rfl _ _ 22 rfl w5.heap.size 5 i0 (.int .u8 0) 1 Try.underlying22 hi hz0 hz1 _ _ _ _ N rfl rfl rfl rfl (by rw [hz2]; omega) (by unfold maxLen; omega) (Nat.le_refl _) ?_; intro w6 hown6 hgr6
  have hB6 : Below w5.heap.size w5 w6 := (Below.refl _ _).grown hgr6 (Nat.le_refl _) (fun j hj => by cases hj)
  have HT6 := Lib.hid (Row8.of_made hown6)
  have hz6' := hB6.size
  have HY6 := Lib.hid (HY5.out.below hB6 (by omega))
  have HZ6 := Lib.hid (HW5.out.below hB6 hlt25)
  have hB06 : Below w.heap.size w w6 := hB05.trans (hB6.mono hB05.size)
  have hB16 : Below w1.heap.size w1 w6 := (((hB2.trans (hB3.mono hz2')).trans hB4).trans (hB5.mono hz2')).trans (hB6.mono (by omega))
  have HX6 := Lib.hid (HS1.out.below hB16)
  clear hown6 hgr6
  obtain ⟨bt, hbt⟩ : ∃ bt, w5.heap.size = bt := ⟨_, rfl⟩
  have hyp := padL_len g2 (min l2 N) N (Nat.min_le_right _ _)
  have hzp := padL_len g3 (min l3 N) N (Nat.min_le_right _ _)
  have HRY := HY6.out.rd (padL_256 HR2.out.1 _ _) (by omega) N hyp
  have HRZ := HZ6.out.rd (padL_256 HR3.out.1 _ _) (by omega) N hzp
  generalize (fun i => (padL g2 (min l2 N) N).getD i 0) = Y at HRY
  generalize (fun i => (padL g3 (min l3 N) N).getD i 0) = Z at HRZ
  have HRY' := Lib.hid HRY
  have HRZ' := Lib.hid HRZ
  clear HRY HRZ
  go_wp2_with (fail)
  have hT6 := HT6.out
  rw [hbt] at hT6
  have hbt6 : bt < w6.heap.size := hT6.lt
  have hT6c : ∀ j, j < N → w6.cell? ⟨bt, j, none⟩ = some (.int .u8 ((if j < 0 then xor3 g1 Y Z j else 0 : Nat) : Int)) := fun j hj => by
    rw [hT6.cell j (by rw [List.length_replicate]; exact hj)]
    simp [List.getD_eq_getElem?_getD, List.getElem?_replicate, hj]
  have hT6f : ∀ j, w6.frozen? ⟨bt, j, none⟩ = false := fun j => frozen_of_row w6 bt j _ 5 hT6
  have HTC := Lib.hid hT6c
  have HTF := Lib.hid hT6f
  have h1bt : w1.heap.size < bt := by omega
  have h2bt : w2.heap.size < bt := by omega
  have hx256 := HR1.out.1
  have hy256 := HRY'.out.1
  have hz256 := HRZ'.out.1
  have HX2 := Lib.hid hx256
  have HY2 := Lib.hid hy256
  have HZ2 := Lib.hid hz256
  have H05 : Hid (Below w.heap.size w w5) := Lib.hid hB05
  have H06 : Hid (Below w.heap.size w w6) := Lib.hid hB06
  have HW1B : Hid (w.heap.size ≤ bt) := Lib.hid (by rw [← hbt]; exact hB05.size)
  clear hT6 hT6c hT6f hx256 hy256 hz256 hB05 hB06
  go_loopw [12] (fun i wr => ∃ k : Nat, k ≤ N ∧ i = .int .i64 k ∧ (∀ j, j < N → wr.cell? ⟨bt, j, none⟩ = some (.int .u8 ((if j < k then xor3 g1 Y Z j else 0 : Nat) : Int))) ∧ (∀ j, wr.frozen? ⟨bt, j, none⟩ = false) ∧ bt < wr.heap.size ∧ Below bt w6 wr) (fun i _ => N - (intOf i).toNat)
  case atStart => exact ⟨0, by omega, rfl, HTC.out, HTF.out, hbt6, Below.refl _ _⟩
  case round =>
    obtain ⟨k, hk, rfl, hcells, hfr, hbl, hbel⟩ := hrel
    have HCE := Lib.hid hcells
    have HFR := Lib.hid hfr
    clear hcells hfr
    by_cases hlt : k < N
    · obtain ⟨b, off, rfl, hcell⟩ := HS1.out.at (by omega)
      obtain ⟨b2, off2, e2, hcy⟩ := HRY'.out.at (by omega)
      cases e2
      obtain ⟨b3, off3, e3, hcz⟩ := HRZ'.out.at (by omega)
      cases e3
      have hbw : b < w1.heap.size := block_lt_of_cell (hcell k hlt)
      have rx : wr.cell? ⟨b, off + k, none⟩ = some (.int .u8 (g1 k : Nat)) := (hbel.cell (p := ⟨b, off + k, none⟩) (Nat.lt_trans hbw h1bt)).trans ((hB16.cell (p := ⟨b, off + k, none⟩) hbw).trans (hcell k hlt))
      have ry : wr.cell? ⟨w1.heap.size, k, none⟩ = some (.int .u8 (Y k : Nat)) := (hbel.cell (p := ⟨w1.heap.size, k, none⟩) h1bt).trans (by have := hcy k hlt; rwa [Nat.zero_add] at this)
      have rz : wr.cell? ⟨w2.heap.size, k, none⟩ = some (.int .u8 (Z k : Nat)) := (hbel.cell (p := ⟨w2.heap.size, k, none⟩) h2bt).trans (by have := hcz k hlt; rwa [Nat.zero_add] at this)
      have rt : wr.cell? ⟨bt, k, none⟩ = some (.int .u8 (0 : Int)) := by have := HCE.out k hlt; rwa [if_neg (Nat.lt_irrefl k)] at this
      have ft := HFR.out k
      have b1 : bits .xor .u8 ((g1 k : Nat) : Int) ((Y k : Nat) : Int) = ((g1 k ^^^ Y k : Nat) : Int) := u8_xor_nat _ _ (HX2.out k) (HY2.out k)
      have b2 : bits .xor .u8 ((g1 k ^^^ Y k : Nat) : Int) ((Z k : Nat) : Int) = ((xor3 g1 Y Z k : Nat) : Int) := u8_xor_nat _ _ (Nat.xor_lt_two_pow (n := 8) (HX2.out k) (HY2.out k)) (HZ2.out k)
      clear hcell hcy hcz
      go_wp2_with (fail)
      go_region
      go_wp2_with (fail)
      go_roundw
      case rel =>
        refine ⟨k + 1, by omega, by go_num, fun j hj => ?_, fun j => ?_, ?_, ?_⟩
        · have hcj := HCE.out j hj
          by_cases hjk : j = k
          · subst hjk
            rw [if_pos (by omega)]
            exact World.cell?_setCell_same _ _ _ rt
          · have hne : (⟨bt, k, none⟩ : Addr) ≠ ⟨bt, j, none⟩ := fun h => hjk (by injection h with _ h2 _; exact h2.symm)
            have h3 := World.cell?_setCell_other wr (⟨bt, k, none⟩ : Addr) ⟨bt, j, none⟩ (.int .u8 (xor3 g1 Y Z k : Nat)) hne
            have e1 : (if j < k + 1 then xor3 g1 Y Z j else 0) = (if j < k then xor3 g1 Y Z j else 0) := by
              by_cases h5 : j < k
              · rw [if_pos h5, if_pos (by omega)]
              · rw [if_neg h5, if_neg (by omega)]
            rw [e1]
            exact h3.trans hcj
        · have := HFR.out j
          simpa using this
        · simpa using hbl
        · exact (hbel.setCell (Nat.le_refl _) _).drew
      case measure => simp [intOf]; omega
    · obtain rfl : k = N := by omega
      have hX := Lib.hid (HX6.out.same HX2.out (fun _ _ => rfl))
      have HS : Hid (bits .xor .u32 ((sumN g1 k : Nat) : Int) ((sumN Y k : Nat) : Int) = ((sumN g1 k ^^^ sumN Y k : Nat) : Int)) := Lib.hid (u32_xor_nat _ _ (sumN_lt HX2.out k) (sumN_lt HY2.out k))
      have HS2 : Hid (bits .xor .u32 ((sumN g1 k ^^^ sumN Y k : Nat) : Int) ((sumN Z k : Nat) : Int) = ((sumN (xor3 g1 Y Z) k : Nat) : Int)) := Lib.hid (by
        rw [u32_xor_nat _ _ (Nat.xor_lt_two_pow (n := 32) (sumN_lt HX2.out k) (sumN_lt HY2.out k)) (sumN_lt HZ2.out k), sumN_lin])
      have hXr : Hid (Rd wr (.slice a1 k c1) k g1) := Lib.hid (HS1.out.below (hB16.trans (hbel.mono (Nat.le_of_lt h1bt))))
      have hYr : Hid (Rd wr (.slice (some ⟨w1.heap.size, 0, none⟩) k k) k Y) := Lib.hid (HRY'.out.belowAt hbel h1bt (Nat.lt_trans h1bt hbl))
      have hZr : Hid (Rd wr (.slice (some ⟨w2.heap.size, 0, none⟩) k k) k Z) := Lib.hid (HRZ'.out.belowAt hbel h2bt (Nat.lt_trans h2bt hbl))
      have hTr : Hid (Rd wr (.slice (some ⟨bt, 0, none⟩) k k) k (xor3 g1 Y Z)) := Lib.hid (by
        refine ⟨xor3_256 HX2.out HY2.out HZ2.out, ?_⟩
        rcases Nat.eq_zero_or_pos k with h0 | h0
        · left; subst h0; exact ⟨rfl, _, 0, rfl, by omega⟩
        · right
          refine ⟨h0, bt, 0, k, rfl, Nat.le_refl _, by omega, hbl, fun j hj => ?_⟩
          have := HCE.out j hj
          rw [if_pos hj] at this
          rw [Nat.zero_add]
          exact this)
      go_wp2_with (fail)
      go_at_call 13; refine (sum_any hXr.out).mono ?_; rintro e w9 ⟨rfl, rfl⟩
      go_wp2_with (fail)
      go_at_call 13; refine (sum_any hYr.out).mono ?_; rintro e w9 ⟨rfl, rfl⟩
      have hs1 := HS.out
      go_wp2_with (fail)
      go_at_call 13; refine (sum_any hZr.out).mono ?_; rintro e w9 ⟨rfl, rfl⟩
      have hs2 := HS2.out
      go_wp2_with (fail)
      go_at_call 13; refine (sum_any hTr.out).mono ?_; rintro e w9 ⟨rfl, rfl⟩
      go_wp2_with (fail)
      go_ret
      exact ⟨rfl, H06.out.trans (hbel.mono HW1B.out)⟩
end Go.Proofs.Ytenmjhkmehckhaa

import Derived.Test.YtkcfcimophjomaaDiskMap
import Derived.Test.YtkcfcimophjomaaRows
import Derived.BigQuiet
import Derived.Deep.QuietTactic
import Derived.Deep.RegionWith
import Derived.Deep.Cut
import Derived.Laws.Cover3
import Derived.Lib.SlBytesConst
namespace Go.Proofs.Ytkcfcimophjomaa
open Go.RowKit
set_option linter.unusedVariables false
set_option linter.unusedSimpArgs false

def fl (g : Nat → Nat) (n : Nat) : List Nat := (List.range n).map g
theorem fl_succ (g : Nat → Nat) (n : Nat) : fl g (n + 1) = g 0 :: fl (fun i => g (i + 1)) n := by
  unfold fl
  rw [List.range_succ_eq_map]
  simp [Function.comp_def]
def cells8 (xs : List Nat) : List Value := xs.map fun (x : Nat) => Value.int .u8 (x : Int)
theorem info5 : (Try.prog.info? 5).map (fun i => (i.zero, i.size, i.bytes)) = some (some (.int .u8 0), 1, 1) := by kernel_rfl
theorem new_one (w : World) (u : Value) (t : TypeId) : ∀ j v, [u][j]? = some v → (w.alloc (.cells #[u] t)).cell? ((⟨w.heap.size, 0, none⟩ : Addr).add j) = some v := by
  intro j v h
  cases j with
  | zero => simp at h; subst h; simp [Addr.add]
  | succ j => simp at h
theorem cells8_snoc (xs : List Nat) (x : Nat) : cells8 (xs ++ [x]) = cells8 xs ++ [.int .u8 (x : Int)] := by simp [cells8]
theorem fl_get (g : Nat → Nat) (n i : Nat) (h : i < n) : (fl g n).getD i 0 = g i := by
  unfold fl
  simp [List.getElem?_map, List.getElem?_range h]
theorem fl_len (g : Nat → Nat) (n : Nat) : (fl g n).length = n := by simp [fl]
theorem own_empty (w : World) (e : TypeId) : (w.alloc (.cells #[] e)).ownsRow w.heap.size e 1 (.slice (some ⟨w.heap.size, 0, none⟩) 0 0) 0 [] :=
  World.ownsRow_made w #[] 0 (Nat.le_refl _) (by unfold maxLen; omega) (by simp)
def Rd (w : World) (v : Value) (n : Nat) (g : Nat → Nat) : Prop :=
  (∀ i, g i < 256) ∧ ((n = 0 ∧ ∃ a c, v = .slice a 0 c ∧ c ≤ 9223372036854775807) ∨
    (0 < n ∧ ∃ b off c, v = .slice (some ⟨b, off, none⟩) n c ∧ n ≤ c ∧ c ≤ 9223372036854775807 ∧ b < w.heap.size ∧ ∀ i, i < n → w.cell? ⟨b, off + i, none⟩ = some (.int .u8 (g i : Nat))))
theorem Rd.below {w w' : World} {v : Value} {n : Nat} {g : Nat → Nat} (h : Rd w v n g) (hb : Below w.heap.size w w') : Rd w' v n g := by
  obtain ⟨h1, h2 | ⟨h2, b, off, c, h3, h4, h5, h6, h7⟩⟩ := h
  · exact ⟨h1, .inl h2⟩
  · exact ⟨h1, .inr ⟨h2, b, off, c, h3, h4, h5, Nat.lt_of_lt_of_le h6 hb.size, fun i hi => (hb.cell (p := ⟨b, off + i, none⟩) h6).trans (h7 i hi)⟩⟩
theorem Rd.take {w : World} {v : Value} {n : Nat} {g : Nat → Nat} (h : Rd w v n g) : ∃ a c, v = .slice a n c ∧ n ≤ c ∧ c ≤ 9223372036854775807 := by
  obtain ⟨_, ⟨rfl, a, c, h3, h4⟩ | ⟨_, b, off, c, h3, h4, h5, _, _⟩⟩ := h
  · exact ⟨a, c, h3, by omega, h4⟩
  · exact ⟨_, c, h3, h4, h5⟩
theorem Rd.cut {w : World} {a : Option Addr} {n c m : Nat} {g : Nat → Nat} (h : Rd w (.slice a n c) n g) (hm : m ≤ n) : Rd w (.slice a m c) m g := by
  obtain ⟨h1, ⟨rfl, a', c', h3, h4⟩ | ⟨h2, b, off, c', h3, h4, h5, h6, h7⟩⟩ := h
  · injection h3 with e1 e2 e3
    subst e1; subst e3
    obtain rfl : m = 0 := by omega
    exact ⟨h1, .inl ⟨rfl, a, c, rfl, h4⟩⟩
  · injection h3 with e1 e2 e3
    subst e1; subst e3
    rcases Nat.eq_zero_or_pos m with h0 | h0
    · subst h0; exact ⟨h1, .inl ⟨rfl, _, c, rfl, h5⟩⟩
    · exact ⟨h1, .inr ⟨h0, b, off, c, rfl, by omega, h5, h6, fun i hi => h7 i (by omega)⟩⟩
theorem Rd.same {w : World} {v : Value} {n : Nat} {g g' : Nat → Nat} (h : Rd w v n g) (h' : ∀ i, g' i < 256) (he : ∀ i, i < n → g i = g' i) : Rd w v n g' := by
  obtain ⟨h1, h2 | ⟨h2, b, off, c, h3, h4, h5, h6, h7⟩⟩ := h
  · exact ⟨h', .inl h2⟩
  · exact ⟨h', .inr ⟨h2, b, off, c, h3, h4, h5, h6, fun i hi => by rw [h7 i hi, he i hi]⟩⟩
theorem Rd.of_own {w : World} {B : Nat} {v : Value} {xs : List Nat} (h : w.ownsRow B 5 1 v xs.length (cells8 xs)) (hx : ∀ i, xs.getD i 0 < 256) : Rd w v xs.length (fun i => xs.getD i 0) := by
  refine ⟨hx, ?_⟩
  rcases Nat.eq_zero_or_pos xs.length with h0 | h0
  · left
    refine ⟨h0, ?_⟩
    rcases h.2 with ⟨rfl, _⟩ | ⟨g, cap, cur, rfl, _, _, _, hc, _⟩
    · exact ⟨none, 0, rfl, by omega⟩
    · exact ⟨_, cap, by rw [h0], by unfold maxLen at hc; omega⟩
  · right
    refine ⟨h0, ?_⟩
    rcases h.2 with ⟨_, hv⟩ | ⟨g, cap, cur, rfl, _, hg, hn, hcm, hcs, ht⟩
    · omega
    · have hlt : g < w.heap.size := (Array.getElem?_eq_some_iff.1 hg).1
      refine ⟨g, 0, cap, rfl, hn, by unfold maxLen at hcm; omega, hlt, fun i hi => ?_⟩
      rw [cell_of_row w g (0 + i) cur 5 (0, 0) hg, Nat.zero_add]
      have h2 : (cells8 xs)[i]? = some (.int .u8 (xs.getD i 0 : Nat)) := by
        unfold cells8
        rw [List.getElem?_map, List.getElem?_eq_getElem hi]
        simp [List.getD, List.getElem?_eq_getElem hi]
      rw [← ht, List.getElem?_take, if_pos (by omega)] at h2
      simpa using h2
def bstr (g : Nat → Nat) (n : Nat) : ByteArray := strOfNums ((List.range n).map fun i => ((g i : Nat) : Int))
theorem Rd.conv {w : World} {v : Value} {n : Nat} {g : Nat → Nat} (h : Rd w v n g) : (convert 26 9 v).run Try.prog w = .ok (.string (bstr g n)) w := by
  obtain ⟨h1, ⟨rfl, a, c, rfl, h4⟩ | ⟨h2, b, off, c, rfl, h4, h5, h6, h7⟩⟩ := h
  · cases a with
    | none => exact run_convert_bytes_nil w 26 5 Try.underlying26 Try.underlying5 0 c 9 Try.underlying9
    | some ad =>
      rw [run_convert_bytes_string w 26 9 5 _ 0 c Try.underlying26 Try.underlying5 Try.underlying9]
      rw [run_bytesToString w ad 0 c [] (by simp [loadCells, loadCellsFrom])]
      rfl
  · refine run_convert_bytes_arg w 26 5 Try.underlying26 Try.underlying5 b off n c _ (by simp) (fun i hi => ?_) 9 Try.underlying9
    rw [h7 i hi]
    simp [List.getD, List.getElem?_map, List.getElem?_range hi]
theorem bstr_list (g : Nat → Nat) (n : Nat) : (bstr g n).toList = (fl g n).map (fun x => UInt8.ofNat x) := by
  rw [ByteArray.toList_eq]
  show (strOfNums _).data.toList = _
  rw [strOfNums_data, fl]
  simp [Function.comp_def]
theorem map8_inj : ∀ (xs ys : List Nat), (∀ x ∈ xs, x < 256) → (∀ y ∈ ys, y < 256) → (xs.map (fun x => UInt8.ofNat x) = ys.map (fun x => UInt8.ofNat x) ↔ xs = ys)
  | [], [], _, _ => by simp
  | [], _ :: _, _, _ => by simp
  | _ :: _, [], _, _ => by simp
  | x :: xs, y :: ys, hx, hy => by
    have ih := map8_inj xs ys (fun a ha => hx a (by simp [ha])) (fun a ha => hy a (by simp [ha]))
    have h1 := hx x (by simp)
    have h2 := hy y (by simp)
    simp only [List.map_cons, List.cons.injEq, ih]
    have : UInt8.ofNat x = UInt8.ofNat y ↔ x = y := by
      rw [← UInt8.toNat_inj]
      simp [Nat.mod_eq_of_lt h1, Nat.mod_eq_of_lt h2]
    rw [this]
theorem fl_256 {g : Nat → Nat} (h : ∀ i, g i < 256) (n : Nat) : ∀ x ∈ fl g n, x < 256 := by
  intro x hx
  obtain ⟨i, _, rfl⟩ := List.mem_map.1 hx
  exact h i
theorem bstr_eq {g g' : Nat → Nat} (h : ∀ i, g i < 256) (h' : ∀ i, g' i < 256) (n m : Nat) : ((bstr g n).toList == (bstr g' m).toList) = decide (fl g n = fl g' m) := by
  rw [bstr_list, bstr_list, Bool.eq_iff_iff, beq_iff_eq, decide_eq_true_iff]
  exact map8_inj _ _ (fl_256 h n) (fl_256 h' m)
theorem lit_rd (w : World) (l : List Nat) (hl : ∀ i, l.getD i 0 < 256) (h0 : 0 < l.length) (h1 : l.length ≤ 9223372036854775807) :
    Rd (w.alloc (.cells (cells8 l).toArray 5)) (.slice (some ⟨w.heap.size, 0, none⟩) l.length l.length) l.length (fun i => l.getD i 0) := by
  refine ⟨hl, .inr ⟨h0, w.heap.size, 0, l.length, rfl, Nat.le_refl _, h1, by simp, fun i hi => ?_⟩⟩
  rw [cell_of_row _ w.heap.size (0 + i) _ 5 (0, 0) (heap_alloc_new w _), Nat.zero_add]
  unfold cells8
  simp [List.getElem?_map, List.getElem?_eq_getElem hi]
def WB (B : Nat) (w : World) : Type := { u : World // Below B w u }
instance instWB (B : Nat) (w : World) : Nonempty (WB B w) := ⟨⟨w, Below.refl B w⟩⟩
def WB.w {B : Nat} {w : World} (u : WB B w) : World := u.1
theorem wp_region_wb2 {P : Program} {id : Nat} {Q : Exit → Act → World → Prop} {a : Act} {w : World} {l : List Oper} (hm : P.follows .mixedOrders = true) (hB : Region.lexB .any l.toArray = true)
    (h : wpQuiet P l.toArray (fun w' => ∃ u : WB w.heap.size w, w' = u.w) (fun a' => ∀ w', Below w.heap.size w w' → Q .normal a' w') l a) : (Code.region id l.toArray true).wp P Q a w := by
  have e : (fun a' => ∀ w', Below w.heap.size w w' → Q .normal a' w') = (fun a' => ∀ w', (∃ u : WB w.heap.size w, w' = u.w) → Q .normal a' w') := by
    funext a'
    apply propext
    exact ⟨fun h w' ⟨u, hu⟩ => hu ▸ h u.w u.2, fun h w' hb => h w' ⟨⟨w', hb⟩, rfl⟩⟩
  rw [e] at h
  exact wp_region_quiet (C := fun w' => ∃ u : WB w.heap.size w, w' = u.w) hm hB ⟨⟨w.drew, (Below.refl _ _).drew⟩, rfl⟩ (by simpa using h)
theorem fl_take (g : Nat → Nat) (n i : Nat) (h : i < n) : (fl g n)[i]? = some (g i) := by
  unfold fl; simp [List.getElem?_map, List.getElem?_range h]
theorem cells8_append (xs ys : List Nat) : cells8 (xs ++ ys) = cells8 xs ++ cells8 ys := by simp [cells8]
theorem cells8_len (xs : List Nat) : (cells8 xs).length = xs.length := by simp [cells8]
theorem cells8_one (xs : List Nat) : ∀ u ∈ cells8 xs, u.oneCell' = true := by
  intro u hu
  obtain ⟨x, _, rfl⟩ := List.mem_map.1 hu
  rfl
theorem take_at {P : Program} {ops : Array Oper} {Q : Exit → Act → World → Prop} {md : Region.Mode} {i : Nat} {oi : Oper} {v : Value} {fuel : Nat} {listed : Array Bool} {a : Act} {w : World} (d : Nat)
    (hi : ops[i]? = some oi) (hs : Region.noSelect ops = true) (hf : Region.free md ops listed i = true) (hr : (Region.ready md ops listed).contains i = true) (hd : oi.dst = some d)
    (hQ : ∀ (c : List PanicEntry) (a : Act) (w : World), Q (Exit.panic c) (a.put (some d) v) w → Q (Exit.panic c) a w) (hy : Yields P ops oi v a)
    (h : wpAny P md ops Q fuel (listed.setIfInBounds i true) (a.put (some d) v) w) : wpAny P md ops Q (fuel + 1) listed a w :=
  wpAny_take hi hs hf hr (by rw [hd]; exact hQ) hy (by rw [hd]; exact h)
theorem append_nil (w : World) (base : Nat) (v : Value) (n : Nat) (xs : List Value) (hown : w.ownsRow base 5 1 v n xs) (c : Nat) (ty : TypeId) : (Builtin.append_ #[26, 26] ty #[v, .slice none 0 c]).run Try.prog w = .ok v w := by
  obtain ⟨i0, hi, hz0, hz1, hz2⟩ := info_parts info5
  rcases hown.2 with ⟨rfl, rfl⟩ | ⟨g, cap, cur, rfl, _, _, hnc, _⟩
  · simp [Builtin.append_, run_underlying Try.underlying26, sizeOf, typeInfo, hi, Builtin.lenOf, Builtin.firstCells]
  · simp [Builtin.append_, run_underlying Try.underlying26, sizeOf, typeInfo, hi, Builtin.lenOf, Builtin.firstCells, hnc, storeCells]
theorem append_rd (w : World) (base : Nat) (v : Value) (n : Nat) (xs : List Nat) (hown : w.ownsRow base 5 1 v n (cells8 xs)) (vx : Value) (m : Nat) (g : Nat → Nat) (hr : Rd w vx m g) (h63 : n + m ≤ 100000) (hbase : base ≤ w.heap.size) (ty : TypeId) :
    ∃ v' w', (Builtin.append_ #[26, 26] ty #[v, vx]).run Try.prog w = .ok v' w' ∧ w'.ownsRow base 5 1 v' (n + m) (cells8 (xs ++ fl g m)) ∧ w.grownBy w' v.ownBlock := by
  obtain ⟨i0, hi, hz0, hz1, hz2⟩ := info_parts info5
  have some_ : ∀ (ad : Addr) (c : Nat), vx = .slice (some ad) m c → (∀ j u, (cells8 (fl g m))[j]? = some u → w.cell? (ad.add j) = some u) →
      ∃ v' w', (Builtin.append_ #[26, 26] ty #[v, vx]).run Try.prog w = .ok v' w' ∧ w'.ownsRow base 5 1 v' (n + m) (cells8 (xs ++ fl g m)) ∧ w.grownBy w' v.ownBlock := by
    intro ad c hv hc
    subst hv
    obtain ⟨v', w', h1, h2, h3, _⟩ := run_append_own (P := Try.prog) w base 26 ty 5 i0 (.int .u8 0) 1 1 Try.underlying26 hi hz0 hz1 hz2 rfl (by decide) v n (cells8 xs) hown ad m c (cells8 (fl g m))
      (by rw [cells8_len, fl_len, Nat.mul_one]) hc (cells8_one _) (by unfold maxLen; omega) (by omega) hbase
    exact ⟨v', w', h1, by rw [cells8_append]; exact h2, h3⟩
  obtain ⟨h1, ⟨rfl, a, c, rfl, h4⟩ | ⟨h2, b, off, c, rfl, h4, h5, h6, h7⟩⟩ := hr
  · cases a with
    | none => exact ⟨v, w, append_nil w base v n _ hown c ty, by simpa [fl] using hown, World.grownBy.refl w _⟩
    | some ad => exact some_ ad c rfl (fun j u hj => by simp [cells8, fl] at hj)
  · refine some_ ⟨b, off, none⟩ c rfl (fun j u hj => ?_)
    have hjl : j < m := by
      rcases Nat.lt_or_ge j m with h | h
      · exact h
      · rw [List.getElem?_eq_none (by rw [cells8_len, fl_len]; exact h)] at hj; cases hj
    have e : (⟨b, off, none⟩ : Addr).add j = ⟨b, off + j, none⟩ := by unfold Addr.add; split <;> simp_all
    unfold cells8 at hj
    rw [List.getElem?_map, fl_take g m j hjl] at hj
    rw [e, h7 j hjl]
    simpa using hj
theorem wpList_append_rd {ops : Array Oper} {rest : List Oper} {o : Oper} {a : Act} {Q : Exit → Act → World → Prop} (w : World) (hgd : o.guard = none) (s x : Operand)
    (ho : o.op = .call { callee := .builtin .append, args := #[s, x], argTypes := #[26, 26] })
    (base : Nat) (v : Value) (n : Nat) (xs : List Nat) (hs : a.eval s = v) (hown : w.ownsRow base 5 1 v n (cells8 xs)) (vx : Value) (m : Nat) (g : Nat → Nat) (hx : a.eval x = vx) (hr : Rd w vx m g)
    (h63 : n + m ≤ 100000) (hbase : base ≤ w.heap.size)
    (h : ∀ v' w', w'.ownsRow base 5 1 v' (n + m) (cells8 (xs ++ fl g m)) → w.grownBy w' v.ownBlock → wpList Try.prog ops Q rest (a.put o.dst v') w') : wpList Try.prog ops Q (o :: rest) a w := by
  refine wpList_plain hgd fun _ hK => ?_
  obtain ⟨v', w', hrun, h2, h3⟩ := append_rd w base v n xs hown vx m g hr h63 hbase o.type
  unfold Oper.wp execOp
  simp only [ho, resolve, invoke, builtin, Sem.run_bind, Sem.run_pure, Result.andThen_ok, List.map_toArray, List.map_cons, List.map_nil, hs, hx, hrun]
  exact hK _ _ (h v' w' h2 h3)
theorem eqNil (a : Option Addr) (n c : Nat) (w : World) : (binOp .eql 26 (.slice a n c) (.slice none 0 0)).run Try.prog w = .ok (.bool a.isNone) w := by
  simp only [binOp]
  simp [run_equal_slice_nil w 26 5 a n c Try.underlying26]
theorem own_base {w : World} {B B' : Nat} {v : Value} {n : Nat} {xs : List Value} (h : w.ownsRow B 5 1 v n xs) (hb : B' ≤ B) : w.ownsRow B' 5 1 v n xs :=
  ⟨h.1, h.2.imp id fun ⟨g, cap, cur, h1, h2, h3⟩ => ⟨g, cap, cur, h1, Nat.le_trans hb h2, h3⟩⟩
theorem eqNone (n c : Nat) (w : World) : (binOp .eql 26 (.slice none n c) (.slice none 0 0)).run Try.prog w = .ok (.bool true) w := eqNil none n c w
theorem eqSome (a : Addr) (n c : Nat) (w : World) : (binOp .eql 26 (.slice (some a) n c) (.slice none 0 0)).run Try.prog w = .ok (.bool false) w := eqNil (some a) n c w
attribute [local go_sem] eqNone eqSome
theorem clone_none (c : Nat) (g : Nat → Nat) (w : World) (hg : ∀ i, g i < 256) : Calls Try.prog 34 #[.slice none 0 c] w fun e w' => ∃ v', e = .returned v' ∧ Rd w' v' 0 g ∧ Below w.heap.size w w' := by
  go_enter Try.func34, Try.ntmps34
  go_wp2
  go_ret
  exact ⟨_, rfl, ⟨hg, .inl ⟨rfl, none, 0, rfl, by omega⟩⟩, Below.refl _ _⟩
theorem clone_some (a : Addr) (n c : Nat) (g : Nat → Nat) (w : World) (h : Rd w (.slice (some a) n c) n g) (hn : n ≤ 100000) : Calls Try.prog 34 #[.slice (some a) n c] w fun e w' => ∃ v', e = .returned v' ∧ Rd w' v' n g ∧ Below w.heap.size w w' := by
  have hR : Rd (w.alloc (.cells #[] 5)) (.slice (some a) n c) n g := h.below ((Below.refl _ _).alloc (Nat.le_refl _) _)
  have own0 := own_empty w 5
  have H := Lib.hid h.1
  clear h
  go_enter Try.func34, Try.ntmps34
  go_wp2_with (at_builtin; refine wpList_append_rd _ rfl (.tmp 5) (.tmp 6) rfl w.heap.size _ 0 [] rfl own0 _ n g rfl hR (by omega) (by simp) ?_; intro v3 w3 hown3 hgr3)
  go_ret
  refine ⟨_, rfl, ?_, ((Below.refl _ _).alloc (Nat.le_refl _) _).grown hgr3 (by simp) (fun k hk => (own0.lt k hk).1)⟩
  have h0 : (fl g n).length = n := fl_len g n
  have h1 := Rd.of_own (w := w3) (B := w.heap.size) (v := v3) (xs := fl g n) (by rw [h0]; simpa using hown3) (fun i => by
    rcases Nat.lt_or_ge i n with hi | hi
    · rw [fl_get g n i hi]; exact H.out i
    · rw [List.getD_eq_getElem?_getD, List.getElem?_eq_none (by rw [h0]; exact hi)]; simp)
  rw [h0] at h1
  exact h1.same H.out (fun i hi => fl_get g n i hi)
theorem clone_any {v : Value} {n : Nat} {g : Nat → Nat} {w : World} (h : Rd w v n g) (hn : n ≤ 100000) : Calls Try.prog 34 #[v] w fun e w' => ∃ v', e = .returned v' ∧ Rd w' v' n g ∧ Below w.heap.size w w' := by
  obtain ⟨a, c, rfl, hc, hm⟩ := h.take
  cases a with
  | none =>
    have hg := h.1
    obtain ⟨_, ⟨rfl, a, c', h3, h4⟩ | ⟨_, b, off, c', h3, h4, h5, _, _⟩⟩ := h
    · exact clone_none c g w hg
    · cases h3
  | some a => exact clone_some a n c g w h hn
theorem wb_of {P : Program} {f : FuncId} {args : Array Value} {w : World} {u : WB w.heap.size w} {v : Value}
    (h : Calls P f args u.w fun e w' => e = .returned v ∧ Below u.w.heap.size u.w w') : Calls P f args u.w fun e w'' => e = .returned v ∧ ∃ u' : WB w.heap.size w, w'' = u'.w :=
  h.mono fun _ w' ⟨he, hb⟩ => ⟨he, ⟨w', u.2.trans (hb.mono u.2.size)⟩, rfl⟩
theorem wb_pure {P : Program} {f : FuncId} {args : Array Value} {w : World} {u : WB w.heap.size w} {v : Value}
    (h : Calls P f args u.w fun e w' => e = .returned v ∧ u.w = w') : Calls P f args u.w fun e w'' => e = .returned v ∧ ∃ u' : WB w.heap.size w, w'' = u'.w :=
  h.mono fun _ w' ⟨he, hb⟩ => ⟨he, u, hb.symm⟩
theorem conv_const (w : World) (C : Array Value) (n c : Nat) : (convert 26 26 (.slice (some ⟨w.heap.size, 0, none⟩) n c)).run Try.prog (w.alloc (.cells C 5)) = .ok (.slice (some ⟨w.heap.size, 0, none⟩) n c) (w.alloc (.cells C 5 (C.size, C.size + 1))) :=
  Lib.run_convert_bytes_const w 26 5 C n c Try.underlying26 Try.underlying5
theorem conv_const0 (w : World) (C : Array Value) (n c N : Nat) (hN : C.size = N) : (convert 26 26 (.slice (some ⟨w.heap.size, 0, none⟩) n c)).run Try.prog (w.alloc (.cells C 5)) = .ok (.slice (some ⟨w.heap.size, 0, none⟩) n c) (w.alloc (.cells C 5 (N, N + 1))) := by
  rw [conv_const, hN]
theorem litm_rd (w : World) (l : List Nat) (z : Nat × Nat) (hl : ∀ i, l.getD i 0 < 256) (h0 : 0 < l.length) (h1 : l.length ≤ 9223372036854775807) :
    Rd (w.alloc (.cells (cells8 l).toArray 5 z)) (.slice (some ⟨w.heap.size, 0, none⟩) l.length l.length) l.length (fun i => l.getD i 0) := by
  refine ⟨hl, .inr ⟨h0, w.heap.size, 0, l.length, rfl, Nat.le_refl _, h1, by simp, fun i hi => ?_⟩⟩
  rw [cell_of_row _ w.heap.size (0 + i) _ 5 z (heap_alloc_new w _), Nat.zero_add]
  unfold cells8
  simp [List.getElem?_map, List.getElem?_eq_getElem hi]
def catG (g1 : Nat → Nat) (n1 : Nat) (g2 : Nat → Nat) (i : Nat) : Nat := if i < n1 then g1 i else g2 (i - n1)
theorem catG_256 {g1 g2 : Nat → Nat} (h1 : ∀ i, g1 i < 256) (h2 : ∀ i, g2 i < 256) (n1 : Nat) : ∀ i, catG g1 n1 g2 i < 256 := by
  intro i; unfold catG; split
  · exact h1 i
  · exact h2 _
theorem fl_cat (g1 g2 : Nat → Nat) (n1 n2 : Nat) : fl g1 n1 ++ fl g2 n2 = fl (catG g1 n1 g2) (n1 + n2) := by
  apply List.ext_getElem?
  intro i
  rcases Nat.lt_or_ge i n1 with h | h
  · rw [List.getElem?_append_left (by rw [fl_len]; exact h), fl_take _ _ _ h, fl_take _ _ _ (by omega)]; unfold catG; rw [if_pos h]
  · rw [List.getElem?_append_right (by rw [fl_len]; exact h), fl_len]
    rcases Nat.lt_or_ge i (n1 + n2) with h2 | h2
    · rw [fl_take _ _ _ (by omega), fl_take _ _ _ h2]; unfold catG; rw [if_neg (by omega)]
    · rw [List.getElem?_eq_none (by rw [fl_len]; omega), List.getElem?_eq_none (by rw [fl_len]; omega)]
theorem Rd.of_fl {w : World} {B : Nat} {v : Value} {n : Nat} {g : Nat → Nat} (h : w.ownsRow B 5 1 v n (cells8 (fl g n))) (hg : ∀ i, g i < 256) : Rd w v n g := by
  have h0 : (fl g n).length = n := fl_len g n
  have h1 := Rd.of_own (w := w) (B := B) (v := v) (xs := fl g n) (by rw [h0]; exact h) (fun i => by
    rcases Nat.lt_or_ge i n with hi | hi
    · rw [fl_get g n i hi]; exact hg i
    · rw [List.getD_eq_getElem?_getD, List.getElem?_eq_none (by rw [h0]; exact hi)]; simp)
  rw [h0] at h1
  exact h1.same hg (fun i hi => fl_get g n i hi)
theorem wpList_append_rdg {ops : Array Oper} {rest : List Oper} {o : Oper} {a : Act} {Q : Exit → Act → World → Prop} (w : World) (hgd : Region.wanted o (yielded ops a.tmps) = true) (s x : Operand)
    (ho : o.op = .call { callee := .builtin .append, args := #[s, x], argTypes := #[26, 26] })
    (base : Nat) (v : Value) (n : Nat) (xs : List Nat) (hs : a.eval s = v) (hown : w.ownsRow base 5 1 v n (cells8 xs)) (vx : Value) (m : Nat) (g : Nat → Nat) (hx : a.eval x = vx) (hr : Rd w vx m g)
    (h63 : n + m ≤ 100000) (hbase : base ≤ w.heap.size)
    (h : ∀ v' w', w'.ownsRow base 5 1 v' (n + m) (cells8 (xs ++ fl g m)) → w.grownBy w' v.ownBlock → wpList Try.prog ops Q rest (a.put o.dst v') w') : wpList Try.prog ops Q (o :: rest) a w := by
  refine BigFrame.wpList_want hgd fun _ hK => ?_
  obtain ⟨v', w', hrun, h2, h3⟩ := append_rd w base v n xs hown vx m g hr h63 hbase o.type
  unfold Oper.wp execOp
  simp only [ho, resolve, invoke, builtin, Sem.run_bind, Sem.run_pure, Result.andThen_ok, List.map_toArray, List.map_cons, List.map_nil, hs, hx, hrun]
  exact hK _ _ (h v' w' h2 h3)
theorem Rd.at {w : World} {a : Option Addr} {n c : Nat} {g : Nat → Nat} (h : Rd w (.slice a n c) n g) (h0 : 0 < n) : ∃ b off, a = some ⟨b, off, none⟩ ∧ ∀ i, i < n → w.cell? ⟨b, off + i, none⟩ = some (.int .u8 (g i : Nat)) := by
  obtain ⟨_, ⟨h1, _⟩ | ⟨h2, b, off, c', h3, h4, h5, h6, h7⟩⟩ := h
  · omega
  · injection h3 with e1 e2 e3
    exact ⟨b, off, e1, h7⟩
theorem one_rd (w : World) (x : Nat) (h : x < 256) : Rd (w.alloc (.cells #[.int .u8 (x : Int)] 5)) (.slice (some ⟨w.heap.size, 0, none⟩) 1 1) 1 (fun _ => x) :=
  (lit_rd w [x] (by intro i; match i with | 0 => exact h | i + 1 => simp) (by simp) (by simp)).same (fun _ => h) (fun i hi => by
    have h0 : i = 0 := by simpa using hi
    subst h0; rfl)
theorem fl_snoc (g : Nat → Nat) (k : Nat) : fl g (k + 1) = fl g k ++ [g k] := by simp [fl, List.range_succ]
theorem fl_one (x : Nat) : fl (fun _ => x) 1 = [x] := rfl
theorem own_at {w : World} {B : Nat} {v : Value} {n : Nat} {xs : List Nat} (h : w.ownsRow B 5 1 v n (cells8 xs)) (hn : 0 < n) (hx : xs.length = n) :
    ∃ b c, v = .slice (some ⟨b, 0, none⟩) n c ∧ n ≤ c ∧ c ≤ 9223372036854775807 ∧ B ≤ b ∧ b < w.heap.size ∧ (∀ i, i < n → w.cell? ⟨b, i, none⟩ = some (.int .u8 (xs.getD i 0 : Nat))) ∧ ∀ i, w.frozen? ⟨b, i, none⟩ = false := by
  rcases h.2 with ⟨_, h0⟩ | ⟨g, cap, cur, rfl, hb, hg, hle, hcm, hcs, ht⟩
  · omega
  · refine ⟨g, cap, rfl, hle, by unfold maxLen at hcm; omega, hb, (Array.getElem?_eq_some_iff.1 hg).1, fun i hi => ?_, fun i => frozen_of_row w g i cur 5 hg⟩
    rw [cell_of_row w g i cur 5 (0, 0) hg]
    have h2 : (cells8 xs)[i]? = some (.int .u8 (xs.getD i 0 : Nat)) := by
      unfold cells8
      rw [List.getElem?_map, List.getElem?_eq_getElem (by omega)]
      simp [List.getD, List.getElem?_eq_getElem (show i < xs.length by omega)]
    rw [← ht, List.getElem?_take, if_pos (by omega)] at h2
    simpa using h2
end Go.Proofs.Ytkcfcimophjomaa

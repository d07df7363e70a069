import Derived.Test.YtkcfcimophjomaaLo
import Derived.Laws.BitsAllLaws
namespace Go.Proofs.Ytkcfcimophjomaa
open Go.RowKit
set_option linter.unusedVariables false
set_option linter.unusedSimpArgs false
theorem LO.two_ {w : World} {m next r gl c : Nat} {es : List Ent} {ids : List Nat} (hl : IsLink w m es next) (ho : w.ownsRow (m + 2) 3 1 (.slice (some ⟨gl, 0, none⟩) ids.length c) ids.length (intsV ids)) (hg : LinkFree w m gl)
    (hf : LinkFree w m r) (hr : m + 2 ≤ r) (hne : gl ≠ r) (u0 u1 : Value) :
    IsLink ((w.setCell ⟨r, 0, none⟩ u0).setCell ⟨r, 1, none⟩ u1) m es next ∧ ((w.setCell ⟨r, 0, none⟩ u0).setCell ⟨r, 1, none⟩ u1).ownsRow (m + 2) 3 1 (.slice (some ⟨gl, 0, none⟩) ids.length c) ids.length (intsV ids) ∧ LinkFree ((w.setCell ⟨r, 0, none⟩ u0).setCell ⟨r, 1, none⟩ u1) m gl := by
  have hgr : w.grownBy ((w.setCell ⟨r, 0, none⟩ u0).setCell ⟨r, 1, none⟩ u1) (some r) := ⟨rfl, rfl, rfl, by simp, fun k hk hn => by
    rw [heap_setCell_other _ ⟨r, 1, none⟩ k _ (by intro e; subst e; exact hn rfl), heap_setCell_other _ ⟨r, 0, none⟩ k _ (by intro e; subst e; exact hn rfl)]⟩
  obtain ⟨h1, h2, h3⟩ := hl.keepG hf hr hgr
  exact ⟨h1, ho.kept hgr (.inr (by intro e; injection e with e; exact hne e)), hg.same h2 h3⟩
theorem and31 (y q : Nat) (hy : y < 256) (hq : y % 32 = q) : bits .and .i64 (y : Int) 31 = (q : Int) := by
  have : ∀ y : Nat, y < 256 → bits .and .i64 (y : Int) 31 = ((y % 32 : Nat) : Int) := by decide +kernel
  rw [← hq]; exact this y hy
theorem append_rdn (w : World) (base : Nat) (v : Value) (n : Nat) (xs : List Value) (hown : w.ownsRow base 3 1 v n xs) (hv : v ≠ .slice none 0 0) (vx : Value) (m : Nat) (ys : List Value) (hr : RdC w 1 vx m ys) (h1 : ∀ u ∈ ys, u.oneCell' = true) (h63 : n + m ≤ 100000) (hbase : base ≤ w.heap.size) (ty : TypeId) :
    ∃ v' w', (Builtin.append_ #[51, 51] ty #[v, vx]).run Try.prog w = .ok v' w' ∧ w'.ownsRow base 3 1 v' (n + m) (xs ++ ys) ∧ w.grownBy w' v.ownBlock ∧ v' ≠ .slice none 0 0 := by
  obtain ⟨i0, hi, hz0, hz1, hz2⟩ := info_parts info3
  have some_ : ∀ (ad : Addr) (c : Nat), vx = .slice (some ad) m c → (∀ j u, ys[j]? = some u → w.cell? (ad.add j) = some u) →
      ∃ v' w', (Builtin.append_ #[51, 51] ty #[v, vx]).run Try.prog w = .ok v' w' ∧ w'.ownsRow base 3 1 v' (n + m) (xs ++ ys) ∧ w.grownBy w' v.ownBlock ∧ v' ≠ .slice none 0 0 := by
    intro ad c hv' hc
    subst hv'
    obtain ⟨v', w', h1, h2, h3, h4⟩ := run_append_own (P := Try.prog) w base 51 ty 3 i0 (.int .i64 0) 1 8 Try.underlying51 hi hz0 hz1 hz2 rfl (by omega) v n xs hown ad m c ys hr.1 hc h1 (by unfold maxLen; omega) (by omega) hbase
    exact ⟨v', w', h1, h2, h3, fun e => hv (h4.1 e).1⟩
  obtain ⟨hl, ⟨rfl, a, c, rfl, h4⟩ | ⟨h2, b, off, c, rfl, h4, h5, h6, h7⟩⟩ := hr
  · have hys : ys = [] := List.eq_nil_of_length_eq_zero (by omega)
    subst hys
    cases a with
    | none => exact ⟨v, w, append_none w base 51 3 1 8 _ info3 Try.underlying51 v n xs hown c ty, by simpa using hown, World.grownBy.refl w _, hv⟩
    | some ad => exact some_ ad c rfl (fun j u hj => by simp at hj)
  · refine some_ ⟨b, off, none⟩ c rfl (fun j u hj => ?_)
    rw [Addr.add_mid]; exact h7 j u hj
set_option maxRecDepth 100000 in
set_option maxHeartbeats 4000000 in
theorem orders_at (w : World) (n0 N M n1 : Nat) (v : Value) (g1 : Nat → Nat) (h0 : n0 < 256) (hv : Rd w v n1 g1) (hN : (n0 : Int) % 31 = (N : Int)) (hM : min n1 40 = M) :
    Calls Try.prog 7 #[.int .u8 n0, v] w fun e w' => e = .returned (.bool true) ∧ Below w.heap.size w w' := by
  have hN31 : N < 31 := by omega
  have hM40 : M ≤ 40 := by omega
  have hMn : M ≤ n1 := by omega
  obtain ⟨a1, c1, rfl, hc1, hc2⟩ := hv.take
  have HV := Lib.hid hv
  have HM := Lib.hid hM
  clear hv hM
  go_enter Try.func7, Try.ntmps7
  go_wp2_with (fail)
  go_at_call 26; refine (lshown_any _).mono ?_; rintro e w1 ⟨rfl, hb1⟩
  go_wp2_with (fail)
  go_at_call 27; refine (link_new _).mono ?_; rintro e w2 ⟨rfl, hD2, hb2⟩
  have hz2 := hb1.trans (hb2.mono hb1.size)
  have HD2 := Lib.hid hD2
  clear hD2
  obtain ⟨m, hm⟩ : ∃ m, w1.heap.size = m := ⟨_, rfl⟩
  have hmw : w.heap.size ≤ m := by rw [← hm]; exact hb1.size
  rw [hm] at HD2 hb2
  have hlo : LO (w2.alloc (.cells #[] 3)) m [] 0 (.slice (some ⟨w2.heap.size, 0, none⟩) 0 0) := by
    have hbA : Below w2.heap.size w2 (w2.alloc (.cells #[] 3)) := (Below.refl _ _).alloc (Nat.le_refl _) _
    have hl := HD2.out.lt
    refine ⟨HD2.out.below hbA, w2.heap.size, 0, rfl, by omega, ownE_base (ownE_empty w2 3 1) (by omega), (LinkFree.fresh HD2.out (Nat.le_refl _)).same (hbA.block m (by omega)) (hbA.block (m + 1) hl)⟩
  have hbA : Below m w1 (w2.alloc (.cells #[] 3)) := hb2.alloc (by have := HD2.out.lt; omega) _
  have HLO := Lib.hid hlo
  clear hlo
  go_wp2_with (fail)
  clear hm
  go_loopw [7, 8] (fun s7 s8 wr => ∃ k : Nat, k ≤ N ∧ s8 = .int .i64 (k : Int) ∧ LO wr m (List.range k) k s7 ∧ Below m w1 wr) (fun _ s _ => N - (intOf s).toNat)
  case atStart => exact ⟨0, by omega, rfl, HLO.out, hbA⟩
  case round =>
    obtain ⟨k, hk, rfl, hlo, hbk⟩ := hrel
    by_cases hlt : k < N
    · have q1 : (k : Int) < (N : Int) := by omega
      have q2 : IntKind.u8.wrap (k : Int) = (k : Int) := by
        have : ∀ j : Nat, j < 31 → IntKind.u8.wrap (j : Int) = (j : Int) := by decide +kernel
        exact this k (by omega)
      have hml := hlo.1.lt
      have hcA : Below wr.heap.size wr (wr.alloc (.cells #[.int .u8 k] 5)) := (Below.refl _ _).alloc (Nat.le_refl _) _
      have hR : Rd (wr.alloc (.cells #[.int .u8 (k : Int)] 5)) (.slice (some ⟨wr.heap.size, 0, none⟩) 1 1) 1 (fun _ => k) := one_rd wr k (by omega)
      have HLA := Lib.hid (hlo.below hcA)
      have HRR := Lib.hid hR
      obtain ⟨hlk, gl, cl, rfl, hgm, hown, hfree⟩ := hlo
      rw [List.length_range] at hown ⊢
      clear hlk hown hfree hR
      go_wp2_with (fail)
      go_at_call 28; refine (link_send_f _ m k _ ((k : Int) % 6) _ k HLA.out.1 HRR.out (by rw [ents_len, List.length_range]; omega) (by omega)).mono ?_; rintro e w3 ⟨rfl, hl3, hb3, hf3⟩
      have hlo3 := HLA.out.link hl3 hb3 hf3
      rw [← ents_snoc, ← List.range_succ] at hl3
      have hB3 : Below m w1 w3 := (hbk.alloc (by omega) _).trans hb3
      obtain ⟨g3, c3, e3, hg3, ho3, hfr3⟩ := hlo3
      have hml3 := hl3.lt
      have eg : gl = g3 := by injection e3 with e3; injection e3 with e3; injection e3
      subst eg
      rw [List.length_range] at ho3
      have hcB : Below w3.heap.size w3 (w3.alloc (.cells #[.int .i64 k] 3)) := (Below.refl _ _).alloc (Nat.le_refl _) _
      have hcell : (w3.alloc (.cells #[.int .i64 (k : Int)] 3)).cell? ⟨w3.heap.size, 0, none⟩ = some (.int .i64 k) := by
        rw [cell_of_row _ w3.heap.size 0 _ 3 (0, 0) (heap_alloc_new w3 _)]; rfl
      have hglt := (ho3.lt gl rfl).2
      obtain ⟨v4, w4, hrun, hown4, hgr4, hat4⟩ := append_one (ownE_below ho3 hcB) (by omega) (by simp; omega) k w3.heap.size 1 hcell 51
      obtain ⟨a4, c4, rfl, _, _⟩ := ownE_slice hown4
      have hl3B := hl3.below hcB
      have hfrB := hfr3.same (hcB.block m (by omega)) (hcB.block (m + 1) hml3)
      obtain ⟨hl4, he0, he1⟩ := hl3B.keepG hfrB hg3 hgr4
      have hB4 : Below m w1 w4 := ((hB3.alloc (by omega) (.cells #[.int .i64 k] 3))).trans ⟨hgr4.os, hgr4.tape, hgr4.output, hgr4.size, fun j hj => hgr4.block j (by simp; omega) (by intro e; injection e with e; change j = gl at e; omega)⟩
      have hlo4 : LO w4 m (List.range (k + 1)) (k + 1) (.slice a4 (k + 1) c4) := by
        refine ⟨hl4, ?_⟩
        have hne : ∃ g4, a4 = some ⟨g4, 0, none⟩ ∧ m + 2 ≤ g4 := by
          rcases hown4.2 with ⟨_, h⟩ | ⟨g4, cap, cur, e, q, _⟩
          · omega
          · injection e with e; exact ⟨g4, e, q⟩
        obtain ⟨g4, rfl, hg4⟩ := hne
        refine ⟨g4, c4, by rw [List.length_range], hg4, by rw [List.length_range]; simpa [intsV, List.range_succ] using hown4, ?_⟩
        have e2 : LinkFree (w3.alloc (.cells #[.int .i64 (k : Int)] 3)) m g4 := by
          rcases hat4 with h | h
          · have e : g4 = gl := by injection h
            rw [e]; exact hfrB
          · have e : g4 = (w3.alloc (.cells #[.int .i64 (k : Int)] 3)).heap.size := by injection h
            exact LinkFree.fresh hl3B (by omega)
        exact e2.same he0 he1
      have HRUN := Lib.hid hrun
      have HLO4 := Lib.hid hlo4
      clear hrun hown4 hgr4 hat4 hl3B hfrB hl4 he0 he1 hlo4 hl3 hf3 ho3 hfr3 hcell e3
      go_wp2_with ((at_builtin; refine Lib.wpList_append_run _ rfl (.tmp 37) (.tmp 39) 51 51 rfl _ _ rfl rfl _ _ HRUN.out ?_))
      go_roundw
      case rel => exact ⟨k + 1, by omega, by go_num, HLO4.out, hB4⟩
      case measure => simp [intOf]; omega
    · obtain rfl : k = N := by omega
      have q1 : ¬ (k : Int) < (k : Int) := by omega
      have hB1 : Below m w1 wr := hbk
      go_wp2_with (fail)
      go_loopw [7, 9] (fun s7 s9 wr => ∃ (i : Nat) (ids : List Nat), i ≤ M ∧ s9 = .int .i64 (i : Int) ∧ LO wr m ids k s7 ∧ ids.length ≤ 31 ∧ (∀ x ∈ ids, x < 31) ∧ Below m w1 wr) (fun _ s _ => M - (intOf s).toNat)
      case atStart => exact ⟨0, List.range k, by omega, rfl, hlo, by simp; omega, by intro x hx; have := List.mem_range.1 hx; omega, hB1⟩
      case round =>
        clear hlo hB1 hbk
        obtain ⟨i, ids, hi, rfl, hlo, hlen, hall, hbk⟩ := hrel
        have HLO := Lib.hid hlo
        have HALL := Lib.hid hall
        have hml := hlo.1.lt
        have hwr : Below w.heap.size w wr := hb1.trans (hbk.mono hmw)
        obtain ⟨hlk, gl, cl, rfl, hgm, hown, hfree⟩ := hlo
        have HOWN := Lib.hid hown
        have hglt := (hown.lt gl rfl).2
        clear hlk hown hfree hall
        by_cases hlt2 : i < M
        · have q1 : (i : Int) < (n1 : Int) := by omega
          have q2 : (i : Int) < 40 := by omega
          have q3 : (0 : Int) ≤ (i : Int) := by omega
          obtain ⟨b1, off1, rfl, hcs⟩ := (HV.out.below hwr).at (by omega)
          obtain ⟨y, hy⟩ : ∃ y, g1 i = y := ⟨_, rfl⟩
          have hy256 : y < 256 := by rw [← hy]; exact HV.out.1 i
          have hcy : wr.cell? ⟨b1, off1 + i, none⟩ = some (.int .u8 (y : Nat)) := by rw [← hy]; exact hcs i (by omega)
          obtain ⟨q, hq⟩ : ∃ q, y % 32 = q := ⟨_, rfl⟩
          have hq32 : q < 32 := by omega
          have hand : bits .and .i64 (y : Int) 31 = (q : Int) := and31 y q hy256 hq
          have hq0 : (0 : Int) ≤ (q : Int) := by omega
          obtain ⟨w5, hw5⟩ : ∃ w5, wr.alloc (.cells #[.int .i64 0, .slice none 0 0] 54) = w5 := ⟨_, rfl⟩
          have hb5 : Below wr.heap.size wr w5 := by rw [← hw5]; exact (Below.refl _ _).alloc (Nat.le_refl _) _
          have hs5 : wr.heap.size < w5.heap.size := by rw [← hw5]; simp
          have hf5 : w5.heap[wr.heap.size]? = some (.cells #[.int .i64 0, .slice none 0 0] 54 (0, 0)) := by rw [← hw5]; exact heap_alloc_new wr _
          have HLO5 := Lib.hid (HLO.out.below hb5)
          have hB5 : Below m w1 w5 := hbk.trans (hb5.mono (by omega))
          have HW5 := Lib.hid hw5
          have HF5 := Lib.hid hf5
          clear hcs hy hw5 hf5
          by_cases hcp : 127 < y
          · have q4 : (127 : Int) < (y : Int) := by omega
            by_cases hkl : ids.length ≤ q
            · have q5 : (ids.length : Int) ≤ (q : Int) := by omega
              go_upto_region 18 with (fail)
              rw [HW5.out]
              go_wp2_with (fail)
              go_at_call 29; refine (link_copy_none _ m k q _ HLO5.out.1 (by rw [ents_len]; exact hkl) (by omega)).mono ?_; rintro e w6 ⟨rfl, hb6⟩
              have hBz : Below m w1 w6 := hB5.trans (hb6.mono (by omega))
              have hLz : LO w6 m ids k (.slice (some ⟨gl, 0, none⟩) ids.length cl) := HLO5.out.below hb6
              have HLz := Lib.hid hLz
              have hf6 : w6.heap[wr.heap.size]? = some (.cells #[.int .i64 0, .slice none 0 0] 54 (0, 0)) := (hb6.block wr.heap.size hs5).trans HF5.out
              have s0 : w6.cell? ⟨wr.heap.size, 0, none⟩ = some (.int .i64 0) := by rw [cell_of_row w6 wr.heap.size 0 _ 54 (0, 0) hf6]; rfl
              have s1 : w6.cell? ⟨wr.heap.size, 1, none⟩ = some (.slice none 0 0) := by rw [cell_of_row w6 wr.heap.size 1 _ 54 (0, 0) hf6]; rfl
              have p0 : w6.frozen? ⟨wr.heap.size, 0, none⟩ = false := frozen_of_row w6 wr.heap.size 0 _ 54 hf6
              have p1 : w6.frozen? ⟨wr.heap.size, 1, none⟩ = false := frozen_of_row w6 wr.heap.size 1 _ 54 hf6
              have g1' := heap_setCell_same _ wr.heap.size 1 _ 54 (.slice none 0 0) (heap_setCell_same w6 wr.heap.size 0 _ 54 (.int .i64 0) hf6)
              have HG := Lib.hid g1'
              clear hLz g1' hf6
              go_upto_region 21 with (fail)
              obtain ⟨wF, hwF⟩ : ∃ wF, (w6.setCell ⟨wr.heap.size, 0, none⟩ (.int .i64 0)).setCell ⟨wr.heap.size, 1, none⟩ (.slice none 0 0) = wF := ⟨_, rfl⟩
              have hG := HG.out
              rw [hwF] at hG
              have y0 : wF.cell? ⟨wr.heap.size, 0, none⟩ = some (.int .i64 0) := by rw [cell_of_row wF wr.heap.size 0 _ 54 (0, 0) hG]; rfl
              have y1 : wF.cell? ⟨wr.heap.size, 1, none⟩ = some (.slice none 0 0) := by rw [cell_of_row wF wr.heap.size 1 _ 54 (0, 0) hG]; rfl
              have hLF : LO wF m ids k (.slice (some ⟨gl, 0, none⟩) ids.length cl) := by
                obtain ⟨i1, g', c', e', i2, i3, i4⟩ := HLz.out
                have eg : gl = g' := by injection e' with e'; injection e' with e'; injection e'
                subst eg
                have j := LO.two_ (u0 := .int .i64 0) (u1 := .slice none 0 0) i1 i3 i4 (((LinkFree.fresh HLO.out.1 (Nat.le_refl _)).same (hb5.block m (by omega)) (hb5.block (m + 1) hml)).same (hb6.block m (by omega)) (hb6.block (m + 1) (by omega))) (by omega) (by omega)
                rw [hwF] at j
                exact ⟨j.1, gl, cl, rfl, hgm, j.2.1, j.2.2⟩
              have hBF : Below m w1 wF := by rw [← hwF]; exact (hBz.setCell (by show m ≤ wr.heap.size; omega) _).setCell (by show m ≤ wr.heap.size; omega) _
              have HLF := Lib.hid hLF
              rw [hwF]
              clear hG hwF hLF s0 s1 p0 p1
              go_wp2_with (fail)
              go_roundw
              case rel => exact ⟨i + 1, ids, by omega, by go_num, HLF.out, hlen, HALL.out, hBF⟩
              case measure => simp [intOf]; omega
            · have q5 : ¬ (ids.length : Int) ≤ (q : Int) := by omega
              obtain ⟨id, hid⟩ : ∃ id, ids[q]? = some id := ⟨_, List.getElem?_eq_getElem (by omega)⟩
              have hid31 : id < 31 := HALL.out id (List.mem_of_getElem? hid)
              have HID := Lib.hid hid
              clear hid
              go_upto_region 18 with (fail)
              rw [HW5.out]
              go_wp2_with (fail)
              obtain ⟨r, hr⟩ : ∃ r, ids.length = q + 1 + r := ⟨ids.length - (q + 1), by omega⟩
              obtain ⟨d, hd⟩ : ∃ d, (id : Int) % 6 = d := ⟨_, rfl⟩
              have hd2 : (id : Int).tmod 6 = d := by rw [Int.tmod_eq_emod_of_nonneg (by omega)]; exact hd
              have hd3 : IntKind.i64.wrap d = d := IntWalk.i64_in _ (by omega)
              have hent : (ents ids)[q]? = some (id, d, id) := by rw [ents_get ids q id HID.out, hd]
              have hid8 : IntKind.u8.wrap (id : Int) = (id : Int) := by
                have : ∀ j : Nat, j < 31 → IntKind.u8.wrap (j : Int) = (j : Int) := by decide +kernel
                exact this id hid31
              obtain ⟨SV, hSV⟩ : ∃ S, bstr (fun _ => id) 1 = S := ⟨_, rfl⟩
              have HSV := Lib.hid hSV
              have HENT := Lib.hid hent
              have HD1 := Lib.hid hd
              have HD2' := Lib.hid hd2
              have HD3 := Lib.hid hd3
              have HR := Lib.hid hr
              have HID8 := Lib.hid hid8
              clear hSV hent hd hd2 hd3 hr hid8
              go_at_call 29; refine (link_copy_at _ m k q id id d _ HLO5.out.1 HENT.out (by rw [ents_len]; omega)).mono ?_; rintro e w6 ⟨v6, rfl, ho6, hx6, hb6⟩
              have hR6 := Rd.of_fl ho6 (fun _ => hx6)
              obtain ⟨bb, cc, rfl, _, _, hbb, _⟩ := own_at ho6 (by omega) (by rw [fl_len])
              have hbr : wr.heap.size < bb := by omega
              have hl6 : IsLink w6 m (ents ids) k := HLO5.out.1.below hb6
              have hB6 : Below m w1 w6 := hB5.trans (hb6.mono (by omega))
              have hf6 : w6.heap[wr.heap.size]? = some (.cells #[.int .i64 0, .slice none 0 0] 54 (0, 0)) := (hb6.block wr.heap.size hs5).trans HF5.out
              have hfr6 : LinkFree w6 m wr.heap.size := ((LinkFree.fresh HLO.out.1 (Nat.le_refl _)).same (hb5.block m (by omega)) (hb5.block (m + 1) hml)).same (hb6.block m (by omega)) (hb6.block (m + 1) (by omega))
              have hlo6 := (HLO5.out.below hb6).2
              clear ho6
              obtain ⟨g6, c6, e6, _, ho6, hfg6⟩ := hlo6
              have eg : gl = g6 := by injection e6 with e6; injection e6 with e6; injection e6
              subst eg
              have s0 : w6.cell? ⟨wr.heap.size, 0, none⟩ = some (.int .i64 0) := by rw [cell_of_row w6 wr.heap.size 0 _ 54 (0, 0) hf6]; rfl
              have s1 : w6.cell? ⟨wr.heap.size, 1, none⟩ = some (.slice none 0 0) := by rw [cell_of_row w6 wr.heap.size 1 _ 54 (0, 0) hf6]; rfl
              have p0 : w6.frozen? ⟨wr.heap.size, 0, none⟩ = false := frozen_of_row w6 wr.heap.size 0 _ 54 hf6
              have p1 : w6.frozen? ⟨wr.heap.size, 1, none⟩ = false := frozen_of_row w6 wr.heap.size 1 _ 54 hf6
              have g1' := heap_setCell_same _ wr.heap.size 1 _ 54 (.slice (some ⟨bb, 0, none⟩) 1 cc) (heap_setCell_same w6 wr.heap.size 0 _ 54 (.int .i64 d) hf6)
              have hRF : Rd ((w6.setCell ⟨wr.heap.size, 0, none⟩ (.int .i64 d)).setCell ⟨wr.heap.size, 1, none⟩ (.slice (some ⟨bb, 0, none⟩) 1 cc)) (.slice (some ⟨bb, 0, none⟩) 1 cc) 1 (fun _ => id) := by
                obtain ⟨h1, ⟨h2, _⟩ | ⟨h2, b', off', c', h3, h4, h5, h6, h7⟩⟩ := hR6
                · omega
                · have e1 : bb = b' := by injection h3 with h3; injection h3 with h3; injection h3
                  subst e1
                  refine ⟨h1, .inr ⟨h2, bb, off', c', h3, h4, h5, by simpa using h6, fun j hj => ?_⟩⟩
                  refine (World.cell?_of_block (a := ⟨bb, off' + j, none⟩) ?_).trans (h7 j hj)
                  rw [heap_setCell_other _ ⟨wr.heap.size, 1, none⟩ bb _ (by show bb ≠ wr.heap.size; omega), heap_setCell_other _ ⟨wr.heap.size, 0, none⟩ bb _ (by show bb ≠ wr.heap.size; omega)]
              have htwo := LO.two_ (u0 := .int .i64 d) (u1 := .slice (some ⟨bb, 0, none⟩) 1 cc) hl6 ho6 hfg6 hfr6 (by omega) (by omega)
              have HG := Lib.hid g1'
              have HRF := Lib.hid hRF
              have HTWO := Lib.hid htwo
              clear g1' hf6 hRF htwo hR6 hl6 ho6 hfg6 hfr6 e6
              go_upto_region 21 with (fail)
              obtain ⟨wF, hwF⟩ : ∃ wF, (w6.setCell ⟨wr.heap.size, 0, none⟩ (.int .i64 d)).setCell ⟨wr.heap.size, 1, none⟩ (.slice (some ⟨bb, 0, none⟩) 1 cc) = wF := ⟨_, rfl⟩
              have hG := HG.out
              have hRF := HRF.out
              obtain ⟨hlF, hoF, hfF⟩ := HTWO.out
              rw [hwF] at hG hRF hlF hoF hfF
              have y0 : wF.cell? ⟨wr.heap.size, 0, none⟩ = some (.int .i64 d) := by rw [cell_of_row wF wr.heap.size 0 _ 54 (0, 0) hG]; rfl
              have y1 : wF.cell? ⟨wr.heap.size, 1, none⟩ = some (.slice (some ⟨bb, 0, none⟩) 1 cc) := by rw [cell_of_row wF wr.heap.size 1 _ 54 (0, 0) hG]; rfl
              have hBF : Below m w1 wF := by rw [← hwF]; exact (hB6.setCell (by show m ≤ wr.heap.size; omega) _).setCell (by show m ≤ wr.heap.size; omega) _
              have hmlF := hlF.lt
              have hglF := (hoF.lt gl rfl).2
              have hrF : wr.heap.size < wF.heap.size := (Array.getElem?_eq_some_iff.1 hG).1
              obtain ⟨hclF, hclM⟩ : ids.length ≤ cl ∧ cl ≤ 9223372036854775807 := by
                obtain ⟨_, _, e, h1, h2⟩ := ownE_slice hoF
                injection e with _ _ e3
                omega
              have y2 : wF.cell? ⟨gl, q, none⟩ = some (.int .i64 id) := by
                rw [hoF.cellAt q (by omega)]; unfold intsV; rw [List.getElem?_map, HID.out]; rfl
              have cvF : (convert 26 9 (.slice (some ⟨bb, 0, none⟩) 1 cc)).run Try.prog wF = .ok (.string SV) wF := by rw [← HSV.out]; exact hRF.conv
              obtain ⟨wG, hwG⟩ : ∃ wG, (wF.alloc (.cells #[.int .u8 id] 5)).drew = wG := ⟨_, rfl⟩
              have hbG : Below wF.heap.size wF wG := by rw [← hwG]; exact ((Below.refl _ _).alloc (Nat.le_refl _) _).drew
              have cvG : (convert 26 9 (.slice (some ⟨wF.heap.size, 0, none⟩) 1 1)).run Try.prog wG = .ok (.string SV) wG := by
                have h := (one_rd wF id (by omega)).below ((Below.refl (wF.alloc (.cells #[.int .u8 (id : Int)] 5)).heap.size _).drew)
                rw [hwG] at h
                rw [← HSV.out]; exact h.conv
              have z0 : wG.cell? ⟨wr.heap.size, 0, none⟩ = some (.int .i64 d) := (hbG.cell (p := ⟨wr.heap.size, 0, none⟩) hrF).trans y0
              have z1 : wG.cell? ⟨wr.heap.size, 1, none⟩ = some (.slice (some ⟨bb, 0, none⟩) 1 cc) := (hbG.cell (p := ⟨wr.heap.size, 1, none⟩) hrF).trans y1
              have z2 : wG.cell? ⟨gl, q, none⟩ = some (.int .i64 id) := (hbG.cell (p := ⟨gl, q, none⟩) hglF).trans y2
              have czF : (convert 26 9 (.slice (some ⟨bb, 0, none⟩) 1 cc)).run Try.prog wG = .ok (.string SV) wG := by rw [← HSV.out]; exact (hRF.below hbG).conv
              have cyF : (convert 26 9 (.slice (some ⟨bb, 0, none⟩) 1 cc)).run Try.prog wF.drew = .ok (.string SV) wF.drew := by rw [← HSV.out]; exact (hRF.below ((Below.refl _ _).drew)).conv
              have hlG := hlF.below hbG
              have hoG := ownE_below hoF hbG
              have hfG := hfF.same (hbG.block m (by omega)) (hbG.block (m + 1) hmlF)
              have hBG : Below m w1 wG := hBF.trans (hbG.mono (by omega))
              have hglG := (hoG.lt gl rfl).2
              have hmlG := hlG.lt
              have q6 : (q : Int) < (ids.length : Int) := by omega
              have q7 : (0 : Int) ≤ (q : Int) := by omega
              have q8 : ¬ (ids.length : Int) ≤ (q : Int) := by omega
              have nd : (d != d) = false := by simp
              have HLG := Lib.hid hlG
              have HOG := Lib.hid hoG
              have HFG := Lib.hid hfG
              have HWG := Lib.hid hwG
              have HCF := Lib.hid cyF
              have HCG := Lib.hid cvG
              have HCZ := Lib.hid czF
              have hd1 := HD1.out
              have hd2 := HD2'.out
              have hd3 := HD3.out
              have hid8 := HID8.out
              rw [hwF]
              clear hwG hG hRF hlF hoF hfF hwF s0 s1 p0 p1 hlG hoG hfG cvF cyF cvG czF
              go_wp2_with (fail)
              refine wp_region_held_drew (S := fun w' => w'.cell? ⟨wr.heap.size, 0, none⟩ = some (.int .i64 d) ∧ w'.cell? ⟨wr.heap.size, 1, none⟩ = some (.slice (some ⟨bb, 0, none⟩) 1 cc) ∧ w'.cell? ⟨gl, q, none⟩ = some (.int .i64 id) ∧ (convert 26 9 (.slice (some ⟨bb, 0, none⟩) 1 cc)).run Try.prog w' = .ok (.string SV) w') (by kernel_rfl) ?_ (fun hHeld => ?_)
              · first | exact ⟨y0, y1, y2, HCF.out⟩ | exact ⟨z0, z1, z2, HCZ.out⟩
              refine takeH_at (i := 0) (v := ?_) 93 rfl (by kernel_rfl) (by kernel_rfl) (by kernel_rfl) rfl (fun _ _ _ h => h) (Or.inl ⟨by rfl, ?_⟩) (by assumption) ?_
              rotate_left; (intro w hSw; (try dsimp only at hSw); go_simp; try with_reducible rfl); try simp only [Act.put, List.setIfInBounds_toArray, List.set_cons_zero, List.set_cons_succ]
              refine takeH_at (i := 1) (v := ?_) 94 rfl (by kernel_rfl) (by kernel_rfl) (by kernel_rfl) rfl (fun _ _ _ h => h) (Or.inl ⟨by rfl, ?_⟩) (by assumption) ?_
              rotate_left; (intro w hSw; (try dsimp only at hSw); go_simp; try with_reducible rfl); try simp only [Act.put, List.setIfInBounds_toArray, List.set_cons_zero, List.set_cons_succ]
              refine takeH_at (i := 2) (v := ?_) 95 rfl (by kernel_rfl) (by kernel_rfl) (by kernel_rfl) rfl (fun _ _ _ h => h) (Or.inl ⟨by rfl, ?_⟩) (by assumption) ?_
              rotate_left; (intro w hSw; (try dsimp only at hSw); go_simp; try with_reducible rfl); try simp only [Act.put, List.setIfInBounds_toArray, List.set_cons_zero, List.set_cons_succ]
              refine takeH_at (i := 3) (v := ?_) 96 rfl (by kernel_rfl) (by kernel_rfl) (by kernel_rfl) rfl (fun _ _ _ h => h) (Or.inl ⟨by rfl, ?_⟩) (by assumption) ?_
              rotate_left; (intro w hSw; (try dsimp only at hSw); go_simp; try with_reducible rfl); try simp only [Act.put, List.setIfInBounds_toArray, List.set_cons_zero, List.set_cons_succ]
              refine takeH_at (i := 4) (v := ?_) 97 rfl (by kernel_rfl) (by kernel_rfl) (by kernel_rfl) rfl (fun _ _ _ h => h) (Or.inl ⟨by rfl, ?_⟩) (by assumption) ?_
              rotate_left; (intro w hSw; (try dsimp only at hSw); go_simp; try with_reducible rfl); try simp only [Act.put, List.setIfInBounds_toArray, List.set_cons_zero, List.set_cons_succ]
              refine takeH_at (i := 5) (v := ?_) 98 rfl (by kernel_rfl) (by kernel_rfl) (by kernel_rfl) rfl (fun _ _ _ h => h) (Or.inl ⟨by rfl, ?_⟩) (by assumption) ?_
              rotate_left; (intro w hSw; (try dsimp only at hSw); go_simp; try with_reducible rfl); try simp only [Act.put, List.setIfInBounds_toArray, List.set_cons_zero, List.set_cons_succ]
              refine takeH_at (i := 6) (v := ?_) 99 rfl (by kernel_rfl) (by kernel_rfl) (by kernel_rfl) rfl (fun _ _ _ h => h) (Or.inl ⟨by rfl, ?_⟩) (by assumption) ?_
              rotate_left; (intro w hSw; (try dsimp only at hSw); go_simp; try with_reducible rfl); try simp only [Act.put, List.setIfInBounds_toArray, List.set_cons_zero, List.set_cons_succ]
              refine takeH_at (i := 7) (v := ?_) 100 rfl (by kernel_rfl) (by kernel_rfl) (by kernel_rfl) rfl (fun _ _ _ h => h) (Or.inl ⟨by rfl, ?_⟩) (by assumption) ?_
              rotate_left; (intro w hSw; (try dsimp only at hSw); go_simp; try with_reducible rfl); try simp only [Act.put, List.setIfInBounds_toArray, List.set_cons_zero, List.set_cons_succ]
              refine takeH_at (i := 8) (v := ?_) 101 rfl (by kernel_rfl) (by kernel_rfl) (by kernel_rfl) rfl (fun _ _ _ h => h) (Or.inl ⟨by rfl, ?_⟩) (by assumption) ?_
              rotate_left; (intro w hSw; (try dsimp only at hSw); go_simp; try with_reducible rfl); try simp only [Act.put, List.setIfInBounds_toArray, List.set_cons_zero, List.set_cons_succ]
              refine takeH_at (i := 9) (v := ?_) 102 rfl (by kernel_rfl) (by kernel_rfl) (by kernel_rfl) rfl (fun _ _ _ h => h) (Or.inl ⟨by rfl, ?_⟩) (by assumption) ?_
              rotate_left; (intro w hSw; (try dsimp only at hSw); go_simp; try with_reducible rfl); try simp only [Act.put, List.setIfInBounds_toArray, List.set_cons_zero, List.set_cons_succ]
              refine takeH_at (i := 10) (v := ?_) 103 rfl (by kernel_rfl) (by kernel_rfl) (by kernel_rfl) rfl (fun _ _ _ h => h) (Or.inl ⟨by rfl, ?_⟩) (by assumption) ?_
              rotate_left; (intro w hSw; (try dsimp only at hSw); go_simp; try with_reducible rfl); try simp only [Act.put, List.setIfInBounds_toArray, List.set_cons_zero, List.set_cons_succ]
              refine takeH_at (i := 11) (v := ?_) 104 rfl (by kernel_rfl) (by kernel_rfl) (by kernel_rfl) rfl (fun _ _ _ h => h) (Or.inl ⟨by rfl, ?_⟩) (by assumption) ?_
              rotate_left; (intro w hSw; (try dsimp only at hSw); go_simp; try with_reducible rfl); try simp only [Act.put, List.setIfInBounds_toArray, List.set_cons_zero, List.set_cons_succ]
              refine takeH_at (i := 12) (v := ?_) 105 rfl (by kernel_rfl) (by kernel_rfl) (by kernel_rfl) rfl (fun _ _ _ h => h) (Or.inl ⟨by rfl, ?_⟩) (by assumption) ?_
              rotate_left; (intro w hSw; (try dsimp only at hSw); go_simp; try with_reducible rfl); try simp only [Act.put, List.setIfInBounds_toArray, List.set_cons_zero, List.set_cons_succ]
              refine takeH_at (i := 13) (v := ?_) 106 rfl (by kernel_rfl) (by kernel_rfl) (by kernel_rfl) rfl (fun _ _ _ h => h) (Or.inl ⟨by rfl, ?_⟩) (by assumption) ?_
              rotate_left; (intro w hSw; (try dsimp only at hSw); go_simp; try with_reducible rfl); try simp only [Act.put, List.setIfInBounds_toArray, List.set_cons_zero, List.set_cons_succ]
              refine takeH_at (i := 14) (v := ?_) 107 rfl (by kernel_rfl) (by kernel_rfl) (by kernel_rfl) rfl (fun _ _ _ h => h) (Or.inl ⟨by rfl, ?_⟩) (by assumption) ?_
              rotate_left; (intro w hSw; (try dsimp only at hSw); go_simp; try with_reducible rfl); try simp only [Act.put, List.setIfInBounds_toArray, List.set_cons_zero, List.set_cons_succ]
              refine takeH_at (i := 15) (v := ?_) 108 rfl (by kernel_rfl) (by kernel_rfl) (by kernel_rfl) rfl (fun _ _ _ h => h) (Or.inl ⟨by rfl, ?_⟩) (by assumption) ?_
              rotate_left; (intro w hSw; (try dsimp only at hSw); go_simp; try with_reducible rfl); try simp only [Act.put, List.setIfInBounds_toArray, List.set_cons_zero, List.set_cons_succ]
              refine takeH_at (i := 16) (v := ?_) 109 rfl (by kernel_rfl) (by kernel_rfl) (by kernel_rfl) rfl (fun _ _ _ h => h) (Or.inl ⟨by rfl, ?_⟩) (by assumption) ?_
              rotate_left; (intro w hSw; (try dsimp only at hSw); go_simp; try with_reducible rfl); try simp only [Act.put, List.setIfInBounds_toArray, List.set_cons_zero, List.set_cons_succ]
              refine takeH_at (i := 17) (v := ?_) 110 rfl (by kernel_rfl) (by kernel_rfl) (by kernel_rfl) rfl (fun _ _ _ h => h) (Or.inl ⟨by rfl, ?_⟩) (by assumption) ?_
              rotate_left; (intro w hSw; (try dsimp only at hSw); go_simp; try with_reducible rfl); try simp only [Act.put, List.setIfInBounds_toArray, List.set_cons_zero, List.set_cons_succ]
              refine takeH_at (i := 18) (v := ?_) 111 rfl (by kernel_rfl) (by kernel_rfl) (by kernel_rfl) rfl (fun _ _ _ h => h) (Or.inl ⟨by rfl, ?_⟩) (by assumption) ?_
              rotate_left; (intro w hSw; (try dsimp only at hSw); go_simp; try with_reducible rfl); try simp only [Act.put, List.setIfInBounds_toArray, List.set_cons_zero, List.set_cons_succ]
              refine takeH_at (i := 19) (v := ?_) 112 rfl (by kernel_rfl) (by kernel_rfl) (by kernel_rfl) rfl (fun _ _ _ h => h) (Or.inl ⟨by rfl, ?_⟩) (by assumption) ?_
              rotate_left; (intro w hSw; (try dsimp only at hSw); go_simp; try with_reducible rfl); try simp only [Act.put, List.setIfInBounds_toArray, List.set_cons_zero, List.set_cons_succ]
              refine takeH_at (i := 20) (v := ?_) 113 rfl (by kernel_rfl) (by kernel_rfl) (by kernel_rfl) rfl (fun _ _ _ h => h) (Or.inl ⟨by rfl, ?_⟩) (by assumption) ?_
              rotate_left; (intro w hSw; (try dsimp only at hSw); go_simp; try with_reducible rfl); try simp only [Act.put, List.setIfInBounds_toArray, List.set_cons_zero, List.set_cons_succ]
              refine wpAnyH_ready (rs := [21]) (by kernel_rfl) (by simp) ?_
              refine AllReadyH.cons rfl (fun K hK => ?_) AllReadyH.nil
              go_simp
              rw [HWG.out]
              have cvG := HCG.out
              refine hK.out _ _ ?_ (fun hHeld => ?_)
              · first | exact ⟨y0, y1, y2, HCF.out⟩ | exact ⟨z0, z1, z2, HCZ.out⟩
              clear hK K
              try simp only [Act.put, List.setIfInBounds_toArray, List.set_cons_zero, List.set_cons_succ]
              refine wpAnyH_ready (rs := [22]) (by kernel_rfl) (by simp) ?_
              refine AllReadyH.cons rfl (fun K hK => ?_) AllReadyH.nil
              go_simp
              refine hK.out _ _ ?_ (fun hHeld => ?_)
              · first | exact ⟨y0, y1, y2, HCF.out⟩ | exact ⟨z0, z1, z2, HCZ.out⟩
              clear hK K
              try simp only [Act.put, List.setIfInBounds_toArray, List.set_cons_zero, List.set_cons_succ]
              refine takeH_at (i := 23) (v := ?_) 116 rfl (by kernel_rfl) (by kernel_rfl) (by kernel_rfl) rfl (fun _ _ _ h => h) (Or.inl ⟨by rfl, ?_⟩) (by assumption) ?_
              rotate_left; (intro w hSw; (try dsimp only at hSw); go_simp; try with_reducible rfl); try simp only [Act.put, List.setIfInBounds_toArray, List.set_cons_zero, List.set_cons_succ]
              refine takeH_at (i := 24) (v := ?_) 117 rfl (by kernel_rfl) (by kernel_rfl) (by kernel_rfl) rfl (fun _ _ _ h => h) (Or.inl ⟨by rfl, ?_⟩) (by assumption) ?_
              rotate_left; (intro w hSw; (try dsimp only at hSw); go_simp; try with_reducible rfl); try simp only [Act.put, List.setIfInBounds_toArray, List.set_cons_zero, List.set_cons_succ]
              refine wpAnyH_done (by kernel_rfl) ?_ _
              clear y0 y1 y2
              go_wp2_with (fail)
              go_at_call 31; refine (link_len _ m k _ HLG.out).mono ?_; rintro e wz ⟨rfl, rfl⟩
              rw [ents_len]
              go_wp2_with (fail)
              go_roundw
              case rel => exact ⟨i + 1, ids, by omega, by go_num, ⟨HLG.out, gl, cl, rfl, hgm, HOG.out, HFG.out⟩, hlen, HALL.out, hBG⟩
              case measure => simp [intOf]; omega
          · have q4 : ¬ (127 : Int) < (y : Int) := by omega
            by_cases hkl : ids.length ≤ q
            · have q5 : (ids.length : Int) ≤ (q : Int) := by omega
              go_upto_region 18 with (fail)
              rw [HW5.out]
              go_wp2_with (fail)
              go_at_call 30; refine (link_take_none _ m k q _ HLO5.out.1 (by rw [ents_len]; exact hkl) (by omega)).mono ?_; rintro e w6 ⟨rfl, hb6⟩
              have hBz : Below m w1 w6 := hB5.trans (hb6.mono (by omega))
              have hLz : LO w6 m ids k (.slice (some ⟨gl, 0, none⟩) ids.length cl) := HLO5.out.below hb6
              have HLz := Lib.hid hLz
              have hf6 : w6.heap[wr.heap.size]? = some (.cells #[.int .i64 0, .slice none 0 0] 54 (0, 0)) := (hb6.block wr.heap.size hs5).trans HF5.out
              have s0 : w6.cell? ⟨wr.heap.size, 0, none⟩ = some (.int .i64 0) := by rw [cell_of_row w6 wr.heap.size 0 _ 54 (0, 0) hf6]; rfl
              have s1 : w6.cell? ⟨wr.heap.size, 1, none⟩ = some (.slice none 0 0) := by rw [cell_of_row w6 wr.heap.size 1 _ 54 (0, 0) hf6]; rfl
              have p0 : w6.frozen? ⟨wr.heap.size, 0, none⟩ = false := frozen_of_row w6 wr.heap.size 0 _ 54 hf6
              have p1 : w6.frozen? ⟨wr.heap.size, 1, none⟩ = false := frozen_of_row w6 wr.heap.size 1 _ 54 hf6
              have g1' := heap_setCell_same _ wr.heap.size 1 _ 54 (.slice none 0 0) (heap_setCell_same w6 wr.heap.size 0 _ 54 (.int .i64 0) hf6)
              have HG := Lib.hid g1'
              clear hLz g1' hf6
              go_upto_region 21 with (fail)
              obtain ⟨wF, hwF⟩ : ∃ wF, (w6.setCell ⟨wr.heap.size, 0, none⟩ (.int .i64 0)).setCell ⟨wr.heap.size, 1, none⟩ (.slice none 0 0) = wF := ⟨_, rfl⟩
              have hG := HG.out
              rw [hwF] at hG
              have y0 : wF.cell? ⟨wr.heap.size, 0, none⟩ = some (.int .i64 0) := by rw [cell_of_row wF wr.heap.size 0 _ 54 (0, 0) hG]; rfl
              have y1 : wF.cell? ⟨wr.heap.size, 1, none⟩ = some (.slice none 0 0) := by rw [cell_of_row wF wr.heap.size 1 _ 54 (0, 0) hG]; rfl
              have hLF : LO wF m ids k (.slice (some ⟨gl, 0, none⟩) ids.length cl) := by
                obtain ⟨i1, g', c', e', i2, i3, i4⟩ := HLz.out
                have eg : gl = g' := by injection e' with e'; injection e' with e'; injection e'
                subst eg
                have j := LO.two_ (u0 := .int .i64 0) (u1 := .slice none 0 0) i1 i3 i4 (((LinkFree.fresh HLO.out.1 (Nat.le_refl _)).same (hb5.block m (by omega)) (hb5.block (m + 1) hml)).same (hb6.block m (by omega)) (hb6.block (m + 1) (by omega))) (by omega) (by omega)
                rw [hwF] at j
                exact ⟨j.1, gl, cl, rfl, hgm, j.2.1, j.2.2⟩
              have hBF : Below m w1 wF := by rw [← hwF]; exact (hBz.setCell (by show m ≤ wr.heap.size; omega) _).setCell (by show m ≤ wr.heap.size; omega) _
              have HLF := Lib.hid hLF
              rw [hwF]
              clear hG hwF hLF s0 s1 p0 p1
              go_wp2_with (fail)
              go_roundw
              case rel => exact ⟨i + 1, ids, by omega, by go_num, HLF.out, hlen, HALL.out, hBF⟩
              case measure => simp [intOf]; omega
            · have q5 : ¬ (ids.length : Int) ≤ (q : Int) := by omega
              obtain ⟨id, hid⟩ : ∃ id, ids[q]? = some id := ⟨_, List.getElem?_eq_getElem (by omega)⟩
              have hid31 : id < 31 := HALL.out id (List.mem_of_getElem? hid)
              have HID := Lib.hid hid
              clear hid
              go_upto_region 18 with (fail)
              rw [HW5.out]
              go_wp2_with (fail)
              obtain ⟨r, hr⟩ : ∃ r, ids.length = q + 1 + r := ⟨ids.length - (q + 1), by omega⟩
              obtain ⟨d, hd⟩ : ∃ d, (id : Int) % 6 = d := ⟨_, rfl⟩
              have hd2 : (id : Int).tmod 6 = d := by rw [Int.tmod_eq_emod_of_nonneg (by omega)]; exact hd
              have hd3 : IntKind.i64.wrap d = d := IntWalk.i64_in _ (by omega)
              have hent : (ents ids)[q]? = some (id, d, id) := by rw [ents_get ids q id HID.out, hd]
              have hid8 : IntKind.u8.wrap (id : Int) = (id : Int) := by
                have : ∀ j : Nat, j < 31 → IntKind.u8.wrap (j : Int) = (j : Int) := by decide +kernel
                exact this id hid31
              obtain ⟨SV, hSV⟩ : ∃ S, bstr (fun _ => id) 1 = S := ⟨_, rfl⟩
              have HSV := Lib.hid hSV
              have HENT := Lib.hid hent
              have HD1 := Lib.hid hd
              have HD2' := Lib.hid hd2
              have HD3 := Lib.hid hd3
              have HR := Lib.hid hr
              have HID8 := Lib.hid hid8
              clear hSV hent hd hd2 hd3 hr hid8
              go_at_call 30; refine (link_take_f _ m k q id id d _ HLO5.out.1 HENT.out (by rw [ents_len]; omega)).mono ?_; rintro e w6 ⟨v6, rfl, ⟨hR6, bb, cc, rfl, hbb⟩, hl6, hb6, hfx⟩
              have hbr : wr.heap.size < bb := by omega
              rw [ents_erase] at hl6
              have hB6 : Below m w1 w6 := hB5.trans hb6
              have hfr5 : LinkFree w5 m wr.heap.size := (LinkFree.fresh HLO.out.1 (Nat.le_refl _)).same (hb5.block m (by omega)) (hb5.block (m + 1) hml)
              obtain ⟨hfr6, hfe⟩ := hfx wr.heap.size hs5 (by omega) hfr5
              have hf6 : w6.heap[wr.heap.size]? = some (.cells #[.int .i64 0, .slice none 0 0] 54 (0, 0)) := hfe.trans HF5.out
              have hlo6 := HLO5.out.link hl6 hb6 hfx
              clear hfx hfr5 hfe
              obtain ⟨g6, c6, e6, _, ho6, hfg6⟩ := hlo6
              have eg : gl = g6 := by injection e6 with e6; injection e6 with e6; injection e6
              subst eg
              have s0 : w6.cell? ⟨wr.heap.size, 0, none⟩ = some (.int .i64 0) := by rw [cell_of_row w6 wr.heap.size 0 _ 54 (0, 0) hf6]; rfl
              have s1 : w6.cell? ⟨wr.heap.size, 1, none⟩ = some (.slice none 0 0) := by rw [cell_of_row w6 wr.heap.size 1 _ 54 (0, 0) hf6]; rfl
              have p0 : w6.frozen? ⟨wr.heap.size, 0, none⟩ = false := frozen_of_row w6 wr.heap.size 0 _ 54 hf6
              have p1 : w6.frozen? ⟨wr.heap.size, 1, none⟩ = false := frozen_of_row w6 wr.heap.size 1 _ 54 hf6
              have g1' := heap_setCell_same _ wr.heap.size 1 _ 54 (.slice (some ⟨bb, 0, none⟩) 1 cc) (heap_setCell_same w6 wr.heap.size 0 _ 54 (.int .i64 d) hf6)
              have hRF : Rd ((w6.setCell ⟨wr.heap.size, 0, none⟩ (.int .i64 d)).setCell ⟨wr.heap.size, 1, none⟩ (.slice (some ⟨bb, 0, none⟩) 1 cc)) (.slice (some ⟨bb, 0, none⟩) 1 cc) 1 (fun _ => id) := by
                obtain ⟨h1, ⟨h2, _⟩ | ⟨h2, b', off', c', h3, h4, h5, h6, h7⟩⟩ := hR6
                · omega
                · have e1 : bb = b' := by injection h3 with h3; injection h3 with h3; injection h3
                  subst e1
                  refine ⟨h1, .inr ⟨h2, bb, off', c', h3, h4, h5, by simpa using h6, fun j hj => ?_⟩⟩
                  refine (World.cell?_of_block (a := ⟨bb, off' + j, none⟩) ?_).trans (h7 j hj)
                  rw [heap_setCell_other _ ⟨wr.heap.size, 1, none⟩ bb _ (by show bb ≠ wr.heap.size; omega), heap_setCell_other _ ⟨wr.heap.size, 0, none⟩ bb _ (by show bb ≠ wr.heap.size; omega)]
              have htwo := LO.two_ (u0 := .int .i64 d) (u1 := .slice (some ⟨bb, 0, none⟩) 1 cc) hl6 ho6 hfg6 hfr6 (by omega) (by omega)
              have HG := Lib.hid g1'
              have HRF := Lib.hid hRF
              have HTWO := Lib.hid htwo
              clear g1' hf6 hRF htwo hR6 hl6 ho6 hfg6 hfr6 e6
              go_upto_region 21 with (fail)
              obtain ⟨wF, hwF⟩ : ∃ wF, (w6.setCell ⟨wr.heap.size, 0, none⟩ (.int .i64 d)).setCell ⟨wr.heap.size, 1, none⟩ (.slice (some ⟨bb, 0, none⟩) 1 cc) = wF := ⟨_, rfl⟩
              have hG := HG.out
              have hRF := HRF.out
              obtain ⟨hlF, hoF, hfF⟩ := HTWO.out
              rw [hwF] at hG hRF hlF hoF hfF
              have y0 : wF.cell? ⟨wr.heap.size, 0, none⟩ = some (.int .i64 d) := by rw [cell_of_row wF wr.heap.size 0 _ 54 (0, 0) hG]; rfl
              have y1 : wF.cell? ⟨wr.heap.size, 1, none⟩ = some (.slice (some ⟨bb, 0, none⟩) 1 cc) := by rw [cell_of_row wF wr.heap.size 1 _ 54 (0, 0) hG]; rfl
              have hBF : Below m w1 wF := by rw [← hwF]; exact (hB6.setCell (by show m ≤ wr.heap.size; omega) _).setCell (by show m ≤ wr.heap.size; omega) _
              have hmlF := hlF.lt
              have hglF := (hoF.lt gl rfl).2
              have hrF : wr.heap.size < wF.heap.size := (Array.getElem?_eq_some_iff.1 hG).1
              obtain ⟨hclF, hclM⟩ : ids.length ≤ cl ∧ cl ≤ 9223372036854775807 := by
                obtain ⟨_, _, e, h1, h2⟩ := ownE_slice hoF
                injection e with _ _ e3
                omega
              have y2 : wF.cell? ⟨gl, q, none⟩ = some (.int .i64 id) := by
                rw [hoF.cellAt q (by omega)]; unfold intsV; rw [List.getElem?_map, HID.out]; rfl
              have cvF : (convert 26 9 (.slice (some ⟨bb, 0, none⟩) 1 cc)).run Try.prog wF = .ok (.string SV) wF := by rw [← HSV.out]; exact hRF.conv
              obtain ⟨wG, hwG⟩ : ∃ wG, (wF.alloc (.cells #[.int .u8 id] 5)).drew = wG := ⟨_, rfl⟩
              have hbG : Below wF.heap.size wF wG := by rw [← hwG]; exact ((Below.refl _ _).alloc (Nat.le_refl _) _).drew
              have cvG : (convert 26 9 (.slice (some ⟨wF.heap.size, 0, none⟩) 1 1)).run Try.prog wG = .ok (.string SV) wG := by
                have h := (one_rd wF id (by omega)).below ((Below.refl (wF.alloc (.cells #[.int .u8 (id : Int)] 5)).heap.size _).drew)
                rw [hwG] at h
                rw [← HSV.out]; exact h.conv
              have z0 : wG.cell? ⟨wr.heap.size, 0, none⟩ = some (.int .i64 d) := (hbG.cell (p := ⟨wr.heap.size, 0, none⟩) hrF).trans y0
              have z1 : wG.cell? ⟨wr.heap.size, 1, none⟩ = some (.slice (some ⟨bb, 0, none⟩) 1 cc) := (hbG.cell (p := ⟨wr.heap.size, 1, none⟩) hrF).trans y1
              have z2 : wG.cell? ⟨gl, q, none⟩ = some (.int .i64 id) := (hbG.cell (p := ⟨gl, q, none⟩) hglF).trans y2
              have czF : (convert 26 9 (.slice (some ⟨bb, 0, none⟩) 1 cc)).run Try.prog wG = .ok (.string SV) wG := by rw [← HSV.out]; exact (hRF.below hbG).conv
              have cyF : (convert 26 9 (.slice (some ⟨bb, 0, none⟩) 1 cc)).run Try.prog wF.drew = .ok (.string SV) wF.drew := by rw [← HSV.out]; exact (hRF.below ((Below.refl _ _).drew)).conv
              have hlG := hlF.below hbG
              have hoG := ownE_below hoF hbG
              have hfG := hfF.same (hbG.block m (by omega)) (hbG.block (m + 1) hmlF)
              have hBG : Below m w1 wG := hBF.trans (hbG.mono (by omega))
              have hglG := (hoG.lt gl rfl).2
              have hmlG := hlG.lt
              have q6 : (q : Int) < (ids.length : Int) := by omega
              have q7 : (0 : Int) ≤ (q : Int) := by omega
              have q8 : ¬ (ids.length : Int) ≤ (q : Int) := by omega
              have nd : (d != d) = false := by simp
              have HLG := Lib.hid hlG
              have HOG := Lib.hid hoG
              have HFG := Lib.hid hfG
              have HWG := Lib.hid hwG
              have HCF := Lib.hid cyF
              have HCG := Lib.hid cvG
              have HCZ := Lib.hid czF
              have hd1 := HD1.out
              have hd2 := HD2'.out
              have hd3 := HD3.out
              have hid8 := HID8.out
              rw [hwF]
              clear hwG hG hRF hlF hoF hfF hwF s0 s1 p0 p1 hlG hoG hfG cvF cyF cvG czF
              go_wp2_with (fail)
              refine wp_region_held_drew (S := fun w' => w'.cell? ⟨wr.heap.size, 0, none⟩ = some (.int .i64 d) ∧ w'.cell? ⟨wr.heap.size, 1, none⟩ = some (.slice (some ⟨bb, 0, none⟩) 1 cc) ∧ w'.cell? ⟨gl, q, none⟩ = some (.int .i64 id) ∧ (convert 26 9 (.slice (some ⟨bb, 0, none⟩) 1 cc)).run Try.prog w' = .ok (.string SV) w') (by kernel_rfl) ?_ (fun hHeld => ?_)
              · first | exact ⟨y0, y1, y2, HCF.out⟩ | exact ⟨z0, z1, z2, HCZ.out⟩
              refine takeH_at (i := 0) (v := ?_) 93 rfl (by kernel_rfl) (by kernel_rfl) (by kernel_rfl) rfl (fun _ _ _ h => h) (Or.inl ⟨by rfl, ?_⟩) (by assumption) ?_
              rotate_left; (intro w hSw; (try dsimp only at hSw); go_simp; try with_reducible rfl); try simp only [Act.put, List.setIfInBounds_toArray, List.set_cons_zero, List.set_cons_succ]
              refine takeH_at (i := 1) (v := ?_) 94 rfl (by kernel_rfl) (by kernel_rfl) (by kernel_rfl) rfl (fun _ _ _ h => h) (Or.inl ⟨by rfl, ?_⟩) (by assumption) ?_
              rotate_left; (intro w hSw; (try dsimp only at hSw); go_simp; try with_reducible rfl); try simp only [Act.put, List.setIfInBounds_toArray, List.set_cons_zero, List.set_cons_succ]
              refine takeH_at (i := 2) (v := ?_) 95 rfl (by kernel_rfl) (by kernel_rfl) (by kernel_rfl) rfl (fun _ _ _ h => h) (Or.inl ⟨by rfl, ?_⟩) (by assumption) ?_
              rotate_left; (intro w hSw; (try dsimp only at hSw); go_simp; try with_reducible rfl); try simp only [Act.put, List.setIfInBounds_toArray, List.set_cons_zero, List.set_cons_succ]
              refine takeH_at (i := 3) (v := ?_) 96 rfl (by kernel_rfl) (by kernel_rfl) (by kernel_rfl) rfl (fun _ _ _ h => h) (Or.inl ⟨by rfl, ?_⟩) (by assumption) ?_
              rotate_left; (intro w hSw; (try dsimp only at hSw); go_simp; try with_reducible rfl); try simp only [Act.put, List.setIfInBounds_toArray, List.set_cons_zero, List.set_cons_succ]
              refine takeH_at (i := 4) (v := ?_) 97 rfl (by kernel_rfl) (by kernel_rfl) (by kernel_rfl) rfl (fun _ _ _ h => h) (Or.inl ⟨by rfl, ?_⟩) (by assumption) ?_
              rotate_left; (intro w hSw; (try dsimp only at hSw); go_simp; try with_reducible rfl); try simp only [Act.put, List.setIfInBounds_toArray, List.set_cons_zero, List.set_cons_succ]
              refine takeH_at (i := 5) (v := ?_) 98 rfl (by kernel_rfl) (by kernel_rfl) (by kernel_rfl) rfl (fun _ _ _ h => h) (Or.inl ⟨by rfl, ?_⟩) (by assumption) ?_
              rotate_left; (intro w hSw; (try dsimp only at hSw); go_simp; try with_reducible rfl); try simp only [Act.put, List.setIfInBounds_toArray, List.set_cons_zero, List.set_cons_succ]
              refine takeH_at (i := 6) (v := ?_) 99 rfl (by kernel_rfl) (by kernel_rfl) (by kernel_rfl) rfl (fun _ _ _ h => h) (Or.inl ⟨by rfl, ?_⟩) (by assumption) ?_
              rotate_left; (intro w hSw; (try dsimp only at hSw); go_simp; try with_reducible rfl); try simp only [Act.put, List.setIfInBounds_toArray, List.set_cons_zero, List.set_cons_succ]
              refine takeH_at (i := 7) (v := ?_) 100 rfl (by kernel_rfl) (by kernel_rfl) (by kernel_rfl) rfl (fun _ _ _ h => h) (Or.inl ⟨by rfl, ?_⟩) (by assumption) ?_
              rotate_left; (intro w hSw; (try dsimp only at hSw); go_simp; try with_reducible rfl); try simp only [Act.put, List.setIfInBounds_toArray, List.set_cons_zero, List.set_cons_succ]
              refine takeH_at (i := 8) (v := ?_) 101 rfl (by kernel_rfl) (by kernel_rfl) (by kernel_rfl) rfl (fun _ _ _ h => h) (Or.inl ⟨by rfl, ?_⟩) (by assumption) ?_
              rotate_left; (intro w hSw; (try dsimp only at hSw); go_simp; try with_reducible rfl); try simp only [Act.put, List.setIfInBounds_toArray, List.set_cons_zero, List.set_cons_succ]
              refine takeH_at (i := 9) (v := ?_) 102 rfl (by kernel_rfl) (by kernel_rfl) (by kernel_rfl) rfl (fun _ _ _ h => h) (Or.inl ⟨by rfl, ?_⟩) (by assumption) ?_
              rotate_left; (intro w hSw; (try dsimp only at hSw); go_simp; try with_reducible rfl); try simp only [Act.put, List.setIfInBounds_toArray, List.set_cons_zero, List.set_cons_succ]
              refine takeH_at (i := 10) (v := ?_) 103 rfl (by kernel_rfl) (by kernel_rfl) (by kernel_rfl) rfl (fun _ _ _ h => h) (Or.inl ⟨by rfl, ?_⟩) (by assumption) ?_
              rotate_left; (intro w hSw; (try dsimp only at hSw); go_simp; try with_reducible rfl); try simp only [Act.put, List.setIfInBounds_toArray, List.set_cons_zero, List.set_cons_succ]
              refine takeH_at (i := 11) (v := ?_) 104 rfl (by kernel_rfl) (by kernel_rfl) (by kernel_rfl) rfl (fun _ _ _ h => h) (Or.inl ⟨by rfl, ?_⟩) (by assumption) ?_
              rotate_left; (intro w hSw; (try dsimp only at hSw); go_simp; try with_reducible rfl); try simp only [Act.put, List.setIfInBounds_toArray, List.set_cons_zero, List.set_cons_succ]
              refine takeH_at (i := 12) (v := ?_) 105 rfl (by kernel_rfl) (by kernel_rfl) (by kernel_rfl) rfl (fun _ _ _ h => h) (Or.inl ⟨by rfl, ?_⟩) (by assumption) ?_
              rotate_left; (intro w hSw; (try dsimp only at hSw); go_simp; try with_reducible rfl); try simp only [Act.put, List.setIfInBounds_toArray, List.set_cons_zero, List.set_cons_succ]
              refine takeH_at (i := 13) (v := ?_) 106 rfl (by kernel_rfl) (by kernel_rfl) (by kernel_rfl) rfl (fun _ _ _ h => h) (Or.inl ⟨by rfl, ?_⟩) (by assumption) ?_
              rotate_left; (intro w hSw; (try dsimp only at hSw); go_simp; try with_reducible rfl); try simp only [Act.put, List.setIfInBounds_toArray, List.set_cons_zero, List.set_cons_succ]
              refine takeH_at (i := 14) (v := ?_) 107 rfl (by kernel_rfl) (by kernel_rfl) (by kernel_rfl) rfl (fun _ _ _ h => h) (Or.inl ⟨by rfl, ?_⟩) (by assumption) ?_
              rotate_left; (intro w hSw; (try dsimp only at hSw); go_simp; try with_reducible rfl); try simp only [Act.put, List.setIfInBounds_toArray, List.set_cons_zero, List.set_cons_succ]
              refine takeH_at (i := 15) (v := ?_) 108 rfl (by kernel_rfl) (by kernel_rfl) (by kernel_rfl) rfl (fun _ _ _ h => h) (Or.inl ⟨by rfl, ?_⟩) (by assumption) ?_
              rotate_left; (intro w hSw; (try dsimp only at hSw); go_simp; try with_reducible rfl); try simp only [Act.put, List.setIfInBounds_toArray, List.set_cons_zero, List.set_cons_succ]
              refine takeH_at (i := 16) (v := ?_) 109 rfl (by kernel_rfl) (by kernel_rfl) (by kernel_rfl) rfl (fun _ _ _ h => h) (Or.inl ⟨by rfl, ?_⟩) (by assumption) ?_
              rotate_left; (intro w hSw; (try dsimp only at hSw); go_simp; try with_reducible rfl); try simp only [Act.put, List.setIfInBounds_toArray, List.set_cons_zero, List.set_cons_succ]
              refine takeH_at (i := 17) (v := ?_) 110 rfl (by kernel_rfl) (by kernel_rfl) (by kernel_rfl) rfl (fun _ _ _ h => h) (Or.inl ⟨by rfl, ?_⟩) (by assumption) ?_
              rotate_left; (intro w hSw; (try dsimp only at hSw); go_simp; try with_reducible rfl); try simp only [Act.put, List.setIfInBounds_toArray, List.set_cons_zero, List.set_cons_succ]
              refine takeH_at (i := 18) (v := ?_) 111 rfl (by kernel_rfl) (by kernel_rfl) (by kernel_rfl) rfl (fun _ _ _ h => h) (Or.inl ⟨by rfl, ?_⟩) (by assumption) ?_
              rotate_left; (intro w hSw; (try dsimp only at hSw); go_simp; try with_reducible rfl); try simp only [Act.put, List.setIfInBounds_toArray, List.set_cons_zero, List.set_cons_succ]
              refine takeH_at (i := 19) (v := ?_) 112 rfl (by kernel_rfl) (by kernel_rfl) (by kernel_rfl) rfl (fun _ _ _ h => h) (Or.inl ⟨by rfl, ?_⟩) (by assumption) ?_
              rotate_left; (intro w hSw; (try dsimp only at hSw); go_simp; try with_reducible rfl); try simp only [Act.put, List.setIfInBounds_toArray, List.set_cons_zero, List.set_cons_succ]
              refine takeH_at (i := 20) (v := ?_) 113 rfl (by kernel_rfl) (by kernel_rfl) (by kernel_rfl) rfl (fun _ _ _ h => h) (Or.inl ⟨by rfl, ?_⟩) (by assumption) ?_
              rotate_left; (intro w hSw; (try dsimp only at hSw); go_simp; try with_reducible rfl); try simp only [Act.put, List.setIfInBounds_toArray, List.set_cons_zero, List.set_cons_succ]
              refine wpAnyH_ready (rs := [21]) (by kernel_rfl) (by simp) ?_
              refine AllReadyH.cons rfl (fun K hK => ?_) AllReadyH.nil
              go_simp
              rw [HWG.out]
              have cvG := HCG.out
              refine hK.out _ _ ?_ (fun hHeld => ?_)
              · first | exact ⟨y0, y1, y2, HCF.out⟩ | exact ⟨z0, z1, z2, HCZ.out⟩
              clear hK K
              try simp only [Act.put, List.setIfInBounds_toArray, List.set_cons_zero, List.set_cons_succ]
              refine wpAnyH_ready (rs := [22]) (by kernel_rfl) (by simp) ?_
              refine AllReadyH.cons rfl (fun K hK => ?_) AllReadyH.nil
              go_simp
              refine hK.out _ _ ?_ (fun hHeld => ?_)
              · first | exact ⟨y0, y1, y2, HCF.out⟩ | exact ⟨z0, z1, z2, HCZ.out⟩
              clear hK K
              try simp only [Act.put, List.setIfInBounds_toArray, List.set_cons_zero, List.set_cons_succ]
              refine takeH_at (i := 23) (v := ?_) 116 rfl (by kernel_rfl) (by kernel_rfl) (by kernel_rfl) rfl (fun _ _ _ h => h) (Or.inl ⟨by rfl, ?_⟩) (by assumption) ?_
              rotate_left; (intro w hSw; (try dsimp only at hSw); go_simp; try with_reducible rfl); try simp only [Act.put, List.setIfInBounds_toArray, List.set_cons_zero, List.set_cons_succ]
              refine takeH_at (i := 24) (v := ?_) 117 rfl (by kernel_rfl) (by kernel_rfl) (by kernel_rfl) rfl (fun _ _ _ h => h) (Or.inl ⟨by rfl, ?_⟩) (by assumption) ?_
              rotate_left; (intro w hSw; (try dsimp only at hSw); go_simp; try with_reducible rfl); try simp only [Act.put, List.setIfInBounds_toArray, List.set_cons_zero, List.set_cons_succ]
              refine wpAnyH_done (by kernel_rfl) ?_ _
              clear y0 y1 y2 z0 z1 z2 cvG nd hd1 hd2 hd3 hid8
              have hr := HR.out
              have t1 : IntKind.i64.wrap ((q : Int) + 1) = (q : Int) + 1 := IntWalk.i64_in _ (by omega)
              have t2 : (q : Int) ≤ (cl : Int) := by omega
              have t3 : (q : Int) + 1 ≤ (cl : Int) := by omega
              have t4 : (0 : Int) ≤ (q : Int) + 1 := by omega
              have t5 : (q : Int) + 1 ≤ (ids.length : Int) := by omega
              have t6 : (q : Int) + 1 ≤ (q : Int) + 1 + (r : Int) := by omega
              have t7 : (q : Int) ≤ (q : Int) + 1 := by omega
              have t8 : (q : Int) + 1 ≤ (q : Int) + 1 := by omega
              have T1 := Lib.hid t1
              clear t1
              by_cases hcl : cl = q + 1
              · skip
                subst hcl
                obtain ⟨wH, hwH⟩ : ∃ wH, (wG.alloc (.cells #[] 3)).drew = wH := ⟨_, rfl⟩
                have hbH : Below wG.heap.size wG wH := by rw [← hwH]; exact ((Below.refl _ _).alloc (Nat.le_refl _) _).drew
                have own0 : wH.ownsRow wG.heap.size 3 1 (.slice (some ⟨wG.heap.size, 0, none⟩) 0 0) 0 [] := by rw [← hwH]; exact (ownE_empty wG 3 1).drew
                have hRL := RdC.of_own (ownE_below HOG.out hbH)
                obtain ⟨v1, wI, hrun1, hown1, hgr1, hnn1⟩ := append_rdn wH wG.heap.size _ 0 [] own0 (by simp) _ q _ (hRL.cut (m := q) (c2 := q + 1) (by omega) (by omega) hclM) (by intro u hu; exact intsV_one ids u (List.mem_of_mem_take hu)) (by omega) hbH.size 51
                rw [List.nil_append, Nat.zero_add, Nat.mul_one] at hown1
                have hbI : Below wG.heap.size wG wI := hbH.grown hgr1 hbH.size (fun j hj => (own0.lt j hj).1)
                have hRL2 := RdC.of_own (ownE_below HOG.out hbI)
                have hX := hRL2.rest (m := q + 1) (c2 := 0) (by omega) (some ⟨gl, 0, none⟩) (fun b off e h => by injection e with e; injection e with e1 e2; subst e1; subst e2; exfalso; omega) (by omega) (by omega)
                rw [show ids.length - (q + 1) = r from by omega] at hX
                obtain ⟨v2, wJ, hrun2, hown2, hgr2, hnn2⟩ := append_rdn wI wG.heap.size v1 q _ hown1 hnn1 _ r _ hX (by intro u hu; exact intsV_one ids u (List.mem_of_mem_drop hu)) (by omega) hbI.size 51
                have hbJ : Below wG.heap.size wG wJ := hbI.grown hgr2 hbI.size (fun j hj => (hown1.lt j hj).1)
                obtain ⟨a2', c2', rfl, hc21, hc22⟩ := ownE_slice hown2
                have hlJ : LO wJ m (ids.eraseIdx q) k (.slice a2' (q + r) c2') := by
                  have hle : (ids.eraseIdx q).length = q + r := by rw [List.length_eraseIdx, if_pos (by omega)]; omega
                  have hints : intsV (ids.eraseIdx q) = (intsV ids).take q ++ (intsV ids).drop (q + 1) := by unfold intsV; rw [map_erase, List.eraseIdx_eq_take_drop_succ]
                  rw [Nat.mul_one] at hown2
                  rw [← hints, ← hle] at hown2
                  rw [← hle] at hnn2
                  have hz := hown2
                  refine ⟨HLG.out.below hbJ, ?_⟩
                  have hsm : ∃ g2, a2' = some ⟨g2, 0, none⟩ ∧ wG.heap.size ≤ g2 := by
                    rcases hown2.2 with ⟨h, h'⟩ | ⟨g2, cap2, cur, e, q', _⟩
                    · exact absurd h hnn2
                    · injection e with e; exact ⟨g2, e, q'⟩
                  obtain ⟨g2, rfl, hg2⟩ := hsm
                  exact ⟨g2, c2', by rw [hle], by omega, by rw [← hle]; exact ownE_base hown2 (by omega), (LinkFree.fresh HLG.out hg2).same (hbJ.block m (by omega)) (hbJ.block (m + 1) hmlG)⟩
                have HR1 := Lib.hid hrun1
                have HR2 := Lib.hid hrun2
                have HWH := Lib.hid hwH
                have HLJ := Lib.hid hlJ
                clear hX hrun1 hrun2 hwH hlJ hown1 hown2 hgr1 hgr2 hnn1 hnn2 hRL hRL2 own0
                have t1 := T1.out
                go_wp2_with (fail)
                refine wp_region_any (by kernel_rfl) ?_
                change wpAny _ _ _ _ _ _ _ (World.drew _)
                refine take_at (i := 1) (v := ?_) 121 rfl (by kernel_rfl) (by kernel_rfl) (by kernel_rfl) rfl (fun _ _ _ h => h) (Or.inl ⟨by rfl, ?_⟩) ?_
                rotate_left; (intro w; go_simp; try with_reducible rfl); try simp only [Act.put, List.setIfInBounds_toArray, List.set_cons_zero, List.set_cons_succ]
                refine take_at (i := 2) (v := ?_) 122 rfl (by kernel_rfl) (by kernel_rfl) (by kernel_rfl) rfl (fun _ _ _ h => h) (Or.inl ⟨by rfl, ?_⟩) ?_
                rotate_left; (intro w; go_simp; try with_reducible rfl); try simp only [Act.put, List.setIfInBounds_toArray, List.set_cons_zero, List.set_cons_succ]
                refine take_at (i := 3) (v := ?_) 123 rfl (by kernel_rfl) (by kernel_rfl) (by kernel_rfl) rfl (fun _ _ _ h => h) (Or.inl ⟨by rfl, ?_⟩) ?_
                rotate_left; (intro w; go_simp; try with_reducible rfl); try simp only [Act.put, List.setIfInBounds_toArray, List.set_cons_zero, List.set_cons_succ]
                refine take_at (i := 5) (v := ?_) 125 rfl (by kernel_rfl) (by kernel_rfl) (by kernel_rfl) rfl (fun _ _ _ h => h) (Or.inl ⟨by rfl, ?_⟩) ?_
                rotate_left; (intro w; go_simp; try with_reducible rfl); try simp only [Act.put, List.setIfInBounds_toArray, List.set_cons_zero, List.set_cons_succ]
                refine take_at (i := 6) (v := ?_) 126 rfl (by kernel_rfl) (by kernel_rfl) (by kernel_rfl) rfl (fun _ _ _ h => h) (Or.inl ⟨by rfl, ?_⟩) ?_
                rotate_left; (intro w; go_simp; try with_reducible rfl); try simp only [Act.put, List.setIfInBounds_toArray, List.set_cons_zero, List.set_cons_succ]
                refine take_at (i := 7) (v := ?_) 127 rfl (by kernel_rfl) (by kernel_rfl) (by kernel_rfl) rfl (fun _ _ _ h => h) (Or.inl ⟨by rfl, ?_⟩) ?_
                rotate_left; (intro w; go_simp; try with_reducible rfl); try simp only [Act.put, List.setIfInBounds_toArray, List.set_cons_zero, List.set_cons_succ]
                refine take_at (i := 8) (v := ?_) 128 rfl (by kernel_rfl) (by kernel_rfl) (by kernel_rfl) rfl (fun _ _ _ h => h) (Or.inl ⟨by rfl, ?_⟩) ?_
                rotate_left; (intro w; go_simp; try with_reducible rfl); try simp only [Act.put, List.setIfInBounds_toArray, List.set_cons_zero, List.set_cons_succ]
                refine wpAny_ready (rs := [0]) (by kernel_rfl) (by simp) ?_
                refine AllReady.cons rfl (fun K hK => ?_) AllReady.nil
                go_simp
                rw [HWH.out]
                refine hK _ _ ?_
                clear hK K
                try simp only [Act.put, List.setIfInBounds_toArray, List.set_cons_zero, List.set_cons_succ]
                refine wpAny_ready (rs := [4]) (by kernel_rfl) (by simp) ?_
                refine AllReady.cons rfl (fun K hK => ?_) AllReady.nil
                refine opx_append rfl (.tmp 120) (.tmp 123) 51 51 rfl _ _ rfl rfl _ _ HR1 ?_
                refine hK _ _ ?_
                clear hK K
                try simp only [Act.put, List.setIfInBounds_toArray, List.set_cons_zero, List.set_cons_succ]
                refine wpAny_ready (rs := [9]) (by kernel_rfl) (by simp) ?_
                refine AllReady.cons rfl (fun K hK => ?_) AllReady.nil
                refine opx_append rfl (.tmp 124) (.tmp 128) 51 51 rfl _ _ rfl rfl _ _ HR2 ?_
                refine hK _ _ ?_
                clear hK K
                try simp only [Act.put, List.setIfInBounds_toArray, List.set_cons_zero, List.set_cons_succ]
                refine take_at (i := 10) (v := ?_) 7 rfl (by kernel_rfl) (by kernel_rfl) (by kernel_rfl) rfl (fun _ _ _ h => h) (Or.inl ⟨by rfl, ?_⟩) ?_
                rotate_left; (intro w; go_simp; try with_reducible rfl); try simp only [Act.put, List.setIfInBounds_toArray, List.set_cons_zero, List.set_cons_succ]
                refine wpAny_done (by kernel_rfl) ?_ _
                clear t1
                go_wp2_with (fail)
                go_at_call 31; refine (link_len _ m k _ HLJ.out.1).mono ?_; rintro e wz ⟨rfl, rfl⟩
                rw [ents_len, List.length_eraseIdx, if_pos (by omega)]
                go_wp2_with (fail)
                go_roundw
                case rel => exact ⟨i + 1, ids.eraseIdx q, by omega, by go_num, HLJ.out, by rw [List.length_eraseIdx]; split <;> omega, fun x hx => HALL.out x ((List.eraseIdx_sublist ids q).subset hx), hBG.trans (hbJ.mono (by omega))⟩
                case measure => simp [intOf]; omega
              · skip
                obtain ⟨wH, hwH⟩ : ∃ wH, (wG.alloc (.cells #[] 3)).drew = wH := ⟨_, rfl⟩
                have hbH : Below wG.heap.size wG wH := by rw [← hwH]; exact ((Below.refl _ _).alloc (Nat.le_refl _) _).drew
                have own0 : wH.ownsRow wG.heap.size 3 1 (.slice (some ⟨wG.heap.size, 0, none⟩) 0 0) 0 [] := by rw [← hwH]; exact (ownE_empty wG 3 1).drew
                have hRL := RdC.of_own (ownE_below HOG.out hbH)
                obtain ⟨v1, wI, hrun1, hown1, hgr1, hnn1⟩ := append_rdn wH wG.heap.size _ 0 [] own0 (by simp) _ q _ (hRL.cut (m := q) (c2 := cl) (by omega) (by omega) hclM) (by intro u hu; exact intsV_one ids u (List.mem_of_mem_take hu)) (by omega) hbH.size 51
                rw [List.nil_append, Nat.zero_add, Nat.mul_one] at hown1
                have hbI : Below wG.heap.size wG wI := hbH.grown hgr1 hbH.size (fun j hj => (own0.lt j hj).1)
                have hRL2 := RdC.of_own (ownE_below HOG.out hbI)
                have hX := hRL2.rest (m := q + 1) (c2 := cl - (q + 1)) (by omega) (some ⟨gl, q + 1, none⟩) (fun b off e h => by injection e with e; injection e with e1 e2; subst e1; subst e2; simp) (by omega) (by omega)
                rw [show ids.length - (q + 1) = r from by omega] at hX
                obtain ⟨v2, wJ, hrun2, hown2, hgr2, hnn2⟩ := append_rdn wI wG.heap.size v1 q _ hown1 hnn1 _ r _ hX (by intro u hu; exact intsV_one ids u (List.mem_of_mem_drop hu)) (by omega) hbI.size 51
                have hbJ : Below wG.heap.size wG wJ := hbI.grown hgr2 hbI.size (fun j hj => (hown1.lt j hj).1)
                obtain ⟨a2', c2', rfl, hc21, hc22⟩ := ownE_slice hown2
                have hlJ : LO wJ m (ids.eraseIdx q) k (.slice a2' (q + r) c2') := by
                  have hle : (ids.eraseIdx q).length = q + r := by rw [List.length_eraseIdx, if_pos (by omega)]; omega
                  have hints : intsV (ids.eraseIdx q) = (intsV ids).take q ++ (intsV ids).drop (q + 1) := by unfold intsV; rw [map_erase, List.eraseIdx_eq_take_drop_succ]
                  rw [Nat.mul_one] at hown2
                  rw [← hints, ← hle] at hown2
                  rw [← hle] at hnn2
                  have hz := hown2
                  refine ⟨HLG.out.below hbJ, ?_⟩
                  have hsm : ∃ g2, a2' = some ⟨g2, 0, none⟩ ∧ wG.heap.size ≤ g2 := by
                    rcases hown2.2 with ⟨h, h'⟩ | ⟨g2, cap2, cur, e, q', _⟩
                    · exact absurd h hnn2
                    · injection e with e; exact ⟨g2, e, q'⟩
                  obtain ⟨g2, rfl, hg2⟩ := hsm
                  exact ⟨g2, c2', by rw [hle], by omega, by rw [← hle]; exact ownE_base hown2 (by omega), (LinkFree.fresh HLG.out hg2).same (hbJ.block m (by omega)) (hbJ.block (m + 1) hmlG)⟩
                have HR1 := Lib.hid hrun1
                have HR2 := Lib.hid hrun2
                have HWH := Lib.hid hwH
                have HLJ := Lib.hid hlJ
                clear hX hrun1 hrun2 hwH hlJ hown1 hown2 hgr1 hgr2 hnn1 hnn2 hRL hRL2 own0
                have t1 := T1.out
                go_wp2_with (fail)
                refine wp_region_any (by kernel_rfl) ?_
                change wpAny _ _ _ _ _ _ _ (World.drew _)
                refine take_at (i := 1) (v := ?_) 121 rfl (by kernel_rfl) (by kernel_rfl) (by kernel_rfl) rfl (fun _ _ _ h => h) (Or.inl ⟨by rfl, ?_⟩) ?_
                rotate_left; (intro w; go_simp; try with_reducible rfl); try simp only [Act.put, List.setIfInBounds_toArray, List.set_cons_zero, List.set_cons_succ]
                refine take_at (i := 2) (v := ?_) 122 rfl (by kernel_rfl) (by kernel_rfl) (by kernel_rfl) rfl (fun _ _ _ h => h) (Or.inl ⟨by rfl, ?_⟩) ?_
                rotate_left; (intro w; go_simp; try with_reducible rfl); try simp only [Act.put, List.setIfInBounds_toArray, List.set_cons_zero, List.set_cons_succ]
                refine take_at (i := 3) (v := ?_) 123 rfl (by kernel_rfl) (by kernel_rfl) (by kernel_rfl) rfl (fun _ _ _ h => h) (Or.inl ⟨by rfl, ?_⟩) ?_
                rotate_left; (intro w; go_simp; try with_reducible rfl); try simp only [Act.put, List.setIfInBounds_toArray, List.set_cons_zero, List.set_cons_succ]
                refine take_at (i := 5) (v := ?_) 125 rfl (by kernel_rfl) (by kernel_rfl) (by kernel_rfl) rfl (fun _ _ _ h => h) (Or.inl ⟨by rfl, ?_⟩) ?_
                rotate_left; (intro w; go_simp; try with_reducible rfl); try simp only [Act.put, List.setIfInBounds_toArray, List.set_cons_zero, List.set_cons_succ]
                refine take_at (i := 6) (v := ?_) 126 rfl (by kernel_rfl) (by kernel_rfl) (by kernel_rfl) rfl (fun _ _ _ h => h) (Or.inl ⟨by rfl, ?_⟩) ?_
                rotate_left; (intro w; go_simp; try with_reducible rfl); try simp only [Act.put, List.setIfInBounds_toArray, List.set_cons_zero, List.set_cons_succ]
                refine take_at (i := 7) (v := ?_) 127 rfl (by kernel_rfl) (by kernel_rfl) (by kernel_rfl) rfl (fun _ _ _ h => h) (Or.inl ⟨by rfl, ?_⟩) ?_
                rotate_left; (intro w; go_simp; try with_reducible rfl); try simp only [Act.put, List.setIfInBounds_toArray, List.set_cons_zero, List.set_cons_succ]
                refine take_at (i := 8) (v := ?_) 128 rfl (by kernel_rfl) (by kernel_rfl) (by kernel_rfl) rfl (fun _ _ _ h => h) (Or.inl ⟨by rfl, ?_⟩) ?_
                rotate_left; (intro w; go_simp; try with_reducible rfl); try simp only [Act.put, List.setIfInBounds_toArray, List.set_cons_zero, List.set_cons_succ]
                refine wpAny_ready (rs := [0]) (by kernel_rfl) (by simp) ?_
                refine AllReady.cons rfl (fun K hK => ?_) AllReady.nil
                go_simp
                rw [HWH.out]
                refine hK _ _ ?_
                clear hK K
                try simp only [Act.put, List.setIfInBounds_toArray, List.set_cons_zero, List.set_cons_succ]
                refine wpAny_ready (rs := [4]) (by kernel_rfl) (by simp) ?_
                refine AllReady.cons rfl (fun K hK => ?_) AllReady.nil
                refine opx_append rfl (.tmp 120) (.tmp 123) 51 51 rfl _ _ rfl rfl _ _ HR1 ?_
                refine hK _ _ ?_
                clear hK K
                try simp only [Act.put, List.setIfInBounds_toArray, List.set_cons_zero, List.set_cons_succ]
                refine wpAny_ready (rs := [9]) (by kernel_rfl) (by simp) ?_
                refine AllReady.cons rfl (fun K hK => ?_) AllReady.nil
                refine opx_append rfl (.tmp 124) (.tmp 128) 51 51 rfl _ _ rfl rfl _ _ HR2 ?_
                refine hK _ _ ?_
                clear hK K
                try simp only [Act.put, List.setIfInBounds_toArray, List.set_cons_zero, List.set_cons_succ]
                refine take_at (i := 10) (v := ?_) 7 rfl (by kernel_rfl) (by kernel_rfl) (by kernel_rfl) rfl (fun _ _ _ h => h) (Or.inl ⟨by rfl, ?_⟩) ?_
                rotate_left; (intro w; go_simp; try with_reducible rfl); try simp only [Act.put, List.setIfInBounds_toArray, List.set_cons_zero, List.set_cons_succ]
                refine wpAny_done (by kernel_rfl) ?_ _
                clear t1
                go_wp2_with (fail)
                go_at_call 31; refine (link_len _ m k _ HLJ.out.1).mono ?_; rintro e wz ⟨rfl, rfl⟩
                rw [ents_len, List.length_eraseIdx, if_pos (by omega)]
                go_wp2_with (fail)
                go_roundw
                case rel => exact ⟨i + 1, ids.eraseIdx q, by omega, by go_num, HLJ.out, by rw [List.length_eraseIdx]; split <;> omega, fun x hx => HALL.out x ((List.eraseIdx_sublist ids q).subset hx), hBG.trans (hbJ.mono (by omega))⟩
                case measure => simp [intOf]; omega
        · obtain rfl : i = M := by omega
          have hA : wr.heap.size ≤ wr.heap.size := Nat.le_refl _
          by_cases hin : i < n1
          · have q1 : (i : Int) < (n1 : Int) := by omega
            have q2 : ¬ (i : Int) < 40 := by have := HM.out; omega
            go_wp2_with (fail)
            go_at_call 31; refine (link_len _ m k _ HLO.out.1).mono ?_; rintro e wz ⟨rfl, rfl⟩
            rw [ents_len]
            go_wp2_with (fail)
            go_ret
            exact ⟨rfl, hwr⟩
          · have q1 : ¬ (i : Int) < (n1 : Int) := by omega
            go_wp2_with (fail)
            go_at_call 31; refine (link_len _ m k _ HLO.out.1).mono ?_; rintro e wz ⟨rfl, rfl⟩
            rw [ents_len]
            go_wp2_with (fail)
            go_ret
            exact ⟨rfl, hwr⟩
theorem linkOrders_any (w : World) (n0 : Nat) (v : Value) (n1 : Nat) (g1 : Nat → Nat) (h0 : n0 < 256) (hv : Rd w v n1 g1) :
    Calls Try.prog 7 #[.int .u8 n0, v] w fun e w' => e = .returned (.bool true) ∧ Below w.heap.size w w' :=
  orders_at w n0 (n0 % 31) (min n1 40) n1 v g1 h0 hv (by omega) rfl
end Go.Proofs.Ytkcfcimophjomaa

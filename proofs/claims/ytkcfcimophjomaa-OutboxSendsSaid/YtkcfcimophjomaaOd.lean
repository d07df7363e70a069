import Derived.Test.YtkcfcimophjomaaOc
import Derived.IntWalk
namespace Go.Proofs.Ytkcfcimophjomaa
open Go.RowKit
set_option linter.unusedVariables false
set_option linter.unusedSimpArgs false
attribute [local go_sem high] min_mx max_mx
/-- The row is another one, and so many more were sent. -/
theorem IsBox.sent {w w3 : World} {p : Nat} {most batch sent : Int} {es es' : List (Int × Int)} (h : IsBox w p most batch sent es) (hb : Below w.heap.size w w3) {v3 : Value} (hown : w3.ownsRow (p + 1) 40 12 v3 es'.length (evs es')) (sent' : Int) :
    IsBox ((w3.setCell ⟨p, 3, none⟩ v3).setCell ⟨p, 2, none⟩ (.int .i64 sent')) p most batch sent' es' ∧ w.grownBy ((w3.setCell ⟨p, 3, none⟩ v3).setCell ⟨p, 2, none⟩ (.int .i64 sent')) (some p) := by
  have hl := h.lt
  obtain ⟨v, h1, h2⟩ := h
  have h3 : w3.heap[p]? = _ := (hb.block p hl).trans h1
  have h4 := heap_setCell_same w3 p 3 _ 68 v3 h3
  have h5 := heap_setCell_same _ p 2 _ 68 (.int .i64 sent') h4
  have hoth : ∀ k, k ≠ p → ((w3.setCell ⟨p, 3, none⟩ v3).setCell ⟨p, 2, none⟩ (.int .i64 sent')).heap[k]? = w3.heap[k]? := fun k hk => by
    rw [heap_setCell_other _ ⟨p, 2, none⟩ k _ (by simpa using hk), heap_setCell_other _ ⟨p, 3, none⟩ k _ (by simpa using hk)]
  have hbel : Below p w ((w3.setCell ⟨p, 3, none⟩ v3).setCell ⟨p, 2, none⟩ (.int .i64 sent')) := (((hb.mono (by omega)).setCell (by simp) _).setCell (by simp) _)
  exact ⟨⟨v3, h5, ownE_same hown (fun k hk => hoth k (by omega))⟩, ⟨hbel.os, hbel.tape, hbel.output, hbel.size, fun k hk hne => (hoth k (by intro e; subst e; exact hne rfl)).trans (hb.block k hk)⟩⟩
theorem grown_below {w w' : World} {p B : Nat} (h : w.grownBy w' (some p)) (hB : B ≤ p) (hp : p < w.heap.size) : Below B w w' :=
  ⟨h.os, h.tape, h.output, h.size, fun k hk => h.block k (by omega) (by intro e; injection e; omega)⟩
/-- Some are sent. -/
theorem box_sent_ge (w : World) (p : Nat) (most batch sent upto : Int) (es : List (Int × Int)) (k : Nat) (h : IsBox w p most batch sent es) (hk : min (max (upto - sent) 0) (es.length : Int) = (k : Int)) (hn : es.length ≤ 100000)
    (hs1 : -1000000 ≤ sent) (hs2 : sent ≤ 1000000) (hu1 : -1000000 ≤ upto) (hu2 : upto ≤ 1000000) (hlt : ¬ upto < sent) :
    Calls Try.prog 22 #[.pointer (some ⟨p, 0, none⟩), .int .i64 upto] w fun e w' => e = .returned (.int .i64 (sent + k)) ∧ IsBox w' p most batch (sent + k) (es.drop k) ∧ w.grownBy w' (some p) := by
  obtain ⟨a, c, hown, h1, h2, h3, h4, c0, c1, c2, c3⟩ := h.cells
  have hke : k ≤ es.length := by omega
  have hkc : k ≤ c := by omega
  have hwr : IntKind.i64.wrap (upto - sent) = upto - sent := IntWalk.i64_in _ (by omega)
  have r2 := wb_cell c2 h3
  have r3 := wb_cell c3 h3
  have HH := Lib.hid h
  have HO := Lib.hid hown
  have HF := Lib.hid h4
  have C2 := Lib.hid c2
  have C3 := Lib.hid c3
  clear hown h h4 c0 c1 c2 c3
  go_enter Try.func22, Try.ntmps22
  go_wp2
  refine wp_region_wb2 (by kernel_rfl) (by kernel_rfl) ?_
  repeat (go_big_quiet_step (fail))
  refine wpQuiet_nil ?_; intro wq hbq
  have c2 : wq.cell? ⟨p, 2, none⟩ = some (.int .i64 sent) := (hbq.cell (p := ⟨p, 2, none⟩) h3).trans C2.out
  have c3 : wq.cell? ⟨p, 3, none⟩ = some (.slice a es.length c) := (hbq.cell (p := ⟨p, 3, none⟩) h3).trans C3.out
  clear r2 r3 hwr
  go_wp2_with (fail)
  · have hR := (RdC.of_own HO.out).rest (c2 := 0) hke (a) (fun b off _ h => by omega) (by omega) (by omega)
    rw [evs_drop] at hR
    go_at_call 35; refine (cloneE _ _ _ _ _ (hR.below hbq) (evs_one' _) (by omega)).mono ?_; rintro e w3 ⟨v3, rfl, hown3, hB3⟩
    have hbw3 : Below w.heap.size w w3 := hbq.trans (hB3.mono hbq.size)
    obtain ⟨a3, c3', rfl, _, _⟩ := ownE_slice hown3
    have d2 : w3.cell? ⟨p, 2, none⟩ = some (.int .i64 sent) := (hbw3.cell (p := ⟨p, 2, none⟩) h3).trans C2.out
    have d3 : w3.cell? ⟨p, 3, none⟩ = some (.slice a es.length c) := (hbw3.cell (p := ⟨p, 3, none⟩) h3).trans C3.out
    have f2 : w3.frozen? ⟨p, 2, none⟩ = false := (hbw3.frozen (p := ⟨p, 2, none⟩) h3).trans (HF.out 2)
    have f3 : w3.frozen? ⟨p, 3, none⟩ = false := (hbw3.frozen (p := ⟨p, 3, none⟩) h3).trans (HF.out 3)
    have hl : (es.drop k).length = es.length - k := List.length_drop
    have h6 := HH.out.sent hbw3 (es' := es.drop k) (by rw [hl]; exact ownE_base hown3 (by have := hbq.size; omega)) (sent + k)
    have H6 := Lib.hid h6
    clear hown3 hR h6 c2 c3 hl
    go_wp2_with (fail)
    go_ret
    exact ⟨rfl, H6.out.1, H6.out.2⟩
  · have hR := (RdC.of_own HO.out).rest (c2 := c - k) hke (Option.map (fun x => x.add (k * 12)) a) (fun b off e _ => by subst e; simp [Addr.add_mid]) (by omega) (by omega)
    rw [evs_drop] at hR
    go_at_call 35; refine (cloneE _ _ _ _ _ (hR.below hbq) (evs_one' _) (by omega)).mono ?_; rintro e w3 ⟨v3, rfl, hown3, hB3⟩
    have hbw3 : Below w.heap.size w w3 := hbq.trans (hB3.mono hbq.size)
    obtain ⟨a3, c3', rfl, _, _⟩ := ownE_slice hown3
    have d2 : w3.cell? ⟨p, 2, none⟩ = some (.int .i64 sent) := (hbw3.cell (p := ⟨p, 2, none⟩) h3).trans C2.out
    have d3 : w3.cell? ⟨p, 3, none⟩ = some (.slice a es.length c) := (hbw3.cell (p := ⟨p, 3, none⟩) h3).trans C3.out
    have f2 : w3.frozen? ⟨p, 2, none⟩ = false := (hbw3.frozen (p := ⟨p, 2, none⟩) h3).trans (HF.out 2)
    have f3 : w3.frozen? ⟨p, 3, none⟩ = false := (hbw3.frozen (p := ⟨p, 3, none⟩) h3).trans (HF.out 3)
    have hl : (es.drop k).length = es.length - k := List.length_drop
    have h6 := HH.out.sent hbw3 (es' := es.drop k) (by rw [hl]; exact ownE_base hown3 (by have := hbq.size; omega)) (sent + k)
    have H6 := Lib.hid h6
    clear hown3 hR h6 c2 c3 hl
    go_wp2_with (fail)
    go_ret
    exact ⟨rfl, H6.out.1, H6.out.2⟩
theorem box_sent_lt (w : World) (p : Nat) (most batch sent upto : Int) (es : List (Int × Int)) (h : IsBox w p most batch sent es) (hn : es.length ≤ 100000)
    (hs1 : -1000000 ≤ sent) (hs2 : sent ≤ 1000000) (hu1 : -1000000 ≤ upto) (hu2 : upto ≤ 1000000) (hlt : upto < sent) :
    Calls Try.prog 22 #[.pointer (some ⟨p, 0, none⟩), .int .i64 upto] w fun e w' => e = .returned (.int .i64 sent) ∧ IsBox w' p most batch sent es ∧ w.grownBy w' (some p) := by
  obtain ⟨a, c, hown, h1, h2, h3, h4, c0, c1, c2, c3⟩ := h.cells
  have hwr : IntKind.i64.wrap (upto - sent) = upto - sent := IntWalk.i64_in _ (by omega)
  have hmx : max (upto - sent) 0 = 0 := by omega
  have hmn : min (0 : Int) (es.length : Int) = 0 := by omega
  have r2 := wb_cell c2 h3
  have r3 := wb_cell c3 h3
  have HH := Lib.hid h
  have HO := Lib.hid hown
  have HF := Lib.hid h4
  have C2 := Lib.hid c2
  have C3 := Lib.hid c3
  clear hown h h4 c0 c1 c2 c3
  go_enter Try.func22, Try.ntmps22
  go_wp2
  refine wp_region_wb2 (by kernel_rfl) (by kernel_rfl) ?_
  repeat (go_big_quiet_step (fail))
  refine wpQuiet_nil ?_; intro wq hbq
  have c2 : wq.cell? ⟨p, 2, none⟩ = some (.int .i64 sent) := (hbq.cell (p := ⟨p, 2, none⟩) h3).trans C2.out
  have c3 : wq.cell? ⟨p, 3, none⟩ = some (.slice a es.length c) := (hbq.cell (p := ⟨p, 3, none⟩) h3).trans C3.out
  clear r2 r3 hwr
  go_wp2_with (fail)
  · have hR := (RdC.of_own HO.out).rest (c2 := c) (Nat.zero_le _) (a) (fun b off e _ => by subst e; simp) (by omega) (by omega)
    rw [evs_drop] at hR
    go_at_call 35; refine (cloneE _ _ _ _ _ (hR.below hbq) (evs_one' _) (by omega)).mono ?_; rintro e w3 ⟨v3, rfl, hown3, hB3⟩
    have hbw3 : Below w.heap.size w w3 := hbq.trans (hB3.mono hbq.size)
    obtain ⟨a3, c3', rfl, _, _⟩ := ownE_slice hown3
    have d2 : w3.cell? ⟨p, 2, none⟩ = some (.int .i64 sent) := (hbw3.cell (p := ⟨p, 2, none⟩) h3).trans C2.out
    have d3 : w3.cell? ⟨p, 3, none⟩ = some (.slice a es.length c) := (hbw3.cell (p := ⟨p, 3, none⟩) h3).trans C3.out
    have f2 : w3.frozen? ⟨p, 2, none⟩ = false := (hbw3.frozen (p := ⟨p, 2, none⟩) h3).trans (HF.out 2)
    have f3 : w3.frozen? ⟨p, 3, none⟩ = false := (hbw3.frozen (p := ⟨p, 3, none⟩) h3).trans (HF.out 3)
    have hl : (es.drop 0).length = es.length - 0 := List.length_drop
    have h6 := HH.out.sent hbw3 (es' := es.drop 0) (by rw [hl]; exact ownE_base hown3 (by have := hbq.size; omega)) sent
    have H6 := Lib.hid h6
    clear hown3 hR h6 c2 c3 hl
    go_wp2_with (fail)
    go_ret
    exact ⟨rfl, H6.out.1, H6.out.2⟩
theorem box_sent (w : World) (p : Nat) (most batch sent upto : Int) (es : List (Int × Int)) (k : Nat) (h : IsBox w p most batch sent es) (hk : min (max (upto - sent) 0) (es.length : Int) = (k : Int)) (hn : es.length ≤ 100000)
    (hs1 : -1000000 ≤ sent) (hs2 : sent ≤ 1000000) (hu1 : -1000000 ≤ upto) (hu2 : upto ≤ 1000000) :
    Calls Try.prog 22 #[.pointer (some ⟨p, 0, none⟩), .int .i64 upto] w fun e w' => e = .returned (.int .i64 (sent + k)) ∧ IsBox w' p most batch (sent + k) (es.drop k) ∧ w.grownBy w' (some p) := by
  by_cases hlt : upto < sent
  · obtain rfl : k = 0 := by omega
    have h1 := box_sent_lt w p most batch sent upto es h hn hs1 hs2 hu1 hu2 hlt
    simpa using h1
  · exact box_sent_ge w p most batch sent upto es k h hk hn hs1 hs2 hu1 hu2 hlt
end Go.Proofs.Ytkcfcimophjomaa

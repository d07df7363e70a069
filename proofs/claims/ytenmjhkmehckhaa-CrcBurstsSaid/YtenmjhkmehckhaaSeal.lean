import Derived.Test.YtenmjhkmehckhaaConcat
import Derived.Laws.Cover3
import Derived.Stop.BytesEq
namespace Go.Proofs.Ytenmjhkmehckhaa
open Go.RowKit
set_option linter.unusedVariables false
set_option linter.unusedSimpArgs false

theorem eqNil (a : Option Addr) (n c : Nat) (w : World) : (binOp .eql 22 (.slice a n c) (.slice none 0 0)).run Try.prog w = .ok (.bool a.isNone) w := by
  simp only [binOp]
  simp [run_equal_slice_nil w 22 5 a n c Try.underlying22]
theorem own_base {w : World} {B B' : Nat} {v : Value} {n : Nat} {xs : List Value} (h : w.ownsRow B 5 1 v n xs) (hb : B' ≤ B) : w.ownsRow B' 5 1 v n xs :=
  ⟨h.1, h.2.imp id fun ⟨g, cap, cur, h1, h2, h3⟩ => ⟨g, cap, cur, h1, Nat.le_trans hb h2, h3⟩⟩
theorem eqNone (n c : Nat) (w : World) : (binOp .eql 22 (.slice none n c) (.slice none 0 0)).run Try.prog w = .ok (.bool true) w := eqNil none n c w
theorem eqSome (a : Addr) (n c : Nat) (w : World) : (binOp .eql 22 (.slice (some a) n c) (.slice none 0 0)).run Try.prog w = .ok (.bool false) w := eqNil (some a) n c w
attribute [local go_sem] eqNone eqSome
theorem clone_none (c : Nat) (g : Nat → Nat) (w : World) (hg : ∀ i, g i < 256) : Calls Try.prog 20 #[.slice none 0 c] w fun e w' => ∃ v', e = .returned v' ∧ Rd w' v' 0 g ∧ Below w.heap.size w w' := by
  go_enter Try.func20, Try.ntmps20
  go_wp2
  go_ret
  exact ⟨_, rfl, ⟨hg, .inl ⟨rfl, none, 0, rfl, by omega⟩⟩, Below.refl _ _⟩
theorem clone_some (a : Addr) (n c : Nat) (g : Nat → Nat) (w : World) (h : Rd w (.slice (some a) n c) n g) (hn : n ≤ 100000) : Calls Try.prog 20 #[.slice (some a) n c] w fun e w' => ∃ v', e = .returned v' ∧ Rd w' v' n g ∧ Below w.heap.size w w' := by
  have hR : Rd (w.alloc (.cells #[] 5)) (.slice (some a) n c) n g := h.below ((Below.refl _ _).alloc (Nat.le_refl _) _)
  have own0 := own_empty w 5
  have H := Lib.hid h.1
  clear h
  go_enter Try.func20, Try.ntmps20
  go_wp2_with (at_builtin; refine wpList_append_rd _ rfl (.tmp 5) (.tmp 6) rfl w.heap.size _ 0 [] rfl own0 _ n g rfl hR (by omega) (by simp) ?_; intro v3 w3 hown3 hgr3)
  go_ret
  refine ⟨_, rfl, ?_, ((Below.refl _ _).alloc (Nat.le_refl _) _).grown hgr3 (by simp) (fun k hk => (own0.lt k hk).1)⟩
  have h0 : (fl g n).length = n := fl_len g n
  have h1 := Rd.of_own (w := w3) (B := w.heap.size) (v := v3) (xs := fl g n) (by rw [h0]; simpa using hown3) (fun i => by
    rcases Nat.lt_or_ge i n with hi | hi
    · rw [fl_get g n i hi]; exact H.out i
    · rw [List.getD_eq_getElem?_getD, List.getElem?_eq_none (by rw [h0]; exact hi)]; simp)
  rw [h0] at h1
  exact h1.same H.out (fun i hi => fl_get g n i hi)
theorem clone_any {v : Value} {n : Nat} {g : Nat → Nat} {w : World} (h : Rd w v n g) (hn : n ≤ 100000) : Calls Try.prog 20 #[v] w fun e w' => ∃ v', e = .returned v' ∧ Rd w' v' n g ∧ Below w.heap.size w w' := by
  obtain ⟨a, c, rfl, hc, hm⟩ := h.take
  cases a with
  | none =>
    have hg := h.1
    obtain ⟨_, ⟨rfl, a, c', h3, h4⟩ | ⟨_, b, off, c', h3, h4, h5, _, _⟩⟩ := h
    · exact clone_none c g w hg
    · cases h3
  | some a => exact clone_some a n c g w h hn

set_option maxHeartbeats 1000000 in
theorem seal_any {v : Value} {n : Nat} {g : Nat → Nat} {w : World} (h : Rd w v n g) (hn : n ≤ 90000) :
    Calls Try.prog 17 #[v] w fun e w' => ∃ v', e = .returned v' ∧ w'.ownsRow w.heap.size 5 1 v' (n + 4) (cells8 (fl g n ++ [q4 (sumN g n) 0, q4 (sumN g n) 1, q4 (sumN g n) 2, q4 (sumN g n) 3])) ∧ Below w.heap.size w w' := by
  obtain ⟨a, c, rfl, hc, hm⟩ := h.take
  have H := Lib.hid h
  have HL := Lib.hid (sumN_lt h.1 n)
  clear h
  go_enter Try.func17, Try.ntmps17
  go_wp2_with (fail)
  go_at_call 13; refine (sum_any H.out).mono ?_; rintro e w1 ⟨rfl, rfl⟩
  go_wp2_with (fail)
  go_at_call 19; refine (four_any _ _ HL.out).mono ?_; rintro e w1 ⟨rfl, hb1⟩
  go_wp2_with (fail)
  have hz1 := hb1.size
  have hA := heap_alloc_new w1 (.cells #[.int .u8 (q4 (sumN g n) 0 : Nat), .int .u8 (q4 (sumN g n) 1 : Nat), .int .u8 (q4 (sumN g n) 2 : Nat), .int .u8 (q4 (sumN g n) 3 : Nat)] 37)
  generalize hwa : w1.alloc (.cells #[.int .u8 (q4 (sumN g n) 0 : Nat), .int .u8 (q4 (sumN g n) 1 : Nat), .int .u8 (q4 (sumN g n) 2 : Nat), .int .u8 (q4 (sumN g n) 3 : Nat)] 37) = wa at hA
  have hsz : wa.heap.size = w1.heap.size + 1 := by rw [← hwa]; simp
  have hba : Below w1.heap.size w1 wa := by rw [← hwa]; exact (Below.refl _ _).alloc (Nat.le_refl _) _
  have hR4 : Rd wa (.slice (some ⟨w1.heap.size, 0, none⟩) 4 4) 4 (q4 (sumN g n)) := ⟨fun i => by unfold q4; exact Nat.mod_lt _ (by omega), .inr ⟨by omega, w1.heap.size, 0, 4, rfl, by omega, by omega, by omega, fun i hi => by
    rw [cell_of_row wa w1.heap.size (0 + i) _ 37 (0, 0) hA]
    match i, hi with
    | 0, _ => rfl
    | 1, _ => rfl
    | 2, _ => rfl
    | 3, _ => rfl⟩⟩
  have hRa : Rd wa (.slice a n c) n g := (H.out.below hb1).below hba
  have hB := heap_alloc_new wa (.cells #[.slice a n c, .slice (some ⟨w1.heap.size, 0, none⟩) 4 4] 22)
  have hbb : Below wa.heap.size wa (wa.alloc (.cells #[.slice a n c, .slice (some ⟨w1.heap.size, 0, none⟩) 4 4] 22)) := (Below.refl _ _).alloc (Nat.le_refl _) _
  rw [← hsz]
  refine (concat_two wa.heap.size a _ n 4 c 4 g (q4 (sumN g n)) _ (by simp) ?_ ?_ (hRa.below hbb) (hR4.below hbb) (by omega) (by omega)).mono ?_
  · rw [cell_of_row _ wa.heap.size 0 _ 22 (0, 0) hB]; rfl
  · rw [cell_of_row _ wa.heap.size 1 _ 22 (0, 0) hB]; rfl
  rintro e w2 ⟨v2, rfl, hown2, hb2⟩
  have hbz : Below w.heap.size w w2 := ((hb1.trans (hba.mono hz1)).trans (hbb.mono (by omega))).trans (hb2.mono (by simp; omega))
  have hown : w2.ownsRow w.heap.size 5 1 v2 (n + 4) (cells8 (fl g n ++ [q4 (sumN g n) 0, q4 (sumN g n) 1, q4 (sumN g n) 2, q4 (sumN g n) 3])) := own_base hown2 (by simp; omega)
  clear hown2 hb2 hbb hB hRa hR4 hA hba
  go_wp2
  go_ret
  exact ⟨_, rfl, hown, hbz⟩
end Go.Proofs.Ytenmjhkmehckhaa

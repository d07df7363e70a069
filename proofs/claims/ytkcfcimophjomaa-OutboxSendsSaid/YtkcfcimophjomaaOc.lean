import Derived.Test.YtkcfcimophjomaaOb
namespace Go.Proofs.Ytkcfcimophjomaa
open Go.RowKit
set_option linter.unusedVariables false
set_option linter.unusedSimpArgs false
theorem eqNilE (a : Option Addr) (n c : Nat) (w : World) : (binOp .eql 41 (.slice a n c) (.slice none 0 0)).run Try.prog w = .ok (.bool a.isNone) w := by
  simp only [binOp]
  simp [run_equal_slice_nil w 41 40 a n c Try.underlying41]
theorem eqNoneE (n c : Nat) (w : World) : (binOp .eql 41 (.slice none n c) (.slice none 0 0)).run Try.prog w = .ok (.bool true) w := eqNilE none n c w
theorem eqSomeE (a : Addr) (n c : Nat) (w : World) : (binOp .eql 41 (.slice (some a) n c) (.slice none 0 0)).run Try.prog w = .ok (.bool false) w := eqNilE (some a) n c w
attribute [local go_sem] eqNoneE eqSomeE
theorem cloneE (a : Option Addr) (n c : Nat) (xs : List Value) (w : World) (h : RdC w 12 (.slice a n c) n xs) (h1 : ∀ u ∈ xs, u.oneCell' = true) (hn : n ≤ 100000) : Calls Try.prog 35 #[.slice a n c] w fun e w' => ∃ v', e = .returned v' ∧ w'.ownsRow w.heap.size 40 12 v' n xs ∧ Below w.heap.size w w' := by
  cases a with
  | none =>
    have h0 : n = 0 := by
      obtain ⟨_, ⟨h1, _⟩ | ⟨_, b, off, c', h3, _⟩⟩ := h
      · exact h1
      · cases h3
    subst h0
    have hx : xs = [] := List.eq_nil_of_length_eq_zero (by have := h.1; omega)
    subst hx
    clear h h1
    go_enter Try.func35, Try.ntmps35
    go_wp2
    go_ret
    exact ⟨_, rfl, World.ownsRow_nil _ _ _ _, Below.refl _ _⟩
  | some a =>
    have hR : RdC (w.alloc (.cells #[] 40)) 12 (.slice (some a) n c) n xs := h.below ((Below.refl _ _).alloc (Nat.le_refl _) _)
    have own0 := ownE_empty w 40 12
    have H1 := Lib.hid h1
    clear h h1
    go_enter Try.func35, Try.ntmps35
    go_wp2_with (at_builtin; refine wpList_append_rdc _ rfl (.tmp 5) (.tmp 6) 41 rfl w.heap.size 40 12 112 _ info40 Try.underlying41 rfl (by omega) (by omega) _ 0 [] rfl own0 _ n xs rfl hR H1.out (by omega) (by simp) ?_; intro v3 w3 hown3 hgr3)
    go_ret
    exact ⟨_, rfl, by simpa using hown3, ((Below.refl _ _).alloc (Nat.le_refl _) _).grown hgr3 (by simp) (fun k hk => (own0.lt k hk).1)⟩
attribute [local go_sem high] min_mx max_mx
/-- The first ones. -/
theorem box_batch (w : World) (p : Nat) (most batch sent : Int) (es : List (Int × Int)) (k : Nat) (h : IsBox w p most batch sent es) (hk : min batch (es.length : Int) = (k : Int)) (hn : es.length ≤ 100000) :
    Calls Try.prog 20 #[.pointer (some ⟨p, 0, none⟩)] w fun e w' => ∃ v', e = .returned v' ∧ w'.ownsRow w.heap.size 40 12 v' k (evs (es.take k)) ∧ Below w.heap.size w w' := by
  obtain ⟨a, c, hown, h1, h2, h3, h4, c0, c1, c2, c3⟩ := h.cells
  have hke : k ≤ es.length := by omega
  have hkc : k ≤ c := by omega
  have r1 := wb_cell c1 h3
  have r3 := wb_cell c3 h3
  have hR := (RdC.of_own hown).cut (c2 := k) hke (Nat.le_refl _) (by omega)
  rw [evs_take] at hR
  have HR := Lib.hid hR
  have C3 := Lib.hid c3
  clear hown h h4 c0 c1 c2 c3 hR
  go_enter Try.func20, Try.ntmps20
  go_wp2
  refine wp_region_wb2 (by kernel_rfl) (by kernel_rfl) ?_
  repeat (go_big_quiet_step (fail))
  refine wpQuiet_nil ?_; intro wq hbq
  have c3 : wq.cell? ⟨p, 3, none⟩ = some (.slice a es.length c) := (hbq.cell (p := ⟨p, 3, none⟩) h3).trans C3.out
  clear r1 r3
  go_wp2_with (fail)
  go_at_call 35; refine (cloneE a k k _ _ (HR.out.below hbq) (evs_one' _) (by omega)).mono ?_; rintro e w3 ⟨v3, rfl, hown3, hB3⟩
  have HO := Lib.hid hown3
  clear hown3
  go_wp2_with (fail)
  go_ret
  exact ⟨v3, rfl, ownE_base HO.out hbq.size, hbq.trans (hB3.mono hbq.size)⟩
end Go.Proofs.Ytkcfcimophjomaa

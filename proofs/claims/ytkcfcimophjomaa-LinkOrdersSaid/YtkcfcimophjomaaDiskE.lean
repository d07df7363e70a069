import Derived.Test.YtkcfcimophjomaaDiskD
namespace Go.Proofs.Ytkcfcimophjomaa
open Go.RowKit
set_option linter.unusedVariables false
set_option linter.unusedSimpArgs false
theorem trim_none (w : World) (m : Nat) (bs : List Nat) (d : Bool) (o : Option Int) (n : Int) (h : IsDisk w m bs d o) (hb : bs.length ≤ 100000) (hn : n < 0 ∨ (bs.length : Int) < n) :
    Calls Try.prog 24 #[.pointer (some ⟨m + 1, 0, none⟩), .int .i64 n] w fun e w' => e = .returned (.tuple #[]) ∧ w = w' := by
  obtain ⟨v, c0, c1, c2, cf, cown, cm⟩ := h.cells
  obtain ⟨a, c, rfl⟩ := own_slice cown
  clear cown cm h
  by_cases h0 : n < 0
  · go_enter Try.func24, Try.ntmps24
    go_wp2
    go_end0
    exact ⟨rfl, rfl⟩
  · have h1 : ¬ n ≤ (bs.length : Int) := by omega
    go_enter Try.func24, Try.ntmps24
    go_wp2
    go_end0
    exact ⟨rfl, rfl⟩
attribute [local go_sem] eqNone eqSome
theorem clone_own (a : Option Addr) (n c : Nat) (g : Nat → Nat) (w : World) (h : Rd w (.slice a n c) n g) (hn : n ≤ 100000) : Calls Try.prog 34 #[.slice a n c] w fun e w' => ∃ v', e = .returned v' ∧ w'.ownsRow w.heap.size 5 1 v' n (cells8 (fl g n)) ∧ Below w.heap.size w w' := by
  cases a with
  | none =>
    have h0 : n = 0 := by
      obtain ⟨_, ⟨h1, _⟩ | ⟨_, b, off, c', h3, _⟩⟩ := h
      · exact h1
      · cases h3
    subst h0
    clear h
    go_enter Try.func34, Try.ntmps34
    go_wp2
    go_ret
    exact ⟨_, rfl, World.ownsRow_nil _ _ _ _, Below.refl _ _⟩
  | some a =>
    have hR : Rd (w.alloc (.cells #[] 5)) (.slice (some a) n c) n g := h.below ((Below.refl _ _).alloc (Nat.le_refl _) _)
    have own0 := own_empty w 5
    clear h
    go_enter Try.func34, Try.ntmps34
    go_wp2_with (at_builtin; refine wpList_append_rd _ rfl (.tmp 5) (.tmp 6) rfl w.heap.size _ 0 [] rfl own0 _ n g rfl hR (by omega) (by simp) ?_; intro v3 w3 hown3 hgr3)
    go_ret
    exact ⟨_, rfl, by simpa using hown3, ((Below.refl _ _).alloc (Nat.le_refl _) _).grown hgr3 (by simp) (fun k hk => (own0.lt k hk).1)⟩
end Go.Proofs.Ytkcfcimophjomaa

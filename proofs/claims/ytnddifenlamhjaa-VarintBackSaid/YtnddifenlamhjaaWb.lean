import Derived.Test.YtnddifenlamhjaaPutAt
namespace Go.Proofs.Ytnddifenlamhjaa
open Go.RowKit
set_option linter.unusedVariables false
set_option linter.unusedSimpArgs false

/-- A world below a block number as another one was: a class of worlds for regions that draw their order. -/
def WB (B : Nat) (w : World) : Type := { u : World // Below B w u }
instance instWB (B : Nat) (w : World) : Nonempty (WB B w) := ⟨⟨w, Below.refl B w⟩⟩
def WB.w {B : Nat} {w : World} (u : WB B w) : World := u.1
theorem wp_region_wb2 {P : Program} {id : Nat} {Q : Exit → Act → World → Prop} {a : Act} {w : World} {l : List Oper} (hm : P.follows .mixedOrders = true) (hB : Region.lexB .any l.toArray = true)
    (h : wpQuiet P l.toArray (fun w' => ∃ u : WB w.heap.size w, w' = u.w) (fun a' => ∀ w', Below w.heap.size w w' → Q .normal a' w') l a) : (Code.region id l.toArray true).wp P Q a w := by
  have e : (fun a' => ∀ w', Below w.heap.size w w' → Q .normal a' w') = (fun a' => ∀ w', (∃ u : WB w.heap.size w, w' = u.w) → Q .normal a' w') := by
    funext a'
    apply propext
    exact ⟨fun h w' ⟨u, hu⟩ => hu ▸ h u.w u.2, fun h w' hb => h w' ⟨⟨w', hb⟩, rfl⟩⟩
  rw [e] at h
  exact wp_region_quiet (C := fun w' => ∃ u : WB w.heap.size w, w' = u.w) hm hB ⟨⟨w.drew, (Below.refl _ _).drew⟩, rfl⟩ (by simpa using h)

theorem S_enc (n : Nat) : S (eg n) (enc n).length = n := (eg_spec n).2.2.2
theorem enc_inj {a b : Nat} (h : enc a = enc b) : a = b := by
  have ha := S_enc a
  have hb := S_enc b
  have : eg a = eg b := by unfold eg; rw [h]
  rw [this, h] at ha
  omega
theorem fl_take (g : Nat → Nat) (n i : Nat) (h : i < n) : (fl g n)[i]? = some (g i) := by
  unfold fl; simp [List.getElem?_map, List.getElem?_range h]
/-- None's bytes are the beginning of another one's. -/
theorem prefix_free {a b N : Nat} (hN : N = min (enc a).length (enc b).length) (h : fl (eg a) N = fl (eg b) N) : a = b := by
  have hpa := enc_pos a
  have hpb := enc_pos b
  have hg : ∀ i, i < N → eg a i = eg b i := fun i hi => by
    have := fl_take (eg a) N i hi
    rw [h, fl_take (eg b) N i hi] at this
    exact (Option.some.inj this).symm
  obtain ⟨a1, a2, _, _⟩ := eg_spec a
  obtain ⟨b1, b2, _, _⟩ := eg_spec b
  have hlen : (enc a).length = (enc b).length := by
    rcases Nat.lt_trichotomy (enc a).length (enc b).length with hl | hl | hl
    · have := hg ((enc a).length - 1) (by omega)
      have := (b1 ((enc a).length - 1) (by omega)).1
      omega
    · exact hl
    · have := hg ((enc b).length - 1) (by omega)
      have := (a1 ((enc b).length - 1) (by omega)).1
      omega
  apply enc_inj
  rw [← fl_eg a, ← fl_eg b, hlen]
  have : N = (enc b).length := by omega
  rw [← this]; exact h
end Go.Proofs.Ytnddifenlamhjaa

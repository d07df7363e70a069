/-
  No cell of these rows narrows 'for every input' (looked for: loops, veiled, ifaces, maps, wideKeys, modest, calm, conditions, laid).
  DERIVED. THE GIVEN ROWS OF THIS SEAT. 6 by the template 'for every input the law returns true; each argument reads behind the call as it read before'; 0 by the template 'total and deterministic' (their statements: YtnddifenlamhjaaTotals.lean).
  GIVEN WITH THE SEED: the statements are not yours to turn. If you find one false, say at which input.
  Laid BY PROGRAM, IN A SANDBOX (cutbox-rows.mjs): the forced cells as the released guide's own fill.sh prints them over the translation d09df6f2eccb5816… (all of the seat's roots in one cut). By AI agents, Wed Nov 11 2026. No macro, syntax, notation, axiom, sorry.
-/
import Derived.Test.YtnddifenlamhjaaChecked
import GoSem.Claim
import GoSem.ClaimJoined
import GoSem.ClaimMapViews
import Derived.JoinedTies
import Derived.KernelRfl
namespace Go.Proofs.Ytnddifenlamhjaa
/- THE CELL 'sum', in the pinned program and in every row, IS THE sha256 OF THE DUMP (.gsa) THAT YtnddifenlamhjaaProg.lean LOADS. Nothing in Lean hashes anything: it is a label: what it is worth is what the hold of that sum in a sandbox is worth. -/
noncomputable def Try.pinned : Pinned := { name := "ytnddifenlamhjaa", sum := "d09df6f2eccb58167428cbd19e766ad9bbeffd9501b7cddc56d94efe8aed06ac", checked := Try.checked }
namespace Rows
def none {H : Type} : Left H := { results := [], args := [] }

/-- 'kithlaw01.VarintAll': WHATEVER THE INPUT: true; the input reads as it did. -/
def varintAllSpec : ChangeSpec := { name := "varintAll", fn := fun _ => fun
  | [d1, d2] => { results := [.lit (.bool true)], args := [d1, d2] }
  | _ => none }
def varintAllRow : OpenClaim := { program := "ytnddifenlamhjaa", sum := "d09df6f2eccb58167428cbd19e766ad9bbeffd9501b7cddc56d94efe8aed06ac", func := "kith/kithlaw01.VarintAll", spec := "varintAll", apart := false }
def VarintAllSaid : Prop := varintAllRow.holds Try.pinned (OpenSpec.ofChange varintAllSpec)

/-- ITS FALSE NEIGHBOUR: 'it returns false'. Refute it at one input. -/
def varintAllWrong : ChangeSpec := { name := "varintAll", fn := fun _ => fun
  | [d1, d2] => { results := [.lit (.bool false)], args := [d1, d2] }
  | _ => none }
def VarintAllWrongFalsely : Prop := varintAllRow.holds Try.pinned (OpenSpec.ofChange varintAllWrong)

/-- 'kithlaw01.VarintBack': WHATEVER THE INPUT: true; the input reads as it did. -/
def varintBackSpec : ChangeSpec := { name := "varintBack", fn := fun _ => fun
  | [d1, d2, d3] => { results := [.lit (.bool true)], args := [d1, d2, d3] }
  | _ => none }
def varintBackRow : OpenClaim := { program := "ytnddifenlamhjaa", sum := "d09df6f2eccb58167428cbd19e766ad9bbeffd9501b7cddc56d94efe8aed06ac", func := "kith/kithlaw01.VarintBack", spec := "varintBack", apart := false }
def VarintBackSaid : Prop := varintBackRow.holds Try.pinned (OpenSpec.ofChange varintBackSpec)

/-- ITS FALSE NEIGHBOUR: 'it returns false'. Refute it at one input. -/
def varintBackWrong : ChangeSpec := { name := "varintBack", fn := fun _ => fun
  | [d1, d2, d3] => { results := [.lit (.bool false)], args := [d1, d2, d3] }
  | _ => none }
def VarintBackWrongFalsely : Prop := varintBackRow.holds Try.pinned (OpenSpec.ofChange varintBackWrong)

/-- 'kithlaw01.VarintShort': WHATEVER THE INPUT: true; the input reads as it did. -/
def varintShortSpec : ChangeSpec := { name := "varintShort", fn := fun _ => fun
  | [d] => { results := [.lit (.bool true)], args := [d] }
  | _ => none }
def varintShortRow : OpenClaim := { program := "ytnddifenlamhjaa", sum := "d09df6f2eccb58167428cbd19e766ad9bbeffd9501b7cddc56d94efe8aed06ac", func := "kith/kithlaw01.VarintShort", spec := "varintShort", apart := false }
def VarintShortSaid : Prop := varintShortRow.holds Try.pinned (OpenSpec.ofChange varintShortSpec)

/-- ITS FALSE NEIGHBOUR: 'it returns false'. Refute it at one input. -/
def varintShortWrong : ChangeSpec := { name := "varintShort", fn := fun _ => fun
  | [d] => { results := [.lit (.bool false)], args := [d] }
  | _ => none }
def VarintShortWrongFalsely : Prop := varintShortRow.holds Try.pinned (OpenSpec.ofChange varintShortWrong)

/-- 'kithlaw01.VarintApart': WHATEVER THE INPUT: true; the input reads as it did. -/
def varintApartSpec : ChangeSpec := { name := "varintApart", fn := fun _ => fun
  | [d1, d2] => { results := [.lit (.bool true)], args := [d1, d2] }
  | _ => none }
def varintApartRow : OpenClaim := { program := "ytnddifenlamhjaa", sum := "d09df6f2eccb58167428cbd19e766ad9bbeffd9501b7cddc56d94efe8aed06ac", func := "kith/kithlaw01.VarintApart", spec := "varintApart", apart := false }
def VarintApartSaid : Prop := varintApartRow.holds Try.pinned (OpenSpec.ofChange varintApartSpec)

/-- ITS FALSE NEIGHBOUR: 'it returns false'. Refute it at one input. -/
def varintApartWrong : ChangeSpec := { name := "varintApart", fn := fun _ => fun
  | [d1, d2] => { results := [.lit (.bool false)], args := [d1, d2] }
  | _ => none }
def VarintApartWrongFalsely : Prop := varintApartRow.holds Try.pinned (OpenSpec.ofChange varintApartWrong)

/-- 'kithlaw01.VarintOrders': WHATEVER THE INPUT: true; the input reads as it did. -/
def varintOrdersSpec : ChangeSpec := { name := "varintOrders", fn := fun _ => fun
  | [d1, d2] => { results := [.lit (.bool true)], args := [d1, d2] }
  | _ => none }
def varintOrdersRow : OpenClaim := { program := "ytnddifenlamhjaa", sum := "d09df6f2eccb58167428cbd19e766ad9bbeffd9501b7cddc56d94efe8aed06ac", func := "kith/kithlaw01.VarintOrders", spec := "varintOrders", apart := false }
def VarintOrdersSaid : Prop := varintOrdersRow.holds Try.pinned (OpenSpec.ofChange varintOrdersSpec)

/-- ITS FALSE NEIGHBOUR: 'it returns false'. Refute it at one input. -/
def varintOrdersWrong : ChangeSpec := { name := "varintOrders", fn := fun _ => fun
  | [d1, d2] => { results := [.lit (.bool false)], args := [d1, d2] }
  | _ => none }
def VarintOrdersWrongFalsely : Prop := varintOrdersRow.holds Try.pinned (OpenSpec.ofChange varintOrdersWrong)

/-- 'kithlaw01.VarintLong': WHATEVER THE INPUT: true; the input reads as it did. -/
def varintLongSpec : ChangeSpec := { name := "varintLong", fn := fun _ => fun
  | [d1, d2, d3] => { results := [.lit (.bool true)], args := [d1, d2, d3] }
  | _ => none }
def varintLongRow : OpenClaim := { program := "ytnddifenlamhjaa", sum := "d09df6f2eccb58167428cbd19e766ad9bbeffd9501b7cddc56d94efe8aed06ac", func := "kith/kithlaw01.VarintLong", spec := "varintLong", apart := false }
def VarintLongSaid : Prop := varintLongRow.holds Try.pinned (OpenSpec.ofChange varintLongSpec)

/-- ITS FALSE NEIGHBOUR: 'it returns false'. Refute it at one input. -/
def varintLongWrong : ChangeSpec := { name := "varintLong", fn := fun _ => fun
  | [d1, d2, d3] => { results := [.lit (.bool false)], args := [d1, d2, d3] }
  | _ => none }
def VarintLongWrongFalsely : Prop := varintLongRow.holds Try.pinned (OpenSpec.ofChange varintLongWrong)

/- THE SECOND FORM. 'bulk': how many values and letters a reading holds, each counted each time it is reached (what is shared counts as often as it is met; a slice's spare places count too). A statement '..UptoSaid' is the law's where the arguments, and the package variables that the reading takes, are together of bulk at most 1048576: NARROWER than '..Said'. Prove '..Said' where nothing that the law and all that it calls make is longer than what came in: it says more and counts as full. Else prove '..UptoSaid'. A law counts once. -/
mutual
def uptoBulk {H : Type} : DataW H → Nat
  | .lit (.string bytes) => bytes.length + 1
  | .lit _ => 1
  | .nil => 1
  | .ptr d => uptoBulk d + 1
  | .slice elems spare => uptoBulkAll elems + uptoBulkAll spare + 1
  | .agg parts => uptoBulkAll parts + 1
  | .iface _ d => uptoBulk d + 1
  | .map entries => uptoBulkEntries entries + 1
  | .held _ => 1
def uptoBulkAll {H : Type} : List (DataW H) → Nat
  | [] => 0
  | d :: r => uptoBulk d + uptoBulkAll r
def uptoBulkEntries {H : Type} : List (Lit × DataW H) → Nat
  | [] => 0
  | x :: r => uptoBulkEntry x + uptoBulkEntries r
def uptoBulkEntry {H : Type} : Lit × DataW H → Nat
  | (.string bytes, d) => bytes.length + uptoBulk d + 1
  | (_, d) => uptoBulk d + 1
 end
def uptoSmall : (H : Type) → List (DataW H) → Bool := fun _ ds => decide (uptoBulkAll ds ≤ 1048576)
def OpenSpec.upto (s : _root_.Go.ChangeSpec) : _root_.Go.OpenSpec := { _root_.Go.OpenSpec.ofChange s with cond := some uptoSmall }

/-- 'kithlaw01.VarintAll', WHERE WHAT IT READS IS OF BULK AT MOST 1048576: true; the input reads as it did. -/
def varintAllUptoRow : OpenClaim := { program := "ytnddifenlamhjaa", sum := "d09df6f2eccb58167428cbd19e766ad9bbeffd9501b7cddc56d94efe8aed06ac", func := "kith/kithlaw01.VarintAll", spec := "varintAll", apart := false, narrowed := true }
def VarintAllUptoSaid : Prop := varintAllUptoRow.holds Try.pinned (OpenSpec.upto varintAllSpec)

/-- 'kithlaw01.VarintBack', WHERE WHAT IT READS IS OF BULK AT MOST 1048576: true; the input reads as it did. -/
def varintBackUptoRow : OpenClaim := { program := "ytnddifenlamhjaa", sum := "d09df6f2eccb58167428cbd19e766ad9bbeffd9501b7cddc56d94efe8aed06ac", func := "kith/kithlaw01.VarintBack", spec := "varintBack", apart := false, narrowed := true }
def VarintBackUptoSaid : Prop := varintBackUptoRow.holds Try.pinned (OpenSpec.upto varintBackSpec)

/-- 'kithlaw01.VarintShort', WHERE WHAT IT READS IS OF BULK AT MOST 1048576: true; the input reads as it did. -/
def varintShortUptoRow : OpenClaim := { program := "ytnddifenlamhjaa", sum := "d09df6f2eccb58167428cbd19e766ad9bbeffd9501b7cddc56d94efe8aed06ac", func := "kith/kithlaw01.VarintShort", spec := "varintShort", apart := false, narrowed := true }
def VarintShortUptoSaid : Prop := varintShortUptoRow.holds Try.pinned (OpenSpec.upto varintShortSpec)

/-- 'kithlaw01.VarintApart', WHERE WHAT IT READS IS OF BULK AT MOST 1048576: true; the input reads as it did. -/
def varintApartUptoRow : OpenClaim := { program := "ytnddifenlamhjaa", sum := "d09df6f2eccb58167428cbd19e766ad9bbeffd9501b7cddc56d94efe8aed06ac", func := "kith/kithlaw01.VarintApart", spec := "varintApart", apart := false, narrowed := true }
def VarintApartUptoSaid : Prop := varintApartUptoRow.holds Try.pinned (OpenSpec.upto varintApartSpec)

/-- 'kithlaw01.VarintOrders', WHERE WHAT IT READS IS OF BULK AT MOST 1048576: true; the input reads as it did. -/
def varintOrdersUptoRow : OpenClaim := { program := "ytnddifenlamhjaa", sum := "d09df6f2eccb58167428cbd19e766ad9bbeffd9501b7cddc56d94efe8aed06ac", func := "kith/kithlaw01.VarintOrders", spec := "varintOrders", apart := false, narrowed := true }
def VarintOrdersUptoSaid : Prop := varintOrdersUptoRow.holds Try.pinned (OpenSpec.upto varintOrdersSpec)

/-- 'kithlaw01.VarintLong', WHERE WHAT IT READS IS OF BULK AT MOST 1048576: true; the input reads as it did. -/
def varintLongUptoRow : OpenClaim := { program := "ytnddifenlamhjaa", sum := "d09df6f2eccb58167428cbd19e766ad9bbeffd9501b7cddc56d94efe8aed06ac", func := "kith/kithlaw01.VarintLong", spec := "varintLong", apart := false, narrowed := true }
def VarintLongUptoSaid : Prop := varintLongUptoRow.holds Try.pinned (OpenSpec.upto varintLongSpec)

end Rows
end Go.Proofs.Ytnddifenlamhjaa

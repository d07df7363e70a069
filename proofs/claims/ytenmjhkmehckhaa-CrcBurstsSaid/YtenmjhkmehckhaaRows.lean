/-
  No cell of these rows narrows 'for every input' (looked for: loops, veiled, ifaces, maps, wideKeys, modest, calm, conditions, laid).
  DERIVED. THE GIVEN ROWS OF THIS SEAT. 6 by the template 'for every input the law returns true; each argument reads behind the call as it read before'; 0 by the template 'total and deterministic' (their statements: YtenmjhkmehckhaaTotals.lean).
  GIVEN WITH THE SEED: the statements are not yours to turn. If you find one false, say at which input.
  Laid BY PROGRAM, IN A SANDBOX (cutbox-rows.mjs): the forced cells as the released guide's own fill.sh prints them over the translation 7b7e6535b6a6012a… (all of the seat's roots in one cut). By AI agents, Wed Nov 11 2026. No macro, syntax, notation, axiom, sorry.
-/
import Derived.Test.YtenmjhkmehckhaaChecked
import GoSem.Claim
import GoSem.ClaimJoined
import GoSem.ClaimMapViews
import Derived.JoinedTies
import Derived.KernelRfl
namespace Go.Proofs.Ytenmjhkmehckhaa
/- THE CELL 'sum', in the pinned program and in every row, IS THE sha256 OF THE DUMP (.gsa) THAT YtenmjhkmehckhaaProg.lean LOADS. Nothing in Lean hashes anything: it is a label: what it is worth is what the hold of that sum in a sandbox is worth. -/
noncomputable def Try.pinned : Pinned := { name := "ytenmjhkmehckhaa", sum := "7b7e6535b6a6012a72b093c7a0daeb3c8b0426526a12473a90d0eec7483000d4", checked := Try.checked }
namespace Rows
def none {H : Type} : Left H := { results := [], args := [] }

/-- 'kithlaw02.CrcAll': WHATEVER THE INPUT: true; the input reads as it did. -/
def crcAllSpec : ChangeSpec := { name := "crcAll", fn := fun _ => fun
  | [d1, d2, d3] => { results := [.lit (.bool true)], args := [d1, d2, d3] }
  | _ => none }
def crcAllRow : OpenClaim := { program := "ytenmjhkmehckhaa", sum := "7b7e6535b6a6012a72b093c7a0daeb3c8b0426526a12473a90d0eec7483000d4", func := "kith/kithlaw02.CrcAll", spec := "crcAll", apart := false }
def CrcAllSaid : Prop := crcAllRow.holds Try.pinned (OpenSpec.ofChange crcAllSpec)

/-- ITS FALSE NEIGHBOUR: 'it returns false'. Refute it at one input. -/
def crcAllWrong : ChangeSpec := { name := "crcAll", fn := fun _ => fun
  | [d1, d2, d3] => { results := [.lit (.bool false)], args := [d1, d2, d3] }
  | _ => none }
def CrcAllWrongFalsely : Prop := crcAllRow.holds Try.pinned (OpenSpec.ofChange crcAllWrong)

/-- 'kithlaw02.CrcParts': WHATEVER THE INPUT: true; the input reads as it did. -/
def crcPartsSpec : ChangeSpec := { name := "crcParts", fn := fun _ => fun
  | [d1, d2] => { results := [.lit (.bool true)], args := [d1, d2] }
  | _ => none }
def crcPartsRow : OpenClaim := { program := "ytenmjhkmehckhaa", sum := "7b7e6535b6a6012a72b093c7a0daeb3c8b0426526a12473a90d0eec7483000d4", func := "kith/kithlaw02.CrcParts", spec := "crcParts", apart := false }
def CrcPartsSaid : Prop := crcPartsRow.holds Try.pinned (OpenSpec.ofChange crcPartsSpec)

/-- ITS FALSE NEIGHBOUR: 'it returns false'. Refute it at one input. -/
def crcPartsWrong : ChangeSpec := { name := "crcParts", fn := fun _ => fun
  | [d1, d2] => { results := [.lit (.bool false)], args := [d1, d2] }
  | _ => none }
def CrcPartsWrongFalsely : Prop := crcPartsRow.holds Try.pinned (OpenSpec.ofChange crcPartsWrong)

/-- 'kithlaw02.CrcBursts': WHATEVER THE INPUT: true; the input reads as it did. -/
def crcBurstsSpec : ChangeSpec := { name := "crcBursts", fn := fun _ => fun
  | [d1, d2, d3] => { results := [.lit (.bool true)], args := [d1, d2, d3] }
  | _ => none }
def crcBurstsRow : OpenClaim := { program := "ytenmjhkmehckhaa", sum := "7b7e6535b6a6012a72b093c7a0daeb3c8b0426526a12473a90d0eec7483000d4", func := "kith/kithlaw02.CrcBursts", spec := "crcBursts", apart := false }
def CrcBurstsSaid : Prop := crcBurstsRow.holds Try.pinned (OpenSpec.ofChange crcBurstsSpec)

/-- ITS FALSE NEIGHBOUR: 'it returns false'. Refute it at one input. -/
def crcBurstsWrong : ChangeSpec := { name := "crcBursts", fn := fun _ => fun
  | [d1, d2, d3] => { results := [.lit (.bool false)], args := [d1, d2, d3] }
  | _ => none }
def CrcBurstsWrongFalsely : Prop := crcBurstsRow.holds Try.pinned (OpenSpec.ofChange crcBurstsWrong)

/-- 'kithlaw02.CrcApart': WHATEVER THE INPUT: true; the input reads as it did. -/
def crcApartSpec : ChangeSpec := { name := "crcApart", fn := fun _ => fun
  | [d1, d2, d3] => { results := [.lit (.bool true)], args := [d1, d2, d3] }
  | _ => none }
def crcApartRow : OpenClaim := { program := "ytenmjhkmehckhaa", sum := "7b7e6535b6a6012a72b093c7a0daeb3c8b0426526a12473a90d0eec7483000d4", func := "kith/kithlaw02.CrcApart", spec := "crcApart", apart := false }
def CrcApartSaid : Prop := crcApartRow.holds Try.pinned (OpenSpec.ofChange crcApartSpec)

/-- ITS FALSE NEIGHBOUR: 'it returns false'. Refute it at one input. -/
def crcApartWrong : ChangeSpec := { name := "crcApart", fn := fun _ => fun
  | [d1, d2, d3] => { results := [.lit (.bool false)], args := [d1, d2, d3] }
  | _ => none }
def CrcApartWrongFalsely : Prop := crcApartRow.holds Try.pinned (OpenSpec.ofChange crcApartWrong)

/-- 'kithlaw02.CrcLinear': WHATEVER THE INPUT: true; the input reads as it did. -/
def crcLinearSpec : ChangeSpec := { name := "crcLinear", fn := fun _ => fun
  | [d1, d2, d3] => { results := [.lit (.bool true)], args := [d1, d2, d3] }
  | _ => none }
def crcLinearRow : OpenClaim := { program := "ytenmjhkmehckhaa", sum := "7b7e6535b6a6012a72b093c7a0daeb3c8b0426526a12473a90d0eec7483000d4", func := "kith/kithlaw02.CrcLinear", spec := "crcLinear", apart := false }
def CrcLinearSaid : Prop := crcLinearRow.holds Try.pinned (OpenSpec.ofChange crcLinearSpec)

/-- ITS FALSE NEIGHBOUR: 'it returns false'. Refute it at one input. -/
def crcLinearWrong : ChangeSpec := { name := "crcLinear", fn := fun _ => fun
  | [d1, d2, d3] => { results := [.lit (.bool false)], args := [d1, d2, d3] }
  | _ => none }
def CrcLinearWrongFalsely : Prop := crcLinearRow.holds Try.pinned (OpenSpec.ofChange crcLinearWrong)

/-- 'kithlaw02.CrcEnds': WHATEVER THE INPUT: true; the input reads as it did. -/
def crcEndsSpec : ChangeSpec := { name := "crcEnds", fn := fun _ => fun
  | [d] => { results := [.lit (.bool true)], args := [d] }
  | _ => none }
def crcEndsRow : OpenClaim := { program := "ytenmjhkmehckhaa", sum := "7b7e6535b6a6012a72b093c7a0daeb3c8b0426526a12473a90d0eec7483000d4", func := "kith/kithlaw02.CrcEnds", spec := "crcEnds", apart := false }
def CrcEndsSaid : Prop := crcEndsRow.holds Try.pinned (OpenSpec.ofChange crcEndsSpec)

/-- ITS FALSE NEIGHBOUR: 'it returns false'. Refute it at one input. -/
def crcEndsWrong : ChangeSpec := { name := "crcEnds", fn := fun _ => fun
  | [d] => { results := [.lit (.bool false)], args := [d] }
  | _ => none }
def CrcEndsWrongFalsely : Prop := crcEndsRow.holds Try.pinned (OpenSpec.ofChange crcEndsWrong)

/- THE SECOND FORM. 'bulk': how many values and letters a reading holds, each counted each time it is reached (what is shared counts as often as it is met; a slice's spare places count too). A statement '..UptoSaid' is the law's where the arguments, and the package variables that the reading takes, are together of bulk at most 1048576: NARROWER than '..Said'. Prove '..Said' where nothing that the law and all that it calls make is longer than what came in: it says more and counts as full. Else prove '..UptoSaid'. A law counts once. -/
mutual
def uptoBulk {H : Type} : DataW H → Nat
  | .lit (.string bytes) => bytes.length + 1
  | .lit _ => 1
  | .nil => 1
  | .ptr d => uptoBulk d + 1
  | .slice elems spare => uptoBulkAll elems + uptoBulkAll spare + 1
  | .agg parts => uptoBulkAll parts + 1
  | .iface _ d => uptoBulk d + 1
  | .map entries => uptoBulkEntries entries + 1
  | .held _ => 1
def uptoBulkAll {H : Type} : List (DataW H) → Nat
  | [] => 0
  | d :: r => uptoBulk d + uptoBulkAll r
def uptoBulkEntries {H : Type} : List (Lit × DataW H) → Nat
  | [] => 0
  | x :: r => uptoBulkEntry x + uptoBulkEntries r
def uptoBulkEntry {H : Type} : Lit × DataW H → Nat
  | (.string bytes, d) => bytes.length + uptoBulk d + 1
  | (_, d) => uptoBulk d + 1
 end
def uptoSmall : (H : Type) → List (DataW H) → Bool := fun _ ds => decide (uptoBulkAll ds ≤ 1048576)
def OpenSpec.upto (s : _root_.Go.ChangeSpec) : _root_.Go.OpenSpec := { _root_.Go.OpenSpec.ofChange s with cond := some uptoSmall }

/-- 'kithlaw02.CrcAll', WHERE WHAT IT READS IS OF BULK AT MOST 1048576: true; the input reads as it did. -/
def crcAllUptoRow : OpenClaim := { program := "ytenmjhkmehckhaa", sum := "7b7e6535b6a6012a72b093c7a0daeb3c8b0426526a12473a90d0eec7483000d4", func := "kith/kithlaw02.CrcAll", spec := "crcAll", apart := false, narrowed := true }
def CrcAllUptoSaid : Prop := crcAllUptoRow.holds Try.pinned (OpenSpec.upto crcAllSpec)

/-- 'kithlaw02.CrcParts', WHERE WHAT IT READS IS OF BULK AT MOST 1048576: true; the input reads as it did. -/
def crcPartsUptoRow : OpenClaim := { program := "ytenmjhkmehckhaa", sum := "7b7e6535b6a6012a72b093c7a0daeb3c8b0426526a12473a90d0eec7483000d4", func := "kith/kithlaw02.CrcParts", spec := "crcParts", apart := false, narrowed := true }
def CrcPartsUptoSaid : Prop := crcPartsUptoRow.holds Try.pinned (OpenSpec.upto crcPartsSpec)

/-- 'kithlaw02.CrcBursts', WHERE WHAT IT READS IS OF BULK AT MOST 1048576: true; the input reads as it did. -/
def crcBurstsUptoRow : OpenClaim := { program := "ytenmjhkmehckhaa", sum := "7b7e6535b6a6012a72b093c7a0daeb3c8b0426526a12473a90d0eec7483000d4", func := "kith/kithlaw02.CrcBursts", spec := "crcBursts", apart := false, narrowed := true }
def CrcBurstsUptoSaid : Prop := crcBurstsUptoRow.holds Try.pinned (OpenSpec.upto crcBurstsSpec)

/-- 'kithlaw02.CrcApart', WHERE WHAT IT READS IS OF BULK AT MOST 1048576: true; the input reads as it did. -/
def crcApartUptoRow : OpenClaim := { program := "ytenmjhkmehckhaa", sum := "7b7e6535b6a6012a72b093c7a0daeb3c8b0426526a12473a90d0eec7483000d4", func := "kith/kithlaw02.CrcApart", spec := "crcApart", apart := false, narrowed := true }
def CrcApartUptoSaid : Prop := crcApartUptoRow.holds Try.pinned (OpenSpec.upto crcApartSpec)

/-- 'kithlaw02.CrcLinear', WHERE WHAT IT READS IS OF BULK AT MOST 1048576: true; the input reads as it did. -/
def crcLinearUptoRow : OpenClaim := { program := "ytenmjhkmehckhaa", sum := "7b7e6535b6a6012a72b093c7a0daeb3c8b0426526a12473a90d0eec7483000d4", func := "kith/kithlaw02.CrcLinear", spec := "crcLinear", apart := false, narrowed := true }
def CrcLinearUptoSaid : Prop := crcLinearUptoRow.holds Try.pinned (OpenSpec.upto crcLinearSpec)

/-- 'kithlaw02.CrcEnds', WHERE WHAT IT READS IS OF BULK AT MOST 1048576: true; the input reads as it did. -/
def crcEndsUptoRow : OpenClaim := { program := "ytenmjhkmehckhaa", sum := "7b7e6535b6a6012a72b093c7a0daeb3c8b0426526a12473a90d0eec7483000d4", func := "kith/kithlaw02.CrcEnds", spec := "crcEnds", apart := false, narrowed := true }
def CrcEndsUptoSaid : Prop := crcEndsUptoRow.holds Try.pinned (OpenSpec.upto crcEndsSpec)

end Rows
end Go.Proofs.Ytenmjhkmehckhaa

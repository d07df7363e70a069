/-
  No cell of these rows narrows 'for every input' (looked for: loops, veiled, ifaces, maps, wideKeys, modest, calm, conditions, laid).
  DERIVED. THE GIVEN ROWS OF THIS SEAT. 6 by the template 'for every input the law returns true; each argument reads behind the call as it read before'; 0 by the template 'total and deterministic' (their statements: YtkcfcimophjomaaTotals.lean).
  GIVEN WITH THE SEED: the statements are not yours to turn. If you find one false, say at which input.
  Laid BY PROGRAM, IN A SANDBOX (cutbox-rows.mjs): the forced cells as the released guide's own fill.sh prints them over the translation b73ff807ed340b91… (all of the seat's roots in one cut). By AI agents, Wed Nov 11 2026. No macro, syntax, notation, axiom, sorry.
-/
import Derived.Test.YtkcfcimophjomaaChecked
import GoSem.Claim
import GoSem.ClaimJoined
import GoSem.ClaimMapViews
import Derived.JoinedTies
import Derived.KernelRfl
namespace Go.Proofs.Ytkcfcimophjomaa
/- THE CELL 'sum', in the pinned program and in every row, IS THE sha256 OF THE DUMP (.gsa) THAT YtkcfcimophjomaaProg.lean LOADS. Nothing in Lean hashes anything: it is a label: what it is worth is what the hold of that sum in a sandbox is worth. -/
noncomputable def Try.pinned : Pinned := { name := "ytkcfcimophjomaa", sum := "b73ff807ed340b91024b972fb9dd8fd138a8941577da0f978f664e1bcdc3cc17", checked := Try.checked }
namespace Rows
def none {H : Type} : Left H := { results := [], args := [] }

/-- 'kithlaw17.DiskKeeps': WHATEVER THE INPUT: true; the input reads as it did. -/
def diskKeepsSpec : ChangeSpec := { name := "diskKeeps", fn := fun _ => fun
  | [d1, d2, d3] => { results := [.lit (.bool true)], args := [d1, d2, d3] }
  | _ => none }
def diskKeepsRow : OpenClaim := { program := "ytkcfcimophjomaa", sum := "b73ff807ed340b91024b972fb9dd8fd138a8941577da0f978f664e1bcdc3cc17", func := "kith/kithlaw17.DiskKeeps", spec := "diskKeeps", apart := false }
def DiskKeepsSaid : Prop := diskKeepsRow.holds Try.pinned (OpenSpec.ofChange diskKeepsSpec)

/-- ITS FALSE NEIGHBOUR: 'it returns false'. Refute it at one input. -/
def diskKeepsWrong : ChangeSpec := { name := "diskKeeps", fn := fun _ => fun
  | [d1, d2, d3] => { results := [.lit (.bool false)], args := [d1, d2, d3] }
  | _ => none }
def DiskKeepsWrongFalsely : Prop := diskKeepsRow.holds Try.pinned (OpenSpec.ofChange diskKeepsWrong)

/-- 'kithlaw14.OutboxSends': WHATEVER THE INPUT: true; the input reads as it did. -/
def outboxSendsSpec : ChangeSpec := { name := "outboxSends", fn := fun _ => fun
  | [d1, d2] => { results := [.lit (.bool true)], args := [d1, d2] }
  | _ => none }
def outboxSendsRow : OpenClaim := { program := "ytkcfcimophjomaa", sum := "b73ff807ed340b91024b972fb9dd8fd138a8941577da0f978f664e1bcdc3cc17", func := "kith/kithlaw14.OutboxSends", spec := "outboxSends", apart := false }
def OutboxSendsSaid : Prop := outboxSendsRow.holds Try.pinned (OpenSpec.ofChange outboxSendsSpec)

/-- ITS FALSE NEIGHBOUR: 'it returns false'. Refute it at one input. -/
def outboxSendsWrong : ChangeSpec := { name := "outboxSends", fn := fun _ => fun
  | [d1, d2] => { results := [.lit (.bool false)], args := [d1, d2] }
  | _ => none }
def OutboxSendsWrongFalsely : Prop := outboxSendsRow.holds Try.pinned (OpenSpec.ofChange outboxSendsWrong)

/-- 'kithlaw14.OutboxLooks': WHATEVER THE INPUT: true; the input reads as it did. -/
def outboxLooksSpec : ChangeSpec := { name := "outboxLooks", fn := fun _ => fun
  | [d] => { results := [.lit (.bool true)], args := [d] }
  | _ => none }
def outboxLooksRow : OpenClaim := { program := "ytkcfcimophjomaa", sum := "b73ff807ed340b91024b972fb9dd8fd138a8941577da0f978f664e1bcdc3cc17", func := "kith/kithlaw14.OutboxLooks", spec := "outboxLooks", apart := false }
def OutboxLooksSaid : Prop := outboxLooksRow.holds Try.pinned (OpenSpec.ofChange outboxLooksSpec)

/-- ITS FALSE NEIGHBOUR: 'it returns false'. Refute it at one input. -/
def outboxLooksWrong : ChangeSpec := { name := "outboxLooks", fn := fun _ => fun
  | [d] => { results := [.lit (.bool false)], args := [d] }
  | _ => none }
def OutboxLooksWrongFalsely : Prop := outboxLooksRow.holds Try.pinned (OpenSpec.ofChange outboxLooksWrong)

/-- 'kithlaw17.DiskTrims': WHATEVER THE INPUT: true; the input reads as it did. -/
def diskTrimsSpec : ChangeSpec := { name := "diskTrims", fn := fun _ => fun
  | [d1, d2, d3] => { results := [.lit (.bool true)], args := [d1, d2, d3] }
  | _ => none }
def diskTrimsRow : OpenClaim := { program := "ytkcfcimophjomaa", sum := "b73ff807ed340b91024b972fb9dd8fd138a8941577da0f978f664e1bcdc3cc17", func := "kith/kithlaw17.DiskTrims", spec := "diskTrims", apart := false }
def DiskTrimsSaid : Prop := diskTrimsRow.holds Try.pinned (OpenSpec.ofChange diskTrimsSpec)

/-- ITS FALSE NEIGHBOUR: 'it returns false'. Refute it at one input. -/
def diskTrimsWrong : ChangeSpec := { name := "diskTrims", fn := fun _ => fun
  | [d1, d2, d3] => { results := [.lit (.bool false)], args := [d1, d2, d3] }
  | _ => none }
def DiskTrimsWrongFalsely : Prop := diskTrimsRow.holds Try.pinned (OpenSpec.ofChange diskTrimsWrong)

/-- 'kithlaw21.LinkOrders': WHATEVER THE INPUT: true; the input reads as it did. -/
def linkOrdersSpec : ChangeSpec := { name := "linkOrders", fn := fun _ => fun
  | [d1, d2] => { results := [.lit (.bool true)], args := [d1, d2] }
  | _ => none }
def linkOrdersRow : OpenClaim := { program := "ytkcfcimophjomaa", sum := "b73ff807ed340b91024b972fb9dd8fd138a8941577da0f978f664e1bcdc3cc17", func := "kith/kithlaw21.LinkOrders", spec := "linkOrders", apart := false }
def LinkOrdersSaid : Prop := linkOrdersRow.holds Try.pinned (OpenSpec.ofChange linkOrdersSpec)

/-- ITS FALSE NEIGHBOUR: 'it returns false'. Refute it at one input. -/
def linkOrdersWrong : ChangeSpec := { name := "linkOrders", fn := fun _ => fun
  | [d1, d2] => { results := [.lit (.bool false)], args := [d1, d2] }
  | _ => none }
def LinkOrdersWrongFalsely : Prop := linkOrdersRow.holds Try.pinned (OpenSpec.ofChange linkOrdersWrong)

/-- 'kithlaw21.LinkClean': WHATEVER THE INPUT: true; the input reads as it did. -/
def linkCleanSpec : ChangeSpec := { name := "linkClean", fn := fun _ => fun
  | [d1, d2] => { results := [.lit (.bool true)], args := [d1, d2] }
  | _ => none }
def linkCleanRow : OpenClaim := { program := "ytkcfcimophjomaa", sum := "b73ff807ed340b91024b972fb9dd8fd138a8941577da0f978f664e1bcdc3cc17", func := "kith/kithlaw21.LinkClean", spec := "linkClean", apart := false }
def LinkCleanSaid : Prop := linkCleanRow.holds Try.pinned (OpenSpec.ofChange linkCleanSpec)

/-- ITS FALSE NEIGHBOUR: 'it returns false'. Refute it at one input. -/
def linkCleanWrong : ChangeSpec := { name := "linkClean", fn := fun _ => fun
  | [d1, d2] => { results := [.lit (.bool false)], args := [d1, d2] }
  | _ => none }
def LinkCleanWrongFalsely : Prop := linkCleanRow.holds Try.pinned (OpenSpec.ofChange linkCleanWrong)

/- THE SECOND FORM. 'bulk': how many values and letters a reading holds, each counted each time it is reached (what is shared counts as often as it is met; a slice's spare places count too). A statement '..UptoSaid' is the law's where the arguments, and the package variables that the reading takes, are together of bulk at most 1048576: NARROWER than '..Said'. Prove '..Said' where nothing that the law and all that it calls make is longer than what came in: it says more and counts as full. Else prove '..UptoSaid'. A law counts once. -/
mutual
def uptoBulk {H : Type} : DataW H → Nat
  | .lit (.string bytes) => bytes.length + 1
  | .lit _ => 1
  | .nil => 1
  | .ptr d => uptoBulk d + 1
  | .slice elems spare => uptoBulkAll elems + uptoBulkAll spare + 1
  | .agg parts => uptoBulkAll parts + 1
  | .iface _ d => uptoBulk d + 1
  | .map entries => uptoBulkEntries entries + 1
  | .held _ => 1
def uptoBulkAll {H : Type} : List (DataW H) → Nat
  | [] => 0
  | d :: r => uptoBulk d + uptoBulkAll r
def uptoBulkEntries {H : Type} : List (Lit × DataW H) → Nat
  | [] => 0
  | x :: r => uptoBulkEntry x + uptoBulkEntries r
def uptoBulkEntry {H : Type} : Lit × DataW H → Nat
  | (.string bytes, d) => bytes.length + uptoBulk d + 1
  | (_, d) => uptoBulk d + 1
 end
def uptoSmall : (H : Type) → List (DataW H) → Bool := fun _ ds => decide (uptoBulkAll ds ≤ 1048576)
def OpenSpec.upto (s : _root_.Go.ChangeSpec) : _root_.Go.OpenSpec := { _root_.Go.OpenSpec.ofChange s with cond := some uptoSmall }

/-- 'kithlaw17.DiskKeeps', WHERE WHAT IT READS IS OF BULK AT MOST 1048576: true; the input reads as it did. -/
def diskKeepsUptoRow : OpenClaim := { program := "ytkcfcimophjomaa", sum := "b73ff807ed340b91024b972fb9dd8fd138a8941577da0f978f664e1bcdc3cc17", func := "kith/kithlaw17.DiskKeeps", spec := "diskKeeps", apart := false, narrowed := true }
def DiskKeepsUptoSaid : Prop := diskKeepsUptoRow.holds Try.pinned (OpenSpec.upto diskKeepsSpec)

/-- 'kithlaw14.OutboxSends', WHERE WHAT IT READS IS OF BULK AT MOST 1048576: true; the input reads as it did. -/
def outboxSendsUptoRow : OpenClaim := { program := "ytkcfcimophjomaa", sum := "b73ff807ed340b91024b972fb9dd8fd138a8941577da0f978f664e1bcdc3cc17", func := "kith/kithlaw14.OutboxSends", spec := "outboxSends", apart := false, narrowed := true }
def OutboxSendsUptoSaid : Prop := outboxSendsUptoRow.holds Try.pinned (OpenSpec.upto outboxSendsSpec)

/-- 'kithlaw14.OutboxLooks', WHERE WHAT IT READS IS OF BULK AT MOST 1048576: true; the input reads as it did. -/
def outboxLooksUptoRow : OpenClaim := { program := "ytkcfcimophjomaa", sum := "b73ff807ed340b91024b972fb9dd8fd138a8941577da0f978f664e1bcdc3cc17", func := "kith/kithlaw14.OutboxLooks", spec := "outboxLooks", apart := false, narrowed := true }
def OutboxLooksUptoSaid : Prop := outboxLooksUptoRow.holds Try.pinned (OpenSpec.upto outboxLooksSpec)

/-- 'kithlaw17.DiskTrims', WHERE WHAT IT READS IS OF BULK AT MOST 1048576: true; the input reads as it did. -/
def diskTrimsUptoRow : OpenClaim := { program := "ytkcfcimophjomaa", sum := "b73ff807ed340b91024b972fb9dd8fd138a8941577da0f978f664e1bcdc3cc17", func := "kith/kithlaw17.DiskTrims", spec := "diskTrims", apart := false, narrowed := true }
def DiskTrimsUptoSaid : Prop := diskTrimsUptoRow.holds Try.pinned (OpenSpec.upto diskTrimsSpec)

/-- 'kithlaw21.LinkOrders', WHERE WHAT IT READS IS OF BULK AT MOST 1048576: true; the input reads as it did. -/
def linkOrdersUptoRow : OpenClaim := { program := "ytkcfcimophjomaa", sum := "b73ff807ed340b91024b972fb9dd8fd138a8941577da0f978f664e1bcdc3cc17", func := "kith/kithlaw21.LinkOrders", spec := "linkOrders", apart := false, narrowed := true }
def LinkOrdersUptoSaid : Prop := linkOrdersUptoRow.holds Try.pinned (OpenSpec.upto linkOrdersSpec)

/-- 'kithlaw21.LinkClean', WHERE WHAT IT READS IS OF BULK AT MOST 1048576: true; the input reads as it did. -/
def linkCleanUptoRow : OpenClaim := { program := "ytkcfcimophjomaa", sum := "b73ff807ed340b91024b972fb9dd8fd138a8941577da0f978f664e1bcdc3cc17", func := "kith/kithlaw21.LinkClean", spec := "linkClean", apart := false, narrowed := true }
def LinkCleanUptoSaid : Prop := linkCleanUptoRow.holds Try.pinned (OpenSpec.upto linkCleanSpec)

end Rows
end Go.Proofs.Ytkcfcimophjomaa

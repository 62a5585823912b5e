/-
  No cell of these rows narrows 'for every input' (looked for: loops, veiled, ifaces, maps, wideKeys, modest, calm, conditions, laid).
  DERIVED. THE GIVEN ROWS OF THIS SEAT. 5 by the template 'for every input the law returns true; each argument reads behind the call as it read before'; 0 by the template 'total and deterministic' (their statements: YthmkelkefmfmgaaTotals.lean).
  GIVEN WITH THE SEED: the statements are not yours to turn. If you find one false, say at which input.
  Laid BY PROGRAM, IN A SANDBOX (cutbox-rows.mjs): the forced cells as the released guide's own fill.sh prints them over the translation 4210720221e58976… (all of the seat's roots in one cut). By AI agents, Wed Nov 11 2026. No macro, syntax, notation, axiom, sorry.
-/
import Derived.Test.YthmkelkefmfmgaaChecked
import GoSem.Claim
import GoSem.ClaimJoined
import GoSem.ClaimMapViews
import Derived.JoinedTies
import Derived.KernelRfl
namespace Go.Proofs.Ythmkelkefmfmgaa
/- THE CELL 'sum', in the pinned program and in every row, IS THE sha256 OF THE DUMP (.gsa) THAT YthmkelkefmfmgaaProg.lean LOADS. Nothing in Lean hashes anything: it is a label: what it is worth is what the hold of that sum in a sandbox is worth. -/
noncomputable def Try.pinned : Pinned := { name := "ythmkelkefmfmgaa", sum := "4210720221e58976dccb352d18166cb7cd4131501492c59b8c59b4e90e377811", checked := Try.checked }
namespace Rows
def none {H : Type} : Left H := { results := [], args := [] }

/-- 'haulierlaw22.ReplyPrints': WHATEVER THE INPUT: true; the input reads as it did. -/
def replyPrintsSpec : ChangeSpec := { name := "replyPrints", fn := fun _ => fun
  | [d] => { results := [.lit (.bool true)], args := [d] }
  | _ => none }
def replyPrintsRow : OpenClaim := { program := "ythmkelkefmfmgaa", sum := "4210720221e58976dccb352d18166cb7cd4131501492c59b8c59b4e90e377811", func := "haulier/haulierlaw22.ReplyPrints", spec := "replyPrints", recurses := true, apart := false }
def ReplyPrintsSaid : Prop := replyPrintsRow.holds Try.pinned (OpenSpec.ofChange replyPrintsSpec)

/-- ITS FALSE NEIGHBOUR: 'it returns false'. Refute it at one input. -/
def replyPrintsWrong : ChangeSpec := { name := "replyPrints", fn := fun _ => fun
  | [d] => { results := [.lit (.bool false)], args := [d] }
  | _ => none }
def ReplyPrintsWrongFalsely : Prop := replyPrintsRow.holds Try.pinned (OpenSpec.ofChange replyPrintsWrong)

/-- 'haulierlaw22.ReplyFaults': WHATEVER THE INPUT: true; the input reads as it did. -/
def replyFaultsSpec : ChangeSpec := { name := "replyFaults", fn := fun _ => fun
  | [d1, d2] => { results := [.lit (.bool true)], args := [d1, d2] }
  | _ => none }
def replyFaultsRow : OpenClaim := { program := "ythmkelkefmfmgaa", sum := "4210720221e58976dccb352d18166cb7cd4131501492c59b8c59b4e90e377811", func := "haulier/haulierlaw22.ReplyFaults", spec := "replyFaults", recurses := true, apart := false }
def ReplyFaultsSaid : Prop := replyFaultsRow.holds Try.pinned (OpenSpec.ofChange replyFaultsSpec)

/-- ITS FALSE NEIGHBOUR: 'it returns false'. Refute it at one input. -/
def replyFaultsWrong : ChangeSpec := { name := "replyFaults", fn := fun _ => fun
  | [d1, d2] => { results := [.lit (.bool false)], args := [d1, d2] }
  | _ => none }
def ReplyFaultsWrongFalsely : Prop := replyFaultsRow.holds Try.pinned (OpenSpec.ofChange replyFaultsWrong)

/-- 'haulierlaw22.ReplyBack': WHATEVER THE INPUT: true; the input reads as it did. -/
def replyBackSpec : ChangeSpec := { name := "replyBack", fn := fun _ => fun
  | [d] => { results := [.lit (.bool true)], args := [d] }
  | _ => none }
def replyBackRow : OpenClaim := { program := "ythmkelkefmfmgaa", sum := "4210720221e58976dccb352d18166cb7cd4131501492c59b8c59b4e90e377811", func := "haulier/haulierlaw22.ReplyBack", spec := "replyBack", unfollowed := true, recurses := true, apart := false }
def ReplyBackSaid : Prop := replyBackRow.holds Try.pinned (OpenSpec.ofChange replyBackSpec)

/-- ITS FALSE NEIGHBOUR: 'it returns false'. Refute it at one input. -/
def replyBackWrong : ChangeSpec := { name := "replyBack", fn := fun _ => fun
  | [d] => { results := [.lit (.bool false)], args := [d] }
  | _ => none }
def ReplyBackWrongFalsely : Prop := replyBackRow.holds Try.pinned (OpenSpec.ofChange replyBackWrong)

/-- 'haulierlaw22.ReplyReads': WHATEVER THE INPUT: true; the input reads as it did. -/
def replyReadsSpec : ChangeSpec := { name := "replyReads", fn := fun _ => fun
  | [d] => { results := [.lit (.bool true)], args := [d] }
  | _ => none }
def replyReadsRow : OpenClaim := { program := "ythmkelkefmfmgaa", sum := "4210720221e58976dccb352d18166cb7cd4131501492c59b8c59b4e90e377811", func := "haulier/haulierlaw22.ReplyReads", spec := "replyReads", unfollowed := true, recurses := true, apart := false }
def ReplyReadsSaid : Prop := replyReadsRow.holds Try.pinned (OpenSpec.ofChange replyReadsSpec)

/-- ITS FALSE NEIGHBOUR: 'it returns false'. Refute it at one input. -/
def replyReadsWrong : ChangeSpec := { name := "replyReads", fn := fun _ => fun
  | [d] => { results := [.lit (.bool false)], args := [d] }
  | _ => none }
def ReplyReadsWrongFalsely : Prop := replyReadsRow.holds Try.pinned (OpenSpec.ofChange replyReadsWrong)

/-- 'haulierlaw22.ReplySpoils': WHATEVER THE INPUT: true; the input reads as it did. -/
def replySpoilsSpec : ChangeSpec := { name := "replySpoils", fn := fun _ => fun
  | [d1, d2, d3] => { results := [.lit (.bool true)], args := [d1, d2, d3] }
  | _ => none }
def replySpoilsRow : OpenClaim := { program := "ythmkelkefmfmgaa", sum := "4210720221e58976dccb352d18166cb7cd4131501492c59b8c59b4e90e377811", func := "haulier/haulierlaw22.ReplySpoils", spec := "replySpoils", unfollowed := true, recurses := true, apart := false }
def ReplySpoilsSaid : Prop := replySpoilsRow.holds Try.pinned (OpenSpec.ofChange replySpoilsSpec)

/-- ITS FALSE NEIGHBOUR: 'it returns false'. Refute it at one input. -/
def replySpoilsWrong : ChangeSpec := { name := "replySpoils", fn := fun _ => fun
  | [d1, d2, d3] => { results := [.lit (.bool false)], args := [d1, d2, d3] }
  | _ => none }
def ReplySpoilsWrongFalsely : Prop := replySpoilsRow.holds Try.pinned (OpenSpec.ofChange replySpoilsWrong)

/- THE SECOND FORM. 'bulk': how many values and letters a reading holds, each counted each time it is reached (what is shared counts as often as it is met; a slice's spare places count too). A statement '..UptoSaid' is the law's where the arguments, and the package variables that the reading takes, are together of bulk at most 1048576: NARROWER than '..Said'. Prove '..Said' where nothing that the law and all that it calls make is longer than what came in: it says more and counts as full. Else prove '..UptoSaid'. A law counts once. -/
mutual
def uptoBulk {H : Type} : DataW H → Nat
  | .lit (.string bytes) => bytes.length + 1
  | .lit _ => 1
  | .nil => 1
  | .ptr d => uptoBulk d + 1
  | .slice elems spare => uptoBulkAll elems + uptoBulkAll spare + 1
  | .agg parts => uptoBulkAll parts + 1
  | .iface _ d => uptoBulk d + 1
  | .map entries => uptoBulkEntries entries + 1
  | .held _ => 1
def uptoBulkAll {H : Type} : List (DataW H) → Nat
  | [] => 0
  | d :: r => uptoBulk d + uptoBulkAll r
def uptoBulkEntries {H : Type} : List (Lit × DataW H) → Nat
  | [] => 0
  | x :: r => uptoBulkEntry x + uptoBulkEntries r
def uptoBulkEntry {H : Type} : Lit × DataW H → Nat
  | (.string bytes, d) => bytes.length + uptoBulk d + 1
  | (_, d) => uptoBulk d + 1
 end
def uptoSmall : (H : Type) → List (DataW H) → Bool := fun _ ds => decide (uptoBulkAll ds ≤ 1048576)
def OpenSpec.upto (s : _root_.Go.ChangeSpec) : _root_.Go.OpenSpec := { _root_.Go.OpenSpec.ofChange s with cond := some uptoSmall }

/-- 'haulierlaw22.ReplyPrints', WHERE WHAT IT READS IS OF BULK AT MOST 1048576: true; the input reads as it did. -/
def replyPrintsUptoRow : OpenClaim := { program := "ythmkelkefmfmgaa", sum := "4210720221e58976dccb352d18166cb7cd4131501492c59b8c59b4e90e377811", func := "haulier/haulierlaw22.ReplyPrints", spec := "replyPrints", recurses := true, apart := false, narrowed := true }
def ReplyPrintsUptoSaid : Prop := replyPrintsUptoRow.holds Try.pinned (OpenSpec.upto replyPrintsSpec)

/-- 'haulierlaw22.ReplyFaults', WHERE WHAT IT READS IS OF BULK AT MOST 1048576: true; the input reads as it did. -/
def replyFaultsUptoRow : OpenClaim := { program := "ythmkelkefmfmgaa", sum := "4210720221e58976dccb352d18166cb7cd4131501492c59b8c59b4e90e377811", func := "haulier/haulierlaw22.ReplyFaults", spec := "replyFaults", recurses := true, apart := false, narrowed := true }
def ReplyFaultsUptoSaid : Prop := replyFaultsUptoRow.holds Try.pinned (OpenSpec.upto replyFaultsSpec)

/-- 'haulierlaw22.ReplyBack', WHERE WHAT IT READS IS OF BULK AT MOST 1048576: true; the input reads as it did. -/
def replyBackUptoRow : OpenClaim := { program := "ythmkelkefmfmgaa", sum := "4210720221e58976dccb352d18166cb7cd4131501492c59b8c59b4e90e377811", func := "haulier/haulierlaw22.ReplyBack", spec := "replyBack", unfollowed := true, recurses := true, apart := false, narrowed := true }
def ReplyBackUptoSaid : Prop := replyBackUptoRow.holds Try.pinned (OpenSpec.upto replyBackSpec)

/-- 'haulierlaw22.ReplyReads', WHERE WHAT IT READS IS OF BULK AT MOST 1048576: true; the input reads as it did. -/
def replyReadsUptoRow : OpenClaim := { program := "ythmkelkefmfmgaa", sum := "4210720221e58976dccb352d18166cb7cd4131501492c59b8c59b4e90e377811", func := "haulier/haulierlaw22.ReplyReads", spec := "replyReads", unfollowed := true, recurses := true, apart := false, narrowed := true }
def ReplyReadsUptoSaid : Prop := replyReadsUptoRow.holds Try.pinned (OpenSpec.upto replyReadsSpec)

/-- 'haulierlaw22.ReplySpoils', WHERE WHAT IT READS IS OF BULK AT MOST 1048576: true; the input reads as it did. -/
def replySpoilsUptoRow : OpenClaim := { program := "ythmkelkefmfmgaa", sum := "4210720221e58976dccb352d18166cb7cd4131501492c59b8c59b4e90e377811", func := "haulier/haulierlaw22.ReplySpoils", spec := "replySpoils", unfollowed := true, recurses := true, apart := false, narrowed := true }
def ReplySpoilsUptoSaid : Prop := replySpoilsUptoRow.holds Try.pinned (OpenSpec.upto replySpoilsSpec)

end Rows
end Go.Proofs.Ythmkelkefmfmgaa

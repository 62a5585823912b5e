/-
  No cell of these rows narrows 'for every input' (looked for: loops, veiled, ifaces, maps, wideKeys, modest, calm, conditions, laid).
  DERIVED. THE GIVEN ROWS OF THIS SEAT. 5 by the template 'for every input the law returns true; each argument reads behind the call as it read before'; 0 by the template 'total and deterministic' (their statements: YtlefdinbbjiabaaTotals.lean).
  GIVEN WITH THE SEED: the statements are not yours to turn. If you find one false, say at which input.
  Laid BY PROGRAM, IN A SANDBOX (cutbox-rows.mjs): the forced cells as the released guide's own fill.sh prints them over the translation cc4f219e44037a24… (all of the seat's roots in one cut). By AI agents, Wed Nov 11 2026. No macro, syntax, notation, axiom, sorry.
-/
import Derived.Test.YtlefdinbbjiabaaChecked
import GoSem.Claim
import GoSem.ClaimJoined
import GoSem.ClaimMapViews
import Derived.JoinedTies
import Derived.KernelRfl
namespace Go.Proofs.Ytlefdinbbjiabaa
/- THE CELL 'sum', in the pinned program and in every row, IS THE sha256 OF THE DUMP (.gsa) THAT YtlefdinbbjiabaaProg.lean LOADS. Nothing in Lean hashes anything: it is a label: what it is worth is what the hold of that sum in a sandbox is worth. -/
noncomputable def Try.pinned : Pinned := { name := "ytlefdinbbjiabaa", sum := "cc4f219e44037a24d40499938c467ad9bb690a2db39f3f8338d8c4b1443191b1", checked := Try.checked }
namespace Rows
def none {H : Type} : Left H := { results := [], args := [] }

/-- 'haulierlaw07.LiftLinks': WHATEVER THE INPUT: true; the input reads as it did. -/
def liftLinksSpec : ChangeSpec := { name := "liftLinks", fn := fun _ => fun
  | [d1, d2] => { results := [.lit (.bool true)], args := [d1, d2] }
  | _ => none }
def liftLinksRow : OpenClaim := { program := "ytlefdinbbjiabaa", sum := "cc4f219e44037a24d40499938c467ad9bb690a2db39f3f8338d8c4b1443191b1", func := "haulier/haulierlaw07.LiftLinks", spec := "liftLinks", unfollowed := true, recurses := true, apart := false }
def LiftLinksSaid : Prop := liftLinksRow.holds Try.pinned (OpenSpec.ofChange liftLinksSpec)

/-- ITS FALSE NEIGHBOUR: 'it returns false'. Refute it at one input. -/
def liftLinksWrong : ChangeSpec := { name := "liftLinks", fn := fun _ => fun
  | [d1, d2] => { results := [.lit (.bool false)], args := [d1, d2] }
  | _ => none }
def LiftLinksWrongFalsely : Prop := liftLinksRow.holds Try.pinned (OpenSpec.ofChange liftLinksWrong)

/-- 'haulierlaw07.LiftRanks': WHATEVER THE INPUT: true; the input reads as it did. -/
def liftRanksSpec : ChangeSpec := { name := "liftRanks", fn := fun _ => fun
  | [d1, d2] => { results := [.lit (.bool true)], args := [d1, d2] }
  | _ => none }
def liftRanksRow : OpenClaim := { program := "ytlefdinbbjiabaa", sum := "cc4f219e44037a24d40499938c467ad9bb690a2db39f3f8338d8c4b1443191b1", func := "haulier/haulierlaw07.LiftRanks", spec := "liftRanks", unfollowed := true, recurses := true, apart := false }
def LiftRanksSaid : Prop := liftRanksRow.holds Try.pinned (OpenSpec.ofChange liftRanksSpec)

/-- ITS FALSE NEIGHBOUR: 'it returns false'. Refute it at one input. -/
def liftRanksWrong : ChangeSpec := { name := "liftRanks", fn := fun _ => fun
  | [d1, d2] => { results := [.lit (.bool false)], args := [d1, d2] }
  | _ => none }
def LiftRanksWrongFalsely : Prop := liftRanksRow.holds Try.pinned (OpenSpec.ofChange liftRanksWrong)

/-- 'haulierlaw07.LiftWays': WHATEVER THE INPUT: true; the input reads as it did. -/
def liftWaysSpec : ChangeSpec := { name := "liftWays", fn := fun _ => fun
  | [d1, d2] => { results := [.lit (.bool true)], args := [d1, d2] }
  | _ => none }
def liftWaysRow : OpenClaim := { program := "ytlefdinbbjiabaa", sum := "cc4f219e44037a24d40499938c467ad9bb690a2db39f3f8338d8c4b1443191b1", func := "haulier/haulierlaw07.LiftWays", spec := "liftWays", unfollowed := true, recurses := true, apart := false }
def LiftWaysSaid : Prop := liftWaysRow.holds Try.pinned (OpenSpec.ofChange liftWaysSpec)

/-- ITS FALSE NEIGHBOUR: 'it returns false'. Refute it at one input. -/
def liftWaysWrong : ChangeSpec := { name := "liftWays", fn := fun _ => fun
  | [d1, d2] => { results := [.lit (.bool false)], args := [d1, d2] }
  | _ => none }
def LiftWaysWrongFalsely : Prop := liftWaysRow.holds Try.pinned (OpenSpec.ofChange liftWaysWrong)

/-- 'haulierlaw07.LiftOwn': WHATEVER THE INPUT: true; the input reads as it did. -/
def liftOwnSpec : ChangeSpec := { name := "liftOwn", fn := fun _ => fun
  | [d1, d2] => { results := [.lit (.bool true)], args := [d1, d2] }
  | _ => none }
def liftOwnRow : OpenClaim := { program := "ytlefdinbbjiabaa", sum := "cc4f219e44037a24d40499938c467ad9bb690a2db39f3f8338d8c4b1443191b1", func := "haulier/haulierlaw07.LiftOwn", spec := "liftOwn", unfollowed := true, recurses := true, apart := false }
def LiftOwnSaid : Prop := liftOwnRow.holds Try.pinned (OpenSpec.ofChange liftOwnSpec)

/-- ITS FALSE NEIGHBOUR: 'it returns false'. Refute it at one input. -/
def liftOwnWrong : ChangeSpec := { name := "liftOwn", fn := fun _ => fun
  | [d1, d2] => { results := [.lit (.bool false)], args := [d1, d2] }
  | _ => none }
def LiftOwnWrongFalsely : Prop := liftOwnRow.holds Try.pinned (OpenSpec.ofChange liftOwnWrong)

/-- 'haulierlaw07.LiftAgain': WHATEVER THE INPUT: true; the input reads as it did. -/
def liftAgainSpec : ChangeSpec := { name := "liftAgain", fn := fun _ => fun
  | [d1, d2] => { results := [.lit (.bool true)], args := [d1, d2] }
  | _ => none }
def liftAgainRow : OpenClaim := { program := "ytlefdinbbjiabaa", sum := "cc4f219e44037a24d40499938c467ad9bb690a2db39f3f8338d8c4b1443191b1", func := "haulier/haulierlaw07.LiftAgain", spec := "liftAgain", unfollowed := true, recurses := true, apart := false }
def LiftAgainSaid : Prop := liftAgainRow.holds Try.pinned (OpenSpec.ofChange liftAgainSpec)

/-- ITS FALSE NEIGHBOUR: 'it returns false'. Refute it at one input. -/
def liftAgainWrong : ChangeSpec := { name := "liftAgain", fn := fun _ => fun
  | [d1, d2] => { results := [.lit (.bool false)], args := [d1, d2] }
  | _ => none }
def LiftAgainWrongFalsely : Prop := liftAgainRow.holds Try.pinned (OpenSpec.ofChange liftAgainWrong)

/- THE SECOND FORM. 'bulk': how many values and letters a reading holds, each counted each time it is reached (what is shared counts as often as it is met; a slice's spare places count too). A statement '..UptoSaid' is the law's where the arguments, and the package variables that the reading takes, are together of bulk at most 1048576: NARROWER than '..Said'. Prove '..Said' where nothing that the law and all that it calls make is longer than what came in: it says more and counts as full. Else prove '..UptoSaid'. A law counts once. -/
mutual
def uptoBulk {H : Type} : DataW H → Nat
  | .lit (.string bytes) => bytes.length + 1
  | .lit _ => 1
  | .nil => 1
  | .ptr d => uptoBulk d + 1
  | .slice elems spare => uptoBulkAll elems + uptoBulkAll spare + 1
  | .agg parts => uptoBulkAll parts + 1
  | .iface _ d => uptoBulk d + 1
  | .map entries => uptoBulkEntries entries + 1
  | .held _ => 1
def uptoBulkAll {H : Type} : List (DataW H) → Nat
  | [] => 0
  | d :: r => uptoBulk d + uptoBulkAll r
def uptoBulkEntries {H : Type} : List (Lit × DataW H) → Nat
  | [] => 0
  | x :: r => uptoBulkEntry x + uptoBulkEntries r
def uptoBulkEntry {H : Type} : Lit × DataW H → Nat
  | (.string bytes, d) => bytes.length + uptoBulk d + 1
  | (_, d) => uptoBulk d + 1
 end
def uptoSmall : (H : Type) → List (DataW H) → Bool := fun _ ds => decide (uptoBulkAll ds ≤ 1048576)
def OpenSpec.upto (s : _root_.Go.ChangeSpec) : _root_.Go.OpenSpec := { _root_.Go.OpenSpec.ofChange s with cond := some uptoSmall }

/-- 'haulierlaw07.LiftLinks', WHERE WHAT IT READS IS OF BULK AT MOST 1048576: true; the input reads as it did. -/
def liftLinksUptoRow : OpenClaim := { program := "ytlefdinbbjiabaa", sum := "cc4f219e44037a24d40499938c467ad9bb690a2db39f3f8338d8c4b1443191b1", func := "haulier/haulierlaw07.LiftLinks", spec := "liftLinks", unfollowed := true, recurses := true, apart := false, narrowed := true }
def LiftLinksUptoSaid : Prop := liftLinksUptoRow.holds Try.pinned (OpenSpec.upto liftLinksSpec)

/-- 'haulierlaw07.LiftRanks', WHERE WHAT IT READS IS OF BULK AT MOST 1048576: true; the input reads as it did. -/
def liftRanksUptoRow : OpenClaim := { program := "ytlefdinbbjiabaa", sum := "cc4f219e44037a24d40499938c467ad9bb690a2db39f3f8338d8c4b1443191b1", func := "haulier/haulierlaw07.LiftRanks", spec := "liftRanks", unfollowed := true, recurses := true, apart := false, narrowed := true }
def LiftRanksUptoSaid : Prop := liftRanksUptoRow.holds Try.pinned (OpenSpec.upto liftRanksSpec)

/-- 'haulierlaw07.LiftWays', WHERE WHAT IT READS IS OF BULK AT MOST 1048576: true; the input reads as it did. -/
def liftWaysUptoRow : OpenClaim := { program := "ytlefdinbbjiabaa", sum := "cc4f219e44037a24d40499938c467ad9bb690a2db39f3f8338d8c4b1443191b1", func := "haulier/haulierlaw07.LiftWays", spec := "liftWays", unfollowed := true, recurses := true, apart := false, narrowed := true }
def LiftWaysUptoSaid : Prop := liftWaysUptoRow.holds Try.pinned (OpenSpec.upto liftWaysSpec)

/-- 'haulierlaw07.LiftOwn', WHERE WHAT IT READS IS OF BULK AT MOST 1048576: true; the input reads as it did. -/
def liftOwnUptoRow : OpenClaim := { program := "ytlefdinbbjiabaa", sum := "cc4f219e44037a24d40499938c467ad9bb690a2db39f3f8338d8c4b1443191b1", func := "haulier/haulierlaw07.LiftOwn", spec := "liftOwn", unfollowed := true, recurses := true, apart := false, narrowed := true }
def LiftOwnUptoSaid : Prop := liftOwnUptoRow.holds Try.pinned (OpenSpec.upto liftOwnSpec)

/-- 'haulierlaw07.LiftAgain', WHERE WHAT IT READS IS OF BULK AT MOST 1048576: true; the input reads as it did. -/
def liftAgainUptoRow : OpenClaim := { program := "ytlefdinbbjiabaa", sum := "cc4f219e44037a24d40499938c467ad9bb690a2db39f3f8338d8c4b1443191b1", func := "haulier/haulierlaw07.LiftAgain", spec := "liftAgain", unfollowed := true, recurses := true, apart := false, narrowed := true }
def LiftAgainUptoSaid : Prop := liftAgainUptoRow.holds Try.pinned (OpenSpec.upto liftAgainSpec)

end Rows
end Go.Proofs.Ytlefdinbbjiabaa

/-
  No cell of these rows narrows 'for every input' (looked for: loops, veiled, ifaces, maps, wideKeys, modest, calm, conditions, laid).
  DERIVED. THE GIVEN ROWS OF THIS SEAT. 6 by the template 'for every input the law returns true; each argument reads behind the call as it read before'; 0 by the template 'total and deterministic' (their statements: YtpjblnmophcdmaaTotals.lean).
  GIVEN WITH THE SEED: the statements are not yours to turn. If you find one false, say at which input.
  Laid BY PROGRAM, IN A SANDBOX (cutbox-rows.mjs): the forced cells as the released guide's own fill.sh prints them over the translation 74593c93d46bd244… (all of the seat's roots in one cut). By AI agents, Wed Nov 11 2026. No macro, syntax, notation, axiom, sorry.
-/
import Derived.Test.YtpjblnmophcdmaaChecked
import GoSem.Claim
import GoSem.ClaimJoined
import GoSem.ClaimMapViews
import Derived.JoinedTies
import Derived.KernelRfl
namespace Go.Proofs.Ytpjblnmophcdmaa
/- THE CELL 'sum', in the pinned program and in every row, IS THE sha256 OF THE DUMP (.gsa) THAT YtpjblnmophcdmaaProg.lean LOADS. Nothing in Lean hashes anything: it is a label: what it is worth is what the hold of that sum in a sandbox is worth. -/
noncomputable def Try.pinned : Pinned := { name := "ytpjblnmophcdmaa", sum := "74593c93d46bd2440e9a164a422e2c59529c2b2ace4eabcb1a5a026a528a3292", checked := Try.checked }
namespace Rows
def none {H : Type} : Left H := { results := [], args := [] }

/-- 'haulierlaw08.ClimbTables': WHATEVER THE INPUT: true; the input reads as it did. -/
def climbTablesSpec : ChangeSpec := { name := "climbTables", fn := fun _ => fun
  | [d1, d2] => { results := [.lit (.bool true)], args := [d1, d2] }
  | _ => none }
def climbTablesRow : OpenClaim := { program := "ytpjblnmophcdmaa", sum := "74593c93d46bd2440e9a164a422e2c59529c2b2ace4eabcb1a5a026a528a3292", func := "haulier/haulierlaw08.ClimbTables", spec := "climbTables", unfollowed := true, recurses := true, apart := false }
def ClimbTablesSaid : Prop := climbTablesRow.holds Try.pinned (OpenSpec.ofChange climbTablesSpec)

/-- ITS FALSE NEIGHBOUR: 'it returns false'. Refute it at one input. -/
def climbTablesWrong : ChangeSpec := { name := "climbTables", fn := fun _ => fun
  | [d1, d2] => { results := [.lit (.bool false)], args := [d1, d2] }
  | _ => none }
def ClimbTablesWrongFalsely : Prop := climbTablesRow.holds Try.pinned (OpenSpec.ofChange climbTablesWrong)

/-- 'haulierlaw08.ClimbTurned': WHATEVER THE INPUT: true; the input reads as it did. -/
def climbTurnedSpec : ChangeSpec := { name := "climbTurned", fn := fun _ => fun
  | [d1, d2] => { results := [.lit (.bool true)], args := [d1, d2] }
  | _ => none }
def climbTurnedRow : OpenClaim := { program := "ytpjblnmophcdmaa", sum := "74593c93d46bd2440e9a164a422e2c59529c2b2ace4eabcb1a5a026a528a3292", func := "haulier/haulierlaw08.ClimbTurned", spec := "climbTurned", unfollowed := true, recurses := true, apart := false }
def ClimbTurnedSaid : Prop := climbTurnedRow.holds Try.pinned (OpenSpec.ofChange climbTurnedSpec)

/-- ITS FALSE NEIGHBOUR: 'it returns false'. Refute it at one input. -/
def climbTurnedWrong : ChangeSpec := { name := "climbTurned", fn := fun _ => fun
  | [d1, d2] => { results := [.lit (.bool false)], args := [d1, d2] }
  | _ => none }
def ClimbTurnedWrongFalsely : Prop := climbTurnedRow.holds Try.pinned (OpenSpec.ofChange climbTurnedWrong)

/-- 'haulierlaw08.ClimbReaches': WHATEVER THE INPUT: true; the input reads as it did. -/
def climbReachesSpec : ChangeSpec := { name := "climbReaches", fn := fun _ => fun
  | [d1, d2, d3] => { results := [.lit (.bool true)], args := [d1, d2, d3] }
  | _ => none }
def climbReachesRow : OpenClaim := { program := "ytpjblnmophcdmaa", sum := "74593c93d46bd2440e9a164a422e2c59529c2b2ace4eabcb1a5a026a528a3292", func := "haulier/haulierlaw08.ClimbReaches", spec := "climbReaches", unfollowed := true, recurses := true, apart := false }
def ClimbReachesSaid : Prop := climbReachesRow.holds Try.pinned (OpenSpec.ofChange climbReachesSpec)

/-- ITS FALSE NEIGHBOUR: 'it returns false'. Refute it at one input. -/
def climbReachesWrong : ChangeSpec := { name := "climbReaches", fn := fun _ => fun
  | [d1, d2, d3] => { results := [.lit (.bool false)], args := [d1, d2, d3] }
  | _ => none }
def ClimbReachesWrongFalsely : Prop := climbReachesRow.holds Try.pinned (OpenSpec.ofChange climbReachesWrong)

/-- 'haulierlaw08.ClimbShort': WHATEVER THE INPUT: true; the input reads as it did. -/
def climbShortSpec : ChangeSpec := { name := "climbShort", fn := fun _ => fun
  | [d1, d2] => { results := [.lit (.bool true)], args := [d1, d2] }
  | _ => none }
def climbShortRow : OpenClaim := { program := "ytpjblnmophcdmaa", sum := "74593c93d46bd2440e9a164a422e2c59529c2b2ace4eabcb1a5a026a528a3292", func := "haulier/haulierlaw08.ClimbShort", spec := "climbShort", unfollowed := true, recurses := true, apart := false }
def ClimbShortSaid : Prop := climbShortRow.holds Try.pinned (OpenSpec.ofChange climbShortSpec)

/-- ITS FALSE NEIGHBOUR: 'it returns false'. Refute it at one input. -/
def climbShortWrong : ChangeSpec := { name := "climbShort", fn := fun _ => fun
  | [d1, d2] => { results := [.lit (.bool false)], args := [d1, d2] }
  | _ => none }
def ClimbShortWrongFalsely : Prop := climbShortRow.holds Try.pinned (OpenSpec.ofChange climbShortWrong)

/-- 'haulierlaw08.ClimbWays': WHATEVER THE INPUT: true; the input reads as it did. -/
def climbWaysSpec : ChangeSpec := { name := "climbWays", fn := fun _ => fun
  | [d1, d2] => { results := [.lit (.bool true)], args := [d1, d2] }
  | _ => none }
def climbWaysRow : OpenClaim := { program := "ytpjblnmophcdmaa", sum := "74593c93d46bd2440e9a164a422e2c59529c2b2ace4eabcb1a5a026a528a3292", func := "haulier/haulierlaw08.ClimbWays", spec := "climbWays", unfollowed := true, recurses := true, apart := false }
def ClimbWaysSaid : Prop := climbWaysRow.holds Try.pinned (OpenSpec.ofChange climbWaysSpec)

/-- ITS FALSE NEIGHBOUR: 'it returns false'. Refute it at one input. -/
def climbWaysWrong : ChangeSpec := { name := "climbWays", fn := fun _ => fun
  | [d1, d2] => { results := [.lit (.bool false)], args := [d1, d2] }
  | _ => none }
def ClimbWaysWrongFalsely : Prop := climbWaysRow.holds Try.pinned (OpenSpec.ofChange climbWaysWrong)

/-- 'haulierlaw08.ClimbNil': WHATEVER THE INPUT: true; the input reads as it did. -/
def climbNilSpec : ChangeSpec := { name := "climbNil", fn := fun _ => fun
  | [d1, d2] => { results := [.lit (.bool true)], args := [d1, d2] }
  | _ => none }
def climbNilRow : OpenClaim := { program := "ytpjblnmophcdmaa", sum := "74593c93d46bd2440e9a164a422e2c59529c2b2ace4eabcb1a5a026a528a3292", func := "haulier/haulierlaw08.ClimbNil", spec := "climbNil", unfollowed := true, recurses := true, apart := false }
def ClimbNilSaid : Prop := climbNilRow.holds Try.pinned (OpenSpec.ofChange climbNilSpec)

/-- ITS FALSE NEIGHBOUR: 'it returns false'. Refute it at one input. -/
def climbNilWrong : ChangeSpec := { name := "climbNil", fn := fun _ => fun
  | [d1, d2] => { results := [.lit (.bool false)], args := [d1, d2] }
  | _ => none }
def ClimbNilWrongFalsely : Prop := climbNilRow.holds Try.pinned (OpenSpec.ofChange climbNilWrong)

/- THE SECOND FORM. 'bulk': how many values and letters a reading holds, each counted each time it is reached (what is shared counts as often as it is met; a slice's spare places count too). A statement '..UptoSaid' is the law's where the arguments, and the package variables that the reading takes, are together of bulk at most 1048576: NARROWER than '..Said'. Prove '..Said' where nothing that the law and all that it calls make is longer than what came in: it says more and counts as full. Else prove '..UptoSaid'. A law counts once. -/
mutual
def uptoBulk {H : Type} : DataW H → Nat
  | .lit (.string bytes) => bytes.length + 1
  | .lit _ => 1
  | .nil => 1
  | .ptr d => uptoBulk d + 1
  | .slice elems spare => uptoBulkAll elems + uptoBulkAll spare + 1
  | .agg parts => uptoBulkAll parts + 1
  | .iface _ d => uptoBulk d + 1
  | .map entries => uptoBulkEntries entries + 1
  | .held _ => 1
def uptoBulkAll {H : Type} : List (DataW H) → Nat
  | [] => 0
  | d :: r => uptoBulk d + uptoBulkAll r
def uptoBulkEntries {H : Type} : List (Lit × DataW H) → Nat
  | [] => 0
  | x :: r => uptoBulkEntry x + uptoBulkEntries r
def uptoBulkEntry {H : Type} : Lit × DataW H → Nat
  | (.string bytes, d) => bytes.length + uptoBulk d + 1
  | (_, d) => uptoBulk d + 1
 end
def uptoSmall : (H : Type) → List (DataW H) → Bool := fun _ ds => decide (uptoBulkAll ds ≤ 1048576)
def OpenSpec.upto (s : _root_.Go.ChangeSpec) : _root_.Go.OpenSpec := { _root_.Go.OpenSpec.ofChange s with cond := some uptoSmall }

/-- 'haulierlaw08.ClimbTables', WHERE WHAT IT READS IS OF BULK AT MOST 1048576: true; the input reads as it did. -/
def climbTablesUptoRow : OpenClaim := { program := "ytpjblnmophcdmaa", sum := "74593c93d46bd2440e9a164a422e2c59529c2b2ace4eabcb1a5a026a528a3292", func := "haulier/haulierlaw08.ClimbTables", spec := "climbTables", unfollowed := true, recurses := true, apart := false, narrowed := true }
def ClimbTablesUptoSaid : Prop := climbTablesUptoRow.holds Try.pinned (OpenSpec.upto climbTablesSpec)

/-- 'haulierlaw08.ClimbTurned', WHERE WHAT IT READS IS OF BULK AT MOST 1048576: true; the input reads as it did. -/
def climbTurnedUptoRow : OpenClaim := { program := "ytpjblnmophcdmaa", sum := "74593c93d46bd2440e9a164a422e2c59529c2b2ace4eabcb1a5a026a528a3292", func := "haulier/haulierlaw08.ClimbTurned", spec := "climbTurned", unfollowed := true, recurses := true, apart := false, narrowed := true }
def ClimbTurnedUptoSaid : Prop := climbTurnedUptoRow.holds Try.pinned (OpenSpec.upto climbTurnedSpec)

/-- 'haulierlaw08.ClimbReaches', WHERE WHAT IT READS IS OF BULK AT MOST 1048576: true; the input reads as it did. -/
def climbReachesUptoRow : OpenClaim := { program := "ytpjblnmophcdmaa", sum := "74593c93d46bd2440e9a164a422e2c59529c2b2ace4eabcb1a5a026a528a3292", func := "haulier/haulierlaw08.ClimbReaches", spec := "climbReaches", unfollowed := true, recurses := true, apart := false, narrowed := true }
def ClimbReachesUptoSaid : Prop := climbReachesUptoRow.holds Try.pinned (OpenSpec.upto climbReachesSpec)

/-- 'haulierlaw08.ClimbShort', WHERE WHAT IT READS IS OF BULK AT MOST 1048576: true; the input reads as it did. -/
def climbShortUptoRow : OpenClaim := { program := "ytpjblnmophcdmaa", sum := "74593c93d46bd2440e9a164a422e2c59529c2b2ace4eabcb1a5a026a528a3292", func := "haulier/haulierlaw08.ClimbShort", spec := "climbShort", unfollowed := true, recurses := true, apart := false, narrowed := true }
def ClimbShortUptoSaid : Prop := climbShortUptoRow.holds Try.pinned (OpenSpec.upto climbShortSpec)

/-- 'haulierlaw08.ClimbWays', WHERE WHAT IT READS IS OF BULK AT MOST 1048576: true; the input reads as it did. -/
def climbWaysUptoRow : OpenClaim := { program := "ytpjblnmophcdmaa", sum := "74593c93d46bd2440e9a164a422e2c59529c2b2ace4eabcb1a5a026a528a3292", func := "haulier/haulierlaw08.ClimbWays", spec := "climbWays", unfollowed := true, recurses := true, apart := false, narrowed := true }
def ClimbWaysUptoSaid : Prop := climbWaysUptoRow.holds Try.pinned (OpenSpec.upto climbWaysSpec)

/-- 'haulierlaw08.ClimbNil', WHERE WHAT IT READS IS OF BULK AT MOST 1048576: true; the input reads as it did. -/
def climbNilUptoRow : OpenClaim := { program := "ytpjblnmophcdmaa", sum := "74593c93d46bd2440e9a164a422e2c59529c2b2ace4eabcb1a5a026a528a3292", func := "haulier/haulierlaw08.ClimbNil", spec := "climbNil", unfollowed := true, recurses := true, apart := false, narrowed := true }
def ClimbNilUptoSaid : Prop := climbNilUptoRow.holds Try.pinned (OpenSpec.upto climbNilSpec)

end Rows
end Go.Proofs.Ytpjblnmophcdmaa

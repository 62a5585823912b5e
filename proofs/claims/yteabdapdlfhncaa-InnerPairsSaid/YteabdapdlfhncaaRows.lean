/-
  No cell of these rows narrows 'for every input' (looked for: loops, veiled, ifaces, maps, wideKeys, modest, calm, conditions, laid).
  DERIVED. THE GIVEN ROWS OF THIS SEAT. 3 by the template 'for every input the law returns true; each argument reads behind the call as it read before'; 0 by the template 'total and deterministic' (their statements: YteabdapdlfhncaaTotals.lean).
  GIVEN WITH THE SEED: the statements are not yours to turn. If you find one false, say at which input.
  Laid BY PROGRAM, IN A SANDBOX (cutbox-rows.mjs): the forced cells as the released guide's own fill.sh prints them over the translation 627cee5ecb60dec9… (all of the seat's roots in one cut). By AI agents, Wed Nov 11 2026. No macro, syntax, notation, axiom, sorry.
-/
import Derived.Test.YteabdapdlfhncaaChecked
import GoSem.Claim
import GoSem.ClaimJoined
import GoSem.ClaimMapViews
import Derived.JoinedTies
import Derived.KernelRfl
namespace Go.Proofs.Yteabdapdlfhncaa
/- THE CELL 'sum', in the pinned program and in every row, IS THE sha256 OF THE DUMP (.gsa) THAT YteabdapdlfhncaaProg.lean LOADS. Nothing in Lean hashes anything: it is a label: what it is worth is what the hold of that sum in a sandbox is worth. -/
noncomputable def Try.pinned : Pinned := { name := "yteabdapdlfhncaa", sum := "627cee5ecb60dec9d583542b5411b8bdc34dec81d93dfc5e76741e31315edb40", checked := Try.checked }
namespace Rows
def none {H : Type} : Left H := { results := [], args := [] }

/-- 'haulierlaw16.InnerBack': WHATEVER THE INPUT: true; the input reads as it did. -/
def innerBackSpec : ChangeSpec := { name := "innerBack", fn := fun _ => fun
  | [d1, d2] => { results := [.lit (.bool true)], args := [d1, d2] }
  | _ => none }
def innerBackRow : OpenClaim := { program := "yteabdapdlfhncaa", sum := "627cee5ecb60dec9d583542b5411b8bdc34dec81d93dfc5e76741e31315edb40", func := "haulier/haulierlaw16.InnerBack", spec := "innerBack", inPlace := ["slices.overlaps[haulier/api.Visit]"], unfollowed := true, recurses := true, apart := false }
def InnerBackSaid : Prop := innerBackRow.holds Try.pinned (OpenSpec.ofChange innerBackSpec)

/-- ITS FALSE NEIGHBOUR: 'it returns false'. Refute it at one input. -/
def innerBackWrong : ChangeSpec := { name := "innerBack", fn := fun _ => fun
  | [d1, d2] => { results := [.lit (.bool false)], args := [d1, d2] }
  | _ => none }
def InnerBackWrongFalsely : Prop := innerBackRow.holds Try.pinned (OpenSpec.ofChange innerBackWrong)

/-- 'haulierlaw16.InnerOwn': WHATEVER THE INPUT: true; the input reads as it did. -/
def innerOwnSpec : ChangeSpec := { name := "innerOwn", fn := fun _ => fun
  | [d1, d2] => { results := [.lit (.bool true)], args := [d1, d2] }
  | _ => none }
def innerOwnRow : OpenClaim := { program := "yteabdapdlfhncaa", sum := "627cee5ecb60dec9d583542b5411b8bdc34dec81d93dfc5e76741e31315edb40", func := "haulier/haulierlaw16.InnerOwn", spec := "innerOwn", inPlace := ["slices.overlaps[haulier/api.Visit]"], unfollowed := true, recurses := true, apart := false }
def InnerOwnSaid : Prop := innerOwnRow.holds Try.pinned (OpenSpec.ofChange innerOwnSpec)

/-- ITS FALSE NEIGHBOUR: 'it returns false'. Refute it at one input. -/
def innerOwnWrong : ChangeSpec := { name := "innerOwn", fn := fun _ => fun
  | [d1, d2] => { results := [.lit (.bool false)], args := [d1, d2] }
  | _ => none }
def InnerOwnWrongFalsely : Prop := innerOwnRow.holds Try.pinned (OpenSpec.ofChange innerOwnWrong)

/-- 'haulierlaw16.InnerPairs': WHATEVER THE INPUT: true; the input reads as it did. -/
def innerPairsSpec : ChangeSpec := { name := "innerPairs", fn := fun _ => fun
  | [d1, d2, d3, d4] => { results := [.lit (.bool true)], args := [d1, d2, d3, d4] }
  | _ => none }
def innerPairsRow : OpenClaim := { program := "yteabdapdlfhncaa", sum := "627cee5ecb60dec9d583542b5411b8bdc34dec81d93dfc5e76741e31315edb40", func := "haulier/haulierlaw16.InnerPairs", spec := "innerPairs", inPlace := ["slices.overlaps[haulier/api.Visit]"], unfollowed := true, recurses := true, apart := false }
def InnerPairsSaid : Prop := innerPairsRow.holds Try.pinned (OpenSpec.ofChange innerPairsSpec)

/-- ITS FALSE NEIGHBOUR: 'it returns false'. Refute it at one input. -/
def innerPairsWrong : ChangeSpec := { name := "innerPairs", fn := fun _ => fun
  | [d1, d2, d3, d4] => { results := [.lit (.bool false)], args := [d1, d2, d3, d4] }
  | _ => none }
def InnerPairsWrongFalsely : Prop := innerPairsRow.holds Try.pinned (OpenSpec.ofChange innerPairsWrong)

/- THE SECOND FORM. 'bulk': how many values and letters a reading holds, each counted each time it is reached (what is shared counts as often as it is met; a slice's spare places count too). A statement '..UptoSaid' is the law's where the arguments, and the package variables that the reading takes, are together of bulk at most 1048576: NARROWER than '..Said'. Prove '..Said' where nothing that the law and all that it calls make is longer than what came in: it says more and counts as full. Else prove '..UptoSaid'. A law counts once. -/
mutual
def uptoBulk {H : Type} : DataW H → Nat
  | .lit (.string bytes) => bytes.length + 1
  | .lit _ => 1
  | .nil => 1
  | .ptr d => uptoBulk d + 1
  | .slice elems spare => uptoBulkAll elems + uptoBulkAll spare + 1
  | .agg parts => uptoBulkAll parts + 1
  | .iface _ d => uptoBulk d + 1
  | .map entries => uptoBulkEntries entries + 1
  | .held _ => 1
def uptoBulkAll {H : Type} : List (DataW H) → Nat
  | [] => 0
  | d :: r => uptoBulk d + uptoBulkAll r
def uptoBulkEntries {H : Type} : List (Lit × DataW H) → Nat
  | [] => 0
  | x :: r => uptoBulkEntry x + uptoBulkEntries r
def uptoBulkEntry {H : Type} : Lit × DataW H → Nat
  | (.string bytes, d) => bytes.length + uptoBulk d + 1
  | (_, d) => uptoBulk d + 1
 end
def uptoSmall : (H : Type) → List (DataW H) → Bool := fun _ ds => decide (uptoBulkAll ds ≤ 1048576)
def OpenSpec.upto (s : _root_.Go.ChangeSpec) : _root_.Go.OpenSpec := { _root_.Go.OpenSpec.ofChange s with cond := some uptoSmall }

/-- 'haulierlaw16.InnerBack', WHERE WHAT IT READS IS OF BULK AT MOST 1048576: true; the input reads as it did. -/
def innerBackUptoRow : OpenClaim := { program := "yteabdapdlfhncaa", sum := "627cee5ecb60dec9d583542b5411b8bdc34dec81d93dfc5e76741e31315edb40", func := "haulier/haulierlaw16.InnerBack", spec := "innerBack", inPlace := ["slices.overlaps[haulier/api.Visit]"], unfollowed := true, recurses := true, apart := false, narrowed := true }
def InnerBackUptoSaid : Prop := innerBackUptoRow.holds Try.pinned (OpenSpec.upto innerBackSpec)

/-- 'haulierlaw16.InnerOwn', WHERE WHAT IT READS IS OF BULK AT MOST 1048576: true; the input reads as it did. -/
def innerOwnUptoRow : OpenClaim := { program := "yteabdapdlfhncaa", sum := "627cee5ecb60dec9d583542b5411b8bdc34dec81d93dfc5e76741e31315edb40", func := "haulier/haulierlaw16.InnerOwn", spec := "innerOwn", inPlace := ["slices.overlaps[haulier/api.Visit]"], unfollowed := true, recurses := true, apart := false, narrowed := true }
def InnerOwnUptoSaid : Prop := innerOwnUptoRow.holds Try.pinned (OpenSpec.upto innerOwnSpec)

/-- 'haulierlaw16.InnerPairs', WHERE WHAT IT READS IS OF BULK AT MOST 1048576: true; the input reads as it did. -/
def innerPairsUptoRow : OpenClaim := { program := "yteabdapdlfhncaa", sum := "627cee5ecb60dec9d583542b5411b8bdc34dec81d93dfc5e76741e31315edb40", func := "haulier/haulierlaw16.InnerPairs", spec := "innerPairs", inPlace := ["slices.overlaps[haulier/api.Visit]"], unfollowed := true, recurses := true, apart := false, narrowed := true }
def InnerPairsUptoSaid : Prop := innerPairsUptoRow.holds Try.pinned (OpenSpec.upto innerPairsSpec)

end Rows
end Go.Proofs.Yteabdapdlfhncaa

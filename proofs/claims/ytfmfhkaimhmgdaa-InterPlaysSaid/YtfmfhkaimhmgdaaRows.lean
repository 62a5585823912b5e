/-
  No cell of these rows narrows 'for every input' (looked for: loops, veiled, ifaces, maps, wideKeys, modest, calm, conditions, laid).
  DERIVED. THE GIVEN ROWS OF THIS SEAT. 6 by the template 'for every input the law returns true; each argument reads behind the call as it read before'; 0 by the template 'total and deterministic' (their statements: YtfmfhkaimhmgdaaTotals.lean).
  GIVEN WITH THE SEED: the statements are not yours to turn. If you find one false, say at which input.
  Laid BY PROGRAM, IN A SANDBOX (cutbox-rows.mjs): the forced cells as the released guide's own fill.sh prints them over the translation bffa6f89adb52d8f… (all of the seat's roots in one cut). By AI agents, Wed Nov 11 2026. No macro, syntax, notation, axiom, sorry.
-/
import Derived.Test.YtfmfhkaimhmgdaaChecked
import GoSem.Claim
import GoSem.ClaimJoined
import GoSem.ClaimMapViews
import Derived.JoinedTies
import Derived.KernelRfl
namespace Go.Proofs.Ytfmfhkaimhmgdaa
/- THE CELL 'sum', in the pinned program and in every row, IS THE sha256 OF THE DUMP (.gsa) THAT YtfmfhkaimhmgdaaProg.lean LOADS. Nothing in Lean hashes anything: it is a label: what it is worth is what the hold of that sum in a sandbox is worth. -/
noncomputable def Try.pinned : Pinned := { name := "ytfmfhkaimhmgdaa", sum := "bffa6f89adb52d8f8cec5657456145817537de283e67d392fe4738ab230dd4a5", checked := Try.checked }
namespace Rows
def none {H : Type} : Left H := { results := [], args := [] }

/-- 'haulierlaw17.InterChanges': WHATEVER THE INPUT: true; the input reads as it did. -/
def interChangesSpec : ChangeSpec := { name := "interChanges", fn := fun _ => fun
  | [d1, d2, d3] => { results := [.lit (.bool true)], args := [d1, d2, d3] }
  | _ => none }
def interChangesRow : OpenClaim := { program := "ytfmfhkaimhmgdaa", sum := "bffa6f89adb52d8f8cec5657456145817537de283e67d392fe4738ab230dd4a5", func := "haulier/haulierlaw17.InterChanges", spec := "interChanges", inPlace := ["slices.overlaps[haulier/api.Visit]"], plainKeys := false, apart := false }
def InterChangesSaid : Prop := interChangesRow.holds Try.pinned (OpenSpec.ofChange interChangesSpec)

/-- ITS FALSE NEIGHBOUR: 'it returns false'. Refute it at one input. -/
def interChangesWrong : ChangeSpec := { name := "interChanges", fn := fun _ => fun
  | [d1, d2, d3] => { results := [.lit (.bool false)], args := [d1, d2, d3] }
  | _ => none }
def InterChangesWrongFalsely : Prop := interChangesRow.holds Try.pinned (OpenSpec.ofChange interChangesWrong)

/-- 'haulierlaw17.InterAll': WHATEVER THE INPUT: true; the input reads as it did. -/
def interAllSpec : ChangeSpec := { name := "interAll", fn := fun _ => fun
  | [d1, d2, d3] => { results := [.lit (.bool true)], args := [d1, d2, d3] }
  | _ => none }
def interAllRow : OpenClaim := { program := "ytfmfhkaimhmgdaa", sum := "bffa6f89adb52d8f8cec5657456145817537de283e67d392fe4738ab230dd4a5", func := "haulier/haulierlaw17.InterAll", spec := "interAll", inPlace := ["slices.overlaps[haulier/api.Visit]"], unfollowed := true, recurses := true, plainKeys := false, apart := false }
def InterAllSaid : Prop := interAllRow.holds Try.pinned (OpenSpec.ofChange interAllSpec)

/-- ITS FALSE NEIGHBOUR: 'it returns false'. Refute it at one input. -/
def interAllWrong : ChangeSpec := { name := "interAll", fn := fun _ => fun
  | [d1, d2, d3] => { results := [.lit (.bool false)], args := [d1, d2, d3] }
  | _ => none }
def InterAllWrongFalsely : Prop := interAllRow.holds Try.pinned (OpenSpec.ofChange interAllWrong)

/-- 'haulierlaw17.InterPlays': WHATEVER THE INPUT: true; the input reads as it did. -/
def interPlaysSpec : ChangeSpec := { name := "interPlays", fn := fun _ => fun
  | [d1, d2, d3] => { results := [.lit (.bool true)], args := [d1, d2, d3] }
  | _ => none }
def interPlaysRow : OpenClaim := { program := "ytfmfhkaimhmgdaa", sum := "bffa6f89adb52d8f8cec5657456145817537de283e67d392fe4738ab230dd4a5", func := "haulier/haulierlaw17.InterPlays", spec := "interPlays", inPlace := ["slices.overlaps[haulier/api.Visit]"], plainKeys := false, apart := false }
def InterPlaysSaid : Prop := interPlaysRow.holds Try.pinned (OpenSpec.ofChange interPlaysSpec)

/-- ITS FALSE NEIGHBOUR: 'it returns false'. Refute it at one input. -/
def interPlaysWrong : ChangeSpec := { name := "interPlays", fn := fun _ => fun
  | [d1, d2, d3] => { results := [.lit (.bool false)], args := [d1, d2, d3] }
  | _ => none }
def InterPlaysWrongFalsely : Prop := interPlaysRow.holds Try.pinned (OpenSpec.ofChange interPlaysWrong)

/-- 'haulierlaw17.InterBack': WHATEVER THE INPUT: true; the input reads as it did. -/
def interBackSpec : ChangeSpec := { name := "interBack", fn := fun _ => fun
  | [d1, d2, d3] => { results := [.lit (.bool true)], args := [d1, d2, d3] }
  | _ => none }
def interBackRow : OpenClaim := { program := "ytfmfhkaimhmgdaa", sum := "bffa6f89adb52d8f8cec5657456145817537de283e67d392fe4738ab230dd4a5", func := "haulier/haulierlaw17.InterBack", spec := "interBack", inPlace := ["slices.overlaps[haulier/api.Visit]"], plainKeys := false, apart := false }
def InterBackSaid : Prop := interBackRow.holds Try.pinned (OpenSpec.ofChange interBackSpec)

/-- ITS FALSE NEIGHBOUR: 'it returns false'. Refute it at one input. -/
def interBackWrong : ChangeSpec := { name := "interBack", fn := fun _ => fun
  | [d1, d2, d3] => { results := [.lit (.bool false)], args := [d1, d2, d3] }
  | _ => none }
def InterBackWrongFalsely : Prop := interBackRow.holds Try.pinned (OpenSpec.ofChange interBackWrong)

/-- 'haulierlaw17.InterOwn': WHATEVER THE INPUT: true; the input reads as it did. -/
def interOwnSpec : ChangeSpec := { name := "interOwn", fn := fun _ => fun
  | [d1, d2, d3] => { results := [.lit (.bool true)], args := [d1, d2, d3] }
  | _ => none }
def interOwnRow : OpenClaim := { program := "ytfmfhkaimhmgdaa", sum := "bffa6f89adb52d8f8cec5657456145817537de283e67d392fe4738ab230dd4a5", func := "haulier/haulierlaw17.InterOwn", spec := "interOwn", inPlace := ["slices.overlaps[haulier/api.Visit]"], plainKeys := false, apart := false }
def InterOwnSaid : Prop := interOwnRow.holds Try.pinned (OpenSpec.ofChange interOwnSpec)

/-- ITS FALSE NEIGHBOUR: 'it returns false'. Refute it at one input. -/
def interOwnWrong : ChangeSpec := { name := "interOwn", fn := fun _ => fun
  | [d1, d2, d3] => { results := [.lit (.bool false)], args := [d1, d2, d3] }
  | _ => none }
def InterOwnWrongFalsely : Prop := interOwnRow.holds Try.pinned (OpenSpec.ofChange interOwnWrong)

/-- 'haulierlaw17.InterSizes': WHATEVER THE INPUT: true; the input reads as it did. -/
def interSizesSpec : ChangeSpec := { name := "interSizes", fn := fun _ => fun
  | [d1, d2, d3] => { results := [.lit (.bool true)], args := [d1, d2, d3] }
  | _ => none }
def interSizesRow : OpenClaim := { program := "ytfmfhkaimhmgdaa", sum := "bffa6f89adb52d8f8cec5657456145817537de283e67d392fe4738ab230dd4a5", func := "haulier/haulierlaw17.InterSizes", spec := "interSizes", inPlace := ["slices.overlaps[haulier/api.Visit]"], plainKeys := false, apart := false }
def InterSizesSaid : Prop := interSizesRow.holds Try.pinned (OpenSpec.ofChange interSizesSpec)

/-- ITS FALSE NEIGHBOUR: 'it returns false'. Refute it at one input. -/
def interSizesWrong : ChangeSpec := { name := "interSizes", fn := fun _ => fun
  | [d1, d2, d3] => { results := [.lit (.bool false)], args := [d1, d2, d3] }
  | _ => none }
def InterSizesWrongFalsely : Prop := interSizesRow.holds Try.pinned (OpenSpec.ofChange interSizesWrong)

/- THE SECOND FORM. 'bulk': how many values and letters a reading holds, each counted each time it is reached (what is shared counts as often as it is met; a slice's spare places count too). A statement '..UptoSaid' is the law's where the arguments, and the package variables that the reading takes, are together of bulk at most 1048576: NARROWER than '..Said'. Prove '..Said' where nothing that the law and all that it calls make is longer than what came in: it says more and counts as full. Else prove '..UptoSaid'. A law counts once. -/
mutual
def uptoBulk {H : Type} : DataW H → Nat
  | .lit (.string bytes) => bytes.length + 1
  | .lit _ => 1
  | .nil => 1
  | .ptr d => uptoBulk d + 1
  | .slice elems spare => uptoBulkAll elems + uptoBulkAll spare + 1
  | .agg parts => uptoBulkAll parts + 1
  | .iface _ d => uptoBulk d + 1
  | .map entries => uptoBulkEntries entries + 1
  | .held _ => 1
def uptoBulkAll {H : Type} : List (DataW H) → Nat
  | [] => 0
  | d :: r => uptoBulk d + uptoBulkAll r
def uptoBulkEntries {H : Type} : List (Lit × DataW H) → Nat
  | [] => 0
  | x :: r => uptoBulkEntry x + uptoBulkEntries r
def uptoBulkEntry {H : Type} : Lit × DataW H → Nat
  | (.string bytes, d) => bytes.length + uptoBulk d + 1
  | (_, d) => uptoBulk d + 1
 end
def uptoSmall : (H : Type) → List (DataW H) → Bool := fun _ ds => decide (uptoBulkAll ds ≤ 1048576)
def OpenSpec.upto (s : _root_.Go.ChangeSpec) : _root_.Go.OpenSpec := { _root_.Go.OpenSpec.ofChange s with cond := some uptoSmall }

/-- 'haulierlaw17.InterChanges', WHERE WHAT IT READS IS OF BULK AT MOST 1048576: true; the input reads as it did. -/
def interChangesUptoRow : OpenClaim := { program := "ytfmfhkaimhmgdaa", sum := "bffa6f89adb52d8f8cec5657456145817537de283e67d392fe4738ab230dd4a5", func := "haulier/haulierlaw17.InterChanges", spec := "interChanges", inPlace := ["slices.overlaps[haulier/api.Visit]"], plainKeys := false, apart := false, narrowed := true }
def InterChangesUptoSaid : Prop := interChangesUptoRow.holds Try.pinned (OpenSpec.upto interChangesSpec)

/-- 'haulierlaw17.InterAll', WHERE WHAT IT READS IS OF BULK AT MOST 1048576: true; the input reads as it did. -/
def interAllUptoRow : OpenClaim := { program := "ytfmfhkaimhmgdaa", sum := "bffa6f89adb52d8f8cec5657456145817537de283e67d392fe4738ab230dd4a5", func := "haulier/haulierlaw17.InterAll", spec := "interAll", inPlace := ["slices.overlaps[haulier/api.Visit]"], unfollowed := true, recurses := true, plainKeys := false, apart := false, narrowed := true }
def InterAllUptoSaid : Prop := interAllUptoRow.holds Try.pinned (OpenSpec.upto interAllSpec)

/-- 'haulierlaw17.InterPlays', WHERE WHAT IT READS IS OF BULK AT MOST 1048576: true; the input reads as it did. -/
def interPlaysUptoRow : OpenClaim := { program := "ytfmfhkaimhmgdaa", sum := "bffa6f89adb52d8f8cec5657456145817537de283e67d392fe4738ab230dd4a5", func := "haulier/haulierlaw17.InterPlays", spec := "interPlays", inPlace := ["slices.overlaps[haulier/api.Visit]"], plainKeys := false, apart := false, narrowed := true }
def InterPlaysUptoSaid : Prop := interPlaysUptoRow.holds Try.pinned (OpenSpec.upto interPlaysSpec)

/-- 'haulierlaw17.InterBack', WHERE WHAT IT READS IS OF BULK AT MOST 1048576: true; the input reads as it did. -/
def interBackUptoRow : OpenClaim := { program := "ytfmfhkaimhmgdaa", sum := "bffa6f89adb52d8f8cec5657456145817537de283e67d392fe4738ab230dd4a5", func := "haulier/haulierlaw17.InterBack", spec := "interBack", inPlace := ["slices.overlaps[haulier/api.Visit]"], plainKeys := false, apart := false, narrowed := true }
def InterBackUptoSaid : Prop := interBackUptoRow.holds Try.pinned (OpenSpec.upto interBackSpec)

/-- 'haulierlaw17.InterOwn', WHERE WHAT IT READS IS OF BULK AT MOST 1048576: true; the input reads as it did. -/
def interOwnUptoRow : OpenClaim := { program := "ytfmfhkaimhmgdaa", sum := "bffa6f89adb52d8f8cec5657456145817537de283e67d392fe4738ab230dd4a5", func := "haulier/haulierlaw17.InterOwn", spec := "interOwn", inPlace := ["slices.overlaps[haulier/api.Visit]"], plainKeys := false, apart := false, narrowed := true }
def InterOwnUptoSaid : Prop := interOwnUptoRow.holds Try.pinned (OpenSpec.upto interOwnSpec)

/-- 'haulierlaw17.InterSizes', WHERE WHAT IT READS IS OF BULK AT MOST 1048576: true; the input reads as it did. -/
def interSizesUptoRow : OpenClaim := { program := "ytfmfhkaimhmgdaa", sum := "bffa6f89adb52d8f8cec5657456145817537de283e67d392fe4738ab230dd4a5", func := "haulier/haulierlaw17.InterSizes", spec := "interSizes", inPlace := ["slices.overlaps[haulier/api.Visit]"], plainKeys := false, apart := false, narrowed := true }
def InterSizesUptoSaid : Prop := interSizesUptoRow.holds Try.pinned (OpenSpec.upto interSizesSpec)

end Rows
end Go.Proofs.Ytfmfhkaimhmgdaa

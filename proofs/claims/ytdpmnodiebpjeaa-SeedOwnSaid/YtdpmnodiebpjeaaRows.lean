/-
  No cell of these rows narrows 'for every input' (looked for: loops, veiled, ifaces, maps, wideKeys, modest, calm, conditions, laid).
  DERIVED. THE GIVEN ROWS OF THIS SEAT. 4 by the template 'for every input the law returns true; each argument reads behind the call as it read before'; 0 by the template 'total and deterministic' (their statements: YtdpmnodiebpjeaaTotals.lean).
  GIVEN WITH THE SEED: the statements are not yours to turn. If you find one false, say at which input.
  Laid BY PROGRAM, IN A SANDBOX (cutbox-rows.mjs): the forced cells as the released guide's own fill.sh prints them over the translation dea1ee3d17149579… (all of the seat's roots in one cut). By AI agents, Wed Nov 11 2026. No macro, syntax, notation, axiom, sorry.
-/
import Derived.Test.YtdpmnodiebpjeaaChecked
import GoSem.Claim
import GoSem.ClaimJoined
import GoSem.ClaimMapViews
import Derived.JoinedTies
import Derived.KernelRfl
namespace Go.Proofs.Ytdpmnodiebpjeaa
/- THE CELL 'sum', in the pinned program and in every row, IS THE sha256 OF THE DUMP (.gsa) THAT YtdpmnodiebpjeaaProg.lean LOADS. Nothing in Lean hashes anything: it is a label: what it is worth is what the hold of that sum in a sandbox is worth. -/
noncomputable def Try.pinned : Pinned := { name := "ytdpmnodiebpjeaa", sum := "dea1ee3d171495790c70c9f9a52325b2e62b297b1edca005a33bfccf343f41bb", checked := Try.checked }
namespace Rows
def none {H : Type} : Left H := { results := [], args := [] }

/-- 'haulierlaw15.SeedGreedy': WHATEVER THE INPUT: true; the input reads as it did. -/
def seedGreedySpec : ChangeSpec := { name := "seedGreedy", fn := fun _ => fun
  | [d] => { results := [.lit (.bool true)], args := [d] }
  | _ => none }
def seedGreedyRow : OpenClaim := { program := "ytdpmnodiebpjeaa", sum := "dea1ee3d171495790c70c9f9a52325b2e62b297b1edca005a33bfccf343f41bb", func := "haulier/haulierlaw15.SeedGreedy", spec := "seedGreedy", inPlace := ["slices.overlaps[haulier/api.Visit]"], unfollowed := true, recurses := true, plainKeys := false, apart := false }
def SeedGreedySaid : Prop := seedGreedyRow.holds Try.pinned (OpenSpec.ofChange seedGreedySpec)

/-- ITS FALSE NEIGHBOUR: 'it returns false'. Refute it at one input. -/
def seedGreedyWrong : ChangeSpec := { name := "seedGreedy", fn := fun _ => fun
  | [d] => { results := [.lit (.bool false)], args := [d] }
  | _ => none }
def SeedGreedyWrongFalsely : Prop := seedGreedyRow.holds Try.pinned (OpenSpec.ofChange seedGreedyWrong)

/-- 'haulierlaw15.SeedRight': WHATEVER THE INPUT: true; the input reads as it did. -/
def seedRightSpec : ChangeSpec := { name := "seedRight", fn := fun _ => fun
  | [d] => { results := [.lit (.bool true)], args := [d] }
  | _ => none }
def seedRightRow : OpenClaim := { program := "ytdpmnodiebpjeaa", sum := "dea1ee3d171495790c70c9f9a52325b2e62b297b1edca005a33bfccf343f41bb", func := "haulier/haulierlaw15.SeedRight", spec := "seedRight", inPlace := ["slices.overlaps[haulier/api.Visit]"], unfollowed := true, recurses := true, plainKeys := false, apart := false }
def SeedRightSaid : Prop := seedRightRow.holds Try.pinned (OpenSpec.ofChange seedRightSpec)

/-- ITS FALSE NEIGHBOUR: 'it returns false'. Refute it at one input. -/
def seedRightWrong : ChangeSpec := { name := "seedRight", fn := fun _ => fun
  | [d] => { results := [.lit (.bool false)], args := [d] }
  | _ => none }
def SeedRightWrongFalsely : Prop := seedRightRow.holds Try.pinned (OpenSpec.ofChange seedRightWrong)

/-- 'haulierlaw15.SeedOwn': WHATEVER THE INPUT: true; the input reads as it did. -/
def seedOwnSpec : ChangeSpec := { name := "seedOwn", fn := fun _ => fun
  | [d1, d2, d3] => { results := [.lit (.bool true)], args := [d1, d2, d3] }
  | _ => none }
def seedOwnRow : OpenClaim := { program := "ytdpmnodiebpjeaa", sum := "dea1ee3d171495790c70c9f9a52325b2e62b297b1edca005a33bfccf343f41bb", func := "haulier/haulierlaw15.SeedOwn", spec := "seedOwn", inPlace := ["slices.overlaps[haulier/api.Visit]"], unfollowed := true, recurses := true, plainKeys := false, apart := false }
def SeedOwnSaid : Prop := seedOwnRow.holds Try.pinned (OpenSpec.ofChange seedOwnSpec)

/-- ITS FALSE NEIGHBOUR: 'it returns false'. Refute it at one input. -/
def seedOwnWrong : ChangeSpec := { name := "seedOwn", fn := fun _ => fun
  | [d1, d2, d3] => { results := [.lit (.bool false)], args := [d1, d2, d3] }
  | _ => none }
def SeedOwnWrongFalsely : Prop := seedOwnRow.holds Try.pinned (OpenSpec.ofChange seedOwnWrong)

/-- 'haulierlaw15.SeedGrows': WHATEVER THE INPUT: true; the input reads as it did. -/
def seedGrowsSpec : ChangeSpec := { name := "seedGrows", fn := fun _ => fun
  | [d1, d2] => { results := [.lit (.bool true)], args := [d1, d2] }
  | _ => none }
def seedGrowsRow : OpenClaim := { program := "ytdpmnodiebpjeaa", sum := "dea1ee3d171495790c70c9f9a52325b2e62b297b1edca005a33bfccf343f41bb", func := "haulier/haulierlaw15.SeedGrows", spec := "seedGrows", inPlace := ["slices.overlaps[haulier/api.Visit]"], unfollowed := true, recurses := true, plainKeys := false, apart := false }
def SeedGrowsSaid : Prop := seedGrowsRow.holds Try.pinned (OpenSpec.ofChange seedGrowsSpec)

/-- ITS FALSE NEIGHBOUR: 'it returns false'. Refute it at one input. -/
def seedGrowsWrong : ChangeSpec := { name := "seedGrows", fn := fun _ => fun
  | [d1, d2] => { results := [.lit (.bool false)], args := [d1, d2] }
  | _ => none }
def SeedGrowsWrongFalsely : Prop := seedGrowsRow.holds Try.pinned (OpenSpec.ofChange seedGrowsWrong)

/- THE SECOND FORM. 'bulk': how many values and letters a reading holds, each counted each time it is reached (what is shared counts as often as it is met; a slice's spare places count too). A statement '..UptoSaid' is the law's where the arguments, and the package variables that the reading takes, are together of bulk at most 1048576: NARROWER than '..Said'. Prove '..Said' where nothing that the law and all that it calls make is longer than what came in: it says more and counts as full. Else prove '..UptoSaid'. A law counts once. -/
mutual
def uptoBulk {H : Type} : DataW H → Nat
  | .lit (.string bytes) => bytes.length + 1
  | .lit _ => 1
  | .nil => 1
  | .ptr d => uptoBulk d + 1
  | .slice elems spare => uptoBulkAll elems + uptoBulkAll spare + 1
  | .agg parts => uptoBulkAll parts + 1
  | .iface _ d => uptoBulk d + 1
  | .map entries => uptoBulkEntries entries + 1
  | .held _ => 1
def uptoBulkAll {H : Type} : List (DataW H) → Nat
  | [] => 0
  | d :: r => uptoBulk d + uptoBulkAll r
def uptoBulkEntries {H : Type} : List (Lit × DataW H) → Nat
  | [] => 0
  | x :: r => uptoBulkEntry x + uptoBulkEntries r
def uptoBulkEntry {H : Type} : Lit × DataW H → Nat
  | (.string bytes, d) => bytes.length + uptoBulk d + 1
  | (_, d) => uptoBulk d + 1
 end
def uptoSmall : (H : Type) → List (DataW H) → Bool := fun _ ds => decide (uptoBulkAll ds ≤ 1048576)
def OpenSpec.upto (s : _root_.Go.ChangeSpec) : _root_.Go.OpenSpec := { _root_.Go.OpenSpec.ofChange s with cond := some uptoSmall }

/-- 'haulierlaw15.SeedGreedy', WHERE WHAT IT READS IS OF BULK AT MOST 1048576: true; the input reads as it did. -/
def seedGreedyUptoRow : OpenClaim := { program := "ytdpmnodiebpjeaa", sum := "dea1ee3d171495790c70c9f9a52325b2e62b297b1edca005a33bfccf343f41bb", func := "haulier/haulierlaw15.SeedGreedy", spec := "seedGreedy", inPlace := ["slices.overlaps[haulier/api.Visit]"], unfollowed := true, recurses := true, plainKeys := false, apart := false, narrowed := true }
def SeedGreedyUptoSaid : Prop := seedGreedyUptoRow.holds Try.pinned (OpenSpec.upto seedGreedySpec)

/-- 'haulierlaw15.SeedRight', WHERE WHAT IT READS IS OF BULK AT MOST 1048576: true; the input reads as it did. -/
def seedRightUptoRow : OpenClaim := { program := "ytdpmnodiebpjeaa", sum := "dea1ee3d171495790c70c9f9a52325b2e62b297b1edca005a33bfccf343f41bb", func := "haulier/haulierlaw15.SeedRight", spec := "seedRight", inPlace := ["slices.overlaps[haulier/api.Visit]"], unfollowed := true, recurses := true, plainKeys := false, apart := false, narrowed := true }
def SeedRightUptoSaid : Prop := seedRightUptoRow.holds Try.pinned (OpenSpec.upto seedRightSpec)

/-- 'haulierlaw15.SeedOwn', WHERE WHAT IT READS IS OF BULK AT MOST 1048576: true; the input reads as it did. -/
def seedOwnUptoRow : OpenClaim := { program := "ytdpmnodiebpjeaa", sum := "dea1ee3d171495790c70c9f9a52325b2e62b297b1edca005a33bfccf343f41bb", func := "haulier/haulierlaw15.SeedOwn", spec := "seedOwn", inPlace := ["slices.overlaps[haulier/api.Visit]"], unfollowed := true, recurses := true, plainKeys := false, apart := false, narrowed := true }
def SeedOwnUptoSaid : Prop := seedOwnUptoRow.holds Try.pinned (OpenSpec.upto seedOwnSpec)

/-- 'haulierlaw15.SeedGrows', WHERE WHAT IT READS IS OF BULK AT MOST 1048576: true; the input reads as it did. -/
def seedGrowsUptoRow : OpenClaim := { program := "ytdpmnodiebpjeaa", sum := "dea1ee3d171495790c70c9f9a52325b2e62b297b1edca005a33bfccf343f41bb", func := "haulier/haulierlaw15.SeedGrows", spec := "seedGrows", inPlace := ["slices.overlaps[haulier/api.Visit]"], unfollowed := true, recurses := true, plainKeys := false, apart := false, narrowed := true }
def SeedGrowsUptoSaid : Prop := seedGrowsUptoRow.holds Try.pinned (OpenSpec.upto seedGrowsSpec)

end Rows
end Go.Proofs.Ytdpmnodiebpjeaa

/-
  No cell of these rows narrows 'for every input' (looked for: loops, veiled, ifaces, maps, wideKeys, modest, calm, conditions, laid).
  DERIVED. THE GIVEN ROWS OF THIS SEAT. 3 by the template 'for every input the law returns true; each argument reads behind the call as it read before'; 0 by the template 'total and deterministic' (their statements: YtimhdimhdimbjaaTotals.lean).
  GIVEN WITH THE SEED: the statements are not yours to turn. If you find one false, say at which input.
  Laid BY PROGRAM, IN A SANDBOX (cutbox-rows.mjs): the forced cells as the released guide's own fill.sh prints them over the translation 6472eed70250c4ac… (all of the seat's roots in one cut). By AI agents, Wed Nov 11 2026. No macro, syntax, notation, axiom, sorry.
-/
import Derived.Test.YtimhdimhdimbjaaChecked
import GoSem.Claim
import GoSem.ClaimJoined
import GoSem.ClaimMapViews
import Derived.JoinedTies
import Derived.KernelRfl
namespace Go.Proofs.Ytimhdimhdimbjaa
/- THE CELL 'sum', in the pinned program and in every row, IS THE sha256 OF THE DUMP (.gsa) THAT YtimhdimhdimbjaaProg.lean LOADS. Nothing in Lean hashes anything: it is a label: what it is worth is what the hold of that sum in a sandbox is worth. -/
noncomputable def Try.pinned : Pinned := { name := "ytimhdimhdimbjaa", sum := "6472eed70250c4acbad951a84832ee12d393decc545caad8ec38b293744fd1e9", checked := Try.checked }
namespace Rows
def none {H : Type} : Left H := { results := [], args := [] }

/-- 'haulierlaw19.ExactLess': WHATEVER THE INPUT: true; the input reads as it did. -/
def exactLessSpec : ChangeSpec := { name := "exactLess", fn := fun _ => fun
  | [d] => { results := [.lit (.bool true)], args := [d] }
  | _ => none }
def exactLessRow : OpenClaim := { program := "ytimhdimhdimbjaa", sum := "6472eed70250c4acbad951a84832ee12d393decc545caad8ec38b293744fd1e9", func := "haulier/haulierlaw19.ExactLess", spec := "exactLess", unfollowed := true, recurses := true, plainKeys := false, apart := false }
def ExactLessSaid : Prop := exactLessRow.holds Try.pinned (OpenSpec.ofChange exactLessSpec)

/-- ITS FALSE NEIGHBOUR: 'it returns false'. Refute it at one input. -/
def exactLessWrong : ChangeSpec := { name := "exactLess", fn := fun _ => fun
  | [d] => { results := [.lit (.bool false)], args := [d] }
  | _ => none }
def ExactLessWrongFalsely : Prop := exactLessRow.holds Try.pinned (OpenSpec.ofChange exactLessWrong)

/-- 'haulierlaw19.ExactNothing': WHATEVER THE INPUT: true; the input reads as it did. -/
def exactNothingSpec : ChangeSpec := { name := "exactNothing", fn := fun _ => fun
  | [d] => { results := [.lit (.bool true)], args := [d] }
  | _ => none }
def exactNothingRow : OpenClaim := { program := "ytimhdimhdimbjaa", sum := "6472eed70250c4acbad951a84832ee12d393decc545caad8ec38b293744fd1e9", func := "haulier/haulierlaw19.ExactNothing", spec := "exactNothing", unfollowed := true, recurses := true, plainKeys := false, apart := false }
def ExactNothingSaid : Prop := exactNothingRow.holds Try.pinned (OpenSpec.ofChange exactNothingSpec)

/-- ITS FALSE NEIGHBOUR: 'it returns false'. Refute it at one input. -/
def exactNothingWrong : ChangeSpec := { name := "exactNothing", fn := fun _ => fun
  | [d] => { results := [.lit (.bool false)], args := [d] }
  | _ => none }
def ExactNothingWrongFalsely : Prop := exactNothingRow.holds Try.pinned (OpenSpec.ofChange exactNothingWrong)

/-- 'haulierlaw19.ExactScaled': WHATEVER THE INPUT: true; the input reads as it did. -/
def exactScaledSpec : ChangeSpec := { name := "exactScaled", fn := fun _ => fun
  | [d] => { results := [.lit (.bool true)], args := [d] }
  | _ => none }
def exactScaledRow : OpenClaim := { program := "ytimhdimhdimbjaa", sum := "6472eed70250c4acbad951a84832ee12d393decc545caad8ec38b293744fd1e9", func := "haulier/haulierlaw19.ExactScaled", spec := "exactScaled", unfollowed := true, recurses := true, plainKeys := false, apart := false }
def ExactScaledSaid : Prop := exactScaledRow.holds Try.pinned (OpenSpec.ofChange exactScaledSpec)

/-- ITS FALSE NEIGHBOUR: 'it returns false'. Refute it at one input. -/
def exactScaledWrong : ChangeSpec := { name := "exactScaled", fn := fun _ => fun
  | [d] => { results := [.lit (.bool false)], args := [d] }
  | _ => none }
def ExactScaledWrongFalsely : Prop := exactScaledRow.holds Try.pinned (OpenSpec.ofChange exactScaledWrong)

/- THE SECOND FORM. 'bulk': how many values and letters a reading holds, each counted each time it is reached (what is shared counts as often as it is met; a slice's spare places count too). A statement '..UptoSaid' is the law's where the arguments, and the package variables that the reading takes, are together of bulk at most 1048576: NARROWER than '..Said'. Prove '..Said' where nothing that the law and all that it calls make is longer than what came in: it says more and counts as full. Else prove '..UptoSaid'. A law counts once. -/
mutual
def uptoBulk {H : Type} : DataW H → Nat
  | .lit (.string bytes) => bytes.length + 1
  | .lit _ => 1
  | .nil => 1
  | .ptr d => uptoBulk d + 1
  | .slice elems spare => uptoBulkAll elems + uptoBulkAll spare + 1
  | .agg parts => uptoBulkAll parts + 1
  | .iface _ d => uptoBulk d + 1
  | .map entries => uptoBulkEntries entries + 1
  | .held _ => 1
def uptoBulkAll {H : Type} : List (DataW H) → Nat
  | [] => 0
  | d :: r => uptoBulk d + uptoBulkAll r
def uptoBulkEntries {H : Type} : List (Lit × DataW H) → Nat
  | [] => 0
  | x :: r => uptoBulkEntry x + uptoBulkEntries r
def uptoBulkEntry {H : Type} : Lit × DataW H → Nat
  | (.string bytes, d) => bytes.length + uptoBulk d + 1
  | (_, d) => uptoBulk d + 1
 end
def uptoSmall : (H : Type) → List (DataW H) → Bool := fun _ ds => decide (uptoBulkAll ds ≤ 1048576)
def OpenSpec.upto (s : _root_.Go.ChangeSpec) : _root_.Go.OpenSpec := { _root_.Go.OpenSpec.ofChange s with cond := some uptoSmall }

/-- 'haulierlaw19.ExactLess', WHERE WHAT IT READS IS OF BULK AT MOST 1048576: true; the input reads as it did. -/
def exactLessUptoRow : OpenClaim := { program := "ytimhdimhdimbjaa", sum := "6472eed70250c4acbad951a84832ee12d393decc545caad8ec38b293744fd1e9", func := "haulier/haulierlaw19.ExactLess", spec := "exactLess", unfollowed := true, recurses := true, plainKeys := false, apart := false, narrowed := true }
def ExactLessUptoSaid : Prop := exactLessUptoRow.holds Try.pinned (OpenSpec.upto exactLessSpec)

/-- 'haulierlaw19.ExactNothing', WHERE WHAT IT READS IS OF BULK AT MOST 1048576: true; the input reads as it did. -/
def exactNothingUptoRow : OpenClaim := { program := "ytimhdimhdimbjaa", sum := "6472eed70250c4acbad951a84832ee12d393decc545caad8ec38b293744fd1e9", func := "haulier/haulierlaw19.ExactNothing", spec := "exactNothing", unfollowed := true, recurses := true, plainKeys := false, apart := false, narrowed := true }
def ExactNothingUptoSaid : Prop := exactNothingUptoRow.holds Try.pinned (OpenSpec.upto exactNothingSpec)

/-- 'haulierlaw19.ExactScaled', WHERE WHAT IT READS IS OF BULK AT MOST 1048576: true; the input reads as it did. -/
def exactScaledUptoRow : OpenClaim := { program := "ytimhdimhdimbjaa", sum := "6472eed70250c4acbad951a84832ee12d393decc545caad8ec38b293744fd1e9", func := "haulier/haulierlaw19.ExactScaled", spec := "exactScaled", unfollowed := true, recurses := true, plainKeys := false, apart := false, narrowed := true }
def ExactScaledUptoSaid : Prop := exactScaledUptoRow.holds Try.pinned (OpenSpec.upto exactScaledSpec)

end Rows
end Go.Proofs.Ytimhdimhdimbjaa

/-
  No cell of these rows narrows 'for every input' (looked for: loops, veiled, ifaces, maps, wideKeys, modest, calm, conditions, laid).
  DERIVED. THE GIVEN ROWS OF THIS SEAT. 5 by the template 'for every input the law returns true; each argument reads behind the call as it read before'; 0 by the template 'total and deterministic' (their statements: YtkcccenekglkoaaTotals.lean).
  GIVEN WITH THE SEED: the statements are not yours to turn. If you find one false, say at which input.
  Laid BY PROGRAM, IN A SANDBOX (cutbox-rows.mjs): the forced cells as the released guide's own fill.sh prints them over the translation ffe0aeecca6b99db… (all of the seat's roots in one cut). By AI agents, Wed Nov 11 2026. No macro, syntax, notation, axiom, sorry.
-/
import Derived.Test.YtkcccenekglkoaaChecked
import GoSem.Claim
import GoSem.ClaimJoined
import GoSem.ClaimMapViews
import Derived.JoinedTies
import Derived.KernelRfl
namespace Go.Proofs.Ytkcccenekglkoaa
/- THE CELL 'sum', in the pinned program and in every row, IS THE sha256 OF THE DUMP (.gsa) THAT YtkcccenekglkoaaProg.lean LOADS. Nothing in Lean hashes anything: it is a label: what it is worth is what the hold of that sum in a sandbox is worth. -/
noncomputable def Try.pinned : Pinned := { name := "ytkcccenekglkoaa", sum := "ffe0aeecca6b99dbfbac5bd3c6e542611dfff210ca1f15d627046a888aa67614", checked := Try.checked }
namespace Rows
def none {H : Type} : Left H := { results := [], args := [] }

/-- 'needlestorelaw25.LinearSteps': WHATEVER THE INPUT: true; the input reads as it did. -/
def linearStepsSpec : ChangeSpec := { name := "linearSteps", fn := fun _ => fun
  | [d1, d2, d3] => { results := [.lit (.bool true)], args := [d1, d2, d3] }
  | _ => none }
def linearStepsRow : OpenClaim := { program := "ytkcccenekglkoaa", sum := "ffe0aeecca6b99dbfbac5bd3c6e542611dfff210ca1f15d627046a888aa67614", func := "needlestore/needlestorelaw25.LinearSteps", spec := "linearSteps", unfollowed := true, recurses := true, plainKeys := false, apart := false }
def LinearStepsSaid : Prop := linearStepsRow.holds Try.pinned (OpenSpec.ofChange linearStepsSpec)

/-- ITS FALSE NEIGHBOUR: 'it returns false'. Refute it at one input. -/
def linearStepsWrong : ChangeSpec := { name := "linearSteps", fn := fun _ => fun
  | [d1, d2, d3] => { results := [.lit (.bool false)], args := [d1, d2, d3] }
  | _ => none }
def LinearStepsWrongFalsely : Prop := linearStepsRow.holds Try.pinned (OpenSpec.ofChange linearStepsWrong)

/-- 'needlestorelaw25.LinearLate': WHATEVER THE INPUT: true; the input reads as it did. -/
def linearLateSpec : ChangeSpec := { name := "linearLate", fn := fun _ => fun
  | [d1, d2, d3, d4] => { results := [.lit (.bool true)], args := [d1, d2, d3, d4] }
  | _ => none }
def linearLateRow : OpenClaim := { program := "ytkcccenekglkoaa", sum := "ffe0aeecca6b99dbfbac5bd3c6e542611dfff210ca1f15d627046a888aa67614", func := "needlestore/needlestorelaw25.LinearLate", spec := "linearLate", unfollowed := true, recurses := true, plainKeys := false, apart := false }
def LinearLateSaid : Prop := linearLateRow.holds Try.pinned (OpenSpec.ofChange linearLateSpec)

/-- ITS FALSE NEIGHBOUR: 'it returns false'. Refute it at one input. -/
def linearLateWrong : ChangeSpec := { name := "linearLate", fn := fun _ => fun
  | [d1, d2, d3, d4] => { results := [.lit (.bool false)], args := [d1, d2, d3, d4] }
  | _ => none }
def LinearLateWrongFalsely : Prop := linearLateRow.holds Try.pinned (OpenSpec.ofChange linearLateWrong)

/-- 'needlestorelaw25.LinearClosed': WHATEVER THE INPUT: true; the input reads as it did. -/
def linearClosedSpec : ChangeSpec := { name := "linearClosed", fn := fun _ => fun
  | [d1, d2, d3] => { results := [.lit (.bool true)], args := [d1, d2, d3] }
  | _ => none }
def linearClosedRow : OpenClaim := { program := "ytkcccenekglkoaa", sum := "ffe0aeecca6b99dbfbac5bd3c6e542611dfff210ca1f15d627046a888aa67614", func := "needlestore/needlestorelaw25.LinearClosed", spec := "linearClosed", unfollowed := true, recurses := true, plainKeys := false, apart := false }
def LinearClosedSaid : Prop := linearClosedRow.holds Try.pinned (OpenSpec.ofChange linearClosedSpec)

/-- ITS FALSE NEIGHBOUR: 'it returns false'. Refute it at one input. -/
def linearClosedWrong : ChangeSpec := { name := "linearClosed", fn := fun _ => fun
  | [d1, d2, d3] => { results := [.lit (.bool false)], args := [d1, d2, d3] }
  | _ => none }
def LinearClosedWrongFalsely : Prop := linearClosedRow.holds Try.pinned (OpenSpec.ofChange linearClosedWrong)

/-- 'needlestorelaw25.LinearOrders': WHATEVER THE INPUT: true; the input reads as it did. -/
def linearOrdersSpec : ChangeSpec := { name := "linearOrders", fn := fun _ => fun
  | [d1, d2, d3, d4] => { results := [.lit (.bool true)], args := [d1, d2, d3, d4] }
  | _ => none }
def linearOrdersRow : OpenClaim := { program := "ytkcccenekglkoaa", sum := "ffe0aeecca6b99dbfbac5bd3c6e542611dfff210ca1f15d627046a888aa67614", func := "needlestore/needlestorelaw25.LinearOrders", spec := "linearOrders", unfollowed := true, recurses := true, plainKeys := false, apart := false }
def LinearOrdersSaid : Prop := linearOrdersRow.holds Try.pinned (OpenSpec.ofChange linearOrdersSpec)

/-- ITS FALSE NEIGHBOUR: 'it returns false'. Refute it at one input. -/
def linearOrdersWrong : ChangeSpec := { name := "linearOrders", fn := fun _ => fun
  | [d1, d2, d3, d4] => { results := [.lit (.bool false)], args := [d1, d2, d3, d4] }
  | _ => none }
def LinearOrdersWrongFalsely : Prop := linearOrdersRow.holds Try.pinned (OpenSpec.ofChange linearOrdersWrong)

/-- 'needlestorelaw25.LinearAtomic': WHATEVER THE INPUT: true; the input reads as it did. -/
def linearAtomicSpec : ChangeSpec := { name := "linearAtomic", fn := fun _ => fun
  | [d1, d2] => { results := [.lit (.bool true)], args := [d1, d2] }
  | _ => none }
def linearAtomicRow : OpenClaim := { program := "ytkcccenekglkoaa", sum := "ffe0aeecca6b99dbfbac5bd3c6e542611dfff210ca1f15d627046a888aa67614", func := "needlestore/needlestorelaw25.LinearAtomic", spec := "linearAtomic", unfollowed := true, recurses := true, plainKeys := false, apart := false }
def LinearAtomicSaid : Prop := linearAtomicRow.holds Try.pinned (OpenSpec.ofChange linearAtomicSpec)

/-- ITS FALSE NEIGHBOUR: 'it returns false'. Refute it at one input. -/
def linearAtomicWrong : ChangeSpec := { name := "linearAtomic", fn := fun _ => fun
  | [d1, d2] => { results := [.lit (.bool false)], args := [d1, d2] }
  | _ => none }
def LinearAtomicWrongFalsely : Prop := linearAtomicRow.holds Try.pinned (OpenSpec.ofChange linearAtomicWrong)

/- THE SECOND FORM. 'bulk': how many values and letters a reading holds, each counted each time it is reached (what is shared counts as often as it is met; a slice's spare places count too). A statement '..UptoSaid' is the law's where the arguments, and the package variables that the reading takes, are together of bulk at most 1048576: NARROWER than '..Said'. Prove '..Said' where nothing that the law and all that it calls make is longer than what came in: it says more and counts as full. Else prove '..UptoSaid'. A law counts once. -/
mutual
def uptoBulk {H : Type} : DataW H → Nat
  | .lit (.string bytes) => bytes.length + 1
  | .lit _ => 1
  | .nil => 1
  | .ptr d => uptoBulk d + 1
  | .slice elems spare => uptoBulkAll elems + uptoBulkAll spare + 1
  | .agg parts => uptoBulkAll parts + 1
  | .iface _ d => uptoBulk d + 1
  | .map entries => uptoBulkEntries entries + 1
  | .held _ => 1
def uptoBulkAll {H : Type} : List (DataW H) → Nat
  | [] => 0
  | d :: r => uptoBulk d + uptoBulkAll r
def uptoBulkEntries {H : Type} : List (Lit × DataW H) → Nat
  | [] => 0
  | x :: r => uptoBulkEntry x + uptoBulkEntries r
def uptoBulkEntry {H : Type} : Lit × DataW H → Nat
  | (.string bytes, d) => bytes.length + uptoBulk d + 1
  | (_, d) => uptoBulk d + 1
 end
def uptoSmall : (H : Type) → List (DataW H) → Bool := fun _ ds => decide (uptoBulkAll ds ≤ 1048576)
def OpenSpec.upto (s : _root_.Go.ChangeSpec) : _root_.Go.OpenSpec := { _root_.Go.OpenSpec.ofChange s with cond := some uptoSmall }

/-- 'needlestorelaw25.LinearSteps', WHERE WHAT IT READS IS OF BULK AT MOST 1048576: true; the input reads as it did. -/
def linearStepsUptoRow : OpenClaim := { program := "ytkcccenekglkoaa", sum := "ffe0aeecca6b99dbfbac5bd3c6e542611dfff210ca1f15d627046a888aa67614", func := "needlestore/needlestorelaw25.LinearSteps", spec := "linearSteps", unfollowed := true, recurses := true, plainKeys := false, apart := false, narrowed := true }
def LinearStepsUptoSaid : Prop := linearStepsUptoRow.holds Try.pinned (OpenSpec.upto linearStepsSpec)

/-- 'needlestorelaw25.LinearLate', WHERE WHAT IT READS IS OF BULK AT MOST 1048576: true; the input reads as it did. -/
def linearLateUptoRow : OpenClaim := { program := "ytkcccenekglkoaa", sum := "ffe0aeecca6b99dbfbac5bd3c6e542611dfff210ca1f15d627046a888aa67614", func := "needlestore/needlestorelaw25.LinearLate", spec := "linearLate", unfollowed := true, recurses := true, plainKeys := false, apart := false, narrowed := true }
def LinearLateUptoSaid : Prop := linearLateUptoRow.holds Try.pinned (OpenSpec.upto linearLateSpec)

/-- 'needlestorelaw25.LinearClosed', WHERE WHAT IT READS IS OF BULK AT MOST 1048576: true; the input reads as it did. -/
def linearClosedUptoRow : OpenClaim := { program := "ytkcccenekglkoaa", sum := "ffe0aeecca6b99dbfbac5bd3c6e542611dfff210ca1f15d627046a888aa67614", func := "needlestore/needlestorelaw25.LinearClosed", spec := "linearClosed", unfollowed := true, recurses := true, plainKeys := false, apart := false, narrowed := true }
def LinearClosedUptoSaid : Prop := linearClosedUptoRow.holds Try.pinned (OpenSpec.upto linearClosedSpec)

/-- 'needlestorelaw25.LinearOrders', WHERE WHAT IT READS IS OF BULK AT MOST 1048576: true; the input reads as it did. -/
def linearOrdersUptoRow : OpenClaim := { program := "ytkcccenekglkoaa", sum := "ffe0aeecca6b99dbfbac5bd3c6e542611dfff210ca1f15d627046a888aa67614", func := "needlestore/needlestorelaw25.LinearOrders", spec := "linearOrders", unfollowed := true, recurses := true, plainKeys := false, apart := false, narrowed := true }
def LinearOrdersUptoSaid : Prop := linearOrdersUptoRow.holds Try.pinned (OpenSpec.upto linearOrdersSpec)

/-- 'needlestorelaw25.LinearAtomic', WHERE WHAT IT READS IS OF BULK AT MOST 1048576: true; the input reads as it did. -/
def linearAtomicUptoRow : OpenClaim := { program := "ytkcccenekglkoaa", sum := "ffe0aeecca6b99dbfbac5bd3c6e542611dfff210ca1f15d627046a888aa67614", func := "needlestore/needlestorelaw25.LinearAtomic", spec := "linearAtomic", unfollowed := true, recurses := true, plainKeys := false, apart := false, narrowed := true }
def LinearAtomicUptoSaid : Prop := linearAtomicUptoRow.holds Try.pinned (OpenSpec.upto linearAtomicSpec)

end Rows
end Go.Proofs.Ytkcccenekglkoaa

/-
  No cell of these rows narrows 'for every input' (looked for: loops, veiled, ifaces, maps, wideKeys, modest, calm, conditions, laid).
  DERIVED. THE GIVEN ROWS OF THIS SEAT. 5 by the template 'for every input the law returns true; each argument reads behind the call as it read before'; 0 by the template 'total and deterministic' (their statements: YtcncappgheopgaaGreatTotals.lean).
  GIVEN WITH THE SEED: the statements are not yours to turn. If you find one false, say at which input.
  Laid BY PROGRAM, IN A SANDBOX (cutbox-rows.mjs): the forced cells as the released guide's own fill.sh prints them over the translation 4f4451a6976a4894… (all of the seat's roots in one cut). By AI agents, Wed Nov 11 2026. No macro, syntax, notation, axiom, sorry.
-/
import Derived.Test.YtcncappgheopgaaGreatChecked
import GoSem.Claim
import GoSem.ClaimJoined
import GoSem.ClaimMapViews
import Derived.JoinedTies
import Derived.KernelRfl
namespace Go.Proofs.YtcncappgheopgaaGreat
/- THE CELL 'sum', in the pinned program and in every row, IS THE sha256 OF THE DUMP (.gsa) THAT YtcncappgheopgaaGreatProg.lean LOADS. Nothing in Lean hashes anything: it is a label: what it is worth is what the hold of that sum in a sandbox is worth. -/
noncomputable def Tryz.pinned : Pinned := { name := "ytcncappgheopgaagreat", sum := "4f4451a6976a489482b19c9f283f746ab240b262ac480d6a107099f869e305ea", checked := Tryz.checked }
namespace Rows
def none {H : Type} : Left H := { results := [], args := [] }

/-- 'needlestorelaw18.EcreadBytes': WHATEVER THE INPUT: true; the input reads as it did. -/
def ecreadBytesSpec : ChangeSpec := { name := "ecreadBytes", fn := fun _ => fun
  | [d1, d2, d3, d4, d5, d6, d7, d8] => { results := [.lit (.bool true)], args := [d1, d2, d3, d4, d5, d6, d7, d8] }
  | _ => none }
def ecreadBytesRow : OpenClaim := { program := "ytcncappgheopgaagreat", sum := "4f4451a6976a489482b19c9f283f746ab240b262ac480d6a107099f869e305ea", func := "needlestore/needlestorelaw18.EcreadBytes", spec := "ecreadBytes", unfollowed := true, recurses := true, apart := false }
def EcreadBytesSaid : Prop := ecreadBytesRow.holds Tryz.pinned (OpenSpec.ofChange ecreadBytesSpec)

/-- ITS FALSE NEIGHBOUR: 'it returns false'. Refute it at one input. -/
def ecreadBytesWrong : ChangeSpec := { name := "ecreadBytes", fn := fun _ => fun
  | [d1, d2, d3, d4, d5, d6, d7, d8] => { results := [.lit (.bool false)], args := [d1, d2, d3, d4, d5, d6, d7, d8] }
  | _ => none }
def EcreadBytesWrongFalsely : Prop := ecreadBytesRow.holds Tryz.pinned (OpenSpec.ofChange ecreadBytesWrong)

/-- 'needlestorelaw18.EcreadWhole': WHATEVER THE INPUT: true; the input reads as it did. -/
def ecreadWholeSpec : ChangeSpec := { name := "ecreadWhole", fn := fun _ => fun
  | [d1, d2, d3, d4] => { results := [.lit (.bool true)], args := [d1, d2, d3, d4] }
  | _ => none }
def ecreadWholeRow : OpenClaim := { program := "ytcncappgheopgaagreat", sum := "4f4451a6976a489482b19c9f283f746ab240b262ac480d6a107099f869e305ea", func := "needlestore/needlestorelaw18.EcreadWhole", spec := "ecreadWhole", unfollowed := true, recurses := true, apart := false }
def EcreadWholeSaid : Prop := ecreadWholeRow.holds Tryz.pinned (OpenSpec.ofChange ecreadWholeSpec)

/-- ITS FALSE NEIGHBOUR: 'it returns false'. Refute it at one input. -/
def ecreadWholeWrong : ChangeSpec := { name := "ecreadWhole", fn := fun _ => fun
  | [d1, d2, d3, d4] => { results := [.lit (.bool false)], args := [d1, d2, d3, d4] }
  | _ => none }
def EcreadWholeWrongFalsely : Prop := ecreadWholeRow.holds Tryz.pinned (OpenSpec.ofChange ecreadWholeWrong)

/-- 'needlestorelaw18.EcreadDamage': WHATEVER THE INPUT: true; the input reads as it did. -/
def ecreadDamageSpec : ChangeSpec := { name := "ecreadDamage", fn := fun _ => fun
  | [d1, d2, d3, d4, d5] => { results := [.lit (.bool true)], args := [d1, d2, d3, d4, d5] }
  | _ => none }
def ecreadDamageRow : OpenClaim := { program := "ytcncappgheopgaagreat", sum := "4f4451a6976a489482b19c9f283f746ab240b262ac480d6a107099f869e305ea", func := "needlestore/needlestorelaw18.EcreadDamage", spec := "ecreadDamage", unfollowed := true, recurses := true, apart := false }
def EcreadDamageSaid : Prop := ecreadDamageRow.holds Tryz.pinned (OpenSpec.ofChange ecreadDamageSpec)

/-- ITS FALSE NEIGHBOUR: 'it returns false'. Refute it at one input. -/
def ecreadDamageWrong : ChangeSpec := { name := "ecreadDamage", fn := fun _ => fun
  | [d1, d2, d3, d4, d5] => { results := [.lit (.bool false)], args := [d1, d2, d3, d4, d5] }
  | _ => none }
def EcreadDamageWrongFalsely : Prop := ecreadDamageRow.holds Tryz.pinned (OpenSpec.ofChange ecreadDamageWrong)

/-- 'needlestorelaw18.EcreadMissing': WHATEVER THE INPUT: true; the input reads as it did. -/
def ecreadMissingSpec : ChangeSpec := { name := "ecreadMissing", fn := fun _ => fun
  | [d1, d2] => { results := [.lit (.bool true)], args := [d1, d2] }
  | _ => none }
def ecreadMissingRow : OpenClaim := { program := "ytcncappgheopgaagreat", sum := "4f4451a6976a489482b19c9f283f746ab240b262ac480d6a107099f869e305ea", func := "needlestore/needlestorelaw18.EcreadMissing", spec := "ecreadMissing", unfollowed := true, recurses := true, apart := false }
def EcreadMissingSaid : Prop := ecreadMissingRow.holds Tryz.pinned (OpenSpec.ofChange ecreadMissingSpec)

/-- ITS FALSE NEIGHBOUR: 'it returns false'. Refute it at one input. -/
def ecreadMissingWrong : ChangeSpec := { name := "ecreadMissing", fn := fun _ => fun
  | [d1, d2] => { results := [.lit (.bool false)], args := [d1, d2] }
  | _ => none }
def EcreadMissingWrongFalsely : Prop := ecreadMissingRow.holds Tryz.pinned (OpenSpec.ofChange ecreadMissingWrong)

/-- 'needlestorelaw18.EcreadReads': WHATEVER THE INPUT: true; the input reads as it did. -/
def ecreadReadsSpec : ChangeSpec := { name := "ecreadReads", fn := fun _ => fun
  | [d1, d2, d3, d4, d5, d6, d7] => { results := [.lit (.bool true)], args := [d1, d2, d3, d4, d5, d6, d7] }
  | _ => none }
def ecreadReadsRow : OpenClaim := { program := "ytcncappgheopgaagreat", sum := "4f4451a6976a489482b19c9f283f746ab240b262ac480d6a107099f869e305ea", func := "needlestore/needlestorelaw18.EcreadReads", spec := "ecreadReads", unfollowed := true, recurses := true, apart := false }
def EcreadReadsSaid : Prop := ecreadReadsRow.holds Tryz.pinned (OpenSpec.ofChange ecreadReadsSpec)

/-- ITS FALSE NEIGHBOUR: 'it returns false'. Refute it at one input. -/
def ecreadReadsWrong : ChangeSpec := { name := "ecreadReads", fn := fun _ => fun
  | [d1, d2, d3, d4, d5, d6, d7] => { results := [.lit (.bool false)], args := [d1, d2, d3, d4, d5, d6, d7] }
  | _ => none }
def EcreadReadsWrongFalsely : Prop := ecreadReadsRow.holds Tryz.pinned (OpenSpec.ofChange ecreadReadsWrong)

/- THE SECOND FORM. 'bulk': how many values and letters a reading holds, each counted each time it is reached (what is shared counts as often as it is met; a slice's spare places count too). A statement '..UptoSaid' is the law's where the arguments, and the package variables that the reading takes, are together of bulk at most 1048576: NARROWER than '..Said'. Prove '..Said' where nothing that the law and all that it calls make is longer than what came in: it says more and counts as full. Else prove '..UptoSaid'. A law counts once. -/
mutual
def uptoBulk {H : Type} : DataW H → Nat
  | .lit (.string bytes) => bytes.length + 1
  | .lit _ => 1
  | .nil => 1
  | .ptr d => uptoBulk d + 1
  | .slice elems spare => uptoBulkAll elems + uptoBulkAll spare + 1
  | .agg parts => uptoBulkAll parts + 1
  | .iface _ d => uptoBulk d + 1
  | .map entries => uptoBulkEntries entries + 1
  | .held _ => 1
def uptoBulkAll {H : Type} : List (DataW H) → Nat
  | [] => 0
  | d :: r => uptoBulk d + uptoBulkAll r
def uptoBulkEntries {H : Type} : List (Lit × DataW H) → Nat
  | [] => 0
  | x :: r => uptoBulkEntry x + uptoBulkEntries r
def uptoBulkEntry {H : Type} : Lit × DataW H → Nat
  | (.string bytes, d) => bytes.length + uptoBulk d + 1
  | (_, d) => uptoBulk d + 1
 end
def uptoSmall : (H : Type) → List (DataW H) → Bool := fun _ ds => decide (uptoBulkAll ds ≤ 1048576)
def OpenSpec.upto (s : _root_.Go.ChangeSpec) : _root_.Go.OpenSpec := { _root_.Go.OpenSpec.ofChange s with cond := some uptoSmall }

/-- 'needlestorelaw18.EcreadBytes', WHERE WHAT IT READS IS OF BULK AT MOST 1048576: true; the input reads as it did. -/
def ecreadBytesUptoRow : OpenClaim := { program := "ytcncappgheopgaagreat", sum := "4f4451a6976a489482b19c9f283f746ab240b262ac480d6a107099f869e305ea", func := "needlestore/needlestorelaw18.EcreadBytes", spec := "ecreadBytes", unfollowed := true, recurses := true, apart := false, narrowed := true }
def EcreadBytesUptoSaid : Prop := ecreadBytesUptoRow.holds Tryz.pinned (OpenSpec.upto ecreadBytesSpec)

/-- 'needlestorelaw18.EcreadWhole', WHERE WHAT IT READS IS OF BULK AT MOST 1048576: true; the input reads as it did. -/
def ecreadWholeUptoRow : OpenClaim := { program := "ytcncappgheopgaagreat", sum := "4f4451a6976a489482b19c9f283f746ab240b262ac480d6a107099f869e305ea", func := "needlestore/needlestorelaw18.EcreadWhole", spec := "ecreadWhole", unfollowed := true, recurses := true, apart := false, narrowed := true }
def EcreadWholeUptoSaid : Prop := ecreadWholeUptoRow.holds Tryz.pinned (OpenSpec.upto ecreadWholeSpec)

/-- 'needlestorelaw18.EcreadDamage', WHERE WHAT IT READS IS OF BULK AT MOST 1048576: true; the input reads as it did. -/
def ecreadDamageUptoRow : OpenClaim := { program := "ytcncappgheopgaagreat", sum := "4f4451a6976a489482b19c9f283f746ab240b262ac480d6a107099f869e305ea", func := "needlestore/needlestorelaw18.EcreadDamage", spec := "ecreadDamage", unfollowed := true, recurses := true, apart := false, narrowed := true }
def EcreadDamageUptoSaid : Prop := ecreadDamageUptoRow.holds Tryz.pinned (OpenSpec.upto ecreadDamageSpec)

/-- 'needlestorelaw18.EcreadMissing', WHERE WHAT IT READS IS OF BULK AT MOST 1048576: true; the input reads as it did. -/
def ecreadMissingUptoRow : OpenClaim := { program := "ytcncappgheopgaagreat", sum := "4f4451a6976a489482b19c9f283f746ab240b262ac480d6a107099f869e305ea", func := "needlestore/needlestorelaw18.EcreadMissing", spec := "ecreadMissing", unfollowed := true, recurses := true, apart := false, narrowed := true }
def EcreadMissingUptoSaid : Prop := ecreadMissingUptoRow.holds Tryz.pinned (OpenSpec.upto ecreadMissingSpec)

/-- 'needlestorelaw18.EcreadReads', WHERE WHAT IT READS IS OF BULK AT MOST 1048576: true; the input reads as it did. -/
def ecreadReadsUptoRow : OpenClaim := { program := "ytcncappgheopgaagreat", sum := "4f4451a6976a489482b19c9f283f746ab240b262ac480d6a107099f869e305ea", func := "needlestore/needlestorelaw18.EcreadReads", spec := "ecreadReads", unfollowed := true, recurses := true, apart := false, narrowed := true }
def EcreadReadsUptoSaid : Prop := ecreadReadsUptoRow.holds Tryz.pinned (OpenSpec.upto ecreadReadsSpec)

end Rows
end Go.Proofs.YtcncappgheopgaaGreat

/-
  No cell of these rows narrows 'for every input' (looked for: loops, veiled, ifaces, maps, wideKeys, modest, calm, conditions, laid).
  DERIVED. THE GIVEN ROWS OF THIS SEAT. 4 by the template 'for every input the law returns true; each argument reads behind the call as it read before'; 0 by the template 'total and deterministic' (their statements: YtpebhdepmbnjbaaTotals.lean).
  GIVEN WITH THE SEED: the statements are not yours to turn. If you find one false, say at which input.
  Laid BY PROGRAM, IN A SANDBOX (cutbox-rows.mjs): the forced cells as the released guide's own fill.sh prints them over the translation 77717f2a32c715e0… (all of the seat's roots in one cut). By AI agents, Wed Nov 11 2026. No macro, syntax, notation, axiom, sorry.
-/
import Derived.Test.YtpebhdepmbnjbaaChecked
import GoSem.Claim
import GoSem.ClaimJoined
import GoSem.ClaimMapViews
import Derived.JoinedTies
import Derived.KernelRfl
namespace Go.Proofs.Ytpebhdepmbnjbaa
/- THE CELL 'sum', in the pinned program and in every row, IS THE sha256 OF THE DUMP (.gsa) THAT YtpebhdepmbnjbaaProg.lean LOADS. Nothing in Lean hashes anything: it is a label: what it is worth is what the hold of that sum in a sandbox is worth. -/
noncomputable def Try.pinned : Pinned := { name := "ytpebhdepmbnjbaa", sum := "77717f2a32c715e05b05308647a0ff2b6ae50a11e3fd1a466bd719f2b10a553b", checked := Try.checked }
namespace Rows
def none {H : Type} : Left H := { results := [], args := [] }

/-- 'needlestorelaw24.HistoryBuilds': WHATEVER THE INPUT: true; the input reads as it did. -/
def historyBuildsSpec : ChangeSpec := { name := "historyBuilds", fn := fun _ => fun
  | [d] => { results := [.lit (.bool true)], args := [d] }
  | _ => none }
def historyBuildsRow : OpenClaim := { program := "ytpebhdepmbnjbaa", sum := "77717f2a32c715e05b05308647a0ff2b6ae50a11e3fd1a466bd719f2b10a553b", func := "needlestore/needlestorelaw24.HistoryBuilds", spec := "historyBuilds", unfollowed := true, recurses := true, apart := false }
def HistoryBuildsSaid : Prop := historyBuildsRow.holds Try.pinned (OpenSpec.ofChange historyBuildsSpec)

/-- ITS FALSE NEIGHBOUR: 'it returns false'. Refute it at one input. -/
def historyBuildsWrong : ChangeSpec := { name := "historyBuilds", fn := fun _ => fun
  | [d] => { results := [.lit (.bool false)], args := [d] }
  | _ => none }
def HistoryBuildsWrongFalsely : Prop := historyBuildsRow.holds Try.pinned (OpenSpec.ofChange historyBuildsWrong)

/-- 'needlestorelaw24.HistoryOrder': WHATEVER THE INPUT: true; the input reads as it did. -/
def historyOrderSpec : ChangeSpec := { name := "historyOrder", fn := fun _ => fun
  | [d] => { results := [.lit (.bool true)], args := [d] }
  | _ => none }
def historyOrderRow : OpenClaim := { program := "ytpebhdepmbnjbaa", sum := "77717f2a32c715e05b05308647a0ff2b6ae50a11e3fd1a466bd719f2b10a553b", func := "needlestore/needlestorelaw24.HistoryOrder", spec := "historyOrder", unfollowed := true, recurses := true, apart := false }
def HistoryOrderSaid : Prop := historyOrderRow.holds Try.pinned (OpenSpec.ofChange historyOrderSpec)

/-- ITS FALSE NEIGHBOUR: 'it returns false'. Refute it at one input. -/
def historyOrderWrong : ChangeSpec := { name := "historyOrder", fn := fun _ => fun
  | [d] => { results := [.lit (.bool false)], args := [d] }
  | _ => none }
def HistoryOrderWrongFalsely : Prop := historyOrderRow.holds Try.pinned (OpenSpec.ofChange historyOrderWrong)

/-- 'needlestorelaw24.HistoryValid': WHATEVER THE INPUT: true; the input reads as it did. -/
def historyValidSpec : ChangeSpec := { name := "historyValid", fn := fun _ => fun
  | [d] => { results := [.lit (.bool true)], args := [d] }
  | _ => none }
def historyValidRow : OpenClaim := { program := "ytpebhdepmbnjbaa", sum := "77717f2a32c715e05b05308647a0ff2b6ae50a11e3fd1a466bd719f2b10a553b", func := "needlestore/needlestorelaw24.HistoryValid", spec := "historyValid", unfollowed := true, recurses := true, apart := false }
def HistoryValidSaid : Prop := historyValidRow.holds Try.pinned (OpenSpec.ofChange historyValidSpec)

/-- ITS FALSE NEIGHBOUR: 'it returns false'. Refute it at one input. -/
def historyValidWrong : ChangeSpec := { name := "historyValid", fn := fun _ => fun
  | [d] => { results := [.lit (.bool false)], args := [d] }
  | _ => none }
def HistoryValidWrongFalsely : Prop := historyValidRow.holds Try.pinned (OpenSpec.ofChange historyValidWrong)

/-- 'needlestorelaw24.HistoryParts': WHATEVER THE INPUT: true; the input reads as it did. -/
def historyPartsSpec : ChangeSpec := { name := "historyParts", fn := fun _ => fun
  | [d] => { results := [.lit (.bool true)], args := [d] }
  | _ => none }
def historyPartsRow : OpenClaim := { program := "ytpebhdepmbnjbaa", sum := "77717f2a32c715e05b05308647a0ff2b6ae50a11e3fd1a466bd719f2b10a553b", func := "needlestore/needlestorelaw24.HistoryParts", spec := "historyParts", unfollowed := true, recurses := true, apart := false }
def HistoryPartsSaid : Prop := historyPartsRow.holds Try.pinned (OpenSpec.ofChange historyPartsSpec)

/-- ITS FALSE NEIGHBOUR: 'it returns false'. Refute it at one input. -/
def historyPartsWrong : ChangeSpec := { name := "historyParts", fn := fun _ => fun
  | [d] => { results := [.lit (.bool false)], args := [d] }
  | _ => none }
def HistoryPartsWrongFalsely : Prop := historyPartsRow.holds Try.pinned (OpenSpec.ofChange historyPartsWrong)

/- THE SECOND FORM. 'bulk': how many values and letters a reading holds, each counted each time it is reached (what is shared counts as often as it is met; a slice's spare places count too). A statement '..UptoSaid' is the law's where the arguments, and the package variables that the reading takes, are together of bulk at most 1048576: NARROWER than '..Said'. Prove '..Said' where nothing that the law and all that it calls make is longer than what came in: it says more and counts as full. Else prove '..UptoSaid'. A law counts once. -/
mutual
def uptoBulk {H : Type} : DataW H → Nat
  | .lit (.string bytes) => bytes.length + 1
  | .lit _ => 1
  | .nil => 1
  | .ptr d => uptoBulk d + 1
  | .slice elems spare => uptoBulkAll elems + uptoBulkAll spare + 1
  | .agg parts => uptoBulkAll parts + 1
  | .iface _ d => uptoBulk d + 1
  | .map entries => uptoBulkEntries entries + 1
  | .held _ => 1
def uptoBulkAll {H : Type} : List (DataW H) → Nat
  | [] => 0
  | d :: r => uptoBulk d + uptoBulkAll r
def uptoBulkEntries {H : Type} : List (Lit × DataW H) → Nat
  | [] => 0
  | x :: r => uptoBulkEntry x + uptoBulkEntries r
def uptoBulkEntry {H : Type} : Lit × DataW H → Nat
  | (.string bytes, d) => bytes.length + uptoBulk d + 1
  | (_, d) => uptoBulk d + 1
 end
def uptoSmall : (H : Type) → List (DataW H) → Bool := fun _ ds => decide (uptoBulkAll ds ≤ 1048576)
def OpenSpec.upto (s : _root_.Go.ChangeSpec) : _root_.Go.OpenSpec := { _root_.Go.OpenSpec.ofChange s with cond := some uptoSmall }

/-- 'needlestorelaw24.HistoryBuilds', WHERE WHAT IT READS IS OF BULK AT MOST 1048576: true; the input reads as it did. -/
def historyBuildsUptoRow : OpenClaim := { program := "ytpebhdepmbnjbaa", sum := "77717f2a32c715e05b05308647a0ff2b6ae50a11e3fd1a466bd719f2b10a553b", func := "needlestore/needlestorelaw24.HistoryBuilds", spec := "historyBuilds", unfollowed := true, recurses := true, apart := false, narrowed := true }
def HistoryBuildsUptoSaid : Prop := historyBuildsUptoRow.holds Try.pinned (OpenSpec.upto historyBuildsSpec)

/-- 'needlestorelaw24.HistoryOrder', WHERE WHAT IT READS IS OF BULK AT MOST 1048576: true; the input reads as it did. -/
def historyOrderUptoRow : OpenClaim := { program := "ytpebhdepmbnjbaa", sum := "77717f2a32c715e05b05308647a0ff2b6ae50a11e3fd1a466bd719f2b10a553b", func := "needlestore/needlestorelaw24.HistoryOrder", spec := "historyOrder", unfollowed := true, recurses := true, apart := false, narrowed := true }
def HistoryOrderUptoSaid : Prop := historyOrderUptoRow.holds Try.pinned (OpenSpec.upto historyOrderSpec)

/-- 'needlestorelaw24.HistoryValid', WHERE WHAT IT READS IS OF BULK AT MOST 1048576: true; the input reads as it did. -/
def historyValidUptoRow : OpenClaim := { program := "ytpebhdepmbnjbaa", sum := "77717f2a32c715e05b05308647a0ff2b6ae50a11e3fd1a466bd719f2b10a553b", func := "needlestore/needlestorelaw24.HistoryValid", spec := "historyValid", unfollowed := true, recurses := true, apart := false, narrowed := true }
def HistoryValidUptoSaid : Prop := historyValidUptoRow.holds Try.pinned (OpenSpec.upto historyValidSpec)

/-- 'needlestorelaw24.HistoryParts', WHERE WHAT IT READS IS OF BULK AT MOST 1048576: true; the input reads as it did. -/
def historyPartsUptoRow : OpenClaim := { program := "ytpebhdepmbnjbaa", sum := "77717f2a32c715e05b05308647a0ff2b6ae50a11e3fd1a466bd719f2b10a553b", func := "needlestore/needlestorelaw24.HistoryParts", spec := "historyParts", unfollowed := true, recurses := true, apart := false, narrowed := true }
def HistoryPartsUptoSaid : Prop := historyPartsUptoRow.holds Try.pinned (OpenSpec.upto historyPartsSpec)

end Rows
end Go.Proofs.Ytpebhdepmbnjbaa

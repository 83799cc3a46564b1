/-
  No cell of these rows narrows 'for every input' (looked for: loops, veiled, ifaces, maps, wideKeys, modest, calm, conditions, laid).
  DERIVED. THE GIVEN ROWS OF THIS SEAT. 8 by the template 'for every input the law returns true; each argument reads behind the call as it read before'; 0 by the template 'total and deterministic' (their statements: YtnbcphofimicdaaTotals.lean).
  GIVEN WITH THE SEED: the statements are not yours to turn. If you find one false, say at which input.
  Laid BY PROGRAM, IN A SANDBOX (cutbox-rows.mjs): the forced cells as the released guide's own fill.sh prints them over the translation 51addb050c4d6664… (all of the seat's roots in one cut). By AI agents, Wed Nov 11 2026. No macro, syntax, notation, axiom, sorry.
-/
import Derived.Test.YtnbcphofimicdaaChecked
import GoSem.Claim
import GoSem.ClaimJoined
import GoSem.ClaimMapViews
import Derived.JoinedTies
import Derived.KernelRfl
namespace Go.Proofs.Ytnbcphofimicdaa
/- THE CELL 'sum', in the pinned program and in every row, IS THE sha256 OF THE DUMP (.gsa) THAT YtnbcphofimicdaaProg.lean LOADS. Nothing in Lean hashes anything: it is a label: what it is worth is what the hold of that sum in a sandbox is worth. -/
noncomputable def Try.pinned : Pinned := { name := "ytnbcphofimicdaa", sum := "51addb050c4d66641c1852d2c3259b6223513689a76ebfa8a0501eb08c0159ef", checked := Try.checked }
namespace Rows
def none {H : Type} : Left H := { results := [], args := [] }

/-- 'needlestorelaw04.RsCodes': WHATEVER THE INPUT: true; the input reads as it did. -/
def rsCodesSpec : ChangeSpec := { name := "rsCodes", fn := fun _ => fun
  | [d1, d2] => { results := [.lit (.bool true)], args := [d1, d2] }
  | _ => none }
def rsCodesRow : OpenClaim := { program := "ytnbcphofimicdaa", sum := "51addb050c4d66641c1852d2c3259b6223513689a76ebfa8a0501eb08c0159ef", func := "needlestore/needlestorelaw04.RsCodes", spec := "rsCodes", apart := false }
def RsCodesSaid : Prop := rsCodesRow.holds Try.pinned (OpenSpec.ofChange rsCodesSpec)

/-- ITS FALSE NEIGHBOUR: 'it returns false'. Refute it at one input. -/
def rsCodesWrong : ChangeSpec := { name := "rsCodes", fn := fun _ => fun
  | [d1, d2] => { results := [.lit (.bool false)], args := [d1, d2] }
  | _ => none }
def RsCodesWrongFalsely : Prop := rsCodesRow.holds Try.pinned (OpenSpec.ofChange rsCodesWrong)

/-- 'needlestorelaw04.RsRestores': WHATEVER THE INPUT: true; the input reads as it did. -/
def rsRestoresSpec : ChangeSpec := { name := "rsRestores", fn := fun _ => fun
  | [d1, d2, d3, d4] => { results := [.lit (.bool true)], args := [d1, d2, d3, d4] }
  | _ => none }
def rsRestoresRow : OpenClaim := { program := "ytnbcphofimicdaa", sum := "51addb050c4d66641c1852d2c3259b6223513689a76ebfa8a0501eb08c0159ef", func := "needlestore/needlestorelaw04.RsRestores", spec := "rsRestores", apart := false }
def RsRestoresSaid : Prop := rsRestoresRow.holds Try.pinned (OpenSpec.ofChange rsRestoresSpec)

/-- ITS FALSE NEIGHBOUR: 'it returns false'. Refute it at one input. -/
def rsRestoresWrong : ChangeSpec := { name := "rsRestores", fn := fun _ => fun
  | [d1, d2, d3, d4] => { results := [.lit (.bool false)], args := [d1, d2, d3, d4] }
  | _ => none }
def RsRestoresWrongFalsely : Prop := rsRestoresRow.holds Try.pinned (OpenSpec.ofChange rsRestoresWrong)

/-- 'needlestorelaw04.RsTooFew': WHATEVER THE INPUT: true; the input reads as it did. -/
def rsTooFewSpec : ChangeSpec := { name := "rsTooFew", fn := fun _ => fun
  | [d1, d2, d3] => { results := [.lit (.bool true)], args := [d1, d2, d3] }
  | _ => none }
def rsTooFewRow : OpenClaim := { program := "ytnbcphofimicdaa", sum := "51addb050c4d66641c1852d2c3259b6223513689a76ebfa8a0501eb08c0159ef", func := "needlestore/needlestorelaw04.RsTooFew", spec := "rsTooFew", apart := false }
def RsTooFewSaid : Prop := rsTooFewRow.holds Try.pinned (OpenSpec.ofChange rsTooFewSpec)

/-- ITS FALSE NEIGHBOUR: 'it returns false'. Refute it at one input. -/
def rsTooFewWrong : ChangeSpec := { name := "rsTooFew", fn := fun _ => fun
  | [d1, d2, d3] => { results := [.lit (.bool false)], args := [d1, d2, d3] }
  | _ => none }
def RsTooFewWrongFalsely : Prop := rsTooFewRow.holds Try.pinned (OpenSpec.ofChange rsTooFewWrong)

/-- 'needlestorelaw04.RsLinear': WHATEVER THE INPUT: true; the input reads as it did. -/
def rsLinearSpec : ChangeSpec := { name := "rsLinear", fn := fun _ => fun
  | [d1, d2, d3] => { results := [.lit (.bool true)], args := [d1, d2, d3] }
  | _ => none }
def rsLinearRow : OpenClaim := { program := "ytnbcphofimicdaa", sum := "51addb050c4d66641c1852d2c3259b6223513689a76ebfa8a0501eb08c0159ef", func := "needlestore/needlestorelaw04.RsLinear", spec := "rsLinear", apart := false }
def RsLinearSaid : Prop := rsLinearRow.holds Try.pinned (OpenSpec.ofChange rsLinearSpec)

/-- ITS FALSE NEIGHBOUR: 'it returns false'. Refute it at one input. -/
def rsLinearWrong : ChangeSpec := { name := "rsLinear", fn := fun _ => fun
  | [d1, d2, d3] => { results := [.lit (.bool false)], args := [d1, d2, d3] }
  | _ => none }
def RsLinearWrongFalsely : Prop := rsLinearRow.holds Try.pinned (OpenSpec.ofChange rsLinearWrong)

/-- 'needlestorelaw04.RsEncodes': WHATEVER THE INPUT: true; the input reads as it did. -/
def rsEncodesSpec : ChangeSpec := { name := "rsEncodes", fn := fun _ => fun
  | [d1, d2, d3, d4] => { results := [.lit (.bool true)], args := [d1, d2, d3, d4] }
  | _ => none }
def rsEncodesRow : OpenClaim := { program := "ytnbcphofimicdaa", sum := "51addb050c4d66641c1852d2c3259b6223513689a76ebfa8a0501eb08c0159ef", func := "needlestore/needlestorelaw04.RsEncodes", spec := "rsEncodes", apart := false }
def RsEncodesSaid : Prop := rsEncodesRow.holds Try.pinned (OpenSpec.ofChange rsEncodesSpec)

/-- ITS FALSE NEIGHBOUR: 'it returns false'. Refute it at one input. -/
def rsEncodesWrong : ChangeSpec := { name := "rsEncodes", fn := fun _ => fun
  | [d1, d2, d3, d4] => { results := [.lit (.bool false)], args := [d1, d2, d3, d4] }
  | _ => none }
def RsEncodesWrongFalsely : Prop := rsEncodesRow.holds Try.pinned (OpenSpec.ofChange rsEncodesWrong)

/-- 'needlestorelaw04.RsAnyFour': WHATEVER THE INPUT: true; the input reads as it did. -/
def rsAnyFourSpec : ChangeSpec := { name := "rsAnyFour", fn := fun _ => fun
  | [d1, d2, d3, d4, d5] => { results := [.lit (.bool true)], args := [d1, d2, d3, d4, d5] }
  | _ => none }
def rsAnyFourRow : OpenClaim := { program := "ytnbcphofimicdaa", sum := "51addb050c4d66641c1852d2c3259b6223513689a76ebfa8a0501eb08c0159ef", func := "needlestore/needlestorelaw04.RsAnyFour", spec := "rsAnyFour", apart := false }
def RsAnyFourSaid : Prop := rsAnyFourRow.holds Try.pinned (OpenSpec.ofChange rsAnyFourSpec)

/-- ITS FALSE NEIGHBOUR: 'it returns false'. Refute it at one input. -/
def rsAnyFourWrong : ChangeSpec := { name := "rsAnyFour", fn := fun _ => fun
  | [d1, d2, d3, d4, d5] => { results := [.lit (.bool false)], args := [d1, d2, d3, d4, d5] }
  | _ => none }
def RsAnyFourWrongFalsely : Prop := rsAnyFourRow.holds Try.pinned (OpenSpec.ofChange rsAnyFourWrong)

/-- 'needlestorelaw04.RsLocates': WHATEVER THE INPUT: true; the input reads as it did. -/
def rsLocatesSpec : ChangeSpec := { name := "rsLocates", fn := fun _ => fun
  | [d1, d2, d3, d4] => { results := [.lit (.bool true)], args := [d1, d2, d3, d4] }
  | _ => none }
def rsLocatesRow : OpenClaim := { program := "ytnbcphofimicdaa", sum := "51addb050c4d66641c1852d2c3259b6223513689a76ebfa8a0501eb08c0159ef", func := "needlestore/needlestorelaw04.RsLocates", spec := "rsLocates", apart := false }
def RsLocatesSaid : Prop := rsLocatesRow.holds Try.pinned (OpenSpec.ofChange rsLocatesSpec)

/-- ITS FALSE NEIGHBOUR: 'it returns false'. Refute it at one input. -/
def rsLocatesWrong : ChangeSpec := { name := "rsLocates", fn := fun _ => fun
  | [d1, d2, d3, d4] => { results := [.lit (.bool false)], args := [d1, d2, d3, d4] }
  | _ => none }
def RsLocatesWrongFalsely : Prop := rsLocatesRow.holds Try.pinned (OpenSpec.ofChange rsLocatesWrong)

/-- 'needlestorelaw04.RsFinds': WHATEVER THE INPUT: true; the input reads as it did. -/
def rsFindsSpec : ChangeSpec := { name := "rsFinds", fn := fun _ => fun
  | [d1, d2, d3, d4] => { results := [.lit (.bool true)], args := [d1, d2, d3, d4] }
  | _ => none }
def rsFindsRow : OpenClaim := { program := "ytnbcphofimicdaa", sum := "51addb050c4d66641c1852d2c3259b6223513689a76ebfa8a0501eb08c0159ef", func := "needlestore/needlestorelaw04.RsFinds", spec := "rsFinds", apart := false }
def RsFindsSaid : Prop := rsFindsRow.holds Try.pinned (OpenSpec.ofChange rsFindsSpec)

/-- ITS FALSE NEIGHBOUR: 'it returns false'. Refute it at one input. -/
def rsFindsWrong : ChangeSpec := { name := "rsFinds", fn := fun _ => fun
  | [d1, d2, d3, d4] => { results := [.lit (.bool false)], args := [d1, d2, d3, d4] }
  | _ => none }
def RsFindsWrongFalsely : Prop := rsFindsRow.holds Try.pinned (OpenSpec.ofChange rsFindsWrong)

/- THE SECOND FORM. 'bulk': how many values and letters a reading holds, each counted each time it is reached (what is shared counts as often as it is met; a slice's spare places count too). A statement '..UptoSaid' is the law's where the arguments, and the package variables that the reading takes, are together of bulk at most 1048576: NARROWER than '..Said'. Prove '..Said' where nothing that the law and all that it calls make is longer than what came in: it says more and counts as full. Else prove '..UptoSaid'. A law counts once. -/
mutual
def uptoBulk {H : Type} : DataW H → Nat
  | .lit (.string bytes) => bytes.length + 1
  | .lit _ => 1
  | .nil => 1
  | .ptr d => uptoBulk d + 1
  | .slice elems spare => uptoBulkAll elems + uptoBulkAll spare + 1
  | .agg parts => uptoBulkAll parts + 1
  | .iface _ d => uptoBulk d + 1
  | .map entries => uptoBulkEntries entries + 1
  | .held _ => 1
def uptoBulkAll {H : Type} : List (DataW H) → Nat
  | [] => 0
  | d :: r => uptoBulk d + uptoBulkAll r
def uptoBulkEntries {H : Type} : List (Lit × DataW H) → Nat
  | [] => 0
  | x :: r => uptoBulkEntry x + uptoBulkEntries r
def uptoBulkEntry {H : Type} : Lit × DataW H → Nat
  | (.string bytes, d) => bytes.length + uptoBulk d + 1
  | (_, d) => uptoBulk d + 1
 end
def uptoSmall : (H : Type) → List (DataW H) → Bool := fun _ ds => decide (uptoBulkAll ds ≤ 1048576)
def OpenSpec.upto (s : _root_.Go.ChangeSpec) : _root_.Go.OpenSpec := { _root_.Go.OpenSpec.ofChange s with cond := some uptoSmall }

/-- 'needlestorelaw04.RsCodes', WHERE WHAT IT READS IS OF BULK AT MOST 1048576: true; the input reads as it did. -/
def rsCodesUptoRow : OpenClaim := { program := "ytnbcphofimicdaa", sum := "51addb050c4d66641c1852d2c3259b6223513689a76ebfa8a0501eb08c0159ef", func := "needlestore/needlestorelaw04.RsCodes", spec := "rsCodes", apart := false, narrowed := true }
def RsCodesUptoSaid : Prop := rsCodesUptoRow.holds Try.pinned (OpenSpec.upto rsCodesSpec)

/-- 'needlestorelaw04.RsRestores', WHERE WHAT IT READS IS OF BULK AT MOST 1048576: true; the input reads as it did. -/
def rsRestoresUptoRow : OpenClaim := { program := "ytnbcphofimicdaa", sum := "51addb050c4d66641c1852d2c3259b6223513689a76ebfa8a0501eb08c0159ef", func := "needlestore/needlestorelaw04.RsRestores", spec := "rsRestores", apart := false, narrowed := true }
def RsRestoresUptoSaid : Prop := rsRestoresUptoRow.holds Try.pinned (OpenSpec.upto rsRestoresSpec)

/-- 'needlestorelaw04.RsTooFew', WHERE WHAT IT READS IS OF BULK AT MOST 1048576: true; the input reads as it did. -/
def rsTooFewUptoRow : OpenClaim := { program := "ytnbcphofimicdaa", sum := "51addb050c4d66641c1852d2c3259b6223513689a76ebfa8a0501eb08c0159ef", func := "needlestore/needlestorelaw04.RsTooFew", spec := "rsTooFew", apart := false, narrowed := true }
def RsTooFewUptoSaid : Prop := rsTooFewUptoRow.holds Try.pinned (OpenSpec.upto rsTooFewSpec)

/-- 'needlestorelaw04.RsLinear', WHERE WHAT IT READS IS OF BULK AT MOST 1048576: true; the input reads as it did. -/
def rsLinearUptoRow : OpenClaim := { program := "ytnbcphofimicdaa", sum := "51addb050c4d66641c1852d2c3259b6223513689a76ebfa8a0501eb08c0159ef", func := "needlestore/needlestorelaw04.RsLinear", spec := "rsLinear", apart := false, narrowed := true }
def RsLinearUptoSaid : Prop := rsLinearUptoRow.holds Try.pinned (OpenSpec.upto rsLinearSpec)

/-- 'needlestorelaw04.RsEncodes', WHERE WHAT IT READS IS OF BULK AT MOST 1048576: true; the input reads as it did. -/
def rsEncodesUptoRow : OpenClaim := { program := "ytnbcphofimicdaa", sum := "51addb050c4d66641c1852d2c3259b6223513689a76ebfa8a0501eb08c0159ef", func := "needlestore/needlestorelaw04.RsEncodes", spec := "rsEncodes", apart := false, narrowed := true }
def RsEncodesUptoSaid : Prop := rsEncodesUptoRow.holds Try.pinned (OpenSpec.upto rsEncodesSpec)

/-- 'needlestorelaw04.RsAnyFour', WHERE WHAT IT READS IS OF BULK AT MOST 1048576: true; the input reads as it did. -/
def rsAnyFourUptoRow : OpenClaim := { program := "ytnbcphofimicdaa", sum := "51addb050c4d66641c1852d2c3259b6223513689a76ebfa8a0501eb08c0159ef", func := "needlestore/needlestorelaw04.RsAnyFour", spec := "rsAnyFour", apart := false, narrowed := true }
def RsAnyFourUptoSaid : Prop := rsAnyFourUptoRow.holds Try.pinned (OpenSpec.upto rsAnyFourSpec)

/-- 'needlestorelaw04.RsLocates', WHERE WHAT IT READS IS OF BULK AT MOST 1048576: true; the input reads as it did. -/
def rsLocatesUptoRow : OpenClaim := { program := "ytnbcphofimicdaa", sum := "51addb050c4d66641c1852d2c3259b6223513689a76ebfa8a0501eb08c0159ef", func := "needlestore/needlestorelaw04.RsLocates", spec := "rsLocates", apart := false, narrowed := true }
def RsLocatesUptoSaid : Prop := rsLocatesUptoRow.holds Try.pinned (OpenSpec.upto rsLocatesSpec)

/-- 'needlestorelaw04.RsFinds', WHERE WHAT IT READS IS OF BULK AT MOST 1048576: true; the input reads as it did. -/
def rsFindsUptoRow : OpenClaim := { program := "ytnbcphofimicdaa", sum := "51addb050c4d66641c1852d2c3259b6223513689a76ebfa8a0501eb08c0159ef", func := "needlestore/needlestorelaw04.RsFinds", spec := "rsFinds", apart := false, narrowed := true }
def RsFindsUptoSaid : Prop := rsFindsUptoRow.holds Try.pinned (OpenSpec.upto rsFindsSpec)

end Rows
end Go.Proofs.Ytnbcphofimicdaa

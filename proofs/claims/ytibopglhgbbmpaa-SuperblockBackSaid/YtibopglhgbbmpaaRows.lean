/-
  No cell of these rows narrows 'for every input' (looked for: loops, veiled, ifaces, maps, wideKeys, modest, calm, conditions, laid).
  DERIVED. THE GIVEN ROWS OF THIS SEAT. 16 by the template 'for every input the law returns true; each argument reads behind the call as it read before'; 0 by the template 'total and deterministic' (their statements: YtibopglhgbbmpaaTotals.lean).
  GIVEN WITH THE SEED: the statements are not yours to turn. If you find one false, say at which input.
  Laid BY PROGRAM, IN A SANDBOX (cutbox-rows.mjs): the forced cells as the released guide's own fill.sh prints them over the translation 55b3998d695d6eaa… (all of the seat's roots in one cut). By AI agents, Wed Nov 11 2026. No macro, syntax, notation, axiom, sorry.
-/
import Derived.Test.YtibopglhgbbmpaaChecked
import GoSem.Claim
import GoSem.ClaimJoined
import GoSem.ClaimMapViews
import Derived.JoinedTies
import Derived.KernelRfl
namespace Go.Proofs.Ytibopglhgbbmpaa
/- THE CELL 'sum', in the pinned program and in every row, IS THE sha256 OF THE DUMP (.gsa) THAT YtibopglhgbbmpaaProg.lean LOADS. Nothing in Lean hashes anything: it is a label: what it is worth is what the hold of that sum in a sandbox is worth. -/
noncomputable def Try.pinned : Pinned := { name := "ytibopglhgbbmpaa", sum := "55b3998d695d6eaaf28d3e19f5b333bdca28048000031eec7c07825cd71d5cd9", checked := Try.checked }
namespace Rows
def none {H : Type} : Left H := { results := [], args := [] }

/-- 'needlestorelaw14.JournalCodes': WHATEVER THE INPUT: true; the input reads as it did. -/
def journalCodesSpec : ChangeSpec := { name := "journalCodes", fn := fun _ => fun
  | [d1, d2, d3, d4] => { results := [.lit (.bool true)], args := [d1, d2, d3, d4] }
  | _ => none }
def journalCodesRow : OpenClaim := { program := "ytibopglhgbbmpaa", sum := "55b3998d695d6eaaf28d3e19f5b333bdca28048000031eec7c07825cd71d5cd9", func := "needlestore/needlestorelaw14.JournalCodes", spec := "journalCodes", apart := false }
def JournalCodesSaid : Prop := journalCodesRow.holds Try.pinned (OpenSpec.ofChange journalCodesSpec)

/-- ITS FALSE NEIGHBOUR: 'it returns false'. Refute it at one input. -/
def journalCodesWrong : ChangeSpec := { name := "journalCodes", fn := fun _ => fun
  | [d1, d2, d3, d4] => { results := [.lit (.bool false)], args := [d1, d2, d3, d4] }
  | _ => none }
def JournalCodesWrongFalsely : Prop := journalCodesRow.holds Try.pinned (OpenSpec.ofChange journalCodesWrong)

/-- 'needlestorelaw14.JournalTorn': WHATEVER THE INPUT: true; the input reads as it did. -/
def journalTornSpec : ChangeSpec := { name := "journalTorn", fn := fun _ => fun
  | [d1, d2] => { results := [.lit (.bool true)], args := [d1, d2] }
  | _ => none }
def journalTornRow : OpenClaim := { program := "ytibopglhgbbmpaa", sum := "55b3998d695d6eaaf28d3e19f5b333bdca28048000031eec7c07825cd71d5cd9", func := "needlestore/needlestorelaw14.JournalTorn", spec := "journalTorn", apart := false }
def JournalTornSaid : Prop := journalTornRow.holds Try.pinned (OpenSpec.ofChange journalTornSpec)

/-- ITS FALSE NEIGHBOUR: 'it returns false'. Refute it at one input. -/
def journalTornWrong : ChangeSpec := { name := "journalTorn", fn := fun _ => fun
  | [d1, d2] => { results := [.lit (.bool false)], args := [d1, d2] }
  | _ => none }
def JournalTornWrongFalsely : Prop := journalTornRow.holds Try.pinned (OpenSpec.ofChange journalTornWrong)

/-- 'needlestorelaw14.JournalJoins': WHATEVER THE INPUT: true; the input reads as it did. -/
def journalJoinsSpec : ChangeSpec := { name := "journalJoins", fn := fun _ => fun
  | [d1, d2] => { results := [.lit (.bool true)], args := [d1, d2] }
  | _ => none }
def journalJoinsRow : OpenClaim := { program := "ytibopglhgbbmpaa", sum := "55b3998d695d6eaaf28d3e19f5b333bdca28048000031eec7c07825cd71d5cd9", func := "needlestore/needlestorelaw14.JournalJoins", spec := "journalJoins", apart := false }
def JournalJoinsSaid : Prop := journalJoinsRow.holds Try.pinned (OpenSpec.ofChange journalJoinsSpec)

/-- ITS FALSE NEIGHBOUR: 'it returns false'. Refute it at one input. -/
def journalJoinsWrong : ChangeSpec := { name := "journalJoins", fn := fun _ => fun
  | [d1, d2] => { results := [.lit (.bool false)], args := [d1, d2] }
  | _ => none }
def JournalJoinsWrongFalsely : Prop := journalJoinsRow.holds Try.pinned (OpenSpec.ofChange journalJoinsWrong)

/-- 'needlestorelaw14.JournalBursts': WHATEVER THE INPUT: true; the input reads as it did. -/
def journalBurstsSpec : ChangeSpec := { name := "journalBursts", fn := fun _ => fun
  | [d1, d2, d3, d4] => { results := [.lit (.bool true)], args := [d1, d2, d3, d4] }
  | _ => none }
def journalBurstsRow : OpenClaim := { program := "ytibopglhgbbmpaa", sum := "55b3998d695d6eaaf28d3e19f5b333bdca28048000031eec7c07825cd71d5cd9", func := "needlestore/needlestorelaw14.JournalBursts", spec := "journalBursts", apart := false }
def JournalBurstsSaid : Prop := journalBurstsRow.holds Try.pinned (OpenSpec.ofChange journalBurstsSpec)

/-- ITS FALSE NEIGHBOUR: 'it returns false'. Refute it at one input. -/
def journalBurstsWrong : ChangeSpec := { name := "journalBursts", fn := fun _ => fun
  | [d1, d2, d3, d4] => { results := [.lit (.bool false)], args := [d1, d2, d3, d4] }
  | _ => none }
def JournalBurstsWrongFalsely : Prop := journalBurstsRow.holds Try.pinned (OpenSpec.ofChange journalBurstsWrong)

/-- 'needlestorelaw07.SuperblockEncodes': WHATEVER THE INPUT: true; the input reads as it did. -/
def superblockEncodesSpec : ChangeSpec := { name := "superblockEncodes", fn := fun _ => fun
  | [d] => { results := [.lit (.bool true)], args := [d] }
  | _ => none }
def superblockEncodesRow : OpenClaim := { program := "ytibopglhgbbmpaa", sum := "55b3998d695d6eaaf28d3e19f5b333bdca28048000031eec7c07825cd71d5cd9", func := "needlestore/needlestorelaw07.SuperblockEncodes", spec := "superblockEncodes", apart := false }
def SuperblockEncodesSaid : Prop := superblockEncodesRow.holds Try.pinned (OpenSpec.ofChange superblockEncodesSpec)

/-- ITS FALSE NEIGHBOUR: 'it returns false'. Refute it at one input. -/
def superblockEncodesWrong : ChangeSpec := { name := "superblockEncodes", fn := fun _ => fun
  | [d] => { results := [.lit (.bool false)], args := [d] }
  | _ => none }
def SuperblockEncodesWrongFalsely : Prop := superblockEncodesRow.holds Try.pinned (OpenSpec.ofChange superblockEncodesWrong)

/-- 'needlestorelaw07.SuperblockNext': WHATEVER THE INPUT: true; the input reads as it did. -/
def superblockNextSpec : ChangeSpec := { name := "superblockNext", fn := fun _ => fun
  | [d1, d2] => { results := [.lit (.bool true)], args := [d1, d2] }
  | _ => none }
def superblockNextRow : OpenClaim := { program := "ytibopglhgbbmpaa", sum := "55b3998d695d6eaaf28d3e19f5b333bdca28048000031eec7c07825cd71d5cd9", func := "needlestore/needlestorelaw07.SuperblockNext", spec := "superblockNext", apart := false }
def SuperblockNextSaid : Prop := superblockNextRow.holds Try.pinned (OpenSpec.ofChange superblockNextSpec)

/-- ITS FALSE NEIGHBOUR: 'it returns false'. Refute it at one input. -/
def superblockNextWrong : ChangeSpec := { name := "superblockNext", fn := fun _ => fun
  | [d1, d2] => { results := [.lit (.bool false)], args := [d1, d2] }
  | _ => none }
def SuperblockNextWrongFalsely : Prop := superblockNextRow.holds Try.pinned (OpenSpec.ofChange superblockNextWrong)

/-- 'needlestorelaw01.Crc32cSums': WHATEVER THE INPUT: true; the input reads as it did. -/
def crc32cSumsSpec : ChangeSpec := { name := "crc32cSums", fn := fun _ => fun
  | [d1, d2] => { results := [.lit (.bool true)], args := [d1, d2] }
  | _ => none }
def crc32cSumsRow : OpenClaim := { program := "ytibopglhgbbmpaa", sum := "55b3998d695d6eaaf28d3e19f5b333bdca28048000031eec7c07825cd71d5cd9", func := "needlestore/needlestorelaw01.Crc32cSums", spec := "crc32cSums", apart := false }
def Crc32cSumsSaid : Prop := crc32cSumsRow.holds Try.pinned (OpenSpec.ofChange crc32cSumsSpec)

/-- ITS FALSE NEIGHBOUR: 'it returns false'. Refute it at one input. -/
def crc32cSumsWrong : ChangeSpec := { name := "crc32cSums", fn := fun _ => fun
  | [d1, d2] => { results := [.lit (.bool false)], args := [d1, d2] }
  | _ => none }
def Crc32cSumsWrongFalsely : Prop := crc32cSumsRow.holds Try.pinned (OpenSpec.ofChange crc32cSumsWrong)

/-- 'needlestorelaw01.Crc32cExtends': WHATEVER THE INPUT: true; the input reads as it did. -/
def crc32cExtendsSpec : ChangeSpec := { name := "crc32cExtends", fn := fun _ => fun
  | [d1, d2] => { results := [.lit (.bool true)], args := [d1, d2] }
  | _ => none }
def crc32cExtendsRow : OpenClaim := { program := "ytibopglhgbbmpaa", sum := "55b3998d695d6eaaf28d3e19f5b333bdca28048000031eec7c07825cd71d5cd9", func := "needlestore/needlestorelaw01.Crc32cExtends", spec := "crc32cExtends", apart := false }
def Crc32cExtendsSaid : Prop := crc32cExtendsRow.holds Try.pinned (OpenSpec.ofChange crc32cExtendsSpec)

/-- ITS FALSE NEIGHBOUR: 'it returns false'. Refute it at one input. -/
def crc32cExtendsWrong : ChangeSpec := { name := "crc32cExtends", fn := fun _ => fun
  | [d1, d2] => { results := [.lit (.bool false)], args := [d1, d2] }
  | _ => none }
def Crc32cExtendsWrongFalsely : Prop := crc32cExtendsRow.holds Try.pinned (OpenSpec.ofChange crc32cExtendsWrong)

/-- 'needlestorelaw01.Crc32cCombines': WHATEVER THE INPUT: true; the input reads as it did. -/
def crc32cCombinesSpec : ChangeSpec := { name := "crc32cCombines", fn := fun _ => fun
  | [d1, d2, d3] => { results := [.lit (.bool true)], args := [d1, d2, d3] }
  | _ => none }
def crc32cCombinesRow : OpenClaim := { program := "ytibopglhgbbmpaa", sum := "55b3998d695d6eaaf28d3e19f5b333bdca28048000031eec7c07825cd71d5cd9", func := "needlestore/needlestorelaw01.Crc32cCombines", spec := "crc32cCombines", apart := false }
def Crc32cCombinesSaid : Prop := crc32cCombinesRow.holds Try.pinned (OpenSpec.ofChange crc32cCombinesSpec)

/-- ITS FALSE NEIGHBOUR: 'it returns false'. Refute it at one input. -/
def crc32cCombinesWrong : ChangeSpec := { name := "crc32cCombines", fn := fun _ => fun
  | [d1, d2, d3] => { results := [.lit (.bool false)], args := [d1, d2, d3] }
  | _ => none }
def Crc32cCombinesWrongFalsely : Prop := crc32cCombinesRow.holds Try.pinned (OpenSpec.ofChange crc32cCombinesWrong)

/-- 'needlestorelaw01.Crc32cJoins': WHATEVER THE INPUT: true; the input reads as it did. -/
def crc32cJoinsSpec : ChangeSpec := { name := "crc32cJoins", fn := fun _ => fun
  | [d1, d2] => { results := [.lit (.bool true)], args := [d1, d2] }
  | _ => none }
def crc32cJoinsRow : OpenClaim := { program := "ytibopglhgbbmpaa", sum := "55b3998d695d6eaaf28d3e19f5b333bdca28048000031eec7c07825cd71d5cd9", func := "needlestore/needlestorelaw01.Crc32cJoins", spec := "crc32cJoins", apart := false }
def Crc32cJoinsSaid : Prop := crc32cJoinsRow.holds Try.pinned (OpenSpec.ofChange crc32cJoinsSpec)

/-- ITS FALSE NEIGHBOUR: 'it returns false'. Refute it at one input. -/
def crc32cJoinsWrong : ChangeSpec := { name := "crc32cJoins", fn := fun _ => fun
  | [d1, d2] => { results := [.lit (.bool false)], args := [d1, d2] }
  | _ => none }
def Crc32cJoinsWrongFalsely : Prop := crc32cJoinsRow.holds Try.pinned (OpenSpec.ofChange crc32cJoinsWrong)

/-- 'needlestorelaw01.Crc32cAssociates': WHATEVER THE INPUT: true; the input reads as it did. -/
def crc32cAssociatesSpec : ChangeSpec := { name := "crc32cAssociates", fn := fun _ => fun
  | [d1, d2, d3, d4, d5] => { results := [.lit (.bool true)], args := [d1, d2, d3, d4, d5] }
  | _ => none }
def crc32cAssociatesRow : OpenClaim := { program := "ytibopglhgbbmpaa", sum := "55b3998d695d6eaaf28d3e19f5b333bdca28048000031eec7c07825cd71d5cd9", func := "needlestore/needlestorelaw01.Crc32cAssociates", spec := "crc32cAssociates", apart := false }
def Crc32cAssociatesSaid : Prop := crc32cAssociatesRow.holds Try.pinned (OpenSpec.ofChange crc32cAssociatesSpec)

/-- ITS FALSE NEIGHBOUR: 'it returns false'. Refute it at one input. -/
def crc32cAssociatesWrong : ChangeSpec := { name := "crc32cAssociates", fn := fun _ => fun
  | [d1, d2, d3, d4, d5] => { results := [.lit (.bool false)], args := [d1, d2, d3, d4, d5] }
  | _ => none }
def Crc32cAssociatesWrongFalsely : Prop := crc32cAssociatesRow.holds Try.pinned (OpenSpec.ofChange crc32cAssociatesWrong)

/-- 'needlestorelaw01.Crc32cLinear': WHATEVER THE INPUT: true; the input reads as it did. -/
def crc32cLinearSpec : ChangeSpec := { name := "crc32cLinear", fn := fun _ => fun
  | [d1, d2, d3] => { results := [.lit (.bool true)], args := [d1, d2, d3] }
  | _ => none }
def crc32cLinearRow : OpenClaim := { program := "ytibopglhgbbmpaa", sum := "55b3998d695d6eaaf28d3e19f5b333bdca28048000031eec7c07825cd71d5cd9", func := "needlestore/needlestorelaw01.Crc32cLinear", spec := "crc32cLinear", apart := false }
def Crc32cLinearSaid : Prop := crc32cLinearRow.holds Try.pinned (OpenSpec.ofChange crc32cLinearSpec)

/-- ITS FALSE NEIGHBOUR: 'it returns false'. Refute it at one input. -/
def crc32cLinearWrong : ChangeSpec := { name := "crc32cLinear", fn := fun _ => fun
  | [d1, d2, d3] => { results := [.lit (.bool false)], args := [d1, d2, d3] }
  | _ => none }
def Crc32cLinearWrongFalsely : Prop := crc32cLinearRow.holds Try.pinned (OpenSpec.ofChange crc32cLinearWrong)

/-- 'needlestorelaw01.Crc32cBursts': WHATEVER THE INPUT: true; the input reads as it did. -/
def crc32cBurstsSpec : ChangeSpec := { name := "crc32cBursts", fn := fun _ => fun
  | [d1, d2, d3] => { results := [.lit (.bool true)], args := [d1, d2, d3] }
  | _ => none }
def crc32cBurstsRow : OpenClaim := { program := "ytibopglhgbbmpaa", sum := "55b3998d695d6eaaf28d3e19f5b333bdca28048000031eec7c07825cd71d5cd9", func := "needlestore/needlestorelaw01.Crc32cBursts", spec := "crc32cBursts", apart := false }
def Crc32cBurstsSaid : Prop := crc32cBurstsRow.holds Try.pinned (OpenSpec.ofChange crc32cBurstsSpec)

/-- ITS FALSE NEIGHBOUR: 'it returns false'. Refute it at one input. -/
def crc32cBurstsWrong : ChangeSpec := { name := "crc32cBursts", fn := fun _ => fun
  | [d1, d2, d3] => { results := [.lit (.bool false)], args := [d1, d2, d3] }
  | _ => none }
def Crc32cBurstsWrongFalsely : Prop := crc32cBurstsRow.holds Try.pinned (OpenSpec.ofChange crc32cBurstsWrong)

/-- 'needlestorelaw07.SuperblockDecodes': WHATEVER THE INPUT: true; the input reads as it did. -/
def superblockDecodesSpec : ChangeSpec := { name := "superblockDecodes", fn := fun _ => fun
  | [d1, d2, d3, d4, d5] => { results := [.lit (.bool true)], args := [d1, d2, d3, d4, d5] }
  | _ => none }
def superblockDecodesRow : OpenClaim := { program := "ytibopglhgbbmpaa", sum := "55b3998d695d6eaaf28d3e19f5b333bdca28048000031eec7c07825cd71d5cd9", func := "needlestore/needlestorelaw07.SuperblockDecodes", spec := "superblockDecodes", apart := false }
def SuperblockDecodesSaid : Prop := superblockDecodesRow.holds Try.pinned (OpenSpec.ofChange superblockDecodesSpec)

/-- ITS FALSE NEIGHBOUR: 'it returns false'. Refute it at one input. -/
def superblockDecodesWrong : ChangeSpec := { name := "superblockDecodes", fn := fun _ => fun
  | [d1, d2, d3, d4, d5] => { results := [.lit (.bool false)], args := [d1, d2, d3, d4, d5] }
  | _ => none }
def SuperblockDecodesWrongFalsely : Prop := superblockDecodesRow.holds Try.pinned (OpenSpec.ofChange superblockDecodesWrong)

/-- 'needlestorelaw07.SuperblockBack': WHATEVER THE INPUT: true; the input reads as it did. -/
def superblockBackSpec : ChangeSpec := { name := "superblockBack", fn := fun _ => fun
  | [d1, d2] => { results := [.lit (.bool true)], args := [d1, d2] }
  | _ => none }
def superblockBackRow : OpenClaim := { program := "ytibopglhgbbmpaa", sum := "55b3998d695d6eaaf28d3e19f5b333bdca28048000031eec7c07825cd71d5cd9", func := "needlestore/needlestorelaw07.SuperblockBack", spec := "superblockBack", apart := false }
def SuperblockBackSaid : Prop := superblockBackRow.holds Try.pinned (OpenSpec.ofChange superblockBackSpec)

/-- ITS FALSE NEIGHBOUR: 'it returns false'. Refute it at one input. -/
def superblockBackWrong : ChangeSpec := { name := "superblockBack", fn := fun _ => fun
  | [d1, d2] => { results := [.lit (.bool false)], args := [d1, d2] }
  | _ => none }
def SuperblockBackWrongFalsely : Prop := superblockBackRow.holds Try.pinned (OpenSpec.ofChange superblockBackWrong)

/-- 'needlestorelaw07.SuperblockBursts': WHATEVER THE INPUT: true; the input reads as it did. -/
def superblockBurstsSpec : ChangeSpec := { name := "superblockBursts", fn := fun _ => fun
  | [d1, d2, d3] => { results := [.lit (.bool true)], args := [d1, d2, d3] }
  | _ => none }
def superblockBurstsRow : OpenClaim := { program := "ytibopglhgbbmpaa", sum := "55b3998d695d6eaaf28d3e19f5b333bdca28048000031eec7c07825cd71d5cd9", func := "needlestore/needlestorelaw07.SuperblockBursts", spec := "superblockBursts", apart := false }
def SuperblockBurstsSaid : Prop := superblockBurstsRow.holds Try.pinned (OpenSpec.ofChange superblockBurstsSpec)

/-- ITS FALSE NEIGHBOUR: 'it returns false'. Refute it at one input. -/
def superblockBurstsWrong : ChangeSpec := { name := "superblockBursts", fn := fun _ => fun
  | [d1, d2, d3] => { results := [.lit (.bool false)], args := [d1, d2, d3] }
  | _ => none }
def SuperblockBurstsWrongFalsely : Prop := superblockBurstsRow.holds Try.pinned (OpenSpec.ofChange superblockBurstsWrong)

/- THE SECOND FORM. 'bulk': how many values and letters a reading holds, each counted each time it is reached (what is shared counts as often as it is met; a slice's spare places count too). A statement '..UptoSaid' is the law's where the arguments, and the package variables that the reading takes, are together of bulk at most 1048576: NARROWER than '..Said'. Prove '..Said' where nothing that the law and all that it calls make is longer than what came in: it says more and counts as full. Else prove '..UptoSaid'. A law counts once. -/
mutual
def uptoBulk {H : Type} : DataW H → Nat
  | .lit (.string bytes) => bytes.length + 1
  | .lit _ => 1
  | .nil => 1
  | .ptr d => uptoBulk d + 1
  | .slice elems spare => uptoBulkAll elems + uptoBulkAll spare + 1
  | .agg parts => uptoBulkAll parts + 1
  | .iface _ d => uptoBulk d + 1
  | .map entries => uptoBulkEntries entries + 1
  | .held _ => 1
def uptoBulkAll {H : Type} : List (DataW H) → Nat
  | [] => 0
  | d :: r => uptoBulk d + uptoBulkAll r
def uptoBulkEntries {H : Type} : List (Lit × DataW H) → Nat
  | [] => 0
  | x :: r => uptoBulkEntry x + uptoBulkEntries r
def uptoBulkEntry {H : Type} : Lit × DataW H → Nat
  | (.string bytes, d) => bytes.length + uptoBulk d + 1
  | (_, d) => uptoBulk d + 1
 end
def uptoSmall : (H : Type) → List (DataW H) → Bool := fun _ ds => decide (uptoBulkAll ds ≤ 1048576)
def OpenSpec.upto (s : _root_.Go.ChangeSpec) : _root_.Go.OpenSpec := { _root_.Go.OpenSpec.ofChange s with cond := some uptoSmall }

/-- 'needlestorelaw14.JournalCodes', WHERE WHAT IT READS IS OF BULK AT MOST 1048576: true; the input reads as it did. -/
def journalCodesUptoRow : OpenClaim := { program := "ytibopglhgbbmpaa", sum := "55b3998d695d6eaaf28d3e19f5b333bdca28048000031eec7c07825cd71d5cd9", func := "needlestore/needlestorelaw14.JournalCodes", spec := "journalCodes", apart := false, narrowed := true }
def JournalCodesUptoSaid : Prop := journalCodesUptoRow.holds Try.pinned (OpenSpec.upto journalCodesSpec)

/-- 'needlestorelaw14.JournalTorn', WHERE WHAT IT READS IS OF BULK AT MOST 1048576: true; the input reads as it did. -/
def journalTornUptoRow : OpenClaim := { program := "ytibopglhgbbmpaa", sum := "55b3998d695d6eaaf28d3e19f5b333bdca28048000031eec7c07825cd71d5cd9", func := "needlestore/needlestorelaw14.JournalTorn", spec := "journalTorn", apart := false, narrowed := true }
def JournalTornUptoSaid : Prop := journalTornUptoRow.holds Try.pinned (OpenSpec.upto journalTornSpec)

/-- 'needlestorelaw14.JournalJoins', WHERE WHAT IT READS IS OF BULK AT MOST 1048576: true; the input reads as it did. -/
def journalJoinsUptoRow : OpenClaim := { program := "ytibopglhgbbmpaa", sum := "55b3998d695d6eaaf28d3e19f5b333bdca28048000031eec7c07825cd71d5cd9", func := "needlestore/needlestorelaw14.JournalJoins", spec := "journalJoins", apart := false, narrowed := true }
def JournalJoinsUptoSaid : Prop := journalJoinsUptoRow.holds Try.pinned (OpenSpec.upto journalJoinsSpec)

/-- 'needlestorelaw14.JournalBursts', WHERE WHAT IT READS IS OF BULK AT MOST 1048576: true; the input reads as it did. -/
def journalBurstsUptoRow : OpenClaim := { program := "ytibopglhgbbmpaa", sum := "55b3998d695d6eaaf28d3e19f5b333bdca28048000031eec7c07825cd71d5cd9", func := "needlestore/needlestorelaw14.JournalBursts", spec := "journalBursts", apart := false, narrowed := true }
def JournalBurstsUptoSaid : Prop := journalBurstsUptoRow.holds Try.pinned (OpenSpec.upto journalBurstsSpec)

/-- 'needlestorelaw07.SuperblockEncodes', WHERE WHAT IT READS IS OF BULK AT MOST 1048576: true; the input reads as it did. -/
def superblockEncodesUptoRow : OpenClaim := { program := "ytibopglhgbbmpaa", sum := "55b3998d695d6eaaf28d3e19f5b333bdca28048000031eec7c07825cd71d5cd9", func := "needlestore/needlestorelaw07.SuperblockEncodes", spec := "superblockEncodes", apart := false, narrowed := true }
def SuperblockEncodesUptoSaid : Prop := superblockEncodesUptoRow.holds Try.pinned (OpenSpec.upto superblockEncodesSpec)

/-- 'needlestorelaw07.SuperblockNext', WHERE WHAT IT READS IS OF BULK AT MOST 1048576: true; the input reads as it did. -/
def superblockNextUptoRow : OpenClaim := { program := "ytibopglhgbbmpaa", sum := "55b3998d695d6eaaf28d3e19f5b333bdca28048000031eec7c07825cd71d5cd9", func := "needlestore/needlestorelaw07.SuperblockNext", spec := "superblockNext", apart := false, narrowed := true }
def SuperblockNextUptoSaid : Prop := superblockNextUptoRow.holds Try.pinned (OpenSpec.upto superblockNextSpec)

/-- 'needlestorelaw01.Crc32cSums', WHERE WHAT IT READS IS OF BULK AT MOST 1048576: true; the input reads as it did. -/
def crc32cSumsUptoRow : OpenClaim := { program := "ytibopglhgbbmpaa", sum := "55b3998d695d6eaaf28d3e19f5b333bdca28048000031eec7c07825cd71d5cd9", func := "needlestore/needlestorelaw01.Crc32cSums", spec := "crc32cSums", apart := false, narrowed := true }
def Crc32cSumsUptoSaid : Prop := crc32cSumsUptoRow.holds Try.pinned (OpenSpec.upto crc32cSumsSpec)

/-- 'needlestorelaw01.Crc32cExtends', WHERE WHAT IT READS IS OF BULK AT MOST 1048576: true; the input reads as it did. -/
def crc32cExtendsUptoRow : OpenClaim := { program := "ytibopglhgbbmpaa", sum := "55b3998d695d6eaaf28d3e19f5b333bdca28048000031eec7c07825cd71d5cd9", func := "needlestore/needlestorelaw01.Crc32cExtends", spec := "crc32cExtends", apart := false, narrowed := true }
def Crc32cExtendsUptoSaid : Prop := crc32cExtendsUptoRow.holds Try.pinned (OpenSpec.upto crc32cExtendsSpec)

/-- 'needlestorelaw01.Crc32cCombines', WHERE WHAT IT READS IS OF BULK AT MOST 1048576: true; the input reads as it did. -/
def crc32cCombinesUptoRow : OpenClaim := { program := "ytibopglhgbbmpaa", sum := "55b3998d695d6eaaf28d3e19f5b333bdca28048000031eec7c07825cd71d5cd9", func := "needlestore/needlestorelaw01.Crc32cCombines", spec := "crc32cCombines", apart := false, narrowed := true }
def Crc32cCombinesUptoSaid : Prop := crc32cCombinesUptoRow.holds Try.pinned (OpenSpec.upto crc32cCombinesSpec)

/-- 'needlestorelaw01.Crc32cJoins', WHERE WHAT IT READS IS OF BULK AT MOST 1048576: true; the input reads as it did. -/
def crc32cJoinsUptoRow : OpenClaim := { program := "ytibopglhgbbmpaa", sum := "55b3998d695d6eaaf28d3e19f5b333bdca28048000031eec7c07825cd71d5cd9", func := "needlestore/needlestorelaw01.Crc32cJoins", spec := "crc32cJoins", apart := false, narrowed := true }
def Crc32cJoinsUptoSaid : Prop := crc32cJoinsUptoRow.holds Try.pinned (OpenSpec.upto crc32cJoinsSpec)

/-- 'needlestorelaw01.Crc32cAssociates', WHERE WHAT IT READS IS OF BULK AT MOST 1048576: true; the input reads as it did. -/
def crc32cAssociatesUptoRow : OpenClaim := { program := "ytibopglhgbbmpaa", sum := "55b3998d695d6eaaf28d3e19f5b333bdca28048000031eec7c07825cd71d5cd9", func := "needlestore/needlestorelaw01.Crc32cAssociates", spec := "crc32cAssociates", apart := false, narrowed := true }
def Crc32cAssociatesUptoSaid : Prop := crc32cAssociatesUptoRow.holds Try.pinned (OpenSpec.upto crc32cAssociatesSpec)

/-- 'needlestorelaw01.Crc32cLinear', WHERE WHAT IT READS IS OF BULK AT MOST 1048576: true; the input reads as it did. -/
def crc32cLinearUptoRow : OpenClaim := { program := "ytibopglhgbbmpaa", sum := "55b3998d695d6eaaf28d3e19f5b333bdca28048000031eec7c07825cd71d5cd9", func := "needlestore/needlestorelaw01.Crc32cLinear", spec := "crc32cLinear", apart := false, narrowed := true }
def Crc32cLinearUptoSaid : Prop := crc32cLinearUptoRow.holds Try.pinned (OpenSpec.upto crc32cLinearSpec)

/-- 'needlestorelaw01.Crc32cBursts', WHERE WHAT IT READS IS OF BULK AT MOST 1048576: true; the input reads as it did. -/
def crc32cBurstsUptoRow : OpenClaim := { program := "ytibopglhgbbmpaa", sum := "55b3998d695d6eaaf28d3e19f5b333bdca28048000031eec7c07825cd71d5cd9", func := "needlestore/needlestorelaw01.Crc32cBursts", spec := "crc32cBursts", apart := false, narrowed := true }
def Crc32cBurstsUptoSaid : Prop := crc32cBurstsUptoRow.holds Try.pinned (OpenSpec.upto crc32cBurstsSpec)

/-- 'needlestorelaw07.SuperblockDecodes', WHERE WHAT IT READS IS OF BULK AT MOST 1048576: true; the input reads as it did. -/
def superblockDecodesUptoRow : OpenClaim := { program := "ytibopglhgbbmpaa", sum := "55b3998d695d6eaaf28d3e19f5b333bdca28048000031eec7c07825cd71d5cd9", func := "needlestore/needlestorelaw07.SuperblockDecodes", spec := "superblockDecodes", apart := false, narrowed := true }
def SuperblockDecodesUptoSaid : Prop := superblockDecodesUptoRow.holds Try.pinned (OpenSpec.upto superblockDecodesSpec)

/-- 'needlestorelaw07.SuperblockBack', WHERE WHAT IT READS IS OF BULK AT MOST 1048576: true; the input reads as it did. -/
def superblockBackUptoRow : OpenClaim := { program := "ytibopglhgbbmpaa", sum := "55b3998d695d6eaaf28d3e19f5b333bdca28048000031eec7c07825cd71d5cd9", func := "needlestore/needlestorelaw07.SuperblockBack", spec := "superblockBack", apart := false, narrowed := true }
def SuperblockBackUptoSaid : Prop := superblockBackUptoRow.holds Try.pinned (OpenSpec.upto superblockBackSpec)

/-- 'needlestorelaw07.SuperblockBursts', WHERE WHAT IT READS IS OF BULK AT MOST 1048576: true; the input reads as it did. -/
def superblockBurstsUptoRow : OpenClaim := { program := "ytibopglhgbbmpaa", sum := "55b3998d695d6eaaf28d3e19f5b333bdca28048000031eec7c07825cd71d5cd9", func := "needlestore/needlestorelaw07.SuperblockBursts", spec := "superblockBursts", apart := false, narrowed := true }
def SuperblockBurstsUptoSaid : Prop := superblockBurstsUptoRow.holds Try.pinned (OpenSpec.upto superblockBurstsSpec)

end Rows
end Go.Proofs.Ytibopglhgbbmpaa

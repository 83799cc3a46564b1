/-
  No cell of these rows narrows 'for every input' (looked for: loops, veiled, ifaces, maps, wideKeys, modest, calm, conditions, laid).
  DERIVED. THE GIVEN ROWS OF THIS SEAT. 9 by the template 'for every input the law returns true; each argument reads behind the call as it read before'; 0 by the template 'total and deterministic' (their statements: YtnkahhipochakaaTotals.lean).
  GIVEN WITH THE SEED: the statements are not yours to turn. If you find one false, say at which input.
  Laid BY PROGRAM, IN A SANDBOX (cutbox-rows.mjs): the forced cells as the released guide's own fill.sh prints them over the translation 7b683478095391e9… (all of the seat's roots in one cut). By AI agents, Wed Nov 11 2026. No macro, syntax, notation, axiom, sorry.
-/
import Derived.Test.YtnkahhipochakaaChecked
import GoSem.Claim
import GoSem.ClaimJoined
import GoSem.ClaimMapViews
import Derived.JoinedTies
import Derived.KernelRfl
namespace Go.Proofs.Ytnkahhipochakaa
/- THE CELL 'sum', in the pinned program and in every row, IS THE sha256 OF THE DUMP (.gsa) THAT YtnkahhipochakaaProg.lean LOADS. Nothing in Lean hashes anything: it is a label: what it is worth is what the hold of that sum in a sandbox is worth. -/
noncomputable def Try.pinned : Pinned := { name := "ytnkahhipochakaa", sum := "7b683478095391e9482236e1b7c28d9e8f1491a7e8e8ce6d8be95bc6d82a61ee", checked := Try.checked }
namespace Rows
def none {H : Type} : Left H := { results := [], args := [] }

/-- 'needlestorelaw03.GfmatrixMakes': WHATEVER THE INPUT: true; the input reads as it did. -/
def gfmatrixMakesSpec : ChangeSpec := { name := "gfmatrixMakes", fn := fun _ => fun
  | [d1, d2, d3] => { results := [.lit (.bool true)], args := [d1, d2, d3] }
  | _ => none }
def gfmatrixMakesRow : OpenClaim := { program := "ytnkahhipochakaa", sum := "7b683478095391e9482236e1b7c28d9e8f1491a7e8e8ce6d8be95bc6d82a61ee", func := "needlestore/needlestorelaw03.GfmatrixMakes", spec := "gfmatrixMakes", apart := false }
def GfmatrixMakesSaid : Prop := gfmatrixMakesRow.holds Try.pinned (OpenSpec.ofChange gfmatrixMakesSpec)

/-- ITS FALSE NEIGHBOUR: 'it returns false'. Refute it at one input. -/
def gfmatrixMakesWrong : ChangeSpec := { name := "gfmatrixMakes", fn := fun _ => fun
  | [d1, d2, d3] => { results := [.lit (.bool false)], args := [d1, d2, d3] }
  | _ => none }
def GfmatrixMakesWrongFalsely : Prop := gfmatrixMakesRow.holds Try.pinned (OpenSpec.ofChange gfmatrixMakesWrong)

/-- 'needlestorelaw03.GfmatrixInverts': WHATEVER THE INPUT: true; the input reads as it did. -/
def gfmatrixInvertsSpec : ChangeSpec := { name := "gfmatrixInverts", fn := fun _ => fun
  | [d] => { results := [.lit (.bool true)], args := [d] }
  | _ => none }
def gfmatrixInvertsRow : OpenClaim := { program := "ytnkahhipochakaa", sum := "7b683478095391e9482236e1b7c28d9e8f1491a7e8e8ce6d8be95bc6d82a61ee", func := "needlestore/needlestorelaw03.GfmatrixInverts", spec := "gfmatrixInverts", apart := false }
def GfmatrixInvertsSaid : Prop := gfmatrixInvertsRow.holds Try.pinned (OpenSpec.ofChange gfmatrixInvertsSpec)

/-- ITS FALSE NEIGHBOUR: 'it returns false'. Refute it at one input. -/
def gfmatrixInvertsWrong : ChangeSpec := { name := "gfmatrixInverts", fn := fun _ => fun
  | [d] => { results := [.lit (.bool false)], args := [d] }
  | _ => none }
def GfmatrixInvertsWrongFalsely : Prop := gfmatrixInvertsRow.holds Try.pinned (OpenSpec.ofChange gfmatrixInvertsWrong)

/-- 'needlestorelaw03.GfmatrixSingular': WHATEVER THE INPUT: true; the input reads as it did. -/
def gfmatrixSingularSpec : ChangeSpec := { name := "gfmatrixSingular", fn := fun _ => fun
  | [d1, d2, d3, d4, d5] => { results := [.lit (.bool true)], args := [d1, d2, d3, d4, d5] }
  | _ => none }
def gfmatrixSingularRow : OpenClaim := { program := "ytnkahhipochakaa", sum := "7b683478095391e9482236e1b7c28d9e8f1491a7e8e8ce6d8be95bc6d82a61ee", func := "needlestore/needlestorelaw03.GfmatrixSingular", spec := "gfmatrixSingular", apart := false }
def GfmatrixSingularSaid : Prop := gfmatrixSingularRow.holds Try.pinned (OpenSpec.ofChange gfmatrixSingularSpec)

/-- ITS FALSE NEIGHBOUR: 'it returns false'. Refute it at one input. -/
def gfmatrixSingularWrong : ChangeSpec := { name := "gfmatrixSingular", fn := fun _ => fun
  | [d1, d2, d3, d4, d5] => { results := [.lit (.bool false)], args := [d1, d2, d3, d4, d5] }
  | _ => none }
def GfmatrixSingularWrongFalsely : Prop := gfmatrixSingularRow.holds Try.pinned (OpenSpec.ofChange gfmatrixSingularWrong)

/-- 'needlestorelaw03.GfmatrixApplies': WHATEVER THE INPUT: true; the input reads as it did. -/
def gfmatrixAppliesSpec : ChangeSpec := { name := "gfmatrixApplies", fn := fun _ => fun
  | [d1, d2] => { results := [.lit (.bool true)], args := [d1, d2] }
  | _ => none }
def gfmatrixAppliesRow : OpenClaim := { program := "ytnkahhipochakaa", sum := "7b683478095391e9482236e1b7c28d9e8f1491a7e8e8ce6d8be95bc6d82a61ee", func := "needlestore/needlestorelaw03.GfmatrixApplies", spec := "gfmatrixApplies", apart := false }
def GfmatrixAppliesSaid : Prop := gfmatrixAppliesRow.holds Try.pinned (OpenSpec.ofChange gfmatrixAppliesSpec)

/-- ITS FALSE NEIGHBOUR: 'it returns false'. Refute it at one input. -/
def gfmatrixAppliesWrong : ChangeSpec := { name := "gfmatrixApplies", fn := fun _ => fun
  | [d1, d2] => { results := [.lit (.bool false)], args := [d1, d2] }
  | _ => none }
def GfmatrixAppliesWrongFalsely : Prop := gfmatrixAppliesRow.holds Try.pinned (OpenSpec.ofChange gfmatrixAppliesWrong)

/-- 'needlestorelaw03.GfmatrixRows': WHATEVER THE INPUT: true; the input reads as it did. -/
def gfmatrixRowsSpec : ChangeSpec := { name := "gfmatrixRows", fn := fun _ => fun
  | [d1, d2] => { results := [.lit (.bool true)], args := [d1, d2] }
  | _ => none }
def gfmatrixRowsRow : OpenClaim := { program := "ytnkahhipochakaa", sum := "7b683478095391e9482236e1b7c28d9e8f1491a7e8e8ce6d8be95bc6d82a61ee", func := "needlestore/needlestorelaw03.GfmatrixRows", spec := "gfmatrixRows", apart := false }
def GfmatrixRowsSaid : Prop := gfmatrixRowsRow.holds Try.pinned (OpenSpec.ofChange gfmatrixRowsSpec)

/-- ITS FALSE NEIGHBOUR: 'it returns false'. Refute it at one input. -/
def gfmatrixRowsWrong : ChangeSpec := { name := "gfmatrixRows", fn := fun _ => fun
  | [d1, d2] => { results := [.lit (.bool false)], args := [d1, d2] }
  | _ => none }
def GfmatrixRowsWrongFalsely : Prop := gfmatrixRowsRow.holds Try.pinned (OpenSpec.ofChange gfmatrixRowsWrong)

/-- 'needlestorelaw03.GfmatrixInverse': WHATEVER THE INPUT: true; the input reads as it did. -/
def gfmatrixInverseSpec : ChangeSpec := { name := "gfmatrixInverse", fn := fun _ => fun
  | [d1, d2] => { results := [.lit (.bool true)], args := [d1, d2] }
  | _ => none }
def gfmatrixInverseRow : OpenClaim := { program := "ytnkahhipochakaa", sum := "7b683478095391e9482236e1b7c28d9e8f1491a7e8e8ce6d8be95bc6d82a61ee", func := "needlestore/needlestorelaw03.GfmatrixInverse", spec := "gfmatrixInverse", apart := false }
def GfmatrixInverseSaid : Prop := gfmatrixInverseRow.holds Try.pinned (OpenSpec.ofChange gfmatrixInverseSpec)

/-- ITS FALSE NEIGHBOUR: 'it returns false'. Refute it at one input. -/
def gfmatrixInverseWrong : ChangeSpec := { name := "gfmatrixInverse", fn := fun _ => fun
  | [d1, d2] => { results := [.lit (.bool false)], args := [d1, d2] }
  | _ => none }
def GfmatrixInverseWrongFalsely : Prop := gfmatrixInverseRow.holds Try.pinned (OpenSpec.ofChange gfmatrixInverseWrong)

/-- 'needlestorelaw03.GfmatrixAssociates': WHATEVER THE INPUT: true; the input reads as it did. -/
def gfmatrixAssociatesSpec : ChangeSpec := { name := "gfmatrixAssociates", fn := fun _ => fun
  | [d1, d2, d3, d4, d5, d6, d7] => { results := [.lit (.bool true)], args := [d1, d2, d3, d4, d5, d6, d7] }
  | _ => none }
def gfmatrixAssociatesRow : OpenClaim := { program := "ytnkahhipochakaa", sum := "7b683478095391e9482236e1b7c28d9e8f1491a7e8e8ce6d8be95bc6d82a61ee", func := "needlestore/needlestorelaw03.GfmatrixAssociates", spec := "gfmatrixAssociates", apart := false }
def GfmatrixAssociatesSaid : Prop := gfmatrixAssociatesRow.holds Try.pinned (OpenSpec.ofChange gfmatrixAssociatesSpec)

/-- ITS FALSE NEIGHBOUR: 'it returns false'. Refute it at one input. -/
def gfmatrixAssociatesWrong : ChangeSpec := { name := "gfmatrixAssociates", fn := fun _ => fun
  | [d1, d2, d3, d4, d5, d6, d7] => { results := [.lit (.bool false)], args := [d1, d2, d3, d4, d5, d6, d7] }
  | _ => none }
def GfmatrixAssociatesWrongFalsely : Prop := gfmatrixAssociatesRow.holds Try.pinned (OpenSpec.ofChange gfmatrixAssociatesWrong)

/-- 'needlestorelaw03.GfmatrixComposes': WHATEVER THE INPUT: true; the input reads as it did. -/
def gfmatrixComposesSpec : ChangeSpec := { name := "gfmatrixComposes", fn := fun _ => fun
  | [d1, d2, d3, d4, d5, d6] => { results := [.lit (.bool true)], args := [d1, d2, d3, d4, d5, d6] }
  | _ => none }
def gfmatrixComposesRow : OpenClaim := { program := "ytnkahhipochakaa", sum := "7b683478095391e9482236e1b7c28d9e8f1491a7e8e8ce6d8be95bc6d82a61ee", func := "needlestore/needlestorelaw03.GfmatrixComposes", spec := "gfmatrixComposes", apart := false }
def GfmatrixComposesSaid : Prop := gfmatrixComposesRow.holds Try.pinned (OpenSpec.ofChange gfmatrixComposesSpec)

/-- ITS FALSE NEIGHBOUR: 'it returns false'. Refute it at one input. -/
def gfmatrixComposesWrong : ChangeSpec := { name := "gfmatrixComposes", fn := fun _ => fun
  | [d1, d2, d3, d4, d5, d6] => { results := [.lit (.bool false)], args := [d1, d2, d3, d4, d5, d6] }
  | _ => none }
def GfmatrixComposesWrongFalsely : Prop := gfmatrixComposesRow.holds Try.pinned (OpenSpec.ofChange gfmatrixComposesWrong)

/-- 'needlestorelaw03.GfmatrixProducts': WHATEVER THE INPUT: true; the input reads as it did. -/
def gfmatrixProductsSpec : ChangeSpec := { name := "gfmatrixProducts", fn := fun _ => fun
  | [d1, d2, d3] => { results := [.lit (.bool true)], args := [d1, d2, d3] }
  | _ => none }
def gfmatrixProductsRow : OpenClaim := { program := "ytnkahhipochakaa", sum := "7b683478095391e9482236e1b7c28d9e8f1491a7e8e8ce6d8be95bc6d82a61ee", func := "needlestore/needlestorelaw03.GfmatrixProducts", spec := "gfmatrixProducts", apart := false }
def GfmatrixProductsSaid : Prop := gfmatrixProductsRow.holds Try.pinned (OpenSpec.ofChange gfmatrixProductsSpec)

/-- ITS FALSE NEIGHBOUR: 'it returns false'. Refute it at one input. -/
def gfmatrixProductsWrong : ChangeSpec := { name := "gfmatrixProducts", fn := fun _ => fun
  | [d1, d2, d3] => { results := [.lit (.bool false)], args := [d1, d2, d3] }
  | _ => none }
def GfmatrixProductsWrongFalsely : Prop := gfmatrixProductsRow.holds Try.pinned (OpenSpec.ofChange gfmatrixProductsWrong)

/- THE SECOND FORM. 'bulk': how many values and letters a reading holds, each counted each time it is reached (what is shared counts as often as it is met; a slice's spare places count too). A statement '..UptoSaid' is the law's where the arguments, and the package variables that the reading takes, are together of bulk at most 1048576: NARROWER than '..Said'. Prove '..Said' where nothing that the law and all that it calls make is longer than what came in: it says more and counts as full. Else prove '..UptoSaid'. A law counts once. -/
mutual
def uptoBulk {H : Type} : DataW H → Nat
  | .lit (.string bytes) => bytes.length + 1
  | .lit _ => 1
  | .nil => 1
  | .ptr d => uptoBulk d + 1
  | .slice elems spare => uptoBulkAll elems + uptoBulkAll spare + 1
  | .agg parts => uptoBulkAll parts + 1
  | .iface _ d => uptoBulk d + 1
  | .map entries => uptoBulkEntries entries + 1
  | .held _ => 1
def uptoBulkAll {H : Type} : List (DataW H) → Nat
  | [] => 0
  | d :: r => uptoBulk d + uptoBulkAll r
def uptoBulkEntries {H : Type} : List (Lit × DataW H) → Nat
  | [] => 0
  | x :: r => uptoBulkEntry x + uptoBulkEntries r
def uptoBulkEntry {H : Type} : Lit × DataW H → Nat
  | (.string bytes, d) => bytes.length + uptoBulk d + 1
  | (_, d) => uptoBulk d + 1
 end
def uptoSmall : (H : Type) → List (DataW H) → Bool := fun _ ds => decide (uptoBulkAll ds ≤ 1048576)
def OpenSpec.upto (s : _root_.Go.ChangeSpec) : _root_.Go.OpenSpec := { _root_.Go.OpenSpec.ofChange s with cond := some uptoSmall }

/-- 'needlestorelaw03.GfmatrixMakes', WHERE WHAT IT READS IS OF BULK AT MOST 1048576: true; the input reads as it did. -/
def gfmatrixMakesUptoRow : OpenClaim := { program := "ytnkahhipochakaa", sum := "7b683478095391e9482236e1b7c28d9e8f1491a7e8e8ce6d8be95bc6d82a61ee", func := "needlestore/needlestorelaw03.GfmatrixMakes", spec := "gfmatrixMakes", apart := false, narrowed := true }
def GfmatrixMakesUptoSaid : Prop := gfmatrixMakesUptoRow.holds Try.pinned (OpenSpec.upto gfmatrixMakesSpec)

/-- 'needlestorelaw03.GfmatrixInverts', WHERE WHAT IT READS IS OF BULK AT MOST 1048576: true; the input reads as it did. -/
def gfmatrixInvertsUptoRow : OpenClaim := { program := "ytnkahhipochakaa", sum := "7b683478095391e9482236e1b7c28d9e8f1491a7e8e8ce6d8be95bc6d82a61ee", func := "needlestore/needlestorelaw03.GfmatrixInverts", spec := "gfmatrixInverts", apart := false, narrowed := true }
def GfmatrixInvertsUptoSaid : Prop := gfmatrixInvertsUptoRow.holds Try.pinned (OpenSpec.upto gfmatrixInvertsSpec)

/-- 'needlestorelaw03.GfmatrixSingular', WHERE WHAT IT READS IS OF BULK AT MOST 1048576: true; the input reads as it did. -/
def gfmatrixSingularUptoRow : OpenClaim := { program := "ytnkahhipochakaa", sum := "7b683478095391e9482236e1b7c28d9e8f1491a7e8e8ce6d8be95bc6d82a61ee", func := "needlestore/needlestorelaw03.GfmatrixSingular", spec := "gfmatrixSingular", apart := false, narrowed := true }
def GfmatrixSingularUptoSaid : Prop := gfmatrixSingularUptoRow.holds Try.pinned (OpenSpec.upto gfmatrixSingularSpec)

/-- 'needlestorelaw03.GfmatrixApplies', WHERE WHAT IT READS IS OF BULK AT MOST 1048576: true; the input reads as it did. -/
def gfmatrixAppliesUptoRow : OpenClaim := { program := "ytnkahhipochakaa", sum := "7b683478095391e9482236e1b7c28d9e8f1491a7e8e8ce6d8be95bc6d82a61ee", func := "needlestore/needlestorelaw03.GfmatrixApplies", spec := "gfmatrixApplies", apart := false, narrowed := true }
def GfmatrixAppliesUptoSaid : Prop := gfmatrixAppliesUptoRow.holds Try.pinned (OpenSpec.upto gfmatrixAppliesSpec)

/-- 'needlestorelaw03.GfmatrixRows', WHERE WHAT IT READS IS OF BULK AT MOST 1048576: true; the input reads as it did. -/
def gfmatrixRowsUptoRow : OpenClaim := { program := "ytnkahhipochakaa", sum := "7b683478095391e9482236e1b7c28d9e8f1491a7e8e8ce6d8be95bc6d82a61ee", func := "needlestore/needlestorelaw03.GfmatrixRows", spec := "gfmatrixRows", apart := false, narrowed := true }
def GfmatrixRowsUptoSaid : Prop := gfmatrixRowsUptoRow.holds Try.pinned (OpenSpec.upto gfmatrixRowsSpec)

/-- 'needlestorelaw03.GfmatrixInverse', WHERE WHAT IT READS IS OF BULK AT MOST 1048576: true; the input reads as it did. -/
def gfmatrixInverseUptoRow : OpenClaim := { program := "ytnkahhipochakaa", sum := "7b683478095391e9482236e1b7c28d9e8f1491a7e8e8ce6d8be95bc6d82a61ee", func := "needlestore/needlestorelaw03.GfmatrixInverse", spec := "gfmatrixInverse", apart := false, narrowed := true }
def GfmatrixInverseUptoSaid : Prop := gfmatrixInverseUptoRow.holds Try.pinned (OpenSpec.upto gfmatrixInverseSpec)

/-- 'needlestorelaw03.GfmatrixAssociates', WHERE WHAT IT READS IS OF BULK AT MOST 1048576: true; the input reads as it did. -/
def gfmatrixAssociatesUptoRow : OpenClaim := { program := "ytnkahhipochakaa", sum := "7b683478095391e9482236e1b7c28d9e8f1491a7e8e8ce6d8be95bc6d82a61ee", func := "needlestore/needlestorelaw03.GfmatrixAssociates", spec := "gfmatrixAssociates", apart := false, narrowed := true }
def GfmatrixAssociatesUptoSaid : Prop := gfmatrixAssociatesUptoRow.holds Try.pinned (OpenSpec.upto gfmatrixAssociatesSpec)

/-- 'needlestorelaw03.GfmatrixComposes', WHERE WHAT IT READS IS OF BULK AT MOST 1048576: true; the input reads as it did. -/
def gfmatrixComposesUptoRow : OpenClaim := { program := "ytnkahhipochakaa", sum := "7b683478095391e9482236e1b7c28d9e8f1491a7e8e8ce6d8be95bc6d82a61ee", func := "needlestore/needlestorelaw03.GfmatrixComposes", spec := "gfmatrixComposes", apart := false, narrowed := true }
def GfmatrixComposesUptoSaid : Prop := gfmatrixComposesUptoRow.holds Try.pinned (OpenSpec.upto gfmatrixComposesSpec)

/-- 'needlestorelaw03.GfmatrixProducts', WHERE WHAT IT READS IS OF BULK AT MOST 1048576: true; the input reads as it did. -/
def gfmatrixProductsUptoRow : OpenClaim := { program := "ytnkahhipochakaa", sum := "7b683478095391e9482236e1b7c28d9e8f1491a7e8e8ce6d8be95bc6d82a61ee", func := "needlestore/needlestorelaw03.GfmatrixProducts", spec := "gfmatrixProducts", apart := false, narrowed := true }
def GfmatrixProductsUptoSaid : Prop := gfmatrixProductsUptoRow.holds Try.pinned (OpenSpec.upto gfmatrixProductsSpec)

end Rows
end Go.Proofs.Ytnkahhipochakaa

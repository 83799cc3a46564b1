/-
  No cell of these rows narrows 'for every input' (looked for: loops, veiled, ifaces, maps, wideKeys, modest, calm, conditions, laid).
  DERIVED. THE GIVEN ROWS OF THIS SEAT. 6 by the template 'for every input the law returns true; each argument reads behind the call as it read before'; 0 by the template 'total and deterministic' (their statements: YthjnhlmfcejhkaaGreatTotals.lean).
  GIVEN WITH THE SEED: the statements are not yours to turn. If you find one false, say at which input.
  Laid BY PROGRAM, IN A SANDBOX (cutbox-rows.mjs): the forced cells as the released guide's own fill.sh prints them over the translation 87479581c1b8a0ec… (all of the seat's roots in one cut). By AI agents, Wed Nov 11 2026. No macro, syntax, notation, axiom, sorry.
-/
import Derived.Test.YthjnhlmfcejhkaaGreatChecked
import GoSem.Claim
import GoSem.ClaimJoined
import GoSem.ClaimMapViews
import Derived.JoinedTies
import Derived.KernelRfl
namespace Go.Proofs.YthjnhlmfcejhkaaGreat
/- THE CELL 'sum', in the pinned program and in every row, IS THE sha256 OF THE DUMP (.gsa) THAT YthjnhlmfcejhkaaGreatProg.lean LOADS. Nothing in Lean hashes anything: it is a label: what it is worth is what the hold of that sum in a sandbox is worth. -/
noncomputable def Tryz.pinned : Pinned := { name := "ythjnhlmfcejhkaagreat", sum := "87479581c1b8a0ecec527505260fcd3ff93725076432020be3f9ff308c7b1d25", checked := Tryz.checked }
namespace Rows
def none {H : Type} : Left H := { results := [], args := [] }

/-- 'needlestorelaw17.ShardsMakes': WHATEVER THE INPUT: true; the input reads as it did. -/
def shardsMakesSpec : ChangeSpec := { name := "shardsMakes", fn := fun _ => fun
  | [d1, d2, d3, d4] => { results := [.lit (.bool true)], args := [d1, d2, d3, d4] }
  | _ => none }
def shardsMakesRow : OpenClaim := { program := "ythjnhlmfcejhkaagreat", sum := "87479581c1b8a0ecec527505260fcd3ff93725076432020be3f9ff308c7b1d25", func := "needlestore/needlestorelaw17.ShardsMakes", spec := "shardsMakes", unfollowed := true, recurses := true, apart := false }
def ShardsMakesSaid : Prop := shardsMakesRow.holds Tryz.pinned (OpenSpec.ofChange shardsMakesSpec)

/-- ITS FALSE NEIGHBOUR: 'it returns false'. Refute it at one input. -/
def shardsMakesWrong : ChangeSpec := { name := "shardsMakes", fn := fun _ => fun
  | [d1, d2, d3, d4] => { results := [.lit (.bool false)], args := [d1, d2, d3, d4] }
  | _ => none }
def ShardsMakesWrongFalsely : Prop := shardsMakesRow.holds Tryz.pinned (OpenSpec.ofChange shardsMakesWrong)

/-- 'needlestorelaw17.ShardsRebuilds': WHATEVER THE INPUT: true; the input reads as it did. -/
def shardsRebuildsSpec : ChangeSpec := { name := "shardsRebuilds", fn := fun _ => fun
  | [d1, d2, d3, d4] => { results := [.lit (.bool true)], args := [d1, d2, d3, d4] }
  | _ => none }
def shardsRebuildsRow : OpenClaim := { program := "ythjnhlmfcejhkaagreat", sum := "87479581c1b8a0ecec527505260fcd3ff93725076432020be3f9ff308c7b1d25", func := "needlestore/needlestorelaw17.ShardsRebuilds", spec := "shardsRebuilds", unfollowed := true, recurses := true, apart := false }
def ShardsRebuildsSaid : Prop := shardsRebuildsRow.holds Tryz.pinned (OpenSpec.ofChange shardsRebuildsSpec)

/-- ITS FALSE NEIGHBOUR: 'it returns false'. Refute it at one input. -/
def shardsRebuildsWrong : ChangeSpec := { name := "shardsRebuilds", fn := fun _ => fun
  | [d1, d2, d3, d4] => { results := [.lit (.bool false)], args := [d1, d2, d3, d4] }
  | _ => none }
def ShardsRebuildsWrongFalsely : Prop := shardsRebuildsRow.holds Tryz.pinned (OpenSpec.ofChange shardsRebuildsWrong)

/-- 'needlestorelaw17.ShardsHeads': WHATEVER THE INPUT: true; the input reads as it did. -/
def shardsHeadsSpec : ChangeSpec := { name := "shardsHeads", fn := fun _ => fun
  | [d1, d2, d3, d4] => { results := [.lit (.bool true)], args := [d1, d2, d3, d4] }
  | _ => none }
def shardsHeadsRow : OpenClaim := { program := "ythjnhlmfcejhkaagreat", sum := "87479581c1b8a0ecec527505260fcd3ff93725076432020be3f9ff308c7b1d25", func := "needlestore/needlestorelaw17.ShardsHeads", spec := "shardsHeads", unfollowed := true, recurses := true, apart := false }
def ShardsHeadsSaid : Prop := shardsHeadsRow.holds Tryz.pinned (OpenSpec.ofChange shardsHeadsSpec)

/-- ITS FALSE NEIGHBOUR: 'it returns false'. Refute it at one input. -/
def shardsHeadsWrong : ChangeSpec := { name := "shardsHeads", fn := fun _ => fun
  | [d1, d2, d3, d4] => { results := [.lit (.bool false)], args := [d1, d2, d3, d4] }
  | _ => none }
def ShardsHeadsWrongFalsely : Prop := shardsHeadsRow.holds Tryz.pinned (OpenSpec.ofChange shardsHeadsWrong)

/-- 'needlestorelaw17.ShardsDecodes': WHATEVER THE INPUT: true; the input reads as it did. -/
def shardsDecodesSpec : ChangeSpec := { name := "shardsDecodes", fn := fun _ => fun
  | [d1, d2, d3, d4, d5] => { results := [.lit (.bool true)], args := [d1, d2, d3, d4, d5] }
  | _ => none }
def shardsDecodesRow : OpenClaim := { program := "ythjnhlmfcejhkaagreat", sum := "87479581c1b8a0ecec527505260fcd3ff93725076432020be3f9ff308c7b1d25", func := "needlestore/needlestorelaw17.ShardsDecodes", spec := "shardsDecodes", unfollowed := true, recurses := true, apart := false }
def ShardsDecodesSaid : Prop := shardsDecodesRow.holds Tryz.pinned (OpenSpec.ofChange shardsDecodesSpec)

/-- ITS FALSE NEIGHBOUR: 'it returns false'. Refute it at one input. -/
def shardsDecodesWrong : ChangeSpec := { name := "shardsDecodes", fn := fun _ => fun
  | [d1, d2, d3, d4, d5] => { results := [.lit (.bool false)], args := [d1, d2, d3, d4, d5] }
  | _ => none }
def ShardsDecodesWrongFalsely : Prop := shardsDecodesRow.holds Tryz.pinned (OpenSpec.ofChange shardsDecodesWrong)

/-- 'needlestorelaw17.ShardsBursts': WHATEVER THE INPUT: true; the input reads as it did. -/
def shardsBurstsSpec : ChangeSpec := { name := "shardsBursts", fn := fun _ => fun
  | [d1, d2, d3] => { results := [.lit (.bool true)], args := [d1, d2, d3] }
  | _ => none }
def shardsBurstsRow : OpenClaim := { program := "ythjnhlmfcejhkaagreat", sum := "87479581c1b8a0ecec527505260fcd3ff93725076432020be3f9ff308c7b1d25", func := "needlestore/needlestorelaw17.ShardsBursts", spec := "shardsBursts", unfollowed := true, recurses := true, apart := false }
def ShardsBurstsSaid : Prop := shardsBurstsRow.holds Tryz.pinned (OpenSpec.ofChange shardsBurstsSpec)

/-- ITS FALSE NEIGHBOUR: 'it returns false'. Refute it at one input. -/
def shardsBurstsWrong : ChangeSpec := { name := "shardsBursts", fn := fun _ => fun
  | [d1, d2, d3] => { results := [.lit (.bool false)], args := [d1, d2, d3] }
  | _ => none }
def ShardsBurstsWrongFalsely : Prop := shardsBurstsRow.holds Tryz.pinned (OpenSpec.ofChange shardsBurstsWrong)

/-- 'needlestorelaw17.ShardsBack': WHATEVER THE INPUT: true; the input reads as it did. -/
def shardsBackSpec : ChangeSpec := { name := "shardsBack", fn := fun _ => fun
  | [d] => { results := [.lit (.bool true)], args := [d] }
  | _ => none }
def shardsBackRow : OpenClaim := { program := "ythjnhlmfcejhkaagreat", sum := "87479581c1b8a0ecec527505260fcd3ff93725076432020be3f9ff308c7b1d25", func := "needlestore/needlestorelaw17.ShardsBack", spec := "shardsBack", unfollowed := true, recurses := true, apart := false }
def ShardsBackSaid : Prop := shardsBackRow.holds Tryz.pinned (OpenSpec.ofChange shardsBackSpec)

/-- ITS FALSE NEIGHBOUR: 'it returns false'. Refute it at one input. -/
def shardsBackWrong : ChangeSpec := { name := "shardsBack", fn := fun _ => fun
  | [d] => { results := [.lit (.bool false)], args := [d] }
  | _ => none }
def ShardsBackWrongFalsely : Prop := shardsBackRow.holds Tryz.pinned (OpenSpec.ofChange shardsBackWrong)

/- THE SECOND FORM. 'bulk': how many values and letters a reading holds, each counted each time it is reached (what is shared counts as often as it is met; a slice's spare places count too). A statement '..UptoSaid' is the law's where the arguments, and the package variables that the reading takes, are together of bulk at most 1048576: NARROWER than '..Said'. Prove '..Said' where nothing that the law and all that it calls make is longer than what came in: it says more and counts as full. Else prove '..UptoSaid'. A law counts once. -/
mutual
def uptoBulk {H : Type} : DataW H → Nat
  | .lit (.string bytes) => bytes.length + 1
  | .lit _ => 1
  | .nil => 1
  | .ptr d => uptoBulk d + 1
  | .slice elems spare => uptoBulkAll elems + uptoBulkAll spare + 1
  | .agg parts => uptoBulkAll parts + 1
  | .iface _ d => uptoBulk d + 1
  | .map entries => uptoBulkEntries entries + 1
  | .held _ => 1
def uptoBulkAll {H : Type} : List (DataW H) → Nat
  | [] => 0
  | d :: r => uptoBulk d + uptoBulkAll r
def uptoBulkEntries {H : Type} : List (Lit × DataW H) → Nat
  | [] => 0
  | x :: r => uptoBulkEntry x + uptoBulkEntries r
def uptoBulkEntry {H : Type} : Lit × DataW H → Nat
  | (.string bytes, d) => bytes.length + uptoBulk d + 1
  | (_, d) => uptoBulk d + 1
 end
def uptoSmall : (H : Type) → List (DataW H) → Bool := fun _ ds => decide (uptoBulkAll ds ≤ 1048576)
def OpenSpec.upto (s : _root_.Go.ChangeSpec) : _root_.Go.OpenSpec := { _root_.Go.OpenSpec.ofChange s with cond := some uptoSmall }

/-- 'needlestorelaw17.ShardsMakes', WHERE WHAT IT READS IS OF BULK AT MOST 1048576: true; the input reads as it did. -/
def shardsMakesUptoRow : OpenClaim := { program := "ythjnhlmfcejhkaagreat", sum := "87479581c1b8a0ecec527505260fcd3ff93725076432020be3f9ff308c7b1d25", func := "needlestore/needlestorelaw17.ShardsMakes", spec := "shardsMakes", unfollowed := true, recurses := true, apart := false, narrowed := true }
def ShardsMakesUptoSaid : Prop := shardsMakesUptoRow.holds Tryz.pinned (OpenSpec.upto shardsMakesSpec)

/-- 'needlestorelaw17.ShardsRebuilds', WHERE WHAT IT READS IS OF BULK AT MOST 1048576: true; the input reads as it did. -/
def shardsRebuildsUptoRow : OpenClaim := { program := "ythjnhlmfcejhkaagreat", sum := "87479581c1b8a0ecec527505260fcd3ff93725076432020be3f9ff308c7b1d25", func := "needlestore/needlestorelaw17.ShardsRebuilds", spec := "shardsRebuilds", unfollowed := true, recurses := true, apart := false, narrowed := true }
def ShardsRebuildsUptoSaid : Prop := shardsRebuildsUptoRow.holds Tryz.pinned (OpenSpec.upto shardsRebuildsSpec)

/-- 'needlestorelaw17.ShardsHeads', WHERE WHAT IT READS IS OF BULK AT MOST 1048576: true; the input reads as it did. -/
def shardsHeadsUptoRow : OpenClaim := { program := "ythjnhlmfcejhkaagreat", sum := "87479581c1b8a0ecec527505260fcd3ff93725076432020be3f9ff308c7b1d25", func := "needlestore/needlestorelaw17.ShardsHeads", spec := "shardsHeads", unfollowed := true, recurses := true, apart := false, narrowed := true }
def ShardsHeadsUptoSaid : Prop := shardsHeadsUptoRow.holds Tryz.pinned (OpenSpec.upto shardsHeadsSpec)

/-- 'needlestorelaw17.ShardsDecodes', WHERE WHAT IT READS IS OF BULK AT MOST 1048576: true; the input reads as it did. -/
def shardsDecodesUptoRow : OpenClaim := { program := "ythjnhlmfcejhkaagreat", sum := "87479581c1b8a0ecec527505260fcd3ff93725076432020be3f9ff308c7b1d25", func := "needlestore/needlestorelaw17.ShardsDecodes", spec := "shardsDecodes", unfollowed := true, recurses := true, apart := false, narrowed := true }
def ShardsDecodesUptoSaid : Prop := shardsDecodesUptoRow.holds Tryz.pinned (OpenSpec.upto shardsDecodesSpec)

/-- 'needlestorelaw17.ShardsBursts', WHERE WHAT IT READS IS OF BULK AT MOST 1048576: true; the input reads as it did. -/
def shardsBurstsUptoRow : OpenClaim := { program := "ythjnhlmfcejhkaagreat", sum := "87479581c1b8a0ecec527505260fcd3ff93725076432020be3f9ff308c7b1d25", func := "needlestore/needlestorelaw17.ShardsBursts", spec := "shardsBursts", unfollowed := true, recurses := true, apart := false, narrowed := true }
def ShardsBurstsUptoSaid : Prop := shardsBurstsUptoRow.holds Tryz.pinned (OpenSpec.upto shardsBurstsSpec)

/-- 'needlestorelaw17.ShardsBack', WHERE WHAT IT READS IS OF BULK AT MOST 1048576: true; the input reads as it did. -/
def shardsBackUptoRow : OpenClaim := { program := "ythjnhlmfcejhkaagreat", sum := "87479581c1b8a0ecec527505260fcd3ff93725076432020be3f9ff308c7b1d25", func := "needlestore/needlestorelaw17.ShardsBack", spec := "shardsBack", unfollowed := true, recurses := true, apart := false, narrowed := true }
def ShardsBackUptoSaid : Prop := shardsBackUptoRow.holds Tryz.pinned (OpenSpec.upto shardsBackSpec)

end Rows
end Go.Proofs.YthjnhlmfcejhkaaGreat

/- A part of the proof. Conditions: as each theorem says. -/
import Derived.Test.YthjnhlmfcejhkaaGreatRows
import Derived.WalkKit
import Derived.ProofKit
namespace Go.Proofs.YthjnhlmfcejhkaaGreat
set_option maxRecDepth 100000
open Go Go.RowKit
theorem toList_of {s : String} {l : List Char} (h : s = String.ofList l) : s.toList = l := by rw [h]; simp
theorem all_make : Tryz.prog.make = some .cut := by
 unfold Program.make
 rw [toList_of (show Tryz.prog.initOrder = String.ofList _ from rfl)]
 kernel_rfl
theorem all_lifts : Tryz.prog.liftsFinal = false := by
 unfold Program.liftsFinal
 rw [toList_of (show Tryz.prog.initOrder = String.ofList _ from rfl)]
 kernel_rfl
theorem all_mayEnter : Tryz.prog.mayEnter = true := by
 unfold Program.mayEnter
 rw [toList_of (show Tryz.prog.initOrder = String.ofList _ from rfl)]
 kernel_rfl
theorem all_own : ownKnob Tryz.prog.godebug = none := by kernel_rfl
theorem all_laidOut : laidOutB Tryz.prog = true := by kernel_rfl
theorem all_mapsRowed : mapsRowed Tryz.prog = true := by kernel_rfl
theorem all_plainKeys : Tryz.prog.plainKeys = true := by kernel_rfl
theorem all_stopsHeard : Tryz.prog.stopsHeard = true := by kernel_rfl
end Go.Proofs.YthjnhlmfcejhkaaGreat

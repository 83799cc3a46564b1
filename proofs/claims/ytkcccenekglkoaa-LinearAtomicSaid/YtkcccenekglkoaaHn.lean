/-
 What the frame for rows asks of the whole program, once for the seat (a program whose maps have keys that are structs). No conditions.
-/
import Derived.Test.YtkcccenekglkoaaRows
import Derived.WalkKit
import Derived.ProofKit
namespace Go.Proofs.Ytkcccenekglkoaa
set_option maxRecDepth 100000
open Go Go.RowKit
theorem toList_of {s : String} {l : List Char} (h : s = String.ofList l) : s.toList = l := by rw [h]; simp
theorem all_make : Try.prog.make = some .cut := by
 unfold Program.make
 rw [toList_of (show Try.prog.initOrder = String.ofList _ from rfl)]
 kernel_rfl
theorem all_lifts : Try.prog.liftsFinal = false := by
 unfold Program.liftsFinal
 rw [toList_of (show Try.prog.initOrder = String.ofList _ from rfl)]
 kernel_rfl
theorem all_mayEnter : Try.prog.mayEnter = true := by
 unfold Program.mayEnter
 rw [toList_of (show Try.prog.initOrder = String.ofList _ from rfl)]
 kernel_rfl
theorem all_own : ownKnob Try.prog.godebug = none := by kernel_rfl
theorem all_laidOut : laidOutB Try.prog = true := by kernel_rfl
theorem all_mapsRowed : mapsRowed Try.prog = true := by kernel_rfl
theorem all_plainKeys : Try.prog.plainKeys = false := by kernel_rfl
theorem all_stopsHeard : Try.prog.stopsHeard = true := by kernel_rfl
end Go.Proofs.Ytkcccenekglkoaa

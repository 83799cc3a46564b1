/- A part of the proof. Conditions: as each theorem says. -/
import Derived.Test.YthjnhlmfcejhkaaGreatLs
import Derived.Test.YthjnhlmfcejhkaaGreatLt
import Derived.Test.YthjnhlmfcejhkaaGreatMs
import Derived.Test.YthjnhlmfcejhkaaGreatX18
namespace Go.Proofs.YthjnhlmfcejhkaaGreat
open Go Go.RowKit
set_option linter.unusedVariables false
theorem cel_int (zs : List Int) : cel zs = zs.map (Value.int .i64) := by
 induction zs with
 | nil => rfl
 | cons a zs ih => show Value.int .i64 a :: cel zs = _; rw [ih]; rfl
theorem w_sort {E : TypeId} (A : Option Addr) (n c : Nat) (zs : List Int) {res : List Int} (h : srt zs = some res) :
  Mut Tryz.prog 86 #[.slice A n c] E (Lay.sz Int) A n c (cel zs) fun r ds => r = .tuple #[] /\ ds = cel res := by
 obtain ⟨h1, rfl⟩ := srt_some h
 rw [cel_int, cel_int]
 exact sort_mut sortLays h1
end Go.Proofs.YthjnhlmfcejhkaaGreat

/- A part of the proof. Conditions: as each theorem says. -/
import Derived.Test.YtcncappgheopgaaGreatSg
namespace Go.Proofs.YtcncappgheopgaaGreat
set_option linter.unusedVariables false
set_option linter.unusedSimpArgs false
theorem same_ok (k k' : BitVec 64) (c c' : BitVec 32) (d d' : Bool) (xs xs' : By) : m_r06_Same k c d xs k' c' d' xs' = some (decide (k = k' /\ c = c' /\ d = d' /\ xs = xs')) := by
 unfold m_r06_Same
 by_cases h1 : k = k'
 ·by_cases h2 : c = c'
  ·by_cases h3 : d = d'
   ·by_cases h4 : xs = xs'
    ·simp [h1, h2, h3, h4]
    ·simp [h1, h2, h3, h4]
   ·simp [h1, h2, h3]
  ·simp [h1, h2]
 ·simp [h1]
end Go.Proofs.YtcncappgheopgaaGreat

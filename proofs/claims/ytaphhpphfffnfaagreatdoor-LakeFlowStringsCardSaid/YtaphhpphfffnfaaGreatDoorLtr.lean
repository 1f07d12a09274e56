/- Lakes as plain data: steps and runs. -/
import Derived.Test.YtaphhpphfffnfaaGreatDoorLtq
namespace Go.DI.Lk

deriving instance DecidableEq for Flow
instance : Inhabited Flow := ⟨⟨0, 0, 0⟩⟩

structure VPair (p : Pair) : Prop where
  u : Valid p.u
  l : Valid p.l
  r : Wi p.rate 0 1000

def stOk (p : Pair) (s : Sta) : Prop := isV p.u s.1 ∧ isV p.l s.2
instance (p : Pair) (s : Sta) : Decidable (stOk p s) := inferInstanceAs (Decidable (_ ∧ _))

end Go.DI.Lk


/- Lakes as plain data: readings; ranges that contradict each other. -/
import Derived.Test.YtaphhpphfffnfaaGreatDoorLtp
namespace Go.DI.Lk

abbrev Rn := Int × Int
def rn (rs : List Rn) (i : Nat) : Rn := rs.getD i default
def meet (a b : Rn) : Rn := (max a.1 b.1, min a.2 b.2)

/-- What the ranges up to a place have in common. -/
def meets (rs : List Rn) : Nat → Rn
  | 0 => rn rs 0
  | n + 1 => meet (meets rs n) (rn rs (n + 1))

structure Rdg where
  tick : Int
  lo : Int
  hi : Int
instance : Inhabited Rdg := ⟨⟨0, 0, 0⟩⟩

def sumTo (net : List Int) : Nat → Int
  | 0 => 0
  | n + 1 => sumTo net n + net.getD n 0

def perm (l : List Kn) (net : List Int) (r : Rdg) : Rn := (volHi l r.lo - sumTo net r.tick.toNat, volLo l r.hi - sumTo net r.tick.toNat)

def rdgErr (l : List Kn) (n : Int) (r : Rdg) : Int :=
  if ¬ (Wi r.tick 0 n ∧ isL l r.lo ∧ isL l r.hi) then 2 else if r.hi < r.lo then 9 else 0

theorem rdgErr_ok {l : List Kn} {n : Int} {r : Rdg} (h : rdgErr l n r = 0) : (0 ≤ r.tick ∧ r.tick ≤ n) ∧ isL l r.lo ∧ isL l r.hi ∧ r.lo ≤ r.hi := by
  unfold rdgErr at h
  split at h
  · omega
  · rename_i k
    split at h
    · omega
    · rename_i k2
      simp only [Decidable.not_not] at k
      exact ⟨k.1, k.2.1, k.2.2, by omega⟩

end Go.DI.Lk


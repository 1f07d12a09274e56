/- Contracts of rules, states, steps, boxes and runs. No condition. -/
import Derived.Test.YtdpfjbghiahbeaaKsGe
import Derived.Test.YtdpfjbghiahbeaaProg
import Derived.KernelRfl
/- Surge chambers as plain data: rules, states, steps; no program in sight. -/
namespace Go.DI.Sg

def Wi (n lo hi : Int) : Prop := lo ≤ n ∧ n ≤ hi
instance (n lo hi : Int) : Decidable (Wi n lo hi) := inferInstanceAs (Decidable (_ ∧ _))

structure Ru where
  I : Int
  A : Int
  lo : Int
  hi : Int
  T : Int
  deriving DecidableEq, Inhabited
structure Sta where
  L : Int
  F : Int
  deriving DecidableEq, Inhabited
structure Bx where
  ll : Int
  lh : Int
  fl : Int
  fh : Int
  deriving DecidableEq, Inhabited
structure Pl where
  load : Int
  ch : List Int
  wait : Int
  ticks : Int
structure Wt where
  ord : List Int
  st : Sta
  k : Int
  lev : Int
structure Cv where
  b : Bx
  parts : Int
  lo : Int
  hi : Int

def sq (n : Int) : Int := n * max n (-n)
/-- A step. -/
def stp (r : Ru) (s : Sta) (load k : Int) : Sta :=
  let f := min 1000 (max (-1000) (s.F - (s.L + (k * sq s.F).tdiv 1000 + (r.T * sq (s.F - load)).tdiv 1000) / r.I))
  ⟨s.L + (f - load) / r.A, f⟩

def rulesErr (r : Ru) : Int :=
  if ¬ (Wi r.I 1 1000 ∧ Wi r.A 1 1000 ∧ Wi r.lo 0 100 ∧ Wi r.hi 0 100 ∧ Wi r.T 0 100) then 2
  else if r.hi < r.lo then 9
  else if 1000 * r.I < 2001 * r.hi + 4001 * r.T + 2000 then 13
  else 0

structure Good (r : Ru) : Prop where
  I : 1 ≤ r.I ∧ r.I ≤ 1000
  A : 1 ≤ r.A ∧ r.A ≤ 1000
  lo : 0 ≤ r.lo
  le : r.lo ≤ r.hi
  hi : r.hi ≤ 100
  T : 0 ≤ r.T ∧ r.T ≤ 100
  wide : 2001 * r.hi + 4001 * r.T + 2000 ≤ 1000 * r.I

theorem rules_ok {r : Ru} : rulesErr r = 0 ↔ Good r := by
  unfold rulesErr Wi
  constructor
  · intro h
    split at h
    · omega
    · split at h
      · omega
      · split at h
        · omega
        · exact ⟨by omega, by omega, by omega, by omega, by omega, by omega, by omega⟩
  · intro h
    have := h.I; have := h.A; have := h.lo; have := h.le; have := h.hi; have := h.T; have := h.wide
    rw [if_neg (by omega), if_neg (by omega), if_neg (by omega)]

def stateErr (s : Sta) : Int := if Wi s.L (-100000) 100000 ∧ Wi s.F (-1000) 1000 then 0 else 2
def loadErr (n : Int) : Int := if Wi n 0 1000 then 0 else 2
def fricErr (r : Ru) (k : Int) : Int := if Wi k r.lo r.hi then 0 else 2
def fstE (a b : Int) : Int := if a = 0 then b else a

theorem mul_bd {a b A B : Int} (ha : -A ≤ a ∧ a ≤ A) (hb : -B ≤ b ∧ b ≤ B) : -(A * B) ≤ a * b ∧ a * b ≤ A * B := by
  have h1 : a.natAbs ≤ A.toNat := by omega
  have h2 : b.natAbs ≤ B.toNat := by omega
  have h3 : (a * b).natAbs ≤ A.toNat * B.toNat := by rw [Int.natAbs_mul]; exact Nat.mul_le_mul h1 h2
  have h4 : ((A.toNat * B.toNat : Nat) : Int) = A * B := by
    rw [Int.natCast_mul, Int.toNat_of_nonneg (by omega), Int.toNat_of_nonneg (by omega)]
  omega

theorem sq_bd {n m : Int} (h : -m ≤ n ∧ n ≤ m) : -(m * m) ≤ sq n ∧ sq n ≤ m * m := by
  unfold sq
  exact mul_bd h (by omega)

theorem tdiv1000_bd {a A : Int} (h : -(1000 * A) ≤ a ∧ a ≤ 1000 * A) : -A ≤ a.tdiv 1000 ∧ a.tdiv 1000 ≤ A := by
  have hs : Int.sign 1000 = 1 := rfl
  rw [Int.tdiv_eq_ediv, hs]
  split <;> omega

theorem ediv_bd {a b A : Int} (h : -A ≤ a ∧ a ≤ A) (hb : 0 < b) : -A ≤ a / b ∧ a / b ≤ A := by
  constructor
  · rw [Int.le_ediv_iff_mul_le hb]
    have : A * 1 ≤ A * b := Int.mul_le_mul_of_nonneg_left (by omega) (by omega)
    rw [Int.neg_mul]; omega
  · refine Int.le_trans (Int.ediv_le_ediv hb h.2) ?_
    exact Int.ediv_le_self _ (by omega)

/-- Rounding down, as the machine does it. -/
theorem floor_eq {n d : Int} (hd : 0 < d) : (if n.tmod d < 0 then n.tdiv d - 1 else n.tdiv d) = n / d := by
  rw [Int.tdiv_eq_ediv, Int.tmod_eq_emod]
  have h1 := Int.emod_nonneg n (show d ≠ 0 by omega)
  have h2 := Int.emod_lt_of_pos n hd
  have hs : d.sign = 1 := Int.sign_eq_one_of_pos hd
  by_cases h : 0 ≤ n ∨ d ∣ n
  · rw [if_pos h, if_pos h]
    rw [if_neg (by omega)]; omega
  · rw [if_neg h, if_neg h]
    rw [if_pos (by omega), hs]; omega

/-- How far a level may be. -/
theorem stp_bd {r : Ru} (hr : Good r) {s : Sta} {load k m : Int} (hs : -m ≤ s.L ∧ s.L ≤ m) (hl : 0 ≤ load ∧ load ≤ 1000) :
    (-(m + 2000) ≤ (stp r s load k).L ∧ (stp r s load k).L ≤ m + 2000) ∧ -1000 ≤ (stp r s load k).F ∧ (stp r s load k).F ≤ 1000 := by
  unfold stp
  have hA := hr.A
  generalize s.F - (s.L + (k * sq s.F).tdiv 1000 + (r.T * sq (s.F - load)).tdiv 1000) / r.I = g
  dsimp only
  have hf : -1000 ≤ min 1000 (max (-1000) g) ∧ min 1000 (max (-1000) g) ≤ 1000 := by omega
  generalize min 1000 (max (-1000) g) = f at hf
  have := ediv_bd (a := f - load) (b := r.A) (A := 2000) (by omega) (by omega)
  omega

end Go.DI.Sg

/- The functions of the surge chambers, as data. No condition. -/
namespace Go.DI
open Go.Proofs Go.RowKit
/-- guidevane/surge.within -/
def b92 : DCode :=
 (.seq
  (.region [⟨(some 6), .mov, [.c (.bool false)], none, []⟩] false)
  (.seq
   (.region [⟨(some 7), .mov, [.t 1], none, []⟩,
     ⟨(some 8), .mov, [.t 0], none, []⟩,
     ⟨(some 9), (.bin .leq), [.t 7, .t 8], none, [0, 1]⟩,
     ⟨(some 10), .mov, [.t 9], none, [2]⟩,
     ⟨(some 11), .mov, [.t 0], (some (10, true)), [3]⟩,
     ⟨(some 12), .mov, [.t 2], (some (10, true)), [3]⟩,
     ⟨(some 13), (.bin .leq), [.t 11, .t 12], (some (10, true)), [4, 5, 3]⟩,
     ⟨(some 14), .pick, [.t 10, .t 13, .c (.bool false)], none, [3, 6]⟩,
     ⟨(some 6), .mov, [.t 14], none, [7, 3, 0, 1, 2, 3, 4, 5, 6, 7]⟩] false)
   .ret))
def d92 : DFn := ⟨3, 15, [.tmp 6], b92⟩
theorem body92 : d92.body = b92 := rfl
theorem res92 : d92.res = [.tmp 6] := rfl
theorem k92 : chkFn Try.prog Try.f92 d92 = true := by kernel_rfl

/-- guidevane/surge.unless -/
def b93k0 : DCode :=
 (.seq
  (.region [⟨(some 6), .mov, [.t 1], none, []⟩,
    ⟨(some 4), .mov, [.t 6], none, [0, 0]⟩] false)
  .ret)
def b93 : DCode :=
 (.seq
  (.region [⟨(some 4), .mov, [.c (.int .i64 0)], none, []⟩] false)
  (.seq
   (.seq
    (.region [⟨(some 5), .mov, [.t 0], none, []⟩] false)
    (.cond (.t 5)
     (.seq
      (.region [⟨(some 4), .mov, [.c (.int .i64 0)], none, []⟩] false)
      .ret)
     .skip))
   (.keep [1] [] b93k0)))
def d93 : DFn := ⟨2, 7, [.tmp 4], b93⟩
theorem body93 : d93.body = b93 := rfl
theorem res93 : d93.res = [.tmp 4] := rfl
theorem k93 : chkFn Try.prog Try.f93 d93 = true := by kernel_rfl

/-- guidevane/surge.first -/
def b87k0 : DCode :=
 (.region [⟨(some 14), (.bin .add), [.t 7, .c (.int .i64 1)], none, []⟩,
   ⟨(some 7), .mov, [.t 14], none, [0]⟩] false)
def b87k1 : DCode :=
 (.seq
  (.block 1
   (.seq
    (.region [⟨(some 9), (.iaddr 1), [.t 5, .t 7], none, []⟩,
      ⟨(some 10), (.load false 1), [.t 9], none, [0]⟩,
      ⟨(some 4), .mov, [.t 10], none, [1, 0, 1]⟩] false)
    (.seq
     (.region [⟨(some 11), .mov, [.t 4], none, []⟩,
       ⟨(some 12), (.bin .neq), [.t 11, .c (.int .i64 0)], none, [0]⟩] false)
     (.cond (.t 12)
      (.seq
       (.region [⟨(some 13), .mov, [.t 4], none, []⟩,
         ⟨(some 2), .mov, [.t 13], none, [0, 0]⟩] false)
       .ret)
      .skip))))
  (.keep [5, 6, 7] [] b87k0))
def b87l0 : DCode := .keep [5, 6, 7] []
  (.seq
   (.region [⟨(some 8), (.bin .lss), [.t 7, .t 6], none, []⟩] false)
   (.seq
    (.cond (.t 8)
     .skip
     (.exit 0))
    (.keep [5, 6, 7] [] b87k1)))
def b87k2 : DCode :=
 (.seq
  (.region [⟨(some 2), .mov, [.c (.int .i64 0)], none, []⟩] false)
  .ret)
def b87 : DCode :=
 (.seq
  (.region [⟨(some 2), .mov, [.c (.int .i64 0)], none, []⟩] false)
  (.seq
   (.seq
    (.region [⟨(some 5), .movv, [.t 0], none, []⟩,
      ⟨(some 6), .len, [.t 5], none, [0]⟩,
      ⟨(some 7), .mov, [.c (.int .i64 0)], none, []⟩] false)
    (.block 0
     (.loop b87l0)))
   (.keep [] [] b87k2)))
def d87 : DFn := ⟨1, 15, [.tmp 2], b87⟩
theorem body87 : d87.body = b87 := rfl
theorem res87 : d87.res = [.tmp 2] := rfl
theorem k87 : chkFn Try.prog Try.f87 d87 = true := by kernel_rfl

/-- guidevane/surge.floor -/
def b141k0 : DCode :=
 (.seq
  (.region [⟨(some 15), .mov, [.t 5], none, []⟩,
    ⟨(some 4), .mov, [.t 15], none, [0, 0]⟩] false)
  .ret)
def b141 : DCode :=
 (.seq
  (.region [⟨(some 4), .mov, [.c (.int .i64 0)], none, []⟩] false)
  (.seq
   (.region [⟨(some 6), .mov, [.t 0], none, []⟩,
     ⟨(some 7), .mov, [.t 1], none, []⟩,
     ⟨(some 8), (.bin .quo), [.t 6, .t 7], none, [0, 1]⟩,
     ⟨(some 5), .mov, [.t 8], none, [2, 0, 1, 2]⟩] false)
   (.seq
    (.seq
     (.region [⟨(some 9), .mov, [.t 0], none, []⟩,
       ⟨(some 10), .mov, [.t 1], none, []⟩,
       ⟨(some 11), (.bin .rem), [.t 9, .t 10], none, [0, 1]⟩,
       ⟨(some 12), (.bin .lss), [.t 11, .c (.int .i64 0)], none, [2]⟩] false)
     (.cond (.t 12)
      (.region [⟨(some 13), .mov, [.t 5], none, []⟩,
        ⟨(some 14), (.bin .sub), [.t 13, .c (.int .i64 1)], none, [0]⟩,
        ⟨(some 5), .mov, [.t 14], none, [1, 0, 1]⟩] false)
      .skip))
    (.keep [5] [] b141k0))))
def d141 : DFn := ⟨2, 16, [.tmp 4], b141⟩
theorem body141 : d141.body = b141 := rfl
theorem res141 : d141.res = [.tmp 4] := rfl
theorem k141 : chkFn Try.prog Try.f141 d141 = true := by kernel_rfl

/-- guidevane/surge.squared -/
def b140 : DCode :=
 (.seq
  (.region [⟨(some 2), .mov, [.c (.int .i64 0)], none, []⟩] false)
  (.seq
   (.region [⟨(some 3), .mov, [.t 0], none, []⟩,
     ⟨(some 4), .mov, [.t 0], none, []⟩,
     ⟨(some 5), .mov, [.t 0], none, []⟩,
     ⟨(some 6), (.un .neg), [.t 5], none, [2]⟩,
     ⟨(some 7), (.mm true), [.t 4, .t 6], none, [1, 3]⟩,
     ⟨(some 8), (.bin .mul), [.t 3, .t 7], none, [0, 4]⟩,
     ⟨(some 2), .mov, [.t 8], none, [5, 0, 1, 2, 3, 4, 5]⟩] false)
   .ret))
def d140 : DFn := ⟨1, 9, [.tmp 2], b140⟩
theorem body140 : d140.body = b140 := rfl
theorem res140 : d140.res = [.tmp 2] := rfl
theorem k140 : chkFn Try.prog Try.f140 d140 = true := by kernel_rfl

/-- guidevane/surge.isLevel -/
def b142 : DCode :=
 (.seq
  (.region [⟨(some 2), .mov, [.c (.bool false)], none, []⟩] false)
  (.seq
   (.region [⟨(some 3), .mov, [.t 0], none, []⟩,
     ⟨(some 4), .call, [.f 92, .t 3, .c (.int .i64 (-100000)), .c (.int .i64 100000)], none, [0]⟩,
     ⟨(some 2), .mov, [.t 4], none, [1, 1, 0, 1]⟩] false)
   .ret))
def d142 : DFn := ⟨1, 5, [.tmp 2], b142⟩
theorem body142 : d142.body = b142 := rfl
theorem res142 : d142.res = [.tmp 2] := rfl
theorem k142 : chkFn Try.prog Try.f142 d142 = true := by kernel_rfl

/-- guidevane/surge.isFlow -/
def b143 : DCode :=
 (.seq
  (.region [⟨(some 2), .mov, [.c (.bool false)], none, []⟩] false)
  (.seq
   (.region [⟨(some 3), .mov, [.t 0], none, []⟩,
     ⟨(some 4), .call, [.f 92, .t 3, .c (.int .i64 (-1000)), .c (.int .i64 1000)], none, [0]⟩,
     ⟨(some 2), .mov, [.t 4], none, [1, 1, 0, 1]⟩] false)
   .ret))
def d143 : DFn := ⟨1, 5, [.tmp 2], b143⟩
theorem body143 : d143.body = b143 := rfl
theorem res143 : d143.res = [.tmp 2] := rfl
theorem k143 : chkFn Try.prog Try.f143 d143 = true := by kernel_rfl

/-- guidevane/surge.isLoad -/
def b139 : DCode :=
 (.seq
  (.region [⟨(some 2), .mov, [.c (.bool false)], none, []⟩] false)
  (.seq
   (.region [⟨(some 3), .mov, [.t 0], none, []⟩,
     ⟨(some 4), .call, [.f 92, .t 3, .c (.int .i64 0), .c (.int .i64 1000)], none, [0]⟩,
     ⟨(some 2), .mov, [.t 4], none, [1, 1, 0, 1]⟩] false)
   .ret))
def d139 : DFn := ⟨1, 5, [.tmp 2], b139⟩
theorem body139 : d139.body = b139 := rfl
theorem res139 : d139.res = [.tmp 2] := rfl
theorem k139 : chkFn Try.prog Try.f139 d139 = true := by kernel_rfl

/-- guidevane/surge.CheckRules -/
def b18k0 : DCode :=
 (.seq
  (.region [⟨(some 35), (.faddr 2 true 2), [.t 1], none, []⟩,
    ⟨(some 36), (.faddr 0 false 1), [.t 35], none, [0]⟩,
    ⟨(some 37), (.load false 1), [.t 36], none, [1]⟩,
    ⟨(some 38), (.faddr 2 true 2), [.t 1], none, []⟩,
    ⟨(some 39), (.faddr 1 false 1), [.t 38], none, [3]⟩,
    ⟨(some 40), (.load false 1), [.t 39], none, [4]⟩,
    ⟨(some 41), (.bin .leq), [.t 37, .t 40], none, [2, 5]⟩,
    ⟨(some 42), .call, [.f 93, .t 41, .c (.int .i64 9)], none, [6]⟩,
    ⟨(some 43), (.faddr 2 true 2), [.t 1], none, []⟩,
    ⟨(some 44), (.faddr 1 false 1), [.t 43], none, [8]⟩,
    ⟨(some 45), (.load false 1), [.t 44], none, [9]⟩,
    ⟨(some 46), (.bin .mul), [.c (.int .i64 2001), .t 45], none, [10]⟩,
    ⟨(some 47), (.faddr 4 false 1), [.t 1], none, []⟩,
    ⟨(some 48), (.load false 1), [.t 47], none, [12]⟩,
    ⟨(some 49), (.bin .mul), [.c (.int .i64 4001), .t 48], none, [13]⟩,
    ⟨(some 50), (.bin .add), [.t 46, .t 49], none, [11, 14]⟩,
    ⟨(some 51), (.bin .add), [.t 50, .c (.int .i64 2000)], none, [15]⟩,
    ⟨(some 52), (.faddr 0 false 1), [.t 1], none, []⟩,
    ⟨(some 53), (.load false 1), [.t 52], none, [17]⟩,
    ⟨(some 54), (.bin .mul), [.c (.int .i64 1000), .t 53], none, [18]⟩,
    ⟨(some 55), (.bin .leq), [.t 51, .t 54], none, [16, 19]⟩,
    ⟨(some 56), .call, [.f 93, .t 55, .c (.int .i64 13)], none, [20, 7]⟩,
    ⟨(some 57), (.bsl 1), [.t 42, .t 56], none, [7, 21]⟩,
    ⟨(some 58), .call, [.f 87, .t 57], none, [22, 21]⟩,
    ⟨(some 2), .mov, [.t 58], none, [23, 23, 0, 1, 2, 3, 4, 5, 6, 7, 8, 9, 10, 11, 12, 13, 14, 15, 16, 17, 18, 19, 20, 21, 22, 23]⟩] true)
  .ret)
def b18 : DCode :=
 (.seq
  (.region [⟨(some 1), .box, [.t 0], none, []⟩,
    ⟨(some 2), .mov, [.c (.int .i64 0)], none, []⟩] false)
  (.seq
   (.region [⟨(some 3), .mov, [.f 91], none, []⟩] false)
   (.seq
    (.region [⟨(some 5), (.faddr 0 false 1), [.t 1], none, []⟩,
      ⟨(some 6), (.load false 1), [.t 5], none, [0]⟩,
      ⟨(some 7), .call, [.f 92, .t 6, .c (.int .i64 1), .c (.int .i64 1000)], none, [1]⟩,
      ⟨(some 8), .mov, [.t 7], none, [2, 2]⟩,
      ⟨(some 9), (.faddr 1 false 1), [.t 1], (some (8, true)), [3]⟩,
      ⟨(some 10), (.load false 1), [.t 9], (some (8, true)), [4, 3]⟩,
      ⟨(some 11), .call, [.f 92, .t 10, .c (.int .i64 1), .c (.int .i64 1000)], (some (8, true)), [5, 3, 3]⟩,
      ⟨(some 12), .pick, [.t 8, .t 11, .c (.bool false)], none, [3, 6]⟩,
      ⟨(some 13), .mov, [.t 12], none, [7, 6]⟩,
      ⟨(some 14), .mov, [.t 3], (some (13, true)), [8]⟩,
      ⟨(some 15), (.faddr 2 true 2), [.t 1], (some (13, true)), [8]⟩,
      ⟨(some 16), (.faddr 0 false 1), [.t 15], (some (13, true)), [10, 8]⟩,
      ⟨(some 17), (.load false 1), [.t 16], (some (13, true)), [11, 8]⟩,
      ⟨(some 18), .call, [.t 14, .t 17], (some (13, true)), [9, 12, 8, 8]⟩,
      ⟨(some 19), .pick, [.t 13, .t 18, .c (.bool false)], none, [8, 13]⟩,
      ⟨(some 20), .mov, [.t 19], none, [14, 13]⟩,
      ⟨(some 21), .mov, [.t 3], (some (20, true)), [15]⟩,
      ⟨(some 22), (.faddr 2 true 2), [.t 1], (some (20, true)), [15]⟩,
      ⟨(some 23), (.faddr 1 false 1), [.t 22], (some (20, true)), [17, 15]⟩,
      ⟨(some 24), (.load false 1), [.t 23], (some (20, true)), [18, 15]⟩,
      ⟨(some 25), .call, [.t 21, .t 24], (some (20, true)), [16, 19, 15, 15]⟩,
      ⟨(some 26), .pick, [.t 20, .t 25, .c (.bool false)], none, [15, 20]⟩,
      ⟨(some 27), .mov, [.t 26], none, [21, 20]⟩,
      ⟨(some 28), .mov, [.t 3], (some (27, true)), [22]⟩,
      ⟨(some 29), (.faddr 4 false 1), [.t 1], (some (27, true)), [22]⟩,
      ⟨(some 30), (.load false 1), [.t 29], (some (27, true)), [24, 22]⟩,
      ⟨(some 31), .call, [.t 28, .t 30], (some (27, true)), [23, 25, 22, 22]⟩,
      ⟨(some 32), .pick, [.t 27, .t 31, .c (.bool false)], none, [22, 26]⟩,
      ⟨(some 4), .mov, [.t 32], none, [27, 26, 0, 1, 2, 3, 4, 5, 6, 7, 8, 9, 10, 11, 12, 13, 14, 15, 16, 17, 18, 19, 20, 21, 22, 23, 24, 25, 26, 27]⟩] false)
    (.seq
     (.seq
      (.region [⟨(some 33), .mov, [.t 4], none, []⟩,
        ⟨(some 34), (.un .not), [.t 33], none, [0]⟩] false)
      (.cond (.t 34)
       (.seq
        (.region [⟨(some 2), .mov, [.c (.int .i64 2)], none, []⟩] false)
        .ret)
       .skip))
     (.keep [1] [1] b18k0)))))
def d18 : DFn := ⟨1, 59, [.tmp 2], b18⟩
theorem body18 : d18.body = b18 := rfl
theorem res18 : d18.res = [.tmp 2] := rfl
theorem k18 : chkFn Try.prog Try.f18 d18 = true := by kernel_rfl

/-- guidevane/surge.CheckRules$1 -/
def b91 : DCode :=
 (.seq
  (.region [⟨(some 2), .mov, [.c (.bool false)], none, []⟩] false)
  (.seq
   (.region [⟨(some 3), .mov, [.t 0], none, []⟩,
     ⟨(some 4), .call, [.f 92, .t 3, .c (.int .i64 0), .c (.int .i64 100)], none, [0]⟩,
     ⟨(some 2), .mov, [.t 4], none, [1, 1, 0, 1]⟩] false)
   .ret))
def d91 : DFn := ⟨1, 5, [.tmp 2], b91⟩
theorem body91 : d91.body = b91 := rfl
theorem res91 : d91.res = [.tmp 2] := rfl
theorem k91 : chkFn Try.prog Try.f91 d91 = true := by kernel_rfl

/-- guidevane/surge.stateErr -/
def b94 : DCode :=
 (.seq
  (.region [⟨(some 1), .box, [.t 0], none, []⟩,
    ⟨(some 2), .mov, [.c (.int .i64 0)], none, []⟩] false)
  (.seq
   (.region [⟨(some 3), (.faddr 0 false 1), [.t 1], none, []⟩,
     ⟨(some 4), (.load false 1), [.t 3], none, [0]⟩,
     ⟨(some 5), .call, [.f 142, .t 4], none, [1]⟩,
     ⟨(some 6), .mov, [.t 5], none, [2, 2]⟩,
     ⟨(some 7), (.faddr 1 false 1), [.t 1], (some (6, true)), [3]⟩,
     ⟨(some 8), (.load false 1), [.t 7], (some (6, true)), [4, 3]⟩,
     ⟨(some 9), .call, [.f 143, .t 8], (some (6, true)), [5, 3, 3]⟩,
     ⟨(some 10), .pick, [.t 6, .t 9, .c (.bool false)], none, [3, 6]⟩,
     ⟨(some 11), .call, [.f 93, .t 10, .c (.int .i64 2)], none, [7, 6]⟩,
     ⟨(some 2), .mov, [.t 11], none, [8, 8, 0, 1, 2, 3, 4, 5, 6, 7, 8]⟩] false)
   .ret))
def d94 : DFn := ⟨1, 12, [.tmp 2], b94⟩
theorem body94 : d94.body = b94 := rfl
theorem res94 : d94.res = [.tmp 2] := rfl
theorem k94 : chkFn Try.prog Try.f94 d94 = true := by kernel_rfl

/-- guidevane/surge.CheckState -/
def b20 : DCode :=
 (.seq
  (.region [⟨(some 2), .box, [.t 0], none, []⟩,
    ⟨(some 3), .box, [.t 1], none, []⟩,
    ⟨(some 4), .mov, [.c (.int .i64 0)], none, []⟩] false)
  (.seq
   (.region [⟨(some 5), (.load true 5), [.t 2], none, []⟩,
     ⟨(some 6), .call, [.f 18, .t 5], none, [0]⟩,
     ⟨(some 7), (.load true 2), [.t 3], none, []⟩,
     ⟨(some 8), .call, [.f 94, .t 7], none, [2, 1]⟩,
     ⟨(some 9), (.bsl 1), [.t 6, .t 8], none, [1, 3]⟩,
     ⟨(some 10), .call, [.f 87, .t 9], none, [4, 3]⟩,
     ⟨(some 4), .mov, [.t 10], none, [5, 5, 0, 1, 2, 3, 4, 5]⟩] true)
   .ret))
def d20 : DFn := ⟨2, 11, [.tmp 4], b20⟩
theorem body20 : d20.body = b20 := rfl
theorem res20 : d20.res = [.tmp 4] := rfl
theorem k20 : chkFn Try.prog Try.f20 d20 = true := by kernel_rfl

/-- guidevane/surge.loadErr -/
def b88 : DCode :=
 (.seq
  (.region [⟨(some 2), .mov, [.c (.int .i64 0)], none, []⟩] false)
  (.seq
   (.region [⟨(some 3), .mov, [.t 0], none, []⟩,
     ⟨(some 4), .call, [.f 139, .t 3], none, [0]⟩,
     ⟨(some 5), .call, [.f 93, .t 4, .c (.int .i64 2)], none, [1, 1]⟩,
     ⟨(some 2), .mov, [.t 5], none, [2, 2, 0, 1, 2]⟩] false)
   .ret))
def d88 : DFn := ⟨1, 6, [.tmp 2], b88⟩
theorem body88 : d88.body = b88 := rfl
theorem res88 : d88.res = [.tmp 2] := rfl
theorem k88 : chkFn Try.prog Try.f88 d88 = true := by kernel_rfl

/-- guidevane/surge.frictionErr -/
def b89 : DCode :=
 (.seq
  (.region [⟨(some 2), .box, [.t 0], none, []⟩,
    ⟨(some 4), .mov, [.c (.int .i64 0)], none, []⟩] false)
  (.seq
   (.region [⟨(some 5), .mov, [.t 1], none, []⟩,
     ⟨(some 6), (.faddr 2 true 2), [.t 2], none, []⟩,
     ⟨(some 7), (.faddr 0 false 1), [.t 6], none, [1]⟩,
     ⟨(some 8), (.load false 1), [.t 7], none, [2]⟩,
     ⟨(some 9), (.faddr 2 true 2), [.t 2], none, []⟩,
     ⟨(some 10), (.faddr 1 false 1), [.t 9], none, [4]⟩,
     ⟨(some 11), (.load false 1), [.t 10], none, [5]⟩,
     ⟨(some 12), .call, [.f 92, .t 5, .t 8, .t 11], none, [0, 3, 6]⟩,
     ⟨(some 13), .call, [.f 93, .t 12, .c (.int .i64 2)], none, [7, 7]⟩,
     ⟨(some 4), .mov, [.t 13], none, [8, 8, 0, 1, 2, 3, 4, 5, 6, 7, 8]⟩] false)
   .ret))
def d89 : DFn := ⟨2, 14, [.tmp 4], b89⟩
theorem body89 : d89.body = b89 := rfl
theorem res89 : d89.res = [.tmp 4] := rfl
theorem k89 : chkFn Try.prog Try.f89 d89 = true := by kernel_rfl

/-- (guidevane/surge.chamber).step -/
def b90 : DCode :=
 (.seq
  (.region [⟨(some 4), .box, [.t 0], none, []⟩,
    ⟨(some 5), .box, [.t 1], none, []⟩,
    ⟨(some 8), (.alloc [(.imm (.int .i64 0)), (.imm (.int .i64 0))]), [], none, []⟩] false)
  (.seq
   (.region [⟨(some 11), (.faddr 0 false 1), [.t 5], none, []⟩,
     ⟨(some 12), (.load false 1), [.t 11], none, [0]⟩,
     ⟨(some 13), .mov, [.t 3], none, []⟩,
     ⟨(some 14), (.faddr 1 false 1), [.t 5], none, []⟩,
     ⟨(some 15), (.load false 1), [.t 14], none, [3]⟩,
     ⟨(some 16), .call, [.f 140, .t 15], none, [4]⟩,
     ⟨(some 17), (.bin .mul), [.t 13, .t 16], none, [2, 5]⟩,
     ⟨(some 18), (.bin .quo), [.t 17, .c (.int .i64 1000)], none, [6]⟩,
     ⟨(some 19), (.bin .add), [.t 12, .t 18], none, [1, 7]⟩,
     ⟨(some 20), (.faddr 0 true 5), [.t 4], none, []⟩,
     ⟨(some 21), (.faddr 4 false 1), [.t 20], none, [9]⟩,
     ⟨(some 22), (.load false 1), [.t 21], none, [10]⟩,
     ⟨(some 23), (.faddr 1 false 1), [.t 5], none, []⟩,
     ⟨(some 24), (.load false 1), [.t 23], none, [12]⟩,
     ⟨(some 25), .mov, [.t 2], none, []⟩,
     ⟨(some 26), (.bin .sub), [.t 24, .t 25], none, [13, 14]⟩,
     ⟨(some 27), .call, [.f 140, .t 26], none, [15, 5]⟩,
     ⟨(some 28), (.bin .mul), [.t 22, .t 27], none, [11, 16]⟩,
     ⟨(some 29), (.bin .quo), [.t 28, .c (.int .i64 1000)], none, [17]⟩,
     ⟨(some 30), (.bin .add), [.t 19, .t 29], none, [8, 18]⟩,
     ⟨(some 9), .mov, [.t 30], none, [19, 16, 0, 1, 2, 3, 4, 5, 6, 7, 8, 9, 10, 11, 12, 13, 14, 15, 16, 17, 18, 19]⟩] true)
   (.seq
    (.region [⟨(some 31), (.faddr 1 false 1), [.t 5], none, []⟩,
      ⟨(some 32), (.load false 1), [.t 31], none, [0]⟩,
      ⟨(some 33), .mov, [.t 9], none, []⟩,
      ⟨(some 34), (.faddr 0 true 5), [.t 4], none, []⟩,
      ⟨(some 35), (.faddr 0 false 1), [.t 34], none, [3]⟩,
      ⟨(some 36), (.load false 1), [.t 35], none, [4]⟩,
      ⟨(some 37), .call, [.f 141, .t 33, .t 36], none, [2, 5]⟩,
      ⟨(some 38), (.bin .sub), [.t 32, .t 37], none, [1, 6]⟩,
      ⟨(some 39), (.mm true), [.c (.int .i64 (-1000)), .t 38], none, [7]⟩,
      ⟨(some 40), (.mm false), [.c (.int .i64 1000), .t 39], none, [8]⟩,
      ⟨(some 10), .mov, [.t 40], none, [9, 6, 0, 1, 2, 3, 4, 5, 6, 7, 8, 9]⟩] true)
    (.seq
     (.region [⟨(some 41), (.faddr 0 false 1), [.t 5], none, []⟩,
       ⟨(some 42), (.load false 1), [.t 41], none, [0]⟩,
       ⟨(some 43), .mov, [.t 10], none, []⟩,
       ⟨(some 44), .mov, [.t 2], none, []⟩,
       ⟨(some 45), (.bin .sub), [.t 43, .t 44], none, [2, 3]⟩,
       ⟨(some 46), (.faddr 0 true 5), [.t 4], none, []⟩,
       ⟨(some 47), (.faddr 1 false 1), [.t 46], none, [5]⟩,
       ⟨(some 48), (.load false 1), [.t 47], none, [6]⟩,
       ⟨(some 49), .call, [.f 141, .t 45, .t 48], none, [4, 7]⟩,
       ⟨(some 50), (.bin .add), [.t 42, .t 49], none, [1, 8]⟩,
       ⟨(some 51), .mov, [.t 10], none, []⟩,
       ⟨(some 52), (.build [(.imm (.int .i64 0)), (.imm (.int .i64 0))] [(0, 1), (1, 1)]), [.t 50, .t 51], none, [9, 10]⟩,
       ⟨none, (.store 2), [.t 8, .t 52], none, [11, 8, 0, 1, 2, 3, 4, 5, 6, 7, 8, 9, 10, 11]⟩] true)
     .ret))))
def d90 : DFn := ⟨4, 53, [.cell 8 true 2], b90⟩
theorem body90 : d90.body = b90 := rfl
theorem res90 : d90.res = [.cell 8 true 2] := rfl
theorem k90 : chkFn Try.prog Try.f90 d90 = true := by kernel_rfl

/-- guidevane/surge.Stepped -/
def b16k0 : DCode :=
 (.seq
  (.region [⟨(some 25), (.load true 5), [.t 3], none, []⟩,
    ⟨(some 26), (.build [(.imm (.int .i64 0)), (.imm (.int .i64 0)), (.imm (.int .i64 0)), (.imm (.int .i64 0)), (.imm (.int .i64 0))] [(0, 5)]), [.t 25], none, [0]⟩,
    ⟨(some 27), (.load true 2), [.t 4], none, []⟩,
    ⟨(some 28), (.faddr 0 false 1), [.t 5], none, []⟩,
    ⟨(some 29), (.load false 1), [.t 28], none, [3]⟩,
    ⟨(some 30), (.faddr 1 false 1), [.t 5], none, []⟩,
    ⟨(some 31), (.load false 1), [.t 30], none, [5]⟩,
    ⟨(some 32), .call, [.f 90, .t 26, .t 27, .t 29, .t 31], none, [1, 2, 4, 6]⟩,
    ⟨none, (.store 2), [.t 6, .t 32], none, [7, 7, 0, 1, 2, 3, 4, 5, 6, 7]⟩,
    ⟨(some 7), .mov, [.c (.int .i64 0)], none, [8, 0, 1, 2, 3, 4, 5, 6, 7, 8]⟩] false)
  .ret)
def b16 : DCode :=
 (.seq
  (.region [⟨(some 3), .box, [.t 0], none, []⟩,
    ⟨(some 4), .box, [.t 1], none, []⟩,
    ⟨(some 5), .box, [.t 2], none, []⟩,
    ⟨(some 6), (.alloc [(.imm (.int .i64 0)), (.imm (.int .i64 0))]), [], none, []⟩,
    ⟨(some 7), .mov, [.c (.int .i64 0)], none, []⟩] false)
  (.seq
   (.seq
    (.region [⟨(some 9), (.load true 5), [.t 3], none, []⟩,
      ⟨(some 10), (.load true 2), [.t 4], none, []⟩,
      ⟨(some 11), .call, [.f 20, .t 9, .t 10], none, [0, 1]⟩,
      ⟨(some 12), (.faddr 0 false 1), [.t 5], none, []⟩,
      ⟨(some 13), (.load false 1), [.t 12], none, [3]⟩,
      ⟨(some 14), .call, [.f 88, .t 13], none, [4, 2]⟩,
      ⟨(some 15), (.load true 5), [.t 3], none, []⟩,
      ⟨(some 16), (.faddr 1 false 1), [.t 5], none, []⟩,
      ⟨(some 17), (.load false 1), [.t 16], none, [7]⟩,
      ⟨(some 18), .call, [.f 89, .t 15, .t 17], none, [6, 8, 5]⟩,
      ⟨(some 19), (.bsl 1), [.t 11, .t 14, .t 18], none, [2, 5, 9]⟩,
      ⟨(some 20), .call, [.f 87, .t 19], none, [10, 9]⟩,
      ⟨(some 8), .mov, [.t 20], none, [11, 11, 0, 1, 2, 3, 4, 5, 6, 7, 8, 9, 10, 11]⟩] true)
    (.seq
     (.region [⟨(some 21), .mov, [.t 8], none, []⟩,
       ⟨(some 22), (.bin .neq), [.t 21, .c (.int .i64 0)], none, [0]⟩] false)
     (.cond (.t 22)
      (.seq
       (.region [⟨(some 23), (.build [(.imm (.int .i64 0)), (.imm (.int .i64 0))] []), [], none, []⟩,
         ⟨(some 24), .mov, [.t 8], none, []⟩,
         ⟨none, (.store 2), [.t 6, .t 23], none, [0, 0]⟩,
         ⟨(some 7), .mov, [.t 24], none, [1, 2, 0, 1, 2]⟩] false)
       .ret)
      .skip)))
   (.keep [3, 4, 5, 6] [3, 4, 5, 6] b16k0)))
def d16 : DFn := ⟨3, 33, [.cell 6 true 2, .tmp 7], b16⟩
theorem body16 : d16.body = b16 := rfl
theorem res16 : d16.res = [.cell 6 true 2, .tmp 7] := rfl
theorem k16 : chkFn Try.prog Try.f16 d16 = true := by kernel_rfl

/-- guidevane/surge.boxErr -/
def b118 : DCode :=
 (.seq
  (.region [⟨(some 1), .box, [.t 0], none, []⟩,
    ⟨(some 2), .mov, [.c (.int .i64 0)], none, []⟩] false)
  (.seq
   (.region [⟨(some 3), (.faddr 0 true 2), [.t 1], none, []⟩,
     ⟨(some 4), (.faddr 0 false 1), [.t 3], none, [0]⟩,
     ⟨(some 5), (.load false 1), [.t 4], none, [1]⟩,
     ⟨(some 6), .call, [.f 142, .t 5], none, [2]⟩,
     ⟨(some 7), .mov, [.t 6], none, [3, 3]⟩,
     ⟨(some 8), (.faddr 0 true 2), [.t 1], (some (7, true)), [4]⟩,
     ⟨(some 9), (.faddr 1 false 1), [.t 8], (some (7, true)), [5, 4]⟩,
     ⟨(some 10), (.load false 1), [.t 9], (some (7, true)), [6, 4]⟩,
     ⟨(some 11), .call, [.f 142, .t 10], (some (7, true)), [7, 4, 4]⟩,
     ⟨(some 12), .pick, [.t 7, .t 11, .c (.bool false)], none, [4, 8]⟩,
     ⟨(some 13), .call, [.f 93, .t 12, .c (.int .i64 2)], none, [9, 8]⟩,
     ⟨(some 14), (.faddr 0 true 2), [.t 1], none, []⟩,
     ⟨(some 15), (.faddr 0 false 1), [.t 14], none, [11]⟩,
     ⟨(some 16), (.load false 1), [.t 15], none, [12]⟩,
     ⟨(some 17), (.faddr 0 true 2), [.t 1], none, []⟩,
     ⟨(some 18), (.faddr 1 false 1), [.t 17], none, [14]⟩,
     ⟨(some 19), (.load false 1), [.t 18], none, [15]⟩,
     ⟨(some 20), (.bin .leq), [.t 16, .t 19], none, [13, 16]⟩,
     ⟨(some 21), .call, [.f 93, .t 20, .c (.int .i64 9)], none, [17, 10]⟩,
     ⟨(some 22), (.faddr 2 true 2), [.t 1], none, []⟩,
     ⟨(some 23), (.faddr 0 false 1), [.t 22], none, [19]⟩,
     ⟨(some 24), (.load false 1), [.t 23], none, [20]⟩,
     ⟨(some 25), .call, [.f 143, .t 24], none, [21, 18]⟩,
     ⟨(some 26), .mov, [.t 25], none, [22, 22]⟩,
     ⟨(some 27), (.faddr 2 true 2), [.t 1], (some (26, true)), [23]⟩,
     ⟨(some 28), (.faddr 1 false 1), [.t 27], (some (26, true)), [24, 23]⟩,
     ⟨(some 29), (.load false 1), [.t 28], (some (26, true)), [25, 23]⟩,
     ⟨(some 30), .call, [.f 143, .t 29], (some (26, true)), [26, 23, 23]⟩,
     ⟨(some 31), .pick, [.t 26, .t 30, .c (.bool false)], none, [23, 27]⟩,
     ⟨(some 32), .call, [.f 93, .t 31, .c (.int .i64 2)], none, [28, 27]⟩,
     ⟨(some 33), (.faddr 2 true 2), [.t 1], none, []⟩,
     ⟨(some 34), (.faddr 0 false 1), [.t 33], none, [30]⟩,
     ⟨(some 35), (.load false 1), [.t 34], none, [31]⟩,
     ⟨(some 36), (.faddr 2 true 2), [.t 1], none, []⟩,
     ⟨(some 37), (.faddr 1 false 1), [.t 36], none, [33]⟩,
     ⟨(some 38), (.load false 1), [.t 37], none, [34]⟩,
     ⟨(some 39), (.bin .leq), [.t 35, .t 38], none, [32, 35]⟩,
     ⟨(some 40), .call, [.f 93, .t 39, .c (.int .i64 9)], none, [36, 29]⟩,
     ⟨(some 41), (.bsl 1), [.t 13, .t 21, .t 32, .t 40], none, [10, 18, 29, 37]⟩,
     ⟨(some 42), .call, [.f 87, .t 41], none, [38, 37]⟩,
     ⟨(some 2), .mov, [.t 42], none, [39, 39, 0, 1, 2, 3, 4, 5, 6, 7, 8, 9, 10, 11, 12, 13, 14, 15, 16, 17, 18, 19, 20, 21, 22, 23, 24, 25, 26, 27, 28, 29, 30, 31, 32, 33, 34, 35, 36, 37, 38, 39]⟩] true)
   .ret))
def d118 : DFn := ⟨1, 43, [.tmp 2], b118⟩
theorem body118 : d118.body = b118 := rfl
theorem res118 : d118.res = [.tmp 2] := rfl
theorem k118 : chkFn Try.prog Try.f118 d118 = true := by kernel_rfl

/-- guidevane/surge.CheckBox -/
def b55 : DCode :=
 (.seq
  (.region [⟨(some 2), .box, [.t 0], none, []⟩,
    ⟨(some 3), .box, [.t 1], none, []⟩,
    ⟨(some 4), .mov, [.c (.int .i64 0)], none, []⟩] false)
  (.seq
   (.region [⟨(some 5), (.load true 5), [.t 2], none, []⟩,
     ⟨(some 6), .call, [.f 18, .t 5], none, [0]⟩,
     ⟨(some 7), (.load true 4), [.t 3], none, []⟩,
     ⟨(some 8), .call, [.f 118, .t 7], none, [2, 1]⟩,
     ⟨(some 9), (.bsl 1), [.t 6, .t 8], none, [1, 3]⟩,
     ⟨(some 10), .call, [.f 87, .t 9], none, [4, 3]⟩,
     ⟨(some 4), .mov, [.t 10], none, [5, 5, 0, 1, 2, 3, 4, 5]⟩] true)
   .ret))
def d55 : DFn := ⟨2, 11, [.tmp 4], b55⟩
theorem body55 : d55.body = b55 := rfl
theorem res55 : d55.res = [.tmp 4] := rfl
theorem k55 : chkFn Try.prog Try.f55 d55 = true := by kernel_rfl

/-- (guidevane/surge.chamber).boxStep -/
def b98 : DCode :=
 (.seq
  (.region [⟨(some 3), .box, [.t 0], none, []⟩,
    ⟨(some 4), .box, [.t 1], none, []⟩,
    ⟨(some 5), .box, [.t 2], none, []⟩,
    ⟨(some 6), (.alloc [(.imm (.int .i64 0)), (.imm (.int .i64 0)), (.imm (.int .i64 0)), (.imm (.int .i64 0))]), [], none, []⟩] false)
  (.seq
   (.freeze [3, 5]
    (.region [⟨(some 16), (.mkfn 145 0), [.t 3, .t 5], none, []⟩,
      ⟨(some 7), .mov, [.t 16], none, [0, 0]⟩] false))
   (.seq
    (.region [⟨(some 18), .mov, [.t 7], none, []⟩,
      ⟨(some 19), (.faddr 0 true 2), [.t 4], none, []⟩,
      ⟨(some 20), (.faddr 0 false 1), [.t 19], none, [1]⟩,
      ⟨(some 21), (.load false 1), [.t 20], none, [2]⟩,
      ⟨(some 22), (.faddr 2 true 2), [.t 4], none, []⟩,
      ⟨(some 23), (.faddr 0 false 1), [.t 22], none, [4]⟩,
      ⟨(some 24), (.load false 1), [.t 23], none, [5]⟩,
      ⟨(some 25), .call, [.t 18, .t 21, .t 24], none, [0, 3, 6]⟩,
      ⟨(some 17), .mov, [.t 25], none, [7]⟩,
      ⟨(some 26), (.ext 0), [.t 17], none, [8]⟩,
      ⟨(some 27), (.ext 1), [.t 17], none, [8]⟩,
      ⟨(some 8), (.alloc [(.imm (.int .i64 0)), (.imm (.int .i64 0))]), [], none, []⟩,
      ⟨(some 9), (.alloc [(.imm (.int .i64 0)), (.imm (.int .i64 0))]), [], none, []⟩,
      ⟨none, (.store 2), [.t 8, .t 26], none, [11, 9, 7, 0, 1, 2, 3, 4, 5, 6, 7, 8, 9, 11, 12]⟩,
      ⟨none, (.store 2), [.t 9, .t 27], none, [12, 10, 13, 0, 1, 2, 3, 4, 5, 6, 7, 8, 9, 10, 11, 12, 13]⟩] false)
    (.seq
     (.region [⟨(some 29), .mov, [.t 7], none, []⟩,
       ⟨(some 30), (.faddr 0 true 2), [.t 4], none, []⟩,
       ⟨(some 31), (.faddr 1 false 1), [.t 30], none, [1]⟩,
       ⟨(some 32), (.load false 1), [.t 31], none, [2]⟩,
       ⟨(some 33), (.faddr 2 true 2), [.t 4], none, []⟩,
       ⟨(some 34), (.faddr 1 false 1), [.t 33], none, [4]⟩,
       ⟨(some 35), (.load false 1), [.t 34], none, [5]⟩,
       ⟨(some 36), .call, [.t 29, .t 32, .t 35], none, [0, 3, 6]⟩,
       ⟨(some 28), .mov, [.t 36], none, [7]⟩,
       ⟨(some 37), (.ext 0), [.t 28], none, [8]⟩,
       ⟨(some 38), (.ext 1), [.t 28], none, [8]⟩,
       ⟨(some 10), (.alloc [(.imm (.int .i64 0)), (.imm (.int .i64 0))]), [], none, []⟩,
       ⟨(some 11), (.alloc [(.imm (.int .i64 0)), (.imm (.int .i64 0))]), [], none, []⟩,
       ⟨none, (.store 2), [.t 10, .t 37], none, [11, 9, 7, 0, 1, 2, 3, 4, 5, 6, 7, 8, 9, 11, 12]⟩,
       ⟨none, (.store 2), [.t 11, .t 38], none, [12, 10, 13, 0, 1, 2, 3, 4, 5, 6, 7, 8, 9, 10, 11, 12, 13]⟩] false)
     (.seq
      (.region [⟨(some 40), .mov, [.t 7], none, []⟩,
        ⟨(some 41), (.faddr 0 true 2), [.t 4], none, []⟩,
        ⟨(some 42), (.faddr 1 false 1), [.t 41], none, [1]⟩,
        ⟨(some 43), (.load false 1), [.t 42], none, [2]⟩,
        ⟨(some 44), (.faddr 2 true 2), [.t 4], none, []⟩,
        ⟨(some 45), (.faddr 0 false 1), [.t 44], none, [4]⟩,
        ⟨(some 46), (.load false 1), [.t 45], none, [5]⟩,
        ⟨(some 47), .call, [.t 40, .t 43, .t 46], none, [0, 3, 6]⟩,
        ⟨(some 39), .mov, [.t 47], none, [7]⟩,
        ⟨(some 48), (.ext 0), [.t 39], none, [8]⟩,
        ⟨(some 49), (.ext 1), [.t 39], none, [8]⟩,
        ⟨(some 12), (.alloc [(.imm (.int .i64 0)), (.imm (.int .i64 0))]), [], none, []⟩,
        ⟨(some 13), (.alloc [(.imm (.int .i64 0)), (.imm (.int .i64 0))]), [], none, []⟩,
        ⟨none, (.store 2), [.t 12, .t 48], none, [11, 9, 7, 0, 1, 2, 3, 4, 5, 6, 7, 8, 9, 11, 12]⟩,
        ⟨none, (.store 2), [.t 13, .t 49], none, [12, 10, 13, 0, 1, 2, 3, 4, 5, 6, 7, 8, 9, 10, 11, 12, 13]⟩] false)
      (.seq
       (.region [⟨(some 51), .mov, [.t 7], none, []⟩,
         ⟨(some 52), (.faddr 0 true 2), [.t 4], none, []⟩,
         ⟨(some 53), (.faddr 0 false 1), [.t 52], none, [1]⟩,
         ⟨(some 54), (.load false 1), [.t 53], none, [2]⟩,
         ⟨(some 55), (.faddr 2 true 2), [.t 4], none, []⟩,
         ⟨(some 56), (.faddr 1 false 1), [.t 55], none, [4]⟩,
         ⟨(some 57), (.load false 1), [.t 56], none, [5]⟩,
         ⟨(some 58), .call, [.t 51, .t 54, .t 57], none, [0, 3, 6]⟩,
         ⟨(some 50), .mov, [.t 58], none, [7]⟩,
         ⟨(some 59), (.ext 0), [.t 50], none, [8]⟩,
         ⟨(some 60), (.ext 1), [.t 50], none, [8]⟩,
         ⟨(some 14), (.alloc [(.imm (.int .i64 0)), (.imm (.int .i64 0))]), [], none, []⟩,
         ⟨(some 15), (.alloc [(.imm (.int .i64 0)), (.imm (.int .i64 0))]), [], none, []⟩,
         ⟨none, (.store 2), [.t 14, .t 59], none, [11, 9, 7, 0, 1, 2, 3, 4, 5, 6, 7, 8, 9, 11, 12]⟩,
         ⟨none, (.store 2), [.t 15, .t 60], none, [12, 10, 13, 0, 1, 2, 3, 4, 5, 6, 7, 8, 9, 10, 11, 12, 13]⟩] false)
       (.seq
        (.region [⟨(some 61), (.faddr 0 false 1), [.t 8], none, []⟩,
          ⟨(some 62), (.load false 1), [.t 61], none, [0]⟩,
          ⟨(some 63), (.faddr 0 false 1), [.t 11], none, []⟩,
          ⟨(some 64), (.load false 1), [.t 63], none, [2]⟩,
          ⟨(some 65), (.build [(.imm (.int .i64 0)), (.imm (.int .i64 0))] [(0, 1), (1, 1)]), [.t 62, .t 64], none, [1, 3]⟩,
          ⟨(some 66), (.faddr 1 false 1), [.t 12], none, []⟩,
          ⟨(some 67), (.load false 1), [.t 66], none, [5]⟩,
          ⟨(some 68), (.faddr 1 false 1), [.t 15], none, []⟩,
          ⟨(some 69), (.load false 1), [.t 68], none, [7]⟩,
          ⟨(some 70), (.build [(.imm (.int .i64 0)), (.imm (.int .i64 0))] [(0, 1), (1, 1)]), [.t 67, .t 69], none, [6, 8]⟩,
          ⟨(some 71), (.build [(.imm (.int .i64 0)), (.imm (.int .i64 0)), (.imm (.int .i64 0)), (.imm (.int .i64 0))] [(0, 2), (2, 2)]), [.t 65, .t 70], none, [4, 9]⟩,
          ⟨none, (.store 4), [.t 6, .t 71], none, [10, 0, 1, 2, 3, 4, 5, 6, 7, 8, 9, 10]⟩] false)
        .ret)))))))
def d98 : DFn := ⟨3, 72, [.cell 6 true 4], b98⟩
theorem body98 : d98.body = b98 := rfl
theorem res98 : d98.res = [.cell 6 true 4] := rfl
theorem k98 : chkFn Try.prog Try.f98 d98 = true := by kernel_rfl

/-- (guidevane/surge.chamber).boxStep$1 -/
def b145 : DCode :=
 (.seq
  (.region [⟨(some 6), (.alloc [(.imm (.int .i64 0)), (.imm (.int .i64 0))]), [], none, []⟩,
    ⟨(some 7), (.alloc [(.imm (.int .i64 0)), (.imm (.int .i64 0))]), [], none, []⟩] false)
  (.seq
   (.region [⟨(some 11), .mov, [.t 0], none, []⟩,
     ⟨(some 12), .mov, [.t 1], none, []⟩,
     ⟨(some 13), (.build [(.imm (.int .i64 0)), (.imm (.int .i64 0))] [(0, 1), (1, 1)]), [.t 11, .t 12], none, [0, 1]⟩,
     ⟨(some 8), (.alloc [(.imm (.int .i64 0)), (.imm (.int .i64 0))]), [], none, []⟩,
     ⟨none, (.store 2), [.t 8, .t 13], none, [3, 2, 0, 1, 2, 3]⟩] false)
   (.seq
    (.region [⟨(some 14), (.load true 5), [.t 2], none, []⟩,
      ⟨(some 15), (.load true 2), [.t 8], none, []⟩,
      ⟨(some 16), (.load false 1), [.t 3], none, []⟩,
      ⟨(some 17), (.faddr 0 true 5), [.t 2], none, []⟩,
      ⟨(some 18), (.faddr 2 true 2), [.t 17], none, [3]⟩,
      ⟨(some 19), (.faddr 0 false 1), [.t 18], none, [4]⟩,
      ⟨(some 20), (.load false 1), [.t 19], none, [5]⟩,
      ⟨(some 21), .call, [.f 90, .t 14, .t 15, .t 16, .t 20], none, [0, 1, 2, 6]⟩,
      ⟨(some 22), (.load true 5), [.t 2], none, []⟩,
      ⟨(some 23), (.load true 2), [.t 8], none, []⟩,
      ⟨(some 24), (.load false 1), [.t 3], none, []⟩,
      ⟨(some 25), (.faddr 0 true 5), [.t 2], none, []⟩,
      ⟨(some 26), (.faddr 2 true 2), [.t 25], none, [11]⟩,
      ⟨(some 27), (.faddr 1 false 1), [.t 26], none, [12]⟩,
      ⟨(some 28), (.load false 1), [.t 27], none, [13]⟩,
      ⟨(some 29), .call, [.f 90, .t 22, .t 23, .t 24, .t 28], none, [8, 9, 10, 14, 7]⟩,
      ⟨(some 9), (.alloc [(.imm (.int .i64 0)), (.imm (.int .i64 0))]), [], none, []⟩,
      ⟨(some 10), (.alloc [(.imm (.int .i64 0)), (.imm (.int .i64 0))]), [], none, []⟩,
      ⟨none, (.store 2), [.t 9, .t 21], none, [16, 7, 15, 0, 1, 2, 3, 4, 5, 6, 7, 16, 17]⟩,
      ⟨none, (.store 2), [.t 10, .t 29], none, [17, 15, 18, 0, 1, 2, 3, 4, 5, 6, 7, 8, 9, 10, 11, 12, 13, 14, 15, 16, 17, 18]⟩] true)
    (.seq
     (.region [⟨(some 30), (.faddr 0 false 1), [.t 9], none, []⟩,
       ⟨(some 31), (.load false 1), [.t 30], none, [0]⟩,
       ⟨(some 32), (.faddr 0 false 1), [.t 10], none, []⟩,
       ⟨(some 33), (.load false 1), [.t 32], none, [2]⟩,
       ⟨(some 34), (.mm false), [.t 31, .t 33], none, [1, 3]⟩,
       ⟨(some 35), (.faddr 1 false 1), [.t 9], none, []⟩,
       ⟨(some 36), (.load false 1), [.t 35], none, [5]⟩,
       ⟨(some 37), (.faddr 1 false 1), [.t 10], none, []⟩,
       ⟨(some 38), (.load false 1), [.t 37], none, [7]⟩,
       ⟨(some 39), (.mm false), [.t 36, .t 38], none, [6, 8]⟩,
       ⟨(some 40), (.build [(.imm (.int .i64 0)), (.imm (.int .i64 0))] [(0, 1), (1, 1)]), [.t 34, .t 39], none, [4, 9]⟩,
       ⟨none, (.store 2), [.t 6, .t 40], none, [10, 0, 1, 2, 3, 4, 5, 6, 7, 8, 9, 10]⟩] false)
     (.seq
      (.region [⟨(some 41), (.faddr 0 false 1), [.t 9], none, []⟩,
        ⟨(some 42), (.load false 1), [.t 41], none, [0]⟩,
        ⟨(some 43), (.faddr 0 false 1), [.t 10], none, []⟩,
        ⟨(some 44), (.load false 1), [.t 43], none, [2]⟩,
        ⟨(some 45), (.mm true), [.t 42, .t 44], none, [1, 3]⟩,
        ⟨(some 46), (.faddr 1 false 1), [.t 9], none, []⟩,
        ⟨(some 47), (.load false 1), [.t 46], none, [5]⟩,
        ⟨(some 48), (.faddr 1 false 1), [.t 10], none, []⟩,
        ⟨(some 49), (.load false 1), [.t 48], none, [7]⟩,
        ⟨(some 50), (.mm true), [.t 47, .t 49], none, [6, 8]⟩,
        ⟨(some 51), (.build [(.imm (.int .i64 0)), (.imm (.int .i64 0))] [(0, 1), (1, 1)]), [.t 45, .t 50], none, [4, 9]⟩,
        ⟨none, (.store 2), [.t 7, .t 51], none, [10, 0, 1, 2, 3, 4, 5, 6, 7, 8, 9, 10]⟩] false)
      (.seq
       (.region [⟨(some 52), (.loadf true 2 [6]), [.t 6], none, []⟩,
         ⟨(some 53), (.loadf true 2 [7]), [.t 7], none, []⟩,
         ⟨none, (.storef 2 [6]), [.t 6, .t 52], none, [0, 0]⟩,
         ⟨none, (.storef 2 [7]), [.t 7, .t 53], none, [1, 2, 0, 1, 2]⟩] true)
       .ret))))))
def d145 : DFn := ⟨4, 54, [.cell 6 true 2, .cell 7 true 2], b145⟩
theorem body145 : d145.body = b145 := rfl
theorem res145 : d145.res = [.cell 6 true 2, .cell 7 true 2] := rfl
theorem k145 : chkFn Try.prog Try.f145 d145 = true := by kernel_rfl

/-- guidevane/surge.BoxStep -/
def b25k0 : DCode :=
 (.seq
  (.region [⟨(some 20), (.load true 5), [.t 3], none, []⟩,
    ⟨(some 21), (.build [(.imm (.int .i64 0)), (.imm (.int .i64 0)), (.imm (.int .i64 0)), (.imm (.int .i64 0)), (.imm (.int .i64 0))] [(0, 5)]), [.t 20], none, [0]⟩,
    ⟨(some 22), (.load true 4), [.t 4], none, []⟩,
    ⟨(some 23), .mov, [.t 2], none, []⟩,
    ⟨(some 24), .call, [.f 98, .t 21, .t 22, .t 23], none, [1, 2, 3]⟩,
    ⟨none, (.store 4), [.t 6, .t 24], none, [4, 4, 0, 1, 2, 3, 4]⟩,
    ⟨(some 7), .mov, [.c (.int .i64 0)], none, [5, 0, 1, 2, 3, 4, 5]⟩] false)
  .ret)
def b25 : DCode :=
 (.seq
  (.region [⟨(some 3), .box, [.t 0], none, []⟩,
    ⟨(some 4), .box, [.t 1], none, []⟩,
    ⟨(some 6), (.alloc [(.imm (.int .i64 0)), (.imm (.int .i64 0)), (.imm (.int .i64 0)), (.imm (.int .i64 0))]), [], none, []⟩,
    ⟨(some 7), .mov, [.c (.int .i64 0)], none, []⟩] false)
  (.seq
   (.seq
    (.region [⟨(some 9), (.load true 5), [.t 3], none, []⟩,
      ⟨(some 10), (.load true 4), [.t 4], none, []⟩,
      ⟨(some 11), .call, [.f 55, .t 9, .t 10], none, [0, 1]⟩,
      ⟨(some 12), .mov, [.t 2], none, []⟩,
      ⟨(some 13), .call, [.f 88, .t 12], none, [3, 2]⟩,
      ⟨(some 14), (.bsl 1), [.t 11, .t 13], none, [2, 4]⟩,
      ⟨(some 15), .call, [.f 87, .t 14], none, [5, 4]⟩,
      ⟨(some 8), .mov, [.t 15], none, [6, 6, 0, 1, 2, 3, 4, 5, 6]⟩] false)
    (.seq
     (.region [⟨(some 16), .mov, [.t 8], none, []⟩,
       ⟨(some 17), (.bin .neq), [.t 16, .c (.int .i64 0)], none, [0]⟩] false)
     (.cond (.t 17)
      (.seq
       (.region [⟨(some 18), (.build [(.imm (.int .i64 0)), (.imm (.int .i64 0)), (.imm (.int .i64 0)), (.imm (.int .i64 0))] []), [], none, []⟩,
         ⟨(some 19), .mov, [.t 8], none, []⟩,
         ⟨none, (.store 4), [.t 6, .t 18], none, [0, 0]⟩,
         ⟨(some 7), .mov, [.t 19], none, [1, 2, 0, 1, 2]⟩] false)
       .ret)
      .skip)))
   (.keep [2, 3, 4, 6] [3, 4, 6] b25k0)))
def d25 : DFn := ⟨3, 25, [.cell 6 true 4, .tmp 7], b25⟩
theorem body25 : d25.body = b25 := rfl
theorem res25 : d25.res = [.cell 6 true 4, .tmp 7] := rfl
theorem k25 : chkFn Try.prog Try.f25 d25 = true := by kernel_rfl

/-- (guidevane/surge.chamber).run -/
def b115 : DCode :=
 (.seq
  (.region [⟨(some 4), .box, [.t 0], none, []⟩,
    ⟨(some 5), .box, [.t 1], none, []⟩,
    ⟨(some 6), .box, [.t 2], none, []⟩,
    ⟨(some 7), .box, [.t 3], none, []⟩,
    ⟨(some 8), .mov, [.c .nilf], none, []⟩] false)
  (.seq
   (.freeze [4, 5, 6, 7]
    (.region [⟨(some 9), (.mkfn 154 0), [.t 5, .t 6, .t 4, .t 7], none, []⟩,
      ⟨(some 8), .mov, [.t 9], none, [0, 0]⟩] false))
   .ret))
def d115 : DFn := ⟨4, 10, [.tmp 8], b115⟩
theorem body115 : d115.body = b115 := rfl
theorem res115 : d115.res = [.tmp 8] := rfl
theorem k115 : chkFn Try.prog Try.f115 d115 = true := by kernel_rfl

/-- (guidevane/surge.chamber).run$1 -/
def b154k0 : DCode :=
 (.region [⟨(some 25), (.bin .add), [.t 12, .c (.int .i64 1)], none, []⟩,
   ⟨(some 12), .mov, [.t 25], none, [0]⟩] false)
def b154k1 : DCode :=
 (.seq
  (.block 1
   (.seq
    (.region [⟨(some 14), (.iaddr 1), [.t 10, .t 12], none, []⟩,
      ⟨(some 15), (.load false 1), [.t 14], none, [0]⟩,
      ⟨(some 8), .mov, [.t 15], none, [1, 0, 1]⟩] false)
    (.seq
     (.region [⟨(some 16), (.load true 5), [.t 3], none, []⟩,
       ⟨(some 17), (.load true 2), [.t 6], none, []⟩,
       ⟨(some 18), .mov, [.t 8], none, []⟩,
       ⟨(some 19), (.load false 1), [.t 4], none, []⟩,
       ⟨(some 20), .call, [.f 90, .t 16, .t 17, .t 18, .t 19], none, [0, 1, 2, 3]⟩,
       ⟨none, (.store 2), [.t 6, .t 20], none, [4, 4, 0, 1, 2, 3, 4]⟩] false)
     (.seq
      (.region [⟨(some 21), .mov, [.t 0], none, []⟩,
        ⟨(some 22), (.load true 2), [.t 6], none, []⟩,
        ⟨(some 23), .yield, [.t 21, .t 22], none, [0, 1]⟩,
        ⟨(some 24), (.un .not), [.t 23], none, [2]⟩] false)
      (.cond (.t 24)
       .ret
       .skip)))))
  (.keep [0, 3, 4, 6, 10, 11, 12] [0, 6] b154k0))
def b154l0 : DCode := .keep [0, 3, 4, 6, 10, 11, 12] [0, 6]
  (.seq
   (.region [⟨(some 13), (.bin .lss), [.t 12, .t 11], none, []⟩] false)
   (.seq
    (.cond (.t 13)
     .skip
     (.exit 0))
    (.keep [0, 3, 4, 6, 10, 11, 12] [0, 6] b154k1)))
def b154 : DCode :=
 (.seq
  (.region [⟨(some 9), (.load true 2), [.t 1], none, []⟩,
    ⟨(some 6), (.alloc [(.imm (.int .i64 0)), (.imm (.int .i64 0))]), [], none, []⟩,
    ⟨none, (.store 2), [.t 6, .t 9], none, [1, 0, 0, 1]⟩] false)
  (.seq
   (.region [⟨(some 10), (.load false 1), [.t 2], none, []⟩,
     ⟨(some 11), .len, [.t 10], none, [0]⟩,
     ⟨(some 12), .mov, [.c (.int .i64 0)], none, []⟩] false)
   (.block 0
    (.loop b154l0))))
def d154 : DFn := ⟨5, 26, [], b154⟩
theorem body154 : d154.body = b154 := rfl
theorem res154 : d154.res = [] := rfl
theorem k154 : chkFnB Try.prog Try.f154 d154 [0] [0] = true := by kernel_rfl

/-- (guidevane/surge.chamber).boxRun -/
def b117 : DCode :=
 (.seq
  (.region [⟨(some 3), .box, [.t 0], none, []⟩,
    ⟨(some 4), .box, [.t 1], none, []⟩,
    ⟨(some 5), .box, [.t 2], none, []⟩,
    ⟨(some 6), .mov, [.c .nilf], none, []⟩] false)
  (.seq
   (.freeze [3, 4, 5]
    (.region [⟨(some 7), (.mkfn 156 0), [.t 4, .t 5, .t 3], none, []⟩,
      ⟨(some 6), .mov, [.t 7], none, [0, 0]⟩] false))
   .ret))
def d117 : DFn := ⟨3, 8, [.tmp 6], b117⟩
theorem body117 : d117.body = b117 := rfl
theorem res117 : d117.res = [.tmp 6] := rfl
theorem k117 : chkFn Try.prog Try.f117 d117 = true := by kernel_rfl

/-- (guidevane/surge.chamber).boxRun$1 -/
def b156k0 : DCode :=
 (.region [⟨(some 23), (.bin .add), [.t 11, .c (.int .i64 1)], none, []⟩,
   ⟨(some 11), .mov, [.t 23], none, [0]⟩] false)
def b156k1 : DCode :=
 (.seq
  (.block 1
   (.seq
    (.region [⟨(some 13), (.iaddr 1), [.t 9, .t 11], none, []⟩,
      ⟨(some 14), (.load false 1), [.t 13], none, [0]⟩,
      ⟨(some 7), .mov, [.t 14], none, [1, 0, 1]⟩] false)
    (.seq
     (.region [⟨(some 15), (.load true 5), [.t 3], none, []⟩,
       ⟨(some 16), (.load true 4), [.t 5], none, []⟩,
       ⟨(some 17), .mov, [.t 7], none, []⟩,
       ⟨(some 18), .call, [.f 98, .t 15, .t 16, .t 17], none, [0, 1, 2]⟩,
       ⟨none, (.store 4), [.t 5, .t 18], none, [3, 3, 0, 1, 2, 3]⟩] false)
     (.seq
      (.region [⟨(some 19), .mov, [.t 0], none, []⟩,
        ⟨(some 20), (.load true 4), [.t 5], none, []⟩,
        ⟨(some 21), .yield, [.t 19, .t 20], none, [0, 1]⟩,
        ⟨(some 22), (.un .not), [.t 21], none, [2]⟩] false)
      (.cond (.t 22)
       .ret
       .skip)))))
  (.keep [0, 3, 5, 9, 10, 11] [0, 5] b156k0))
def b156l0 : DCode := .keep [0, 3, 5, 9, 10, 11] [0, 5]
  (.seq
   (.region [⟨(some 12), (.bin .lss), [.t 11, .t 10], none, []⟩] false)
   (.seq
    (.cond (.t 12)
     .skip
     (.exit 0))
    (.keep [0, 3, 5, 9, 10, 11] [0, 5] b156k1)))
def b156 : DCode :=
 (.seq
  (.region [⟨(some 8), (.load true 4), [.t 1], none, []⟩,
    ⟨(some 5), (.alloc [(.imm (.int .i64 0)), (.imm (.int .i64 0)), (.imm (.int .i64 0)), (.imm (.int .i64 0))]), [], none, []⟩,
    ⟨none, (.store 4), [.t 5, .t 8], none, [1, 0, 0, 1]⟩] false)
  (.seq
   (.region [⟨(some 9), (.load false 1), [.t 2], none, []⟩,
     ⟨(some 10), .len, [.t 9], none, [0]⟩,
     ⟨(some 11), .mov, [.c (.int .i64 0)], none, []⟩] false)
   (.block 0
    (.loop b156l0))))
def d156 : DFn := ⟨4, 24, [], b156⟩
theorem body156 : d156.body = b156 := rfl
theorem res156 : d156.res = [] := rfl
theorem k156 : chkFnB Try.prog Try.f156 d156 [0] [0] = true := by kernel_rfl

end Go.DI

/- Contracts: the surge chambers' rules, states and steps. No condition. -/
set_option linter.unusedSimpArgs false
namespace Go.DI
open Go.Proofs Go.RowKit Sg

def ruI (r : Ru) : IV := .agg [.int .i64 r.I, .int .i64 r.A, .int .i64 r.lo, .int .i64 r.hi, .int .i64 r.T]
def ssI (s : Sta) : IV := .agg [.int .i64 s.L, .int .i64 s.F]
def sbI (b : Bx) : IV := .agg [.int .i64 b.ll, .int .i64 b.lh, .int .i64 b.fl, .int .i64 b.fh]
def spI (p : Pl) : IV := .agg [.int .i64 p.load, .slc 1 (p.ch.map (.int .i64)), .int .i64 p.wait, .int .i64 p.ticks]
def swI (w : Wt) : IV := .agg [.slc 1 (w.ord.map (.int .i64)), .int .i64 w.st.L, .int .i64 w.st.F, .int .i64 w.k, .int .i64 w.lev]
def scI (c : Cv) : IV := .agg [.int .i64 c.b.ll, .int .i64 c.b.lh, .int .i64 c.b.fl, .int .i64 c.b.fh, .int .i64 c.parts, .int .i64 c.lo, .int .i64 c.hi]
def saI (x : Ru × Pl) : IV := .agg [.int .i64 x.1.I, .int .i64 x.1.A, .int .i64 x.1.lo, .int .i64 x.1.hi, .int .i64 x.1.T, .int .i64 x.2.load, .slc 1 (x.2.ch.map (.int .i64)), .int .i64 x.2.wait, .int .i64 x.2.ticks]
def stI (a b : Int) : IV := .agg [.int .i64 a, .int .i64 b]
def srI (l : List Int) (k : Int) : IV := .agg [.slc 1 (l.map (.int .i64)), .int .i64 k]
def snI (l : List Int) : IV := .slc 1 (l.map (.int .i64))

theorem wrap64 {n : Int} (h1 : -9223372036854775808 ≤ n) (h2 : n ≤ 9223372036854775807) : IntKind.wrap .i64 n = n := IntWalk.i64_in n ⟨h1, h2⟩

theorem s_within {x lo hi : Int} : Contract Try.prog 92 [.int .i64 x, .int .i64 lo, .int .i64 hi] (.bool (decide (Wi x lo hi))) := by
  unfold Wi
  refine contract_run Try.func92 k92 rfl ?_
  simp only [body92, b92, res92, ↓reduceIte, reduceCtorEq, Nat.reduceEqDiff, Nat.reduceAdd, Nat.reduceMul, Nat.reduceSub, Nat.reduceLeDiff, Nat.reduceBEq, Int.reduceToNat, Int.reduceLE, Int.reduceLT, Int.reduceEq, Int.reduceNe, di0, di1, di2, di3, di4, di5, di6, di7, di8, di9, postX_ret, postX_normal, ex_some]
  split
  · rename_i h; simp [h]
  · rename_i h; simp [h]

theorem s_unless {b : Bool} {e : Int} : Contract Try.prog 93 [.bool b, .int .i64 e] (.int .i64 (if b = true then 0 else e)) := by
  refine contract_run Try.func93 k93 rfl ?_
  simp only [body93, b93, res93, b93k0, ↓reduceIte, reduceCtorEq, Nat.reduceEqDiff, Nat.reduceAdd, Nat.reduceMul, Nat.reduceSub, Nat.reduceLeDiff, Nat.reduceBEq, Int.reduceToNat, Int.reduceLE, Int.reduceLT, Int.reduceEq, Int.reduceNe, di0, di1, di2, di3, di4, di5, di6, di7, di8, di9, postX_ret, postX_normal, ex_some]
  split
  · rfl
  · rfl

def firstNZ : List Int → Int
  | [] => 0
  | x :: r => if x = 0 then firstNZ r else x

theorem s_first {l : List Int} (hl : l.length ≤ 1000000000000) : Contract Try.prog 87 [.slc 1 (l.map (.int .i64))] (.int .i64 (firstNZ l)) := by
  refine contract_run Try.func87 k87 rfl ?_
  simp only [body87, b87, res87, b87k0, b87k1, b87k2, ↓reduceIte, reduceCtorEq, Nat.reduceEqDiff, Nat.reduceAdd, Nat.reduceMul, Nat.reduceSub, Nat.reduceLeDiff, Nat.reduceBEq, Int.reduceToNat, Int.reduceLE, Int.reduceLT, Int.reduceEq, Int.reduceNe, di0, di1, di2, di3, di4, di5, di6, di7, di8, di9, postX_ret, postX_normal, ex_some]
  refine loop_keep (α := Nat) rfl (fun i => l.length - i) (fun i => i ≤ l.length ∧ firstNZ (l.drop i) = firstNZ l)
    (fun i => [(5, .imm (.slc 1 (l.map (.int .i64)))), (6, .imm (.int .i64 l.length)), (7, .imm (.int .i64 i))]) (fun _ => []) 0 ⟨Nat.zero_le _, rfl⟩ (by simp only [↓reduceIte, reduceCtorEq, Nat.reduceEqDiff, Nat.reduceAdd, Nat.reduceMul, Nat.reduceSub, Nat.reduceLeDiff, Nat.reduceBEq, Int.reduceToNat, Int.reduceLE, Int.reduceLT, Int.reduceEq, Int.reduceNe, di0, di1, di2, di3, di4, di5, di6, di7, di8, di9, postX_ret, postX_normal, ex_some] <;> rfl) ?_
  intro i ⟨hi, he⟩ ih
  simp only [res87, b87k0, b87k1, b87k2, ↓reduceIte, reduceCtorEq, Nat.reduceEqDiff, Nat.reduceAdd, Nat.reduceMul, Nat.reduceSub, Nat.reduceLeDiff, Nat.reduceBEq, Int.reduceToNat, Int.reduceLE, Int.reduceLT, Int.reduceEq, Int.reduceNe, di0, di1, di2, di3, di4, di5, di6, di7, di8, di9, postX_ret, postX_normal, ex_some]
  split
  · rename_i h
    have hd : l.drop i = l.getD i 0 :: l.drop (i + 1) := by
      rw [List.drop_eq_getElem_cons (by omega)]
      congr 1
      rw [List.getD_eq_getElem?_getD]; simp [show i < l.length by omega]
    repeat (refine And.intro (by omega) ?_)
    split
    · rename_i h2
      rw [wrap64 (by omega) (by omega)]
      refine ih (i + 1) _ _ (by omega) ⟨by omega, ?_⟩ (by simp only [↓reduceIte, reduceCtorEq, Nat.reduceEqDiff, Nat.reduceAdd, Nat.reduceMul, Nat.reduceSub, Nat.reduceLeDiff, Nat.reduceBEq, Int.reduceToNat, Int.reduceLE, Int.reduceLT, Int.reduceEq, Int.reduceNe, di0, di1, di2, di3, di4, di5, di6, di7, di8, di9, postX_ret, postX_normal, ex_some] <;> rfl)
      rw [← he, hd, firstNZ, if_pos h2]
    · rename_i h2
      rw [← he, hd, firstNZ, if_neg h2]
  · rename_i h
    have : i = l.length := by omega
    subst this
    rw [← he]
    simp [firstNZ]

theorem s_floor {n d : Int} (hd : 0 < d) (h : -1000000000000000000 ≤ n ∧ n ≤ 1000000000000000000) : Contract Try.prog 141 [.int .i64 n, .int .i64 d] (.int .i64 (n / d)) := by
  have hb := ediv_bd h hd
  have hf := floor_eq (n := n) hd
  refine contract_run Try.func141 k141 rfl ?_
  simp only [body141, b141, res141, b141k0, ↓reduceIte, reduceCtorEq, Nat.reduceEqDiff, Nat.reduceAdd, Nat.reduceMul, Nat.reduceSub, Nat.reduceLeDiff, Nat.reduceBEq, Int.reduceToNat, Int.reduceLE, Int.reduceLT, Int.reduceEq, Int.reduceNe, di0, di1, di2, di3, di4, di5, di6, di7, di8, di9, postX_ret, postX_normal, ex_some]
  have ht : -1000000000000000001 ≤ n.tdiv d ∧ n.tdiv d ≤ 1000000000000000001 := by
    split at hf <;> omega
  simp only [show IntKind.wrap .i64 (n.tdiv d) = n.tdiv d from wrap64 (by omega) (by omega)]
  repeat (refine And.intro (by omega) ?_)
  split
  · rename_i h2
    rw [if_pos h2] at hf
    simp only [show IntKind.wrap .i64 (n.tdiv d - 1) = n.tdiv d - 1 from wrap64 (by omega) (by omega)]
    rw [hf]
  · rename_i h2
    rw [if_neg h2] at hf
    rw [hf]

theorem s_squared {n : Int} (h : -1000000 ≤ n ∧ n ≤ 1000000) : Contract Try.prog 140 [.int .i64 n] (.int .i64 (sq n)) := by
  have hb := sq_bd h
  refine contract_run Try.func140 k140 rfl ?_
  simp only [body140, b140, res140, ↓reduceIte, reduceCtorEq, Nat.reduceEqDiff, Nat.reduceAdd, Nat.reduceMul, Nat.reduceSub, Nat.reduceLeDiff, Nat.reduceBEq, Int.reduceToNat, Int.reduceLE, Int.reduceLT, Int.reduceEq, Int.reduceNe, di0, di1, di2, di3, di4, di5, di6, di7, di8, di9, postX_ret, postX_normal, ex_some]
  simp only [show IntKind.wrap .i64 (0 - n) = 0 - n from wrap64 (by omega) (by omega)]
  rw [show n * max n (0 - n) = sq n by unfold sq; rw [Int.zero_sub]]
  simp only [show IntKind.wrap .i64 (sq n) = sq n from wrap64 (by omega) (by omega)]

theorem s_isLevel {n : Int} : Contract Try.prog 142 [.int .i64 n] (.bool (decide (Wi n (-100000) 100000))) := by
  refine contract_run Try.func142 k142 rfl ?_
  simp only [body142, b142, res142, ↓reduceIte, reduceCtorEq, Nat.reduceEqDiff, Nat.reduceAdd, Nat.reduceMul, Nat.reduceSub, Nat.reduceLeDiff, Nat.reduceBEq, Int.reduceToNat, Int.reduceLE, Int.reduceLT, Int.reduceEq, Int.reduceNe, di0, di1, di2, di3, di4, di5, di6, di7, di8, di9, postX_ret, postX_normal, ex_some]
  refine calls_of s_within ?_; simp only [res142, ↓reduceIte, reduceCtorEq, Nat.reduceEqDiff, Nat.reduceAdd, Nat.reduceMul, Nat.reduceSub, Nat.reduceLeDiff, Nat.reduceBEq, Int.reduceToNat, Int.reduceLE, Int.reduceLT, Int.reduceEq, Int.reduceNe, di0, di1, di2, di3, di4, di5, di6, di7, di8, di9, postX_ret, postX_normal, ex_some]
theorem s_isFlow {n : Int} : Contract Try.prog 143 [.int .i64 n] (.bool (decide (Wi n (-1000) 1000))) := by
  refine contract_run Try.func143 k143 rfl ?_
  simp only [body143, b143, res143, ↓reduceIte, reduceCtorEq, Nat.reduceEqDiff, Nat.reduceAdd, Nat.reduceMul, Nat.reduceSub, Nat.reduceLeDiff, Nat.reduceBEq, Int.reduceToNat, Int.reduceLE, Int.reduceLT, Int.reduceEq, Int.reduceNe, di0, di1, di2, di3, di4, di5, di6, di7, di8, di9, postX_ret, postX_normal, ex_some]
  refine calls_of s_within ?_; simp only [res143, ↓reduceIte, reduceCtorEq, Nat.reduceEqDiff, Nat.reduceAdd, Nat.reduceMul, Nat.reduceSub, Nat.reduceLeDiff, Nat.reduceBEq, Int.reduceToNat, Int.reduceLE, Int.reduceLT, Int.reduceEq, Int.reduceNe, di0, di1, di2, di3, di4, di5, di6, di7, di8, di9, postX_ret, postX_normal, ex_some]
theorem s_isLoad {n : Int} : Contract Try.prog 139 [.int .i64 n] (.bool (decide (Wi n 0 1000))) := by
  refine contract_run Try.func139 k139 rfl ?_
  simp only [body139, b139, res139, ↓reduceIte, reduceCtorEq, Nat.reduceEqDiff, Nat.reduceAdd, Nat.reduceMul, Nat.reduceSub, Nat.reduceLeDiff, Nat.reduceBEq, Int.reduceToNat, Int.reduceLE, Int.reduceLT, Int.reduceEq, Int.reduceNe, di0, di1, di2, di3, di4, di5, di6, di7, di8, di9, postX_ret, postX_normal, ex_some]
  refine calls_of s_within ?_; simp only [res139, ↓reduceIte, reduceCtorEq, Nat.reduceEqDiff, Nat.reduceAdd, Nat.reduceMul, Nat.reduceSub, Nat.reduceLeDiff, Nat.reduceBEq, Int.reduceToNat, Int.reduceLE, Int.reduceLT, Int.reduceEq, Int.reduceNe, di0, di1, di2, di3, di4, di5, di6, di7, di8, di9, postX_ret, postX_normal, ex_some]
theorem s_isFric {n : Int} : Contract Try.prog 91 [.int .i64 n] (.bool (decide (Wi n 0 100))) := by
  refine contract_run Try.func91 k91 rfl ?_
  simp only [body91, b91, res91, ↓reduceIte, reduceCtorEq, Nat.reduceEqDiff, Nat.reduceAdd, Nat.reduceMul, Nat.reduceSub, Nat.reduceLeDiff, Nat.reduceBEq, Int.reduceToNat, Int.reduceLE, Int.reduceLT, Int.reduceEq, Int.reduceNe, di0, di1, di2, di3, di4, di5, di6, di7, di8, di9, postX_ret, postX_normal, ex_some]
  refine calls_of s_within ?_; simp only [res91, ↓reduceIte, reduceCtorEq, Nat.reduceEqDiff, Nat.reduceAdd, Nat.reduceMul, Nat.reduceSub, Nat.reduceLeDiff, Nat.reduceBEq, Int.reduceToNat, Int.reduceLE, Int.reduceLT, Int.reduceEq, Int.reduceNe, di0, di1, di2, di3, di4, di5, di6, di7, di8, di9, postX_ret, postX_normal, ex_some]

theorem firstNZ_two {a b : Int} : firstNZ [a, b] = fstE a b := by
  unfold firstNZ fstE
  split
  · unfold firstNZ; split
    · rename_i h; rw [h]; rfl
    · rfl
  · rfl

theorem s_CheckRules {r : Ru} : Contract Try.prog 18 [ruI r] (.int .i64 (rulesErr r)) := by
  have hno : ¬ (Wi r.I 1 1000 ∧ Wi r.A 1 1000 ∧ Wi r.lo 0 100 ∧ Wi r.hi 0 100 ∧ Wi r.T 0 100) → rulesErr r = 2 := fun h => by unfold rulesErr; rw [if_pos h]
  refine contract_run Try.func18 k18 rfl ?_
  simp only [body18, b18, res18, b18k0, ruI, ssI, sbI, spI, swI, scI, stI, srI, saI, snI, ↓reduceIte, reduceCtorEq, Nat.reduceEqDiff, Nat.reduceAdd, Nat.reduceMul, Nat.reduceSub, Nat.reduceLeDiff, Nat.reduceBEq, Int.reduceToNat, Int.reduceLE, Int.reduceLT, Int.reduceEq, Int.reduceNe, di0, di1, di2, di3, di4, di5, di6, di7, di8, di9, postX_ret, postX_normal, ex_some]
  refine calls_of s_within ?_; simp only [ruI, ssI, sbI, spI, swI, scI, stI, srI, saI, snI, res18, b18k0, ↓reduceIte, reduceCtorEq, Nat.reduceEqDiff, Nat.reduceAdd, Nat.reduceMul, Nat.reduceSub, Nat.reduceLeDiff, Nat.reduceBEq, Int.reduceToNat, Int.reduceLE, Int.reduceLT, Int.reduceEq, Int.reduceNe, di0, di1, di2, di3, di4, di5, di6, di7, di8, di9, postX_ret, postX_normal, ex_some]
  split
  rotate_left
  · rename_i h; rw [hno (fun k => h k.1)]
  rename_i h1
  refine calls_of s_within ?_; simp only [ruI, ssI, sbI, spI, swI, scI, stI, srI, saI, snI, res18, b18k0, ↓reduceIte, reduceCtorEq, Nat.reduceEqDiff, Nat.reduceAdd, Nat.reduceMul, Nat.reduceSub, Nat.reduceLeDiff, Nat.reduceBEq, Int.reduceToNat, Int.reduceLE, Int.reduceLT, Int.reduceEq, Int.reduceNe, di0, di1, di2, di3, di4, di5, di6, di7, di8, di9, postX_ret, postX_normal, ex_some]
  split
  rotate_left
  · rename_i h; rw [hno (fun k => h k.2.1)]
  rename_i h2
  refine calls_of s_isFric ?_; simp only [ruI, ssI, sbI, spI, swI, scI, stI, srI, saI, snI, res18, b18k0, ↓reduceIte, reduceCtorEq, Nat.reduceEqDiff, Nat.reduceAdd, Nat.reduceMul, Nat.reduceSub, Nat.reduceLeDiff, Nat.reduceBEq, Int.reduceToNat, Int.reduceLE, Int.reduceLT, Int.reduceEq, Int.reduceNe, di0, di1, di2, di3, di4, di5, di6, di7, di8, di9, postX_ret, postX_normal, ex_some]
  split
  rotate_left
  · rename_i h; rw [hno (fun k => h k.2.2.1)]
  rename_i h3
  refine calls_of s_isFric ?_; simp only [ruI, ssI, sbI, spI, swI, scI, stI, srI, saI, snI, res18, b18k0, ↓reduceIte, reduceCtorEq, Nat.reduceEqDiff, Nat.reduceAdd, Nat.reduceMul, Nat.reduceSub, Nat.reduceLeDiff, Nat.reduceBEq, Int.reduceToNat, Int.reduceLE, Int.reduceLT, Int.reduceEq, Int.reduceNe, di0, di1, di2, di3, di4, di5, di6, di7, di8, di9, postX_ret, postX_normal, ex_some]
  split
  rotate_left
  · rename_i h; rw [hno (fun k => h k.2.2.2.1)]
  rename_i h4
  refine calls_of s_isFric ?_; simp only [ruI, ssI, sbI, spI, swI, scI, stI, srI, saI, snI, res18, b18k0, ↓reduceIte, reduceCtorEq, Nat.reduceEqDiff, Nat.reduceAdd, Nat.reduceMul, Nat.reduceSub, Nat.reduceLeDiff, Nat.reduceBEq, Int.reduceToNat, Int.reduceLE, Int.reduceLT, Int.reduceEq, Int.reduceNe, di0, di1, di2, di3, di4, di5, di6, di7, di8, di9, postX_ret, postX_normal, ex_some]
  split
  rotate_left
  · rename_i h; rw [hno (fun k => h k.2.2.2.2)]
  rename_i h5
  refine calls_of s_unless ?_; simp only [ruI, ssI, sbI, spI, swI, scI, stI, srI, saI, snI, res18, b18k0, ↓reduceIte, reduceCtorEq, Nat.reduceEqDiff, Nat.reduceAdd, Nat.reduceMul, Nat.reduceSub, Nat.reduceLeDiff, Nat.reduceBEq, Int.reduceToNat, Int.reduceLE, Int.reduceLT, Int.reduceEq, Int.reduceNe, di0, di1, di2, di3, di4, di5, di6, di7, di8, di9, postX_ret, postX_normal, ex_some]
  have w := h1; have w2 := h4; have w3 := h5
  unfold Wi at w w2 w3
  simp only [show IntKind.wrap .i64 (2001 * r.hi) = 2001 * r.hi from wrap64 (by omega) (by omega)]
  simp only [show IntKind.wrap .i64 (4001 * r.T) = 4001 * r.T from wrap64 (by omega) (by omega)]
  simp only [show IntKind.wrap .i64 (2001 * r.hi + 4001 * r.T) = 2001 * r.hi + 4001 * r.T from wrap64 (by omega) (by omega)]
  simp only [show IntKind.wrap .i64 (2001 * r.hi + 4001 * r.T + 2000) = 2001 * r.hi + 4001 * r.T + 2000 from wrap64 (by omega) (by omega)]
  simp only [show IntKind.wrap .i64 (1000 * r.I) = 1000 * r.I from wrap64 (by omega) (by omega)]
  refine calls_of s_unless ?_; simp only [ruI, ssI, sbI, spI, swI, scI, stI, srI, saI, snI, res18, b18k0, ↓reduceIte, reduceCtorEq, Nat.reduceEqDiff, Nat.reduceAdd, Nat.reduceMul, Nat.reduceSub, Nat.reduceLeDiff, Nat.reduceBEq, Int.reduceToNat, Int.reduceLE, Int.reduceLT, Int.reduceEq, Int.reduceNe, di0, di1, di2, di3, di4, di5, di6, di7, di8, di9, postX_ret, postX_normal, ex_some]
  refine calls_of (s_first (l := [if r.lo ≤ r.hi then 0 else 9, if 2001 * r.hi + 4001 * r.T + 2000 ≤ 1000 * r.I then 0 else 13]) (by simp)) ?_; simp only [ruI, ssI, sbI, spI, swI, scI, stI, srI, saI, snI, res18, b18k0, ↓reduceIte, reduceCtorEq, Nat.reduceEqDiff, Nat.reduceAdd, Nat.reduceMul, Nat.reduceSub, Nat.reduceLeDiff, Nat.reduceBEq, Int.reduceToNat, Int.reduceLE, Int.reduceLT, Int.reduceEq, Int.reduceNe, di0, di1, di2, di3, di4, di5, di6, di7, di8, di9, postX_ret, postX_normal, ex_some]
  rw [firstNZ_two]
  have hA : rulesErr r = if r.hi < r.lo then 9 else if 1000 * r.I < 2001 * r.hi + 4001 * r.T + 2000 then 13 else 0 := by
    unfold rulesErr
    rw [if_neg (fun k => k ⟨h1, h2, h3, h4, h5⟩)]
  rw [hA]
  unfold fstE
  by_cases g1 : r.lo ≤ r.hi
  · by_cases g2 : 2001 * r.hi + 4001 * r.T + 2000 ≤ 1000 * r.I
    · rw [if_pos g1, if_pos rfl, if_pos g2, if_neg (by omega), if_neg (by omega)]
    · rw [if_pos g1, if_pos rfl, if_neg g2, if_neg (by omega), if_pos (by omega)]
  · rw [if_neg g1, if_neg (by decide), if_pos (by omega)]

theorem s_stateErr {s : Sta} : Contract Try.prog 94 [ssI s] (.int .i64 (stateErr s)) := by
  refine contract_run Try.func94 k94 rfl ?_
  simp only [body94, b94, res94, ruI, ssI, sbI, spI, swI, scI, stI, srI, saI, snI, ↓reduceIte, reduceCtorEq, Nat.reduceEqDiff, Nat.reduceAdd, Nat.reduceMul, Nat.reduceSub, Nat.reduceLeDiff, Nat.reduceBEq, Int.reduceToNat, Int.reduceLE, Int.reduceLT, Int.reduceEq, Int.reduceNe, di0, di1, di2, di3, di4, di5, di6, di7, di8, di9, postX_ret, postX_normal, ex_some]
  refine calls_of s_isLevel ?_; simp only [ruI, ssI, sbI, spI, swI, scI, stI, srI, saI, snI, res94, ↓reduceIte, reduceCtorEq, Nat.reduceEqDiff, Nat.reduceAdd, Nat.reduceMul, Nat.reduceSub, Nat.reduceLeDiff, Nat.reduceBEq, Int.reduceToNat, Int.reduceLE, Int.reduceLT, Int.reduceEq, Int.reduceNe, di0, di1, di2, di3, di4, di5, di6, di7, di8, di9, postX_ret, postX_normal, ex_some]
  split
  · rename_i h1
    refine calls_of s_isFlow ?_; simp only [ruI, ssI, sbI, spI, swI, scI, stI, srI, saI, snI, res94, ↓reduceIte, reduceCtorEq, Nat.reduceEqDiff, Nat.reduceAdd, Nat.reduceMul, Nat.reduceSub, Nat.reduceLeDiff, Nat.reduceBEq, Int.reduceToNat, Int.reduceLE, Int.reduceLT, Int.reduceEq, Int.reduceNe, di0, di1, di2, di3, di4, di5, di6, di7, di8, di9, postX_ret, postX_normal, ex_some]
    refine calls_of s_unless ?_; simp only [ruI, ssI, sbI, spI, swI, scI, stI, srI, saI, snI, res94, ↓reduceIte, reduceCtorEq, Nat.reduceEqDiff, Nat.reduceAdd, Nat.reduceMul, Nat.reduceSub, Nat.reduceLeDiff, Nat.reduceBEq, Int.reduceToNat, Int.reduceLE, Int.reduceLT, Int.reduceEq, Int.reduceNe, di0, di1, di2, di3, di4, di5, di6, di7, di8, di9, postX_ret, postX_normal, ex_some]
    congr 2
    unfold stateErr
    split <;> split <;> first | rfl | (simp_all; done)
  · rename_i h1
    refine calls_of s_unless ?_; simp only [ruI, ssI, sbI, spI, swI, scI, stI, srI, saI, snI, res94, ↓reduceIte, reduceCtorEq, Nat.reduceEqDiff, Nat.reduceAdd, Nat.reduceMul, Nat.reduceSub, Nat.reduceLeDiff, Nat.reduceBEq, Int.reduceToNat, Int.reduceLE, Int.reduceLT, Int.reduceEq, Int.reduceNe, di0, di1, di2, di3, di4, di5, di6, di7, di8, di9, postX_ret, postX_normal, ex_some]
    congr 2
    unfold stateErr
    rw [if_neg (fun k => h1 k.1)]

theorem s_CheckState {r : Ru} {s : Sta} : Contract Try.prog 20 [ruI r, ssI s] (.int .i64 (fstE (rulesErr r) (stateErr s))) := by
  refine contract_run Try.func20 k20 rfl ?_
  simp only [body20, b20, res20, ruI, ssI, sbI, spI, swI, scI, stI, srI, saI, snI, ↓reduceIte, reduceCtorEq, Nat.reduceEqDiff, Nat.reduceAdd, Nat.reduceMul, Nat.reduceSub, Nat.reduceLeDiff, Nat.reduceBEq, Int.reduceToNat, Int.reduceLE, Int.reduceLT, Int.reduceEq, Int.reduceNe, di0, di1, di2, di3, di4, di5, di6, di7, di8, di9, postX_ret, postX_normal, ex_some]
  refine calls_of s_CheckRules ?_; simp only [ruI, ssI, sbI, spI, swI, scI, stI, srI, saI, snI, res20, ↓reduceIte, reduceCtorEq, Nat.reduceEqDiff, Nat.reduceAdd, Nat.reduceMul, Nat.reduceSub, Nat.reduceLeDiff, Nat.reduceBEq, Int.reduceToNat, Int.reduceLE, Int.reduceLT, Int.reduceEq, Int.reduceNe, di0, di1, di2, di3, di4, di5, di6, di7, di8, di9, postX_ret, postX_normal, ex_some]
  refine calls_of s_stateErr ?_; simp only [ruI, ssI, sbI, spI, swI, scI, stI, srI, saI, snI, res20, ↓reduceIte, reduceCtorEq, Nat.reduceEqDiff, Nat.reduceAdd, Nat.reduceMul, Nat.reduceSub, Nat.reduceLeDiff, Nat.reduceBEq, Int.reduceToNat, Int.reduceLE, Int.reduceLT, Int.reduceEq, Int.reduceNe, di0, di1, di2, di3, di4, di5, di6, di7, di8, di9, postX_ret, postX_normal, ex_some]
  refine calls_of (s_first (l := [rulesErr r, stateErr s]) (by simp)) ?_; simp only [ruI, ssI, sbI, spI, swI, scI, stI, srI, saI, snI, res20, ↓reduceIte, reduceCtorEq, Nat.reduceEqDiff, Nat.reduceAdd, Nat.reduceMul, Nat.reduceSub, Nat.reduceLeDiff, Nat.reduceBEq, Int.reduceToNat, Int.reduceLE, Int.reduceLT, Int.reduceEq, Int.reduceNe, di0, di1, di2, di3, di4, di5, di6, di7, di8, di9, postX_ret, postX_normal, ex_some]
  rw [firstNZ_two]

theorem s_loadErr {n : Int} : Contract Try.prog 88 [.int .i64 n] (.int .i64 (loadErr n)) := by
  refine contract_run Try.func88 k88 rfl ?_
  simp only [body88, b88, res88, ruI, ssI, sbI, spI, swI, scI, stI, srI, saI, snI, ↓reduceIte, reduceCtorEq, Nat.reduceEqDiff, Nat.reduceAdd, Nat.reduceMul, Nat.reduceSub, Nat.reduceLeDiff, Nat.reduceBEq, Int.reduceToNat, Int.reduceLE, Int.reduceLT, Int.reduceEq, Int.reduceNe, di0, di1, di2, di3, di4, di5, di6, di7, di8, di9, postX_ret, postX_normal, ex_some]
  refine calls_of s_isLoad ?_; simp only [ruI, ssI, sbI, spI, swI, scI, stI, srI, saI, snI, res88, ↓reduceIte, reduceCtorEq, Nat.reduceEqDiff, Nat.reduceAdd, Nat.reduceMul, Nat.reduceSub, Nat.reduceLeDiff, Nat.reduceBEq, Int.reduceToNat, Int.reduceLE, Int.reduceLT, Int.reduceEq, Int.reduceNe, di0, di1, di2, di3, di4, di5, di6, di7, di8, di9, postX_ret, postX_normal, ex_some]
  refine calls_of s_unless ?_; simp only [ruI, ssI, sbI, spI, swI, scI, stI, srI, saI, snI, res88, ↓reduceIte, reduceCtorEq, Nat.reduceEqDiff, Nat.reduceAdd, Nat.reduceMul, Nat.reduceSub, Nat.reduceLeDiff, Nat.reduceBEq, Int.reduceToNat, Int.reduceLE, Int.reduceLT, Int.reduceEq, Int.reduceNe, di0, di1, di2, di3, di4, di5, di6, di7, di8, di9, postX_ret, postX_normal, ex_some]
  congr 2
theorem s_fricErr {r : Ru} {k : Int} : Contract Try.prog 89 [ruI r, .int .i64 k] (.int .i64 (fricErr r k)) := by
  refine contract_run Try.func89 k89 rfl ?_
  simp only [body89, b89, res89, ruI, ssI, sbI, spI, swI, scI, stI, srI, saI, snI, ↓reduceIte, reduceCtorEq, Nat.reduceEqDiff, Nat.reduceAdd, Nat.reduceMul, Nat.reduceSub, Nat.reduceLeDiff, Nat.reduceBEq, Int.reduceToNat, Int.reduceLE, Int.reduceLT, Int.reduceEq, Int.reduceNe, di0, di1, di2, di3, di4, di5, di6, di7, di8, di9, postX_ret, postX_normal, ex_some]
  refine calls_of s_within ?_; simp only [ruI, ssI, sbI, spI, swI, scI, stI, srI, saI, snI, res89, ↓reduceIte, reduceCtorEq, Nat.reduceEqDiff, Nat.reduceAdd, Nat.reduceMul, Nat.reduceSub, Nat.reduceLeDiff, Nat.reduceBEq, Int.reduceToNat, Int.reduceLE, Int.reduceLT, Int.reduceEq, Int.reduceNe, di0, di1, di2, di3, di4, di5, di6, di7, di8, di9, postX_ret, postX_normal, ex_some]
  refine calls_of s_unless ?_; simp only [ruI, ssI, sbI, spI, swI, scI, stI, srI, saI, snI, res89, ↓reduceIte, reduceCtorEq, Nat.reduceEqDiff, Nat.reduceAdd, Nat.reduceMul, Nat.reduceSub, Nat.reduceLeDiff, Nat.reduceBEq, Int.reduceToNat, Int.reduceLE, Int.reduceLT, Int.reduceEq, Int.reduceNe, di0, di1, di2, di3, di4, di5, di6, di7, di8, di9, postX_ret, postX_normal, ex_some]
  congr 2

/-- The numbers that a step is made of. -/
structure Near (r : Ru) (s : Sta) (load k : Int) : Prop where
  L : -1000000000 ≤ s.L ∧ s.L ≤ 1000000000
  F : -1000 ≤ s.F ∧ s.F ≤ 1000
  load : 0 ≤ load ∧ load ≤ 1000
  k : 0 ≤ k ∧ k ≤ 100

theorem s_step {r : Ru} {s : Sta} {load k : Int} (hr : Sg.Good r) (h : Near r s load k) : Contract Try.prog 90 [ruI r, ssI s, .int .i64 load, .int .i64 k] (ssI (stp r s load k)) := by
  have h1 := h.L; have h2 := h.F; have h3 := h.load; have h4 := h.k
  have r1 := hr.I; have r2 := hr.A; have r3 := hr.T
  have q1 := sq_bd h2
  have q2 := sq_bd (n := s.F - load) (m := 2000) (by omega)
  have q3 := mul_bd (a := k) (A := 100) (by omega) q1
  have q4 := mul_bd (a := r.T) (A := 100) (by omega) q2
  have q5 := tdiv1000_bd (a := k * sq s.F) (A := 100000) (by omega)
  have q6 := tdiv1000_bd (a := r.T * sq (s.F - load)) (A := 400000) (by omega)
  have q7 := ediv_bd (a := s.L + (k * sq s.F).tdiv 1000 + (r.T * sq (s.F - load)).tdiv 1000) (b := r.I) (A := 1000500000) (by omega) (by omega)
  have q8 := stp_bd (k := k) hr (m := 1000000000) h1 h3
  refine contract_run Try.func90 k90 rfl ?_
  simp only [body90, b90, res90, ruI, ssI, sbI, spI, swI, scI, stI, srI, saI, snI, ↓reduceIte, reduceCtorEq, Nat.reduceEqDiff, Nat.reduceAdd, Nat.reduceMul, Nat.reduceSub, Nat.reduceLeDiff, Nat.reduceBEq, Int.reduceToNat, Int.reduceLE, Int.reduceLT, Int.reduceEq, Int.reduceNe, di0, di1, di2, di3, di4, di5, di6, di7, di8, di9, postX_ret, postX_normal, ex_some]
  refine calls_of (s_squared (by omega)) ?_; simp only [ruI, ssI, sbI, spI, swI, scI, stI, srI, saI, snI, res90, ↓reduceIte, reduceCtorEq, Nat.reduceEqDiff, Nat.reduceAdd, Nat.reduceMul, Nat.reduceSub, Nat.reduceLeDiff, Nat.reduceBEq, Int.reduceToNat, Int.reduceLE, Int.reduceLT, Int.reduceEq, Int.reduceNe, di0, di1, di2, di3, di4, di5, di6, di7, di8, di9, postX_ret, postX_normal, ex_some]
  simp only [show IntKind.wrap .i64 (k * sq s.F) = k * sq s.F from wrap64 (by omega) (by omega)]
  simp only [show IntKind.wrap .i64 ((k * sq s.F).tdiv 1000) = (k * sq s.F).tdiv 1000 from wrap64 (by omega) (by omega)]
  simp only [show IntKind.wrap .i64 (s.L + (k * sq s.F).tdiv 1000) = s.L + (k * sq s.F).tdiv 1000 from wrap64 (by omega) (by omega)]
  simp only [show IntKind.wrap .i64 (s.F - load) = s.F - load from wrap64 (by omega) (by omega)]
  refine calls_of (s_squared (by omega)) ?_; simp only [ruI, ssI, sbI, spI, swI, scI, stI, srI, saI, snI, res90, ↓reduceIte, reduceCtorEq, Nat.reduceEqDiff, Nat.reduceAdd, Nat.reduceMul, Nat.reduceSub, Nat.reduceLeDiff, Nat.reduceBEq, Int.reduceToNat, Int.reduceLE, Int.reduceLT, Int.reduceEq, Int.reduceNe, di0, di1, di2, di3, di4, di5, di6, di7, di8, di9, postX_ret, postX_normal, ex_some]
  simp only [show IntKind.wrap .i64 (r.T * sq (s.F - load)) = r.T * sq (s.F - load) from wrap64 (by omega) (by omega)]
  simp only [show IntKind.wrap .i64 ((r.T * sq (s.F - load)).tdiv 1000) = (r.T * sq (s.F - load)).tdiv 1000 from wrap64 (by omega) (by omega)]
  simp only [show IntKind.wrap .i64 (s.L + (k * sq s.F).tdiv 1000 + (r.T * sq (s.F - load)).tdiv 1000) = s.L + (k * sq s.F).tdiv 1000 + (r.T * sq (s.F - load)).tdiv 1000 from wrap64 (by omega) (by omega)]
  refine calls_of (s_floor (by omega) (by omega)) ?_; simp only [ruI, ssI, sbI, spI, swI, scI, stI, srI, saI, snI, res90, ↓reduceIte, reduceCtorEq, Nat.reduceEqDiff, Nat.reduceAdd, Nat.reduceMul, Nat.reduceSub, Nat.reduceLeDiff, Nat.reduceBEq, Int.reduceToNat, Int.reduceLE, Int.reduceLT, Int.reduceEq, Int.reduceNe, di0, di1, di2, di3, di4, di5, di6, di7, di8, di9, postX_ret, postX_normal, ex_some]
  simp only [show IntKind.wrap .i64 (s.F - (s.L + (k * sq s.F).tdiv 1000 + (r.T * sq (s.F - load)).tdiv 1000) / r.I) = s.F - (s.L + (k * sq s.F).tdiv 1000 + (r.T * sq (s.F - load)).tdiv 1000) / r.I from wrap64 (by omega) (by omega)]
  generalize hf : min 1000 (max (-1000) (s.F - (s.L + (k * sq s.F).tdiv 1000 + (r.T * sq (s.F - load)).tdiv 1000) / r.I)) = f
  have e1 : (stp r s load k).L = s.L + (f - load) / r.A := by unfold stp; rw [hf]
  have e2 : (stp r s load k).F = f := by unfold stp; rw [hf]
  rw [e1, e2] at q8
  simp only [show IntKind.wrap .i64 (f - load) = f - load from wrap64 (by omega) (by omega)]
  refine calls_of (s_floor (by omega) (by omega)) ?_; simp only [ruI, ssI, sbI, spI, swI, scI, stI, srI, saI, snI, res90, ↓reduceIte, reduceCtorEq, Nat.reduceEqDiff, Nat.reduceAdd, Nat.reduceMul, Nat.reduceSub, Nat.reduceLeDiff, Nat.reduceBEq, Int.reduceToNat, Int.reduceLE, Int.reduceLT, Int.reduceEq, Int.reduceNe, di0, di1, di2, di3, di4, di5, di6, di7, di8, di9, postX_ret, postX_normal, ex_some]
  simp only [show IntKind.wrap .i64 (s.L + (f - load) / r.A) = s.L + (f - load) / r.A from wrap64 (by omega) (by omega)]
  rw [e1, e2]

def stdE (r : Ru) (s : Sta) (load k : Int) : Int := fstE (fstE (rulesErr r) (stateErr s)) (fstE (loadErr load) (fricErr r k))
theorem firstNZ_three {a b c : Int} : firstNZ [a, b, c] = fstE a (fstE b c) := by
  unfold fstE
  have := firstNZ_two (a := b) (b := c)
  unfold firstNZ
  split
  · rename_i h; rw [this]; rfl
  · rfl
theorem fstE_zero {a b : Int} : fstE a b = 0 ↔ a = 0 ∧ b = 0 := by
  unfold fstE
  split
  · rename_i h; simp [h]
  · rename_i h; simp [h]
theorem stateErr_zero {s : Sta} : stateErr s = 0 ↔ (-100000 ≤ s.L ∧ s.L ≤ 100000) ∧ -1000 ≤ s.F ∧ s.F ≤ 1000 := by
  unfold stateErr Wi
  split
  · rename_i h; simp [h]
  · rename_i h; simp; omega
theorem loadErr_zero {n : Int} : loadErr n = 0 ↔ 0 ≤ n ∧ n ≤ 1000 := by
  unfold loadErr Wi
  by_cases h : 0 ≤ n ∧ n ≤ 1000 <;> simp [h]
theorem fricErr_zero {r : Ru} {k : Int} : fricErr r k = 0 ↔ r.lo ≤ k ∧ k ≤ r.hi := by
  unfold fricErr Wi
  by_cases h : r.lo ≤ k ∧ k ≤ r.hi <;> simp [h]

theorem std_near {r : Ru} {s : Sta} {load k : Int} (h : stdE r s load k = 0) : Sg.Good r ∧ Near r s load k := by
  unfold stdE at h
  rw [fstE_zero, fstE_zero, fstE_zero, rules_ok, stateErr_zero, loadErr_zero, fricErr_zero] at h
  have := h.1.1.lo; have := h.1.1.hi
  exact ⟨h.1.1, ⟨by omega, by omega, by omega, by omega⟩⟩

theorem s_Stepped {r : Ru} {s : Sta} {load k : Int} : Contract Try.prog 16 [ruI r, ssI s, stI load k] (if stdE r s load k = 0 then .tup [ssI (stp r s load k), .int .i64 0] else .tup [ssI ⟨0, 0⟩, .int .i64 (stdE r s load k)]) := by
  refine contract_run Try.func16 k16 rfl ?_
  simp only [body16, b16, res16, b16k0, ruI, ssI, sbI, spI, swI, scI, stI, srI, saI, snI, ↓reduceIte, reduceCtorEq, Nat.reduceEqDiff, Nat.reduceAdd, Nat.reduceMul, Nat.reduceSub, Nat.reduceLeDiff, Nat.reduceBEq, Int.reduceToNat, Int.reduceLE, Int.reduceLT, Int.reduceEq, Int.reduceNe, di0, di1, di2, di3, di4, di5, di6, di7, di8, di9, postX_ret, postX_normal, ex_some]
  refine calls_of s_CheckState ?_; simp only [ruI, ssI, sbI, spI, swI, scI, stI, srI, saI, snI, res16, b16k0, ↓reduceIte, reduceCtorEq, Nat.reduceEqDiff, Nat.reduceAdd, Nat.reduceMul, Nat.reduceSub, Nat.reduceLeDiff, Nat.reduceBEq, Int.reduceToNat, Int.reduceLE, Int.reduceLT, Int.reduceEq, Int.reduceNe, di0, di1, di2, di3, di4, di5, di6, di7, di8, di9, postX_ret, postX_normal, ex_some]
  refine calls_of s_loadErr ?_; simp only [ruI, ssI, sbI, spI, swI, scI, stI, srI, saI, snI, res16, b16k0, ↓reduceIte, reduceCtorEq, Nat.reduceEqDiff, Nat.reduceAdd, Nat.reduceMul, Nat.reduceSub, Nat.reduceLeDiff, Nat.reduceBEq, Int.reduceToNat, Int.reduceLE, Int.reduceLT, Int.reduceEq, Int.reduceNe, di0, di1, di2, di3, di4, di5, di6, di7, di8, di9, postX_ret, postX_normal, ex_some]
  refine calls_of s_fricErr ?_; simp only [ruI, ssI, sbI, spI, swI, scI, stI, srI, saI, snI, res16, b16k0, ↓reduceIte, reduceCtorEq, Nat.reduceEqDiff, Nat.reduceAdd, Nat.reduceMul, Nat.reduceSub, Nat.reduceLeDiff, Nat.reduceBEq, Int.reduceToNat, Int.reduceLE, Int.reduceLT, Int.reduceEq, Int.reduceNe, di0, di1, di2, di3, di4, di5, di6, di7, di8, di9, postX_ret, postX_normal, ex_some]
  refine calls_of (s_first (l := [fstE (rulesErr r) (stateErr s), loadErr load, fricErr r k]) (by simp)) ?_; simp only [ruI, ssI, sbI, spI, swI, scI, stI, srI, saI, snI, res16, b16k0, ↓reduceIte, reduceCtorEq, Nat.reduceEqDiff, Nat.reduceAdd, Nat.reduceMul, Nat.reduceSub, Nat.reduceLeDiff, Nat.reduceBEq, Int.reduceToNat, Int.reduceLE, Int.reduceLT, Int.reduceEq, Int.reduceNe, di0, di1, di2, di3, di4, di5, di6, di7, di8, di9, postX_ret, postX_normal, ex_some]
  rw [firstNZ_three]
  show (if stdE r s load k = 0 then _ else _)
  split
  · rename_i h
    have hn := std_near h
    refine calls_of (s_step hn.1 hn.2) ?_; simp only [ruI, ssI, sbI, spI, swI, scI, stI, srI, saI, snI, res16, b16k0, ↓reduceIte, reduceCtorEq, Nat.reduceEqDiff, Nat.reduceAdd, Nat.reduceMul, Nat.reduceSub, Nat.reduceLeDiff, Nat.reduceBEq, Int.reduceToNat, Int.reduceLE, Int.reduceLT, Int.reduceEq, Int.reduceNe, di0, di1, di2, di3, di4, di5, di6, di7, di8, di9, postX_ret, postX_normal, ex_some]
  · rfl

def boxErr (b : Bx) : Int :=
  if ¬ (Wi b.ll (-100000) 100000 ∧ Wi b.lh (-100000) 100000) then 2 else if b.lh < b.ll then 9
  else if ¬ (Wi b.fl (-1000) 1000 ∧ Wi b.fh (-1000) 1000) then 2 else if b.fh < b.fl then 9 else 0
theorem boxErr_zero {b : Bx} : boxErr b = 0 ↔ (-100000 ≤ b.ll ∧ b.ll ≤ b.lh ∧ b.lh ≤ 100000) ∧ -1000 ≤ b.fl ∧ b.fl ≤ b.fh ∧ b.fh ≤ 1000 := by
  unfold boxErr Wi
  split
  · constructor
    · intro h; cases h
    · intro h; omega
  · split
    · constructor
      · intro h; cases h
      · intro h; omega
    · split
      · constructor
        · intro h; cases h
        · intro h; omega
      · split
        · constructor
          · intro h; cases h
          · intro h; omega
        · constructor
          · intro _; omega
          · intro _; rfl

theorem firstNZ_four {a b c d : Int} : firstNZ [a, b, c, d] = fstE a (fstE b (fstE c d)) := by
  have := firstNZ_three (a := b) (b := c) (c := d)
  unfold firstNZ
  rw [this]; rfl

theorem s_boxErr {b : Bx} : Contract Try.prog 118 [sbI b] (.int .i64 (boxErr b)) := by
  have fin : ∀ (p q : Bool), p = decide (Wi b.ll (-100000) 100000 ∧ Wi b.lh (-100000) 100000) → q = decide (Wi b.fl (-1000) 1000 ∧ Wi b.fh (-1000) 1000) →
      firstNZ [if p = true then 0 else 2, if b.ll ≤ b.lh then 0 else 9, if q = true then 0 else 2, if b.fl ≤ b.fh then 0 else 9] = boxErr b := by
    intro p q hp hq
    rw [firstNZ_four, hp, hq]
    unfold boxErr fstE
    simp only [decide_eq_true_eq]
    by_cases g1 : Wi b.ll (-100000) 100000 ∧ Wi b.lh (-100000) 100000 <;> by_cases g2 : b.ll ≤ b.lh <;> by_cases g3 : Wi b.fl (-1000) 1000 ∧ Wi b.fh (-1000) 1000 <;> by_cases g4 : b.fl ≤ b.fh <;>
      simp [g1, g2, g3, g4, Int.not_lt.2, Int.not_le.1] <;> omega
  refine contract_run Try.func118 k118 rfl ?_
  simp only [body118, b118, res118, ruI, ssI, sbI, spI, swI, scI, stI, srI, saI, snI, ↓reduceIte, reduceCtorEq, Nat.reduceEqDiff, Nat.reduceAdd, Nat.reduceMul, Nat.reduceSub, Nat.reduceLeDiff, Nat.reduceBEq, Int.reduceToNat, Int.reduceLE, Int.reduceLT, Int.reduceEq, Int.reduceNe, di0, di1, di2, di3, di4, di5, di6, di7, di8, di9, postX_ret, postX_normal, ex_some]
  refine calls_of s_isLevel ?_; simp only [ruI, ssI, sbI, spI, swI, scI, stI, srI, saI, snI, res118, ↓reduceIte, reduceCtorEq, Nat.reduceEqDiff, Nat.reduceAdd, Nat.reduceMul, Nat.reduceSub, Nat.reduceLeDiff, Nat.reduceBEq, Int.reduceToNat, Int.reduceLE, Int.reduceLT, Int.reduceEq, Int.reduceNe, di0, di1, di2, di3, di4, di5, di6, di7, di8, di9, postX_ret, postX_normal, ex_some]
  split
  · rename_i h1
    refine calls_of s_isLevel ?_; simp only [ruI, ssI, sbI, spI, swI, scI, stI, srI, saI, snI, res118, ↓reduceIte, reduceCtorEq, Nat.reduceEqDiff, Nat.reduceAdd, Nat.reduceMul, Nat.reduceSub, Nat.reduceLeDiff, Nat.reduceBEq, Int.reduceToNat, Int.reduceLE, Int.reduceLT, Int.reduceEq, Int.reduceNe, di0, di1, di2, di3, di4, di5, di6, di7, di8, di9, postX_ret, postX_normal, ex_some]
    refine calls_of s_unless ?_; simp only [ruI, ssI, sbI, spI, swI, scI, stI, srI, saI, snI, res118, ↓reduceIte, reduceCtorEq, Nat.reduceEqDiff, Nat.reduceAdd, Nat.reduceMul, Nat.reduceSub, Nat.reduceLeDiff, Nat.reduceBEq, Int.reduceToNat, Int.reduceLE, Int.reduceLT, Int.reduceEq, Int.reduceNe, di0, di1, di2, di3, di4, di5, di6, di7, di8, di9, postX_ret, postX_normal, ex_some]
    refine calls_of s_unless ?_; simp only [ruI, ssI, sbI, spI, swI, scI, stI, srI, saI, snI, res118, ↓reduceIte, reduceCtorEq, Nat.reduceEqDiff, Nat.reduceAdd, Nat.reduceMul, Nat.reduceSub, Nat.reduceLeDiff, Nat.reduceBEq, Int.reduceToNat, Int.reduceLE, Int.reduceLT, Int.reduceEq, Int.reduceNe, di0, di1, di2, di3, di4, di5, di6, di7, di8, di9, postX_ret, postX_normal, ex_some]
    refine calls_of s_isFlow ?_; simp only [ruI, ssI, sbI, spI, swI, scI, stI, srI, saI, snI, res118, ↓reduceIte, reduceCtorEq, Nat.reduceEqDiff, Nat.reduceAdd, Nat.reduceMul, Nat.reduceSub, Nat.reduceLeDiff, Nat.reduceBEq, Int.reduceToNat, Int.reduceLE, Int.reduceLT, Int.reduceEq, Int.reduceNe, di0, di1, di2, di3, di4, di5, di6, di7, di8, di9, postX_ret, postX_normal, ex_some]
    split
    · rename_i h2
      refine calls_of s_isFlow ?_; simp only [ruI, ssI, sbI, spI, swI, scI, stI, srI, saI, snI, res118, ↓reduceIte, reduceCtorEq, Nat.reduceEqDiff, Nat.reduceAdd, Nat.reduceMul, Nat.reduceSub, Nat.reduceLeDiff, Nat.reduceBEq, Int.reduceToNat, Int.reduceLE, Int.reduceLT, Int.reduceEq, Int.reduceNe, di0, di1, di2, di3, di4, di5, di6, di7, di8, di9, postX_ret, postX_normal, ex_some]
      refine calls_of s_unless ?_; simp only [ruI, ssI, sbI, spI, swI, scI, stI, srI, saI, snI, res118, ↓reduceIte, reduceCtorEq, Nat.reduceEqDiff, Nat.reduceAdd, Nat.reduceMul, Nat.reduceSub, Nat.reduceLeDiff, Nat.reduceBEq, Int.reduceToNat, Int.reduceLE, Int.reduceLT, Int.reduceEq, Int.reduceNe, di0, di1, di2, di3, di4, di5, di6, di7, di8, di9, postX_ret, postX_normal, ex_some]
      refine calls_of s_unless ?_; simp only [ruI, ssI, sbI, spI, swI, scI, stI, srI, saI, snI, res118, ↓reduceIte, reduceCtorEq, Nat.reduceEqDiff, Nat.reduceAdd, Nat.reduceMul, Nat.reduceSub, Nat.reduceLeDiff, Nat.reduceBEq, Int.reduceToNat, Int.reduceLE, Int.reduceLT, Int.reduceEq, Int.reduceNe, di0, di1, di2, di3, di4, di5, di6, di7, di8, di9, postX_ret, postX_normal, ex_some]
      have h := fin (decide (Wi b.lh (-100000) 100000)) (decide (Wi b.fh (-1000) 1000)) (by simp [h1]) (by simp [h2])
      simp only [decide_eq_true_eq] at h
      refine calls_of (s_first (l := [if Wi b.lh (-100000) 100000 then 0 else 2, if b.ll ≤ b.lh then 0 else 9, if Wi b.fh (-1000) 1000 then 0 else 2, if b.fl ≤ b.fh then 0 else 9]) (by simp)) ?_; simp only [ruI, ssI, sbI, spI, swI, scI, stI, srI, saI, snI, res118, ↓reduceIte, reduceCtorEq, Nat.reduceEqDiff, Nat.reduceAdd, Nat.reduceMul, Nat.reduceSub, Nat.reduceLeDiff, Nat.reduceBEq, Int.reduceToNat, Int.reduceLE, Int.reduceLT, Int.reduceEq, Int.reduceNe, di0, di1, di2, di3, di4, di5, di6, di7, di8, di9, postX_ret, postX_normal, ex_some]
      rw [h]
    · rename_i h2
      refine calls_of s_unless ?_; simp only [ruI, ssI, sbI, spI, swI, scI, stI, srI, saI, snI, res118, ↓reduceIte, reduceCtorEq, Nat.reduceEqDiff, Nat.reduceAdd, Nat.reduceMul, Nat.reduceSub, Nat.reduceLeDiff, Nat.reduceBEq, Int.reduceToNat, Int.reduceLE, Int.reduceLT, Int.reduceEq, Int.reduceNe, di0, di1, di2, di3, di4, di5, di6, di7, di8, di9, postX_ret, postX_normal, ex_some]
      refine calls_of s_unless ?_; simp only [ruI, ssI, sbI, spI, swI, scI, stI, srI, saI, snI, res118, ↓reduceIte, reduceCtorEq, Nat.reduceEqDiff, Nat.reduceAdd, Nat.reduceMul, Nat.reduceSub, Nat.reduceLeDiff, Nat.reduceBEq, Int.reduceToNat, Int.reduceLE, Int.reduceLT, Int.reduceEq, Int.reduceNe, di0, di1, di2, di3, di4, di5, di6, di7, di8, di9, postX_ret, postX_normal, ex_some]
      have h := fin (decide (Wi b.lh (-100000) 100000)) false (by simp [h1]) (by simp [h2])
      simp only [decide_eq_true_eq] at h
      refine calls_of (s_first (l := [if Wi b.lh (-100000) 100000 then 0 else 2, if b.ll ≤ b.lh then 0 else 9, 2, if b.fl ≤ b.fh then 0 else 9]) (by simp)) ?_; simp only [ruI, ssI, sbI, spI, swI, scI, stI, srI, saI, snI, res118, ↓reduceIte, reduceCtorEq, Nat.reduceEqDiff, Nat.reduceAdd, Nat.reduceMul, Nat.reduceSub, Nat.reduceLeDiff, Nat.reduceBEq, Int.reduceToNat, Int.reduceLE, Int.reduceLT, Int.reduceEq, Int.reduceNe, di0, di1, di2, di3, di4, di5, di6, di7, di8, di9, postX_ret, postX_normal, ex_some]
      simpa using h
  · rename_i h1
    refine calls_of s_unless ?_; simp only [ruI, ssI, sbI, spI, swI, scI, stI, srI, saI, snI, res118, ↓reduceIte, reduceCtorEq, Nat.reduceEqDiff, Nat.reduceAdd, Nat.reduceMul, Nat.reduceSub, Nat.reduceLeDiff, Nat.reduceBEq, Int.reduceToNat, Int.reduceLE, Int.reduceLT, Int.reduceEq, Int.reduceNe, di0, di1, di2, di3, di4, di5, di6, di7, di8, di9, postX_ret, postX_normal, ex_some]
    refine calls_of s_unless ?_; simp only [ruI, ssI, sbI, spI, swI, scI, stI, srI, saI, snI, res118, ↓reduceIte, reduceCtorEq, Nat.reduceEqDiff, Nat.reduceAdd, Nat.reduceMul, Nat.reduceSub, Nat.reduceLeDiff, Nat.reduceBEq, Int.reduceToNat, Int.reduceLE, Int.reduceLT, Int.reduceEq, Int.reduceNe, di0, di1, di2, di3, di4, di5, di6, di7, di8, di9, postX_ret, postX_normal, ex_some]
    refine calls_of s_isFlow ?_; simp only [ruI, ssI, sbI, spI, swI, scI, stI, srI, saI, snI, res118, ↓reduceIte, reduceCtorEq, Nat.reduceEqDiff, Nat.reduceAdd, Nat.reduceMul, Nat.reduceSub, Nat.reduceLeDiff, Nat.reduceBEq, Int.reduceToNat, Int.reduceLE, Int.reduceLT, Int.reduceEq, Int.reduceNe, di0, di1, di2, di3, di4, di5, di6, di7, di8, di9, postX_ret, postX_normal, ex_some]
    split
    · rename_i h2
      refine calls_of s_isFlow ?_; simp only [ruI, ssI, sbI, spI, swI, scI, stI, srI, saI, snI, res118, ↓reduceIte, reduceCtorEq, Nat.reduceEqDiff, Nat.reduceAdd, Nat.reduceMul, Nat.reduceSub, Nat.reduceLeDiff, Nat.reduceBEq, Int.reduceToNat, Int.reduceLE, Int.reduceLT, Int.reduceEq, Int.reduceNe, di0, di1, di2, di3, di4, di5, di6, di7, di8, di9, postX_ret, postX_normal, ex_some]
      refine calls_of s_unless ?_; simp only [ruI, ssI, sbI, spI, swI, scI, stI, srI, saI, snI, res118, ↓reduceIte, reduceCtorEq, Nat.reduceEqDiff, Nat.reduceAdd, Nat.reduceMul, Nat.reduceSub, Nat.reduceLeDiff, Nat.reduceBEq, Int.reduceToNat, Int.reduceLE, Int.reduceLT, Int.reduceEq, Int.reduceNe, di0, di1, di2, di3, di4, di5, di6, di7, di8, di9, postX_ret, postX_normal, ex_some]
      refine calls_of s_unless ?_; simp only [ruI, ssI, sbI, spI, swI, scI, stI, srI, saI, snI, res118, ↓reduceIte, reduceCtorEq, Nat.reduceEqDiff, Nat.reduceAdd, Nat.reduceMul, Nat.reduceSub, Nat.reduceLeDiff, Nat.reduceBEq, Int.reduceToNat, Int.reduceLE, Int.reduceLT, Int.reduceEq, Int.reduceNe, di0, di1, di2, di3, di4, di5, di6, di7, di8, di9, postX_ret, postX_normal, ex_some]
      have h := fin false (decide (Wi b.fh (-1000) 1000)) (by simp [h1]) (by simp [h2])
      simp only [decide_eq_true_eq] at h
      refine calls_of (s_first (l := [2, if b.ll ≤ b.lh then 0 else 9, if Wi b.fh (-1000) 1000 then 0 else 2, if b.fl ≤ b.fh then 0 else 9]) (by simp)) ?_; simp only [ruI, ssI, sbI, spI, swI, scI, stI, srI, saI, snI, res118, ↓reduceIte, reduceCtorEq, Nat.reduceEqDiff, Nat.reduceAdd, Nat.reduceMul, Nat.reduceSub, Nat.reduceLeDiff, Nat.reduceBEq, Int.reduceToNat, Int.reduceLE, Int.reduceLT, Int.reduceEq, Int.reduceNe, di0, di1, di2, di3, di4, di5, di6, di7, di8, di9, postX_ret, postX_normal, ex_some]
      simpa using h
    · rename_i h2
      refine calls_of s_unless ?_; simp only [ruI, ssI, sbI, spI, swI, scI, stI, srI, saI, snI, res118, ↓reduceIte, reduceCtorEq, Nat.reduceEqDiff, Nat.reduceAdd, Nat.reduceMul, Nat.reduceSub, Nat.reduceLeDiff, Nat.reduceBEq, Int.reduceToNat, Int.reduceLE, Int.reduceLT, Int.reduceEq, Int.reduceNe, di0, di1, di2, di3, di4, di5, di6, di7, di8, di9, postX_ret, postX_normal, ex_some]
      refine calls_of s_unless ?_; simp only [ruI, ssI, sbI, spI, swI, scI, stI, srI, saI, snI, res118, ↓reduceIte, reduceCtorEq, Nat.reduceEqDiff, Nat.reduceAdd, Nat.reduceMul, Nat.reduceSub, Nat.reduceLeDiff, Nat.reduceBEq, Int.reduceToNat, Int.reduceLE, Int.reduceLT, Int.reduceEq, Int.reduceNe, di0, di1, di2, di3, di4, di5, di6, di7, di8, di9, postX_ret, postX_normal, ex_some]
      have h := fin false false (by simp [h1]) (by simp [h2])
      refine calls_of (s_first (l := [2, if b.ll ≤ b.lh then 0 else 9, 2, if b.fl ≤ b.fh then 0 else 9]) (by simp)) ?_; simp only [ruI, ssI, sbI, spI, swI, scI, stI, srI, saI, snI, res118, ↓reduceIte, reduceCtorEq, Nat.reduceEqDiff, Nat.reduceAdd, Nat.reduceMul, Nat.reduceSub, Nat.reduceLeDiff, Nat.reduceBEq, Int.reduceToNat, Int.reduceLE, Int.reduceLT, Int.reduceEq, Int.reduceNe, di0, di1, di2, di3, di4, di5, di6, di7, di8, di9, postX_ret, postX_normal, ex_some]
      simpa using h

theorem s_CheckBox {r : Ru} {b : Bx} : Contract Try.prog 55 [ruI r, sbI b] (.int .i64 (fstE (rulesErr r) (boxErr b))) := by
  refine contract_run Try.func55 k55 rfl ?_
  simp only [body55, b55, res55, ruI, ssI, sbI, spI, swI, scI, stI, srI, saI, snI, ↓reduceIte, reduceCtorEq, Nat.reduceEqDiff, Nat.reduceAdd, Nat.reduceMul, Nat.reduceSub, Nat.reduceLeDiff, Nat.reduceBEq, Int.reduceToNat, Int.reduceLE, Int.reduceLT, Int.reduceEq, Int.reduceNe, di0, di1, di2, di3, di4, di5, di6, di7, di8, di9, postX_ret, postX_normal, ex_some]
  refine calls_of s_CheckRules ?_; simp only [ruI, ssI, sbI, spI, swI, scI, stI, srI, saI, snI, res55, ↓reduceIte, reduceCtorEq, Nat.reduceEqDiff, Nat.reduceAdd, Nat.reduceMul, Nat.reduceSub, Nat.reduceLeDiff, Nat.reduceBEq, Int.reduceToNat, Int.reduceLE, Int.reduceLT, Int.reduceEq, Int.reduceNe, di0, di1, di2, di3, di4, di5, di6, di7, di8, di9, postX_ret, postX_normal, ex_some]
  refine calls_of s_boxErr ?_; simp only [ruI, ssI, sbI, spI, swI, scI, stI, srI, saI, snI, res55, ↓reduceIte, reduceCtorEq, Nat.reduceEqDiff, Nat.reduceAdd, Nat.reduceMul, Nat.reduceSub, Nat.reduceLeDiff, Nat.reduceBEq, Int.reduceToNat, Int.reduceLE, Int.reduceLT, Int.reduceEq, Int.reduceNe, di0, di1, di2, di3, di4, di5, di6, di7, di8, di9, postX_ret, postX_normal, ex_some]
  refine calls_of (s_first (l := [rulesErr r, boxErr b]) (by simp)) ?_; simp only [ruI, ssI, sbI, spI, swI, scI, stI, srI, saI, snI, res55, ↓reduceIte, reduceCtorEq, Nat.reduceEqDiff, Nat.reduceAdd, Nat.reduceMul, Nat.reduceSub, Nat.reduceLeDiff, Nat.reduceBEq, Int.reduceToNat, Int.reduceLE, Int.reduceLT, Int.reduceEq, Int.reduceNe, di0, di1, di2, di3, di4, di5, di6, di7, di8, di9, postX_ret, postX_normal, ex_some]
  rw [firstNZ_two]
end Go.DI

/- The functions of the library that the surge chambers use, as data. No condition. -/
namespace Go.DI
open Go.Proofs Go.RowKit
/-- slices.ContainsFunc[[]guidevane/api.SurgeState,guidevane/api.SurgeState] -/
def b100 : DCode :=
 (.seq
  (.region [⟨(some 4), .mov, [.c (.bool false)], none, []⟩] false)
  (.seq
   (.region [⟨(some 5), .movv, [.t 0], none, []⟩,
     ⟨(some 6), .mov, [.t 1], none, []⟩,
     ⟨(some 7), .call, [.f 146, .t 5, .t 6], none, [0, 1]⟩,
     ⟨(some 8), (.bin .geq), [.t 7, .c (.int .i64 0)], none, [2]⟩,
     ⟨(some 4), .mov, [.t 8], none, [3, 2, 0, 1, 2, 3]⟩] false)
   .ret))
def d100 : DFn := ⟨2, 9, [.tmp 4], b100⟩
theorem body100 : d100.body = b100 := rfl
theorem res100 : d100.res = [.tmp 4] := rfl
theorem k100 : chkFn Try.prog Try.f100 d100 = true := by kernel_rfl

/-- slices.IndexFunc[[]guidevane/api.SurgeState,guidevane/api.SurgeState] -/
def b146k0 : DCode :=
 (.region [⟨(some 18), (.bin .add), [.t 8, .c (.int .i64 1)], none, []⟩,
   ⟨(some 8), .mov, [.t 18], none, [0]⟩] false)
def b146k1 : DCode :=
 (.seq
  (.block 1
   (.seq
    (.region [⟨(some 10), .mov, [.t 8], none, []⟩,
      ⟨(some 5), .mov, [.t 10], none, [0, 0]⟩] false)
    (.seq
     (.region [⟨(some 11), .mov, [.t 1], none, []⟩,
       ⟨(some 12), .movv, [.t 0], none, []⟩,
       ⟨(some 13), .mov, [.t 5], none, []⟩,
       ⟨(some 14), (.iaddr 2), [.t 12, .t 13], none, [1, 2]⟩,
       ⟨(some 15), (.load true 2), [.t 14], none, [3]⟩,
       ⟨(some 16), .call, [.t 11, .t 15], none, [0, 4]⟩] false)
     (.cond (.t 16)
      (.seq
       (.region [⟨(some 17), .mov, [.t 5], none, []⟩,
         ⟨(some 4), .mov, [.t 17], none, [0, 0]⟩] false)
       .ret)
      .skip))))
  (.keep [0, 1, 7, 8] [] b146k0))
def b146l0 : DCode := .keep [0, 1, 7, 8] []
  (.seq
   (.region [⟨(some 9), (.bin .lss), [.t 8, .t 7], none, []⟩] false)
   (.seq
    (.cond (.t 9)
     .skip
     (.exit 0))
    (.keep [0, 1, 7, 8] [] b146k1)))
def b146k2 : DCode :=
 (.seq
  (.region [⟨(some 4), .mov, [.c (.int .i64 (-1))], none, []⟩] false)
  .ret)
def b146 : DCode :=
 (.seq
  (.region [⟨(some 4), .mov, [.c (.int .i64 0)], none, []⟩] false)
  (.seq
   (.seq
    (.region [⟨(some 6), .movv, [.t 0], none, []⟩,
      ⟨(some 7), .len, [.t 6], none, [0]⟩,
      ⟨(some 8), .mov, [.c (.int .i64 0)], none, []⟩] false)
    (.block 0
     (.loop b146l0)))
   (.keep [] [] b146k2)))
def d146 : DFn := ⟨2, 19, [.tmp 4], b146⟩
theorem body146 : d146.body = b146 := rfl
theorem res146 : d146.res = [.tmp 4] := rfl
theorem k146 : chkFn Try.prog Try.f146 d146 = true := by kernel_rfl

/-- slices.Contains[[]int,int] -/
def b148 : DCode :=
 (.seq
  (.region [⟨(some 4), .mov, [.c (.bool false)], none, []⟩] false)
  (.seq
   (.region [⟨(some 5), .movv, [.t 0], none, []⟩,
     ⟨(some 6), .mov, [.t 1], none, []⟩,
     ⟨(some 7), .call, [.f 165, .t 5, .t 6], none, [0, 1]⟩,
     ⟨(some 8), (.bin .geq), [.t 7, .c (.int .i64 0)], none, [2]⟩,
     ⟨(some 4), .mov, [.t 8], none, [3, 2, 0, 1, 2, 3]⟩] false)
   .ret))
def d148 : DFn := ⟨2, 9, [.tmp 4], b148⟩
theorem body148 : d148.body = b148 := rfl
theorem res148 : d148.res = [.tmp 4] := rfl
theorem k148 : chkFn Try.prog Try.f148 d148 = true := by kernel_rfl

/-- slices.Index[[]int,int] -/
def b165k0 : DCode :=
 (.region [⟨(some 18), (.bin .add), [.t 8, .c (.int .i64 1)], none, []⟩,
   ⟨(some 8), .mov, [.t 18], none, [0]⟩] false)
def b165k1 : DCode :=
 (.seq
  (.block 1
   (.seq
    (.region [⟨(some 10), .mov, [.t 8], none, []⟩,
      ⟨(some 5), .mov, [.t 10], none, [0, 0]⟩] false)
    (.seq
     (.region [⟨(some 11), .mov, [.t 1], none, []⟩,
       ⟨(some 12), .movv, [.t 0], none, []⟩,
       ⟨(some 13), .mov, [.t 5], none, []⟩,
       ⟨(some 14), (.iaddr 1), [.t 12, .t 13], none, [1, 2]⟩,
       ⟨(some 15), (.load false 1), [.t 14], none, [3]⟩,
       ⟨(some 16), (.bin .eql), [.t 11, .t 15], none, [0, 4]⟩] false)
     (.cond (.t 16)
      (.seq
       (.region [⟨(some 17), .mov, [.t 5], none, []⟩,
         ⟨(some 4), .mov, [.t 17], none, [0, 0]⟩] false)
       .ret)
      .skip))))
  (.keep [0, 1, 7, 8] [] b165k0))
def b165l0 : DCode := .keep [0, 1, 7, 8] []
  (.seq
   (.region [⟨(some 9), (.bin .lss), [.t 8, .t 7], none, []⟩] false)
   (.seq
    (.cond (.t 9)
     .skip
     (.exit 0))
    (.keep [0, 1, 7, 8] [] b165k1)))
def b165k2 : DCode :=
 (.seq
  (.region [⟨(some 4), .mov, [.c (.int .i64 (-1))], none, []⟩] false)
  .ret)
def b165 : DCode :=
 (.seq
  (.region [⟨(some 4), .mov, [.c (.int .i64 0)], none, []⟩] false)
  (.seq
   (.seq
    (.region [⟨(some 6), .movv, [.t 0], none, []⟩,
      ⟨(some 7), .len, [.t 6], none, [0]⟩,
      ⟨(some 8), .mov, [.c (.int .i64 0)], none, []⟩] false)
    (.block 0
     (.loop b165l0)))
   (.keep [] [] b165k2)))
def d165 : DFn := ⟨2, 19, [.tmp 4], b165⟩
theorem body165 : d165.body = b165 := rfl
theorem res165 : d165.res = [.tmp 4] := rfl
theorem k165 : chkFn Try.prog Try.f165 d165 = true := by kernel_rfl

/-- slices.Max[[]int,int] -/
def b150k0 : DCode :=
 (.seq
  (.block 1
   (.region [⟨(some 18), .mov, [.t 3], none, []⟩,
     ⟨(some 19), .movv, [.t 0], none, []⟩,
     ⟨(some 20), .mov, [.t 4], none, []⟩,
     ⟨(some 21), (.iaddr 1), [.t 19, .t 20], none, [1, 2]⟩,
     ⟨(some 22), (.load false 1), [.t 21], none, [3]⟩,
     ⟨(some 23), (.mm true), [.t 18, .t 22], none, [0, 4]⟩,
     ⟨(some 3), .mov, [.t 23], none, [5, 0, 1, 2, 3, 4, 5]⟩] false))
  (.region [⟨(some 16), .mov, [.t 4], none, []⟩,
    ⟨(some 17), (.bin .add), [.t 16, .c (.int .i64 1)], none, [0]⟩,
    ⟨(some 4), .mov, [.t 17], none, [1, 0, 1]⟩] false))
def b150l0 : DCode := .keep [0, 3, 4] []
  (.seq
   (.seq
    (.region [⟨(some 12), .mov, [.t 4], none, []⟩,
      ⟨(some 13), .movv, [.t 0], none, []⟩,
      ⟨(some 14), .len, [.t 13], none, [1]⟩,
      ⟨(some 15), (.bin .lss), [.t 12, .t 14], none, [0, 2]⟩] false)
    (.cond (.t 15)
     .skip
     (.exit 0)))
   (.keep [0, 3, 4] [] b150k0))
def b150k1 : DCode :=
 (.seq
  (.region [⟨(some 24), .mov, [.t 3], none, []⟩,
    ⟨(some 2), .mov, [.t 24], none, [0, 0]⟩] false)
  .ret)
def b150k2 : DCode :=
 (.seq
  (.region [⟨(some 9), .movv, [.t 0], none, []⟩,
    ⟨(some 10), (.iaddr 1), [.t 9, .c (.int .i64 0)], none, [0]⟩,
    ⟨(some 11), (.load false 1), [.t 10], none, [1]⟩,
    ⟨(some 3), .mov, [.t 11], none, [2, 0, 1, 2]⟩] false)
  (.seq
   (.seq
    (.region [⟨(some 4), .mov, [.c (.int .i64 1)], none, []⟩] false)
    (.block 0
     (.loop b150l0)))
   (.keep [3] [] b150k1)))
def b150 : DCode :=
 (.seq
  (.region [⟨(some 2), .mov, [.c (.int .i64 0)], none, []⟩] false)
  (.seq
   (.seq
    (.region [⟨(some 5), .movv, [.t 0], none, []⟩,
      ⟨(some 6), .len, [.t 5], none, [0]⟩,
      ⟨(some 7), (.bin .lss), [.t 6, .c (.int .i64 1)], none, [1]⟩] false)
    (.cond (.t 7)
     .dead
     .skip))
   (.keep [0] [] b150k2)))
def d150 : DFn := ⟨1, 25, [.tmp 2], b150⟩
theorem body150 : d150.body = b150 := rfl
theorem res150 : d150.res = [.tmp 2] := rfl
theorem k150 : chkFn Try.prog Try.f150 d150 = true := by kernel_rfl

/-- slices.Clone[[]int,int] -/
def b105k0 : DCode :=
 (.seq
  (.region [⟨(some 5), (.bsl 1), [], none, []⟩,
    ⟨(some 6), .movv, [.t 0], none, []⟩,
    ⟨(some 7), (.append 1 8 false), [.t 5, .t 6], none, [0, 1]⟩,
    ⟨(some 2), .movv, [.t 7], none, [2, 2, 0, 1, 2]⟩] false)
  .ret)
def b105 : DCode :=
 (.seq
  (.region [⟨(some 2), .mov, [.c (.slc 1 [])], none, []⟩] false)
  (.seq
   (.seq
    (.region [⟨(some 3), .movv, [.t 0], none, []⟩,
      ⟨(some 4), (.snil false), [.t 3, .c (.slc 1 [])], none, [0]⟩] false)
    (.cond (.t 4)
     (.seq
      (.region [⟨(some 2), .mov, [.c (.slc 1 [])], none, []⟩] false)
      .ret)
     .skip))
   (.keep [0] [] b105k0)))
def d105 : DFn := ⟨1, 8, [.tmp 2], b105⟩
theorem body105 : d105.body = b105 := rfl
theorem res105 : d105.res = [.tmp 2] := rfl
theorem k105 : chkFn Try.prog Try.f105 d105 = true := by kernel_rfl

/-- slices.Clone[[]int,int] -/
def b2105k0 : DCode :=
 (.seq
  (.region [⟨(some 5), (.bsl 1), [], none, []⟩,
    ⟨(some 6), .movv, [.t 0], none, []⟩,
    ⟨(some 7), (.append 1 8 false), [.t 5, .t 6], none, [0, 1]⟩,
    ⟨(some 2), .mov, [.t 7], none, [2, 2, 0, 1, 2]⟩] false)
  (.ren 7 1000
   .ret))
def b2105 : DCode :=
 (.seq
  (.region [⟨(some 2), .mov, [.z 1], none, []⟩] false)
  (.seq
   (.seq
    (.region [⟨(some 3), .movv, [.t 0], none, []⟩,
      ⟨(some 4), (.snil false), [.t 3, .c (.slc 1 [])], none, [0]⟩] false)
    (.cond (.t 4)
     (.seq
      (.region [⟨(some 2), .mov, [.z 1], none, []⟩] false)
      .ret)
     .skip))
   (.keep [0] [0] b2105k0)))
def d2105 : DFn := ⟨1, 8, [.tmp 2], b2105⟩
theorem body2105 : d2105.body = b2105 := rfl
theorem res2105 : d2105.res = [.tmp 2] := rfl
theorem k2105 : chkFnB Try.prog Try.f105 d2105 [0] [0, 1000] = true := by kernel_rfl

end Go.DI

/- Contracts: the surge chambers' runs, as iterators, and what collects them. No condition. -/
set_option linter.unusedSimpArgs false
namespace Go.DI
open Go.Proofs Go.RowKit Sg

/-- The states of a run. -/
def runL (r : Ru) (k : Int) : Sta → List Int → List Sta
  | _, [] => []
  | s, l :: ls => stp r s l k :: runL r k (stp r s l k) ls

theorem runL_length {r : Ru} {k : Int} : ∀ (ls : List Int) (s : Sta), (runL r k s ls).length = ls.length
  | [], s => rfl
  | l :: ls, s => by simp [runL, runL_length ls]

theorem s_run {r : Ru} {s : Sta} {ls : List Int} {k : Int} : Contract Try.prog 115 [ruI r, ssI s, snI ls, .int .i64 k] (.func 154 [] [.ptr (ssI s), .ptr (.agg [snI ls]), .ptr (ruI r), .ptr (.agg [.int .i64 k])]) := by
  refine contract_run Try.func115 k115 rfl ?_
  simp only [body115, b115, res115, ruI, ssI, sbI, spI, swI, scI, stI, srI, saI, snI, ↓reduceIte, reduceCtorEq, Nat.reduceEqDiff, Nat.reduceAdd, Nat.reduceMul, Nat.reduceSub, Nat.reduceLeDiff, Nat.reduceBEq, Int.reduceToNat, Int.reduceLE, Int.reduceLT, Int.reduceEq, Int.reduceNe, di0, di1, di2, di3, di4, di5, di6, di7, di8, di9, postX_ret, postX_normal, ex_some]

def Loads (ls : List Int) : Prop := ls.length ≤ 1000 ∧ ∀ x ∈ ls, 0 ≤ x ∧ x ≤ 1000

theorem it_run {r : Ru} {s : Sta} {ls : List Int} {k : Int} (hr : Sg.Good r) (hs : (-1000000 ≤ s.L ∧ s.L ≤ 1000000) ∧ -1000 ≤ s.F ∧ s.F ≤ 1000) (hl : Loads ls) (hk : 0 ≤ k ∧ k ≤ 100) (l : Nat) :
    BC Try.prog 154 [.yld l, .imm (.ptr (ssI s)), .imm (.ptr (.agg [snI ls])), .imm (.ptr (ruI r)), .imm (.ptr (.agg [.int .i64 k]))] (lookR [(0, .seq l (false, some ((runL r k s ls).map fun x => [ssI x])))]) fun _ R' => seqOver l false R' := by
  refine bc_run Try.func154 k154 rfl rfl ?_
  simp only [body154, b154, res154, b154k0, b154k1, ruI, ssI, sbI, spI, swI, scI, stI, srI, saI, snI, ↓reduceIte, reduceCtorEq, Nat.reduceEqDiff, Nat.reduceAdd, Nat.reduceMul, Nat.reduceSub, Nat.reduceLeDiff, Nat.reduceBEq, Int.reduceToNat, Int.reduceLE, Int.reduceLT, Int.reduceEq, Int.reduceNe, di0, di1, di2, di3, di4, di5, di6, di7, di8, di9, postX_ret, postX_normal, ex_some]
  refine loop_keep (α := Nat × Sta) rfl (fun q => ls.length - q.1) (fun q => q.1 ≤ ls.length ∧ (-(1000000 + 2000 * (q.1 : Int)) ≤ q.2.L ∧ q.2.L ≤ 1000000 + 2000 * (q.1 : Int)) ∧ -1000 ≤ q.2.F ∧ q.2.F ≤ 1000)
    (fun q => [(0, .yld l), (3, .imm (.ptr (ruI r))), (4, .imm (.ptr (.agg [.int .i64 k]))), (6, .ref 6 0), (10, .imm (snI ls)), (11, .imm (.int .i64 ls.length)), (12, .imm (.int .i64 q.1))])
    (fun q => [(0, .seq l (false, some ((runL r k q.2 (ls.drop q.1)).map fun x => [ssI x]))), (6, .box [.imm (.int .i64 q.2.L), .imm (.int .i64 q.2.F)])]) (0, s) ⟨Nat.zero_le _, by simpa using hs.1, hs.2⟩ (by simp only [ruI, ssI, sbI, spI, swI, scI, stI, srI, saI, snI, ↓reduceIte, reduceCtorEq, Nat.reduceEqDiff, Nat.reduceAdd, Nat.reduceMul, Nat.reduceSub, Nat.reduceLeDiff, Nat.reduceBEq, Int.reduceToNat, Int.reduceLE, Int.reduceLT, Int.reduceEq, Int.reduceNe, di0, di1, di2, di3, di4, di5, di6, di7, di8, di9, postX_ret, postX_normal, ex_some] <;> rfl) ?_
  rintro ⟨i, s⟩ ⟨hi, hL, hF⟩ ih
  dsimp only at hi hL hF ⊢
  simp only [res154, b154k0, b154k1, ruI, ssI, sbI, spI, swI, scI, stI, srI, saI, snI, ↓reduceIte, reduceCtorEq, Nat.reduceEqDiff, Nat.reduceAdd, Nat.reduceMul, Nat.reduceSub, Nat.reduceLeDiff, Nat.reduceBEq, Int.reduceToNat, Int.reduceLE, Int.reduceLT, Int.reduceEq, Int.reduceNe, di0, di1, di2, di3, di4, di5, di6, di7, di8, di9, postX_ret, postX_normal, ex_some]
  split
  · rename_i h
    have hlt : i < ls.length := by omega
    have hd : ls.drop i = ls.getD i 0 :: ls.drop (i + 1) := by
      rw [List.drop_eq_getElem_cons hlt]
      congr 1
      rw [List.getD_eq_getElem?_getD]; simp [hlt]
    have hld : 0 ≤ ls.getD i 0 ∧ ls.getD i 0 ≤ 1000 := hl.2 _ (by rw [List.getD_eq_getElem?_getD]; simp [hlt])
    have hil : (i : Int) ≤ 1000 := by have := hl.1; omega
    have hb := stp_bd (k := k) hr hL hld
    rw [hd]
    simp only [runL, List.map_cons]
    generalize ls.getD i 0 = x at hld hb
    refine ⟨h, ?_⟩
    refine calls_of (s_step hr ⟨by omega, by omega, by omega, by omega⟩) ?_; simp only [ruI, ssI, sbI, spI, swI, scI, stI, srI, saI, snI, res154, b154k0, b154k1, ↓reduceIte, reduceCtorEq, Nat.reduceEqDiff, Nat.reduceAdd, Nat.reduceMul, Nat.reduceSub, Nat.reduceLeDiff, Nat.reduceBEq, Int.reduceToNat, Int.reduceLE, Int.reduceLT, Int.reduceEq, Int.reduceNe, di0, di1, di2, di3, di4, di5, di6, di7, di8, di9, postX_ret, postX_normal, ex_some]
    refine do_yield rfl rfl rfl ?_ ?_
    · intro _
      simp only [res154, b154k0, b154k1, ruI, ssI, sbI, spI, swI, scI, stI, srI, saI, snI, ↓reduceIte, reduceCtorEq, Nat.reduceEqDiff, Nat.reduceAdd, Nat.reduceMul, Nat.reduceSub, Nat.reduceLeDiff, Nat.reduceBEq, Int.reduceToNat, Int.reduceLE, Int.reduceLT, Int.reduceEq, Int.reduceNe, di0, di1, di2, di3, di4, di5, di6, di7, di8, di9, postX_ret, postX_normal, ex_some]
      rw [wrap64 (by omega) (by omega)]
      refine ih (i + 1, stp r s x k) _ _ (by dsimp only; omega) ⟨by dsimp only; omega, ?_, hb.2⟩ (by simp only [ruI, ssI, sbI, spI, swI, scI, stI, srI, saI, snI, ↓reduceIte, reduceCtorEq, Nat.reduceEqDiff, Nat.reduceAdd, Nat.reduceMul, Nat.reduceSub, Nat.reduceLeDiff, Nat.reduceBEq, Int.reduceToNat, Int.reduceLE, Int.reduceLT, Int.reduceEq, Int.reduceNe, di0, di1, di2, di3, di4, di5, di6, di7, di8, di9, postX_ret, postX_normal, ex_some] <;> rfl)
      dsimp only
      omega
    · simp only [res154, b154k0, b154k1, ruI, ssI, sbI, spI, swI, scI, stI, srI, saI, snI, ↓reduceIte, reduceCtorEq, Nat.reduceEqDiff, Nat.reduceAdd, Nat.reduceMul, Nat.reduceSub, Nat.reduceLeDiff, Nat.reduceBEq, Int.reduceToNat, Int.reduceLE, Int.reduceLT, Int.reduceEq, Int.reduceNe, di0, di1, di2, di3, di4, di5, di6, di7, di8, di9, postX_ret, postX_normal, ex_some]
      rw [outD_nil res154]
      exact ⟨_, rfl, rfl, .inr rfl⟩
  · rename_i h
    have hie : i = ls.length := by omega
    subst hie
    rw [outD_nil res154]
    refine ⟨_, rfl, rfl, .inl ⟨rfl, ?_⟩⟩
    simp [runL, lookR]

end Go.DI

/- Contracts: boxes' steps and runs; the errors of loads. No condition. -/
set_option linter.unusedSimpArgs false
namespace Go.DI
open Go.Proofs Go.RowKit Sg

/-- The step of a box. -/
def bstp (r : Ru) (b : Bx) (load : Int) : Bx :=
  ⟨min (stp r ⟨b.ll, b.fl⟩ load r.lo).L (stp r ⟨b.ll, b.fl⟩ load r.hi).L, max (stp r ⟨b.lh, b.fh⟩ load r.lo).L (stp r ⟨b.lh, b.fh⟩ load r.hi).L,
    min (stp r ⟨b.lh, b.fl⟩ load r.lo).F (stp r ⟨b.lh, b.fl⟩ load r.hi).F, max (stp r ⟨b.ll, b.fh⟩ load r.lo).F (stp r ⟨b.ll, b.fh⟩ load r.hi).F⟩

theorem s_corner {r : Ru} {load L F : Int} (hr : Sg.Good r) (h1 : -1000000000 ≤ L ∧ L ≤ 1000000000) (h2 : -1000 ≤ F ∧ F ≤ 1000) (h3 : 0 ≤ load ∧ load ≤ 1000) :
    Contract Try.prog 145 [.int .i64 L, .int .i64 F, .ptr (ruI r), .ptr (.agg [.int .i64 load])]
      (.tup [ssI ⟨min (stp r ⟨L, F⟩ load r.lo).L (stp r ⟨L, F⟩ load r.hi).L, min (stp r ⟨L, F⟩ load r.lo).F (stp r ⟨L, F⟩ load r.hi).F⟩, ssI ⟨max (stp r ⟨L, F⟩ load r.lo).L (stp r ⟨L, F⟩ load r.hi).L, max (stp r ⟨L, F⟩ load r.lo).F (stp r ⟨L, F⟩ load r.hi).F⟩]) := by
  have k1 := hr.lo; have k2 := hr.le; have k3 := hr.hi
  refine contract_run Try.func145 k145 rfl ?_
  simp only [body145, b145, res145, ruI, ssI, sbI, spI, swI, scI, stI, srI, saI, snI, ↓reduceIte, reduceCtorEq, Nat.reduceEqDiff, Nat.reduceAdd, Nat.reduceMul, Nat.reduceSub, Nat.reduceLeDiff, Nat.reduceBEq, Int.reduceToNat, Int.reduceLE, Int.reduceLT, Int.reduceEq, Int.reduceNe, di0, di1, di2, di3, di4, di5, di6, di7, di8, di9, postX_ret, postX_normal, ex_some]
  refine calls_of (s_step (s := ⟨L, F⟩) hr ⟨h1, h2, h3, by omega⟩) ?_; simp only [res145, ruI, ssI, sbI, spI, swI, scI, stI, srI, saI, snI, ↓reduceIte, reduceCtorEq, Nat.reduceEqDiff, Nat.reduceAdd, Nat.reduceMul, Nat.reduceSub, Nat.reduceLeDiff, Nat.reduceBEq, Int.reduceToNat, Int.reduceLE, Int.reduceLT, Int.reduceEq, Int.reduceNe, di0, di1, di2, di3, di4, di5, di6, di7, di8, di9, postX_ret, postX_normal, ex_some]
  refine calls_of (s_step (s := ⟨L, F⟩) hr ⟨h1, h2, h3, by omega⟩) ?_; simp only [res145, ruI, ssI, sbI, spI, swI, scI, stI, srI, saI, snI, ↓reduceIte, reduceCtorEq, Nat.reduceEqDiff, Nat.reduceAdd, Nat.reduceMul, Nat.reduceSub, Nat.reduceLeDiff, Nat.reduceBEq, Int.reduceToNat, Int.reduceLE, Int.reduceLT, Int.reduceEq, Int.reduceNe, di0, di1, di2, di3, di4, di5, di6, di7, di8, di9, postX_ret, postX_normal, ex_some]

theorem s_boxStep {r : Ru} {b : Bx} {load : Int} (hr : Sg.Good r) (h1 : -1000000000 ≤ b.ll ∧ b.ll ≤ 1000000000) (h1' : -1000000000 ≤ b.lh ∧ b.lh ≤ 1000000000) (h2 : -1000 ≤ b.fl ∧ b.fl ≤ 1000) (h2' : -1000 ≤ b.fh ∧ b.fh ≤ 1000) (h3 : 0 ≤ load ∧ load ≤ 1000) :
    Contract Try.prog 98 [ruI r, sbI b, .int .i64 load] (sbI (bstp r b load)) := by
  refine contract_run Try.func98 k98 rfl ?_
  simp only [body98, b98, res98, ruI, ssI, sbI, spI, swI, scI, stI, srI, saI, snI, ↓reduceIte, reduceCtorEq, Nat.reduceEqDiff, Nat.reduceAdd, Nat.reduceMul, Nat.reduceSub, Nat.reduceLeDiff, Nat.reduceBEq, Int.reduceToNat, Int.reduceLE, Int.reduceLT, Int.reduceEq, Int.reduceNe, di0, di1, di2, di3, di4, di5, di6, di7, di8, di9, postX_ret, postX_normal, ex_some]
  refine calls_of (s_corner (r := r) (load := load) hr h1 h2 h3) ?_; simp only [res98, ruI, ssI, sbI, spI, swI, scI, stI, srI, saI, snI, ↓reduceIte, reduceCtorEq, Nat.reduceEqDiff, Nat.reduceAdd, Nat.reduceMul, Nat.reduceSub, Nat.reduceLeDiff, Nat.reduceBEq, Int.reduceToNat, Int.reduceLE, Int.reduceLT, Int.reduceEq, Int.reduceNe, di0, di1, di2, di3, di4, di5, di6, di7, di8, di9, postX_ret, postX_normal, ex_some]
  refine calls_of (s_corner (r := r) (load := load) hr h1' h2' h3) ?_; simp only [res98, ruI, ssI, sbI, spI, swI, scI, stI, srI, saI, snI, ↓reduceIte, reduceCtorEq, Nat.reduceEqDiff, Nat.reduceAdd, Nat.reduceMul, Nat.reduceSub, Nat.reduceLeDiff, Nat.reduceBEq, Int.reduceToNat, Int.reduceLE, Int.reduceLT, Int.reduceEq, Int.reduceNe, di0, di1, di2, di3, di4, di5, di6, di7, di8, di9, postX_ret, postX_normal, ex_some]
  refine calls_of (s_corner (r := r) (load := load) hr h1' h2 h3) ?_; simp only [res98, ruI, ssI, sbI, spI, swI, scI, stI, srI, saI, snI, ↓reduceIte, reduceCtorEq, Nat.reduceEqDiff, Nat.reduceAdd, Nat.reduceMul, Nat.reduceSub, Nat.reduceLeDiff, Nat.reduceBEq, Int.reduceToNat, Int.reduceLE, Int.reduceLT, Int.reduceEq, Int.reduceNe, di0, di1, di2, di3, di4, di5, di6, di7, di8, di9, postX_ret, postX_normal, ex_some]
  refine calls_of (s_corner (r := r) (load := load) hr h1 h2' h3) ?_; simp only [res98, ruI, ssI, sbI, spI, swI, scI, stI, srI, saI, snI, ↓reduceIte, reduceCtorEq, Nat.reduceEqDiff, Nat.reduceAdd, Nat.reduceMul, Nat.reduceSub, Nat.reduceLeDiff, Nat.reduceBEq, Int.reduceToNat, Int.reduceLE, Int.reduceLT, Int.reduceEq, Int.reduceNe, di0, di1, di2, di3, di4, di5, di6, di7, di8, di9, postX_ret, postX_normal, ex_some]
  rfl

def bstdE (r : Ru) (b : Bx) (load : Int) : Int := fstE (fstE (rulesErr r) (boxErr b)) (loadErr load)
theorem s_BoxStep {r : Ru} {b : Bx} {load : Int} : Contract Try.prog 25 [ruI r, sbI b, .int .i64 load] (if bstdE r b load = 0 then .tup [sbI (bstp r b load), .int .i64 0] else .tup [sbI ⟨0, 0, 0, 0⟩, .int .i64 (bstdE r b load)]) := by
  refine contract_run Try.func25 k25 rfl ?_
  simp only [body25, b25, res25, b25k0, ruI, ssI, sbI, spI, swI, scI, stI, srI, saI, snI, ↓reduceIte, reduceCtorEq, Nat.reduceEqDiff, Nat.reduceAdd, Nat.reduceMul, Nat.reduceSub, Nat.reduceLeDiff, Nat.reduceBEq, Int.reduceToNat, Int.reduceLE, Int.reduceLT, Int.reduceEq, Int.reduceNe, di0, di1, di2, di3, di4, di5, di6, di7, di8, di9, postX_ret, postX_normal, ex_some]
  refine calls_of s_CheckBox ?_; simp only [ruI, ssI, sbI, spI, swI, scI, stI, srI, saI, snI, res25, b25k0, ↓reduceIte, reduceCtorEq, Nat.reduceEqDiff, Nat.reduceAdd, Nat.reduceMul, Nat.reduceSub, Nat.reduceLeDiff, Nat.reduceBEq, Int.reduceToNat, Int.reduceLE, Int.reduceLT, Int.reduceEq, Int.reduceNe, di0, di1, di2, di3, di4, di5, di6, di7, di8, di9, postX_ret, postX_normal, ex_some]
  refine calls_of s_loadErr ?_; simp only [ruI, ssI, sbI, spI, swI, scI, stI, srI, saI, snI, res25, b25k0, ↓reduceIte, reduceCtorEq, Nat.reduceEqDiff, Nat.reduceAdd, Nat.reduceMul, Nat.reduceSub, Nat.reduceLeDiff, Nat.reduceBEq, Int.reduceToNat, Int.reduceLE, Int.reduceLT, Int.reduceEq, Int.reduceNe, di0, di1, di2, di3, di4, di5, di6, di7, di8, di9, postX_ret, postX_normal, ex_some]
  refine calls_of (s_first (l := [fstE (rulesErr r) (boxErr b), loadErr load]) (by simp)) ?_; simp only [ruI, ssI, sbI, spI, swI, scI, stI, srI, saI, snI, res25, b25k0, ↓reduceIte, reduceCtorEq, Nat.reduceEqDiff, Nat.reduceAdd, Nat.reduceMul, Nat.reduceSub, Nat.reduceLeDiff, Nat.reduceBEq, Int.reduceToNat, Int.reduceLE, Int.reduceLT, Int.reduceEq, Int.reduceNe, di0, di1, di2, di3, di4, di5, di6, di7, di8, di9, postX_ret, postX_normal, ex_some]
  rw [firstNZ_two]
  show (if bstdE r b load = 0 then _ else _)
  split
  · rename_i h
    unfold bstdE at h
    rw [fstE_zero, fstE_zero, rules_ok, boxErr_zero, loadErr_zero] at h
    refine calls_of (s_boxStep (b := b) h.1.1 (by omega) (by omega) (by omega) (by omega) (by omega)) ?_; simp only [ruI, ssI, sbI, spI, swI, scI, stI, srI, saI, snI, res25, b25k0, ↓reduceIte, reduceCtorEq, Nat.reduceEqDiff, Nat.reduceAdd, Nat.reduceMul, Nat.reduceSub, Nat.reduceLeDiff, Nat.reduceBEq, Int.reduceToNat, Int.reduceLE, Int.reduceLT, Int.reduceEq, Int.reduceNe, di0, di1, di2, di3, di4, di5, di6, di7, di8, di9, postX_ret, postX_normal, ex_some]
  · rfl

theorem bstp_bd {r : Ru} (hr : Sg.Good r) {b : Bx} {load m : Int} (h1 : -m ≤ b.ll ∧ b.ll ≤ m) (h2 : -m ≤ b.lh ∧ b.lh ≤ m) (hl : 0 ≤ load ∧ load ≤ 1000) :
    (-(m + 2000) ≤ (bstp r b load).ll ∧ (bstp r b load).ll ≤ m + 2000) ∧ (-(m + 2000) ≤ (bstp r b load).lh ∧ (bstp r b load).lh ≤ m + 2000) ∧ (-1000 ≤ (bstp r b load).fl ∧ (bstp r b load).fl ≤ 1000) ∧ -1000 ≤ (bstp r b load).fh ∧ (bstp r b load).fh ≤ 1000 := by
  have a1 := stp_bd (k := r.lo) (s := ⟨b.ll, b.fl⟩) hr h1 hl
  have a2 := stp_bd (k := r.hi) (s := ⟨b.ll, b.fl⟩) hr h1 hl
  have a3 := stp_bd (k := r.lo) (s := ⟨b.lh, b.fh⟩) hr h2 hl
  have a4 := stp_bd (k := r.hi) (s := ⟨b.lh, b.fh⟩) hr h2 hl
  have a5 := stp_bd (k := r.lo) (s := ⟨b.lh, b.fl⟩) hr h2 hl
  have a6 := stp_bd (k := r.hi) (s := ⟨b.lh, b.fl⟩) hr h2 hl
  have a7 := stp_bd (k := r.lo) (s := ⟨b.ll, b.fh⟩) hr h1 hl
  have a8 := stp_bd (k := r.hi) (s := ⟨b.ll, b.fh⟩) hr h1 hl
  unfold bstp
  dsimp only
  omega

/-- The boxes of a run. -/
def brunL (r : Ru) : Bx → List Int → List Bx
  | _, [] => []
  | b, l :: ls => bstp r b l :: brunL r (bstp r b l) ls
theorem s_boxRun {r : Ru} {b : Bx} {ls : List Int} : Contract Try.prog 117 [ruI r, sbI b, snI ls] (.func 156 [] [.ptr (sbI b), .ptr (.agg [snI ls]), .ptr (ruI r)]) := by
  refine contract_run Try.func117 k117 rfl ?_
  simp only [body117, b117, res117, ruI, ssI, sbI, spI, swI, scI, stI, srI, saI, snI, ↓reduceIte, reduceCtorEq, Nat.reduceEqDiff, Nat.reduceAdd, Nat.reduceMul, Nat.reduceSub, Nat.reduceLeDiff, Nat.reduceBEq, Int.reduceToNat, Int.reduceLE, Int.reduceLT, Int.reduceEq, Int.reduceNe, di0, di1, di2, di3, di4, di5, di6, di7, di8, di9, postX_ret, postX_normal, ex_some]

theorem getD_drop {ls : List Int} {i : Nat} (h : i < ls.length) : ls.drop i = ls.getD i 0 :: ls.drop (i + 1) := by
  rw [List.drop_eq_getElem_cons h]
  congr 1
  rw [List.getD_eq_getElem?_getD]; simp [h]
theorem getD_mem {ls : List Int} {i : Nat} (h : i < ls.length) : ls.getD i 0 ∈ ls := by rw [List.getD_eq_getElem?_getD]; simp [h]

theorem it_boxRun {r : Ru} {b : Bx} {ls : List Int} (hr : Sg.Good r) (hs : (-1000000 ≤ b.ll ∧ b.ll ≤ 1000000) ∧ (-1000000 ≤ b.lh ∧ b.lh ≤ 1000000) ∧ (-1000 ≤ b.fl ∧ b.fl ≤ 1000) ∧ -1000 ≤ b.fh ∧ b.fh ≤ 1000) (hl : Loads ls) (l : Nat) :
    BC Try.prog 156 [.yld l, .imm (.ptr (sbI b)), .imm (.ptr (.agg [snI ls])), .imm (.ptr (ruI r))] (lookR [(0, .seq l (false, some ((brunL r b ls).map fun x => [sbI x])))]) fun _ R' => seqOver l false R' := by
  refine bc_run Try.func156 k156 rfl rfl ?_
  simp only [body156, b156, res156, b156k0, b156k1, ruI, ssI, sbI, spI, swI, scI, stI, srI, saI, snI, ↓reduceIte, reduceCtorEq, Nat.reduceEqDiff, Nat.reduceAdd, Nat.reduceMul, Nat.reduceSub, Nat.reduceLeDiff, Nat.reduceBEq, Int.reduceToNat, Int.reduceLE, Int.reduceLT, Int.reduceEq, Int.reduceNe, di0, di1, di2, di3, di4, di5, di6, di7, di8, di9, postX_ret, postX_normal, ex_some]
  refine loop_keep (α := Nat × Bx) rfl (fun q => ls.length - q.1) (fun q => q.1 ≤ ls.length ∧ (-(1000000 + 2000 * (q.1 : Int)) ≤ q.2.ll ∧ q.2.ll ≤ 1000000 + 2000 * (q.1 : Int)) ∧ (-(1000000 + 2000 * (q.1 : Int)) ≤ q.2.lh ∧ q.2.lh ≤ 1000000 + 2000 * (q.1 : Int)) ∧ (-1000 ≤ q.2.fl ∧ q.2.fl ≤ 1000) ∧ -1000 ≤ q.2.fh ∧ q.2.fh ≤ 1000)
    (fun q => [(0, .yld l), (3, .imm (.ptr (ruI r))), (5, .ref 5 0), (9, .imm (snI ls)), (10, .imm (.int .i64 ls.length)), (11, .imm (.int .i64 q.1))])
    (fun q => [(0, .seq l (false, some ((brunL r q.2 (ls.drop q.1)).map fun x => [sbI x]))), (5, .box [.imm (.int .i64 q.2.ll), .imm (.int .i64 q.2.lh), .imm (.int .i64 q.2.fl), .imm (.int .i64 q.2.fh)])]) (0, b) ⟨Nat.zero_le _, by simpa using hs.1, by simpa using hs.2.1, hs.2.2⟩ (by simp only [ruI, ssI, sbI, spI, swI, scI, stI, srI, saI, snI, ↓reduceIte, reduceCtorEq, Nat.reduceEqDiff, Nat.reduceAdd, Nat.reduceMul, Nat.reduceSub, Nat.reduceLeDiff, Nat.reduceBEq, Int.reduceToNat, Int.reduceLE, Int.reduceLT, Int.reduceEq, Int.reduceNe, di0, di1, di2, di3, di4, di5, di6, di7, di8, di9, postX_ret, postX_normal, ex_some] <;> rfl) ?_
  rintro ⟨i, b⟩ ⟨hi, hL, hH, hF, hF'⟩ ih
  dsimp only at hi hL hH hF hF' ⊢
  simp only [res156, b156k0, b156k1, ruI, ssI, sbI, spI, swI, scI, stI, srI, saI, snI, ↓reduceIte, reduceCtorEq, Nat.reduceEqDiff, Nat.reduceAdd, Nat.reduceMul, Nat.reduceSub, Nat.reduceLeDiff, Nat.reduceBEq, Int.reduceToNat, Int.reduceLE, Int.reduceLT, Int.reduceEq, Int.reduceNe, di0, di1, di2, di3, di4, di5, di6, di7, di8, di9, postX_ret, postX_normal, ex_some]
  split
  · rename_i h
    have hlt : i < ls.length := by omega
    have hld := hl.2 _ (getD_mem hlt)
    have hil : (i : Int) ≤ 1000 := by have := hl.1; omega
    have hb := bstp_bd hr hL hH hld
    rw [getD_drop hlt]
    simp only [brunL, List.map_cons]
    generalize ls.getD i 0 = x at hld hb
    refine ⟨h, ?_⟩
    refine calls_of (s_boxStep (b := b) hr (by omega) (by omega) hF hF' hld) ?_; simp only [ruI, ssI, sbI, spI, swI, scI, stI, srI, saI, snI, res156, b156k0, b156k1, ↓reduceIte, reduceCtorEq, Nat.reduceEqDiff, Nat.reduceAdd, Nat.reduceMul, Nat.reduceSub, Nat.reduceLeDiff, Nat.reduceBEq, Int.reduceToNat, Int.reduceLE, Int.reduceLT, Int.reduceEq, Int.reduceNe, di0, di1, di2, di3, di4, di5, di6, di7, di8, di9, postX_ret, postX_normal, ex_some]
    refine do_yield rfl rfl rfl ?_ ?_
    · intro _
      simp only [res156, b156k0, b156k1, ruI, ssI, sbI, spI, swI, scI, stI, srI, saI, snI, ↓reduceIte, reduceCtorEq, Nat.reduceEqDiff, Nat.reduceAdd, Nat.reduceMul, Nat.reduceSub, Nat.reduceLeDiff, Nat.reduceBEq, Int.reduceToNat, Int.reduceLE, Int.reduceLT, Int.reduceEq, Int.reduceNe, di0, di1, di2, di3, di4, di5, di6, di7, di8, di9, postX_ret, postX_normal, ex_some]
      rw [wrap64 (by omega) (by omega)]
      refine ih (i + 1, bstp r b x) _ _ (by dsimp only; omega) ⟨by dsimp only; omega, ?_, ?_, hb.2.2⟩ (by simp only [ruI, ssI, sbI, spI, swI, scI, stI, srI, saI, snI, ↓reduceIte, reduceCtorEq, Nat.reduceEqDiff, Nat.reduceAdd, Nat.reduceMul, Nat.reduceSub, Nat.reduceLeDiff, Nat.reduceBEq, Int.reduceToNat, Int.reduceLE, Int.reduceLT, Int.reduceEq, Int.reduceNe, di0, di1, di2, di3, di4, di5, di6, di7, di8, di9, postX_ret, postX_normal, ex_some] <;> rfl)
      all_goals (dsimp only; omega)
    · simp only [res156, b156k0, b156k1, ruI, ssI, sbI, spI, swI, scI, stI, srI, saI, snI, ↓reduceIte, reduceCtorEq, Nat.reduceEqDiff, Nat.reduceAdd, Nat.reduceMul, Nat.reduceSub, Nat.reduceLeDiff, Nat.reduceBEq, Int.reduceToNat, Int.reduceLE, Int.reduceLT, Int.reduceEq, Int.reduceNe, di0, di1, di2, di3, di4, di5, di6, di7, di8, di9, postX_ret, postX_normal, ex_some]
      rw [outD_nil res156]
      exact ⟨_, rfl, rfl, .inr rfl⟩
  · rename_i h
    have hie : i = ls.length := by omega
    subst hie
    rw [outD_nil res156]
    refine ⟨_, rfl, rfl, .inl ⟨rfl, ?_⟩⟩
    simp [brunL, lookR]

/-- Where a slice first has what is looked for, or -1. -/
def idxF {α : Type} (p : α → Bool) : List α → Int
  | [] => -1
  | x :: r => if p x then 0 else if idxF p r = -1 then -1 else idxF p r + 1

theorem idxF_cons {α : Type} {p : α → Bool} {x : α} {r : List α} : idxF p (x :: r) = if p x then 0 else if idxF p r = -1 then -1 else idxF p r + 1 := rfl
theorem idxF_range {α : Type} {p : α → Bool} : ∀ (l : List α), -1 ≤ idxF p l ∧ idxF p l < l.length
  | [] => by simp [idxF]
  | x :: r => by
    have := idxF_range (p := p) r
    unfold idxF
    simp only [List.length_cons]
    split
    · omega
    · split <;> omega
theorem idxF_any {α : Type} {p : α → Bool} : ∀ (l : List α), (0 ≤ idxF p l) ↔ l.any p = true
  | [] => by simp [idxF]
  | x :: r => by
    have h := idxF_any (p := p) r
    have hr := idxF_range (p := p) r
    unfold idxF
    simp only [List.any_cons, Bool.or_eq_true]
    split
    · rename_i hx; simp [hx]
    · rename_i hx
      rw [← h]
      split <;> simp [hx] <;> omega

theorem s_IndexSta {g : FuncId} {caps : List IV} {p : Sta → Bool} {l : List Sta} (hl : l.length ≤ 1000000000) (hp : ∀ x ∈ l, Contract Try.prog g (ssI x :: caps) (.bool (p x))) :
    Contract Try.prog 146 [.slc 2 (l.map ssI), .func g [] caps] (.int .i64 (idxF p l)) := by
  refine contract_run Try.func146 k146 rfl ?_
  simp only [body146, b146, res146, b146k0, b146k1, b146k2, ↓reduceIte, reduceCtorEq, Nat.reduceEqDiff, Nat.reduceAdd, Nat.reduceMul, Nat.reduceSub, Nat.reduceLeDiff, Nat.reduceBEq, Int.reduceToNat, Int.reduceLE, Int.reduceLT, Int.reduceEq, Int.reduceNe, di0, di1, di2, di3, di4, di5, di6, di7, di8, di9, postX_ret, postX_normal, ex_some]
  refine loop_keep (α := Nat) rfl (fun i => l.length - i) (fun i => i ≤ l.length ∧ idxF p l = if idxF p (l.drop i) = -1 then -1 else idxF p (l.drop i) + i)
    (fun i => [(0, .imm (.slc 2 (l.map ssI))), (1, .imm (.func g [] caps)), (7, .imm (.int .i64 l.length)), (8, .imm (.int .i64 i))]) (fun _ => []) 0 ⟨Nat.zero_le _, by simp⟩ (by simp only [↓reduceIte, reduceCtorEq, Nat.reduceEqDiff, Nat.reduceAdd, Nat.reduceMul, Nat.reduceSub, Nat.reduceLeDiff, Nat.reduceBEq, Int.reduceToNat, Int.reduceLE, Int.reduceLT, Int.reduceEq, Int.reduceNe, di0, di1, di2, di3, di4, di5, di6, di7, di8, di9, postX_ret, postX_normal, ex_some, List.length_map] <;> rfl) ?_
  intro i ⟨hi, he⟩ ih
  simp only [res146, b146k0, b146k1, b146k2, ↓reduceIte, reduceCtorEq, Nat.reduceEqDiff, Nat.reduceAdd, Nat.reduceMul, Nat.reduceSub, Nat.reduceLeDiff, Nat.reduceBEq, Int.reduceToNat, Int.reduceLE, Int.reduceLT, Int.reduceEq, Int.reduceNe, di0, di1, di2, di3, di4, di5, di6, di7, di8, di9, postX_ret, postX_normal, ex_some]
  split
  · rename_i h
    have hlt : i < l.length := by omega
    have hd : l.drop i = l.getD i default :: l.drop (i + 1) := by
      rw [List.drop_eq_getElem_cons hlt]
      congr 1
      rw [List.getD_eq_getElem?_getD]; simp [hlt]
    have hm : l.getD i default ∈ l := by rw [List.getD_eq_getElem?_getD]; simp [hlt]
    have hr := idxF_range (p := p) (l.drop (i + 1))
    rw [hd] at he
    generalize l.getD i default = x at hm he
    have hc := hp x hm
    simp only [ssI] at hc
    simp only [ssI, ↓reduceIte, reduceCtorEq, Nat.reduceEqDiff, Nat.reduceAdd, Nat.reduceMul, Nat.reduceSub, Nat.reduceLeDiff, Nat.reduceBEq, Int.reduceToNat, Int.reduceLE, Int.reduceLT, Int.reduceEq, Int.reduceNe, di0, di1, di2, di3, di4, di5, di6, di7, di8, di9, postX_ret, postX_normal, ex_some]
    repeat (refine And.intro (by omega) ?_)
    refine calls_of hc ?_; simp only [res146, b146k0, b146k1, b146k2, ↓reduceIte, reduceCtorEq, Nat.reduceEqDiff, Nat.reduceAdd, Nat.reduceMul, Nat.reduceSub, Nat.reduceLeDiff, Nat.reduceBEq, Int.reduceToNat, Int.reduceLE, Int.reduceLT, Int.reduceEq, Int.reduceNe, di0, di1, di2, di3, di4, di5, di6, di7, di8, di9, postX_ret, postX_normal, ex_some]
    rw [idxF_cons] at he
    split
    · rename_i h2
      rw [h2, if_pos rfl, if_neg (by omega)] at he
      rw [he]; simp
    · rename_i h2
      rw [if_neg h2] at he
      rw [wrap64 (by omega) (by omega)]
      refine ih (i + 1) _ _ (by omega) ⟨by omega, ?_⟩ (by simp only [↓reduceIte, reduceCtorEq, Nat.reduceEqDiff, Nat.reduceAdd, Nat.reduceMul, Nat.reduceSub, Nat.reduceLeDiff, Nat.reduceBEq, Int.reduceToNat, Int.reduceLE, Int.reduceLT, Int.reduceEq, Int.reduceNe, di0, di1, di2, di3, di4, di5, di6, di7, di8, di9, postX_ret, postX_normal, ex_some] <;> rfl)
      rw [he]
      split
      · rename_i h3; rw [if_pos rfl]
      · rename_i h3; rw [if_neg (by omega)]; omega
  · rename_i h
    have : i = l.length := by omega
    subst this
    rw [he]
    simp [idxF]

theorem s_ContainsSta {g : FuncId} {caps : List IV} {p : Sta → Bool} {l : List Sta} (hl : l.length ≤ 1000000000) (hp : ∀ x ∈ l, Contract Try.prog g (ssI x :: caps) (.bool (p x))) :
    Contract Try.prog 100 [.slc 2 (l.map ssI), .func g [] caps] (.bool (l.any p)) := by
  refine contract_run Try.func100 k100 rfl ?_
  simp only [body100, b100, res100, ↓reduceIte, reduceCtorEq, Nat.reduceEqDiff, Nat.reduceAdd, Nat.reduceMul, Nat.reduceSub, Nat.reduceLeDiff, Nat.reduceBEq, Int.reduceToNat, Int.reduceLE, Int.reduceLT, Int.reduceEq, Int.reduceNe, di0, di1, di2, di3, di4, di5, di6, di7, di8, di9, postX_ret, postX_normal, ex_some]
  refine calls_of (s_IndexSta hl hp) ?_; simp only [res100, ↓reduceIte, reduceCtorEq, Nat.reduceEqDiff, Nat.reduceAdd, Nat.reduceMul, Nat.reduceSub, Nat.reduceLeDiff, Nat.reduceBEq, Int.reduceToNat, Int.reduceLE, Int.reduceLT, Int.reduceEq, Int.reduceNe, di0, di1, di2, di3, di4, di5, di6, di7, di8, di9, postX_ret, postX_normal, ex_some]
  congr 2
  rw [Bool.eq_iff_iff, decide_eq_true_eq]
  exact idxF_any l

end Go.DI


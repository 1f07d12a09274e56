/- Contracts: wide numbers added, subtracted, compared, multiplied. No condition. -/
import Derived.Test.YtaphhpphfffnfaaGreatDoorTkf
set_option linter.unusedSimpArgs false
namespace Go.DI
open Go.Proofs Go.RowKit
def Few (z:Int):Prop:=(digs z.natAbs).length≤100000
theorem few_of {z:Int} (k:Nat) (hk:k≤100000) (h:z.natAbs<1000000000 ^ k):Few z:=Nat.le_trans (digs_length_le k _ h) hk
theorem c_WideSign {z:Int}:Contract Tryz.prog 327 [wide z] (.int .i64 z.sign):=by
  unfold wide
  refine contract_run Tryz.func327 k327 rfl ?_
  simp only [body327,b327,res327, ↓reduceIte,reduceCtorEq,Nat.reduceEqDiff,Nat.reduceAdd,Nat.reduceMul,Nat.reduceSub,Nat.reduceLeDiff,Nat.reduceBEq,Int.reduceToNat,Int.reduceLE,Int.reduceLT,Int.reduceEq,Int.reduceNe,di]
theorem sign_bd (z:Int) : -1≤z.sign∧z.sign≤1:=by
  rcases Int.lt_trichotomy z 0 with h | h | h
  · rw [Int.sign_eq_neg_one_of_neg h]; omega
  · subst h; simp
  · rw [Int.sign_eq_one_of_pos h]; omega
theorem c_WideNeg {z:Int}:Contract Tryz.prog 325 [wide z] (wide (-z)):=by
  unfold wide
  refine contract_run Tryz.func325 k325 rfl ?_
  have:=sign_bd z
  simp only [body325,b325,res325, ↓reduceIte,reduceCtorEq,Nat.reduceEqDiff,Nat.reduceAdd,Nat.reduceMul,Nat.reduceSub,Nat.reduceLeDiff,Nat.reduceBEq,Int.reduceToNat,Int.reduceLE,Int.reduceLT,Int.reduceEq,Int.reduceNe,di]
  rw [wrap64 (by omega) (by omega),Int.sign_neg,Int.natAbs_neg]
  congr 5
  omega
theorem sign_cases (z:Int):z.sign=0∧z=0∨z.sign=1∧0<z∧(z.natAbs:Int)=z∨z.sign = -1∧z<0∧(z.natAbs:Int) = -z:=by
  rcases Int.lt_trichotomy z 0 with h | h | h
  · exact .inr (.inr ⟨Int.sign_eq_neg_one_of_neg h,h,by omega⟩)
  · subst h; exact .inl ⟨rfl,rfl⟩
  · exact .inr (.inl ⟨Int.sign_eq_one_of_pos h,h,by omega⟩)
theorem c_WideAdd {x y:Int} (hx:Few x) (hy:Few y):Contract Tryz.prog 324 [wide x,wide y] (wide (x+y)):=by
  unfold Few at hx hy
  have sx:=sign_cases x
  have sy:=sign_cases y
  have vx:=val_digs x.natAbs
  have vy:=val_digs y.natAbs
  unfold wide
  refine contract_run Tryz.func324 k324 rfl ?_
  simp only [body324,b324,res324,b324k0,b324k1,b324k2,b324k3,b324k4, ↓reduceIte,reduceCtorEq,Nat.reduceEqDiff,Nat.reduceAdd,Nat.reduceMul,Nat.reduceSub,Nat.reduceLeDiff,Nat.reduceBEq,Int.reduceToNat,Int.reduceLE,Int.reduceLT,Int.reduceEq,Int.reduceNe,di]
  split
  · rename_i h
    have:x=0:=by omega
    subst this; simp
  · rename_i h
    split
    · rename_i h2
      have:y=0:=by omega
      subst this; simp
    · rename_i h2
      split
      · rename_i h3
        obtain ⟨r,⟨l,rfl,hwf,hval,hlen⟩,hc⟩:=c_addDigits (wf_digs x.natAbs) (wf_digs y.natAbs) (by omega) (by omega)
        refine calls_of hc ?_
        simp only [res324,b324k0,b324k1,b324k2,b324k3,b324k4, ↓reduceIte,reduceCtorEq,Nat.reduceEqDiff,Nat.reduceAdd,Nat.reduceMul,Nat.reduceSub,Nat.reduceLeDiff,Nat.reduceBEq,Int.reduceToNat,Int.reduceLE,Int.reduceLT,Int.reduceEq,Int.reduceNe,di]
        refine calls_of (c_wideOf (by omega) hwf (by omega) (by omega)) ?_
        have e:x.sign * val l=x+y:=by
          rw [hval,vx,vy]
          rcases sx with k | k | k
          · omega
          · rw [k.1]; omega
          · rw [k.1]; omega
        rw [e]
        simp only [res324,b324k0,b324k1,b324k2,b324k3,b324k4,wide, ↓reduceIte,reduceCtorEq,Nat.reduceEqDiff,Nat.reduceAdd,Nat.reduceMul,Nat.reduceSub,Nat.reduceLeDiff,Nat.reduceBEq,Int.reduceToNat,Int.reduceLE,Int.reduceLT,Int.reduceEq,Int.reduceNe,di]
      · rename_i h3
        refine calls_of (c_cmpDigits (by omega)) ?_
        simp only [res324,b324k0,b324k1,b324k2,b324k3,b324k4, ↓reduceIte,reduceCtorEq,Nat.reduceEqDiff,Nat.reduceAdd,Nat.reduceMul,Nat.reduceSub,Nat.reduceLeDiff,Nat.reduceBEq,Int.reduceToNat,Int.reduceLE,Int.reduceLT,Int.reduceEq,Int.reduceNe,di]
        have sd:=sign_cases ((x.natAbs:Int) - y.natAbs)
        split
        · rename_i h4
          have:x+y=0:=by omega
          rw [this]; simp [digs_zero]
        · rename_i h4
          split
          · rename_i h5
            refine calls_of (c_subDigits (wf_digs x.natAbs) (wf_digs y.natAbs) (by omega) (by omega)) ?_
            simp only [res324,b324k0,b324k1,b324k2,b324k3,b324k4, ↓reduceIte,reduceCtorEq,Nat.reduceEqDiff,Nat.reduceAdd,Nat.reduceMul,Nat.reduceSub,Nat.reduceLeDiff,Nat.reduceBEq,Int.reduceToNat,Int.reduceLE,Int.reduceLT,Int.reduceEq,Int.reduceNe,di]
            refine calls_of (c_wideOf (l:=digs (val (digs x.natAbs) - val (digs y.natAbs)).toNat) (Nat.le_trans (digs_mono (m:=x.natAbs) (by omega)) (by omega)) (wf_digs _) (by omega) (by omega)) ?_
            have e:x.sign * val (digs (val (digs x.natAbs) - val (digs y.natAbs)).toNat)=x+y:=by
              rw [val_digs,vx,vy]
              rcases sx with k | k | k
              · omega
              · rw [k.1]; omega
              · rw [k.1]; omega
            rw [e]
            simp only [res324,b324k0,b324k1,b324k2,b324k3,b324k4,wide, ↓reduceIte,reduceCtorEq,Nat.reduceEqDiff,Nat.reduceAdd,Nat.reduceMul,Nat.reduceSub,Nat.reduceLeDiff,Nat.reduceBEq,Int.reduceToNat,Int.reduceLE,Int.reduceLT,Int.reduceEq,Int.reduceNe,di]
          · rename_i h5
            refine calls_of (c_subDigits (wf_digs y.natAbs) (wf_digs x.natAbs) (by omega) (by omega)) ?_
            simp only [res324,b324k0,b324k1,b324k2,b324k3,b324k4, ↓reduceIte,reduceCtorEq,Nat.reduceEqDiff,Nat.reduceAdd,Nat.reduceMul,Nat.reduceSub,Nat.reduceLeDiff,Nat.reduceBEq,Int.reduceToNat,Int.reduceLE,Int.reduceLT,Int.reduceEq,Int.reduceNe,di]
            refine calls_of (c_wideOf (l:=digs (val (digs y.natAbs) - val (digs x.natAbs)).toNat) (Nat.le_trans (digs_mono (m:=y.natAbs) (by omega)) (by omega)) (wf_digs _) (by omega) (by omega)) ?_
            have e:y.sign * val (digs (val (digs y.natAbs) - val (digs x.natAbs)).toNat)=x+y:=by
              rw [val_digs,vx,vy]
              rcases sy with k | k | k
              · omega
              · rw [k.1]; omega
              · rw [k.1]; omega
            rw [e]
            simp only [res324,b324k0,b324k1,b324k2,b324k3,b324k4,wide, ↓reduceIte,reduceCtorEq,Nat.reduceEqDiff,Nat.reduceAdd,Nat.reduceMul,Nat.reduceSub,Nat.reduceLeDiff,Nat.reduceBEq,Int.reduceToNat,Int.reduceLE,Int.reduceLT,Int.reduceEq,Int.reduceNe,di]
theorem few_neg {z:Int} (h:Few z):Few (-z):=by unfold Few at *; rwa [Int.natAbs_neg]
theorem c_WideSub {x y:Int} (hx:Few x) (hy:Few y):Contract Tryz.prog 309 [wide x,wide y] (wide (x - y)):=by
  refine contract_run Tryz.func309 k309 rfl ?_
  simp only [wide,body309,b309,res309, ↓reduceIte,reduceCtorEq,Nat.reduceEqDiff,Nat.reduceAdd,Nat.reduceMul,Nat.reduceSub,Nat.reduceLeDiff,Nat.reduceBEq,Int.reduceToNat,Int.reduceLE,Int.reduceLT,Int.reduceEq,Int.reduceNe,di]
  refine calls_of c_WideNeg ?_
  simp only [wide,res309, ↓reduceIte,reduceCtorEq,Nat.reduceEqDiff,Nat.reduceAdd,Nat.reduceMul,Nat.reduceSub,Nat.reduceLeDiff,Nat.reduceBEq,Int.reduceToNat,Int.reduceLE,Int.reduceLT,Int.reduceEq,Int.reduceNe,di]
  refine calls_of (c_WideAdd hx (few_neg hy)) ?_
  simp only [wide,res309, ↓reduceIte,reduceCtorEq,Nat.reduceEqDiff,Nat.reduceAdd,Nat.reduceMul,Nat.reduceSub,Nat.reduceLeDiff,Nat.reduceBEq,Int.reduceToNat,Int.reduceLE,Int.reduceLT,Int.reduceEq,Int.reduceNe,di]
  rfl
theorem c_WideCmp {x y:Int} (hx:Few x) (hy:Few y):Contract Tryz.prog 273 [wide x,wide y] (.int .i64 (x - y).sign):=by
  refine contract_run Tryz.func273 k273 rfl ?_
  simp only [wide,body273,b273,res273, ↓reduceIte,reduceCtorEq,Nat.reduceEqDiff,Nat.reduceAdd,Nat.reduceMul,Nat.reduceSub,Nat.reduceLeDiff,Nat.reduceBEq,Int.reduceToNat,Int.reduceLE,Int.reduceLT,Int.reduceEq,Int.reduceNe,di]
  refine calls_of (c_WideSub hx hy) ?_
  simp only [wide,res273, ↓reduceIte,reduceCtorEq,Nat.reduceEqDiff,Nat.reduceAdd,Nat.reduceMul,Nat.reduceSub,Nat.reduceLeDiff,Nat.reduceBEq,Int.reduceToNat,Int.reduceLE,Int.reduceLT,Int.reduceEq,Int.reduceNe,di]
end Go.DI


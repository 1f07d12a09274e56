/- Contracts: making wide numbers. No condition. -/
import Derived.Test.YtaphhpphfffnfaaGreatDoorTkd
set_option linter.unusedSimpArgs false
namespace Go.DI
open Go.Proofs Go.RowKit
theorem c_wideOf {s:Int} {l:List Int} (hl:l.length≤9223372036854775807) (hw:WF l) (h0:s.natAbs≤1) (hs:s=0→val l=0) :
    Contract Tryz.prog 310 [.int .i64 s,.slc 1 (l.map (.int .i64))] (wide (s * val l)):=by
  refine contract_run Tryz.func310 k310 rfl ?_
  simp only [body310,b310,res310,b310k0, ↓reduceIte,reduceCtorEq,Nat.reduceEqDiff,Nat.reduceAdd,Nat.reduceMul,Nat.reduceSub,Nat.reduceLeDiff,Nat.reduceBEq,Int.reduceToNat,Int.reduceLE,Int.reduceLT,Int.reduceEq,Int.reduceNe,di]
  refine calls_of (c_trimmed hl) ?_
  simp only [res310, ↓reduceIte,reduceCtorEq,Nat.reduceEqDiff,Nat.reduceAdd,Nat.reduceMul,Nat.reduceSub,Nat.reduceLeDiff,Nat.reduceBEq,Int.reduceToNat,Int.reduceLE,Int.reduceLT,Int.reduceEq,Int.reduceNe,di]
  have hv:=val_nonneg hw
  have e:digs (s * val l).natAbs=trim l:=by
    rw [trim_digs hw]
    congr 1
    rcases (by omega:s=0∨s=1∨s = -1) with rfl | rfl | rfl
    · rw [hs rfl]; rfl
    · omega
    · omega
  unfold wide
  rw [e]
  split
  · rename_i h
    have h1:trim l=[]:=List.eq_nil_of_length_eq_zero (by omega)
    have h2:(val l).toNat=0:=digs_nil.1 ((trim_digs hw).symm.trans h1)
    have h3:val l=0:=by omega
    rw [h3]; simp
  · rename_i h
    have h1:trim l ≠ []:=fun k=>h (by rw [k]; rfl)
    have h2:(val l).toNat ≠ 0:=fun k=>h1 ((trim_digs hw).trans (digs_nil.2 k))
    have h4:s ≠ 0:=fun k=>by have:=hs k; omega
    have:(s * val l).sign=s:=by
      rw [Int.sign_mul,Int.sign_eq_one_of_pos (a:=val l) (by omega),Int.mul_one]
      rcases (by omega:s=1∨s = -1) with rfl | rfl <;> rfl
    rw [this]
theorem pow_bound {k:Nat} (h:(1000000000:Int) ^ k≤9223372036854775807):k≤2:=by
  by_cases hk:k≤2
  · exact hk
  · exfalso
    have e:k=3+(k - 3):=by omega
    rw [e,Int.pow_add] at h
    have h1:(1:Int)≤1000000000 ^ (k - 3):=Int.pow_pos (by omega)
    have h2:(1000000000:Int) ^ 3 * 1≤1000000000 ^ 3 * 1000000000 ^ (k - 3):=Int.mul_le_mul_of_nonneg_left h1 (by decide)
    have h3:(1000000000:Int) ^ 3 * 1=1000000000000000000000000000:=by decide
    omega
theorem c_WideOf {n:Int} (h1 : -9223372036854775807≤n) (h2:n≤9223372036854775807):Contract Tryz.prog 312 [.int .i64 n] (wide n):=by
  refine contract_run Tryz.func312 k312 rfl ?_
  simp only [body312,b312,res312,b312k0,b312k1,b312k2, ↓reduceIte,reduceCtorEq,Nat.reduceEqDiff,Nat.reduceAdd,Nat.reduceMul,Nat.reduceSub,Nat.reduceLeDiff,Nat.reduceBEq,Int.reduceToNat,Int.reduceLE,Int.reduceLT,Int.reduceEq,Int.reduceNe,di]
  have key:∀ E R,(mkS E R).keep [0,2,3,4] [2,4,14]=mkS [(0,.imm (.int .i64 n)),(2,.ref 2 0),(3,.imm (.int .i64 (if n<0 then -1 else 1))),(4,.own 4)] [(2,.box [.imm (.int .i64 0),.imm (.slc 1 [])]),(4,.tok 1 [])] →
      run Tryz.prog (.loop b312l0) [.block 0,.seq (.keep [2,3,4] [2,4,14] b312k1)] (d312.post (wide n)) (mkS E R):=by
    intro E R hk
    refine loop_keep (α:=Int × List Int) rfl (fun x=>x.1.natAbs)
      (fun x=>WF x.2∧val x.2+1000000000 ^ x.2.length * x.1.natAbs=n.natAbs∧x.1.natAbs≤n.natAbs∧(x.1.natAbs:Int) * 1000000000 ^ x.2.length≤n.natAbs∧x.2.length≤3)
      (fun x=>[(0,.imm (.int .i64 x.1)),(2,.ref 2 0),(3,.imm (.int .i64 (if n<0 then -1 else 1))),(4,.own 4)])
      (fun x=>[(2,.box [.imm (.int .i64 0),.imm (.slc 1 [])]),(4,.tok 1 (x.2.map (.int .i64)))]) (n,[]) ⟨WF.nil,by simp [val],Nat.le_refl _,by simp,by simp⟩ hk ?_
    rintro ⟨m,l⟩ ⟨hw,hv,hle,hlen,h3⟩ ih
    dsimp only at hw hv hle hlen h3
    simp only [res312,b312k0,b312k1,b312k2, ↓reduceIte,reduceCtorEq,Nat.reduceEqDiff,Nat.reduceAdd,Nat.reduceMul,Nat.reduceSub,Nat.reduceLeDiff,Nat.reduceBEq,Int.reduceToNat,Int.reduceLE,Int.reduceLT,Int.reduceEq,Int.reduceNe,di]
    split
    · rename_i h0
      subst h0
      have hv':val l=n.natAbs:=by simpa using hv
      have hb:l.length≤9223372036854775807:=by omega
      refine calls_of (c_wideOf hb hw (by split <;> decide) (by intro h; split at h <;> omega)) ?_
      have e:(if n<0 then (-1:Int) else 1) * val l=n:=by rw [hv']; split <;> omega
      rw [e]
      simp only [res312,b312k0,b312k1,b312k2,wide, ↓reduceIte,reduceCtorEq,Nat.reduceEqDiff,Nat.reduceAdd,Nat.reduceMul,Nat.reduceSub,Nat.reduceLeDiff,Nat.reduceBEq,Int.reduceToNat,Int.reduceLE,Int.reduceLT,Int.reduceEq,Int.reduceNe,di]
    · rename_i h0
      have h1:(m.tmod 1000000000).natAbs=m.natAbs % 1000000000:=by rw [Int.natAbs_tmod]; rfl
      have h2:(m.tdiv 1000000000).natAbs=m.natAbs / 1000000000:=by rw [Int.natAbs_tdiv]; rfl
      refine calls_of (c_Size (by omega) (by omega)) ?_
      simp only [res312,b312k0,b312k1,b312k2, ↓reduceIte,reduceCtorEq,Nat.reduceEqDiff,Nat.reduceAdd,Nat.reduceMul,Nat.reduceSub,Nat.reduceLeDiff,Nat.reduceBEq,Int.reduceToNat,Int.reduceLE,Int.reduceLT,Int.reduceEq,Int.reduceNe,di]
      have hb:l.length≤2:=pow_bound (by
        have:(1:Int) * 1000000000 ^ l.length≤m.natAbs * 1000000000 ^ l.length:=Int.mul_le_mul_of_nonneg_right (by omega) (Int.le_of_lt (Int.pow_pos (by omega)))
        omega)
      have hdm:=Nat.div_add_mod m.natAbs 1000000000
      refine ⟨by omega,by omega,?_⟩
      rw [wrap64 (by omega) (by omega)]
      refine ih (m.tdiv 1000000000,l ++ [((m.tmod 1000000000).natAbs:Int)]) _ _ (by dsimp only; omega) ⟨?_,?_,?_,?_,by simp; omega⟩ (by simp only [↓reduceIte,reduceCtorEq,Nat.reduceEqDiff,Nat.reduceAdd,Nat.reduceMul,Nat.reduceSub,Nat.reduceLeDiff,Nat.reduceBEq,Int.reduceToNat,Int.reduceLE,Int.reduceLT,Int.reduceEq,Int.reduceNe,di])
      · exact hw.append (WF.cons (by omega) (by omega) WF.nil)
      · simp only [val_append,val,List.length_append,List.length_cons,List.length_nil,Int.pow_succ,Nat.zero_add,Int.mul_zero,Int.add_zero,h1,h2,Int.pow_zero]
        rw [← hv,Int.add_assoc]
        congr 1
        rw [Int.mul_assoc,← Int.mul_add]
        congr 1
        omega
      · dsimp only; omega
      · dsimp only
        rw [List.length_append,List.length_cons,List.length_nil,Int.pow_succ,h2]
        have e:((m.natAbs / 1000000000:Nat):Int) * (1000000000 ^ l.length * 1000000000)=(((m.natAbs / 1000000000:Nat):Int) * 1000000000) * 1000000000 ^ l.length:=by
          rw [Int.mul_comm (1000000000 ^ l.length) 1000000000,Int.mul_assoc]
        rw [e]
        refine Int.le_trans (Int.mul_le_mul_of_nonneg_right ?_ (Int.le_of_lt (Int.pow_pos (by omega)))) hlen
        omega
  split
  · rename_i h
    exact key _ _ (by simp only [h, ↓reduceIte,reduceCtorEq,Nat.reduceEqDiff,Nat.reduceAdd,Nat.reduceMul,Nat.reduceSub,Nat.reduceLeDiff,Nat.reduceBEq,Int.reduceToNat,Int.reduceLE,Int.reduceLT,Int.reduceEq,Int.reduceNe,di])
  · rename_i h
    exact key _ _ (by simp only [h, ↓reduceIte,reduceCtorEq,Nat.reduceEqDiff,Nat.reduceAdd,Nat.reduceMul,Nat.reduceSub,Nat.reduceLeDiff,Nat.reduceBEq,Int.reduceToNat,Int.reduceLE,Int.reduceLT,Int.reduceEq,Int.reduceNe,di])
end Go.DI


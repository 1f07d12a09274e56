/- Contracts: digits compared, added, subtracted. No condition. -/
import Derived.Test.YtaphhpphfffnfaaGreatDoorTke
set_option linter.unusedSimpArgs false
namespace Go.DI
open Go.Proofs Go.RowKit
theorem val_drop (l:List Int) (i:Nat):val (l.drop i)=l.getD i 0+1000000000 * val (l.drop (i+1)):=by
  by_cases h:i<l.length
  · rw [List.drop_eq_getElem_cons h]
    simp only [val]
    congr 1
    rw [List.getD_eq_getElem?_getD]
    simp [h]
  · rw [List.drop_eq_nil_of_le (by omega),List.drop_eq_nil_of_le (by omega),List.getD_eq_getElem?_getD,List.getElem?_eq_none (by omega)]
    rfl
theorem getD_end {l:List Int} {i:Nat} (h:l.length≤i):l.getD i 0=0:=by
  rw [List.getD_eq_getElem?_getD,List.getElem?_eq_none h]; rfl
theorem digs_mono:∀ {n m:Nat},n≤m→(digs n).length≤(digs m).length:=by
  intro n
  induction n using Nat.strongRecOn with
  | _ n ih =>
    intro m h
    by_cases h0:n=0
    · subst h0; simp [digs_zero]
    · rw [digs_pos (n:=n) h0,digs_pos (n:=m) (by omega),List.length_cons,List.length_cons]
      have := @ih (n / 1000000000) (by omega) (m / 1000000000) (by omega)
      omega
theorem val_lt_at {a b:List Int} (ha:WF a) (hb:WF b) {n:Nat} (h1:n<a.length) (h2:n<b.length) (hd:a.drop (n+1)=b.drop (n+1)) (hlt:a.getD n 0<b.getD n 0):val a<val b:=by
  have e:∀ l:List Int,n<l.length→val l=val (l.take n)+1000000000 ^ n * (l.getD n 0+1000000000 * val (l.drop (n+1))):=by
    intro l hl
    rw [← val_drop]
    have:=val_append (l.take n) (l.drop n)
    rw [List.take_append_drop,List.length_take,Nat.min_eq_left (by omega)] at this
    exact this
  rw [e a h1,e b h2,hd]
  have hp:(0:Int)<1000000000 ^ n:=Int.pow_pos (by omega)
  have hva:=val_lt (ha.take n)
  rw [List.length_take,Nat.min_eq_left (by omega)] at hva
  have hvb:=val_nonneg (hb.take n)
  have : 1000000000 ^ n * (a.getD n 0+1000000000 * val (b.drop (n+1))+1)≤(1000000000:Int) ^ n * (b.getD n 0+1000000000 * val (b.drop (n+1))):=Int.mul_le_mul_of_nonneg_left (by omega) (by omega)
  rw [Int.mul_add,Int.mul_one] at this
  omega
theorem c_cmpDigits {m n:Nat} (hm:(digs m).length≤9223372036854775807):Contract Tryz.prog 333 [.slc 1 ((digs m).map (.int .i64)),.slc 1 ((digs n).map (.int .i64))] (.int .i64 ((m:Int) - n).sign):=by
  have lt1:m<n→((m:Int) - n).sign = -1:=fun h=>Int.sign_eq_neg_one_of_neg (by omega)
  have gt1:n<m→((m:Int) - n).sign=1:=fun h=>Int.sign_eq_one_of_pos (by omega)
  have ln:(digs m).length<(digs n).length→m<n:=fun h=>by
    rcases Nat.lt_or_ge m n with k | k
    · exact k
    · have:=digs_mono k; omega
  have ln':(digs n).length<(digs m).length→n<m:=fun h=>by
    rcases Nat.lt_or_ge n m with k | k
    · exact k
    · have:=digs_mono k; omega
  have hv1:=val_digs m
  have hv2:=val_digs n
  have hw1:=wf_digs m
  have hw2:=wf_digs n
  refine contract_run Tryz.func333 k333 rfl ?_
  simp only [body333,b333,res333,b333k0,b333k1,b333k2,b333k3,b333k4,b333k5, ↓reduceIte,reduceCtorEq,Nat.reduceEqDiff,Nat.reduceAdd,Nat.reduceMul,Nat.reduceSub,Nat.reduceLeDiff,Nat.reduceBEq,Int.reduceToNat,Int.reduceLE,Int.reduceLT,Int.reduceEq,Int.reduceNe,di]
  generalize digs m=a at *
  generalize digs n=b at *
  split
  · rename_i h
    have h:a.length=b.length:=by omega
    rw [wrap64 (by omega) (by omega)]
    refine loop_keep (α:=Nat) rfl (fun i=>i) (fun i=>i≤a.length∧a.drop i=b.drop i)
      (fun i=>[(0,.imm (.slc 1 (a.map (.int .i64)))),(1,.imm (.slc 1 (b.map (.int .i64)))),(5,.imm (.int .i64 ((i:Int) - 1)))]) (fun _=>[]) a.length
      ⟨Nat.le_refl _,by rw [List.drop_eq_nil_of_le (by omega),List.drop_eq_nil_of_le (by omega)]⟩ (by simp only [↓reduceIte,reduceCtorEq,Nat.reduceEqDiff,Nat.reduceAdd,Nat.reduceMul,Nat.reduceSub,Nat.reduceLeDiff,Nat.reduceBEq,Int.reduceToNat,Int.reduceLE,Int.reduceLT,Int.reduceEq,Int.reduceNe,di]) ?_
    intro i ⟨hi,hd⟩ ih
    cases i with
    | zero =>
      simp only [res333,b333k0,b333k1,b333k2,b333k3,b333k4,b333k5, ↓reduceIte,reduceCtorEq,Nat.reduceEqDiff,Nat.reduceAdd,Nat.reduceMul,Nat.reduceSub,Nat.reduceLeDiff,Nat.reduceBEq,Int.reduceToNat,Int.reduceLE,Int.reduceLT,Int.reduceEq,Int.reduceNe,di]
      have e:m=n:=by
        have:a=b:=by simpa using hd
        rw [this] at hv1; omega
      rw [if_neg (by omega)]
      subst e; simp
    | succ i =>
      have e1:((i+1:Nat):Int) - 1=i:=by omega
      have e2:IntKind.wrap .i64 ((i:Int) - 1)=(i:Int) - 1:=wrap64 (by omega) (by omega)
      simp only [res333,b333k0,b333k1,b333k2,b333k3,b333k4,b333k5, ↓reduceIte,reduceCtorEq,Nat.reduceEqDiff,Nat.reduceAdd,Nat.reduceMul,Nat.reduceSub,Nat.reduceLeDiff,Nat.reduceBEq,Int.reduceToNat,Int.reduceLE,Int.reduceLT,Int.reduceEq,Int.reduceNe,di,e1]
      refine ⟨by omega,by omega,?_⟩
      split
      · rename_i hlt
        have:=val_lt_at hw1 hw2 (by omega) (by omega) hd hlt
        rw [lt1 (by omega)]
      · rename_i hge
        refine ⟨by omega,by omega,?_⟩
        split
        · rename_i hgt
          have:=val_lt_at hw2 hw1 (by omega) (by omega) hd.symm hgt
          rw [gt1 (by omega)]
        · rename_i hle
          rw [e2]
          refine ih i _ _ (by omega) ⟨by omega,?_⟩ (by simp only [↓reduceIte,reduceCtorEq,Nat.reduceEqDiff,Nat.reduceAdd,Nat.reduceMul,Nat.reduceSub,Nat.reduceLeDiff,Nat.reduceBEq,Int.reduceToNat,Int.reduceLE,Int.reduceLT,Int.reduceEq,Int.reduceNe,di])
          rw [List.drop_eq_getElem_cons (show i<a.length by omega),List.drop_eq_getElem_cons (show i<b.length by omega),hd]
          congr 1
          have k1:a.getD i 0=a[i]'(by omega):=by rw [List.getD_eq_getElem?_getD]; simp [show i<a.length by omega]
          have k2:b.getD i 0=b[i]'(by omega):=by rw [List.getD_eq_getElem?_getD]; simp [show i<b.length by omega]
          omega
  · rename_i h
    split
    · rename_i h2; rw [lt1 (ln (by omega))]
    · rename_i h2; rw [gt1 (ln' (by omega))]
theorem tdm {s:Int} (h : 0≤s):s.tmod 1000000000=s % 1000000000∧s.tdiv 1000000000=s / 1000000000:=⟨Int.tmod_eq_emod_of_nonneg h,Int.tdiv_eq_ediv_of_nonneg h⟩
theorem c_addDigits {a b:List Int} (ha:WF a) (hb:WF b) (hm:a.length≤1000000) (hn:b.length≤1000000) :
    ∃ r,(∃ l,r = .slc 1 (l.map (.int .i64))∧WF l∧val l=val a+val b∧l.length≤max a.length b.length+1)∧Contract Tryz.prog 332 [.slc 1 (a.map (.int .i64)),.slc 1 (b.map (.int .i64))] r:=by
  refine contract_ex Tryz.func332 k332 rfl ?_
  simp only [body332,b332,res332,b332k0,b332k1, ↓reduceIte,reduceCtorEq,Nat.reduceEqDiff,Nat.reduceAdd,Nat.reduceMul,Nat.reduceSub,Nat.reduceLeDiff,Nat.reduceBEq,Int.reduceToNat,Int.reduceLE,Int.reduceLT,Int.reduceEq,Int.reduceNe,di]
  refine loop_keep (α:=List Int × Int) rfl (fun x=>2 * (max a.length b.length - x.1.length)+x.2.toNat)
    (fun x=>WF x.1∧0≤x.2∧x.2≤1∧val x.1+1000000000 ^ x.1.length * (x.2+val (a.drop x.1.length)+val (b.drop x.1.length))=val a+val b∧(x.1.length≤max a.length b.length∨x.1.length=max a.length b.length+1∧x.2=0))
    (fun x=>[(0,.imm (.slc 1 (a.map (.int .i64)))),(1,.imm (.slc 1 (b.map (.int .i64)))),(5,.own 5),(6,.imm (.int .i64 x.2)),(7,.imm (.int .i64 x.1.length))])
    (fun x=>[(5,.tok 1 (x.1.map (.int .i64)))]) ([],0) ⟨WF.nil,by omega,by omega,by simp [val],.inl (by simp)⟩ (by simp only [↓reduceIte,reduceCtorEq,Nat.reduceEqDiff,Nat.reduceAdd,Nat.reduceMul,Nat.reduceSub,Nat.reduceLeDiff,Nat.reduceBEq,Int.reduceToNat,Int.reduceLE,Int.reduceLT,Int.reduceEq,Int.reduceNe,di]) ?_
  rintro ⟨l,c⟩ ⟨hw,hc0,hc1,hv,hl⟩ ih
  dsimp only at hw hc0 hc1 hv hl
  have hA:=ha.getD l.length
  have hB:=hb.getD l.length
  have hb1:l.length≤1000001:=by omega
  have hdA:=val_drop a l.length
  have hdB:=val_drop b l.length
  simp only [res332,b332k0,b332k1, ↓reduceIte,reduceCtorEq,Nat.reduceEqDiff,Nat.reduceAdd,Nat.reduceMul,Nat.reduceSub,Nat.reduceLeDiff,Nat.reduceBEq,Int.reduceToNat,Int.reduceLE,Int.reduceLT,Int.reduceEq,Int.reduceNe,di]
  split
  · rename_i h
    have e1:a.drop l.length=[]:=List.drop_eq_nil_of_le (by omega)
    have e2:b.drop l.length=[]:=List.drop_eq_nil_of_le (by omega)
    refine ⟨l,rfl,hw,?_,by omega⟩
    rw [e1,e2,show c=0 by omega] at hv
    simpa [val] using hv
  · rename_i h
    have hlen:l.length≤max a.length b.length:=by omega
    refine calls_of (c_digit (by omega)) ?_
    simp only [res332,b332k0,b332k1, ↓reduceIte,reduceCtorEq,Nat.reduceEqDiff,Nat.reduceAdd,Nat.reduceMul,Nat.reduceSub,Nat.reduceLeDiff,Nat.reduceBEq,Int.reduceToNat,Int.reduceLE,Int.reduceLT,Int.reduceEq,Int.reduceNe,di]
    refine calls_of (c_digit (by omega)) ?_
    simp only [res332,b332k0,b332k1, ↓reduceIte,reduceCtorEq,Nat.reduceEqDiff,Nat.reduceAdd,Nat.reduceMul,Nat.reduceSub,Nat.reduceLeDiff,Nat.reduceBEq,Int.reduceToNat,Int.reduceLE,Int.reduceLT,Int.reduceEq,Int.reduceNe,di]
    have hpA:a.length≤l.length→a.getD l.length 0=0:=getD_end
    have hpB:b.length≤l.length→b.getD l.length 0=0:=getD_end
    generalize a.getD l.length 0=p at *
    generalize b.getD l.length 0=q at *
    rw [wrap64 (n:=p+q) (by omega) (by omega),wrap64 (n:=p+q+c) (by omega) (by omega),(tdm (s:=p+q+c) (by omega)).1,(tdm (s:=p+q+c) (by omega)).2,wrap64 (n:=(p+q+c) / 1000000000) (by omega) (by omega),wrap64 (n:=(l.length:Int)+1) (by omega) (by omega)]
    refine ⟨by omega,by omega,?_⟩
    refine ih (l ++ [(p+q+c) % 1000000000],(p+q+c) / 1000000000) _ _ ?_ ⟨?_,?_,?_,?_,?_⟩ ?_
    · simp only [List.length_append,List.length_cons,List.length_nil]
      omega
    · exact hw.append (WF.cons (by omega) (by omega) WF.nil)
    · dsimp only; omega
    · dsimp only; omega
    · simp only [List.length_append,List.length_cons,List.length_nil,Nat.zero_add,val_append,val,Int.pow_succ,Int.mul_zero,Int.add_zero]
      rw [← hv,hdA,hdB,Int.mul_assoc,Int.add_assoc,← Int.mul_add]
      congr 2
      omega
    · simp only [List.length_append,List.length_cons,List.length_nil]
      omega
    · simp only [↓reduceIte,reduceCtorEq,Nat.reduceEqDiff,Nat.reduceAdd,Nat.reduceMul,Nat.reduceSub,Nat.reduceLeDiff,Nat.reduceBEq,Int.reduceToNat,Int.reduceLE,Int.reduceLT,Int.reduceEq,Int.reduceNe,di,List.length_append,List.length_cons,List.length_nil]
      rfl
theorem c_subDigits {a b:List Int} (ha:WF a) (hb:WF b) (hm:a.length≤1000000) (hle:val b≤val a) :
    Contract Tryz.prog 334 [.slc 1 (a.map (.int .i64)),.slc 1 (b.map (.int .i64))] (.slc 1 ((digs (val a - val b).toNat).map (.int .i64))):=by
  refine contract_run Tryz.func334 k334 rfl ?_
  simp only [body334,b334,res334,b334k0,b334k1,b334k2,b334k3, ↓reduceIte,reduceCtorEq,Nat.reduceEqDiff,Nat.reduceAdd,Nat.reduceMul,Nat.reduceSub,Nat.reduceLeDiff,Nat.reduceBEq,Int.reduceToNat,Int.reduceLE,Int.reduceLT,Int.reduceEq,Int.reduceNe,di]
  refine loop_keep (α:=List Int × Int) rfl (fun x=>a.length - x.1.length)
    (fun x=>WF x.1∧0≤x.2∧x.2≤1∧val x.1+1000000000 ^ x.1.length * (val (a.drop x.1.length) - val (b.drop x.1.length) - x.2)=val a - val b∧x.1.length≤a.length)
    (fun x=>[(0,.imm (.slc 1 (a.map (.int .i64)))),(1,.imm (.slc 1 (b.map (.int .i64)))),(5,.own 5),(6,.imm (.int .i64 x.2)),(7,.imm (.int .i64 x.1.length))])
    (fun x=>[(5,.tok 1 (x.1.map (.int .i64)))]) ([],0) ⟨WF.nil,by omega,by omega,by simp [val],by simp⟩ (by simp only [↓reduceIte,reduceCtorEq,Nat.reduceEqDiff,Nat.reduceAdd,Nat.reduceMul,Nat.reduceSub,Nat.reduceLeDiff,Nat.reduceBEq,Int.reduceToNat,Int.reduceLE,Int.reduceLT,Int.reduceEq,Int.reduceNe,di]) ?_
  rintro ⟨l,c⟩ ⟨hw,hc0,hc1,hv,hl⟩ ih
  dsimp only at hw hc0 hc1 hv hl
  have hA:=ha.getD l.length
  have hB:=hb.getD l.length
  have hdA:=val_drop a l.length
  have hdB:=val_drop b l.length
  simp only [res334,b334k0,b334k1,b334k2,b334k3, ↓reduceIte,reduceCtorEq,Nat.reduceEqDiff,Nat.reduceAdd,Nat.reduceMul,Nat.reduceSub,Nat.reduceLeDiff,Nat.reduceBEq,Int.reduceToNat,Int.reduceLE,Int.reduceLT,Int.reduceEq,Int.reduceNe,di]
  split
  · rename_i h
    refine ⟨h,calls_of (c_digit (by omega)) ?_⟩
    simp only [res334,b334k0,b334k1,b334k2,b334k3, ↓reduceIte,reduceCtorEq,Nat.reduceEqDiff,Nat.reduceAdd,Nat.reduceMul,Nat.reduceSub,Nat.reduceLeDiff,Nat.reduceBEq,Int.reduceToNat,Int.reduceLE,Int.reduceLT,Int.reduceEq,Int.reduceNe,di]
    generalize a.getD l.length 0=p at *
    generalize b.getD l.length 0=q at *
    rw [wrap64 (n:=p - q) (by omega) (by omega),wrap64 (n:=p - q - c) (by omega) (by omega),wrap64 (n:=(l.length:Int)+1) (by omega) (by omega)]
    have inv:∀ (s cc:Int),0≤s→s<1000000000→0≤cc→cc≤1→s - 1000000000 * cc=p - q - c→a.length - (l ++ [s]).length<a.length - l.length∧(WF (l ++ [s])∧0≤cc∧cc≤1 ∧
        val (l ++ [s])+1000000000 ^ (l ++ [s]).length * (val (a.drop (l ++ [s]).length) - val (b.drop (l ++ [s]).length) - cc)=val a - val b∧(l ++ [s]).length≤a.length):=by
      intro s cc h1 h2 h3 h4 h5
      simp only [List.length_append,List.length_cons,List.length_nil]
      refine ⟨by omega,hw.append (WF.cons h1 h2 WF.nil),h3,h4,?_,by omega⟩
      simp only [Nat.zero_add,val_append,val,Int.pow_succ,Int.mul_zero,Int.add_zero]
      rw [← hv,hdA,hdB,Int.mul_assoc,Int.add_assoc,← Int.mul_add]
      congr 2
      omega
    split
    · rename_i h0
      rw [wrap64 (n:=p - q - c+1000000000) (by omega) (by omega)]
      refine ⟨by omega,by omega,?_⟩
      have iv:=inv (p - q - c+1000000000) 1 (by omega) (by omega) (by omega) (by omega) (by omega)
      refine ih (l ++ [p - q - c+1000000000],1) _ _ iv.1 iv.2 ?_
      simp only [↓reduceIte,reduceCtorEq,Nat.reduceEqDiff,Nat.reduceAdd,Nat.reduceMul,Nat.reduceSub,Nat.reduceLeDiff,Nat.reduceBEq,Int.reduceToNat,Int.reduceLE,Int.reduceLT,Int.reduceEq,Int.reduceNe,di,List.length_append,List.length_cons,List.length_nil]
      rfl
    · rename_i h0
      refine ⟨by omega,by omega,?_⟩
      have iv:=inv (p - q - c) 0 (by omega) (by omega) (by omega) (by omega) (by omega)
      refine ih (l ++ [p - q - c],0) _ _ iv.1 iv.2 ?_
      simp only [↓reduceIte,reduceCtorEq,Nat.reduceEqDiff,Nat.reduceAdd,Nat.reduceMul,Nat.reduceSub,Nat.reduceLeDiff,Nat.reduceBEq,Int.reduceToNat,Int.reduceLE,Int.reduceLT,Int.reduceEq,Int.reduceNe,di,List.length_append,List.length_cons,List.length_nil]
      rfl
  · rename_i h
    have e:l.length=a.length:=by omega
    have e1:a.drop l.length=[]:=List.drop_eq_nil_of_le (by omega)
    have hlt:=val_lt hw
    have h0:=val_nonneg hw
    have hbd:=val_nonneg (l:=b.drop l.length) (fun x hx=>hb x (List.mem_of_mem_drop hx))
    have hk:val (b.drop l.length)+c=0:=by
      rcases Int.lt_or_le 0 (val (b.drop l.length)+c) with k | k
      · exfalso
        have hp:(1000000000:Int) ^ l.length * 1≤1000000000 ^ l.length * (val (b.drop l.length)+c):=Int.mul_le_mul_of_nonneg_left (by omega) (Int.le_of_lt (Int.pow_pos (by omega)))
        rw [e1] at hv
        have e2:(1000000000:Int) ^ l.length * (val [] - val (b.drop l.length) - c) = - (1000000000 ^ l.length * (val (b.drop l.length)+c)):=by
          rw [← Int.mul_neg]; congr 1; simp only [val]; omega
        rw [e2] at hv
        omega
      · omega
    have hvl:val l=val a - val b:=by
      rw [e1] at hv
      have e2:val [] - val (b.drop l.length) - c=0:=by simp only [val]; omega
      rw [e2] at hv; omega
    refine calls_of (c_trimmed (by omega)) ?_
    simp only [res334,b334k0,b334k1,b334k2,b334k3, ↓reduceIte,reduceCtorEq,Nat.reduceEqDiff,Nat.reduceAdd,Nat.reduceMul,Nat.reduceSub,Nat.reduceLeDiff,Nat.reduceBEq,Int.reduceToNat,Int.reduceLE,Int.reduceLT,Int.reduceEq,Int.reduceNe,di]
    rw [trim_digs hw,hvl]
end Go.DI


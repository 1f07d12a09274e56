/- Contracts: wide numbers multiplied. No condition. -/
import Derived.Test.YtaphhpphfffnfaaGreatDoorTkg
set_option linter.unusedSimpArgs false
namespace Go.DI
open Go.Proofs Go.RowKit
theorem val_set:∀ (l:List Int) (j:Nat) (x:Int),j<l.length→val (l.set j x)=val l+(x - l.getD j 0) * 1000000000 ^ j
  | [],j,x,h=>by simp at h
  | d :: l,0,x,_=>by
    simp [List.set,val]; omega
  | d :: l,j+1,x,h=>by
    have ih:=val_set l j x (by simpa using h)
    have e:(d :: l).getD (j+1) 0=l.getD j 0:=by simp [List.getD_eq_getElem?_getD]
    rw [e]
    simp only [List.set_cons_succ,val,ih,Int.pow_succ]
    rw [Int.mul_add,Int.add_assoc]
    congr 2
    rw [Int.mul_comm 1000000000,Int.mul_assoc]
theorem WF.set {l:List Int} (h:WF l) {j:Nat} {x:Int} (h1 : 0≤x) (h2:x<1000000000):WF (l.set j x):=by
  intro d hd
  rcases List.mem_or_eq_of_mem_set hd with k | k
  · exact h d k
  · subst k; exact ⟨h1,h2⟩
theorem digit_le {l:List Int} (h:WF l) {j:Nat} (hj:j<l.length):l.getD j 0 * 1000000000 ^ j≤val l:=by
  have:=val_set l j 0 hj
  have h2:=val_nonneg (h.set (j:=j) (x:=0) (by omega) (by omega))
  have e:(0 - l.getD j 0) * 1000000000 ^ j = -(l.getD j 0 * 1000000000 ^ j):=by rw [Int.zero_sub,Int.neg_mul]
  rw [e] at this
  omega
theorem take_succ_val (l:List Int) (i:Nat) (h:i<l.length):val (l.take (i+1))=val (l.take i)+l.getD i 0 * 1000000000 ^ i:=by
  have e:l.take (i+1)=l.take i ++ [l.getD i 0]:=by
    rw [List.take_succ_eq_append_getElem h,List.getD_eq_getElem?_getD]
    simp [h]
  rw [e,val_append,List.length_take,Nat.min_eq_left (by omega)]
  simp only [val,Int.mul_zero,Int.add_zero]
  rw [Int.mul_comm]
theorem val_replicate:∀ n,val (List.replicate n 0)=0
  | 0=>rfl
  | n+1=>by simp [List.replicate_succ,val,val_replicate n]
theorem c_WideMul {x y:Int} (hx:Few x) (hy:Few y):Contract Tryz.prog 274 [wide x,wide y] (wide (x * y)):=by
  unfold Few at hx hy
  have sx:=sign_cases x
  have sy:=sign_cases y
  have vx:=val_digs x.natAbs
  have vy:=val_digs y.natAbs
  have wx:=wf_digs x.natAbs
  have wy:=wf_digs y.natAbs
  refine contract_run Tryz.func274 k274 rfl ?_
  simp only [wide,body274,b274,res274,b274k0,b274k1,b274k2,b274k3,b274k4, ↓reduceIte,reduceCtorEq,Nat.reduceEqDiff,Nat.reduceAdd,Nat.reduceMul,Nat.reduceSub,Nat.reduceLeDiff,Nat.reduceBEq,Int.reduceToNat,Int.reduceLE,Int.reduceLT,Int.reduceEq,Int.reduceNe,di]
  generalize digs x.natAbs=a at *
  generalize digs y.natAbs=b at *
  have w1:IntKind.wrap .i64 ((a.length:Int)+b.length)=a.length+b.length:=wrap64 (by omega) (by omega)
  have w2:IntKind.wrap .i64 ((a.length:Int)+b.length+1)=a.length+b.length+1:=wrap64 (by omega) (by omega)
  rw [w1,w2]
  refine ⟨by omega,by omega,by omega,?_⟩
  have e3:((a.length:Int)+b.length+1).toNat=a.length+b.length+1:=by omega
  rw [e3]
  refine loop_keep (α:=Nat × List Int) rfl (fun s=>a.length - s.1)
    (fun s=>s.1≤a.length∧s.2.length=a.length+b.length+1∧WF s.2∧val s.2=val (a.take s.1) * val b)
    (fun s=>[(2,.ref 2 0),(3,.ref 3 0),(4,.ref 4 0),(5,.vec 18 0 (a.length+b.length+1)),(6,.imm (.int .i64 s.1))])
    (fun s=>[(2,.box [.imm (.int .i64 x.sign),.imm (.slc 1 (a.map (.int .i64)))]),(3,.box [.imm (.int .i64 y.sign),.imm (.slc 1 (b.map (.int .i64)))]),(4,.box [.imm (.int .i64 0),.imm (.slc 1 [])]),(18,.arr (s.2.map (.int .i64)))])
    (0,List.replicate (a.length+b.length+1) 0) ⟨Nat.zero_le _,by simp,?_,by simp [val,val_replicate]⟩ (by simp only [↓reduceIte,reduceCtorEq,Nat.reduceEqDiff,Nat.reduceAdd,Nat.reduceMul,Nat.reduceSub,Nat.reduceLeDiff,Nat.reduceBEq,Int.reduceToNat,Int.reduceLE,Int.reduceLT,Int.reduceEq,Int.reduceNe,di]) ?_
  · intro d hd; rw [List.mem_replicate] at hd; omega
  rintro ⟨i,o⟩ ⟨hi,ho,hwo,hv⟩ ih
  dsimp only at hi ho hwo hv
  simp only [res274,b274k0,b274k1,b274k2,b274k3,b274k4, ↓reduceIte,reduceCtorEq,Nat.reduceEqDiff,Nat.reduceAdd,Nat.reduceMul,Nat.reduceSub,Nat.reduceLeDiff,Nat.reduceBEq,Int.reduceToNat,Int.reduceLE,Int.reduceLT,Int.reduceEq,Int.reduceNe,di]
  split
  · rename_i h
    have hai:=wx.getD i
    have hV:=take_succ_val a i (by omega)
    refine loop_keep (α:=Nat × List Int × Int) rfl (fun s=>b.length - s.1)
      (fun s=>s.1≤b.length∧s.2.1.length=a.length+b.length+1∧WF s.2.1∧0≤s.2.2∧s.2.2<1000000000 ∧
        val s.2.1+s.2.2 * 1000000000 ^ (i+s.1)=val (a.take i) * val b+a.getD i 0 * 1000000000 ^ i * val (b.take s.1))
      (fun s=>[(2,.ref 2 0),(3,.ref 3 0),(4,.ref 4 0),(5,.vec 18 0 (a.length+b.length+1)),(6,.imm (.int .i64 i)),(7,.imm (.int .i64 s.2.2)),(8,.imm (.int .i64 s.1))])
      (fun s=>[(2,.box [.imm (.int .i64 x.sign),.imm (.slc 1 (a.map (.int .i64)))]),(3,.box [.imm (.int .i64 y.sign),.imm (.slc 1 (b.map (.int .i64)))]),(4,.box [.imm (.int .i64 0),.imm (.slc 1 [])]),(18,.arr (s.2.1.map (.int .i64)))])
      (0,o,0) ⟨Nat.zero_le _,ho,hwo,by dsimp only; omega,by dsimp only; omega,by simp [val,hv]⟩ (by simp only [↓reduceIte,reduceCtorEq,Nat.reduceEqDiff,Nat.reduceAdd,Nat.reduceMul,Nat.reduceSub,Nat.reduceLeDiff,Nat.reduceBEq,Int.reduceToNat,Int.reduceLE,Int.reduceLT,Int.reduceEq,Int.reduceNe,di]) ?_
    rintro ⟨k,o',c⟩ ⟨hk,ho',hwo',hc0,hc1,hv'⟩ ih2
    dsimp only at hk ho' hwo' hc0 hc1 hv'
    simp only [res274,b274k0,b274k1,b274k2,b274k3,b274k4, ↓reduceIte,reduceCtorEq,Nat.reduceEqDiff,Nat.reduceAdd,Nat.reduceMul,Nat.reduceSub,Nat.reduceLeDiff,Nat.reduceBEq,Int.reduceToNat,Int.reduceLE,Int.reduceLT,Int.reduceEq,Int.reduceNe,di]
    split
    · rename_i h2
      have hb:=wy.getD k
      have ho1:=hwo'.getD (i+k)
      have hqr0 : 0≤a.getD i 0 * b.getD k 0:=Int.mul_nonneg hai.1 hb.1
      have hqr1:a.getD i 0 * b.getD k 0≤999999999 * 999999999:=Int.mul_le_mul (by omega) (by omega) hb.1 (by omega)
      have hV2:=take_succ_val b k (by omega)
      have hset:=val_set o' (i+k) ((o'.getD (i+k) 0+a.getD i 0 * b.getD k 0+c) % 1000000000) (by omega)
      have w3:IntKind.wrap .i64 ((i:Int)+k)=((i+k:Nat):Int):=by rw [wrap64 (by omega) (by omega)]; rfl
      simp only [w3,i_toNat,Nat.zero_add]
      generalize hp:o'.getD (i+k) 0=p at *
      generalize hq:a.getD i 0=q at *
      generalize hr:b.getD k 0=r at *
      rw [wrap64 (n:=q * r) (by omega) (by omega),wrap64 (n:=p+q * r) (by omega) (by omega),wrap64 (n:=p+q * r+c) (by omega) (by omega),(tdm (s:=p+q * r+c) (by omega)).1,(tdm (s:=p+q * r+c) (by omega)).2,
        wrap64 (n:=(p+q * r+c) / 1000000000) (by omega) (by omega),wrap64 (n:=(k:Int)+1) (by omega) (by omega)]
      refine ⟨by omega,by omega,by omega,by omega,by omega,by omega,by omega,by omega,?_⟩
      refine ih2 (k+1,o'.set (i+k) ((p+q * r+c) % 1000000000),(p+q * r+c) / 1000000000) _ _ (by dsimp only; omega) ⟨by dsimp only; omega,by simp [ho'],hwo'.set (by omega) (by omega),by dsimp only; omega,by dsimp only; omega,?_⟩ (by simp only [↓reduceIte,reduceCtorEq,Nat.reduceEqDiff,Nat.reduceAdd,Nat.reduceMul,Nat.reduceSub,Nat.reduceLeDiff,Nat.reduceBEq,Int.reduceToNat,Int.reduceLE,Int.reduceLT,Int.reduceEq,Int.reduceNe,di]; rfl)
      dsimp only
      generalize hW:(1000000000:Int) ^ (i+k)=W at *
      have ep:(1000000000:Int) ^ (i+(k+1))=W * 1000000000:=by rw [← hW,← Nat.add_assoc,Int.pow_succ]
      rw [hset,hV2,ep,Int.mul_add]
      have e1:(p+q * r+c) / 1000000000 * (W * 1000000000)=((p+q * r+c) / 1000000000 * 1000000000) * W:=by
        rw [Int.mul_comm W,Int.mul_assoc]
      have e2:q * 1000000000 ^ i * (r * 1000000000 ^ k)=(q * r) * W:=by
        rw [← hW,Int.pow_add,Int.mul_assoc,Int.mul_assoc,← Int.mul_assoc (1000000000 ^ i) r,Int.mul_comm (1000000000 ^ i) r,Int.mul_assoc r]
      have e4:((p+q * r+c) % 1000000000 - p) * W+((p+q * r+c) / 1000000000 * 1000000000) * W=(q * r) * W+c * W:=by
        rw [← Int.add_mul,← Int.add_mul]
        congr 1
        omega
      omega
    · rename_i h2
      have hk:k=b.length:=by omega
      subst hk
      have w3:IntKind.wrap .i64 ((i:Int)+b.length)=((i+b.length:Nat):Int):=by rw [wrap64 (by omega) (by omega)]; rfl
      simp only [w3,i_toNat,Nat.zero_add]
      have ho1:=hwo'.getD (i+b.length)
      have hset:=val_set o' (i+b.length) (o'.getD (i+b.length) 0+c) (by omega)
      have hdl:=digit_le hwo' (j:=i+b.length) (by omega)
      have hall:val (a.take i) * val b+a.getD i 0 * 1000000000 ^ i * val (b.take b.length)=val (a.take (i+1)) * val b:=by
        rw [List.take_length,hV,Int.add_mul]
      rw [hall] at hv'
      have hlt:val (a.take (i+1)) * val b<1000000000 ^ (i+1) * 1000000000 ^ b.length:=by
        have l1:=val_lt (wx.take (i+1))
        rw [List.length_take,Nat.min_eq_left (by omega)] at l1
        have l2:=val_lt wy
        have l3:=val_nonneg (wx.take (i+1))
        have l4:=val_nonneg wy
        have l5:=Int.mul_le_mul_of_nonneg_left (Int.le_of_lt l2) l3
        have l6:=Int.mul_lt_mul_of_pos_right l1 (show (0:Int)<1000000000 ^ b.length from Int.pow_pos (by omega))
        omega
      generalize hp:o'.getD (i+b.length) 0=p at *
      have hlim:p+c<1000000000:=by
        rw [← Int.pow_add,show i+1+b.length=i+b.length+1 by omega,Int.pow_succ] at hlt
        have hW:(0:Int)<1000000000 ^ (i+b.length):=Int.pow_pos (by omega)
        generalize (1000000000:Int) ^ (i+b.length)=W at *
        have e1:(p+c) * W<1000000000 * W:=by
          rw [Int.add_mul,Int.mul_comm 1000000000 W]; omega
        exact Int.lt_of_mul_lt_mul_right e1 (Int.le_of_lt hW)
      rw [wrap64 (n:=p+c) (by omega) (by omega),wrap64 (n:=(i:Int)+1) (by omega) (by omega)]
      refine ⟨by omega,by omega,by omega,by omega,by omega,by omega,?_⟩
      refine ih (i+1,o'.set (i+b.length) (p+c)) _ _ (by dsimp only; omega) ⟨by dsimp only; omega,by simp [ho'],hwo'.set (by omega) (by omega),?_⟩ (by simp only [↓reduceIte,reduceCtorEq,Nat.reduceEqDiff,Nat.reduceAdd,Nat.reduceMul,Nat.reduceSub,Nat.reduceLeDiff,Nat.reduceBEq,Int.reduceToNat,Int.reduceLE,Int.reduceLT,Int.reduceEq,Int.reduceNe,di]; rfl)
      dsimp only
      rw [hset,← hv',show p+c - p=c by omega]
  · rename_i h
    have hi:i=a.length:=by omega
    subst hi
    rw [List.take_length] at hv
    simp only [res274,b274k0,b274k1,b274k2,b274k3,b274k4, ↓reduceIte,reduceCtorEq,Nat.reduceEqDiff,Nat.reduceAdd,Nat.reduceMul,Nat.reduceSub,Nat.reduceLeDiff,Nat.reduceBEq,Int.reduceToNat,Int.reduceLE,Int.reduceLT,Int.reduceEq,Int.reduceNe,di,Nat.zero_add,← ho,Nat.le_refl,List.take_length]
    have hs1:=sign_bd x
    have hs2:=sign_bd y
    have hxy:x.sign * y.sign=(x * y).sign:=(Int.sign_mul x y).symm
    have hs3:=sign_bd (x * y)
    rw [wrap64 (n:=x.sign * y.sign) (by omega) (by omega)]
    have hz:x.sign * y.sign=0→val o=0:=by
      intro hz
      rw [hv,vx,vy]
      rcases Int.mul_eq_zero.1 hz with k | k
      · have:x=0:=by omega
        subst this; simp
      · have:y=0:=by omega
        subst this; simp
    refine calls_of (c_wideOf (by omega) hwo (by omega) hz) ?_
    have e:x.sign * y.sign * val o=x * y:=by
      rw [hv,vx,vy]
      have h1:x.sign * x.natAbs=x:=by
        rcases sx with k | k | k
        · rw [k.1]; omega
        · rw [k.1]; omega
        · rw [k.1]; omega
      have h2:y.sign * y.natAbs=y:=by
        rcases sy with k | k | k
        · rw [k.1]; omega
        · rw [k.1]; omega
        · rw [k.1]; omega
      rw [Int.mul_assoc,← Int.mul_assoc y.sign,Int.mul_comm y.sign,Int.mul_assoc,← Int.mul_assoc,h1,h2]
    rw [e]
    simp only [res274,b274k0,b274k1,b274k2,b274k3,b274k4,wide, ↓reduceIte,reduceCtorEq,Nat.reduceEqDiff,Nat.reduceAdd,Nat.reduceMul,Nat.reduceSub,Nat.reduceLeDiff,Nat.reduceBEq,Int.reduceToNat,Int.reduceLE,Int.reduceLT,Int.reduceEq,Int.reduceNe,di]
end Go.DI


/- Contracts: wide numbers divided. No condition. -/
import Derived.Test.YtaphhpphfffnfaaGreatDoorTkh
set_option linter.unusedSimpArgs false
namespace Go.DI
open Go.Proofs Go.RowKit
theorem natpow_lt {n k:Nat} (h:(n:Int)<1000000000 ^ k):n<1000000000 ^ k:=by
  have e:((1000000000 ^ k:Nat):Int)=(1000000000:Int) ^ k:=by rw [Int.natCast_pow]; rfl
  rw [← e] at h
  exact Int.ofNat_lt.1 h
theorem digs_lt (n:Nat):n<1000000000 ^ (digs n).length:=by
  have h:=val_lt (wf_digs n)
  rw [val_digs] at h
  exact natpow_lt h
theorem digs_mul_le (m n:Nat):(digs (m * n)).length≤(digs m).length+(digs n).length:=by
  apply digs_length_le
  rw [Nat.pow_add]
  exact Nat.mul_lt_mul'' (digs_lt m) (digs_lt n)
theorem c_WideFloor {x y:Int} (hx:Few x) (hy:Few y) (h0 : 0<y):Contract Tryz.prog 329 [wide x,wide y] (wide (x / y)):=by
  unfold Few at hx hy
  have sx:=sign_cases x
  have vx:=val_digs x.natAbs
  have wx:=wf_digs x.natAbs
  refine contract_run Tryz.func329 k329 rfl ?_
  simp only [wide,body329,b329,res329,b329k0,b329k1,b329k2,b329k3,b329k4,b329k5,b329k6, ↓reduceIte,reduceCtorEq,Nat.reduceEqDiff,Nat.reduceAdd,Nat.reduceMul,Nat.reduceSub,Nat.reduceLeDiff,Nat.reduceBEq,Int.reduceToNat,Int.reduceLE,Int.reduceLT,Int.reduceEq,Int.reduceNe,di]
  split
  · rename_i h
    have:x=0:=by omega
    subst this; simp [digs_zero]
  · rename_i h
    generalize ha:digs x.natAbs=a at *
    refine ⟨by omega,by omega,?_⟩
    rw [wrap64 (n:=(a.length:Int) - 1) (by omega) (by omega)]
    refine loop_keep (α:=Nat × List Int × Nat) rfl (fun s=>s.1)
      (fun s=>s.1≤a.length∧s.2.1.length=a.length∧WF s.2.1∧(s.2.2:Int)<y∧val (a.drop s.1)=val (s.2.1.drop s.1) * y+s.2.2)
      (fun s=>[(2,.ref 2 0),(3,.ref 3 0),(4,.ref 4 0),(5,.vec 19 0 a.length),(6,.imm (.slc 1 ((digs s.2.2).map (.int .i64)))),(7,.imm (.int .i64 ((s.1:Int) - 1)))])
      (fun s=>[(2,.box [.imm (.int .i64 x.sign),.imm (.slc 1 (a.map (.int .i64)))]),(3,.box [.imm (.int .i64 y.sign),.imm (.slc 1 ((digs y.natAbs).map (.int .i64)))]),(4,.box [.imm (.int .i64 0),.imm (.slc 1 [])]),(19,.arr (s.2.1.map (.int .i64)))])
      (a.length,List.replicate a.length 0,0) ⟨Nat.le_refl _,by simp,?_,by simpa using h0,by simp [val]⟩ (by simp only [↓reduceIte,reduceCtorEq,Nat.reduceEqDiff,Nat.reduceAdd,Nat.reduceMul,Nat.reduceSub,Nat.reduceLeDiff,Nat.reduceBEq,Int.reduceToNat,Int.reduceLE,Int.reduceLT,Int.reduceEq,Int.reduceNe,di,digs_zero]) ?_
    · intro d hd; rw [List.mem_replicate] at hd; omega
    rintro ⟨n,q,L⟩ ⟨hn,hq,hwq,hL,hv⟩ ih
    dsimp only at hn hq hwq hL hv
    cases n with
    | zero =>
      have e0:((0:Nat):Int) - 1 = -1:=rfl
      simp only [res329,b329k0,b329k1,b329k2,b329k3,b329k4,b329k5,b329k6, ↓reduceIte,reduceCtorEq,Nat.reduceEqDiff,Nat.reduceAdd,Nat.reduceMul,Nat.reduceSub,Nat.reduceLeDiff,Nat.reduceBEq,Int.reduceToNat,Int.reduceLE,Int.reduceLT,Int.reduceEq,Int.reduceNe,di,e0]
      rw [if_neg (by omega)]
      simp only [List.drop_zero] at hv
      have hq0:=val_nonneg hwq
      have ex:(x.natAbs:Int)=val q * y+L:=by rw [← vx,hv]
      simp only [res329,b329k0,b329k1,b329k2,b329k3,b329k4,b329k5,b329k6, ↓reduceIte,reduceCtorEq,Nat.reduceEqDiff,Nat.reduceAdd,Nat.reduceMul,Nat.reduceSub,Nat.reduceLeDiff,Nat.reduceBEq,Int.reduceToNat,Int.reduceLE,Int.reduceLT,Int.reduceEq,Int.reduceNe,di,Nat.zero_add,← hq,Nat.le_refl,List.take_length]
      have hqL:val q=0∨0<val q:=by omega
      refine calls_of (c_wideOf (s:=x.sign) (l:=q) (by omega) hwq (by have:=sign_bd x; omega) (by intro z; omega)) ?_
      simp only [res329,b329k0,b329k1,b329k2,b329k3,b329k4,b329k5,b329k6,wide, ↓reduceIte,reduceCtorEq,Nat.reduceEqDiff,Nat.reduceAdd,Nat.reduceMul,Nat.reduceSub,Nat.reduceLeDiff,Nat.reduceBEq,Int.reduceToNat,Int.reduceLE,Int.reduceLT,Int.reduceEq,Int.reduceNe,di]
      have hLd:digs L=[]↔L=0:=digs_nil
      split
      · rename_i h1
        have hx0:x<0:=by omega
        have hxs:x.sign = -1:=Int.sign_eq_neg_one_of_neg hx0
        have hL0:L ≠ 0:=by intro z; have h2:=h1.2; rw [hLd.2 z] at h2; simp at h2
        refine calls_of (c_WideOf (by omega) (by omega)) ?_
        simp only [res329,b329k0,b329k1,b329k2,b329k3,b329k4,b329k5,b329k6, ↓reduceIte,reduceCtorEq,Nat.reduceEqDiff,Nat.reduceAdd,Nat.reduceMul,Nat.reduceSub,Nat.reduceLeDiff,Nat.reduceBEq,Int.reduceToNat,Int.reduceLE,Int.reduceLT,Int.reduceEq,Int.reduceNe,di]
        have hfew:Few (x.sign * val q):=by
          unfold Few
          rw [hxs]
          have h6:=val_lt hwq
          have h5:((val q).toNat:Int)=val q:=Int.toNat_of_nonneg hq0
          rw [← h5] at h6
          have:=digs_length_le q.length (val q).toNat (natpow_lt h6)
          rw [show (-1 * val q).natAbs=(val q).toNat by omega]
          omega
        refine calls_of (c_WideSub hfew (few_of (z:=1) 1 (by omega) (by decide))) ?_
        simp only [res329,b329k0,b329k1,b329k2,b329k3,b329k4,b329k5,b329k6,wide, ↓reduceIte,reduceCtorEq,Nat.reduceEqDiff,Nat.reduceAdd,Nat.reduceMul,Nat.reduceSub,Nat.reduceLeDiff,Nat.reduceBEq,Int.reduceToNat,Int.reduceLE,Int.reduceLT,Int.reduceEq,Int.reduceNe,di]
        have e:x.sign * val q - 1=x / y:=by
          rw [hxs]
          symm
          have e1:x=y * (-1 * val q - 1)+(y - L):=by grind
          rw [e1,Int.mul_add_ediv_left _ _ (by omega),Int.ediv_eq_zero_of_lt (by omega) (by omega)]
          omega
        rw [e]
      · rename_i h1
        have e:x.sign * val q=x / y:=by
          symm
          rcases Int.lt_or_le x 0 with hx0 | hx0
          · have hxs:x.sign = -1:=Int.sign_eq_neg_one_of_neg hx0
            have hL0:L=0:=by
              apply hLd.1
              apply List.eq_nil_of_length_eq_zero
              omega
            rw [hxs]
            have e1:x=y * (-1 * val q):=by grind
            rw [e1,Int.mul_ediv_cancel_left _ (by omega)]
          · have hxs:x.sign=1:=by omega
            rw [hxs]
            have e1:x=y * (1 * val q)+L:=by grind
            rw [e1,Int.mul_add_ediv_left _ _ (by omega),Int.ediv_eq_zero_of_lt (by omega) (by omega)]
            omega
        rw [e]
    | succ m =>
      have e1:((m+1:Nat):Int) - 1=m:=by omega
      have hlL:(digs L).length≤(digs y.natAbs).length:=digs_mono (by omega)
      have ham:=wx.getD m
      have hdm:=val_drop a m
      simp only [res329,b329k0,b329k1,b329k2,b329k3,b329k4,b329k5,b329k6, ↓reduceIte,reduceCtorEq,Nat.reduceEqDiff,Nat.reduceAdd,Nat.reduceMul,Nat.reduceSub,Nat.reduceLeDiff,Nat.reduceBEq,Int.reduceToNat,Int.reduceLE,Int.reduceLT,Int.reduceEq,Int.reduceNe,di,e1]
      refine ⟨by omega,by omega,by omega,?_⟩
      refine calls_of (c_trimmed (l:=a.getD m 0 :: digs L) (by simp; omega)) ?_
      have hT:trim (a.getD m 0 :: digs L)=digs (a.getD m 0+1000000000 * L).toNat:=by
        rw [trim_digs (WF.cons ham.1 ham.2 (wf_digs L))]
        simp only [val,val_digs]
      rw [hT]
      simp only [res329,b329k0,b329k1,b329k2,b329k3,b329k4,b329k5,b329k6, ↓reduceIte,reduceCtorEq,Nat.reduceEqDiff,Nat.reduceAdd,Nat.reduceMul,Nat.reduceSub,Nat.reduceLeDiff,Nat.reduceBEq,Int.reduceToNat,Int.reduceLE,Int.reduceLT,Int.reduceEq,Int.reduceNe,di]
      have hT0 : 0≤a.getD m 0+1000000000 * L:=by omega
      have hTy:a.getD m 0+1000000000 * L<y * 1000000000:=by omega
      generalize hTT:a.getD m 0+1000000000 * (L:Int)=T at *
      have hTn:(T.toNat:Int)=T:=Int.toNat_of_nonneg hT0
      have hfy:Few y:=hy
      have hwy:Contract Tryz.prog 310 [.int .i64 1,.slc 1 ((digs y.natAbs).map (.int .i64))] (wide y):=by
        have:=c_wideOf (s:=1) (l:=digs y.natAbs) (by omega) (wf_digs _) (by decide) (by intro h; cases h)
        rw [val_digs,show (1:Int) * (y.natAbs:Int)=y by omega] at this
        exact this
      have hfT:(digs T.toNat).length≤100001:=by
        have:=trimLen_le (a.getD m 0 :: digs L) (a.getD m 0 :: digs L).length
        have h2:(trim (a.getD m 0 :: digs L)).length≤(a.getD m 0 :: digs L).length:=by unfold trim; rw [List.length_take]; omega
        rw [hT] at h2
        simp at h2
        omega
      refine loop_keep (α:=Int × Int) rfl (fun s=>(s.2 - s.1).toNat)
        (fun s=>0≤s.1∧s.1≤s.2∧s.2≤999999999∧y * s.1≤T∧T<y * (s.2+1))
        (fun s=>[(2,.ref 2 0),(3,.ref 3 0),(4,.ref 4 0),(5,.vec 19 0 a.length),(6,.imm (.slc 1 ((digs T.toNat).map (.int .i64)))),(7,.imm (.int .i64 m)),(8,.imm (.int .i64 s.1)),(9,.imm (.int .i64 s.2))])
        (fun s=>[(2,.box [.imm (.int .i64 x.sign),.imm (.slc 1 (a.map (.int .i64)))]),(3,.box [.imm (.int .i64 y.sign),.imm (.slc 1 ((digs y.natAbs).map (.int .i64)))]),(4,.box [.imm (.int .i64 0),.imm (.slc 1 [])]),(19,.arr (q.map (.int .i64)))])
        (0,999999999) ⟨by dsimp only; omega,by dsimp only; omega,by dsimp only; omega,by simpa using hT0,by simpa using hTy⟩ (by simp only [↓reduceIte,reduceCtorEq,Nat.reduceEqDiff,Nat.reduceAdd,Nat.reduceMul,Nat.reduceSub,Nat.reduceLeDiff,Nat.reduceBEq,Int.reduceToNat,Int.reduceLE,Int.reduceLT,Int.reduceEq,Int.reduceNe,di]) ?_
      rintro ⟨lo,hi⟩ ⟨i1,i2,i3,i4,i5⟩ ih2
      dsimp only at i1 i2 i3 i4 i5
      simp only [res329,b329k0,b329k1,b329k2,b329k3,b329k4,b329k5,b329k6, ↓reduceIte,reduceCtorEq,Nat.reduceEqDiff,Nat.reduceAdd,Nat.reduceMul,Nat.reduceSub,Nat.reduceLeDiff,Nat.reduceBEq,Int.reduceToNat,Int.reduceLE,Int.reduceLT,Int.reduceEq,Int.reduceNe,di]
      rw [wrap64 (n:=lo+hi) (by omega) (by omega),wrap64 (n:=lo+hi+1) (by omega) (by omega),Int.tdiv_eq_ediv_of_nonneg (show 0≤lo+hi+1 by omega),wrap64 (n:=(lo+hi+1) / 2) (by omega) (by omega)]
      split
      · rename_i hlt
        generalize hmd:(lo+hi+1) / 2=md
        refine calls_of hwy ?_
        simp only [res329,b329k0,b329k1,b329k2,b329k3,b329k4,b329k5,b329k6, ↓reduceIte,reduceCtorEq,Nat.reduceEqDiff,Nat.reduceAdd,Nat.reduceMul,Nat.reduceSub,Nat.reduceLeDiff,Nat.reduceBEq,Int.reduceToNat,Int.reduceLE,Int.reduceLT,Int.reduceEq,Int.reduceNe,di]
        refine calls_of (c_WideOf (by omega) (by omega)) ?_
        simp only [res329,b329k0,b329k1,b329k2,b329k3,b329k4,b329k5,b329k6, ↓reduceIte,reduceCtorEq,Nat.reduceEqDiff,Nat.reduceAdd,Nat.reduceMul,Nat.reduceSub,Nat.reduceLeDiff,Nat.reduceBEq,Int.reduceToNat,Int.reduceLE,Int.reduceLT,Int.reduceEq,Int.reduceNe,di]
        refine calls_of (c_WideMul hfy (few_of 2 (by omega) (by omega))) ?_
        simp only [res329,b329k0,b329k1,b329k2,b329k3,b329k4,b329k5,b329k6,wide, ↓reduceIte,reduceCtorEq,Nat.reduceEqDiff,Nat.reduceAdd,Nat.reduceMul,Nat.reduceSub,Nat.reduceLeDiff,Nat.reduceBEq,Int.reduceToNat,Int.reduceLE,Int.reduceLT,Int.reduceEq,Int.reduceNe,di]
        have hp0 : 0≤y * md:=Int.mul_nonneg (by omega) (by omega)
        have hpy:y * md≤y * 999999999:=Int.mul_le_mul_of_nonneg_left (by omega) (by omega)
        refine calls_of (c_cmpDigits (by
          rw [Int.natAbs_mul]
          have:=digs_mul_le y.natAbs md.natAbs
          have:=digs_length_le 1 md.natAbs (by omega)
          omega)) ?_
        have sg:=sign_cases (((y * md).natAbs:Int) - T.toNat)
        simp only [res329,b329k0,b329k1,b329k2,b329k3,b329k4,b329k5,b329k6, ↓reduceIte,reduceCtorEq,Nat.reduceEqDiff,Nat.reduceAdd,Nat.reduceMul,Nat.reduceSub,Nat.reduceLeDiff,Nat.reduceBEq,Int.reduceToNat,Int.reduceLE,Int.reduceLT,Int.reduceEq,Int.reduceNe,di]
        split
        · rename_i hc
          refine ih2 (md,hi) _ _ (by dsimp only; omega) ⟨by dsimp only; omega,by dsimp only; omega,i3,by dsimp only; omega,i5⟩ (by simp only [↓reduceIte,reduceCtorEq,Nat.reduceEqDiff,Nat.reduceAdd,Nat.reduceMul,Nat.reduceSub,Nat.reduceLeDiff,Nat.reduceBEq,Int.reduceToNat,Int.reduceLE,Int.reduceLT,Int.reduceEq,Int.reduceNe,di])
        · rename_i hc
          rw [wrap64 (n:=md - 1) (by omega) (by omega)]
          refine ih2 (lo,md - 1) _ _ (by dsimp only; omega) ⟨i1,by dsimp only; omega,by dsimp only; omega,i4,?_⟩ (by simp only [↓reduceIte,reduceCtorEq,Nat.reduceEqDiff,Nat.reduceAdd,Nat.reduceMul,Nat.reduceSub,Nat.reduceLeDiff,Nat.reduceBEq,Int.reduceToNat,Int.reduceLE,Int.reduceLT,Int.reduceEq,Int.reduceNe,di])
          dsimp only
          rw [show md - 1+1=md by omega]
          omega
      · rename_i hge
        have hlh:lo=hi:=by omega
        subst hlh
        have hp0 : 0≤y * lo:=Int.mul_nonneg (by omega) i1
        repeat (refine And.intro (by omega) ?_)
        refine calls_of hwy ?_
        simp only [res329,b329k0,b329k1,b329k2,b329k3,b329k4,b329k5,b329k6, ↓reduceIte,reduceCtorEq,Nat.reduceEqDiff,Nat.reduceAdd,Nat.reduceMul,Nat.reduceSub,Nat.reduceLeDiff,Nat.reduceBEq,Int.reduceToNat,Int.reduceLE,Int.reduceLT,Int.reduceEq,Int.reduceNe,di]
        refine calls_of (c_WideOf (by omega) (by omega)) ?_
        simp only [res329,b329k0,b329k1,b329k2,b329k3,b329k4,b329k5,b329k6, ↓reduceIte,reduceCtorEq,Nat.reduceEqDiff,Nat.reduceAdd,Nat.reduceMul,Nat.reduceSub,Nat.reduceLeDiff,Nat.reduceBEq,Int.reduceToNat,Int.reduceLE,Int.reduceLT,Int.reduceEq,Int.reduceNe,di]
        refine calls_of (c_WideMul hfy (few_of 2 (by omega) (by omega))) ?_
        simp only [res329,b329k0,b329k1,b329k2,b329k3,b329k4,b329k5,b329k6,wide, ↓reduceIte,reduceCtorEq,Nat.reduceEqDiff,Nat.reduceAdd,Nat.reduceMul,Nat.reduceSub,Nat.reduceLeDiff,Nat.reduceBEq,Int.reduceToNat,Int.reduceLE,Int.reduceLT,Int.reduceEq,Int.reduceNe,di]
        refine calls_of (c_subDigits (wf_digs _) (wf_digs _) (by omega) (by rw [val_digs,val_digs]; omega)) ?_
        simp only [res329,b329k0,b329k1,b329k2,b329k3,b329k4,b329k5,b329k6, ↓reduceIte,reduceCtorEq,Nat.reduceEqDiff,Nat.reduceAdd,Nat.reduceMul,Nat.reduceSub,Nat.reduceLeDiff,Nat.reduceBEq,Int.reduceToNat,Int.reduceLE,Int.reduceLT,Int.reduceEq,Int.reduceNe,di]
        rw [wrap64 (n:=(m:Int) - 1) (by omega) (by omega),val_digs,val_digs]
        have eT:((T.toNat:Int) - (y * lo).natAbs).toNat=(T - y * lo).toNat:=by congr 1; omega
        rw [eT,Nat.zero_add]
        have hy5:y * (lo+1)=y * lo+y:=by grind
        refine ih (m,q.set m lo,(T - y * lo).toNat) _ _ (by dsimp only; omega) ⟨by dsimp only; omega,by simp [hq],hwq.set (by omega) (by omega),by dsimp only; omega,?_⟩ (by simp only [↓reduceIte,reduceCtorEq,Nat.reduceEqDiff,Nat.reduceAdd,Nat.reduceMul,Nat.reduceSub,Nat.reduceLeDiff,Nat.reduceBEq,Int.reduceToNat,Int.reduceLE,Int.reduceLT,Int.reduceEq,Int.reduceNe,di])
        dsimp only
        have hs1:(q.set m lo).getD m 0=lo:=by
          rw [List.getD_eq_getElem?_getD,List.getElem?_set_self (by omega)]; rfl
        have hs2:(q.set m lo).drop (m+1)=q.drop (m+1):=List.drop_set_of_lt (by omega)
        rw [hdm,val_drop (q.set m lo) m,hs1,hs2,hv]
        have hTz:((T - y * lo).toNat:Int)=T - y * lo:=Int.toNat_of_nonneg (by omega)
        rw [hTz,← hTT]
        grind
end Go.DI


/- Contracts: the reference's tables of lakes. No condition. -/
import Derived.Test.YtaphhpphfffnfaaGreatDoorTku
import Derived.Test.YtaphhpphfffnfaaGreatDoorTkv
import Derived.Test.YtaphhpphfffnfaaGreatDoorTkw
set_option linter.unusedSimpArgs false
namespace Go.DI
open Go.Proofs Go.RowKit Lk
theorem r_Bottom {l:List Kn} (h : 0<l.length):Contract Tryz.prog 129 [tabI l] (knI (bot l)):=by
  refine contract_run Tryz.func129 k129 rfl ?_
  simp only [body129,b129,res129,lkE, ↓reduceIte,reduceCtorEq,Nat.reduceEqDiff,Nat.reduceAdd,Nat.reduceMul,Nat.reduceSub,Nat.reduceLeDiff,Nat.reduceBEq,Int.reduceToNat,Int.reduceLE,Int.reduceLT,Int.reduceEq,Int.reduceNe,di]
  repeat (refine And.intro (by omega) ?_)
  rfl
theorem r_Top {l:List Kn} (h : 0<l.length) (hl:l.length≤1000000000000):Contract Tryz.prog 130 [tabI l] (knI (top l)):=by
  have e:IntKind.wrap .i64 ((l.length:Int) - 1)=((l.length - 1:Nat):Int):=by rw [wrap64 (by omega) (by omega)]; omega
  refine contract_run Tryz.func130 k130 rfl ?_
  simp only [body130,b130,res130,lkE, ↓reduceIte,reduceCtorEq,Nat.reduceEqDiff,Nat.reduceAdd,Nat.reduceMul,Nat.reduceSub,Nat.reduceLeDiff,Nat.reduceBEq,Int.reduceToNat,Int.reduceLE,Int.reduceLT,Int.reduceEq,Int.reduceNe,di]
  simp only [e,i_toNat]
  repeat (refine And.intro (by omega) ?_)
  rfl
theorem r_IsLevel {l:List Kn} {x:Int} (h : 0<l.length) (hl:l.length≤1000000000000):Contract Tryz.prog 50 [tabI l,.int .i64 x] (.bool (decide (isL l x))):=by
  refine contract_run Tryz.func50 k50 rfl ?_
  simp only [body50,b50,res50,lkE, ↓reduceIte,reduceCtorEq,Nat.reduceEqDiff,Nat.reduceAdd,Nat.reduceMul,Nat.reduceSub,Nat.reduceLeDiff,Nat.reduceBEq,Int.reduceToNat,Int.reduceLE,Int.reduceLT,Int.reduceEq,Int.reduceNe,di]
  refine calls_of (r_Bottom h) ?_; simp only [lkE,res50, ↓reduceIte,reduceCtorEq,Nat.reduceEqDiff,Nat.reduceAdd,Nat.reduceMul,Nat.reduceSub,Nat.reduceLeDiff,Nat.reduceBEq,Int.reduceToNat,Int.reduceLE,Int.reduceLT,Int.reduceEq,Int.reduceNe,di]
  refine calls_of (r_Top h hl) ?_; simp only [lkE,res50, ↓reduceIte,reduceCtorEq,Nat.reduceEqDiff,Nat.reduceAdd,Nat.reduceMul,Nat.reduceSub,Nat.reduceLeDiff,Nat.reduceBEq,Int.reduceToNat,Int.reduceLE,Int.reduceLT,Int.reduceEq,Int.reduceNe,di]
  refine calls_of c_Within ?_; simp only [lkE,res50, ↓reduceIte,reduceCtorEq,Nat.reduceEqDiff,Nat.reduceAdd,Nat.reduceMul,Nat.reduceSub,Nat.reduceLeDiff,Nat.reduceBEq,Int.reduceToNat,Int.reduceLE,Int.reduceLT,Int.reduceEq,Int.reduceNe,di]
  rfl
theorem r_IsVolume {l:List Kn} {x:Int} (h : 0<l.length) (hl:l.length≤1000000000000):Contract Tryz.prog 126 [tabI l,.int .i64 x] (.bool (decide (isV l x))):=by
  refine contract_run Tryz.func126 k126 rfl ?_
  simp only [body126,b126,res126,lkE, ↓reduceIte,reduceCtorEq,Nat.reduceEqDiff,Nat.reduceAdd,Nat.reduceMul,Nat.reduceSub,Nat.reduceLeDiff,Nat.reduceBEq,Int.reduceToNat,Int.reduceLE,Int.reduceLT,Int.reduceEq,Int.reduceNe,di]
  refine calls_of (r_Bottom h) ?_; simp only [lkE,res126, ↓reduceIte,reduceCtorEq,Nat.reduceEqDiff,Nat.reduceAdd,Nat.reduceMul,Nat.reduceSub,Nat.reduceLeDiff,Nat.reduceBEq,Int.reduceToNat,Int.reduceLE,Int.reduceLT,Int.reduceEq,Int.reduceNe,di]
  refine calls_of (r_Top h hl) ?_; simp only [lkE,res126, ↓reduceIte,reduceCtorEq,Nat.reduceEqDiff,Nat.reduceAdd,Nat.reduceMul,Nat.reduceSub,Nat.reduceLeDiff,Nat.reduceBEq,Int.reduceToNat,Int.reduceLE,Int.reduceLT,Int.reduceEq,Int.reduceNe,di]
  refine calls_of c_Within ?_; simp only [lkE,res126, ↓reduceIte,reduceCtorEq,Nat.reduceEqDiff,Nat.reduceAdd,Nat.reduceMul,Nat.reduceSub,Nat.reduceLeDiff,Nat.reduceBEq,Int.reduceToNat,Int.reduceLE,Int.reduceLT,Int.reduceEq,Int.reduceNe,di]
  rfl
theorem r_piece {l:List Kn} {i:Nat} (h0 : 0<i) (hi:i<l.length) (hl:l.length≤1000000000000) (ka:KB (kn l i)) (kb:KB (kn l (i - 1))) (hd:dh l i ≠ 0):Contract Tryz.prog 214 [tabI l,.int .i64 i] (ratio (Rat.divInt (dv l i) (dh l i))):=by
  have e:IntKind.wrap .i64 ((i:Int) - 1)=((i - 1:Nat):Int):=by rw [wrap64 (by omega) (by omega)]; omega
  unfold KB at ka kb
  have e1:(kn l i).2 - (kn l (i - 1)).2=dv l i:=rfl
  have e2:(kn l i).1 - (kn l (i - 1)).1=dh l i:=rfl
  refine contract_run Tryz.func214 k214 rfl ?_
  simp only [body214,b214,res214,lkE, ↓reduceIte,reduceCtorEq,Nat.reduceEqDiff,Nat.reduceAdd,Nat.reduceMul,Nat.reduceSub,Nat.reduceLeDiff,Nat.reduceBEq,Int.reduceToNat,Int.reduceLE,Int.reduceLT,Int.reduceEq,Int.reduceNe,di]
  simp only [e,i_toNat]
  repeat (refine And.intro (by omega) ?_)
  rw [wrap64 (n:=(kn l i).2 - (kn l (i - 1)).2) (by omega) (by omega),wrap64 (n:=(kn l i).1 - (kn l (i - 1)).1) (by omega) (by omega),e1,e2]
  refine calls_of (c_RatioOf (by omega) (by omega) (by omega) (by omega) hd) ?_
  simp only [ratio,res214,lkE, ↓reduceIte,reduceCtorEq,Nat.reduceEqDiff,Nat.reduceAdd,Nat.reduceMul,Nat.reduceSub,Nat.reduceLeDiff,Nat.reduceBEq,Int.reduceToNat,Int.reduceLE,Int.reduceLT,Int.reduceEq,Int.reduceNe,di]
theorem fw_piece {l:List Kn} {i:Nat} (ka:KB (kn l i)) (kb:KB (kn l (i - 1))) (hd:dh l i ≠ 0):Fw 2 (Rat.divInt (dv l i) (dh l i)):=by
  unfold KB at ka kb
  have e1:(kn l i).2 - (kn l (i - 1)).2=dv l i:=rfl
  have e2:(kn l i).1 - (kn l (i - 1)).1=dh l i:=rfl
  exact fw_divInt (by omega) (by omega) hd
theorem r_CheckTable {l:List Kn} (hl:l.length≤1000000000000):Contract Tryz.prog 119 [tabI l] (pairI (chkT l)):=by
  refine contract_run Tryz.func119 k119 rfl ?_
  simp only [body119,b119,res119,b119k0,b119k1,b119k2,b119k3,b119k4,b119k5,b119k6,b119k7,lkE, ↓reduceIte,reduceCtorEq,Nat.reduceEqDiff,Nat.reduceAdd,Nat.reduceMul,Nat.reduceSub,Nat.reduceLeDiff,Nat.reduceBEq,Int.reduceToNat,Int.reduceLE,Int.reduceLT,Int.reduceEq,Int.reduceNe,di]
  unfold chkT
  by_cases h1:l.length<2
  · simp only [if_pos (show (l.length:Int)<2 by omega),if_pos h1, ↓reduceIte,reduceCtorEq,Nat.reduceEqDiff,Nat.reduceAdd,Nat.reduceMul,Nat.reduceSub,Nat.reduceLeDiff,Nat.reduceBEq,Int.reduceToNat,Int.reduceLE,Int.reduceLT,Int.reduceEq,Int.reduceNe,di]
  · by_cases h2 : 10<l.length
    · simp only [if_neg (show ¬ (l.length:Int)<2 by omega),if_pos (show 10<(l.length:Int) by omega),if_neg h1,if_pos h2, ↓reduceIte,reduceCtorEq,Nat.reduceEqDiff,Nat.reduceAdd,Nat.reduceMul,Nat.reduceSub,Nat.reduceLeDiff,Nat.reduceBEq,Int.reduceToNat,Int.reduceLE,Int.reduceLT,Int.reduceEq,Int.reduceNe,di]
    · simp only [if_neg (show ¬ (l.length:Int)<2 by omega),if_neg (show ¬ 10<(l.length:Int) by omega),if_neg h1,if_neg h2, ↓reduceIte,reduceCtorEq,Nat.reduceEqDiff,Nat.reduceAdd,Nat.reduceMul,Nat.reduceSub,Nat.reduceLeDiff,Nat.reduceBEq,Int.reduceToNat,Int.reduceLE,Int.reduceLT,Int.reduceEq,Int.reduceNe,di]
      refine loop_keep (α:=Nat) rfl (fun i=>l.length - i) (fun i=>i≤l.length∧(∀ j,j<i→knotErr l j=0)∧firstE (knotErr l) (l.length - i) i=firstE (knotErr l) l.length 0)
        (fun i=>[(1,.ref 1 0),(4,.imm (.int .i64 i))]) (fun _=>[(1,.box [.imm (.slc 2 (l.map knI))])]) 0 ⟨Nat.zero_le _,fun j hj=>by omega,rfl⟩ (by simp only [↓reduceIte,reduceCtorEq,Nat.reduceEqDiff,Nat.reduceAdd,Nat.reduceMul,Nat.reduceSub,Nat.reduceLeDiff,Nat.reduceBEq,Int.reduceToNat,Int.reduceLE,Int.reduceLT,Int.reduceEq,Int.reduceNe,di] <;> rfl) ?_
      intro i ⟨hi,hb,he⟩ ih
      rw [← he]
      simp only [res119,b119k0,b119k1,b119k2,b119k3,b119k4,b119k5,b119k6,b119k7, ↓reduceIte,reduceCtorEq,Nat.reduceEqDiff,Nat.reduceAdd,Nat.reduceMul,Nat.reduceSub,Nat.reduceLeDiff,Nat.reduceBEq,Int.reduceToNat,Int.reduceLE,Int.reduceLT,Int.reduceEq,Int.reduceNe,di]
      split
      · rename_i h
        have hil:i<l.length:=by omega
        rw [show l.length - i=(l.length - (i+1))+1 by omega,firstE_succ]
        have hnext:knotErr l i=0→firstE (knotErr l) (l.length - (i+1)) (i+1)=firstE (knotErr l) l.length 0:=by
          intro k
          rw [← he,show l.length - i=(l.length - (i+1))+1 by omega,firstE_succ,if_pos k]
        have hbn:knotErr l i=0→∀ j,j<i+1→knotErr l j=0:=by
          intro k j hj
          by_cases e:j=i
          · subst e; exact k
          · exact hb j (by omega)
        repeat (refine And.intro (by omega) ?_)
        simp only [lkE, ↓reduceIte,reduceCtorEq,Nat.reduceEqDiff,Nat.reduceAdd,Nat.reduceMul,Nat.reduceSub,Nat.reduceLeDiff,Nat.reduceBEq,Int.reduceToNat,Int.reduceLE,Int.reduceLT,Int.reduceEq,Int.reduceNe,di]
        refine calls_of c_Within ?_; simp only [lkE,res119,b119k0,b119k1,b119k2,b119k3,b119k4,b119k5,b119k6,b119k7, ↓reduceIte,reduceCtorEq,Nat.reduceEqDiff,Nat.reduceAdd,Nat.reduceMul,Nat.reduceSub,Nat.reduceLeDiff,Nat.reduceBEq,Int.reduceToNat,Int.reduceLE,Int.reduceLT,Int.reduceEq,Int.reduceNe,di]
        have hbad:¬ (Wi (kn l i).1 0 1000000∧Wi (kn l i).2 0 1000000000)→knotErr l i=2:=fun k=>by unfold knotErr; rw [if_pos k]
        split
        · rename_i a1
          refine calls_of c_Within ?_; simp only [lkE,res119,b119k0,b119k1,b119k2,b119k3,b119k4,b119k5,b119k6,b119k7, ↓reduceIte,reduceCtorEq,Nat.reduceEqDiff,Nat.reduceAdd,Nat.reduceMul,Nat.reduceSub,Nat.reduceLeDiff,Nat.reduceBEq,Int.reduceToNat,Int.reduceLE,Int.reduceLT,Int.reduceEq,Int.reduceNe,di]
          split
          · rename_i a2
            split
            · rename_i a3
              have k0:knotErr l i=0:=by unfold knotErr Wi; rw [if_neg (by simp [a1,a2]),if_pos (by omega)]
              rw [if_pos k0,wrap64 (by omega) (by omega)]
              rw [hnext k0]
              refine ih (i+1) _ _ (by omega) ⟨by omega,hbn k0,hnext k0⟩ (by simp only [↓reduceIte,reduceCtorEq,Nat.reduceEqDiff,Nat.reduceAdd,Nat.reduceMul,Nat.reduceSub,Nat.reduceLeDiff,Nat.reduceBEq,Int.reduceToNat,Int.reduceLE,Int.reduceLT,Int.reduceEq,Int.reduceNe,di] <;> rfl)
            · rename_i a3
              have hi0 : 0<i:=by omega
              have e1:IntKind.wrap .i64 ((i:Int) - 1)=((i - 1:Nat):Int):=by rw [wrap64 (by omega) (by omega)]; omega
              have kb1:KB (kn l (i - 1)):=kb_of (hb (i - 1) (by omega))
              have kb2:KB (kn l i):=by unfold KB; omega
              have ke:knotErr l i=if (kn l i).1≤(kn l (i - 1)).1∨(kn l i).2≤(kn l (i - 1)).2 then 9
                  else if 1<i∧((kn l i).2 - (kn l (i - 1)).2) * ((kn l (i - 1)).1 - (kn l (i - 2)).1)<((kn l (i - 1)).2 - (kn l (i - 2)).2) * ((kn l i).1 - (kn l (i - 1)).1) then 22 else 0:=by
                unfold knotErr Wi; rw [if_neg (by simp [a1,a2]),if_neg (by omega)]
              simp only [e1,lkE, ↓reduceIte,reduceCtorEq,Nat.reduceEqDiff,Nat.reduceAdd,Nat.reduceMul,Nat.reduceSub,Nat.reduceLeDiff,Nat.reduceBEq,Int.reduceToNat,Int.reduceLE,Int.reduceLT,Int.reduceEq,Int.reduceNe,di]
              repeat (refine And.intro (by omega) ?_)
              split
              · rename_i a4
                have k9:knotErr l i=9:=ke.trans (if_pos (.inl (by omega)))
                rw [k9,if_neg (by omega)]
              · rename_i a4
                repeat (refine And.intro (by omega) ?_)
                split
                · rename_i a5
                  have k9:knotErr l i=9:=ke.trans (if_pos (.inr (by omega)))
                  rw [k9,if_neg (by omega)]
                · rename_i a5
                  rw [if_neg (show ¬ ((kn l i).1≤(kn l (i - 1)).1∨(kn l i).2≤(kn l (i - 1)).2) by omega)] at ke
                  split
                  · rename_i a6
                    have kb3:KB (kn l (i - 2)):=kb_of (hb (i - 2) (by omega))
                    have hp1:=r_piece (l:=l) (i:=i) hi0 hil hl kb2 kb1 (by unfold dh; omega)
                    have hm:=hb (i - 1) (by omega)
                    have hm1:(kn l (i - 2)).1<(kn l (i - 1)).1:=by
                      have ee:i - 1 - 1=i - 2:=by omega
                      unfold knotErr at hm
                      rw [ee] at hm
                      split at hm
                      · omega
                      · split at hm
                        · omega
                        · split at hm
                          · omega
                          · omega
                    have e2:dh l (i - 1)=(kn l (i - 1)).1 - (kn l (i - 2)).1:=by unfold dh; rw [show i - 1 - 1=i - 2 by omega]
                    have e3:dv l (i - 1)=(kn l (i - 1)).2 - (kn l (i - 2)).2:=by unfold dv; rw [show i - 1 - 1=i - 2 by omega]
                    have kb3':KB (kn l (i - 1 - 1)):=by rw [show i - 1 - 1=i - 2 by omega]; exact kb3
                    have hp2:=r_piece (l:=l) (i:=i - 1) (by omega) (by omega) hl kb1 kb3' (by omega)
                    refine calls_of hp1 ?_; simp only [lkE,res119,b119k0,b119k1,b119k2,b119k3,b119k4,b119k5,b119k6,b119k7, ↓reduceIte,reduceCtorEq,Nat.reduceEqDiff,Nat.reduceAdd,Nat.reduceMul,Nat.reduceSub,Nat.reduceLeDiff,Nat.reduceBEq,Int.reduceToNat,Int.reduceLE,Int.reduceLT,Int.reduceEq,Int.reduceNe,di]
                    simp only [e1]
                    refine calls_of hp2 ?_; simp only [lkE,res119,b119k0,b119k1,b119k2,b119k3,b119k4,b119k5,b119k6,b119k7, ↓reduceIte,reduceCtorEq,Nat.reduceEqDiff,Nat.reduceAdd,Nat.reduceMul,Nat.reduceSub,Nat.reduceLeDiff,Nat.reduceBEq,Int.reduceToNat,Int.reduceLE,Int.reduceLT,Int.reduceEq,Int.reduceNe,di]
                    refine calls_of (c_RatioCmp (fw_piece kb2 kb1 (by unfold dh; omega)) (fw_piece (i:=i - 1) kb1 kb3' (by omega)) (by omega)) ?_; simp only [lkE,res119,b119k0,b119k1,b119k2,b119k3,b119k4,b119k5,b119k6,b119k7, ↓reduceIte,reduceCtorEq,Nat.reduceEqDiff,Nat.reduceAdd,Nat.reduceMul,Nat.reduceSub,Nat.reduceLeDiff,Nat.reduceBEq,Int.reduceToNat,Int.reduceLE,Int.reduceLT,Int.reduceEq,Int.reduceNe,di]
                    have hlt:cmpR (Rat.divInt (dv l i) (dh l i)) (Rat.divInt (dv l (i - 1)) (dh l (i - 1)))<0↔((kn l i).2 - (kn l (i - 1)).2) * ((kn l (i - 1)).1 - (kn l (i - 2)).1)<((kn l (i - 1)).2 - (kn l (i - 2)).2) * ((kn l i).1 - (kn l (i - 1)).1):=by
                      rw [cmpR_neg,rlt (by unfold dh; omega) (by omega),e2,e3]
                      rfl
                    split
                    · rename_i a7
                      rw [if_pos ⟨by omega,hlt.1 a7⟩] at ke
                      rw [ke,if_neg (by omega)]
                    · rename_i a7
                      rw [if_neg (fun k=>a7 (hlt.2 k.2))] at ke
                      rw [if_pos ke,wrap64 (by omega) (by omega),hnext ke]
                      refine ih (i+1) _ _ (by omega) ⟨by omega,hbn ke,hnext ke⟩ (by simp only [↓reduceIte,reduceCtorEq,Nat.reduceEqDiff,Nat.reduceAdd,Nat.reduceMul,Nat.reduceSub,Nat.reduceLeDiff,Nat.reduceBEq,Int.reduceToNat,Int.reduceLE,Int.reduceLT,Int.reduceEq,Int.reduceNe,di] <;> rfl)
                  · rename_i a6
                    rw [if_neg (fun k=>a6 (by have:=k.1; omega))] at ke
                    rw [if_pos ke,wrap64 (by omega) (by omega),hnext ke]
                    refine ih (i+1) _ _ (by omega) ⟨by omega,hbn ke,hnext ke⟩ (by simp only [↓reduceIte,reduceCtorEq,Nat.reduceEqDiff,Nat.reduceAdd,Nat.reduceMul,Nat.reduceSub,Nat.reduceLeDiff,Nat.reduceBEq,Int.reduceToNat,Int.reduceLE,Int.reduceLT,Int.reduceEq,Int.reduceNe,di] <;> rfl)
          · rename_i a2
            rw [hbad (fun k=>a2 k.2),if_neg (by omega)]
        · rename_i a1
          rw [hbad (fun k=>a1 k.1),if_neg (by omega)]
      · rename_i h
        rw [show l.length - i=0 by omega]
        rfl
theorem r_TableErr {l:List Kn} (hl:l.length≤1000000000000):Contract Tryz.prog 33 [tabI l] (.int .i64 (chkT l).2):=by
  refine contract_run Tryz.func33 k33 rfl ?_
  simp only [body33,b33,res33,lkE, ↓reduceIte,reduceCtorEq,Nat.reduceEqDiff,Nat.reduceAdd,Nat.reduceMul,Nat.reduceSub,Nat.reduceLeDiff,Nat.reduceBEq,Int.reduceToNat,Int.reduceLE,Int.reduceLT,Int.reduceEq,Int.reduceNe,di]
  refine calls_of (r_CheckTable hl) ?_; simp only [lkE,res33, ↓reduceIte,reduceCtorEq,Nat.reduceEqDiff,Nat.reduceAdd,Nat.reduceMul,Nat.reduceSub,Nat.reduceLeDiff,Nat.reduceBEq,Int.reduceToNat,Int.reduceLE,Int.reduceLT,Int.reduceEq,Int.reduceNe,di]
end Go.DI


/- The statement TopLakeKept, as a contract. No condition. -/
import Derived.Test.YtaphhpphfffnfaaGreatDoorTkzd
import Derived.Test.YtaphhpphfffnfaaGreatDoorTkze
import Derived.Test.YtaphhpphfffnfaaGreatDoorTkzf
import Derived.Test.YtaphhpphfffnfaaGreatDoorTkzi
set_option linter.unusedSimpArgs false
set_option maxRecDepth 100000
namespace Go.DI
open Go.Proofs Go.RowKit Lk
theorem l_lakeShown:Contract Tryz.prog 42 [] (.bool true):=by
  have h1:Contract Tryz.prog 49 [tabI tabA,.int .i64 1501] (.tup [.agg [.int .i64 125,.int .i64 126],.int .i64 0]):=by
    have h:=p_LevelAt (l:=tabA) (v:=1501) (by decide)
    rw [if_pos (by decide),if_pos (by decide),show levLo tabA 1501=125 by decide,show levHi tabA 1501=126 by decide] at h
    exact h
  have h2:Contract Tryz.prog 113 [lpI pairA,stI (2950,500),flI ⟨0,0,200⟩] (.tup [.agg [.int .i64 3000,.int .i64 295],.agg [.int .i64 15,.int .i64 140],.int .i64 0]):=by
    have h:=p_Step (p:=pairA) (s:=(2950,500)) (x:=⟨0,0,200⟩) sm_A
    rw [show stepO pairA (2950,500) ⟨0,0,200⟩=((3000,295),(15,140),0) by decide] at h
    exact h
  refine contract_run Tryz.func42 k42 rfl ?_
  simp only [body42,b42,res42,lkE, ↓reduceIte,reduceCtorEq,Nat.reduceEqDiff,Nat.reduceAdd,Nat.reduceMul,Nat.reduceSub,Nat.reduceLeDiff,Nat.reduceBEq,Int.reduceToNat,Int.reduceLE,Int.reduceLT,Int.reduceEq,Int.reduceNe,di]
  refine calls_of l_Pair ?_; simp only [lkE,res42, ↓reduceIte,reduceCtorEq,Nat.reduceEqDiff,Nat.reduceAdd,Nat.reduceMul,Nat.reduceSub,Nat.reduceLeDiff,Nat.reduceBEq,Int.reduceToNat,Int.reduceLE,Int.reduceLT,Int.reduceEq,Int.reduceNe,di]
  refine calls_of h2 ?_; simp only [lkE,res42, ↓reduceIte,reduceCtorEq,Nat.reduceEqDiff,Nat.reduceAdd,Nat.reduceMul,Nat.reduceSub,Nat.reduceLeDiff,Nat.reduceBEq,Int.reduceToNat,Int.reduceLE,Int.reduceLT,Int.reduceEq,Int.reduceNe,di]
  refine calls_of l_Table ?_; simp only [lkE,res42, ↓reduceIte,reduceCtorEq,Nat.reduceEqDiff,Nat.reduceAdd,Nat.reduceMul,Nat.reduceSub,Nat.reduceLeDiff,Nat.reduceBEq,Int.reduceToNat,Int.reduceLE,Int.reduceLT,Int.reduceEq,Int.reduceNe,di]
  refine calls_of h1 ?_; simp only [lkE,res42, ↓reduceIte,reduceCtorEq,Nat.reduceEqDiff,Nat.reduceAdd,Nat.reduceMul,Nat.reduceSub,Nat.reduceLeDiff,Nat.reduceBEq,Int.reduceToNat,Int.reduceLE,Int.reduceLT,Int.reduceEq,Int.reduceNe,di]
theorem lastS_at:∀ {A:List Sta} {s:Sta} {n:Nat},A.length=n+1→lastS s A=kn A n
  | [],s,n,h=>by simp at h
  | [t],s,n,h=>by
    have:n=0:=by simpa using h.symm
    subst this
    rfl
  | t :: u :: A,s,n,h=>by
    cases n with
    | zero=>simp at h
    | succ n =>
      have ih := @lastS_at (u :: A) t n (by simpa using h)
      show lastS t (u :: A)=_
      rw [ih]
      rfl
theorem upEx_at {l:List Flow} {i:Nat} (h:i<l.length):(upEx l).getD i 0=(l.getD i default).up+(l.getD i default).ex:=by
  unfold upEx
  rw [List.getD_eq_getElem?_getD,List.getD_eq_getElem?_getD,List.getElem?_map,List.getElem?_eq_getElem h]
  rfl
theorem upLow_at {l:List Flow} {i:Nat} (h:i<l.length):(upLow l).getD i 0=(l.getD i default).up+(l.getD i default).low:=by
  unfold upLow
  rw [List.getD_eq_getElem?_getD,List.getD_eq_getElem?_getD,List.getElem?_map,List.getElem?_eq_getElem h]
  rfl
theorem upLow_bd {l:List Flow} (h:∀ x ∈ l,flowOk x):∀ i:Nat,0≤sumTo (upLow l) i∧sumTo (upLow l) i≤20000000 * i
  | 0=>by simp [sumTo]
  | i+1=>by
    have ih:=upLow_bd h i
    have e1:sumTo (upLow l) (i+1)=sumTo (upLow l) i+(upLow l).getD i 0:=rfl
    by_cases hi:i<l.length
    · have hx:=h (l.getD i default) (by rw [List.getD_eq_getElem?_getD]; simp [hi])
      rw [upLow_at hi] at e1
      unfold flowOk Wi at hx
      omega
    · have:(upLow l).getD i 0=0:=by
        unfold upLow
        rw [List.getD_eq_getElem?_getD,List.getElem?_map,List.getElem?_eq_none (by omega)]
        rfl
      omega
theorem upEx_len {l:List Flow}:(upEx l).length=l.length:=by unfold upEx; rw [List.length_map]
theorem b_CopyReadings {l:List Rdg} (hl:l.length≤1000000000):BC Tryz.prog 53 [.imm (.slc 3 (l.map rdI))] (lookR []) fun r R'=>r = .own 1000∧R'=lookR [(1000,.tok 3 (l.map rdI))]:=by
  refine bc_run Tryz.func53 k1053 rfl rfl ?_
  simp only [body1053,b1053,res1053,lkE, ↓reduceIte,reduceCtorEq,Nat.reduceEqDiff,Nat.reduceAdd,Nat.reduceMul,Nat.reduceSub,Nat.reduceLeDiff,Nat.reduceBEq,Int.reduceToNat,Int.reduceLE,Int.reduceLT,Int.reduceEq,Int.reduceNe,di]
  repeat (refine And.intro (by omega) ?_)
  refine run_ren rfl (by decide) (by decide) (by decide) ?_
  simp only [lkE, ↓reduceIte,reduceCtorEq,Nat.reduceEqDiff,Nat.reduceAdd,Nat.reduceMul,Nat.reduceSub,Nat.reduceLeDiff,Nat.reduceBEq,Int.reduceToNat,Int.reduceLE,Int.reduceLT,Int.reduceEq,Int.reduceNe,di]
  rw [outD_one res1053,getD_tmp]
  exact ⟨_,rfl,rfl,rfl⟩
theorem rdErr_zero {l:List Kn} {n:Int} {rs:List Rdg} (h0 : 0<rs.length) (h1:rs.length≤10) (h:∀ i,i<rs.length→rdgErr l n (rs.getD i default)=0):rdErr l n rs=0:=by
  unfold rdErr
  rw [if_neg (by omega),if_neg (by omega),firstE_ok]
  exact fun j _ hj=>h j (by omega)
theorem allErr_zero {u:List Kn} {l:List Flow} {rs:List Rdg} (hu:Valid u) (hl:l.length≤8) (hn:∀ j,j<l.length→Wi ((upEx l).getD j 0) (-10000000) 10000000) (h:rdErr u l.length rs=0):allErr u (upEx l) rs=0:=by
  unfold allErr
  have hne:netErrP (upEx l)=0:=by
    refine netErrP_ok.2 ⟨by rw [upEx_len]; omega,fun x hx => ?_⟩
    obtain ⟨j,hj,rfl⟩:=List.getElem_of_mem hx
    have:=hn j (by rw [upEx_len] at hj; omega)
    rw [List.getD_eq_getElem?_getD,List.getElem?_eq_getElem hj] at this
    exact this
  rw [if_pos (chkT_ok.2 hu),if_pos hne,upEx_len,h]
theorem gauges_at {u:List Kn} {A:List Sta} {n i:Nat} (h:i<n):(gauges u A n).getD i default=gauge u A i:=by
  unfold gauges
  rw [List.getD_eq_getElem?_getD,List.getElem?_map,List.getElem?_range h]
  rfl
theorem gauges_all {u:List Kn} {l:List Flow} {A:List Sta} {n:Nat} (hu:Valid u) (hl:n=l.length∧l.length≤8) (hn:∀ j,j<l.length→Wi ((upEx l).getD j 0) (-10000000) 10000000)
    (hV:∀ i,i<n+1→isV u (A.getD i default).1):allErr u (upEx l) (gauges u A (n+1))=0:=by
  refine allErr_zero hu hl.2 hn (rdErr_zero (by rw [gauges_len]; omega) (by rw [gauges_len]; omega) fun i hi => ?_)
  rw [gauges_len] at hi
  rw [gauges_at hi,← hl.1]
  exact gauge_ok hu (by omega) (hV i hi)
theorem gauges_more {u:List Kn} {l:List Flow} {A:List Sta} {n:Nat} {h:Int} (hu:Valid u) (hl:n=l.length∧l.length≤8) (hn:∀ j,j<l.length→Wi ((upEx l).getD j 0) (-10000000) 10000000)
    (hV:∀ i,i<n+1→isV u (A.getD i default).1) (hh:isL u h):allErr u (upEx l) (gauges u A (n+1) ++ [(⟨0,h,h⟩ : Rdg)])=0:=by
  have hlen:(gauges u A (n+1) ++ [(⟨0,h,h⟩ : Rdg)]).length=n+2:=by rw [List.length_append,gauges_len]; rfl
  refine allErr_zero hu hl.2 hn (rdErr_zero (by rw [hlen]; omega) (by rw [hlen]; omega) fun i hi => ?_)
  rw [hlen] at hi
  by_cases e:i<n+1
  · rw [List.getD_eq_getElem?_getD,List.getElem?_append_left (by rw [gauges_len]; exact e),← List.getD_eq_getElem?_getD,gauges_at e,← hl.1]
    exact gauge_ok hu (by omega) (hV i e)
  · have:i=n+1:=by omega
    subst this
    rw [List.getD_eq_getElem?_getD,List.getElem?_append_right (by rw [gauges_len]; omega),gauges_len,show n+1 - (n+1)=0 by omega]
    show rdgErr u l.length ⟨0,h,h⟩=0
    unfold rdgErr
    dsimp only
    rw [if_neg (by rw [Decidable.not_not]; exact ⟨⟨by omega,by omega⟩,hh,hh⟩),if_neg (by omega)]
theorem lk_levels {u:List Kn} {s:Sta} {l:List Flow} {A:List Sta} (hu:Valid u) (hl : 0<l.length∧l.length≤8) (hA:A.length=l.length) (hAs:∀ t ∈ A,isV u t.1) (hs:isV u s.1)
    (hvol:∀ i,i≤l.length→((s :: A).getD i default).1=s.1+sumTo (upEx l) i) (hn:∀ j,j<l.length→Wi ((upEx l).getD j 0) (-10000000) 10000000) :
    run Tryz.prog b7k9 [] (d7.post (.bool true)) (mkS [(4,.ref 4 0),(7,.ref 7 0),(11,.imm (.slc 2 (A.map stI))),(14,.own 14)]
      [(4,.box [.imm (.int .i64 s.1),.imm (.int .i64 s.2)]),(7,.box [.imm (.slc 2 (u.map knI))]),(14,.tok 1 ((upEx l).map (.int .i64)))]):=by
  have hV:∀ i,i<l.length+1→isV u ((s :: A).getD i default).1:=by
    intro i hi
    have hm:(s :: A).getD i default ∈ s :: A:=by rw [List.getD_eq_getElem?_getD]; simp [show i<A.length+1 by omega]
    generalize (s :: A).getD i default=t at *
    rcases List.mem_cons.1 hm with rfl | hm
    · exact hs
    · exact hAs t hm
  have hz:=hu.ten
  have hz2:=valid_len hu
  have cu:=r_Copy (l:=u) (by omega)
  have hVl:(s :: A).length=l.length+1:=by rw [List.length_cons]; omega
  have hcons:IV.agg [.int .i64 s.1,.int .i64 s.2] :: A.map stI=(s :: A).map stI:=rfl
  simp only [b7k9,res7,b7k10,b7k11,b7k12,b7k13,b7k14,b7k15,b7k16,lkE, ↓reduceIte,reduceCtorEq,Nat.reduceEqDiff,Nat.reduceAdd,Nat.reduceMul,Nat.reduceSub,Nat.reduceLeDiff,Nat.reduceBEq,Int.reduceToNat,Int.reduceLE,Int.reduceLT,Int.reduceEq,Int.reduceNe,di]
  refine ⟨by omega,by omega,?_⟩
  rw [hcons]
  generalize hVV:s :: A=V at *
  refine loop_keep (α:=Nat) rfl (fun i=>V.length - i) (fun i=>i≤V.length)
    (fun i=>[(4,.ref 4 0),(7,.ref 7 0),(14,.own 14),(17,.own 17),(18,.imm (.slc 2 (V.map stI))),(19,.imm (.int .i64 i))])
    (fun i=>[(4,.box [.imm (.int .i64 s.1),.imm (.int .i64 s.2)]),(7,.box [.imm (.slc 2 (u.map knI))]),(14,.tok 1 ((upEx l).map (.int .i64))),(17,.tok 3 ((gauges u V i).map rdI)),(198,.tok 2 (V.map stI))]) 0 (Nat.zero_le _) (by simp only [lkE, ↓reduceIte,reduceCtorEq,Nat.reduceEqDiff,Nat.reduceAdd,Nat.reduceMul,Nat.reduceSub,Nat.reduceLeDiff,Nat.reduceBEq,Int.reduceToNat,Int.reduceLE,Int.reduceLT,Int.reduceEq,Int.reduceNe,di] <;> rfl) ?_
  intro i hi ih
  simp only [b7k5,b7k4,b7k3,res7,b7k10,b7k11,b7k12,b7k13,b7k14,b7k15,b7k16,lkE, ↓reduceIte,reduceCtorEq,Nat.reduceEqDiff,Nat.reduceAdd,Nat.reduceMul,Nat.reduceSub,Nat.reduceLeDiff,Nat.reduceBEq,Int.reduceToNat,Int.reduceLE,Int.reduceLT,Int.reduceEq,Int.reduceNe,di]
  split
  · rename_i h1
    have hv:=hV i (by omega)
    have hvv:kn V i=V.getD i default:=rfl
    have lv:=p_LevelAt (l:=u) (v:=(V.getD i default).1) (by omega)
    rw [if_pos (chkT_ok.2 hu),if_pos hv] at lv
    obtain ⟨q1,q2,q3,q4⟩:=level_isL hu hv
    have i1:=r_IsLevel (l:=u) (x:=levLo u (V.getD i default).1) hz2.1 hz2.2
    have i2:=r_IsLevel (l:=u) (x:=levHi u (V.getD i default).1) hz2.1 hz2.2
    have hg:gauge u V i=⟨i,levLo u (V.getD i default).1,levHi u (V.getD i default).1⟩:=rfl
    have gs:=gauges_succ (l:=u) (A:=V) (n:=i)
    have gl:=gauges_len (l:=u) (A:=V) (n:=i)
    rw [decide_eq_true q1] at i1
    rw [decide_eq_true q2] at i2
    rw [← hvv] at lv i1 i2 hg
    refine calls_of cu ?_; simp only [lkE,res7,b7k10,b7k11,b7k12,b7k13,b7k14,b7k15,b7k16, ↓reduceIte,reduceCtorEq,Nat.reduceEqDiff,Nat.reduceAdd,Nat.reduceMul,Nat.reduceSub,Nat.reduceLeDiff,Nat.reduceBEq,Int.reduceToNat,Int.reduceLE,Int.reduceLT,Int.reduceEq,Int.reduceNe,di]
    refine ⟨h1,?_⟩
    refine calls_of lv ?_; simp only [lkE,res7,b7k10,b7k11,b7k12,b7k13,b7k14,b7k15,b7k16, ↓reduceIte,reduceCtorEq,Nat.reduceEqDiff,Nat.reduceAdd,Nat.reduceMul,Nat.reduceSub,Nat.reduceLeDiff,Nat.reduceBEq,Int.reduceToNat,Int.reduceLE,Int.reduceLT,Int.reduceEq,Int.reduceNe,di]
    refine calls_of i1 ?_; simp only [lkE,res7,b7k10,b7k11,b7k12,b7k13,b7k14,b7k15,b7k16, ↓reduceIte,reduceCtorEq,Nat.reduceEqDiff,Nat.reduceAdd,Nat.reduceMul,Nat.reduceSub,Nat.reduceLeDiff,Nat.reduceBEq,Int.reduceToNat,Int.reduceLE,Int.reduceLT,Int.reduceEq,Int.reduceNe,di]
    refine calls_of i2 ?_; simp only [lkE,res7,b7k10,b7k11,b7k12,b7k13,b7k14,b7k15,b7k16, ↓reduceIte,reduceCtorEq,Nat.reduceEqDiff,Nat.reduceAdd,Nat.reduceMul,Nat.reduceSub,Nat.reduceLeDiff,Nat.reduceBEq,Int.reduceToNat,Int.reduceLE,Int.reduceLT,Int.reduceEq,Int.reduceNe,di]
    rw [wrap64 (n:=(i:Int)+1) (by omega) (by omega)]
    refine ⟨by omega,by omega,?_⟩
    refine ih (i+1) _ _ (by omega) (by omega) ?_
    rw [gs,hg,List.map_append]
    simp only [lkE, ↓reduceIte,reduceCtorEq,Nat.reduceEqDiff,Nat.reduceAdd,Nat.reduceMul,Nat.reduceSub,Nat.reduceLeDiff,Nat.reduceBEq,Int.reduceToNat,Int.reduceLE,Int.reduceLT,Int.reduceEq,Int.reduceNe,di] <;> rfl
  · rename_i h1
    have:i=V.length:=by omega
    subst this
    clear ih hi h1
    have hA0:=gauges_all (A:=V) (n:=l.length) hu (by omega) hn hV
    have gl:=gauges_len (l:=u) (A:=V) (n:=V.length)
    have hmt:=gauges_meet (net:=upEx l) (v:=s.1) (n:=l.length) hu hV (fun i hi=>hvol i (by omega))
    rw [← hVl] at hA0 hmt
    have ag:=p_AgreedOf (l:=u) (net:=upEx l) (rs:=gauges u V V.length) (by omega) (by rw [upEx_len]; omega)
    rw [if_pos hA0,gl,show V.length - 1=l.length by omega,if_pos (by omega)] at ag
    have ci:=c_CopyInts (a:=upEx l) (by rw [upEx_len]; omega)
    have cr:=r_CopyReadings (l:=gauges u V V.length) (by omega)
    simp only [b7k8,lkE, ↓reduceIte,reduceCtorEq,Nat.reduceEqDiff,Nat.reduceAdd,Nat.reduceMul,Nat.reduceSub,Nat.reduceLeDiff,Nat.reduceBEq,Int.reduceToNat,Int.reduceLE,Int.reduceLT,Int.reduceEq,Int.reduceNe,di]
    refine calls_of cu ?_; simp only [lkE,res7,b7k9,b7k10,b7k11,b7k12,b7k13,b7k14,b7k15,b7k16, ↓reduceIte,reduceCtorEq,Nat.reduceEqDiff,Nat.reduceAdd,Nat.reduceMul,Nat.reduceSub,Nat.reduceLeDiff,Nat.reduceBEq,Int.reduceToNat,Int.reduceLE,Int.reduceLT,Int.reduceEq,Int.reduceNe,di]
    refine calls_of ci ?_; simp only [lkE,res7,b7k9,b7k10,b7k11,b7k12,b7k13,b7k14,b7k15,b7k16, ↓reduceIte,reduceCtorEq,Nat.reduceEqDiff,Nat.reduceAdd,Nat.reduceMul,Nat.reduceSub,Nat.reduceLeDiff,Nat.reduceBEq,Int.reduceToNat,Int.reduceLE,Int.reduceLT,Int.reduceEq,Int.reduceNe,di]
    refine calls_of cr ?_; simp only [lkE,res7,b7k9,b7k10,b7k11,b7k12,b7k13,b7k14,b7k15,b7k16, ↓reduceIte,reduceCtorEq,Nat.reduceEqDiff,Nat.reduceAdd,Nat.reduceMul,Nat.reduceSub,Nat.reduceLeDiff,Nat.reduceBEq,Int.reduceToNat,Int.reduceLE,Int.reduceLT,Int.reduceEq,Int.reduceNe,di]
    generalize meets ((gauges u V V.length).map (perm u (upEx l))) l.length=M at *
    simp only [rnI] at ag
    refine calls_of ag ?_; simp only [lkE,res7,b7k9,b7k10,b7k11,b7k12,b7k13,b7k14,b7k15,b7k16, ↓reduceIte,reduceCtorEq,Nat.reduceEqDiff,Nat.reduceAdd,Nat.reduceMul,Nat.reduceSub,Nat.reduceLeDiff,Nat.reduceBEq,Int.reduceToNat,Int.reduceLE,Int.reduceLT,Int.reduceEq,Int.reduceNe,di]
    refine calls_of c_Within ?_; simp only [lkE,res7,b7k9,b7k10,b7k11,b7k12,b7k13,b7k14,b7k15,b7k16, ↓reduceIte,reduceCtorEq,Nat.reduceEqDiff,Nat.reduceAdd,Nat.reduceMul,Nat.reduceSub,Nat.reduceLeDiff,Nat.reduceBEq,Int.reduceToNat,Int.reduceLE,Int.reduceLT,Int.reduceEq,Int.reduceNe,di]
    rw [if_pos hmt]
    have g0:(gauges u V V.length).getD 0 default=gauge u V 0:=gauges_at (by omega)
    have gh:(gauge u V 0).hi=levHi u (V.getD 0 default).1:=rfl
    have lv0:=(level_isL hu (hV 0 (by omega))).2.1
    have rb:=hu.range (i:=u.length - 1) (by omega)
    have rb0:=hu.range (i:=0) (by omega)
    have il:=r_IsLevel (l:=u) (x:=levHi u (V.getD 0 default).1+1) hz2.1 hz2.2
    have more:=fun hh=>gauges_more (A:=V) (n:=l.length) (h:=levHi u (V.getD 0 default).1+1) hu (by omega) hn hV hh
    have con:=fun hh=>gauges_contra (A:=V) (net:=upEx l) (n:=l.length) hu (hV 0 (by omega)) hh
    rw [← hVl] at more con
    generalize levHi u (V.getD 0 default).1=H at *
    unfold isL Wi bot top at lv0
    have pc:=p_Contradicting (l:=u) (net:=upEx l) (rs:=gauges u V V.length ++ [(⟨0,H+1,H+1⟩ : Rdg)]) (by omega) (by rw [upEx_len]; omega)
    have cl2:=con_len (rs:=(gauges u V V.length ++ [(⟨0,H+1,H+1⟩ : Rdg)]).map (perm u (upEx l)))
    simp only [b7k7,lkE, ↓reduceIte,reduceCtorEq,Nat.reduceEqDiff,Nat.reduceAdd,Nat.reduceMul,Nat.reduceSub,Nat.reduceLeDiff,Nat.reduceBEq,Int.reduceToNat,Int.reduceLE,Int.reduceLT,Int.reduceEq,Int.reduceNe,di]
    rw [g0,gh,wrap64 (n:=H+1) (by omega) (by omega)]
    refine ⟨by omega,?_⟩
    refine calls_of il ?_; simp only [lkE,res7,b7k8,b7k9,b7k10,b7k11,b7k12,b7k13,b7k14,b7k15,b7k16, ↓reduceIte,reduceCtorEq,Nat.reduceEqDiff,Nat.reduceAdd,Nat.reduceMul,Nat.reduceSub,Nat.reduceLeDiff,Nat.reduceBEq,Int.reduceToNat,Int.reduceLE,Int.reduceLT,Int.reduceEq,Int.reduceNe,di]
    split
    · rename_i hh
      have c0:=con hh
      rw [if_pos (more hh),if_neg c0] at pc
      simp only [b7k6,lkE, ↓reduceIte,reduceCtorEq,Nat.reduceEqDiff,Nat.reduceAdd,Nat.reduceMul,Nat.reduceSub,Nat.reduceLeDiff,Nat.reduceBEq,Int.reduceToNat,Int.reduceLE,Int.reduceLT,Int.reduceEq,Int.reduceNe,di]
      refine do_lend rfl (by rw [restr_nil]; exact b_CopyReadings (l:=gauges u V V.length) (by omega)) rfl rfl ?_
      rintro x R' ⟨rfl,rfl⟩
      refine ⟨_,rfl,rfl,?_⟩
      simp only [res7,b7k7,b7k8,b7k9,b7k10,b7k11,b7k12,b7k13,b7k14,b7k15,b7k16,lkE, ↓reduceIte,reduceCtorEq,Nat.reduceEqDiff,Nat.reduceAdd,Nat.reduceMul,Nat.reduceSub,Nat.reduceLeDiff,Nat.reduceBEq,Int.reduceToNat,Int.reduceLE,Int.reduceLT,Int.reduceEq,Int.reduceNe,di]
      have pc2:=pc
      rw [List.map_append (f:=rdI)] at pc2
      simp only [List.map_cons,List.map_nil,rdI] at pc2
      have hc:contra ((gauges u V V.length ++ [(⟨0,H+1,H+1⟩ : Rdg)]).map (perm u (upEx l)))=[]↔conI ((gauges u V V.length ++ [(⟨0,H+1,H+1⟩ : Rdg)]).map (perm u (upEx l)))=[]:=by
        unfold conI
        exact List.map_eq_nil_iff.symm
      have c1:conI ((gauges u V V.length ++ [(⟨0,H+1,H+1⟩ : Rdg)]).map (perm u (upEx l))) ≠ []:=fun k=>c0 (hc.2 k)
      clear hc c0
      generalize conI ((gauges u V V.length ++ [(⟨0,H+1,H+1⟩ : Rdg)]).map (perm u (upEx l)))=C at *
      have cpos:=List.length_pos_iff.2 c1
      refine ⟨by omega,by omega,?_⟩
      refine calls_of cu ?_; simp only [lkE,res7,b7k7,b7k8,b7k9,b7k10,b7k11,b7k12,b7k13,b7k14,b7k15,b7k16, ↓reduceIte,reduceCtorEq,Nat.reduceEqDiff,Nat.reduceAdd,Nat.reduceMul,Nat.reduceSub,Nat.reduceLeDiff,Nat.reduceBEq,Int.reduceToNat,Int.reduceLE,Int.reduceLT,Int.reduceEq,Int.reduceNe,di]
      refine calls_of ci ?_; simp only [lkE,res7,b7k7,b7k8,b7k9,b7k10,b7k11,b7k12,b7k13,b7k14,b7k15,b7k16, ↓reduceIte,reduceCtorEq,Nat.reduceEqDiff,Nat.reduceAdd,Nat.reduceMul,Nat.reduceSub,Nat.reduceLeDiff,Nat.reduceBEq,Int.reduceToNat,Int.reduceLE,Int.reduceLT,Int.reduceEq,Int.reduceNe,di]
      refine calls_of pc2 ?_; simp only [lkE,res7,b7k7,b7k8,b7k9,b7k10,b7k11,b7k12,b7k13,b7k14,b7k15,b7k16, ↓reduceIte,reduceCtorEq,Nat.reduceEqDiff,Nat.reduceAdd,Nat.reduceMul,Nat.reduceSub,Nat.reduceLeDiff,Nat.reduceBEq,Int.reduceToNat,Int.reduceLE,Int.reduceLT,Int.reduceEq,Int.reduceNe,di]
      refine calls_of c_Within ?_; simp only [lkE,res7,b7k7,b7k8,b7k9,b7k10,b7k11,b7k12,b7k13,b7k14,b7k15,b7k16, ↓reduceIte,reduceCtorEq,Nat.reduceEqDiff,Nat.reduceAdd,Nat.reduceMul,Nat.reduceSub,Nat.reduceLeDiff,Nat.reduceBEq,Int.reduceToNat,Int.reduceLE,Int.reduceLT,Int.reduceEq,Int.reduceNe,di]
      rw [decide_eq_true (by omega)]
    · trivial
theorem lk_sums {u w:List Kn} {s:Sta} {l:List Flow} {A:List Sta} {F:Int} (hp:VPair ⟨u,w,0⟩) (hst:stOk ⟨u,w,0⟩ s) (hf:∀ x ∈ l,flowOk x) (hl : 0<l.length∧l.length≤8) (hA:A.length=l.length)
    (hAs:∀ t ∈ A,stOk ⟨u,w,0⟩ t) (hF : 0≤F∧F≤16000000000) (hbal:(lastS s A).1+(lastS s A).2+F=s.1+s.2+sumTo (upLow l) l.length)
    (hvol:F=0→∀ i,i≤l.length→((s :: A).getD i default).1=s.1+sumTo (upEx l) i) :
    run Tryz.prog b7k12 [] (d7.post (.bool true)) (mkS [(2,.imm (.slc 3 (l.map flI))),(3,.ref 3 0),(4,.ref 4 0),(7,.ref 7 0),(11,.imm (.slc 2 (A.map stI))),(12,.ref 12 0)]
      [(3,.box [.imm (.slc 2 (u.map knI)),.imm (.slc 2 (w.map knI)),.imm (.int .i64 0)]),(4,.box [.imm (.int .i64 s.1),.imm (.int .i64 s.2)]),(7,.box [.imm (.slc 2 (u.map knI))]),(12,.box [.imm (.int .i64 0),.imm (.int .i64 F)])]):=by
  simp only [b7k12,res7,b7k13,b7k14,b7k15,b7k16,lkE, ↓reduceIte,reduceCtorEq,Nat.reduceEqDiff,Nat.reduceAdd,Nat.reduceMul,Nat.reduceSub,Nat.reduceLeDiff,Nat.reduceBEq,Int.reduceToNat,Int.reduceLE,Int.reduceLT,Int.reduceEq,Int.reduceNe,di]
  refine loop_keep (α:=Nat) rfl (fun i=>l.length - i) (fun i=>i≤l.length∧∀ j,j<i→Wi ((upEx l).getD j 0) (-10000000) 10000000)
    (fun i=>[(2,.imm (.slc 3 (l.map flI))),(3,.ref 3 0),(4,.ref 4 0),(7,.ref 7 0),(11,.imm (.slc 2 (A.map stI))),(12,.ref 12 0),(13,.imm (.int .i64 (sumTo (upLow l) i))),(14,.own 14),(15,.imm (.int .i64 i))])
    (fun i=>[(3,.box [.imm (.slc 2 (u.map knI)),.imm (.slc 2 (w.map knI)),.imm (.int .i64 0)]),(4,.box [.imm (.int .i64 s.1),.imm (.int .i64 s.2)]),(7,.box [.imm (.slc 2 (u.map knI))]),(12,.box [.imm (.int .i64 0),.imm (.int .i64 F)]),(14,.tok 1 (((upEx l).take i).map (.int .i64)))]) 0 ⟨Nat.zero_le _,fun j hj=>by omega⟩ (by simp only [lkE, ↓reduceIte,reduceCtorEq,Nat.reduceEqDiff,Nat.reduceAdd,Nat.reduceMul,Nat.reduceSub,Nat.reduceLeDiff,Nat.reduceBEq,Int.reduceToNat,Int.reduceLE,Int.reduceLT,Int.reduceEq,Int.reduceNe,di] <;> rfl) ?_
  intro i ⟨hi,he⟩ ih
  simp only [b7k2,b7k1,b7k0,res7,b7k13,b7k14,b7k15,b7k16,lkE, ↓reduceIte,reduceCtorEq,Nat.reduceEqDiff,Nat.reduceAdd,Nat.reduceMul,Nat.reduceSub,Nat.reduceLeDiff,Nat.reduceBEq,Int.reduceToNat,Int.reduceLE,Int.reduceLT,Int.reduceEq,Int.reduceNe,di]
  split
  · rename_i h1
    have hx:flowOk (l.getD i default):=hf _ (by rw [List.getD_eq_getElem?_getD]; simp [show i<l.length by omega])
    have ex:=upEx_at (l:=l) (i:=i) (by omega)
    have lx:=upLow_at (l:=l) (i:=i) (by omega)
    have tk:=take_snoc (l:=upEx l) (i:=i) (d:=0) (by unfold upEx; rw [List.length_map]; omega)
    have sb:=upLow_bd hf i
    have e1:sumTo (upLow l) (i+1)=sumTo (upLow l) i+(upLow l).getD i 0:=rfl
    have ih':=ih (i+1)
    repeat (refine And.intro (by omega) ?_)
    generalize hxx:l.getD i default=x at *
    unfold flowOk Wi at hx
    rw [wrap64 (n:=x.up+x.ex) (by omega) (by omega)]
    refine calls_of c_Within ?_; simp only [lkE,res7,b7k13,b7k14,b7k15,b7k16, ↓reduceIte,reduceCtorEq,Nat.reduceEqDiff,Nat.reduceAdd,Nat.reduceMul,Nat.reduceSub,Nat.reduceLeDiff,Nat.reduceBEq,Int.reduceToNat,Int.reduceLE,Int.reduceLT,Int.reduceEq,Int.reduceNe,di]
    split
    · rename_i h2
      repeat (refine And.intro (by omega) ?_)
      rw [hxx,wrap64 (n:=sumTo (upLow l) i+x.up) (by omega) (by omega),wrap64 (n:=sumTo (upLow l) i+x.up+x.low) (by omega) (by omega),wrap64 (n:=x.up+x.ex) (by omega) (by omega),wrap64 (n:=(i:Int)+1) (by omega) (by omega)]
      have tl:(List.take i (upEx l)).length≤8:=by rw [List.length_take]; omega
      refine ⟨by omega,by omega,?_⟩
      refine ih' _ _ (by omega) ⟨by omega,fun j hj => ?_⟩ ?_
      · by_cases e:j=i
        · subst e; rw [ex]; exact h2
        · exact he j (by omega)
      · rw [tk,ex,e1,lx,← Int.add_assoc]
        simp only [lkE, ↓reduceIte,reduceCtorEq,Nat.reduceEqDiff,Nat.reduceAdd,Nat.reduceMul,Nat.reduceSub,Nat.reduceLeDiff,Nat.reduceBEq,Int.reduceToNat,Int.reduceLE,Int.reduceLT,Int.reduceEq,Int.reduceNe,di] <;> rfl
    · trivial
  · rename_i h1
    have:i=l.length:=by omega
    subst this
    have hl0:lastS s A=kn A (l.length - 1):=lastS_at (by omega)
    have hm:kn A (l.length - 1) ∈ A:=by unfold kn; rw [List.getD_eq_getElem?_getD]; simp [show l.length - 1<A.length by omega]
    have hlast:=hAs _ hm
    have se:=r_StateErr (p:=⟨u,w,0⟩) (s:=kn A (l.length - 1)) hp
    rw [if_pos hlast] at se
    have sb:=upLow_bd hf l.length
    have b1:=isV_bd hp.u hlast.1
    have b2:=isV_bd hp.l hlast.2
    have b3:=isV_bd hp.u hst.1
    have b4:=isV_bd hp.l hst.2
    rw [hl0] at hbal
    simp only [b7k11,lkE, ↓reduceIte,reduceCtorEq,Nat.reduceEqDiff,Nat.reduceAdd,Nat.reduceMul,Nat.reduceSub,Nat.reduceLeDiff,Nat.reduceBEq,Int.reduceToNat,Int.reduceLE,Int.reduceLT,Int.reduceEq,Int.reduceNe,di]
    rw [wrap64 (n:=(A.length:Int) - 1) (by omega) (by omega),show ((A.length:Int) - 1).toNat=l.length - 1 by omega]
    generalize kn A (l.length - 1)=z at *
    refine ⟨by omega,by omega,?_⟩
    refine calls_of se ?_; simp only [lkE,res7,b7k12,b7k13,b7k14,b7k15,b7k16, ↓reduceIte,reduceCtorEq,Nat.reduceEqDiff,Nat.reduceAdd,Nat.reduceMul,Nat.reduceSub,Nat.reduceLeDiff,Nat.reduceBEq,Int.reduceToNat,Int.reduceLE,Int.reduceLT,Int.reduceEq,Int.reduceNe,di]
    rw [wrap64 (n:=z.1+z.2) (by omega) (by omega),wrap64 (n:=z.1+z.2+F) (by omega) (by omega),wrap64 (n:=s.1+s.2) (by omega) (by omega),wrap64 (n:=s.1+s.2+sumTo (upLow l) l.length) (by omega) (by omega),if_pos hbal]
    simp only [b7k10,lkE, ↓reduceIte,reduceCtorEq,Nat.reduceEqDiff,Nat.reduceAdd,Nat.reduceMul,Nat.reduceSub,Nat.reduceLeDiff,Nat.reduceBEq,Int.reduceToNat,Int.reduceLE,Int.reduceLT,Int.reduceEq,Int.reduceNe,di]
    by_cases hF0 : 0<F
    · rw [if_pos hF0]
      trivial
    · rw [if_neg hF0,List.take_of_length_le (by rw [upEx_len]; omega)]
      exact lk_levels hp.u hl hA (fun t ht=>(hAs t ht).1) hst.1 (hvol (by omega)) he
theorem l_TopLakeKept {p:Pair} {s:Sta} {l:List Flow} (hu:KnB p.u) (hb:FlB l):Contract Tryz.prog 7 [lpI p,stI s,.slc 3 (l.map flI)] (.bool true):=by
  refine contract_run Tryz.func7 k7 rfl ?_
  simp only [body7,b7,res7,lkE, ↓reduceIte,reduceCtorEq,Nat.reduceEqDiff,Nat.reduceAdd,Nat.reduceMul,Nat.reduceSub,Nat.reduceLeDiff,Nat.reduceBEq,Int.reduceToNat,Int.reduceLE,Int.reduceLT,Int.reduceEq,Int.reduceNe,di]
  refine calls_of l_lakeShown ?_; simp only [lkE,res7, ↓reduceIte,reduceCtorEq,Nat.reduceEqDiff,Nat.reduceAdd,Nat.reduceMul,Nat.reduceSub,Nat.reduceLeDiff,Nat.reduceBEq,Int.reduceToNat,Int.reduceLE,Int.reduceLT,Int.reduceEq,Int.reduceNe,di]
  simp only [b7k16,lkE, ↓reduceIte,reduceCtorEq,Nat.reduceEqDiff,Nat.reduceAdd,Nat.reduceMul,Nat.reduceSub,Nat.reduceLeDiff,Nat.reduceBEq,Int.reduceToNat,Int.reduceLE,Int.reduceLT,Int.reduceEq,Int.reduceNe,di]
  refine calls_of l_FewPair ?_; simp only [lkE,res7, ↓reduceIte,reduceCtorEq,Nat.reduceEqDiff,Nat.reduceAdd,Nat.reduceMul,Nat.reduceSub,Nat.reduceLeDiff,Nat.reduceBEq,Int.reduceToNat,Int.reduceLE,Int.reduceLT,Int.reduceEq,Int.reduceNe,di]
  by_cases h0:p.u.length≤12∧p.l.length≤12
  case neg =>
    simp only [h0,lkE, ↓reduceIte,reduceCtorEq,Nat.reduceEqDiff,Nat.reduceAdd,Nat.reduceMul,Nat.reduceSub,Nat.reduceLeDiff,Nat.reduceBEq,Int.reduceToNat,Int.reduceLE,Int.reduceLT,Int.reduceEq,Int.reduceNe,di]
    all_goals (rw [if_neg (fun k=>k.1)]; trivial)
  simp only [h0,lkE, ↓reduceIte,reduceCtorEq,Nat.reduceEqDiff,Nat.reduceAdd,Nat.reduceMul,Nat.reduceSub,Nat.reduceLeDiff,Nat.reduceBEq,Int.reduceToNat,Int.reduceLE,Int.reduceLT,Int.reduceEq,Int.reduceNe,di]
  by_cases h8:¬ (l.length:Int)=0∧¬ 8<(l.length:Int)
  case neg =>
    rw [if_neg h8]
    trivial
  rw [if_pos h8]
  have hsm:Sm p:=⟨by omega,by omega⟩
  refine calls_of (r_BothErr hsm) ?_; simp only [lkE,res7, ↓reduceIte,reduceCtorEq,Nat.reduceEqDiff,Nat.reduceAdd,Nat.reduceMul,Nat.reduceSub,Nat.reduceLeDiff,Nat.reduceBEq,Int.reduceToNat,Int.reduceLE,Int.reduceLT,Int.reduceEq,Int.reduceNe,di]
  by_cases hE:bothErr p s=0
  case neg =>
    simp only [hE,lkE, ↓reduceIte,reduceCtorEq,Nat.reduceEqDiff,Nat.reduceAdd,Nat.reduceMul,Nat.reduceSub,Nat.reduceLeDiff,Nat.reduceBEq,Int.reduceToNat,Int.reduceLE,Int.reduceLT,Int.reduceEq,Int.reduceNe,di]
    all_goals (rw [if_neg (fun k=>k.1)]; trivial)
  simp only [hE,lkE, ↓reduceIte,reduceCtorEq,Nat.reduceEqDiff,Nat.reduceAdd,Nat.reduceMul,Nat.reduceSub,Nat.reduceLeDiff,Nat.reduceBEq,Int.reduceToNat,Int.reduceLE,Int.reduceLT,Int.reduceEq,Int.reduceNe,di]
  refine calls_of (r_ListErr (l:=l) (by omega)) ?_; simp only [lkE,res7, ↓reduceIte,reduceCtorEq,Nat.reduceEqDiff,Nat.reduceAdd,Nat.reduceMul,Nat.reduceSub,Nat.reduceLeDiff,Nat.reduceBEq,Int.reduceToNat,Int.reduceLE,Int.reduceLT,Int.reduceEq,Int.reduceNe,di]
  by_cases hL:listErr l=0
  case neg =>
    simp only [hL,lkE, ↓reduceIte,reduceCtorEq,Nat.reduceEqDiff,Nat.reduceAdd,Nat.reduceMul,Nat.reduceSub,Nat.reduceLeDiff,Nat.reduceBEq,Int.reduceToNat,Int.reduceLE,Int.reduceLT,Int.reduceEq,Int.reduceNe,di]
    all_goals (rw [if_neg (fun k=>k.1)]; trivial)
  simp only [hL,lkE, ↓reduceIte,reduceCtorEq,Nat.reduceEqDiff,Nat.reduceAdd,Nat.reduceMul,Nat.reduceSub,Nat.reduceLeDiff,Nat.reduceBEq,Int.reduceToNat,Int.reduceLE,Int.reduceLT,Int.reduceEq,Int.reduceNe,di]
  obtain ⟨hv,hst⟩:=bothErr_ok.1 hE
  have hp0:VPair (⟨p.u,p.l,0⟩ : Pair):=⟨hv.u,hv.l,(by decide:Wi 0 0 1000)⟩
  have hE0:bothErr ⟨p.u,p.l,0⟩ s=0:=bothErr_ok.2 ⟨hp0,hst⟩
  have ru:=p_RunOf (p:=⟨p.u,p.l,0⟩) (s:=s) (l:=l) ⟨by show p.u.length≤_; omega,by show p.l.length≤_; omega⟩ (by omega)
  rw [if_pos hE0,if_pos hL] at ru
  have cu:=r_Copy (l:=p.u) (by omega)
  have fu:=p_FormatTable hu (by omega)
  have pu:=p_ParseTable (s:=fmtT p.u) (Nat.le_trans (fmtRows_size (kn_rows hu (by omega)) (by rw [List.length_map]; omega)) (by decide))
  rw [parse_tab hu hv.u] at pu
  have cl:=r_CopyList (l:=l) (by omega)
  have fl:=p_FormatFlows hb (by omega)
  have pf:=p_ParseFlows (s:=fmtF l) (Nat.le_trans (fmtRows_size (fl_rows hb (by omega)) (by rw [List.length_map]; omega)) (by decide))
  rw [parse_fl hb hL] at pf
  have su:=r_Same (a:=p.u) (b:=p.u) (by omega)
  have sl:=r_SameList (a:=l) (b:=l) (by omega)
  have cp:=r_CopyPair (p:=⟨p.u,p.l,0⟩) (by show p.u.length≤_; omega) (by show p.l.length≤_; omega)
  simp only [b7k15,lkE, ↓reduceIte,reduceCtorEq,Nat.reduceEqDiff,Nat.reduceAdd,Nat.reduceMul,Nat.reduceSub,Nat.reduceLeDiff,Nat.reduceBEq,Int.reduceToNat,Int.reduceLE,Int.reduceLT,Int.reduceEq,Int.reduceNe,di]
  refine calls_of cu ?_; simp only [lkE,res7,b7k16, ↓reduceIte,reduceCtorEq,Nat.reduceEqDiff,Nat.reduceAdd,Nat.reduceMul,Nat.reduceSub,Nat.reduceLeDiff,Nat.reduceBEq,Int.reduceToNat,Int.reduceLE,Int.reduceLT,Int.reduceEq,Int.reduceNe,di]
  refine calls_of fu ?_; simp only [lkE,res7,b7k16, ↓reduceIte,reduceCtorEq,Nat.reduceEqDiff,Nat.reduceAdd,Nat.reduceMul,Nat.reduceSub,Nat.reduceLeDiff,Nat.reduceBEq,Int.reduceToNat,Int.reduceLE,Int.reduceLT,Int.reduceEq,Int.reduceNe,di]
  refine calls_of pu ?_; simp only [lkE,res7,b7k16, ↓reduceIte,reduceCtorEq,Nat.reduceEqDiff,Nat.reduceAdd,Nat.reduceMul,Nat.reduceSub,Nat.reduceLeDiff,Nat.reduceBEq,Int.reduceToNat,Int.reduceLE,Int.reduceLT,Int.reduceEq,Int.reduceNe,di]
  refine calls_of cl ?_; simp only [lkE,res7,b7k16, ↓reduceIte,reduceCtorEq,Nat.reduceEqDiff,Nat.reduceAdd,Nat.reduceMul,Nat.reduceSub,Nat.reduceLeDiff,Nat.reduceBEq,Int.reduceToNat,Int.reduceLE,Int.reduceLT,Int.reduceEq,Int.reduceNe,di]
  refine calls_of fl ?_; simp only [lkE,res7,b7k16, ↓reduceIte,reduceCtorEq,Nat.reduceEqDiff,Nat.reduceAdd,Nat.reduceMul,Nat.reduceSub,Nat.reduceLeDiff,Nat.reduceBEq,Int.reduceToNat,Int.reduceLE,Int.reduceLT,Int.reduceEq,Int.reduceNe,di]
  refine calls_of pf ?_; simp only [lkE,res7,b7k16, ↓reduceIte,reduceCtorEq,Nat.reduceEqDiff,Nat.reduceAdd,Nat.reduceMul,Nat.reduceSub,Nat.reduceLeDiff,Nat.reduceBEq,Int.reduceToNat,Int.reduceLE,Int.reduceLT,Int.reduceEq,Int.reduceNe,di]
  refine calls_of su ?_; simp only [lkE,res7,b7k16, ↓reduceIte,reduceCtorEq,Nat.reduceEqDiff,Nat.reduceAdd,Nat.reduceMul,Nat.reduceSub,Nat.reduceLeDiff,Nat.reduceBEq,Int.reduceToNat,Int.reduceLE,Int.reduceLT,Int.reduceEq,Int.reduceNe,di]
  refine calls_of sl ?_; simp only [lkE,res7,b7k16, ↓reduceIte,reduceCtorEq,Nat.reduceEqDiff,Nat.reduceAdd,Nat.reduceMul,Nat.reduceSub,Nat.reduceLeDiff,Nat.reduceBEq,Int.reduceToNat,Int.reduceLE,Int.reduceLT,Int.reduceEq,Int.reduceNe,di]
  simp only [b7k14,lkE, ↓reduceIte,reduceCtorEq,Nat.reduceEqDiff,Nat.reduceAdd,Nat.reduceMul,Nat.reduceSub,Nat.reduceLeDiff,Nat.reduceBEq,Int.reduceToNat,Int.reduceLE,Int.reduceLT,Int.reduceEq,Int.reduceNe,di]
  refine calls_of cp ?_; simp only [lkE,res7,b7k15,b7k16, ↓reduceIte,reduceCtorEq,Nat.reduceEqDiff,Nat.reduceAdd,Nat.reduceMul,Nat.reduceSub,Nat.reduceLeDiff,Nat.reduceBEq,Int.reduceToNat,Int.reduceLE,Int.reduceLT,Int.reduceEq,Int.reduceNe,di]
  cases hok:(runP (⟨p.u,p.l,0⟩ : Pair) s l).2.2 with
  | false =>
    rw [hok,if_neg (by decide)] at ru
    refine calls_of ru ?_; simp only [lkE,res7,b7k15,b7k16, ↓reduceIte,reduceCtorEq,Nat.reduceEqDiff,Nat.reduceAdd,Nat.reduceMul,Nat.reduceSub,Nat.reduceLeDiff,Nat.reduceBEq,Int.reduceToNat,Int.reduceLE,Int.reduceLT,Int.reduceEq,Int.reduceNe,di]
  | true =>
    rw [hok,if_pos rfl] at ru
    have hf:=(listErr_ok.1 hL).2
    have rd:=run_dry hp0 rfl hst hf hok
    have rn:=(runP_len (p:=(⟨p.u,p.l,0⟩ : Pair)) (s:=s) (l:=l)).2 hok
    have rs:=runP_spec hp0 hst hf
    rw [rd.1] at ru
    generalize (runP (⟨p.u,p.l,0⟩ : Pair) s l).1=A at *
    generalize (runP (⟨p.u,p.l,0⟩ : Pair) s l).2.1.2=F at *
    have hF : 0≤F∧F≤16000000000:=by omega
    refine calls_of ru ?_; simp only [lkE,res7,b7k15,b7k16, ↓reduceIte,reduceCtorEq,Nat.reduceEqDiff,Nat.reduceAdd,Nat.reduceMul,Nat.reduceSub,Nat.reduceLeDiff,Nat.reduceBEq,Int.reduceToNat,Int.reduceLE,Int.reduceLT,Int.reduceEq,Int.reduceNe,di]
    simp only [b7k13,lkE, ↓reduceIte,reduceCtorEq,Nat.reduceEqDiff,Nat.reduceAdd,Nat.reduceMul,Nat.reduceSub,Nat.reduceLeDiff,Nat.reduceBEq,Int.reduceToNat,Int.reduceLE,Int.reduceLT,Int.reduceEq,Int.reduceNe,di]
    rw [if_pos (show (A.length:Int)=l.length by omega)]
    refine calls_of c_Within ?_; simp only [lkE,res7,b7k14,b7k15,b7k16, ↓reduceIte,reduceCtorEq,Nat.reduceEqDiff,Nat.reduceAdd,Nat.reduceMul,Nat.reduceSub,Nat.reduceLeDiff,Nat.reduceBEq,Int.reduceToNat,Int.reduceLE,Int.reduceLT,Int.reduceEq,Int.reduceNe,di]
    rw [if_pos hF]
    exact lk_sums hp0 hst hf (by omega) rn rs.1 hF rd.2.2.1 rd.2.2.2
end Go.DI


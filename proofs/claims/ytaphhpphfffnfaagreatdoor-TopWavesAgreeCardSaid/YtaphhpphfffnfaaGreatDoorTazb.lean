/- Contracts: the state of an oscillation at a tick. No condition. -/
import Derived.Test.YtaphhpphfffnfaaGreatDoorTaz
import Derived.Test.YtaphhpphfffnfaaGreatDoorTaza
set_option linter.unusedSimpArgs false
set_option maxRecDepth 100000
namespace Go.DI
open Go.Proofs Go.RowKit
theorem agg_cpx {k:FloatKind} {a b:Nat}:(IV.cpx k a b).isAgg=false:=rfl
theorem tup_cpx {k:FloatKind} {a b:Nat}:(IV.cpx k a b).isTup=false:=rfl
def reL (p:Int) (l:List Ga):List Int:=l.map fun g=>(gmul (turnG p) g).1
def allG (s:Sty):List Ga:=s.F ++ s.B ++ s.L ++ [s.c]
def prtE (l:List Ga):Int:=if l.all (fun g=>decide (partOk g)) then 0 else 2
def tickE (t:Int):Int:=if 0≤t∧t≤1000000000000 then 0 else 2
def shpE (x:Ow) (s:Sty):Int:=if ((s.F.length:Int)=x.n∧(s.B.length:Int)=x.n)∧s.L.length=x.ar.length then 0 else 10
def stdE (x:Ln) (s:Sty):Int:=fstE (fstE (fstE (chkL x).2 (quarterE s.q)) (shpE (opnE x) s)) (prtE (allG s))
def FewG (s:Sty):Prop:=s.F.length≤1000000∧s.B.length≤1000000∧s.L.length≤1000000
def lis4 (s:Sty):List (List Ga):=[s.F,s.B,s.L,[s.c]]
def pre4 (s:Sty) (k:Nat):List Ga:=((lis4 s).take k).flatten
theorem pre4_end {s:Sty}:pre4 s 4=allG s:=by simp [pre4,lis4,allG]
theorem pre4_step {s:Sty} {k:Nat} (h:k<4):pre4 s (k+1)=pre4 s k ++ (lis4 s).getD k []:=by
 have:k=0∨k=1∨k=2∨k=3:=by omega
 rcases this with rfl | rfl | rfl | rfl <;> simp [pre4,lis4]
theorem prtE_snoc {e:Int} {m:List Ga} {g:Ga}:fstE (fstE e (prtE m)) (if partOk g then 0 else 2)=fstE e (prtE (m ++ [g])):=by
 unfold prtE fstE
 rw [List.all_append]
 by_cases h1:(m.all fun g=>decide (partOk g))=true <;> by_cases h2:partOk g <;> by_cases h3:e=0 <;> simp [h1,h2,h3]
theorem lis4_len {s:Sty} (hs:FewG s) (k:Nat):((lis4 s).getD k []).length≤1000000:=by
 obtain ⟨h1,h2,h3⟩:=hs
 rcases (show k=0∨k=1∨k=2∨k=3∨4≤k by omega) with rfl | rfl | rfl | rfl | h
 ·exact h1
 ·exact h2
 ·exact h3
 ·show [s.c].length≤_; simp
 ·rw [List.getD_eq_getElem?_getD,List.getElem?_eq_none (by simpa [lis4] using h)]; decide
theorem prtE_zero {l:List Ga}:prtE l=0↔∀ g ∈ l,partOk g:=by
 unfold prtE
 constructor
 ·intro h
  split at h
  ·rename_i hc; simpa using hc
  ·omega
 ·intro h
  rw [if_pos (by simpa using h)]
def satE (x:Ln) (s:Sty) (t:Int):Int:=fstE (stdE x s) (tickE t)
def satP (s:Sty) (t:Int):Int:=s.q * (t % 4)
def satS (s:Sty) (t:Int):Ws:=⟨reL (satP s t) s.F,reL (satP s t) s.B,reL (satP s t) s.L⟩
def satZ (x:Ln) (s:Sty) (t:Int):Ws:=if satE x s t=0 then satS s t else emptyS
def satC (x:Ln) (s:Sty) (t:Int):Int:=if satE x s t=0 then (gmul (turnG (satP s t)) s.c).1 else 0
theorem firstNZ_three {a b c:Int}:firstNZ [a,b,c]=fstE (fstE a b) c:=by
 unfold fstE
 by_cases h1:a=0 <;> by_cases h2:b=0 <;> by_cases h3:c=0 <;> simp [firstNZ,h1,h2,h3]
theorem tickE_zero {t:Int}:tickE t=0↔0≤t∧t≤1000000000000:=by
 unfold tickE
 rw [ite_zero (by decide)]
theorem part_nrm {g:Ga} (h:partOk g):nrm g≤2000000:=by
 unfold partOk at h; unfold nrm; omega
theorem w_parts {p:Int} {l:List Ga} (hl:l.length≤1000000) (hp:∀ g ∈ l,partOk g):Contract Tryz.prog 149 [.slc 2 (l.map gI),.ptr (.agg [.cpx .f64 (turnA p) (turnB p)])] (nI (reL p l)):=by
 refine contract_run Tryz.func149 k149 rfl ?_
 simp only [body149,b149,res149,b149k0,b149k1,vaE, ↓reduceIte,reduceCtorEq,Nat.reduceEqDiff,Nat.reduceAdd,Nat.reduceMul,Nat.reduceSub,Nat.reduceLeDiff,Nat.reduceBEq,Int.reduceToNat,Int.reduceLE,Int.reduceLT,Int.reduceEq,Int.reduceNe,di]
 refine loop_keep (α:=Nat) rfl (fun i=>l.length - i) (fun i=>i≤l.length)
  (fun i=>[(1,.imm (.ptr (.agg [.cpx .f64 (turnA p) (turnB p)]))),(4,.own 4),(7,.imm (.slc 2 (l.map gI))),(8,.imm (.int .i64 l.length)),(9,.imm (.int .i64 i))])
  (fun i=>[(4,.tok 1 ((reL p (l.take i)).map (.int .i64)))]) 0 (Nat.zero_le _) (by simp only [reL,List.take_zero,List.map_nil,vaE, ↓reduceIte,reduceCtorEq,Nat.reduceEqDiff,Nat.reduceAdd,Nat.reduceMul,Nat.reduceSub,Nat.reduceLeDiff,Nat.reduceBEq,Int.reduceToNat,Int.reduceLE,Int.reduceLT,Int.reduceEq,Int.reduceNe,di] <;> rfl) ?_
 intro i hi ih
 have hr:(reL p (l.take i)).length=i:=by unfold reL; rw [List.length_map,List.length_take]; omega
 simp only [res149,b149k0,b149k1,gI,vaE, ↓reduceIte,reduceCtorEq,Nat.reduceEqDiff,Nat.reduceAdd,Nat.reduceMul,Nat.reduceSub,Nat.reduceLeDiff,Nat.reduceBEq,Int.reduceToNat,Int.reduceLE,Int.reduceLT,Int.reduceEq,Int.reduceNe,di]
 split
 ·rename_i hlt
  have hlt:i<l.length:=by omega
  have hg:=part_nrm (hp _ (getD_mem (d:=default) hlt))
  repeat (refine And.intro (by first | omega | exact all_int _ | (simp only [zeros_len,List.length_append,List.length_take,List.length_drop,List.length_set,List.length_cons,List.length_nil,List.length_map]; omega)) ?_)
  have w1:=w_number128 (g:=l.getD i default)
  simp only [gI] at w1
  refine calls_of w1 ?_; simp only [vaE,res149,b149k0,b149k1, ↓reduceIte,reduceCtorEq,Nat.reduceEqDiff,Nat.reduceAdd,Nat.reduceMul,Nat.reduceSub,Nat.reduceLeDiff,Nat.reduceBEq,Int.reduceToNat,Int.reduceLE,Int.reduceLT,Int.reduceEq,Int.reduceNe,di]
  repeat (refine And.intro (by first | omega | exact all_int _ | (simp only [zeros_len,List.length_append,List.length_take,List.length_drop,List.length_set,List.length_cons,List.length_nil,List.length_map]; omega)) ?_)
  obtain ⟨a1,b1,e1,c1⟩:=mulC (CC_near (Bd_le hg)) (CC_turn p) (by rw [nrm_turn]; unfold Bd; omega); simp only [e1,vaE, ↓reduceIte,reduceCtorEq,Nat.reduceEqDiff,Nat.reduceAdd,Nat.reduceMul,Nat.reduceSub,Nat.reduceLeDiff,Nat.reduceBEq,Int.reduceToNat,Int.reduceLE,Int.reduceLT,Int.reduceEq,Int.reduceNe,di]
  rw [gmul_comm] at c1
  have w2:=w_whole c1 (by rw [nrm_tmul]; exact Bd_le hg)
  simp only [gI] at w2
  refine ⟨rfl,rfl,?_⟩
  refine calls_of w2 ?_; simp only [vaE,res149,b149k0,b149k1, ↓reduceIte,reduceCtorEq,Nat.reduceEqDiff,Nat.reduceAdd,Nat.reduceMul,Nat.reduceSub,Nat.reduceLeDiff,Nat.reduceBEq,Int.reduceToNat,Int.reduceLE,Int.reduceLT,Int.reduceEq,Int.reduceNe,di]
  repeat (refine And.intro (by first | omega | exact all_int _ | (simp only [zeros_len,List.length_append,List.length_take,List.length_drop,List.length_set,List.length_cons,List.length_nil,List.length_map]; omega)) ?_)
  rw [wrap64 (n:=(i:Int)+1) (by omega) (by omega)]
  refine ih (i+1) _ _ (by omega) (by omega) ?_
  rw [show reL p (l.take (i+1))=reL p (l.take i) ++ [(gmul (turnG p) (l.getD i default)).1] by
   unfold reL
   rw [List.take_succ_eq_append_getElem hlt,List.map_append]
   simp [List.getD_eq_getElem?_getD,hlt],List.map_append]
  simp only [vaE, ↓reduceIte,reduceCtorEq,Nat.reduceEqDiff,Nat.reduceAdd,Nat.reduceMul,Nat.reduceSub,Nat.reduceLeDiff,Nat.reduceBEq,Int.reduceToNat,Int.reduceLE,Int.reduceLT,Int.reduceEq,Int.reduceNe,di] <;> rfl
 ·rename_i hge
  have hie:i=l.length:=by omega
  subst hie
  rw [List.take_length]
theorem w_StateAt {x:Ln} {s:Sty} {t:Int} (hx:Few x) (hs:FewG s):Contract Tryz.prog 60 [lnI x,stdI s,.int .i64 t] (.tup [wsI (satZ x s t),.int .i64 (satC x s t),.int .i64 (satE x s t)]):=by
 refine contract_run Tryz.func60 k60 rfl ?_
 simp only [body60,b60,res60,b60k0,b60k1,b60k2,b60k3,b60k4,stdI,vaE, ↓reduceIte,reduceCtorEq,Nat.reduceEqDiff,Nat.reduceAdd,Nat.reduceMul,Nat.reduceSub,Nat.reduceLeDiff,Nat.reduceBEq,Int.reduceToNat,Int.reduceLE,Int.reduceLT,Int.reduceEq,Int.reduceNe,di]
 refine calls_of (w_open' hx) ?_; simp only [vaE,res60,b60k0,b60k1,b60k2,b60k3,b60k4, ↓reduceIte,reduceCtorEq,Nat.reduceEqDiff,Nat.reduceAdd,Nat.reduceMul,Nat.reduceSub,Nat.reduceLeDiff,Nat.reduceBEq,Int.reduceToNat,Int.reduceLE,Int.reduceLT,Int.reduceEq,Int.reduceNe,di]
 refine calls_of w_quarterErr ?_; simp only [vaE,res60,b60k0,b60k1,b60k2,b60k3,b60k4, ↓reduceIte,reduceCtorEq,Nat.reduceEqDiff,Nat.reduceAdd,Nat.reduceMul,Nat.reduceSub,Nat.reduceLeDiff,Nat.reduceBEq,Int.reduceToNat,Int.reduceLE,Int.reduceLT,Int.reduceEq,Int.reduceNe,di]
 have uo:∀ b:Bool,shpE (opnE x) s=(if b=true then 0 else 10)→Contract Tryz.prog 135 [.bool b,.int .i64 10] (.int .i64 (shpE (opnE x) s)):=fun b hb=>by rw [hb]; exact w_unless
 by_cases hF:(s.F.length:Int)=(opnE x).n
 case' neg =>
  simp only [hF,vaE, ↓reduceIte,reduceCtorEq,Nat.reduceEqDiff,Nat.reduceAdd,Nat.reduceMul,Nat.reduceSub,Nat.reduceLeDiff,Nat.reduceBEq,Int.reduceToNat,Int.reduceLE,Int.reduceLT,Int.reduceEq,Int.reduceNe,di]
  refine calls_of (uo false (by unfold shpE; rw [if_neg (fun k=>hF k.1.1)]; rfl)) ?_; simp only [vaE,res60,b60k0,b60k1,b60k2,b60k3,b60k4, ↓reduceIte,reduceCtorEq,Nat.reduceEqDiff,Nat.reduceAdd,Nat.reduceMul,Nat.reduceSub,Nat.reduceLeDiff,Nat.reduceBEq,Int.reduceToNat,Int.reduceLE,Int.reduceLT,Int.reduceEq,Int.reduceNe,di]
 case' pos =>
  by_cases hB:(s.B.length:Int)=(opnE x).n
  case' neg =>
   simp only [hF,hB,vaE, ↓reduceIte,reduceCtorEq,Nat.reduceEqDiff,Nat.reduceAdd,Nat.reduceMul,Nat.reduceSub,Nat.reduceLeDiff,Nat.reduceBEq,Int.reduceToNat,Int.reduceLE,Int.reduceLT,Int.reduceEq,Int.reduceNe,di]
   refine calls_of (uo false (by unfold shpE; rw [if_neg (fun k=>hB k.1.2)]; rfl)) ?_; simp only [vaE,res60,b60k0,b60k1,b60k2,b60k3,b60k4, ↓reduceIte,reduceCtorEq,Nat.reduceEqDiff,Nat.reduceAdd,Nat.reduceMul,Nat.reduceSub,Nat.reduceLeDiff,Nat.reduceBEq,Int.reduceToNat,Int.reduceLE,Int.reduceLT,Int.reduceEq,Int.reduceNe,di]
  case' pos =>
   simp only [hF,hB,vaE, ↓reduceIte,reduceCtorEq,Nat.reduceEqDiff,Nat.reduceAdd,Nat.reduceMul,Nat.reduceSub,Nat.reduceLeDiff,Nat.reduceBEq,Int.reduceToNat,Int.reduceLE,Int.reduceLT,Int.reduceEq,Int.reduceNe,di]
   have hu:=uo (decide ((s.L.length:Int)=((opnE x).ar.length:Int))) (by
    unfold shpE
    by_cases hL:s.L.length=(opnE x).ar.length
    ·rw [if_pos ⟨⟨hF,hB⟩,hL⟩,decide_eq_true (by omega)]; rfl
    ·rw [if_neg (fun k=>hL k.2),decide_eq_false (by omega)]; rfl)
   refine calls_of hu ?_; simp only [vaE,res60,b60k0,b60k1,b60k2,b60k3,b60k4, ↓reduceIte,reduceCtorEq,Nat.reduceEqDiff,Nat.reduceAdd,Nat.reduceMul,Nat.reduceSub,Nat.reduceLeDiff,Nat.reduceBEq,Int.reduceToNat,Int.reduceLE,Int.reduceLT,Int.reduceEq,Int.reduceNe,di]
 all_goals
  refine calls_of (w_first (l:=[(chkL x).2,quarterE s.q,shpE (opnE x) s]) (by simp)) ?_; simp only [vaE,res60,b60k0,b60k1,b60k2,b60k3,b60k4, ↓reduceIte,reduceCtorEq,Nat.reduceEqDiff,Nat.reduceAdd,Nat.reduceMul,Nat.reduceSub,Nat.reduceLeDiff,Nat.reduceBEq,Int.reduceToNat,Int.reduceLE,Int.reduceLT,Int.reduceEq,Int.reduceNe,di]
  clear uo
  have hstd:stdE x s=fstE (firstNZ [(chkL x).2,quarterE s.q,shpE (opnE x) s]) (prtE (allG s)):=by rw [firstNZ_three]; rfl
  generalize firstNZ [(chkL x).2,quarterE s.q,shpE (opnE x) s]=e0 at *
  refine loop_keep (α:=Nat × Int) rfl (fun q=>4 - q.1) (fun q=>q.1≤4∧q.2=fstE e0 (prtE (pre4 s q.1)))
   (fun q=>[(2,.imm (.int .i64 t)),(4,.ref 4 0),(6,.ref 6 0),(10,.imm (.int .i64 q.2)),(62,.imm (.agg [.slc 2 (s.F.map gI),.slc 2 (s.B.map gI),.slc 2 (s.L.map gI),.slc 2 [.agg [.int .i64 s.c.1,.int .i64 s.c.2]]])),(63,.imm (.int .i64 q.1))])
   (fun _=>[(4,.box [.imm (.int .i64 s.q),.imm (.slc 2 (s.F.map gI)),.imm (.slc 2 (s.B.map gI)),.imm (.slc 2 (s.L.map gI)),.imm (.int .i64 s.c.1),.imm (.int .i64 s.c.2)]),(6,.box [.imm (.slc 1 []),.imm (.slc 1 []),.imm (.slc 1 [])])]) (0,e0) ⟨Nat.zero_le _,by show e0=fstE e0 (prtE []); unfold fstE prtE; simp⟩ (by simp only [vaE, ↓reduceIte,reduceCtorEq,Nat.reduceEqDiff,Nat.reduceAdd,Nat.reduceMul,Nat.reduceSub,Nat.reduceLeDiff,Nat.reduceBEq,Int.reduceToNat,Int.reduceLE,Int.reduceLT,Int.reduceEq,Int.reduceNe,di] <;> rfl) ?_
  rintro ⟨k,e⟩ ⟨hk,he⟩ ih
  dsimp only at hk he ⊢
  simp only [res60,b60k0,b60k1,b60k2,b60k3,b60k4,vaE, ↓reduceIte,reduceCtorEq,Nat.reduceEqDiff,Nat.reduceAdd,Nat.reduceMul,Nat.reduceSub,Nat.reduceLeDiff,Nat.reduceBEq,Int.reduceToNat,Int.reduceLE,Int.reduceLT,Int.reduceEq,Int.reduceNe,di]
  split
  ·rename_i hk4
   have hk4:k<4:=by omega
   have hidx:([.slc 2 (s.F.map gI),.slc 2 (s.B.map gI),.slc 2 (s.L.map gI),.slc 2 [.agg [.int .i64 s.c.1,.int .i64 s.c.2]]]:List IV)[k * 1]? = some (.slc 2 (((lis4 s).getD k []).map gI)):=by
    rcases (show k=0∨k=1∨k=2∨k=3 by omega) with rfl | rfl | rfl | rfl <;> rfl
   have hll:=lis4_len hs k
   have hps:=pre4_step (s:=s) hk4
   simp only [hidx,vaE, ↓reduceIte,reduceCtorEq,Nat.reduceEqDiff,Nat.reduceAdd,Nat.reduceMul,Nat.reduceSub,Nat.reduceLeDiff,Nat.reduceBEq,Int.reduceToNat,Int.reduceLE,Int.reduceLT,Int.reduceEq,Int.reduceNe,di]
   generalize (lis4 s).getD k []=l at *
   repeat (refine And.intro (by first | omega | exact all_int _ | (simp only [zeros_len,List.length_append,List.length_take,List.length_drop,List.length_set,List.length_cons,List.length_nil,List.length_map]; omega)) ?_)
   refine loop_keep (α:=Nat × Int) rfl (fun q=>l.length - q.1) (fun q=>q.1≤l.length∧q.2=fstE e0 (prtE (pre4 s k ++ l.take q.1)))
    (fun q=>[(2,.imm (.int .i64 t)),(4,.ref 4 0),(6,.ref 6 0),(10,.imm (.int .i64 q.2)),(62,.imm (.agg [.slc 2 (s.F.map gI),.slc 2 (s.B.map gI),.slc 2 (s.L.map gI),.slc 2 [.agg [.int .i64 s.c.1,.int .i64 s.c.2]]])),(63,.imm (.int .i64 k)),(66,.imm (.slc 2 (l.map gI))),(67,.imm (.int .i64 l.length)),(68,.imm (.int .i64 q.1))])
    (fun _=>[(4,.box [.imm (.int .i64 s.q),.imm (.slc 2 (s.F.map gI)),.imm (.slc 2 (s.B.map gI)),.imm (.slc 2 (s.L.map gI)),.imm (.int .i64 s.c.1),.imm (.int .i64 s.c.2)]),(6,.box [.imm (.slc 1 []),.imm (.slc 1 []),.imm (.slc 1 [])])]) (0,e) ⟨Nat.zero_le _,by rw [List.take_zero,List.append_nil]; exact he⟩ (by simp only [vaE, ↓reduceIte,reduceCtorEq,Nat.reduceEqDiff,Nat.reduceAdd,Nat.reduceMul,Nat.reduceSub,Nat.reduceLeDiff,Nat.reduceBEq,Int.reduceToNat,Int.reduceLE,Int.reduceLT,Int.reduceEq,Int.reduceNe,di] <;> rfl) ?_
   rintro ⟨i,e2⟩ ⟨hi,he2⟩ ih2
   dsimp only at hi he2 ⊢
   simp only [res60,b60k0,b60k1,b60k2,b60k3,b60k4,gI,vaE, ↓reduceIte,reduceCtorEq,Nat.reduceEqDiff,Nat.reduceAdd,Nat.reduceMul,Nat.reduceSub,Nat.reduceLeDiff,Nat.reduceBEq,Int.reduceToNat,Int.reduceLE,Int.reduceLT,Int.reduceEq,Int.reduceNe,di]
   split
   ·rename_i hlt
    have hlt:i<l.length:=by omega
    repeat (refine And.intro (by first | omega | exact all_int _ | (simp only [zeros_len,List.length_append,List.length_take,List.length_drop,List.length_set,List.length_cons,List.length_nil,List.length_map]; omega)) ?_)
    have wi:=w_isPart (g:=l.getD i default)
    simp only [gI] at wi
    refine calls_of wi ?_; simp only [vaE,res60,b60k0,b60k1,b60k2,b60k3,b60k4, ↓reduceIte,reduceCtorEq,Nat.reduceEqDiff,Nat.reduceAdd,Nat.reduceMul,Nat.reduceSub,Nat.reduceLeDiff,Nat.reduceBEq,Int.reduceToNat,Int.reduceLE,Int.reduceLT,Int.reduceEq,Int.reduceNe,di]
    refine calls_of w_unless ?_; simp only [vaE,res60,b60k0,b60k1,b60k2,b60k3,b60k4, ↓reduceIte,reduceCtorEq,Nat.reduceEqDiff,Nat.reduceAdd,Nat.reduceMul,Nat.reduceSub,Nat.reduceLeDiff,Nat.reduceBEq,Int.reduceToNat,Int.reduceLE,Int.reduceLT,Int.reduceEq,Int.reduceNe,di]
    refine calls_of (w_first (l:=[e2,if partOk (l.getD i default) then 0 else 2]) (by simp)) ?_; simp only [vaE,res60,b60k0,b60k1,b60k2,b60k3,b60k4, ↓reduceIte,reduceCtorEq,Nat.reduceEqDiff,Nat.reduceAdd,Nat.reduceMul,Nat.reduceSub,Nat.reduceLeDiff,Nat.reduceBEq,Int.reduceToNat,Int.reduceLE,Int.reduceLT,Int.reduceEq,Int.reduceNe,di]
    rw [wrap64 (n:=(i:Int)+1) (by omega) (by omega)]
    refine ih2 (i+1,fstE e2 (if partOk (l.getD i default) then 0 else 2)) _ _ (by dsimp only; omega) ⟨by dsimp only; omega,?_⟩ ?_
    ·dsimp only
     rw [he2,prtE_snoc,List.append_assoc]
     congr 4
     rw [List.take_succ_eq_append_getElem hlt]
     simp [List.getD_eq_getElem?_getD,hlt]
    ·simp only [firstNZ_two,decide_eq_true_eq,vaE, ↓reduceIte,reduceCtorEq,Nat.reduceEqDiff,Nat.reduceAdd,Nat.reduceMul,Nat.reduceSub,Nat.reduceLeDiff,Nat.reduceBEq,Int.reduceToNat,Int.reduceLE,Int.reduceLT,Int.reduceEq,Int.reduceNe,di] <;> rfl
   ·rename_i hge
    have hie:i=l.length:=by omega
    subst hie
    rw [List.take_length,← hps] at he2
    rw [wrap64 (n:=(k:Int)+1) (by omega) (by omega)]
    exact ih (k+1,e2) _ _ (by dsimp only; omega) ⟨by dsimp only; omega,he2⟩ (by simp only [vaE, ↓reduceIte,reduceCtorEq,Nat.reduceEqDiff,Nat.reduceAdd,Nat.reduceMul,Nat.reduceSub,Nat.reduceLeDiff,Nat.reduceBEq,Int.reduceToNat,Int.reduceLE,Int.reduceLT,Int.reduceEq,Int.reduceNe,di] <;> rfl)
  ·rename_i hge
   have hk4:k=4:=by omega
   subst hk4
   rw [pre4_end] at he
   refine calls_of w_within ?_; simp only [vaE,res60,b60k0,b60k1,b60k2,b60k3,b60k4, ↓reduceIte,reduceCtorEq,Nat.reduceEqDiff,Nat.reduceAdd,Nat.reduceMul,Nat.reduceSub,Nat.reduceLeDiff,Nat.reduceBEq,Int.reduceToNat,Int.reduceLE,Int.reduceLT,Int.reduceEq,Int.reduceNe,di]
   refine calls_of w_unless ?_; simp only [vaE,res60,b60k0,b60k1,b60k2,b60k3,b60k4, ↓reduceIte,reduceCtorEq,Nat.reduceEqDiff,Nat.reduceAdd,Nat.reduceMul,Nat.reduceSub,Nat.reduceLeDiff,Nat.reduceBEq,Int.reduceToNat,Int.reduceLE,Int.reduceLT,Int.reduceEq,Int.reduceNe,di]
   refine calls_of (w_first (l:=[e,tickE t]) (by simp)) ?_; simp only [vaE,res60,b60k0,b60k1,b60k2,b60k3,b60k4, ↓reduceIte,reduceCtorEq,Nat.reduceEqDiff,Nat.reduceAdd,Nat.reduceMul,Nat.reduceSub,Nat.reduceLeDiff,Nat.reduceBEq,Int.reduceToNat,Int.reduceLE,Int.reduceLT,Int.reduceEq,Int.reduceNe,di]
   rw [firstNZ_two,he,← hstd,show fstE (stdE x s) (tickE t)=satE x s t from rfl]
   by_cases h0:satE x s t=0
   rotate_left
   ·rw [show satZ x s t=emptyS by unfold satZ; rw [if_neg h0],show satC x s t=0 by unfold satC; rw [if_neg h0]]
    simp only [h0,vaE, ↓reduceIte,reduceCtorEq,Nat.reduceEqDiff,Nat.reduceAdd,Nat.reduceMul,Nat.reduceSub,Nat.reduceLeDiff,Nat.reduceBEq,Int.reduceToNat,Int.reduceLE,Int.reduceLT,Int.reduceEq,Int.reduceNe,di]
    rfl
   have hz:=fstE_zero.1 h0
   have ht:=tickE_zero.1 hz.2
   have hzs:=hz.1
   unfold stdE at hzs
   rw [fstE_zero,fstE_zero,fstE_zero,prtE_zero] at hzs
   have hq : 0≤s.q∧s.q≤3:=by
    have:=hzs.1.1.2
    unfold quarterE at this
    split at this
    ·assumption
    ·omega
   have hpp:=hzs.2
   have pF:∀ g ∈ s.F,partOk g:=fun g hg=>hpp g (by simp [allG,hg])
   have pB:∀ g ∈ s.B,partOk g:=fun g hg=>hpp g (by simp [allG,hg])
   have pL:∀ g ∈ s.L,partOk g:=fun g hg=>hpp g (by simp [allG,hg])
   have pc:partOk s.c:=hpp _ (by simp [allG])
   have htm:t.tmod 4=t % 4:=Int.tmod_eq_emod_of_nonneg ht.1
   have hpw : 0≤s.q * (t % 4)∧s.q * (t % 4)≤9:=by
    rcases (show s.q=0∨s.q=1∨s.q=2∨s.q=3 by omega) with e | e | e | e <;> rw [e] <;> omega
   rw [show satZ x s t=satS s t by unfold satZ; rw [if_pos h0],show satC x s t=(gmul (turnG (satP s t)) s.c).1 by unfold satC; rw [if_pos h0]]
   rw [h0]
   simp only [vaE, ↓reduceIte,reduceCtorEq,Nat.reduceEqDiff,Nat.reduceAdd,Nat.reduceMul,Nat.reduceSub,Nat.reduceLeDiff,Nat.reduceBEq,Int.reduceToNat,Int.reduceLE,Int.reduceLT,Int.reduceEq,Int.reduceNe,di]
   rw [htm,wrap64 (n:=s.q * (t % 4)) (by omega) (by omega)]
   refine calls_of (w_turn (p:=satP s t)) ?_; simp only [vaE,res60,b60k0,b60k1,b60k2,b60k3,b60k4, ↓reduceIte,reduceCtorEq,Nat.reduceEqDiff,Nat.reduceAdd,Nat.reduceMul,Nat.reduceSub,Nat.reduceLeDiff,Nat.reduceBEq,Int.reduceToNat,Int.reduceLE,Int.reduceLT,Int.reduceEq,Int.reduceNe,di]
   simp only [agg_cpx,tup_cpx,and_self,vaE, ↓reduceIte,reduceCtorEq,Nat.reduceEqDiff,Nat.reduceAdd,Nat.reduceMul,Nat.reduceSub,Nat.reduceLeDiff,Nat.reduceBEq,Int.reduceToNat,Int.reduceLE,Int.reduceLT,Int.reduceEq,Int.reduceNe,di]
   refine calls_of (w_parts (p:=satP s t) hs.1 pF) ?_; simp only [vaE,res60,b60k0,b60k1,b60k2,b60k3,b60k4, ↓reduceIte,reduceCtorEq,Nat.reduceEqDiff,Nat.reduceAdd,Nat.reduceMul,Nat.reduceSub,Nat.reduceLeDiff,Nat.reduceBEq,Int.reduceToNat,Int.reduceLE,Int.reduceLT,Int.reduceEq,Int.reduceNe,di]
   refine calls_of (w_parts (p:=satP s t) hs.2.1 pB) ?_; simp only [vaE,res60,b60k0,b60k1,b60k2,b60k3,b60k4, ↓reduceIte,reduceCtorEq,Nat.reduceEqDiff,Nat.reduceAdd,Nat.reduceMul,Nat.reduceSub,Nat.reduceLeDiff,Nat.reduceBEq,Int.reduceToNat,Int.reduceLE,Int.reduceLT,Int.reduceEq,Int.reduceNe,di]
   refine calls_of (w_parts (p:=satP s t) hs.2.2 pL) ?_; simp only [vaE,res60,b60k0,b60k1,b60k2,b60k3,b60k4, ↓reduceIte,reduceCtorEq,Nat.reduceEqDiff,Nat.reduceAdd,Nat.reduceMul,Nat.reduceSub,Nat.reduceLeDiff,Nat.reduceBEq,Int.reduceToNat,Int.reduceLE,Int.reduceLT,Int.reduceEq,Int.reduceNe,di]
   have w1:=w_number128 (g:=s.c)
   simp only [gI] at w1
   refine calls_of w1 ?_; simp only [vaE,res60,b60k0,b60k1,b60k2,b60k3,b60k4, ↓reduceIte,reduceCtorEq,Nat.reduceEqDiff,Nat.reduceAdd,Nat.reduceMul,Nat.reduceSub,Nat.reduceLeDiff,Nat.reduceBEq,Int.reduceToNat,Int.reduceLE,Int.reduceLT,Int.reduceEq,Int.reduceNe,di]
   have hg:=part_nrm pc
   repeat (refine And.intro (by first | omega | exact all_int _ | (simp only [zeros_len,List.length_append,List.length_take,List.length_drop,List.length_set,List.length_cons,List.length_nil,List.length_map]; omega)) ?_)
   obtain ⟨a1,b1,e1,c1⟩:=mulC (CC_near (Bd_le hg)) (CC_turn (satP s t)) (by rw [nrm_turn]; unfold Bd; omega); simp only [e1,vaE, ↓reduceIte,reduceCtorEq,Nat.reduceEqDiff,Nat.reduceAdd,Nat.reduceMul,Nat.reduceSub,Nat.reduceLeDiff,Nat.reduceBEq,Int.reduceToNat,Int.reduceLE,Int.reduceLT,Int.reduceEq,Int.reduceNe,di]
   rw [gmul_comm] at c1
   have w2:=w_whole c1 (by rw [nrm_tmul]; exact Bd_le hg)
   simp only [gI] at w2
   refine calls_of w2 ?_; simp only [vaE,res60,b60k0,b60k1,b60k2,b60k3,b60k4, ↓reduceIte,reduceCtorEq,Nat.reduceEqDiff,Nat.reduceAdd,Nat.reduceMul,Nat.reduceSub,Nat.reduceLeDiff,Nat.reduceBEq,Int.reduceToNat,Int.reduceLE,Int.reduceLT,Int.reduceEq,Int.reduceNe,di]
   rfl
end Go.DI


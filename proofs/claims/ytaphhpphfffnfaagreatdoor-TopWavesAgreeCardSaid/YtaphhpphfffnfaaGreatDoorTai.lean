/- Contracts: laws and runs of waves. No condition. -/
import Derived.Test.YtaphhpphfffnfaaGreatDoorTah
set_option linter.unusedSimpArgs false
set_option maxRecDepth 100000
namespace Go.DI
open Go.Proofs Go.RowKit
theorem w_CheckLaw {law:List Int} (hl:law.length≤1000000):Contract Tryz.prog 291 [nI law] (e2I (chkW law)):=by
 refine contract_run Tryz.func291 k291 rfl ?_
 simp only [body291,b291,res291,b291k0,b291k1,b291k2,b291k3,b291k4,vaE, ↓reduceIte,reduceCtorEq,Nat.reduceEqDiff,Nat.reduceAdd,Nat.reduceMul,Nat.reduceSub,Nat.reduceLeDiff,Nat.reduceBEq,Int.reduceToNat,Int.reduceLE,Int.reduceLT,Int.reduceEq,Int.reduceNe,di]
 unfold chkW
 split
 ·rfl
 rename_i h
 refine loop_keep (α:=Nat × Int) rfl (fun q=>law.length - q.1) (fun q=>q.1≤law.length∧lawScan q.1 q.2 (law.drop q.1)=lawScan 0 0 law)
  (fun q=>[(4,.imm (.int .i64 q.2)),(11,.imm (nI law)),(12,.imm (.int .i64 law.length)),(13,.imm (.int .i64 q.1))]) (fun _=>[]) (0,0) ⟨Nat.zero_le _,rfl⟩ (by simp only [vaE, ↓reduceIte,reduceCtorEq,Nat.reduceEqDiff,Nat.reduceAdd,Nat.reduceMul,Nat.reduceSub,Nat.reduceLeDiff,Nat.reduceBEq,Int.reduceToNat,Int.reduceLE,Int.reduceLT,Int.reduceEq,Int.reduceNe,di] <;> rfl) ?_
 rintro ⟨i,la⟩ ⟨hi,he⟩ ih
 dsimp only at hi he ⊢
 simp only [res291,b291k0,b291k1,b291k2,b291k3,b291k4,vaE, ↓reduceIte,reduceCtorEq,Nat.reduceEqDiff,Nat.reduceAdd,Nat.reduceMul,Nat.reduceSub,Nat.reduceLeDiff,Nat.reduceBEq,Int.reduceToNat,Int.reduceLE,Int.reduceLT,Int.reduceEq,Int.reduceNe,di]
 split
 ·rename_i h
  have hlt:i<law.length:=by omega
  rw [getD_drop hlt] at he
  rw [lawScan_cons] at he
  generalize law.getD i 0=n at he ⊢
  repeat (refine And.intro (by omega) ?_)
  refine calls_of w_within ?_; simp only [vaE,res291,b291k0,b291k1,b291k2,b291k3,b291k4, ↓reduceIte,reduceCtorEq,Nat.reduceEqDiff,Nat.reduceAdd,Nat.reduceMul,Nat.reduceSub,Nat.reduceLeDiff,Nat.reduceBEq,Int.reduceToNat,Int.reduceLE,Int.reduceLT,Int.reduceEq,Int.reduceNe,di]
  refine calls_of w_unless ?_; simp only [vaE,res291,b291k0,b291k1,b291k2,b291k3,b291k4, ↓reduceIte,reduceCtorEq,Nat.reduceEqDiff,Nat.reduceAdd,Nat.reduceMul,Nat.reduceSub,Nat.reduceLeDiff,Nat.reduceBEq,Int.reduceToNat,Int.reduceLE,Int.reduceLT,Int.reduceEq,Int.reduceNe,di]
  refine calls_of w_unless ?_; simp only [vaE,res291,b291k0,b291k1,b291k2,b291k3,b291k4, ↓reduceIte,reduceCtorEq,Nat.reduceEqDiff,Nat.reduceAdd,Nat.reduceMul,Nat.reduceSub,Nat.reduceLeDiff,Nat.reduceBEq,Int.reduceToNat,Int.reduceLE,Int.reduceLT,Int.reduceEq,Int.reduceNe,di]
  refine calls_of (w_first (l:=[if 0≤n∧n≤1000 then 0 else 2,if la≤n then 0 else 9]) (by simp)) ?_; simp only [vaE,res291,b291k0,b291k1,b291k2,b291k3,b291k4, ↓reduceIte,reduceCtorEq,Nat.reduceEqDiff,Nat.reduceAdd,Nat.reduceMul,Nat.reduceSub,Nat.reduceLeDiff,Nat.reduceBEq,Int.reduceToNat,Int.reduceLE,Int.reduceLT,Int.reduceEq,Int.reduceNe,di]
  rw [firstNZ_two]
  generalize fstE (if 0≤n∧n≤1000 then 0 else 2) (if la≤n then 0 else 9)=e at he ⊢
  split
  ·rename_i h2
   rw [if_pos h2] at he
   rw [wrap64 (by omega) (by omega)]
   exact ih (i+1,n) _ _ (by dsimp only; omega) ⟨by dsimp only; omega,he⟩ (by simp only [vaE, ↓reduceIte,reduceCtorEq,Nat.reduceEqDiff,Nat.reduceAdd,Nat.reduceMul,Nat.reduceSub,Nat.reduceLeDiff,Nat.reduceBEq,Int.reduceToNat,Int.reduceLE,Int.reduceLT,Int.reduceEq,Int.reduceNe,di] <;> rfl)
  ·rename_i h2
   rw [if_neg h2] at he
   rw [← he]
 ·rename_i h
  have:i=law.length:=by omega
  subst this
  rw [List.drop_length] at he
  rw [← he]
  rfl
theorem w_lawErr {law:List Int} (hl:law.length≤1000000):Contract Tryz.prog 248 [nI law] (.int .i64 (chkW law).2):=by
 refine contract_run Tryz.func248 k248 rfl ?_
 simp only [body248,b248,res248,vaE, ↓reduceIte,reduceCtorEq,Nat.reduceEqDiff,Nat.reduceAdd,Nat.reduceMul,Nat.reduceSub,Nat.reduceLeDiff,Nat.reduceBEq,Int.reduceToNat,Int.reduceLE,Int.reduceLT,Int.reduceEq,Int.reduceNe,di]
 refine calls_of (w_CheckLaw hl) ?_; simp only [vaE,res248, ↓reduceIte,reduceCtorEq,Nat.reduceEqDiff,Nat.reduceAdd,Nat.reduceMul,Nat.reduceSub,Nat.reduceLeDiff,Nat.reduceBEq,Int.reduceToNat,Int.reduceLE,Int.reduceLT,Int.reduceEq,Int.reduceNe,di]
theorem w_open' {x:Ln} (hx:Few x):Contract Tryz.prog 145 [lnI x] (.tup [owI (opnE x),.int .i64 (chkL x).2]):=by
 have h:=w_open hx
 unfold opnE
 split at h
 ·rename_i h0; rw [if_pos h0,h0]; exact h
 ·rename_i h0; rw [if_neg h0]; exact h
theorem w_openRun {x:Ln} {law:List Int} {t:Int} (hx:Few x) (hl:law.length≤1000000):Contract Tryz.prog 185 [lnI x,nI law,.int .i64 t] (.tup [owI (opnE x),.int .i64 (lawRunE x law t)]):=by
 refine contract_run Tryz.func185 k185 rfl ?_
 simp only [body185,b185,res185,vaE, ↓reduceIte,reduceCtorEq,Nat.reduceEqDiff,Nat.reduceAdd,Nat.reduceMul,Nat.reduceSub,Nat.reduceLeDiff,Nat.reduceBEq,Int.reduceToNat,Int.reduceLE,Int.reduceLT,Int.reduceEq,Int.reduceNe,di]
 refine calls_of (w_open' hx) ?_; simp only [vaE,res185, ↓reduceIte,reduceCtorEq,Nat.reduceEqDiff,Nat.reduceAdd,Nat.reduceMul,Nat.reduceSub,Nat.reduceLeDiff,Nat.reduceBEq,Int.reduceToNat,Int.reduceLE,Int.reduceLT,Int.reduceEq,Int.reduceNe,di]
 refine calls_of (w_lawErr hl) ?_; simp only [vaE,res185, ↓reduceIte,reduceCtorEq,Nat.reduceEqDiff,Nat.reduceAdd,Nat.reduceMul,Nat.reduceSub,Nat.reduceLeDiff,Nat.reduceBEq,Int.reduceToNat,Int.reduceLE,Int.reduceLT,Int.reduceEq,Int.reduceNe,di]
 refine calls_of w_ticksErr ?_; simp only [vaE,res185, ↓reduceIte,reduceCtorEq,Nat.reduceEqDiff,Nat.reduceAdd,Nat.reduceMul,Nat.reduceSub,Nat.reduceLeDiff,Nat.reduceBEq,Int.reduceToNat,Int.reduceLE,Int.reduceLT,Int.reduceEq,Int.reduceNe,di]
 refine calls_of (w_first (l:=[(chkL x).2,(chkW law).2,ticksE t]) (by simp)) ?_; simp only [vaE,res185, ↓reduceIte,reduceCtorEq,Nat.reduceEqDiff,Nat.reduceAdd,Nat.reduceMul,Nat.reduceSub,Nat.reduceLeDiff,Nat.reduceBEq,Int.reduceToNat,Int.reduceLE,Int.reduceLT,Int.reduceEq,Int.reduceNe,di]
 rfl
theorem w_Clone {l:List Int} (hl:l.length≤1000000000):Contract Tryz.prog 178 [nI l] (nI l):=by
 refine contract_run Tryz.func178 k178 rfl ?_
 simp only [body178,b178,res178,b178k0,vaE, ↓reduceIte,reduceCtorEq,Nat.reduceEqDiff,Nat.reduceAdd,Nat.reduceMul,Nat.reduceSub,Nat.reduceLeDiff,Nat.reduceBEq,Int.reduceToNat,Int.reduceLE,Int.reduceLT,Int.reduceEq,Int.reduceNe,di]
 exact ⟨fun h=>by rw [h],by omega,by omega⟩
theorem w_RunOf {x:Ln} {s:Ws} {cl:List Int} (hx:Few x) (hs:FewS s) (hc:cl.length≤1000000):Contract Tryz.prog 152 [lnI x,wsI s,nI cl] (if runE x s cl=0 then .tup [wsI (runS (opn x) s cl),.int .i64 0] else .tup [wsI ⟨[],[],[]⟩,.int .i64 (runE x s cl)]):=by
 refine contract_run Tryz.func152 k152 rfl ?_
 simp only [body152,b152,res152,b152k0,b152k1,b152k2,b152k3,b152k4,vaE, ↓reduceIte,reduceCtorEq,Nat.reduceEqDiff,Nat.reduceAdd,Nat.reduceMul,Nat.reduceSub,Nat.reduceLeDiff,Nat.reduceBEq,Int.reduceToNat,Int.reduceLE,Int.reduceLT,Int.reduceEq,Int.reduceNe,di]
 refine calls_of (w_openState hx hs) ?_; simp only [vaE,res152,b152k0,b152k1,b152k2,b152k3,b152k4, ↓reduceIte,reduceCtorEq,Nat.reduceEqDiff,Nat.reduceAdd,Nat.reduceMul,Nat.reduceSub,Nat.reduceLeDiff,Nat.reduceBEq,Int.reduceToNat,Int.reduceLE,Int.reduceLT,Int.reduceEq,Int.reduceNe,di]
 refine calls_of w_unless ?_; simp only [vaE,res152,b152k0,b152k1,b152k2,b152k3,b152k4, ↓reduceIte,reduceCtorEq,Nat.reduceEqDiff,Nat.reduceAdd,Nat.reduceMul,Nat.reduceSub,Nat.reduceLeDiff,Nat.reduceBEq,Int.reduceToNat,Int.reduceLE,Int.reduceLT,Int.reduceEq,Int.reduceNe,di]
 refine calls_of (w_first (l:=[stE x s,if (cl.length:Int)≤200 then 0 else 8]) (by simp)) ?_; simp only [vaE,res152,b152k0,b152k1,b152k2,b152k3,b152k4, ↓reduceIte,reduceCtorEq,Nat.reduceEqDiff,Nat.reduceAdd,Nat.reduceMul,Nat.reduceSub,Nat.reduceLeDiff,Nat.reduceBEq,Int.reduceToNat,Int.reduceLE,Int.reduceLT,Int.reduceEq,Int.reduceNe,di]
 refine loop_keep (α:=Nat × Int) rfl (fun q=>cl.length - q.1) (fun q=>q.1≤cl.length∧(cl.drop q.1).foldl (fun e n=>fstE e (closeE n)) q.2=runE x s cl)
  (fun q=>[(2,.imm (nI cl)),(4,.ref 4 0),(6,.ref 6 0),(8,.ref 8 0),(9,.imm (.int .i64 q.2)),(28,.imm (nI cl)),(29,.imm (.int .i64 cl.length)),(30,.imm (.int .i64 q.1))])
  (fun _=>[(4,.box [.imm (nI s.F),.imm (nI s.B),.imm (nI s.L)]),(6,.box [.imm (.slc 1 []),.imm (.slc 1 []),.imm (.slc 1 [])]),(8,.box [.imm (.slc 2 ((opnE x).pp.map ppI)),.imm (nI (opnE x).ar),.imm (nI (opnE x).be),.imm (.int .i64 (opnE x).n)])])
  (0,fstE (stE x s) (if (cl.length:Int)≤200 then 0 else 8)) ⟨Nat.zero_le _,rfl⟩ (by rw [firstNZ_two]; simp only [vaE, ↓reduceIte,reduceCtorEq,Nat.reduceEqDiff,Nat.reduceAdd,Nat.reduceMul,Nat.reduceSub,Nat.reduceLeDiff,Nat.reduceBEq,Int.reduceToNat,Int.reduceLE,Int.reduceLT,Int.reduceEq,Int.reduceNe,di] <;> rfl) ?_
 rintro ⟨i,e⟩ ⟨hi,he⟩ ih
 dsimp only at hi he ⊢
 simp only [res152,b152k0,b152k1,b152k2,b152k3,b152k4,vaE, ↓reduceIte,reduceCtorEq,Nat.reduceEqDiff,Nat.reduceAdd,Nat.reduceMul,Nat.reduceSub,Nat.reduceLeDiff,Nat.reduceBEq,Int.reduceToNat,Int.reduceLE,Int.reduceLT,Int.reduceEq,Int.reduceNe,di]
 split
 ·rename_i h
  have hlt:i<cl.length:=by omega
  rw [getD_drop hlt,List.foldl_cons] at he
  repeat (refine And.intro (by omega) ?_)
  refine calls_of w_closedErr ?_; simp only [vaE,res152,b152k0,b152k1,b152k2,b152k3,b152k4, ↓reduceIte,reduceCtorEq,Nat.reduceEqDiff,Nat.reduceAdd,Nat.reduceMul,Nat.reduceSub,Nat.reduceLeDiff,Nat.reduceBEq,Int.reduceToNat,Int.reduceLE,Int.reduceLT,Int.reduceEq,Int.reduceNe,di]
  refine calls_of (w_first (l:=[e,closeE (cl.getD i 0)]) (by simp)) ?_; simp only [vaE,res152,b152k0,b152k1,b152k2,b152k3,b152k4, ↓reduceIte,reduceCtorEq,Nat.reduceEqDiff,Nat.reduceAdd,Nat.reduceMul,Nat.reduceSub,Nat.reduceLeDiff,Nat.reduceBEq,Int.reduceToNat,Int.reduceLE,Int.reduceLT,Int.reduceEq,Int.reduceNe,di]
  rw [wrap64 (by omega) (by omega),firstNZ_two]
  exact ih (i+1,_) _ _ (by dsimp only; omega) ⟨by dsimp only; omega,he⟩ (by simp only [vaE, ↓reduceIte,reduceCtorEq,Nat.reduceEqDiff,Nat.reduceAdd,Nat.reduceMul,Nat.reduceSub,Nat.reduceLeDiff,Nat.reduceBEq,Int.reduceToNat,Int.reduceLE,Int.reduceLT,Int.reduceEq,Int.reduceNe,di] <;> rfl)
 rename_i h
 have:i=cl.length:=by omega
 subst this
 rw [List.drop_length] at he
 have he:e=runE x s cl:=he
 subst he
 clear ih
 split
 rotate_left
 ·rfl
 rename_i h0
 have hz:=runE_zero.1 h0
 have hok:=stE_zero.1 hz.1.1
 have hox:opnE x=opn x:=by unfold opnE; rw [if_pos (chkL_ok.2 hok.1)]
 have how:=opn_ok hok.1
 rw [hox]
 refine calls_of (w_Clone (l:=s.F) (by have:=hs.1; omega)) ?_; simp only [vaE,res152,b152k0,b152k1,b152k2,b152k3,b152k4, ↓reduceIte,reduceCtorEq,Nat.reduceEqDiff,Nat.reduceAdd,Nat.reduceMul,Nat.reduceSub,Nat.reduceLeDiff,Nat.reduceBEq,Int.reduceToNat,Int.reduceLE,Int.reduceLT,Int.reduceEq,Int.reduceNe,di]
 refine calls_of (w_Clone (l:=s.B) (by have:=hs.2.1; omega)) ?_; simp only [vaE,res152,b152k0,b152k1,b152k2,b152k3,b152k4, ↓reduceIte,reduceCtorEq,Nat.reduceEqDiff,Nat.reduceAdd,Nat.reduceMul,Nat.reduceSub,Nat.reduceLeDiff,Nat.reduceBEq,Int.reduceToNat,Int.reduceLE,Int.reduceLT,Int.reduceEq,Int.reduceNe,di]
 refine calls_of (w_Clone (l:=s.L) (by have:=hs.2.2; omega)) ?_; simp only [vaE,res152,b152k0,b152k1,b152k2,b152k3,b152k4, ↓reduceIte,reduceCtorEq,Nat.reduceEqDiff,Nat.reduceAdd,Nat.reduceMul,Nat.reduceSub,Nat.reduceLeDiff,Nat.reduceBEq,Int.reduceToNat,Int.reduceLE,Int.reduceLT,Int.reduceEq,Int.reduceNe,di]
 refine loop_keep (α:=Nat × Ws) rfl (fun q=>cl.length - q.1) (fun q=>q.1≤cl.length∧runS (opn x) q.2 (cl.drop q.1)=runS (opn x) s cl∧Sh (opn x) q.2)
  (fun q=>[(6,.ref 6 0),(8,.ref 8 0),(12,.ref 12 0),(54,.imm (nI cl)),(55,.imm (.int .i64 cl.length)),(56,.imm (.int .i64 q.1))])
  (fun q=>[(6,.box [.imm (.slc 1 []),.imm (.slc 1 []),.imm (.slc 1 [])]),(8,.box [.imm (.slc 2 ((opn x).pp.map ppI)),.imm (nI (opn x).ar),.imm (nI (opn x).be),.imm (.int .i64 (opn x).n)]),(12,.box [.imm (nI q.2.F),.imm (nI q.2.B),.imm (nI q.2.L)])])
  (0,s) ⟨Nat.zero_le _,rfl,hok.2.sh⟩ (by simp only [vaE, ↓reduceIte,reduceCtorEq,Nat.reduceEqDiff,Nat.reduceAdd,Nat.reduceMul,Nat.reduceSub,Nat.reduceLeDiff,Nat.reduceBEq,Int.reduceToNat,Int.reduceLE,Int.reduceLT,Int.reduceEq,Int.reduceNe,di] <;> rfl) ?_
 rintro ⟨i,s'⟩ ⟨hi,hr,hsh⟩ ih
 dsimp only at hi hr hsh ⊢
 simp only [res152,b152k0,b152k1,b152k2,b152k3,b152k4,vaE, ↓reduceIte,reduceCtorEq,Nat.reduceEqDiff,Nat.reduceAdd,Nat.reduceMul,Nat.reduceSub,Nat.reduceLeDiff,Nat.reduceBEq,Int.reduceToNat,Int.reduceLE,Int.reduceLT,Int.reduceEq,Int.reduceNe,di]
 split
 ·rename_i h
  have hlt:i<cl.length:=by omega
  rw [getD_drop hlt] at hr
  repeat (refine And.intro (by omega) ?_)
  refine calls_of (w_stepped (s:=s') (c:=cl.getD i 0) how hsh) ?_; simp only [vaE,res152,b152k0,b152k1,b152k2,b152k3,b152k4, ↓reduceIte,reduceCtorEq,Nat.reduceEqDiff,Nat.reduceAdd,Nat.reduceMul,Nat.reduceSub,Nat.reduceLeDiff,Nat.reduceBEq,Int.reduceToNat,Int.reduceLE,Int.reduceLT,Int.reduceEq,Int.reduceNe,di]
  rw [wrap64 (by omega) (by omega)]
  exact ih (i+1,stp (opn x) s' (cl.getD i 0)) _ _ (by dsimp only; omega) ⟨by dsimp only; omega,hr,sh_stp hsh how.nb.1⟩ (by simp only [vaE, ↓reduceIte,reduceCtorEq,Nat.reduceEqDiff,Nat.reduceAdd,Nat.reduceMul,Nat.reduceSub,Nat.reduceLeDiff,Nat.reduceBEq,Int.reduceToNat,Int.reduceLE,Int.reduceLT,Int.reduceEq,Int.reduceNe,di] <;> rfl)
 ·rename_i h
  have:i=cl.length:=by omega
  subst this
  rw [List.drop_length] at hr
  have hr:s'=runS (opn x) s cl:=hr
  subst hr
  rfl
theorem w_Stepped {x:Ln} {s:Ws} {c:Int} (hx:Few x) (hs:FewS s):Contract Tryz.prog 63 [lnI x,wsI s,.int .i64 c] (if runE x s [c]=0 then .tup [wsI (stp (opn x) s c),.int .i64 0] else .tup [wsI ⟨[],[],[]⟩,.int .i64 (runE x s [c])]):=by
 refine contract_run Tryz.func63 k63 rfl ?_
 simp only [body63,b63,res63,vaE, ↓reduceIte,reduceCtorEq,Nat.reduceEqDiff,Nat.reduceAdd,Nat.reduceMul,Nat.reduceSub,Nat.reduceLeDiff,Nat.reduceBEq,Int.reduceToNat,Int.reduceLE,Int.reduceLT,Int.reduceEq,Int.reduceNe,di]
 have ho:=w_RunOf (cl:=[c]) hx hs (by simp)
 by_cases h0:runE x s [c]=0
 ·rw [if_pos h0] at ho ⊢
  refine calls_of ho ?_; simp only [vaE,res63, ↓reduceIte,reduceCtorEq,Nat.reduceEqDiff,Nat.reduceAdd,Nat.reduceMul,Nat.reduceSub,Nat.reduceLeDiff,Nat.reduceBEq,Int.reduceToNat,Int.reduceLE,Int.reduceLT,Int.reduceEq,Int.reduceNe,di]
  rfl
 ·rw [if_neg h0] at ho ⊢
  refine calls_of ho ?_; simp only [vaE,res63, ↓reduceIte,reduceCtorEq,Nat.reduceEqDiff,Nat.reduceAdd,Nat.reduceMul,Nat.reduceSub,Nat.reduceLeDiff,Nat.reduceBEq,Int.reduceToNat,Int.reduceLE,Int.reduceLT,Int.reduceEq,Int.reduceNe,di]
end Go.DI


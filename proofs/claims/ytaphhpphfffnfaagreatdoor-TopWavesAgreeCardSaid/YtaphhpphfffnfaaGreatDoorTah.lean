/- Contracts: what lines and states must be. No condition. -/
import Derived.Test.YtaphhpphfffnfaaGreatDoorTag
set_option linter.unusedSimpArgs false
set_option maxRecDepth 100000
namespace Go.DI
open Go.Proofs Go.RowKit
theorem w_IndexInt {g:FuncId} {caps:List IV} {p:Int→Bool} {l:List Int} (hl:l.length≤1000000000) (hp:∀ x ∈ l,Contract Tryz.prog g ((IV.int .i64) x :: caps) (.bool (p x))) :
  Contract Tryz.prog 198 [.slc 1 (l.map (IV.int .i64)),.func g [] caps] (.int .i64 (idxF p l)):=by
 refine contract_run Tryz.func198 k198 rfl ?_
 simp only [body198,b198,res198,b198k0,b198k1,b198k2, ↓reduceIte,reduceCtorEq,Nat.reduceEqDiff,Nat.reduceAdd,Nat.reduceMul,Nat.reduceSub,Nat.reduceLeDiff,Nat.reduceBEq,Int.reduceToNat,Int.reduceLE,Int.reduceLT,Int.reduceEq,Int.reduceNe,di]
 refine loop_keep (α:=Nat) rfl (fun i=>l.length - i) (fun i=>Seek p l i)
  (fun i=>[(0,.imm (.slc 1 (l.map (IV.int .i64)))),(1,.imm (.func g [] caps)),(7,.imm (.int .i64 l.length)),(8,.imm (.int .i64 i))]) (fun _=>[]) 0 seek_zero (by simp only [↓reduceIte,reduceCtorEq,Nat.reduceEqDiff,Nat.reduceAdd,Nat.reduceMul,Nat.reduceSub,Nat.reduceLeDiff,Nat.reduceBEq,Int.reduceToNat,Int.reduceLE,Int.reduceLT,Int.reduceEq,Int.reduceNe,di,List.length_map] <;> rfl) ?_
 intro i hk ih
 have hi:=hk.1
 simp only [res198,b198k0,b198k1,b198k2, ↓reduceIte,reduceCtorEq,Nat.reduceEqDiff,Nat.reduceAdd,Nat.reduceMul,Nat.reduceSub,Nat.reduceLeDiff,Nat.reduceBEq,Int.reduceToNat,Int.reduceLE,Int.reduceLT,Int.reduceEq,Int.reduceNe,di]
 split
 ·rename_i h
  have hlt:i<l.length:=by omega
  have hc:=hp _ (getD_mem (d:=0) hlt)
  repeat (refine And.intro (by omega) ?_)
  refine calls_of hc ?_; simp only [res198,b198k0,b198k1,b198k2, ↓reduceIte,reduceCtorEq,Nat.reduceEqDiff,Nat.reduceAdd,Nat.reduceMul,Nat.reduceSub,Nat.reduceLeDiff,Nat.reduceBEq,Int.reduceToNat,Int.reduceLE,Int.reduceLT,Int.reduceEq,Int.reduceNe,di]
  split
  ·rename_i h2
   rw [seek_hit hk hlt h2]
  ·rename_i h2
   rw [wrap64 (by omega) (by omega)]
   exact ih (i+1) _ _ (by omega) (seek_step hk hlt (by simpa using h2)) (by simp only [↓reduceIte,reduceCtorEq,Nat.reduceEqDiff,Nat.reduceAdd,Nat.reduceMul,Nat.reduceSub,Nat.reduceLeDiff,Nat.reduceBEq,Int.reduceToNat,Int.reduceLE,Int.reduceLT,Int.reduceEq,Int.reduceNe,di] <;> rfl)
 ·rename_i h
  have:i=l.length:=by omega
  subst this
  rw [seek_end hk]
theorem w_badA {n:Int}:Contract Tryz.prog 199 [.int .i64 n] (.bool (badA n)):=by
 refine contract_run Tryz.func199 k199 rfl ?_
 simp only [body199,b199,res199, ↓reduceIte,reduceCtorEq,Nat.reduceEqDiff,Nat.reduceAdd,Nat.reduceMul,Nat.reduceSub,Nat.reduceLeDiff,Nat.reduceBEq,Int.reduceToNat,Int.reduceLE,Int.reduceLT,Int.reduceEq,Int.reduceNe,di]
 refine calls_of w_within ?_; simp only [res199, ↓reduceIte,reduceCtorEq,Nat.reduceEqDiff,Nat.reduceAdd,Nat.reduceMul,Nat.reduceSub,Nat.reduceLeDiff,Nat.reduceBEq,Int.reduceToNat,Int.reduceLE,Int.reduceLT,Int.reduceEq,Int.reduceNe,di]
 rfl
def Few (x:Ln):Prop:=x.pp.length≤1000000∧x.ar.length≤1000000
theorem w_CheckLine {x:Ln} (hx:Few x):Contract Tryz.prog 100 [lnI x] (e2I (chkL x)):=by
 obtain ⟨hx1,hx2⟩:=hx
 refine contract_run Tryz.func100 k100 rfl ?_
 simp only [body100,b100,res100,b100k0,b100k1,b100k2,b100k3,b100k4,vaE, ↓reduceIte,reduceCtorEq,Nat.reduceEqDiff,Nat.reduceAdd,Nat.reduceMul,Nat.reduceSub,Nat.reduceLeDiff,Nat.reduceBEq,Int.reduceToNat,Int.reduceLE,Int.reduceLT,Int.reduceEq,Int.reduceNe,di]
 refine calls_of w_unless ?_; simp only [vaE,res100,b100k0,b100k1,b100k2,b100k3,b100k4, ↓reduceIte,reduceCtorEq,Nat.reduceEqDiff,Nat.reduceAdd,Nat.reduceMul,Nat.reduceSub,Nat.reduceLeDiff,Nat.reduceBEq,Int.reduceToNat,Int.reduceLE,Int.reduceLT,Int.reduceEq,Int.reduceNe,di]
 refine calls_of w_unless ?_; simp only [vaE,res100,b100k0,b100k1,b100k2,b100k3,b100k4, ↓reduceIte,reduceCtorEq,Nat.reduceEqDiff,Nat.reduceAdd,Nat.reduceMul,Nat.reduceSub,Nat.reduceLeDiff,Nat.reduceBEq,Int.reduceToNat,Int.reduceLE,Int.reduceLT,Int.reduceEq,Int.reduceNe,di]
 rw [wrap64 (n:=(x.pp.length:Int) - 1) (by omega) (by omega)]
 refine calls_of w_unless ?_; simp only [vaE,res100,b100k0,b100k1,b100k2,b100k3,b100k4, ↓reduceIte,reduceCtorEq,Nat.reduceEqDiff,Nat.reduceAdd,Nat.reduceMul,Nat.reduceSub,Nat.reduceLeDiff,Nat.reduceBEq,Int.reduceToNat,Int.reduceLE,Int.reduceLT,Int.reduceEq,Int.reduceNe,di]
 refine calls_of (w_first (l:=[if 0<(x.pp.length:Int) then 0 else 10,if (x.pp.length:Int)≤4 then 0 else 8,if (x.ar.length:Int)=(x.pp.length:Int) - 1 then 0 else 10]) (by simp)) ?_; simp only [vaE,res100,b100k0,b100k1,b100k2,b100k3,b100k4, ↓reduceIte,reduceCtorEq,Nat.reduceEqDiff,Nat.reduceAdd,Nat.reduceMul,Nat.reduceSub,Nat.reduceLeDiff,Nat.reduceBEq,Int.reduceToNat,Int.reduceLE,Int.reduceLT,Int.reduceEq,Int.reduceNe,di]
 show (if lenE x=0 then _ else _)
 split
 rotate_left
 ·rename_i h
  unfold chkL
  rw [if_pos h]
  rfl
 rename_i h0
 refine loop_keep (α:=Nat) rfl (fun i=>x.pp.length - i) (fun i=>Seek badP x.pp i)
  (fun i=>[(1,.ref 1 0),(33,.imm (.slc 2 (x.pp.map ppI))),(34,.imm (.int .i64 x.pp.length)),(35,.imm (.int .i64 i))]) (fun _=>[(1,.box [.imm (.slc 2 (x.pp.map ppI)),.imm (nI x.ar)])]) 0 seek_zero (by simp only [vaE, ↓reduceIte,reduceCtorEq,Nat.reduceEqDiff,Nat.reduceAdd,Nat.reduceMul,Nat.reduceSub,Nat.reduceLeDiff,Nat.reduceBEq,Int.reduceToNat,Int.reduceLE,Int.reduceLT,Int.reduceEq,Int.reduceNe,di] <;> rfl) ?_
 intro i hk ih
 have hi:=hk.1
 simp only [res100,b100k0,b100k1,b100k2,b100k3,b100k4,vaE, ↓reduceIte,reduceCtorEq,Nat.reduceEqDiff,Nat.reduceAdd,Nat.reduceMul,Nat.reduceSub,Nat.reduceLeDiff,Nat.reduceBEq,Int.reduceToNat,Int.reduceLE,Int.reduceLT,Int.reduceEq,Int.reduceNe,di]
 split
 ·rename_i h
  have hlt:i<x.pp.length:=by omega
  repeat (refine And.intro (by omega) ?_)
  refine calls_of w_within ?_; simp only [vaE,res100,b100k0,b100k1,b100k2,b100k3,b100k4, ↓reduceIte,reduceCtorEq,Nat.reduceEqDiff,Nat.reduceAdd,Nat.reduceMul,Nat.reduceSub,Nat.reduceLeDiff,Nat.reduceBEq,Int.reduceToNat,Int.reduceLE,Int.reduceLT,Int.reduceEq,Int.reduceNe,di]
  have hbad:badP (x.pp.getD i default)=true→chkL x=((i:Int),2):=by
   intro hb
   have hit:=seek_hit hk hlt hb
   unfold chkL
   rw [if_neg (fun k=>k h0),hit,if_pos (by omega)]
  split
  rotate_left
  ·rename_i h1
   rw [hbad (badP_true fun k=>h1 k.1)]
  rename_i h1
  refine calls_of w_within ?_; simp only [vaE,res100,b100k0,b100k1,b100k2,b100k3,b100k4, ↓reduceIte,reduceCtorEq,Nat.reduceEqDiff,Nat.reduceAdd,Nat.reduceMul,Nat.reduceSub,Nat.reduceLeDiff,Nat.reduceBEq,Int.reduceToNat,Int.reduceLE,Int.reduceLT,Int.reduceEq,Int.reduceNe,di]
  split
  rotate_left
  ·rename_i h2
   rw [hbad (badP_true fun k=>h2 k.2)]
  rename_i h2
  rw [wrap64 (by omega) (by omega)]
  exact ih (i+1) _ _ (by omega) (seek_step hk hlt (badP_false.2 ⟨h1,h2⟩)) (by simp only [vaE, ↓reduceIte,reduceCtorEq,Nat.reduceEqDiff,Nat.reduceAdd,Nat.reduceMul,Nat.reduceSub,Nat.reduceLeDiff,Nat.reduceBEq,Int.reduceToNat,Int.reduceLE,Int.reduceLT,Int.reduceEq,Int.reduceNe,di] <;> rfl)
 ·rename_i h
  have:i=x.pp.length:=by omega
  subst this
  have hno:=seek_end hk
  refine calls_of (w_IndexInt (p:=badA) (by omega) fun n _=>w_badA) ?_; simp only [res100,b100k0,b100k1,b100k2,b100k3,b100k4,vaE, ↓reduceIte,reduceCtorEq,Nat.reduceEqDiff,Nat.reduceAdd,Nat.reduceMul,Nat.reduceSub,Nat.reduceLeDiff,Nat.reduceBEq,Int.reduceToNat,Int.reduceLE,Int.reduceLT,Int.reduceEq,Int.reduceNe,di]
  have e:chkL x=if 0≤idxF badA x.ar then (idxF badA x.ar,2) else (0,0):=by
   unfold chkL
   rw [if_neg (fun k=>k h0),if_neg (fun k=>k hno)]
  rw [e]
  split <;> rfl
theorem w_open {x:Ln} (hx:Few x):Contract Tryz.prog 145 [lnI x] (if (chkL x).2=0 then .tup [owI (opn x),.int .i64 0] else .tup [owI ⟨[],[],[],0⟩,.int .i64 (chkL x).2]):=by
 refine contract_run Tryz.func145 k145 rfl ?_
 simp only [body145,b145,res145,b145k0,b145k1,b145k2,vaE, ↓reduceIte,reduceCtorEq,Nat.reduceEqDiff,Nat.reduceAdd,Nat.reduceMul,Nat.reduceSub,Nat.reduceLeDiff,Nat.reduceBEq,Int.reduceToNat,Int.reduceLE,Int.reduceLT,Int.reduceEq,Int.reduceNe,di]
 refine calls_of (w_CheckLine hx) ?_; simp only [vaE,res145,b145k0,b145k1,b145k2, ↓reduceIte,reduceCtorEq,Nat.reduceEqDiff,Nat.reduceAdd,Nat.reduceMul,Nat.reduceSub,Nat.reduceLeDiff,Nat.reduceBEq,Int.reduceToNat,Int.reduceLE,Int.reduceLT,Int.reduceEq,Int.reduceNe,di]
 split
 rotate_left
 ·rename_i h
  rfl
 rename_i h0
 have hok:=chkL_ok.1 h0
 have hl:=hok.len
 refine loop_keep (α:=Nat) rfl (fun i=>x.pp.length - i) (fun i=>i≤x.pp.length)
  (fun i=>[(2,.ref 2 0),(6,.ref 6 0),(21,.imm (.slc 2 (x.pp.map ppI))),(22,.imm (.int .i64 x.pp.length)),(23,.imm (.int .i64 i))])
  (fun i=>[(2,.box [.imm (.slc 2 []),.imm (.slc 1 []),.imm (.slc 1 []),.imm (.int .i64 0)]),(6,.box [.imm (.slc 2 (x.pp.map ppI)),.imm (nI x.ar),.own 1006,.imm (.int .i64 (cellsN (x.pp.take i)))]),(1006,.tok 1 (((begL 0 x.pp).take i).map (.int .i64)))]) 0 (Nat.zero_le _) (by simp only [vaE, ↓reduceIte,reduceCtorEq,Nat.reduceEqDiff,Nat.reduceAdd,Nat.reduceMul,Nat.reduceSub,Nat.reduceLeDiff,Nat.reduceBEq,Int.reduceToNat,Int.reduceLE,Int.reduceLT,Int.reduceEq,Int.reduceNe,di] <;> rfl) ?_
 intro i hi ih
 have hb:=begL_length x.pp 0
 have hc:=cellsN_bd (x.pp.take i) fun p hp=>(hok.pip p (List.mem_of_mem_take hp)).1
 have hct:=List.length_take (i:=i) (l:=x.pp)
 simp only [res145,b145k0,b145k1,b145k2,vaE, ↓reduceIte,reduceCtorEq,Nat.reduceEqDiff,Nat.reduceAdd,Nat.reduceMul,Nat.reduceSub,Nat.reduceLeDiff,Nat.reduceBEq,Int.reduceToNat,Int.reduceLE,Int.reduceLT,Int.reduceEq,Int.reduceNe,di]
 split
 ·rename_i h
  have hlt:i<x.pp.length:=by omega
  have hp:=hok.pip _ (getD_mem (d:=default) hlt)
  repeat (refine And.intro (by first | omega | exact all_int _ | (simp only [zeros_len,List.length_append,List.length_take,List.length_drop,List.length_set,List.length_cons,List.length_nil,List.length_map]; omega)) ?_)
  rw [wrap64 (n:=cellsN (x.pp.take i)+(x.pp.getD i default).fst) (by omega) (by omega),wrap64 (n:=(i:Int)+1) (by omega) (by omega)]
  refine ih (i+1) _ _ (by omega) (by omega) ?_
  rw [← begL_step hlt,cellsN_step hlt]
  simp only [vaE, ↓reduceIte,reduceCtorEq,Nat.reduceEqDiff,Nat.reduceAdd,Nat.reduceMul,Nat.reduceSub,Nat.reduceLeDiff,Nat.reduceBEq,Int.reduceToNat,Int.reduceLE,Int.reduceLT,Int.reduceEq,Int.reduceNe,di] <;> rfl
 ·rename_i h
  have:i=x.pp.length:=by omega
  subst this
  rw [List.take_of_length_le (l:=begL 0 x.pp) (by omega),List.take_length]
  rfl
theorem w_sz {n:Int}:Contract Tryz.prog 136 [.int .i64 n,.int .i64 1000000] (.bool (szOk n)):=w_isSized (by omega)
def FewS (s:Ws):Prop:=s.F.length≤1000000∧s.B.length≤1000000∧s.L.length≤1000000
theorem w_stateErr {x:Ow} {s:Ws} (hs:FewS s):Contract Tryz.prog 284 [owI x,wsI s] (e2I (chkS x s)):=by
 obtain ⟨hs1,hs2,hs3⟩:=hs
 refine contract_run Tryz.func284 k284 rfl ?_
 simp only [body284,b284,res284,b284k0,b284k1,b284k2,b284k3,b284k4,b284k5,b284k6,vaE, ↓reduceIte,reduceCtorEq,Nat.reduceEqDiff,Nat.reduceAdd,Nat.reduceMul,Nat.reduceSub,Nat.reduceLeDiff,Nat.reduceBEq,Int.reduceToNat,Int.reduceLE,Int.reduceLT,Int.reduceEq,Int.reduceNe,di]
 split
 rotate_left
 ·rename_i h
  unfold chkS
  rw [if_pos (fun k=>h ⟨k.1,k.2.1,by omega⟩)]
 rename_i h0
 obtain ⟨e1,e2,e3⟩:=h0
 have hz:(s.F.zip s.B).length=s.F.length:=by rw [List.length_zip]; omega
 have hd:∀ i,i<s.F.length→(s.F.zip s.B).getD i default=(s.F.getD i 0,s.B.getD i 0):=by
  intro i hi
  simp only [List.getD_eq_getElem?_getD]
  rw [List.getElem?_eq_getElem (by omega),List.getElem?_eq_getElem hi,List.getElem?_eq_getElem (show i<s.B.length by omega)]
  simp
 refine loop_keep (α:=Nat) rfl (fun i=>s.F.length - i) (fun i=>Seek badS (s.F.zip s.B) i)
  (fun i=>[(3,.ref 3 0),(35,.imm (nI s.F)),(36,.imm (.int .i64 s.F.length)),(37,.imm (.int .i64 i))]) (fun _=>[(3,.box [.imm (nI s.F),.imm (nI s.B),.imm (nI s.L)])]) 0 seek_zero (by simp only [vaE, ↓reduceIte,reduceCtorEq,Nat.reduceEqDiff,Nat.reduceAdd,Nat.reduceMul,Nat.reduceSub,Nat.reduceLeDiff,Nat.reduceBEq,Int.reduceToNat,Int.reduceLE,Int.reduceLT,Int.reduceEq,Int.reduceNe,di] <;> rfl) ?_
 intro i hk ih
 have hi:=hk.1
 simp only [res284,b284k0,b284k1,b284k2,b284k3,b284k4,b284k5,b284k6,vaE, ↓reduceIte,reduceCtorEq,Nat.reduceEqDiff,Nat.reduceAdd,Nat.reduceMul,Nat.reduceSub,Nat.reduceLeDiff,Nat.reduceBEq,Int.reduceToNat,Int.reduceLE,Int.reduceLT,Int.reduceEq,Int.reduceNe,di]
 split
 ·rename_i h
  have hlt:i<s.F.length:=by omega
  have hbad:badS (s.F.getD i 0,s.B.getD i 0)=true→chkS x s=((i:Int),2):=by
   intro hb
   have hit:=seek_hit hk (by omega) (by rw [hd i hlt]; exact hb)
   unfold chkS
   rw [if_neg (fun k=>k ⟨e1,e2,by omega⟩),hit,if_pos (by omega)]
  repeat (refine And.intro (by omega) ?_)
  refine calls_of w_sz ?_; simp only [vaE,res284,b284k0,b284k1,b284k2,b284k3,b284k4,b284k5,b284k6, ↓reduceIte,reduceCtorEq,Nat.reduceEqDiff,Nat.reduceAdd,Nat.reduceMul,Nat.reduceSub,Nat.reduceLeDiff,Nat.reduceBEq,Int.reduceToNat,Int.reduceLE,Int.reduceLT,Int.reduceEq,Int.reduceNe,di]
  by_cases h1:szOk (s.F.getD i 0)=true
  rotate_left
  ·simp only [h1,vaE, ↓reduceIte,reduceCtorEq,Nat.reduceEqDiff,Nat.reduceAdd,Nat.reduceMul,Nat.reduceSub,Nat.reduceLeDiff,Nat.reduceBEq,Int.reduceToNat,Int.reduceLE,Int.reduceLT,Int.reduceEq,Int.reduceNe,di]
   rw [hbad (badS_l h1)]
  simp only [h1,vaE, ↓reduceIte,reduceCtorEq,Nat.reduceEqDiff,Nat.reduceAdd,Nat.reduceMul,Nat.reduceSub,Nat.reduceLeDiff,Nat.reduceBEq,Int.reduceToNat,Int.reduceLE,Int.reduceLT,Int.reduceEq,Int.reduceNe,di]
  repeat (refine And.intro (by omega) ?_)
  refine calls_of w_sz ?_; simp only [vaE,res284,b284k0,b284k1,b284k2,b284k3,b284k4,b284k5,b284k6, ↓reduceIte,reduceCtorEq,Nat.reduceEqDiff,Nat.reduceAdd,Nat.reduceMul,Nat.reduceSub,Nat.reduceLeDiff,Nat.reduceBEq,Int.reduceToNat,Int.reduceLE,Int.reduceLT,Int.reduceEq,Int.reduceNe,di]
  by_cases h2:szOk (s.B.getD i 0)=true
  rotate_left
  ·simp only [h2,vaE, ↓reduceIte,reduceCtorEq,Nat.reduceEqDiff,Nat.reduceAdd,Nat.reduceMul,Nat.reduceSub,Nat.reduceLeDiff,Nat.reduceBEq,Int.reduceToNat,Int.reduceLE,Int.reduceLT,Int.reduceEq,Int.reduceNe,di]
   rw [hbad (badS_r h2)]
  simp only [h2,vaE, ↓reduceIte,reduceCtorEq,Nat.reduceEqDiff,Nat.reduceAdd,Nat.reduceMul,Nat.reduceSub,Nat.reduceLeDiff,Nat.reduceBEq,Int.reduceToNat,Int.reduceLE,Int.reduceLT,Int.reduceEq,Int.reduceNe,di]
  rw [wrap64 (by omega) (by omega)]
  exact ih (i+1) _ _ (by omega) (seek_step hk (by omega) (by rw [hd i hlt]; exact badS_no h1 h2)) (by simp only [vaE, ↓reduceIte,reduceCtorEq,Nat.reduceEqDiff,Nat.reduceAdd,Nat.reduceMul,Nat.reduceSub,Nat.reduceLeDiff,Nat.reduceBEq,Int.reduceToNat,Int.reduceLE,Int.reduceLT,Int.reduceEq,Int.reduceNe,di] <;> rfl)
 ·rename_i h
  have:i=s.F.length:=by omega
  subst this
  have hno:idxF badS (s.F.zip s.B) = -1:=seek_end (by rw [hz]; exact hk)
  have he:chkS x s=if idxF (fun n => !szOk n) s.L ≠ -1 then (idxF (fun n => !szOk n) s.L,2) else (0,0):=by
   unfold chkS
   rw [if_neg (fun k=>k ⟨e1,e2,by omega⟩),if_neg (fun k=>k hno)]
  rw [he]
  clear ih hk
  refine loop_keep (α:=Nat) rfl (fun i=>s.L.length - i) (fun i=>Seek (fun n => !szOk n) s.L i)
   (fun i=>[(57,.imm (nI s.L)),(58,.imm (.int .i64 s.L.length)),(59,.imm (.int .i64 i))]) (fun _=>[]) 0 seek_zero (by simp only [vaE, ↓reduceIte,reduceCtorEq,Nat.reduceEqDiff,Nat.reduceAdd,Nat.reduceMul,Nat.reduceSub,Nat.reduceLeDiff,Nat.reduceBEq,Int.reduceToNat,Int.reduceLE,Int.reduceLT,Int.reduceEq,Int.reduceNe,di] <;> rfl) ?_
  intro i hk ih
  have hi:=hk.1
  simp only [res284,b284k0,b284k1,b284k2,b284k3,b284k4,b284k5,b284k6,vaE, ↓reduceIte,reduceCtorEq,Nat.reduceEqDiff,Nat.reduceAdd,Nat.reduceMul,Nat.reduceSub,Nat.reduceLeDiff,Nat.reduceBEq,Int.reduceToNat,Int.reduceLE,Int.reduceLT,Int.reduceEq,Int.reduceNe,di]
  split
  ·rename_i h
   have hlt:i<s.L.length:=by omega
   repeat (refine And.intro (by omega) ?_)
   refine calls_of w_sz ?_; simp only [vaE,res284,b284k0,b284k1,b284k2,b284k3,b284k4,b284k5,b284k6, ↓reduceIte,reduceCtorEq,Nat.reduceEqDiff,Nat.reduceAdd,Nat.reduceMul,Nat.reduceSub,Nat.reduceLeDiff,Nat.reduceBEq,Int.reduceToNat,Int.reduceLE,Int.reduceLT,Int.reduceEq,Int.reduceNe,di]
   by_cases h1:szOk (s.L.getD i 0)=true
   ·simp only [h1,vaE, ↓reduceIte,reduceCtorEq,Nat.reduceEqDiff,Nat.reduceAdd,Nat.reduceMul,Nat.reduceSub,Nat.reduceLeDiff,Nat.reduceBEq,Int.reduceToNat,Int.reduceLE,Int.reduceLT,Int.reduceEq,Int.reduceNe,di]
    rw [wrap64 (by omega) (by omega)]
    exact ih (i+1) _ _ (by omega) (seek_step hk (by omega) (by show (!szOk (s.L.getD i 0))=false; rw [h1]; rfl)) (by simp only [vaE, ↓reduceIte,reduceCtorEq,Nat.reduceEqDiff,Nat.reduceAdd,Nat.reduceMul,Nat.reduceSub,Nat.reduceLeDiff,Nat.reduceBEq,Int.reduceToNat,Int.reduceLE,Int.reduceLT,Int.reduceEq,Int.reduceNe,di] <;> rfl)
   ·simp only [h1,vaE, ↓reduceIte,reduceCtorEq,Nat.reduceEqDiff,Nat.reduceAdd,Nat.reduceMul,Nat.reduceSub,Nat.reduceLeDiff,Nat.reduceBEq,Int.reduceToNat,Int.reduceLE,Int.reduceLT,Int.reduceEq,Int.reduceNe,di]
    rw [seek_hit hk hlt (by show (!szOk (s.L.getD i 0))=true; simp only [h1]; rfl),if_pos (by omega)]
  ·rename_i h
   have:i=s.L.length:=by omega
   subst this
   rw [seek_end hk]
   rfl
theorem w_openState {x:Ln} {s:Ws} (hx:Few x) (hs:FewS s):Contract Tryz.prog 225 [lnI x,wsI s] (.tup [owI (opnE x),.int .i64 (stE x s)]):=by
 refine contract_run Tryz.func225 k225 rfl ?_
 simp only [body225,b225,res225,b225k0,vaE, ↓reduceIte,reduceCtorEq,Nat.reduceEqDiff,Nat.reduceAdd,Nat.reduceMul,Nat.reduceSub,Nat.reduceLeDiff,Nat.reduceBEq,Int.reduceToNat,Int.reduceLE,Int.reduceLT,Int.reduceEq,Int.reduceNe,di]
 have ho:=w_open hx
 unfold stE opnE
 by_cases h0:(chkL x).2=0
 ·rw [if_pos h0] at ho ⊢
  rw [if_pos h0]
  refine calls_of ho ?_; simp only [vaE,res225,b225k0, ↓reduceIte,reduceCtorEq,Nat.reduceEqDiff,Nat.reduceAdd,Nat.reduceMul,Nat.reduceSub,Nat.reduceLeDiff,Nat.reduceBEq,Int.reduceToNat,Int.reduceLE,Int.reduceLT,Int.reduceEq,Int.reduceNe,di]
  refine calls_of (w_stateErr (x:=opn x) hs) ?_; simp only [vaE,res225,b225k0, ↓reduceIte,reduceCtorEq,Nat.reduceEqDiff,Nat.reduceAdd,Nat.reduceMul,Nat.reduceSub,Nat.reduceLeDiff,Nat.reduceBEq,Int.reduceToNat,Int.reduceLE,Int.reduceLT,Int.reduceEq,Int.reduceNe,di]
 ·rw [if_neg h0] at ho ⊢
  rw [if_neg h0]
  refine calls_of ho ?_; simp only [vaE,res225,b225k0, ↓reduceIte,reduceCtorEq,Nat.reduceEqDiff,Nat.reduceAdd,Nat.reduceMul,Nat.reduceSub,Nat.reduceLeDiff,Nat.reduceBEq,Int.reduceToNat,Int.reduceLE,Int.reduceLT,Int.reduceEq,Int.reduceNe,di]
  simp only [h0,vaE, ↓reduceIte,reduceCtorEq,Nat.reduceEqDiff,Nat.reduceAdd,Nat.reduceMul,Nat.reduceSub,Nat.reduceLeDiff,Nat.reduceBEq,Int.reduceToNat,Int.reduceLE,Int.reduceLT,Int.reduceEq,Int.reduceNe,di]
theorem w_closedErr {n:Int}:Contract Tryz.prog 226 [.int .i64 n] (.int .i64 (closeE n)):=by
 refine contract_run Tryz.func226 k226 rfl ?_
 simp only [body226,b226,res226, ↓reduceIte,reduceCtorEq,Nat.reduceEqDiff,Nat.reduceAdd,Nat.reduceMul,Nat.reduceSub,Nat.reduceLeDiff,Nat.reduceBEq,Int.reduceToNat,Int.reduceLE,Int.reduceLT,Int.reduceEq,Int.reduceNe,di]
 refine calls_of (w_isSized (by omega)) ?_; simp only [res226, ↓reduceIte,reduceCtorEq,Nat.reduceEqDiff,Nat.reduceAdd,Nat.reduceMul,Nat.reduceSub,Nat.reduceLeDiff,Nat.reduceBEq,Int.reduceToNat,Int.reduceLE,Int.reduceLT,Int.reduceEq,Int.reduceNe,di]
 refine calls_of w_unless ?_; simp only [res226, ↓reduceIte,reduceCtorEq,Nat.reduceEqDiff,Nat.reduceAdd,Nat.reduceMul,Nat.reduceSub,Nat.reduceLeDiff,Nat.reduceBEq,Int.reduceToNat,Int.reduceLE,Int.reduceLT,Int.reduceEq,Int.reduceNe,di]
 unfold closeE
 simp
theorem w_ticksErr {n:Int}:Contract Tryz.prog 249 [.int .i64 n] (.int .i64 (ticksE n)):=by
 refine contract_run Tryz.func249 k249 rfl ?_
 simp only [body249,b249,res249, ↓reduceIte,reduceCtorEq,Nat.reduceEqDiff,Nat.reduceAdd,Nat.reduceMul,Nat.reduceSub,Nat.reduceLeDiff,Nat.reduceBEq,Int.reduceToNat,Int.reduceLE,Int.reduceLT,Int.reduceEq,Int.reduceNe,di]
 refine calls_of w_within ?_; simp only [res249, ↓reduceIte,reduceCtorEq,Nat.reduceEqDiff,Nat.reduceAdd,Nat.reduceMul,Nat.reduceSub,Nat.reduceLeDiff,Nat.reduceBEq,Int.reduceToNat,Int.reduceLE,Int.reduceLT,Int.reduceEq,Int.reduceNe,di]
 refine calls_of w_unless ?_; simp only [res249, ↓reduceIte,reduceCtorEq,Nat.reduceEqDiff,Nat.reduceAdd,Nat.reduceMul,Nat.reduceSub,Nat.reduceLeDiff,Nat.reduceBEq,Int.reduceToNat,Int.reduceLE,Int.reduceLT,Int.reduceEq,Int.reduceNe,di]
 unfold ticksE
 simp
theorem w_at {law:List Int} {t:Nat} (h:law.length≤1000000) (ht:t≤1000000):Contract Tryz.prog 252 [nI law,.int .i64 t] (.int .i64 (atL law t)):=by
 refine contract_run Tryz.func252 k252 rfl ?_
 simp only [body252,b252,res252,b252k0,vaE, ↓reduceIte,reduceCtorEq,Nat.reduceEqDiff,Nat.reduceAdd,Nat.reduceMul,Nat.reduceSub,Nat.reduceLeDiff,Nat.reduceBEq,Int.reduceToNat,Int.reduceLE,Int.reduceLT,Int.reduceEq,Int.reduceNe,di]
 split
 ·rename_i h0
  have:law=[]:=List.length_eq_zero_iff.1 (by omega)
  subst this
  rfl
 ·rename_i h0
  rw [wrap64 (by omega) (by omega)]
  refine ⟨by omega,by omega,?_⟩
  rw [show (min (t:Int) ((law.length:Int) - 1)).toNat=min t (law.length - 1) by omega]
  rfl
end Go.DI


/- The statement WaveTicks, as a contract; states and ticks in the reference. No condition. -/
import Derived.Test.YtaphhpphfffnfaaGreatDoorTar
set_option linter.unusedSimpArgs false
set_option maxRecDepth 100000
namespace Go.DI
open Go.Proofs Go.RowKit
def ofL:Nat→List Pp→List Int
 | _,[]=>[]
 | k,p :: r=>List.replicate p.1.toNat (k:Int) ++ ofL (k+1) r
theorem ofL_length:∀ (l:List Pp) (k:Nat),(∀ p ∈ l,1≤p.1∧p.1≤6)→((ofL k l).length:Int)=cellsN l
 | [],_,_=>rfl
 | p :: r,k,h=>by
  have h1:=h p (by simp)
  have h2:=ofL_length r (k+1) fun q hq=>h q (by simp [hq])
  simp only [ofL,List.length_append,List.length_replicate,cellsN]
  omega
theorem ofL_append:∀ (l m:List Pp) (k:Nat),ofL k (l ++ m)=ofL k l ++ ofL (k+l.length) m
 | [],m,k=>by simp [ofL]
 | p :: r,m,k=>by
  simp only [List.cons_append,ofL,ofL_append r m (k+1),List.length_cons,List.append_assoc]
  rw [show k+1+r.length=k+(r.length+1) by omega]
theorem r_Of {x:Ln} (hx:LineOk x):Contract Tryz.prog 144 [lnI x] (nI (ofL 0 x.pp)):=by
 have hl:=hx.len
 refine contract_run Tryz.func144 k144 rfl ?_
 simp only [body144,b144,res144,b144k0,b144k1,b144k2,b144k3,vaE, ↓reduceIte,reduceCtorEq,Nat.reduceEqDiff,Nat.reduceAdd,Nat.reduceMul,Nat.reduceSub,Nat.reduceLeDiff,Nat.reduceBEq,Int.reduceToNat,Int.reduceLE,Int.reduceLT,Int.reduceEq,Int.reduceNe,di]
 refine loop_keep (α:=Nat) rfl (fun k=>x.pp.length - k) (fun k=>k≤x.pp.length)
  (fun k=>[(1,.ref 1 0),(3,.own 3),(4,.imm (.int .i64 k))]) (fun k=>[(1,.box [.imm (.slc 2 (x.pp.map ppI)),.imm (nI x.ar)]),(3,.tok 1 ((ofL 0 (x.pp.take k)).map (.int .i64)))]) 0 (Nat.zero_le _) (by simp only [vaE, ↓reduceIte,reduceCtorEq,Nat.reduceEqDiff,Nat.reduceAdd,Nat.reduceMul,Nat.reduceSub,Nat.reduceLeDiff,Nat.reduceBEq,Int.reduceToNat,Int.reduceLE,Int.reduceLT,Int.reduceEq,Int.reduceNe,di] <;> rfl) ?_
 intro k hk ih
 have hb1:=ofL_length (x.pp.take k) 0 fun p hp=>(hx.pip p (List.mem_of_mem_take hp)).1
 have hb2:=cellsN_bd (x.pp.take k) fun p hp=>(hx.pip p (List.mem_of_mem_take hp)).1
 have hb3:=List.length_take (i:=k) (l:=x.pp)
 simp only [res144,b144k0,b144k1,b144k2,b144k3,vaE, ↓reduceIte,reduceCtorEq,Nat.reduceEqDiff,Nat.reduceAdd,Nat.reduceMul,Nat.reduceSub,Nat.reduceLeDiff,Nat.reduceBEq,Int.reduceToNat,Int.reduceLE,Int.reduceLT,Int.reduceEq,Int.reduceNe,di]
 split
 ·rename_i h
  have hlt:k<x.pp.length:=by omega
  have hp:=hx.pip _ (getD_mem (d:=default) hlt)
  refine loop_keep (α:=Nat) rfl (fun n=>(x.pp.getD k default).1.toNat - n) (fun n=>(n:Int)≤(x.pp.getD k default).1)
   (fun n=>[(1,.ref 1 0),(3,.own 3),(4,.imm (.int .i64 k)),(5,.imm (.int .i64 n))]) (fun n=>[(1,.box [.imm (.slc 2 (x.pp.map ppI)),.imm (nI x.ar)]),(3,.tok 1 ((ofL 0 (x.pp.take k) ++ List.replicate n (k:Int)).map (.int .i64)))]) 0 (by omega) (by simp only [List.replicate_zero,List.append_nil,vaE, ↓reduceIte,reduceCtorEq,Nat.reduceEqDiff,Nat.reduceAdd,Nat.reduceMul,Nat.reduceSub,Nat.reduceLeDiff,Nat.reduceBEq,Int.reduceToNat,Int.reduceLE,Int.reduceLT,Int.reduceEq,Int.reduceNe,di] <;> rfl) ?_
  intro n hn ih2
  simp only [res144,b144k0,b144k1,b144k2,b144k3,vaE, ↓reduceIte,reduceCtorEq,Nat.reduceEqDiff,Nat.reduceAdd,Nat.reduceMul,Nat.reduceSub,Nat.reduceLeDiff,Nat.reduceBEq,Int.reduceToNat,Int.reduceLE,Int.reduceLT,Int.reduceEq,Int.reduceNe,di]
  repeat (refine And.intro (by first | omega | exact all_int _ | (simp only [zeros_len,List.length_append,List.length_take,List.length_drop,List.length_set,List.length_cons,List.length_nil,List.length_map]; omega)) ?_)
  split
  ·rename_i h2
   refine And.intro ?_ (And.intro ?_ ?_)
   ·simp only [List.length_append,List.length_replicate]; omega
   ·simp only [List.length_append,List.length_replicate]; omega
   rw [wrap64 (by omega) (by omega)]
   refine ih2 (n+1) _ _ (by omega) (by omega) ?_
   rw [List.replicate_succ',← List.append_assoc]
   simp only [vaE, ↓reduceIte,reduceCtorEq,Nat.reduceEqDiff,Nat.reduceAdd,Nat.reduceMul,Nat.reduceSub,Nat.reduceLeDiff,Nat.reduceBEq,Int.reduceToNat,Int.reduceLE,Int.reduceLT,Int.reduceEq,Int.reduceNe,di] <;> rfl
  ·rename_i h2
   have hne:(n:Int)=(x.pp.getD k default).1:=by omega
   rw [wrap64 (by omega) (by omega)]
   refine ih (k+1) _ _ (by omega) (by omega) ?_
   have e:x.pp.take (k+1)=x.pp.take k ++ [x.pp.getD k default]:=by
    rw [List.take_succ_eq_append_getElem hlt]
    simp [List.getD_eq_getElem?_getD,hlt]
   rw [e,ofL_append,hb3,Nat.min_eq_left (by omega),Nat.zero_add]
   simp only [ofL,List.append_nil]
   rw [← hne,Int.toNat_natCast]
   simp only [vaE, ↓reduceIte,reduceCtorEq,Nat.reduceEqDiff,Nat.reduceAdd,Nat.reduceMul,Nat.reduceSub,Nat.reduceLeDiff,Nat.reduceBEq,Int.reduceToNat,Int.reduceLE,Int.reduceLT,Int.reduceEq,Int.reduceNe,di] <;> rfl
 ·rename_i h
  have:k=x.pp.length:=by omega
  subst this
  rw [List.take_length]
theorem r_Cells {x:Ln} (hx:LineOk x):Contract Tryz.prog 59 [lnI x] (.int .i64 (opn x).n):=by
 have h:=ofL_length x.pp 0 fun p hp=>(hx.pip p hp).1
 refine contract_run Tryz.func59 k59 rfl ?_
 simp only [body59,b59,res59,vaE, ↓reduceIte,reduceCtorEq,Nat.reduceEqDiff,Nat.reduceAdd,Nat.reduceMul,Nat.reduceSub,Nat.reduceLeDiff,Nat.reduceBEq,Int.reduceToNat,Int.reduceLE,Int.reduceLT,Int.reduceEq,Int.reduceNe,di]
 refine calls_of (r_Of hx) ?_; simp only [vaE,res59, ↓reduceIte,reduceCtorEq,Nat.reduceEqDiff,Nat.reduceAdd,Nat.reduceMul,Nat.reduceSub,Nat.reduceLeDiff,Nat.reduceBEq,Int.reduceToNat,Int.reduceLE,Int.reduceLT,Int.reduceEq,Int.reduceNe,di]
 rw [h]
 rfl
theorem c_sz {n:Int}:Contract Tryz.prog 47 [.int .i64 n,.int .i64 (-1000000),.int .i64 1000000] (.bool (szOk n)):=c_Within
theorem r_CheckState {x:Ln} {s:Ws} (hx:LineOk x) (hs:FewS s):Contract Tryz.prog 151 [lnI x,wsI s] (e2I (chkS (opn x) s)):=by
 obtain ⟨hs1,hs2,hs3⟩:=hs
 have hl:=hx.len
 have hnb:=(opn_ok hx).nb
 refine contract_run Tryz.func151 k151 rfl ?_
 simp only [body151,b151,res151,b151k0,b151k1,b151k2,b151k3,b151k4,b151k5,b151k6,vaE, ↓reduceIte,reduceCtorEq,Nat.reduceEqDiff,Nat.reduceAdd,Nat.reduceMul,Nat.reduceSub,Nat.reduceLeDiff,Nat.reduceBEq,Int.reduceToNat,Int.reduceLE,Int.reduceLT,Int.reduceEq,Int.reduceNe,di]
 refine calls_of (r_Cells hx) ?_; simp only [vaE,res151,b151k0,b151k1,b151k2,b151k3,b151k4,b151k5,b151k6, ↓reduceIte,reduceCtorEq,Nat.reduceEqDiff,Nat.reduceAdd,Nat.reduceMul,Nat.reduceSub,Nat.reduceLeDiff,Nat.reduceBEq,Int.reduceToNat,Int.reduceLE,Int.reduceLT,Int.reduceEq,Int.reduceNe,di]
 split
 rotate_left
 ·rename_i h
  unfold chkS
  rw [if_pos (fun k=>h ⟨k.1,k.2.1,by have:=k.2.2; show (s.L.length:Int)=(x.ar.length:Int); rw [this]; rfl⟩)]
 rename_i h0
 obtain ⟨e1,e2,e3⟩:=h0
 have hz:(s.F.zip s.B).length=s.F.length:=by rw [List.length_zip]; omega
 have hd:∀ i,i<s.F.length→(s.F.zip s.B).getD i default=(s.F.getD i 0,s.B.getD i 0):=by
  intro i hi
  simp only [List.getD_eq_getElem?_getD]
  rw [List.getElem?_eq_getElem (by omega),List.getElem?_eq_getElem hi,List.getElem?_eq_getElem (show i<s.B.length by omega)]
  simp
 have hsh:(s.F.length:Int)=(opn x).n∧(s.B.length:Int)=(opn x).n∧s.L.length=(opn x).ar.length:=⟨e1,e2,by show s.L.length=x.ar.length; omega⟩
 have hnn:(opn x).n=(s.F.length:Int):=e1.symm
 rw [hnn]
 refine loop_keep (α:=Nat) rfl (fun i=>s.F.length - i) (fun i=>Seek badS (s.F.zip s.B) i)
  (fun i=>[(3,.ref 3 0),(6,.imm (.int .i64 s.F.length)),(7,.imm (.int .i64 i))]) (fun _=>[(3,.box [.imm (nI s.F),.imm (nI s.B),.imm (nI s.L)])]) 0 seek_zero (by simp only [vaE, ↓reduceIte,reduceCtorEq,Nat.reduceEqDiff,Nat.reduceAdd,Nat.reduceMul,Nat.reduceSub,Nat.reduceLeDiff,Nat.reduceBEq,Int.reduceToNat,Int.reduceLE,Int.reduceLT,Int.reduceEq,Int.reduceNe,di] <;> rfl) ?_
 intro i hk ih
 have hi:=hk.1
 simp only [res151,b151k0,b151k1,b151k2,b151k3,b151k4,b151k5,b151k6,vaE, ↓reduceIte,reduceCtorEq,Nat.reduceEqDiff,Nat.reduceAdd,Nat.reduceMul,Nat.reduceSub,Nat.reduceLeDiff,Nat.reduceBEq,Int.reduceToNat,Int.reduceLE,Int.reduceLT,Int.reduceEq,Int.reduceNe,di]
 split
 ·rename_i h
  have hlt:i<s.F.length:=by omega
  have hbad:badS (s.F.getD i 0,s.B.getD i 0)=true→chkS (opn x) s=((i:Int),2):=by
   intro hb
   have hit:=seek_hit hk (by omega) (by rw [hd i hlt]; exact hb)
   unfold chkS
   rw [if_neg (fun k=>k hsh),hit,if_pos (by omega)]
  repeat (refine And.intro (by omega) ?_)
  refine calls_of c_sz ?_; simp only [vaE,res151,b151k0,b151k1,b151k2,b151k3,b151k4,b151k5,b151k6, ↓reduceIte,reduceCtorEq,Nat.reduceEqDiff,Nat.reduceAdd,Nat.reduceMul,Nat.reduceSub,Nat.reduceLeDiff,Nat.reduceBEq,Int.reduceToNat,Int.reduceLE,Int.reduceLT,Int.reduceEq,Int.reduceNe,di]
  by_cases h1:szOk (s.F.getD i 0)=true
  rotate_left
  ·simp only [h1,vaE, ↓reduceIte,reduceCtorEq,Nat.reduceEqDiff,Nat.reduceAdd,Nat.reduceMul,Nat.reduceSub,Nat.reduceLeDiff,Nat.reduceBEq,Int.reduceToNat,Int.reduceLE,Int.reduceLT,Int.reduceEq,Int.reduceNe,di]
   rw [hbad (badS_l h1)]
  simp only [h1,vaE, ↓reduceIte,reduceCtorEq,Nat.reduceEqDiff,Nat.reduceAdd,Nat.reduceMul,Nat.reduceSub,Nat.reduceLeDiff,Nat.reduceBEq,Int.reduceToNat,Int.reduceLE,Int.reduceLT,Int.reduceEq,Int.reduceNe,di]
  repeat (refine And.intro (by omega) ?_)
  refine calls_of c_sz ?_; simp only [vaE,res151,b151k0,b151k1,b151k2,b151k3,b151k4,b151k5,b151k6, ↓reduceIte,reduceCtorEq,Nat.reduceEqDiff,Nat.reduceAdd,Nat.reduceMul,Nat.reduceSub,Nat.reduceLeDiff,Nat.reduceBEq,Int.reduceToNat,Int.reduceLE,Int.reduceLT,Int.reduceEq,Int.reduceNe,di]
  by_cases h2:szOk (s.B.getD i 0)=true
  rotate_left
  ·simp only [h2,vaE, ↓reduceIte,reduceCtorEq,Nat.reduceEqDiff,Nat.reduceAdd,Nat.reduceMul,Nat.reduceSub,Nat.reduceLeDiff,Nat.reduceBEq,Int.reduceToNat,Int.reduceLE,Int.reduceLT,Int.reduceEq,Int.reduceNe,di]
   rw [hbad (badS_r h2)]
  simp only [h2,vaE, ↓reduceIte,reduceCtorEq,Nat.reduceEqDiff,Nat.reduceAdd,Nat.reduceMul,Nat.reduceSub,Nat.reduceLeDiff,Nat.reduceBEq,Int.reduceToNat,Int.reduceLE,Int.reduceLT,Int.reduceEq,Int.reduceNe,di]
  rw [wrap64 (by omega) (by omega)]
  exact ih (i+1) _ _ (by omega) (seek_step hk (by omega) (by rw [hd i hlt]; exact badS_no h1 h2)) (by simp only [vaE, ↓reduceIte,reduceCtorEq,Nat.reduceEqDiff,Nat.reduceAdd,Nat.reduceMul,Nat.reduceSub,Nat.reduceLeDiff,Nat.reduceBEq,Int.reduceToNat,Int.reduceLE,Int.reduceLT,Int.reduceEq,Int.reduceNe,di] <;> rfl)
 ·rename_i h
  have:i=s.F.length:=by omega
  subst this
  have hno:idxF badS (s.F.zip s.B) = -1:=seek_end (by rw [hz]; exact hk)
  have he:chkS (opn x) s=if idxF (fun n => !szOk n) s.L ≠ -1 then (idxF (fun n => !szOk n) s.L,2) else (0,0):=by
   unfold chkS
   rw [if_neg (fun k=>k hsh),if_neg (fun k=>k hno)]
  rw [he]
  clear ih hk
  refine loop_keep (α:=Nat) rfl (fun i=>s.L.length - i) (fun i=>Seek (fun n => !szOk n) s.L i)
   (fun i=>[(3,.ref 3 0),(8,.imm (.int .i64 i))]) (fun _=>[(3,.box [.imm (nI s.F),.imm (nI s.B),.imm (nI s.L)])]) 0 seek_zero (by simp only [vaE, ↓reduceIte,reduceCtorEq,Nat.reduceEqDiff,Nat.reduceAdd,Nat.reduceMul,Nat.reduceSub,Nat.reduceLeDiff,Nat.reduceBEq,Int.reduceToNat,Int.reduceLE,Int.reduceLT,Int.reduceEq,Int.reduceNe,di] <;> rfl) ?_
  intro i hk ih
  have hi:=hk.1
  simp only [res151,b151k0,b151k1,b151k2,b151k3,b151k4,b151k5,b151k6,vaE, ↓reduceIte,reduceCtorEq,Nat.reduceEqDiff,Nat.reduceAdd,Nat.reduceMul,Nat.reduceSub,Nat.reduceLeDiff,Nat.reduceBEq,Int.reduceToNat,Int.reduceLE,Int.reduceLT,Int.reduceEq,Int.reduceNe,di]
  split
  ·rename_i h
   have hlt:i<s.L.length:=by omega
   repeat (refine And.intro (by omega) ?_)
   refine calls_of c_sz ?_; simp only [vaE,res151,b151k0,b151k1,b151k2,b151k3,b151k4,b151k5,b151k6, ↓reduceIte,reduceCtorEq,Nat.reduceEqDiff,Nat.reduceAdd,Nat.reduceMul,Nat.reduceSub,Nat.reduceLeDiff,Nat.reduceBEq,Int.reduceToNat,Int.reduceLE,Int.reduceLT,Int.reduceEq,Int.reduceNe,di]
   by_cases h1:szOk (s.L.getD i 0)=true
   ·simp only [h1,vaE, ↓reduceIte,reduceCtorEq,Nat.reduceEqDiff,Nat.reduceAdd,Nat.reduceMul,Nat.reduceSub,Nat.reduceLeDiff,Nat.reduceBEq,Int.reduceToNat,Int.reduceLE,Int.reduceLT,Int.reduceEq,Int.reduceNe,di]
    rw [wrap64 (by omega) (by omega)]
    exact ih (i+1) _ _ (by omega) (seek_step hk (by omega) (by show (!szOk (s.L.getD i 0))=false; rw [h1]; rfl)) (by simp only [vaE, ↓reduceIte,reduceCtorEq,Nat.reduceEqDiff,Nat.reduceAdd,Nat.reduceMul,Nat.reduceSub,Nat.reduceLeDiff,Nat.reduceBEq,Int.reduceToNat,Int.reduceLE,Int.reduceLT,Int.reduceEq,Int.reduceNe,di] <;> rfl)
   ·simp only [h1,vaE, ↓reduceIte,reduceCtorEq,Nat.reduceEqDiff,Nat.reduceAdd,Nat.reduceMul,Nat.reduceSub,Nat.reduceLeDiff,Nat.reduceBEq,Int.reduceToNat,Int.reduceLE,Int.reduceLT,Int.reduceEq,Int.reduceNe,di]
    rw [seek_hit hk hlt (by show (!szOk (s.L.getD i 0))=true; simp only [h1]; rfl),if_pos (by omega)]
  ·rename_i h
   have:i=s.L.length:=by omega
   subst this
   rw [seek_end hk]
   rfl
theorem r_StateErr {x:Ln} {s:Ws} (hx:Few x) (hs:FewS s):Contract Tryz.prog 62 [lnI x,wsI s] (.int .i64 (stE x s)):=by
 refine contract_run Tryz.func62 k62 rfl ?_
 simp only [body62,b62,res62,b62k0,vaE, ↓reduceIte,reduceCtorEq,Nat.reduceEqDiff,Nat.reduceAdd,Nat.reduceMul,Nat.reduceSub,Nat.reduceLeDiff,Nat.reduceBEq,Int.reduceToNat,Int.reduceLE,Int.reduceLT,Int.reduceEq,Int.reduceNe,di]
 refine calls_of (r_LineErr hx) ?_; simp only [vaE,res62,b62k0, ↓reduceIte,reduceCtorEq,Nat.reduceEqDiff,Nat.reduceAdd,Nat.reduceMul,Nat.reduceSub,Nat.reduceLeDiff,Nat.reduceBEq,Int.reduceToNat,Int.reduceLE,Int.reduceLT,Int.reduceEq,Int.reduceNe,di]
 unfold stE
 by_cases h0:(chkL x).2=0
 ·simp only [h0,vaE, ↓reduceIte,reduceCtorEq,Nat.reduceEqDiff,Nat.reduceAdd,Nat.reduceMul,Nat.reduceSub,Nat.reduceLeDiff,Nat.reduceBEq,Int.reduceToNat,Int.reduceLE,Int.reduceLT,Int.reduceEq,Int.reduceNe,di]
  refine calls_of (r_CheckState (chkL_ok.1 h0) hs) ?_; simp only [vaE,res62,b62k0, ↓reduceIte,reduceCtorEq,Nat.reduceEqDiff,Nat.reduceAdd,Nat.reduceMul,Nat.reduceSub,Nat.reduceLeDiff,Nat.reduceBEq,Int.reduceToNat,Int.reduceLE,Int.reduceLT,Int.reduceEq,Int.reduceNe,di]
 ·simp only [h0,vaE, ↓reduceIte,reduceCtorEq,Nat.reduceEqDiff,Nat.reduceAdd,Nat.reduceMul,Nat.reduceSub,Nat.reduceLeDiff,Nat.reduceBEq,Int.reduceToNat,Int.reduceLE,Int.reduceLT,Int.reduceEq,Int.reduceNe,di]
theorem firstNZ_cons {a:Int} {r:List Int}:firstNZ (a :: r)=if a=0 then firstNZ r else a:=rfl
def closesE (cl:List Int):Int:=if 200<(cl.length:Int) then 8 else firstNZ (cl.map closeE)
end Go.DI


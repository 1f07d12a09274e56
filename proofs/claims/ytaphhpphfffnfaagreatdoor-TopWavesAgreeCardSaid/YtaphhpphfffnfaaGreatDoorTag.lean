/- Contracts: a tick. No condition. -/
import Derived.Test.YtaphhpphfffnfaaGreatDoorTaf
set_option linter.unusedSimpArgs false
set_option maxRecDepth 100000
namespace Go.DI
open Go.Proofs Go.RowKit
theorem all_int (l:List Int):((l.map (IV.int .i64)).all fun v => !v.isAgg)=true:=by simp [IV.isAgg]
theorem base_F {n:Nat} {F:List Int} {v:Int} (h:F.length=n) (hn : 1≤n):((zeros n).take 1 ++ (F.take (n - 1) ++ (zeros n).drop (1+min (n - 1) F.length))).set 0 v=v :: F.take (n - 1):=by
 rw [List.drop_of_length_le (by rw [zeros_len]; omega),List.append_nil]
 cases n with
 | zero=>omega
 | succ k =>
  show (List.take 1 (List.replicate (k+1) 0) ++ _).set 0 v=_
  rw [List.replicate_succ]
  rfl
theorem base_B {n:Nat} {B:List Int} {v:Int} (h:B.length=n) (hn : 1≤n):((zeros n).take 0 ++ ((List.drop 1 (B.take B.length)).take n ++ (zeros n).drop (0+min n (List.drop 1 (B.take B.length)).length))).set (n - 1) v=B.drop 1 ++ [v]:=by
 rw [List.take_length,List.take_of_length_le (l:=List.drop 1 B) (by rw [List.length_drop]; omega),List.take_zero,List.nil_append,List.length_drop,h,Nat.zero_add,Nat.min_eq_right (by omega)]
 have e:(zeros n).drop (n - 1)=[0]:=by
  unfold zeros
  rw [List.drop_replicate,show n - (n - 1)=1 by omega]
  rfl
 rw [e]
 rw [List.set_append_right _ _ (by rw [List.length_drop]; omega),List.length_drop,h,Nat.sub_self]
 rfl
theorem w_stepped {x:Ow} {s:Ws} {c:Int} (hx:OwOk x) (hs:Sh x s):Contract Tryz.prog 227 [owI x,wsI s,.int .i64 c] (wsI (stp x s c)):=by
 have hn:=hx.nb
 have hF:=hs.f; have hB:=hs.b; have hL:=hs.l
 have ha:=hx.ars; have hl:=hx.len
 have hbe:=hx.bel
 refine contract_run Tryz.func227 k227 rfl ?_
 simp only [body227,b227,res227,b227k0,b227k1,vaE, ↓reduceIte,reduceCtorEq,Nat.reduceEqDiff,Nat.reduceAdd,Nat.reduceMul,Nat.reduceSub,Nat.reduceLeDiff,Nat.reduceBEq,Int.reduceToNat,Int.reduceLE,Int.reduceLT,Int.reduceEq,Int.reduceNe,di]
 refine do_lend rfl (by rw [restr_look]; exact b_rest (x:=x) (by omega) (by omega)) rfl rfl ?_
 rintro q R' ⟨rfl,rfl⟩
 refine ⟨_,rfl,rfl,?_⟩
 simp only [res227,b227k0,b227k1,vaE, ↓reduceIte,reduceCtorEq,Nat.reduceEqDiff,Nat.reduceAdd,Nat.reduceMul,Nat.reduceSub,Nat.reduceLeDiff,Nat.reduceBEq,Int.reduceToNat,Int.reduceLE,Int.reduceLT,Int.reduceEq,Int.reduceNe,di]
 repeat (refine And.intro (by first | omega | exact all_int _ | (simp only [zeros_len,List.length_append,List.length_take,List.length_drop,List.length_set,List.length_cons,List.length_nil,List.length_map]; omega)) ?_)
 refine calls_of (w_last (x:=x) (by omega)) ?_; simp only [vaE,res227,b227k0,b227k1, ↓reduceIte,reduceCtorEq,Nat.reduceEqDiff,Nat.reduceAdd,Nat.reduceMul,Nat.reduceSub,Nat.reduceLeDiff,Nat.reduceBEq,Int.reduceToNat,Int.reduceLE,Int.reduceLT,Int.reduceEq,Int.reduceNe,di]
 refine calls_of (w_last (x:=x) (by omega)) ?_; simp only [vaE,res227,b227k0,b227k1, ↓reduceIte,reduceCtorEq,Nat.reduceEqDiff,Nat.reduceAdd,Nat.reduceMul,Nat.reduceSub,Nat.reduceLeDiff,Nat.reduceBEq,Int.reduceToNat,Int.reduceLE,Int.reduceLT,Int.reduceEq,Int.reduceNe,di]
 repeat (refine And.intro (by first | omega | exact all_int _ | (simp only [zeros_len,List.length_append,List.length_take,List.length_drop,List.length_set,List.length_cons,List.length_nil,List.length_map]; omega)) ?_)
 rw [base_F (by omega) (by omega),show (x.n - 1).toNat=x.n.toNat - 1 by omega,Nat.zero_add,base_B (by omega) (by omega)]
 refine loop_keep (α:=Nat) rfl (fun j=>x.ar.length - j) (fun j=>j≤x.ar.length)
  (fun j=>[(3,.ref 3 0),(4,.ref 4 0),(6,.ref 6 0),(7,.ref 7 0),(53,.imm (nI x.ar)),(54,.imm (.int .i64 x.ar.length)),(55,.imm (.int .i64 j))])
  (fun j=>[(3,.box [.imm (.slc 2 (x.pp.map ppI)),.imm (nI x.ar),.imm (nI x.be),.imm (.int .i64 x.n)]),(4,.box [.imm (nI s.F),.imm (nI s.B),.imm (nI s.L)]),
   (6,.box [.imm (.slc 1 []),.imm (.slc 1 []),.imm (.slc 1 [])]),(7,.box [.vec 1000 0 x.n.toNat,.vec 1001 0 x.n.toNat,.vec 1002 0 x.ar.length]),
   (1000,.arr ((jncs x s j (baseS x s c)).F.map (.int .i64))),(1001,.arr ((jncs x s j (baseS x s c)).B.map (.int .i64))),(1002,.arr ((jncs x s j (baseS x s c)).L.map (.int .i64)))])
  0 (Nat.zero_le _) (by simp only [jncs,baseS,vaE, ↓reduceIte,reduceCtorEq,Nat.reduceEqDiff,Nat.reduceAdd,Nat.reduceMul,Nat.reduceSub,Nat.reduceLeDiff,Nat.reduceBEq,Int.reduceToNat,Int.reduceLE,Int.reduceLT,Int.reduceEq,Int.reduceNe,di] <;> rfl) ?_
 intro j hj ih
 have ho:=sh_jncs (s:=s) (k:=j) (sh_base (c:=c) hs hn.1)
 have h1:=ho.f; have h2:=ho.b; have h3:=ho.l
 simp only [res227,b227k0,b227k1,vaE, ↓reduceIte,reduceCtorEq,Nat.reduceEqDiff,Nat.reduceAdd,Nat.reduceMul,Nat.reduceSub,Nat.reduceLeDiff,Nat.reduceBEq,Int.reduceToNat,Int.reduceLE,Int.reduceLT,Int.reduceEq,Int.reduceNe,di]
 split
 ·rename_i h
  have hlt:j<x.ar.length:=by omega
  have hat:=hx.at hlt
  rw [wrap64 (n:=(j:Int)+1) (by omega) (by omega),show ((j:Int)+1).toNat=j+1 by omega]
  rw [wrap64 (n:=x.be.getD (j+1) 0 - 1) (by omega) (by omega),show (x.be.getD (j+1) 0 - 1).toNat=(x.be.getD (j+1) 0).toNat - 1 by omega]
  have hp1:=hx.pip _ (getD_mem (l:=x.pp) (d:=default) (show j<x.pp.length by omega))
  have hp2:=hx.pip _ (getD_mem (l:=x.pp) (d:=default) (show j+1<x.pp.length by omega))
  have hA:=hx.are _ (getD_mem (l:=x.ar) (d:=0) hlt)
  repeat (refine And.intro (by first | omega | exact all_int _ | (simp only [zeros_len,List.length_append,List.length_take,List.length_drop,List.length_set,List.length_cons,List.length_nil,List.length_map]; omega)) ?_)
  refine And.intro ?_ ?_
  ·rw [wrap64 (n:=(x.pp.getD j default).snd+(x.pp.getD (j+1) default).snd) (by omega) (by omega),wrap64 (by omega) (by omega)]
   omega
  repeat (refine And.intro (by first | omega | exact all_int _ | (simp only [zeros_len,List.length_append,List.length_take,List.length_drop,List.length_set,List.length_cons,List.length_nil,List.length_map]; omega)) ?_)
  simp only [Nat.zero_add]
  refine ih (j+1) _ _ (by omega) (by omega) (by simp only [vaE, ↓reduceIte,reduceCtorEq,Nat.reduceEqDiff,Nat.reduceAdd,Nat.reduceMul,Nat.reduceSub,Nat.reduceLeDiff,Nat.reduceBEq,Int.reduceToNat,Int.reduceLE,Int.reduceLT,Int.reduceEq,Int.reduceNe,di] <;> rfl)
 ·rename_i h
  have:j=x.ar.length:=by omega
  subst this
  rw [if_pos (by omega),if_pos (by omega),if_pos (by omega),List.take_of_length_le (by omega),List.take_of_length_le (by omega),List.take_of_length_le (by omega)]
  rfl
end Go.DI


/- Contracts: lines and states of waves. No condition. -/
import Derived.Test.YtaphhpphfffnfaaGreatDoorTae
import Derived.Test.YtaphhpphfffnfaaGreatDoorTaa
import Derived.IntWalk
set_option linter.unusedSimpArgs false
set_option linter.defProp false
namespace Go.DI
open Go.Proofs Go.RowKit
def ppI (p:Pp):IV:=.agg [.int .i64 p.1,.int .i64 p.2]
def nI (l:List Int):IV:=.slc 1 (l.map (.int .i64))
def lnI (x:Ln):IV:=.agg [.slc 2 (x.pp.map ppI),nI x.ar]
def owI (x:Ow):IV:=.agg [.slc 2 (x.pp.map ppI),nI x.ar,nI x.be,.int .i64 x.n]
def wsI (s:Ws):IV:=.agg [nI s.F,nI s.B,nI s.L]
def tkI (t:Tk):IV:=.agg [.int .i64 t.cl,.int .i64 t.mo,.int .i64 t.ti,.int .i64 t.lo,.int .i64 t.hi]
def e2I (q:Int × Int):IV:=.tup [.int .i64 q.1,.int .i64 q.2]
theorem cellsOf_cpx {k:FloatKind} {a b:Nat}:cellsOf (.imm (.cpx k a b))=some [.imm (.cpx k a b)]:=rfl
theorem loadI_cpx {K:DV→Option Res→Prop} {k:FloatKind} {a b:Nat}:loadI K (.cpx k a b)=K (.imm (.cpx k a b)) none:=rfl
def vaE:=And.intro @cellsOf_cpx <| And.intro @cellsOf_flt <| And.intro @loadI_cpx <| And.intro @ppI.eq_1 (And.intro @nI.eq_1 (And.intro @lnI.eq_1 (And.intro @owI.eq_1 (And.intro @wsI.eq_1 (And.intro @tkI.eq_1 @e2I.eq_1)))))
theorem w_within {x lo hi:Int}:Contract Tryz.prog 148 [.int .i64 x,.int .i64 lo,.int .i64 hi] (.bool (decide (lo≤x∧x≤hi))):=by
 refine contract_run Tryz.func148 k148 rfl ?_
 simp only [body148,b148,res148, ↓reduceIte,reduceCtorEq,Nat.reduceEqDiff,Nat.reduceAdd,Nat.reduceMul,Nat.reduceSub,Nat.reduceLeDiff,Nat.reduceBEq,Int.reduceToNat,Int.reduceLE,Int.reduceLT,Int.reduceEq,Int.reduceNe,di]
 split
 ·rename_i h; simp [h]
 ·rename_i h; simp [h]
theorem w_unless {b:Bool} {e:Int}:Contract Tryz.prog 135 [.bool b,.int .i64 e] (.int .i64 (if b=true then 0 else e)):=by
 refine contract_run Tryz.func135 k135 rfl ?_
 simp only [body135,b135,res135,b135k0, ↓reduceIte,reduceCtorEq,Nat.reduceEqDiff,Nat.reduceAdd,Nat.reduceMul,Nat.reduceSub,Nat.reduceLeDiff,Nat.reduceBEq,Int.reduceToNat,Int.reduceLE,Int.reduceLT,Int.reduceEq,Int.reduceNe,di]
 split <;> rfl
theorem w_isSized {x m:Int} (hm : 0≤m∧m≤1000000000):Contract Tryz.prog 136 [.int .i64 x,.int .i64 m] (.bool (decide (-m≤x∧x≤m))):=by
 refine contract_run Tryz.func136 k136 rfl ?_
 simp only [body136,b136,res136, ↓reduceIte,reduceCtorEq,Nat.reduceEqDiff,Nat.reduceAdd,Nat.reduceMul,Nat.reduceSub,Nat.reduceLeDiff,Nat.reduceBEq,Int.reduceToNat,Int.reduceLE,Int.reduceLT,Int.reduceEq,Int.reduceNe,di]
 rw [wrap64 (n:=0 - m) (by omega) (by omega),Int.zero_sub]
 refine calls_of w_within ?_; simp only [res136, ↓reduceIte,reduceCtorEq,Nat.reduceEqDiff,Nat.reduceAdd,Nat.reduceMul,Nat.reduceSub,Nat.reduceLeDiff,Nat.reduceBEq,Int.reduceToNat,Int.reduceLE,Int.reduceLT,Int.reduceEq,Int.reduceNe,di]
theorem w_first {l:List Int} (hl:l.length≤1000000000000):Contract Tryz.prog 134 [.slc 1 (l.map (.int .i64))] (.int .i64 (firstNZ l)):=by
 refine contract_run Tryz.func134 k134 rfl ?_
 simp only [body134,b134,res134,b134k0,b134k1,b134k2, ↓reduceIte,reduceCtorEq,Nat.reduceEqDiff,Nat.reduceAdd,Nat.reduceMul,Nat.reduceSub,Nat.reduceLeDiff,Nat.reduceBEq,Int.reduceToNat,Int.reduceLE,Int.reduceLT,Int.reduceEq,Int.reduceNe,di]
 refine loop_keep (α:=Nat) rfl (fun i=>l.length - i) (fun i=>i≤l.length∧firstNZ (l.drop i)=firstNZ l)
  (fun i=>[(5,.imm (.slc 1 (l.map (.int .i64)))),(6,.imm (.int .i64 l.length)),(7,.imm (.int .i64 i))]) (fun _=>[]) 0 ⟨Nat.zero_le _,rfl⟩ (by simp only [↓reduceIte,reduceCtorEq,Nat.reduceEqDiff,Nat.reduceAdd,Nat.reduceMul,Nat.reduceSub,Nat.reduceLeDiff,Nat.reduceBEq,Int.reduceToNat,Int.reduceLE,Int.reduceLT,Int.reduceEq,Int.reduceNe,di] <;> rfl) ?_
 intro i ⟨hi,he⟩ ih
 simp only [res134,b134k0,b134k1,b134k2, ↓reduceIte,reduceCtorEq,Nat.reduceEqDiff,Nat.reduceAdd,Nat.reduceMul,Nat.reduceSub,Nat.reduceLeDiff,Nat.reduceBEq,Int.reduceToNat,Int.reduceLE,Int.reduceLT,Int.reduceEq,Int.reduceNe,di]
 split
 ·rename_i h
  have hd:l.drop i=l.getD i 0 :: l.drop (i+1):=getD_drop (by omega)
  repeat (refine And.intro (by omega) ?_)
  split
  ·rename_i h2
   rw [wrap64 (by omega) (by omega)]
   refine ih (i+1) _ _ (by omega) ⟨by omega,?_⟩ (by simp only [↓reduceIte,reduceCtorEq,Nat.reduceEqDiff,Nat.reduceAdd,Nat.reduceMul,Nat.reduceSub,Nat.reduceLeDiff,Nat.reduceBEq,Int.reduceToNat,Int.reduceLE,Int.reduceLT,Int.reduceEq,Int.reduceNe,di] <;> rfl)
   rw [← he,hd,firstNZ,if_pos h2]
  ·rename_i h2
   rw [← he,hd,firstNZ,if_neg h2]
 ·rename_i h
  have:i=l.length:=by omega
  subst this
  rw [← he]
  simp [firstNZ]
theorem w_last {x:Ow} (h : 1≤x.n∧x.n≤1000000):Contract Tryz.prog 143 [owI x] (.int .i64 (x.n - 1)):=by
 refine contract_run Tryz.func143 k143 rfl ?_
 simp only [body143,b143,res143,vaE, ↓reduceIte,reduceCtorEq,Nat.reduceEqDiff,Nat.reduceAdd,Nat.reduceMul,Nat.reduceSub,Nat.reduceLeDiff,Nat.reduceBEq,Int.reduceToNat,Int.reduceLE,Int.reduceLT,Int.reduceEq,Int.reduceNe,di]
 rw [wrap64 (by omega) (by omega)]
theorem nz {n:Nat}:(0+n≤(List.replicate n (0:Int)).length)=True:=by simp
theorem nz1 {n:Nat}:(List.replicate n (0:Int)).take n=zeros n:=by unfold zeros; rw [List.take_of_length_le (by simp)]
theorem w_rest {x:Ow} (h : 0≤x.n∧x.n≤1000000) (ha:x.ar.length≤1000000):Contract Tryz.prog 251 [owI x] (wsI (restS x)):=by
 refine contract_run Tryz.func251 k251 rfl ?_
 simp only [body251,b251,res251,vaE, ↓reduceIte,reduceCtorEq,Nat.reduceEqDiff,Nat.reduceAdd,Nat.reduceMul,Nat.reduceSub,Nat.reduceLeDiff,Nat.reduceBEq,Int.reduceToNat,Int.reduceLE,Int.reduceLT,Int.reduceEq,Int.reduceNe,di]
 repeat (refine And.intro (by omega) ?_)
 simp only [nz,nz1,restS, ↓reduceIte,reduceCtorEq,Nat.reduceEqDiff,Nat.reduceAdd,Nat.reduceMul,Nat.reduceSub,Nat.reduceLeDiff,Nat.reduceBEq,Int.reduceToNat,Int.reduceLE,Int.reduceLT,Int.reduceEq,Int.reduceNe,di]
theorem b_rest {x:Ow} (h : 0≤x.n∧x.n≤1000000) (ha:x.ar.length≤1000000):BC Tryz.prog 251 [.imm (owI x)] (lookR []) fun r R' =>
  r = .agg [.vec 1000 0 x.n.toNat,.vec 1001 0 x.n.toNat,.vec 1002 0 x.ar.length]∧R'=lookR [(1000,.arr ((zeros x.n.toNat).map (.int .i64))),(1001,.arr ((zeros x.n.toNat).map (.int .i64))),(1002,.arr ((zeros x.ar.length).map (.int .i64)))]:=by
 refine bc_run Tryz.func251 k1251 rfl rfl ?_
 simp only [body1251,b1251,res1251,vaE, ↓reduceIte,reduceCtorEq,Nat.reduceEqDiff,Nat.reduceAdd,Nat.reduceMul,Nat.reduceSub,Nat.reduceLeDiff,Nat.reduceBEq,Int.reduceToNat,Int.reduceLE,Int.reduceLT,Int.reduceEq,Int.reduceNe,di]
 repeat (refine And.intro (by omega) ?_)
 refine run_ren rfl (by first | decide | rfl) (by first | decide | rfl) (by first | decide | rfl) ?_
 simp only [↓reduceIte,reduceCtorEq,Nat.reduceEqDiff,Nat.reduceAdd,Nat.reduceMul,Nat.reduceSub,Nat.reduceLeDiff,Nat.reduceBEq,Int.reduceToNat,Int.reduceLE,Int.reduceLT,Int.reduceEq,Int.reduceNe,di]
 refine run_ren rfl (by first | decide | rfl) (by first | decide | rfl) (by first | decide | rfl) ?_
 simp only [↓reduceIte,reduceCtorEq,Nat.reduceEqDiff,Nat.reduceAdd,Nat.reduceMul,Nat.reduceSub,Nat.reduceLeDiff,Nat.reduceBEq,Int.reduceToNat,Int.reduceLE,Int.reduceLT,Int.reduceEq,Int.reduceNe,di]
 refine run_ren rfl (by first | decide | rfl) (by first | decide | rfl) (by first | decide | rfl) ?_
 simp only [↓reduceIte,reduceCtorEq,Nat.reduceEqDiff,Nat.reduceAdd,Nat.reduceMul,Nat.reduceSub,Nat.reduceLeDiff,Nat.reduceBEq,Int.reduceToNat,Int.reduceLE,Int.reduceLT,Int.reduceEq,Int.reduceNe,di]
 rw [outD_one res1251]
 exact ⟨.agg [.vec 1000 0 x.n.toNat,.vec 1001 0 x.n.toNat,.vec 1002 0 x.ar.length],rfl,rfl,rfl,rfl⟩
end Go.DI


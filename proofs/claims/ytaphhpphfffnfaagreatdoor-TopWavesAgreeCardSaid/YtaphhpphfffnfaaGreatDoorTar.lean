/- The statement WaveLines, as a contract; lines in the reference. No condition. -/
import Derived.Test.YtaphhpphfffnfaaGreatDoorTaq
set_option linter.unusedSimpArgs false
set_option maxRecDepth 100000
namespace Go.DI
open Go.Proofs Go.RowKit
theorem r_CheckLine {x:Ln} (hx:Few x):Contract Tryz.prog 104 [lnI x] (e2I (chkL x)):=by
 obtain ⟨hx1,hx2⟩:=hx
 refine contract_run Tryz.func104 k104 rfl ?_
 simp only [body104,b104,res104,b104k0,b104k1,b104k2,b104k3,b104k4,b104k5,b104k6,b104k7,b104k8,vaE, ↓reduceIte,reduceCtorEq,Nat.reduceEqDiff,Nat.reduceAdd,Nat.reduceMul,Nat.reduceSub,Nat.reduceLeDiff,Nat.reduceBEq,Int.reduceToNat,Int.reduceLE,Int.reduceLT,Int.reduceEq,Int.reduceNe,di]
 have hle:lenE x=if (x.pp.length:Int)=0 then 10 else if 4<(x.pp.length:Int) then 8 else if (x.ar.length:Int)=(x.pp.length:Int) - 1 then 0 else 10:=by
  unfold lenE
  by_cases h1:(x.pp.length:Int)=0
  ·rw [if_neg (by omega),if_pos h1]; rfl
  rw [if_pos (show 0<(x.pp.length:Int) by omega),if_neg h1]
  by_cases h2 : 4<(x.pp.length:Int)
  ·rw [if_neg (by omega),if_pos h2]; rfl
  rw [if_pos (show (x.pp.length:Int)≤4 by omega),if_neg h2]
  by_cases h3:(x.ar.length:Int)=(x.pp.length:Int) - 1
  ·rw [if_pos h3]; rfl
  ·rw [if_neg h3]; rfl
 have hno:∀ {e:Int},e ≠ 0→lenE x=e→chkL x=(0,e):=by
  intro e h0 h
  unfold chkL
  rw [h,if_pos h0]
 by_cases h1:(x.pp.length:Int)=0
 ·rw [if_pos h1] at hle
  rw [if_pos h1,hno (by decide) hle]
 rw [if_neg h1] at hle ⊢
 by_cases h2 : 4<(x.pp.length:Int)
 ·rw [if_pos h2] at hle
  rw [if_pos h2,hno (by decide) hle]
 rw [if_neg h2] at hle ⊢
 rw [wrap64 (n:=(x.pp.length:Int) - 1) (by omega) (by omega)]
 by_cases h3:(x.ar.length:Int)=(x.pp.length:Int) - 1
 rotate_left
 ·rw [if_neg h3] at hle
  simp only [h3,vaE, ↓reduceIte,reduceCtorEq,Nat.reduceEqDiff,Nat.reduceAdd,Nat.reduceMul,Nat.reduceSub,Nat.reduceLeDiff,Nat.reduceBEq,Int.reduceToNat,Int.reduceLE,Int.reduceLT,Int.reduceEq,Int.reduceNe,di]
  rw [hno (by decide) hle]
 rw [if_pos h3] at hle
 simp only [h3,vaE, ↓reduceIte,reduceCtorEq,Nat.reduceEqDiff,Nat.reduceAdd,Nat.reduceMul,Nat.reduceSub,Nat.reduceLeDiff,Nat.reduceBEq,Int.reduceToNat,Int.reduceLE,Int.reduceLT,Int.reduceEq,Int.reduceNe,di]
 refine loop_keep (α:=Nat) rfl (fun i=>x.pp.length - i) (fun i=>Seek badP x.pp i)
  (fun i=>[(1,.ref 1 0),(4,.imm (.int .i64 i))]) (fun _=>[(1,.box [.imm (.slc 2 (x.pp.map ppI)),.imm (nI x.ar)])]) 0 seek_zero (by simp only [vaE, ↓reduceIte,reduceCtorEq,Nat.reduceEqDiff,Nat.reduceAdd,Nat.reduceMul,Nat.reduceSub,Nat.reduceLeDiff,Nat.reduceBEq,Int.reduceToNat,Int.reduceLE,Int.reduceLT,Int.reduceEq,Int.reduceNe,di] <;> rfl) ?_
 intro i hk ih
 have hi:=hk.1
 simp only [res104,b104k0,b104k1,b104k2,b104k3,b104k4,b104k5,b104k6,b104k7,b104k8,vaE, ↓reduceIte,reduceCtorEq,Nat.reduceEqDiff,Nat.reduceAdd,Nat.reduceMul,Nat.reduceSub,Nat.reduceLeDiff,Nat.reduceBEq,Int.reduceToNat,Int.reduceLE,Int.reduceLT,Int.reduceEq,Int.reduceNe,di]
 split
 ·rename_i h
  have hlt:i<x.pp.length:=by omega
  have hbad:badP (x.pp.getD i default)=true→chkL x=((i:Int),2):=by
   intro hb
   have hit:=seek_hit hk hlt hb
   unfold chkL
   rw [if_neg (fun k=>k hle),hit,if_pos (by omega)]
  repeat (refine And.intro (by omega) ?_)
  refine calls_of c_Within ?_; simp only [vaE,res104,b104k0,b104k1,b104k2,b104k3,b104k4,b104k5,b104k6,b104k7,b104k8, ↓reduceIte,reduceCtorEq,Nat.reduceEqDiff,Nat.reduceAdd,Nat.reduceMul,Nat.reduceSub,Nat.reduceLeDiff,Nat.reduceBEq,Int.reduceToNat,Int.reduceLE,Int.reduceLT,Int.reduceEq,Int.reduceNe,di]
  by_cases h5 : 1≤(x.pp.getD i default).1∧(x.pp.getD i default).1≤6
  rotate_left
  ·simp only [h5,vaE, ↓reduceIte,reduceCtorEq,Nat.reduceEqDiff,Nat.reduceAdd,Nat.reduceMul,Nat.reduceSub,Nat.reduceLeDiff,Nat.reduceBEq,Int.reduceToNat,Int.reduceLE,Int.reduceLT,Int.reduceEq,Int.reduceNe,di]
   rw [hbad (badP_true fun k=>h5 k.1)]
  simp only [h5,vaE, ↓reduceIte,reduceCtorEq,Nat.reduceEqDiff,Nat.reduceAdd,Nat.reduceMul,Nat.reduceSub,Nat.reduceLeDiff,Nat.reduceBEq,Int.reduceToNat,Int.reduceLE,Int.reduceLT,Int.reduceEq,Int.reduceNe,di]
  repeat (refine And.intro (by omega) ?_)
  refine calls_of c_Within ?_; simp only [vaE,res104,b104k0,b104k1,b104k2,b104k3,b104k4,b104k5,b104k6,b104k7,b104k8, ↓reduceIte,reduceCtorEq,Nat.reduceEqDiff,Nat.reduceAdd,Nat.reduceMul,Nat.reduceSub,Nat.reduceLeDiff,Nat.reduceBEq,Int.reduceToNat,Int.reduceLE,Int.reduceLT,Int.reduceEq,Int.reduceNe,di]
  by_cases h6 : 1≤(x.pp.getD i default).2∧(x.pp.getD i default).2≤10
  rotate_left
  ·simp only [h6,vaE, ↓reduceIte,reduceCtorEq,Nat.reduceEqDiff,Nat.reduceAdd,Nat.reduceMul,Nat.reduceSub,Nat.reduceLeDiff,Nat.reduceBEq,Int.reduceToNat,Int.reduceLE,Int.reduceLT,Int.reduceEq,Int.reduceNe,di]
   rw [hbad (badP_true fun k=>h6 k.2)]
  simp only [h6,vaE, ↓reduceIte,reduceCtorEq,Nat.reduceEqDiff,Nat.reduceAdd,Nat.reduceMul,Nat.reduceSub,Nat.reduceLeDiff,Nat.reduceBEq,Int.reduceToNat,Int.reduceLE,Int.reduceLT,Int.reduceEq,Int.reduceNe,di]
  rw [wrap64 (by omega) (by omega)]
  exact ih (i+1) _ _ (by omega) (seek_step hk hlt (badP_false.2 ⟨h5,h6⟩)) (by simp only [vaE, ↓reduceIte,reduceCtorEq,Nat.reduceEqDiff,Nat.reduceAdd,Nat.reduceMul,Nat.reduceSub,Nat.reduceLeDiff,Nat.reduceBEq,Int.reduceToNat,Int.reduceLE,Int.reduceLT,Int.reduceEq,Int.reduceNe,di] <;> rfl)
 ·rename_i h
  have:i=x.pp.length:=by omega
  subst this
  have hnp:=seek_end hk
  have he:chkL x=if 0≤idxF badA x.ar then (idxF badA x.ar,2) else (0,0):=by
   unfold chkL
   rw [if_neg (fun k=>k hle),if_neg (fun k=>k hnp)]
  rw [he]
  clear ih hk
  refine loop_keep (α:=Nat) rfl (fun i=>x.ar.length - i) (fun i=>Seek badA x.ar i)
   (fun i=>[(1,.ref 1 0),(5,.imm (.int .i64 i))]) (fun _=>[(1,.box [.imm (.slc 2 (x.pp.map ppI)),.imm (nI x.ar)])]) 0 seek_zero (by simp only [vaE, ↓reduceIte,reduceCtorEq,Nat.reduceEqDiff,Nat.reduceAdd,Nat.reduceMul,Nat.reduceSub,Nat.reduceLeDiff,Nat.reduceBEq,Int.reduceToNat,Int.reduceLE,Int.reduceLT,Int.reduceEq,Int.reduceNe,di] <;> rfl) ?_
  intro i hk ih
  have hi:=hk.1
  simp only [res104,b104k0,b104k1,b104k2,b104k3,b104k4,b104k5,b104k6,b104k7,b104k8,vaE, ↓reduceIte,reduceCtorEq,Nat.reduceEqDiff,Nat.reduceAdd,Nat.reduceMul,Nat.reduceSub,Nat.reduceLeDiff,Nat.reduceBEq,Int.reduceToNat,Int.reduceLE,Int.reduceLT,Int.reduceEq,Int.reduceNe,di]
  split
  ·rename_i h
   have hlt:i<x.ar.length:=by omega
   repeat (refine And.intro (by omega) ?_)
   refine calls_of c_Within ?_; simp only [vaE,res104,b104k0,b104k1,b104k2,b104k3,b104k4,b104k5,b104k6,b104k7,b104k8, ↓reduceIte,reduceCtorEq,Nat.reduceEqDiff,Nat.reduceAdd,Nat.reduceMul,Nat.reduceSub,Nat.reduceLeDiff,Nat.reduceBEq,Int.reduceToNat,Int.reduceLE,Int.reduceLT,Int.reduceEq,Int.reduceNe,di]
   by_cases h5 : 0≤x.ar.getD i 0∧x.ar.getD i 0≤20
   ·simp only [h5,vaE, ↓reduceIte,reduceCtorEq,Nat.reduceEqDiff,Nat.reduceAdd,Nat.reduceMul,Nat.reduceSub,Nat.reduceLeDiff,Nat.reduceBEq,Int.reduceToNat,Int.reduceLE,Int.reduceLT,Int.reduceEq,Int.reduceNe,di]
    rw [wrap64 (by omega) (by omega)]
    exact ih (i+1) _ _ (by omega) (seek_step hk hlt (badA_false.2 h5)) (by simp only [vaE, ↓reduceIte,reduceCtorEq,Nat.reduceEqDiff,Nat.reduceAdd,Nat.reduceMul,Nat.reduceSub,Nat.reduceLeDiff,Nat.reduceBEq,Int.reduceToNat,Int.reduceLE,Int.reduceLT,Int.reduceEq,Int.reduceNe,di] <;> rfl)
   ·simp only [h5,vaE, ↓reduceIte,reduceCtorEq,Nat.reduceEqDiff,Nat.reduceAdd,Nat.reduceMul,Nat.reduceSub,Nat.reduceLeDiff,Nat.reduceBEq,Int.reduceToNat,Int.reduceLE,Int.reduceLT,Int.reduceEq,Int.reduceNe,di]
    have hit:=seek_hit hk hlt (show badA (x.ar.getD i 0)=true by unfold badA; rw [decide_eq_false h5]; rfl)
    rw [hit,if_pos (by omega)]
  ·rename_i h
   have:i=x.ar.length:=by omega
   subst this
   rw [seek_end hk]
   rfl
theorem r_LineErr {x:Ln} (hx:Few x):Contract Tryz.prog 18 [lnI x] (.int .i64 (chkL x).2):=by
 refine contract_run Tryz.func18 k18 rfl ?_
 simp only [body18,b18,res18,vaE, ↓reduceIte,reduceCtorEq,Nat.reduceEqDiff,Nat.reduceAdd,Nat.reduceMul,Nat.reduceSub,Nat.reduceLeDiff,Nat.reduceBEq,Int.reduceToNat,Int.reduceLE,Int.reduceLT,Int.reduceEq,Int.reduceNe,di]
 refine calls_of (r_CheckLine hx) ?_; simp only [vaE,res18, ↓reduceIte,reduceCtorEq,Nat.reduceEqDiff,Nat.reduceAdd,Nat.reduceMul,Nat.reduceSub,Nat.reduceLeDiff,Nat.reduceBEq,Int.reduceToNat,Int.reduceLE,Int.reduceLT,Int.reduceEq,Int.reduceNe,di]
end Go.DI


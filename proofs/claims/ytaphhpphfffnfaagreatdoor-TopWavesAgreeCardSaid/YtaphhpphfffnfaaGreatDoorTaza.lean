/- The statement WaveTicks, as a contract. No condition. -/
import Derived.Test.YtaphhpphfffnfaaGreatDoorTav
set_option linter.unusedSimpArgs false
set_option maxRecDepth 100000
namespace Go.DI
open Go.Proofs Go.RowKit
theorem fold_close:∀ (cl:List Int) (e:Int),cl.foldl (fun e n=>fstE e (closeE n)) e=fstE e (firstNZ (cl.map closeE))
 | [],e=>by unfold fstE; split <;> simp_all [firstNZ]
 | n :: r,e=>by
  rw [List.foldl_cons,fold_close r,List.map_cons,firstNZ_cons]
  unfold fstE
  by_cases h:e=0
  ·rw [if_pos h,if_pos h]
  ·rw [if_neg h,if_neg h,if_neg h]
theorem runE_closes {x:Ln} {s:Ws} {cl:List Int} (h:stE x s=0):runE x s cl=closesE cl:=by
 unfold runE closesE
 rw [fold_close,h]
 by_cases h2 : 200<(cl.length:Int)
 ·rw [if_neg (by omega),if_pos h2]; rfl
 ·rw [if_pos (show (cl.length:Int)≤200 by omega),if_neg h2]; rfl
theorem runE_one {x:Ln} {s:Ws} {n:Int} (h:stE x s=0):runE x s [n]=closeE n:=by
 rw [runE_closes h]
 show firstNZ [closeE n]=_
 unfold firstNZ
 split
 ·rename_i h; rw [h]; rfl
 ·rfl
def emptyS:Ws:=⟨[],[],[]⟩
def runZ (x:Ln) (s:Ws) (cl:List Int):Ws:=if runE x s cl=0 then runS (opn x) s cl else emptyS
theorem w_Stepped' {x:Ln} {s:Ws} {c:Int} (hx:Few x) (hs:FewS s):Contract Tryz.prog 63 [lnI x,wsI s,.int .i64 c] (.tup [wsI (runZ x s [c]),.int .i64 (runE x s [c])]):=by
 have h:=w_Stepped (c:=c) hx hs
 unfold runZ
 split at h
 ·rename_i h0; rw [if_pos h0,h0]; exact h
 ·rename_i h0; rw [if_neg h0]; exact h
end Go.DI


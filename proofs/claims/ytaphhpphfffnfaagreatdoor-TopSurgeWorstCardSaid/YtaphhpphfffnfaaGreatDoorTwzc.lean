/- The statement SurgeCovered, as a contract. No condition. -/
import Derived.Test.YtaphhpphfffnfaaGreatDoorTwy
set_option linter.unusedSimpArgs false
set_option maxRecDepth 20000
namespace Go.DI
open Go.Proofs Go.RowKit Sg
theorem bd_ok {r:Ru} {p:Pl} {bs:List Bx} (hr:Sg.Good r) (hp:PlanOk p) (h0:bs ≠ []) (h1:bs.length≤64) (h2:∀ b ∈ bs,boxErr b=0) :
  Contract Tryz.prog 75 [ruI r,spI p,.slc 4 (bs.map sbI)] (.tup [stI (boundP r p bs).2.1 (boundP r p bs).2.2,.int .i64 (if ordersP p=[] then 12 else 0)]):=by
 have hE:(planEr r p).2=0:=planEr_zero.2 ⟨hr,hp⟩
 have hpl:=hp.len
 have s:=s_BoundOf (r:=r) (p:=p) (bs:=bs) (by omega) (by omega)
 rw [if_pos (show boundE r p bs=0 by unfold boundE; rw [fstE_zero]; exact ⟨hE,boxesE_ok h0 h1 h2⟩)] at s
 have hf:=bound_found (r:=r) (p:=p) (bs:=bs) hp.ticks.1 h0
 by_cases ho:ordersP p=[]
 ·rw [if_neg (fun k=>(hf.1 k) ho)] at s
  rw [if_pos ho]
  exact s
 ·rw [if_pos (hf.2 ho)] at s
  rw [if_neg ho]
  exact s
end Go.DI


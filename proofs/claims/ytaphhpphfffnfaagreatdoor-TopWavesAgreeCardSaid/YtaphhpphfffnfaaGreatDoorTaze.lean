/- The energy of a tick. No condition. -/
import Derived.Test.YtaphhpphfffnfaaGreatDoorTazd
set_option linter.unusedSimpArgs false
namespace Go.DI
theorem adm_at:∀ (l:List Pp) (j i:Nat),(∀ p ∈ l,1≤p.1∧p.1≤6)→j<l.length→cellsN (l.take j)≤i→(i:Int)<cellsN (l.take (j+1))→(admL l).getD i 0=(l.getD j default).2
 | p :: r,0,i,hp,_,_,h2=>by
  simp only [List.take_succ_cons,List.take_zero,cellsN] at h2
  have hi:i<p.1.toNat:=by omega
  simp only [admL,List.getD_eq_getElem?_getD]
  rw [List.getElem?_append_left (by rw [List.length_replicate]; exact hi)]
  simp [hi]
 | p :: r,j+1,i,hp,hj,h1,h2=>by
  simp only [List.take_succ_cons,cellsN] at h1 h2
  have hp1:=hp p (by simp)
  have hb:=cellsN_bd (r.take j) fun q hq=>hp q (List.mem_cons_of_mem _ (List.mem_of_mem_take hq))
  have hi:p.1.toNat≤i:=by omega
  have ih:=adm_at r j (i - p.1.toNat) (fun q hq=>hp q (by simp [hq])) (by simpa using hj) (by omega) (by omega)
  simp only [admL,List.getD_cons_succ]
  rw [← ih]
  simp only [List.getD_eq_getElem?_getD]
  rw [List.getElem?_append_right (by rw [List.length_replicate]; exact hi),List.length_replicate]
theorem cell_pipe:∀ (l:List Pp) (i:Nat),(∀ p ∈ l,1≤p.1∧p.1≤6)→(i:Int)<cellsN l→∃ j,j<l.length∧cellsN (l.take j)≤i∧(i:Int)<cellsN (l.take (j+1))
 | [],i,_,h=>by simp [cellsN] at h; omega
 | p :: r,i,hp,h=>by
  have hp1:=hp p (by simp)
  simp only [cellsN] at h
  by_cases hi:(i:Int)<p.1
  ·exact ⟨0,by simp,by simp [cellsN],by simp only [List.take_succ_cons,List.take_zero,cellsN]; omega⟩
  ·obtain ⟨j,h1,h2,h3⟩:=cell_pipe r (i - p.1.toNat) (fun q hq=>hp q (by simp [hq])) (by omega)
   exact ⟨j+1,by simpa using h1,by simp only [List.take_succ_cons,cellsN]; omega,by simp only [List.take_succ_cons,cellsN]; omega⟩
def bJ (x:Ln) (j:Nat):Nat:=(cellsN (x.pp.take (j+1))).toNat - 1
theorem cells_lt {l:List Pp} (hp:∀ p ∈ l,1≤p.1∧p.1≤6):∀ {i j:Nat},i<j→j≤l.length→cellsN (l.take i)<cellsN (l.take j)
 | i,0,h,_=>by omega
 | i,j+1,h,hj=>by
  have h1:=cellsN_step (l:=l) (i:=j) (by omega)
  have h2:=hp _ (getD_mem (l:=l) (i:=j) (d:=default) (by omega))
  by_cases e:i=j
  ·subst e; omega
  ·have:=cells_lt hp (i:=i) (j:=j) (by omega) (by omega)
   omega
structure JOk (x:Ln) (j:Nat):Prop where
 lt:bJ x j+1<(opn x).n.toNat
 be:((opn x).be.getD (j+1) 0).toNat=bJ x j+1
 y:(admL x.pp).getD (bJ x j) 0=(x.pp.getD j default).2
 w:(admL x.pp).getD (bJ x j+1) 0=(x.pp.getD (j+1) default).2
theorem j_ok {x:Ln} (hx:LineOk x) {j:Nat} (hj:j<x.ar.length):JOk x j:=by
 have hars:=hx.ars
 have hp:∀ p ∈ x.pp,1≤p.1∧p.1≤6:=fun p h=>(hx.pip p h).1
 have hat:=(opn_ok hx).at (j:=j) hj
 have hbe:(opn x).be.getD (j+1) 0=cellsN (x.pp.take (j+1)):=by
  show (begL 0 x.pp).getD (j+1) 0=_
  rw [begL_getD _ _ _ (by omega)]; omega
 have h1:=cells_lt hp (i:=j) (j:=j+1) (by omega) (by omega)
 have h2:cellsN (x.pp.take (j+1))<cellsN (x.pp.take (j+1+1)):=cells_lt hp (by omega) (by omega)
 have h0:=cellsN_bd (x.pp.take j) fun p h=>hp p (List.mem_of_mem_take h)
 rw [hbe] at hat
 refine ⟨by unfold bJ; omega,by rw [hbe]; unfold bJ; omega,?_,?_⟩
 ·exact adm_at x.pp j _ hp (by omega) (by unfold bJ; omega) (by unfold bJ; omega)
 ·exact adm_at x.pp (j+1) _ hp (by omega) (by unfold bJ; omega) (by unfold bJ; omega)
theorem bJ_inj {x:Ln} (hx:LineOk x) {i j:Nat} (h:i<j) (hj:j<x.ar.length):bJ x i ≠ bJ x j:=by
 have hars:=hx.ars
 have hp:∀ p ∈ x.pp,1≤p.1∧p.1≤6:=fun p h=>(hx.pip p h).1
 have h1:=cells_lt hp (i:=i+1) (j:=j+1) (by omega) (by omega)
 have h0:=cells_lt hp (i:=0) (j:=i+1) (by omega) (by omega)
 simp only [List.take_zero,cellsN] at h0
 unfold bJ; omega
theorem adm_bd {x:Ln} (hx:LineOk x) {i:Nat} (hi:i<(opn x).n.toNat) : 1≤(admL x.pp).getD i 0∧(admL x.pp).getD i 0≤10:=by
 have hp:∀ p ∈ x.pp,1≤p.1∧p.1≤6:=fun p h=>(hx.pip p h).1
 have hn:(opn x).n=cellsN x.pp:=rfl
 obtain ⟨j,h1,h2,h3⟩:=cell_pipe x.pp i hp (by omega)
 rw [adm_at x.pp j i hp h1 h2 h3]
 exact (hx.pip _ (getD_mem h1)).2
theorem ar_bd {x:Ln} (hx:LineOk x) (j:Nat) : 0≤x.ar.getD j 0∧x.ar.getD j 0≤20:=by
 by_cases h:j<x.ar.length
 ·exact hx.are _ (getD_mem h)
 ·rw [getD_out (by omega)]; omega
theorem getD_set_if {l:List Int} {i j:Nat} {v:Int}:(l.set i v).getD j 0=if i=j∧i<l.length then v else l.getD j 0:=by
 simp only [List.getD_eq_getElem?_getD,List.getElem?_set]
 by_cases h:i=j
 ·subst h
  by_cases h2:i<l.length
  ·simp [h2]
  ·simp [h2]
 ·simp [h]
structure Gd (M:Int) (s:Ws):Prop where
 b:BdS M s
 l:∀ j, -(2 * M)≤s.L.getD j 0∧s.L.getD j 0≤2 * M
def pJ (x:Ln) (s:Ws) (j:Nat):Int:=jI ((admL x.pp).getD (bJ x j) 0) ((admL x.pp).getD (bJ x j+1) 0) (x.ar.getD j 0) (s.F.getD (bJ x j) 0) (s.B.getD (bJ x j+1) 0) (s.L.getD j 0)
theorem pJ_bd {x:Ln} {s:Ws} {M:Int} (hx:LineOk x) (hg:Gd M s) {j:Nat} (hj:j<x.ar.length) : -(2 * M)≤pJ x s j∧pJ x s j≤2 * M:=by
 have ho:=j_ok hx hj
 have hlt:=ho.lt
 exact jI_bd (adm_bd hx (by omega)).1 (adm_bd hx (by omega)).1 (ar_bd hx j).1 (hg.b _).1 (hg.b _).2 (hg.l j)
theorem jP_pJ {x:Ln} {s:Ws} {M:Int} (hx:LineOk x) (hg:Gd M s) (hM:M≤10000000) {j:Nat} (hj:j<x.ar.length) :
  jP ((opn x).pp.getD j default).2 ((opn x).pp.getD (j+1) default).2 ((opn x).ar.getD j 0) (s.F.getD (bJ x j) 0) (s.B.getD (bJ x j+1) 0) (s.L.getD j 0)=pJ x s j:=by
 have ho:=j_ok hx hj
 have hlt:=ho.lt
 have b1:=(hg.b (bJ x j)).1
 have b2:=(hg.b (bJ x j+1)).2
 have b3:=hg.l j
 have y1:=adm_bd hx (i:=bJ x j) (by omega)
 have y2:=adm_bd hx (i:=bJ x j+1) (by omega)
 have y3:=ar_bd hx j
 show jP (x.pp.getD j default).2 (x.pp.getD (j+1) default).2 (x.ar.getD j 0) _ _ _=_
 unfold pJ
 rw [ho.y,ho.w] at *
 exact jP_jI y1 y2 y3 (by omega) (by omega) (by omega)
theorem jncs_at {x:Ln} {s o:Ws} {M:Int} (hx:LineOk x) (hg:Gd M s) (hM:M≤10000000) (ho:Sh (opn x) o):∀ k,k≤x.ar.length →
  (∀ j,j<k→(jncs (opn x) s k o).F.getD (bJ x j+1) 0=pJ x s j - s.B.getD (bJ x j+1) 0∧(jncs (opn x) s k o).B.getD (bJ x j) 0=pJ x s j - s.F.getD (bJ x j) 0∧(jncs (opn x) s k o).L.getD j 0=pJ x s j) ∧
  (∀ i,(∀ j,j<k→bJ x j+1 ≠ i)→(jncs (opn x) s k o).F.getD i 0=o.F.getD i 0)∧∀ i,(∀ j,j<k→bJ x j ≠ i)→(jncs (opn x) s k o).B.getD i 0=o.B.getD i 0
 | 0,_=>⟨fun j h=>by omega,fun i _=>rfl,fun i _=>rfl⟩
 | k+1,hk=>by
  obtain ⟨h1,h2,h3⟩:=jncs_at hx hg hM ho k (by omega)
  have hj:=j_ok hx (j:=k) (by omega)
  have hsh:=sh_jncs (s:=s) (k:=k) ho
  have sF:=hsh.f
  have sB:=hsh.b
  have sL:=hsh.l
  have har:(opn x).ar.length=x.ar.length:=rfl
  have hlt:=hj.lt
  have hbd:=pJ_bd hx hg (j:=k) (by omega)
  have b1:=(hg.b (bJ x k)).1
  have b2:=(hg.b (bJ x k+1)).2
  have hjp:=jP_pJ hx hg hM (j:=k) (by omega)
  have eF:(jncs (opn x) s (k+1) o).F=(jncs (opn x) s k o).F.set (bJ x k+1) (pJ x s k - s.B.getD (bJ x k+1) 0):=by
   show (jnc (opn x) s k (jncs (opn x) s k o)).F=_
   unfold jnc
   simp only [hj.be,Nat.add_sub_cancel,hjp]
   rw [w6 (by omega) (by omega)]
  have eB:(jncs (opn x) s (k+1) o).B=(jncs (opn x) s k o).B.set (bJ x k) (pJ x s k - s.F.getD (bJ x k) 0):=by
   show (jnc (opn x) s k (jncs (opn x) s k o)).B=_
   unfold jnc
   simp only [hj.be,Nat.add_sub_cancel,hjp]
   rw [w6 (by omega) (by omega)]
  have eL:(jncs (opn x) s (k+1) o).L=(jncs (opn x) s k o).L.set k (pJ x s k):=by
   show (jnc (opn x) s k (jncs (opn x) s k o)).L=_
   unfold jnc
   simp only [hj.be,Nat.add_sub_cancel,hjp]
  rw [eF,eB,eL]
  simp only [getD_set_if]
  refine ⟨fun j hjk => ?_,fun i hi => ?_,fun i hi => ?_⟩
  ·by_cases e:j=k
   ·subst e
    rw [if_pos ⟨rfl,by omega⟩,if_pos ⟨rfl,by omega⟩,if_pos ⟨rfl,by omega⟩]
    exact ⟨rfl,rfl,rfl⟩
   ·have hne:=bJ_inj hx (i:=j) (j:=k) (by omega) (by omega)
    rw [if_neg (fun h=>hne (by omega)),if_neg (fun h=>hne h.1.symm),if_neg (fun h=>e h.1.symm)]
    exact h1 j (by omega)
  ·rw [if_neg (fun h=>hi k (by omega) h.1)]
   exact h2 i fun j hj=>hi j (by omega)
  ·rw [if_neg (fun h=>hi k (by omega) h.1)]
   exact h3 i fun j hj=>hi j (by omega)
end Go.DI


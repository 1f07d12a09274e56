/- Ticks make no energy; what bounds the numbers of a run. No condition. -/
import Derived.Test.YtaphhpphfffnfaaGreatDoorTaze
/- Ticks make no energy; what bounds the numbers of a run. No condition. -/
set_option linter.unusedSimpArgs false
namespace Go.DI
theorem getD_take {l:List Int} {i k:Nat} (h:i<k):(l.take k).getD i 0=l.getD i 0:=by
 simp only [List.getD_eq_getElem?_getD]
 rw [List.getElem?_take_of_lt h]
theorem base_F0 {x:Ow} {s:Ws} {c:Int}:(baseS x s c).F.getD 0 0=W6 (0 - s.B.getD 0 0):=rfl
theorem base_Fi {x:Ow} {s:Ws} {c:Int} {i:Nat} (h:i+1<x.n.toNat):(baseS x s c).F.getD (i+1) 0=s.F.getD i 0:=by
 unfold baseS
 simp only [List.getD_cons_succ]
 exact getD_take (by omega)
theorem base_Bi {x:Ow} {s:Ws} {c:Int} {i:Nat} (hB:(s.B.length:Int)=x.n) (h:i+1<x.n.toNat):(baseS x s c).B.getD i 0=s.B.getD (i+1) 0:=by
 unfold baseS
 simp only [List.getD_eq_getElem?_getD]
 rw [List.getElem?_append_left (by rw [List.length_drop]; omega),List.getElem?_drop,Nat.add_comm]
theorem base_BN {x:Ow} {s:Ws} {c:Int} {N:Nat} (hB:(s.B.length:Int)=x.n) (h:x.n.toNat=N+1):(baseS x s c).B.getD N 0=W6 (s.F.getD N 0+c):=by
 unfold baseS
 simp only [List.getD_eq_getElem?_getD]
 rw [List.getElem?_append_right (by rw [List.length_drop]; omega),List.length_drop,show N - (s.B.length - 1)=0 by omega,show x.n.toNat - 1=N by omega]
 rfl
structure StpAt (x:Ln) (s:Ws) (c:Int) (N:Nat) (s':Ws):Prop where
 f0:s'.F.getD 0 0 = -(s.B.getD 0 0)
 bN:s'.B.getD N 0=s.F.getD N 0+c
 fi:∀ i,i<N→(∀ j,j<x.ar.length→bJ x j ≠ i)→s'.F.getD (i+1) 0=s.F.getD i 0∧s'.B.getD i 0=s.B.getD (i+1) 0
 fj:∀ j,j<x.ar.length→s'.F.getD (bJ x j+1) 0=pJ x s j - s.B.getD (bJ x j+1) 0∧s'.B.getD (bJ x j) 0=pJ x s j - s.F.getD (bJ x j) 0∧s'.L.getD j 0=pJ x s j
theorem stp_at {x:Ln} {s:Ws} {c M:Int} {N:Nat} (hx:LineOk x) (hs:Sh (opn x) s) (hg:Gd M s) (hM:M≤10000000) (hc : -10000000≤c∧c≤10000000) (hN:(opn x).n.toNat=N+1):StpAt x s c N (stp (opn x) s c):=by
 have hn:=(opn_ok hx).nb
 have hB:=hs.b
 obtain ⟨h1,h2,h3⟩:=jncs_at (o:=baseS (opn x) s c) hx hg hM (sh_base hs hn.1) x.ar.length (Nat.le_refl _)
 have b0:=(hg.b 0).2
 have bN:=(hg.b N).1
 refine ⟨?_,?_,fun i hi hj=>⟨?_,?_⟩,h1⟩
 ·show (jncs (opn x) s x.ar.length (baseS (opn x) s c)).F.getD 0 0=_
  rw [h2 0 fun j _=>by omega,base_F0,w6 (by omega) (by omega)]; omega
 ·show (jncs (opn x) s x.ar.length (baseS (opn x) s c)).B.getD N 0=_
  rw [h3 N fun j hj=>by have:=(j_ok hx hj).lt; omega,base_BN hB hN,w6 (by omega) (by omega)]
 ·show (jncs (opn x) s x.ar.length (baseS (opn x) s c)).F.getD (i+1) 0=_
  rw [h2 (i+1) fun j hk=>by have:=hj j hk; omega,base_Fi (by omega)]
 ·show (jncs (opn x) s x.ar.length (baseS (opn x) s c)).B.getD i 0=_
  rw [h3 i hj,base_Bi hB (by omega)]
end Go.DI

/- What bounds the numbers of the run of a law. No condition. -/
set_option linter.unusedSimpArgs false
namespace Go.DI
end Go.DI

/- Sums of states on plain lines. No condition. -/
set_option linter.unusedSimpArgs false
namespace Go.DI
end Go.DI


/- Matrices of waves as plain data. No condition. -/
import Derived.Test.YtaphhpphfffnfaaGreatDoorTaa
import Derived.Test.YtaphhpphfffnfaaGreatDoorTam
set_option linter.unusedSimpArgs false
namespace Go.DI
structure Mx where
 a:Ga
 b:Ga
 c:Ga
 d:Ga
 den:Int
 deriving Inhabited,DecidableEq
def mtimes (m n:Mx):Mx :=
 ⟨gadd (gadd (0,0) (gmul m.a n.a)) (gmul m.b n.c),gadd (gadd (0,0) (gmul m.a n.b)) (gmul m.b n.d),gadd (gadd (0,0) (gmul m.c n.a)) (gmul m.d n.c),gadd (gadd (0,0) (gmul m.c n.b)) (gmul m.d n.d),m.den * n.den⟩
def pipeM (p:Pp) (h:Int):Mx :=
 ⟨gmul (cosG (h * p.1)) (p.2,0),gmul (0, -1) (sinG (h * p.1)),gmul (gmul (gmul (0, -1) (sinG (h * p.1))) (p.2,0)) (p.2,0),gmul (cosG (h * p.1)) (p.2,0),p.2⟩
def chamM (area h:Int):Mx:=⟨(1,0),(0,0),gmul (gneg (area,0)) (gsub (1,0) (turnG (-h))),(1,0),1⟩
def lineM (x:Ow) (h:Int):Nat→Mx
 | 0=>pipeM (x.pp.getD 0 default) h
 | k+1=>mtimes (pipeM (x.pp.getD (k+1) default) h) (mtimes (chamM (x.ar.getD k 0) h) (lineM x h k))
structure MB (m:Mx) (n:Nat):Prop where
 a:nrm m.a≤n
 b:nrm m.b≤n
 c:nrm m.c≤n
 d:nrm m.d≤n
theorem MB.mono {m:Mx} {n k:Nat} (h:MB m n) (hk:n≤k):MB m k:=⟨Nat.le_trans h.a hk,Nat.le_trans h.b hk,Nat.le_trans h.c hk,Nat.le_trans h.d hk⟩
theorem nrm_real (n:Int):nrm (n,0)=n.natAbs:=by simp [nrm]
theorem pipeM_bd {p:Pp} {h:Int} (hp : 1≤p.2∧p.2≤10):nrm (pipeM p h).a≤10∧nrm (pipeM p h).b≤1∧nrm (pipeM p h).c≤100∧nrm (pipeM p h).d≤10:=by
 have hy:nrm (p.2,0)≤10:=by rw [nrm_real]; omega
 have h1:=nrm_mul_le (nrm_cos (h * p.1)) hy
 have h2:=nrm_mul_le (show nrm (0, -1)≤1 from by decide) (nrm_sin (h * p.1))
 have h3:=nrm_mul_le (nrm_mul_le h2 hy) hy
 unfold pipeM
 exact ⟨by omega,by omega,by omega,by omega⟩
theorem chamM_bd {a h:Int} (ha : 0≤a∧a≤20):nrm (chamM a h).a≤1∧nrm (chamM a h).b≤0∧nrm (chamM a h).c≤40∧nrm (chamM a h).d≤1:=by
 have h1:nrm (gneg (a,0))≤20:=by rw [nrm_neg,nrm_real]; omega
 have h2:=nrm_sub (1,0) (turnG (-h))
 rw [nrm_turn,show nrm (1,0)=1 from rfl] at h2
 have h3:=nrm_mul_le h1 h2
 exact ⟨show nrm (1,0)≤1 by decide,show nrm (0,0)≤0 by decide,by unfold chamM; dsimp only; omega,show nrm (1,0)≤1 by decide⟩
theorem nrm_dot {m n:Nat} {a b c d:Ga} {k:Nat} (h1:nrm a≤m) (h2:nrm b≤n) (h3:nrm c≤k) (h4:nrm d≤k):nrm (gadd (gadd (0,0) (gmul a c)) (gmul b d))≤(m+n) * k:=by
 have e1:=nrm_mul_le h1 h3
 have e2:=nrm_mul_le h2 h4
 have e3:=nrm_add (0,0) (gmul a c)
 have e4:=nrm_add (gadd (0,0) (gmul a c)) (gmul b d)
 rw [show nrm (0,0)=0 from rfl] at e3
 rw [Nat.add_mul]
 omega
theorem cham_times {a h:Int} (ha : 0≤a∧a≤20) {m:Mx} {k:Nat} (hm:MB m k):MB (mtimes (chamM a h) m) (41 * k):=by
 obtain ⟨h1,h2,h3,h4⟩:=chamM_bd (h:=h) ha
 refine ⟨Nat.le_trans (nrm_dot h1 h2 hm.a hm.c) ?_,Nat.le_trans (nrm_dot h1 h2 hm.b hm.d) ?_,Nat.le_trans (nrm_dot h3 h4 hm.a hm.c) ?_,Nat.le_trans (nrm_dot h3 h4 hm.b hm.d) ?_⟩ <;> omega
theorem pipe_times {p:Pp} {h:Int} (hp : 1≤p.2∧p.2≤10) {m:Mx} {k:Nat} (hm:MB m k):MB (mtimes (pipeM p h) m) (110 * k):=by
 obtain ⟨h1,h2,h3,h4⟩:=pipeM_bd (h:=h) hp
 refine ⟨Nat.le_trans (nrm_dot h1 h2 hm.a hm.c) ?_,Nat.le_trans (nrm_dot h1 h2 hm.b hm.d) ?_,Nat.le_trans (nrm_dot h3 h4 hm.a hm.c) ?_,Nat.le_trans (nrm_dot h3 h4 hm.b hm.d) ?_⟩ <;> omega
theorem lineM_bd {x:Ow} {h:Int} (hx:OwOk x):∀ (k:Nat),k<x.pp.length→MB (lineM x h k) (100 * 4510 ^ k)∧1≤(lineM x h k).den∧(lineM x h k).den≤10 ^ (k+1)
 | 0,hk=>by
  have hp:=hx.pip _ (getD_mem (d:=default) hk)
  obtain ⟨h1,h2,h3,h4⟩:=pipeM_bd (h:=h) hp.2
  exact ⟨⟨by show nrm (pipeM _ h).a≤_; omega,by show nrm (pipeM _ h).b≤_; omega,by show nrm (pipeM _ h).c≤_; omega,by show nrm (pipeM _ h).d≤_; omega⟩,hp.2.1,hp.2.2⟩
 | k+1,hk=>by
  have hp:=hx.pip _ (getD_mem (d:=default) hk)
  have ha:=hx.are _ (getD_mem (l:=x.ar) (d:=0) (show k<x.ar.length by have:=hx.ars; omega))
  obtain ⟨h1,h2,h3⟩:=lineM_bd (h:=h) hx k (by omega)
  refine ⟨(pipe_times hp.2 (cham_times ha h1)).mono ?_,?_⟩
  ·rw [Nat.pow_succ]; omega
  ·show 1≤(x.pp.getD (k+1) default).2 * (1 * (lineM x h k).den)∧(x.pp.getD (k+1) default).2 * (1 * (lineM x h k).den)≤10 ^ (k+1+1)
   rw [Int.one_mul]
   generalize (x.pp.getD (k+1) default).2=y at hp
   generalize (lineM x h k).den=d at h2 h3
   refine ⟨?_,?_⟩
   ·have:=Int.mul_le_mul hp.2.1 h2 (by omega) (by omega)
    simpa using this
   ·have:=Int.mul_le_mul hp.2.2 h3 (by omega) (by omega)
    rw [Int.pow_succ,Int.mul_comm (10 ^ (k+1)) 10]
    exact this
def lineMat (x:Ow) (h:Int):Mx:=lineM x h x.ar.length
theorem lineMat_bd {x:Ow} {h:Int} (hx:OwOk x):MB (lineMat x h) 9173385100000∧1≤(lineMat x h).den∧(lineMat x h).den≤10000:=by
 have hl:=hx.len; have ha:=hx.ars
 obtain ⟨h1,h2,h3⟩:=lineM_bd (h:=h) hx x.ar.length (by omega)
 have:x.ar.length=0∨x.ar.length=1∨x.ar.length=2∨x.ar.length=3:=by omega
 unfold lineMat
 rcases this with e | e | e | e <;> rw [e] at h1 h2 h3 ⊢ <;> exact ⟨h1.mono (by decide),h2,by omega⟩
def gcdE (a b:Int):Int:=(Nat.gcd a.natAbs b.natAbs:Nat)
def gcdL:Int→List Int→Int
 | a,[]=>a
 | a,b :: r=>gcdL (gcdE a b) r
theorem gcdE_zero (a:Int):gcdE a 0=a.natAbs:=by simp [gcdE]
theorem gcdE_step (a b:Int):gcdE b (a.tmod b)=gcdE a b:=by
 unfold gcdE
 congr 1
 rw [Int.natAbs_tmod,Nat.gcd_comm a.natAbs,Nat.gcd_rec b.natAbs a.natAbs,Nat.gcd_comm]
theorem gcdE_comm (a b:Int):gcdE a b=gcdE b a:=by unfold gcdE; rw [Nat.gcd_comm]
theorem gcdE_natAbs (a b:Int):gcdE (a.natAbs:Nat) b=gcdE a b:=by simp [gcdE]
theorem gcdL_abs (u:Int) (l:List Int):(gcdL u l).natAbs=(gcdL (u.natAbs:Nat) l).natAbs:=by
 cases l with
 | nil=>simp [gcdL]
 | cons b r=>show (gcdL (gcdE u b) r).natAbs=(gcdL (gcdE (u.natAbs:Nat) b) r).natAbs; rw [gcdE_natAbs]
theorem gcdL_nonneg:∀ (l:List Int) (a:Int),0≤a→0≤gcdL a l
 | [],a,h=>h
 | b :: r,a,_=>gcdL_nonneg r (gcdE a b) (by unfold gcdE; omega)
def gcdS (l:List Int):Int:=gcdL 0 l
theorem gcdE_bd {a:Int} (b:Int) (h : 1≤a) : 1≤gcdE a b∧gcdE a b≤a:=by
 unfold gcdE
 have h1:=Nat.gcd_pos_of_pos_left b.natAbs (Int.natAbs_pos.2 (show a ≠ 0 by omega))
 have h2:=Nat.gcd_le_left b.natAbs (Int.natAbs_pos.2 (show a ≠ 0 by omega))
 omega
theorem gcdL_bd:∀ (l:List Int) {a:Int},1≤a→1≤gcdL a l∧gcdL a l≤a
 | [],a,h=>⟨h,Int.le_refl _⟩
 | b :: r,a,h=>by
  have h1:=gcdE_bd b h
  have h2:=gcdL_bd r h1.1
  exact ⟨h2.1,Int.le_trans h2.2 h1.2⟩
theorem gcdS_bd {d:Int} (l:List Int) (h : 1≤d) : 1≤gcdS (d :: l)∧gcdS (d :: l)≤d:=by
 show 1≤gcdL (gcdE 0 d) l∧gcdL (gcdE 0 d) l≤d
 have:gcdE 0 d=d:=by rw [gcdE_comm,gcdE_zero]; omega
 rw [this]
 exact gcdL_bd l h
def govr (g:Ga) (n:Int):Ga:=(g.1.tdiv n,g.2.tdiv n)
def redG1 (m:Mx):Int:=gcdS [m.den,m.a.1,m.a.2]
def redG2 (m:Mx):Int:=gcdS [redG1 m,m.b.1,m.b.2]
def redG3 (m:Mx):Int:=gcdS [redG2 m,m.c.1,m.c.2]
def redG (m:Mx):Int:=gcdS [redG3 m,m.d.1,m.d.2]
theorem redG_bd {m:Mx} (h : 1≤m.den):(1≤redG1 m∧redG1 m≤m.den)∧(1≤redG2 m∧redG2 m≤m.den)∧(1≤redG3 m∧redG3 m≤m.den)∧1≤redG m∧redG m≤m.den:=by
 have h1 : 1≤redG1 m∧redG1 m≤m.den:=gcdS_bd _ h
 have h2 : 1≤redG2 m∧redG2 m≤redG1 m:=gcdS_bd _ h1.1
 have h3 : 1≤redG3 m∧redG3 m≤redG2 m:=gcdS_bd _ h2.1
 have h4 : 1≤redG m∧redG m≤redG3 m:=gcdS_bd _ h3.1
 omega
def lowM (m:Mx):Mx:=⟨govr m.a (redG m),govr m.b (redG m),govr m.c (redG m),govr m.d (redG m),m.den.tdiv (redG m)⟩
def impG (m:Mx):Int:=if m.d.1<0∨m.d.1=0∧m.d.2<0 then -gcdS [m.b.1,m.b.2,m.d.1,m.d.2] else gcdS [m.b.1,m.b.2,m.d.1,m.d.2]
def impL (m:Mx):Ga × Ga:=if m.b=(0,0) then ((0,0),(1,0)) else (govr m.b (impG m),govr m.d (impG m))
def quarterE (h:Int):Int:=if 0≤h∧h≤3 then 0 else 2
theorem gcdL_pos:∀ (l:List Int) (a:Int),(∃ n ∈ l,n ≠ 0)→1≤gcdL a l
 | [],a,h=>by obtain ⟨n,hn,_⟩:=h; cases hn
 | b :: r,a,h=>by
  by_cases hb:b=0
  ·by_cases hr:∃ n ∈ r,n ≠ 0
   ·exact gcdL_pos r _ hr
   ·obtain ⟨n,hn,h0⟩:=h
    rcases List.mem_cons.1 hn with rfl | hn
    ·exact absurd hb h0
    ·exact absurd ⟨n,hn,h0⟩ hr
  ·have h1 : 1≤gcdE a b:=by
    rw [gcdE_comm]
    unfold gcdE
    have:=Nat.gcd_pos_of_pos_left a.natAbs (Int.natAbs_pos.2 hb)
    omega
   exact (gcdL_bd r h1).1
theorem gcdE_ub {a b m:Int} (ha : -m≤a∧a≤m) (hb : -m≤b∧b≤m):gcdE a b≤m:=by
 by_cases h:a=0
 ·subst h
  rw [gcdE_comm,gcdE_zero]; omega
 ·unfold gcdE
  have:=Nat.gcd_le_left b.natAbs (Int.natAbs_pos.2 h)
  omega
theorem gcdL_ub:∀ (l:List Int) {a m:Int}, -m≤a∧a≤m→(∀ n ∈ l, -m≤n∧n≤m)→gcdL a l≤m
 | [],a,m,h,_=>h.2
 | b :: r,a,m,h,hl=>by
  have h1:=gcdE_ub h (hl b (by simp))
  have h2 : 0≤gcdE a b:=by unfold gcdE; omega
  exact gcdL_ub r ⟨by omega,h1⟩ fun n hn=>hl n (by simp [hn])
def matE (x:Ln) (h:Int):Int:=fstE (chkL x).2 (quarterE h)
end Go.DI


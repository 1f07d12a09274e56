/- A steady oscillation on the grid: a tick of the grid leads from its state at a tick to that at the next one. No condition. -/
import Derived.Test.YtaphhpphfffnfaaGreatDoorTazb
import Derived.Test.YtaphhpphfffnfaaGreatDoorTazf
set_option linter.unusedSimpArgs false
namespace Go.DI
theorem turn_tick (h t:Int):turnG (h * (t % 4))=turnG (h * t):=by
 have e:(h * (t % 4)) % 4=(h * t) % 4:=by rw [Int.mul_emod,Int.emod_emod,← Int.mul_emod]
 unfold turnG
 rw [e]
theorem turn2 (a b:Int) (z:Ga):gmul (turnG a) (gmul (turnG b) z)=gmul (turnG (a+b)) z:=by rw [turn_add,gmul_assoc]
theorem turn_neg (p:Int):turnG (-p)=((turnG p).1, -(turnG p).2):=by
 unfold turnG
 rcases (show p % 4=0∨p % 4=1∨p % 4=2∨p % 4=3 by omega) with e | e | e | e
 ·rw [show (-p) % 4=0 by omega,e]; rfl
 ·rw [show (-p) % 4=3 by omega,e]; rfl
 ·rw [show (-p) % 4=2 by omega,e]; rfl
 ·rw [show (-p) % 4=1 by omega,e]; rfl
theorem half_g (a b:Ga):govr (gadd (gsc 2 a) (gsc 2 b)) 2=gadd a b∧govr (gsub (gsc 2 a) (gsc 2 b)) 2=gsub a b:=by
 unfold govr gadd gsub gsc
 dsimp only
 rw [← Int.mul_add,← Int.mul_add,← Int.mul_sub,← Int.mul_sub,Int.mul_tdiv_cancel_left _ (by decide),Int.mul_tdiv_cancel_left _ (by decide),Int.mul_tdiv_cancel_left _ (by decide),Int.mul_tdiv_cancel_left _ (by decide)]
 exact ⟨rfl,rfl⟩
theorem gsc_two {R:Int} {g v:Ga}:gsc R (gmul (2 * g.1,2 * g.2) v)=gsc 2 (gsc R (gmul g v)):=by
 unfold gsc gmul
 simp only [Prod.mk.injEq]
 constructor <;> grind
structure ExF (x:Ow) (h:Int) (f:Ga) (k:Nat):Prop where
 p:gadd (entF x h f k) (leaF x h f k)=(stF x h f k).1
 q:gsub (entF x h f k) (leaF x h f k)=floF x h f k
 r:gsc (x.pp.getD k default).2 (floF x h f k)=(stF x h f k).2
theorem ex_f {x:Ow} {h:Int} {g:Ga} (hx:OwOk x) {k:Nat} (hk:k<x.pp.length):ExF x h (2 * g.1,2 * g.2) k:=by
 have hp:=hx.pip _ (getD_mem (d:=default) hk)
 have hy:(x.pp.getD k default).2 ≠ 0:=by omega
 have h1:(stF x h (2 * g.1,2 * g.2) k).1=gsc 2 (gsc (prodP (x.pp.drop k)) (gmul g (preM x h k).b)):=gsc_two
 have h2:(stF x h (2 * g.1,2 * g.2) k).2=gsc ((x.pp.getD k default).2 * prodP (x.pp.drop (k+1))) (gmul (2 * g.1,2 * g.2) (preM x h k).d):=by
  rw [← prod_step hk]; rfl
 have h3:floF x h (2 * g.1,2 * g.2) k=gsc 2 (gsc (prodP (x.pp.drop (k+1))) (gmul g (preM x h k).d)):=by
  unfold floF
  rw [h2,govr_gsc hy,gsc_two]
 have h4:gsc (x.pp.getD k default).2 (floF x h (2 * g.1,2 * g.2) k)=(stF x h (2 * g.1,2 * g.2) k).2:=by
  rw [h2,h3,← gsc_two]
  unfold gsc
  simp only [Prod.mk.injEq]
  constructor <;> grind
 have e1:entF x h (2 * g.1,2 * g.2) k=gadd (gsc (prodP (x.pp.drop k)) (gmul g (preM x h k).b)) (gsc (prodP (x.pp.drop (k+1))) (gmul g (preM x h k).d)):=by
  unfold entF
  rw [h1,h3]
  exact (half_g _ _).1
 have e2:leaF x h (2 * g.1,2 * g.2) k=gsub (gsc (prodP (x.pp.drop k)) (gmul g (preM x h k).b)) (gsc (prodP (x.pp.drop (k+1))) (gmul g (preM x h k).d)):=by
  unfold leaF
  rw [h1,h3]
  exact (half_g _ _).2
 refine ⟨?_,?_,h4⟩
 ·rw [e1,e2,h1]
  generalize gsc (prodP (x.pp.drop k)) _=a
  generalize gsc (prodP (x.pp.drop (k+1))) _=b
  unfold gadd gsub gsc
  simp only [Prod.mk.injEq]
  omega
 ·rw [e1,e2,h3]
  generalize gsc (prodP (x.pp.drop k)) _=a
  generalize gsc (prodP (x.pp.drop (k+1))) _=b
  unfold gadd gsub gsc
  simp only [Prod.mk.injEq]
  omega
theorem ex_af {x:Ow} {h:Int} {f:Ga} {k:Nat} (hx:OwOk x) (hk:k<x.pp.length) (e:ExF x h f k) :
  (afF x h f k).1=gadd (gmul (turnG (-(h * (x.pp.getD k default).1))) (entF x h f k)) (gmul (turnG (h * (x.pp.getD k default).1)) (leaF x h f k)) ∧
  (afF x h f k).2=gsc (x.pp.getD k default).2 (gsub (gmul (turnG (-(h * (x.pp.getD k default).1))) (entF x h f k)) (gmul (turnG (h * (x.pp.getD k default).1)) (leaF x h f k))):=by
 have h3:turnG 3=(0, -1):=rfl
 rw [← st_af hx hk,turn_neg]
 have hq:govr (stF x h f k).2 (x.pp.getD k default).2=floF x h f k:=rfl
 unfold thrA
 rw [hq,h3,← e.r,← e.q,← e.p]
 generalize turnG _=T
 generalize entF x h f k=u
 generalize leaF x h f k=v
 generalize (x.pp.getD k default).2=y
 unfold gmul gadd gsub gsc
 simp only [Prod.mk.injEq]
 refine ⟨⟨?_,?_⟩,⟨?_,?_⟩⟩ <;> grind
theorem jn_rel {y w A:Int} {u v e l V p q:Ga} (h1:p=gadd u v) (h2:q=gsc y (gsub u v)) (h3:p=gadd e l) (h4:gsc w (gsub e l)=gsub q (gsc A (gmul (gsub (1,0) V) p))) :
  gsc (y+w+A) p=gadd (gadd (gsc (2 * y) u) (gsc (2 * w) l)) (gsc A (gmul V p)):=by
 subst h2
 unfold gmul gadd gsub gsc at *
 rw [Prod.ext_iff] at h1 h3 h4 ⊢
 dsimp only at h1 h3 h4 ⊢
 constructor <;> grind
theorem re_rel {K y w A:Int} {X p u l m:Ga} (h:gsc K p=gadd (gadd (gsc (2 * y) u) (gsc (2 * w) l)) (gsc A m)) :
  2 * y * (gmul X u).1+2 * w * (gmul X l).1+A * (gmul X m).1=K * (gmul X p).1:=by
 unfold gmul gadd gsc at *
 rw [Prod.ext_iff] at h
 dsimp only at h ⊢
 grind
theorem re_add {X a b:Ga}:(gmul X (gadd a b)).1=(gmul X a).1+(gmul X b).1:=by
 unfold gmul gadd; dsimp only; grind
theorem re_sub {X a b:Ga}:(gmul X (gsub a b)).1=(gmul X a).1 - (gmul X b).1:=by
 unfold gmul gsub; dsimp only; grind
theorem getD_app {α:Type} [Inhabited α] {l m:List α} {n:Nat} (h:n<l.length):(l ++ m).getD n default=l.getD n default:=by
 simp [List.getD_eq_getElem?_getD,List.getElem?_append_left h]
theorem range_get {α:Type} [Inhabited α] {g:Nat→α} {n i:Nat} (h:i<n):((List.range n).map g).getD i default=g i:=by
 simp [List.getD_eq_getElem?_getD,h]
def cAt (x:Ow) (k i:Nat):Nat:=(cellsN (x.pp.take k)).toNat+i
theorem fw_at {x:Ow} {h:Int} {f:Ga} (hx:OwOk x) {k i:Nat} (hi:(i:Int)<(x.pp.getD k default).1):∀ m,k<m→m≤x.pp.length →
  (fwA x h f m).getD (cAt x k i) default=fw1 x h f k i∧(bwA x h f m).getD (cAt x k i) default=bw1 x h f k i
 | 0,hk,_=>by omega
 | m+1,hk,hm=>by
  have l1:=fwA_len (h:=h) (f:=f) hx m (by omega)
  have l2:=bwA_len (h:=h) (f:=f) hx m (by omega)
  have c0:=cells_le hx k
  show (fwA x h f m ++ fwK x h f m (x.pp.getD m default).1.toNat).getD _ default=_∧(bwA x h f m ++ bwK x h f m (x.pp.getD m default).1.toNat).getD _ default=_
  by_cases e:k=m
  ·subst e
   unfold cAt
   rw [getD_last (by omega),getD_last (by omega),show (cellsN (x.pp.take k)).toNat+i - (fwA x h f k).length=i by omega,show (cellsN (x.pp.take k)).toNat+i - (bwA x h f k).length=i by omega]
   exact ⟨range_get (by omega),range_get (by omega)⟩
  ·have c1:=cellsN_step (l:=x.pp) (i:=k) (by omega)
   have c2:cellsN (x.pp.take (k+1))≤cellsN (x.pp.take m):=by
    by_cases e2:k+1=m
    ·rw [e2]; exact Int.le_refl _
    ·exact Int.le_of_lt (cells_lt (fun p hp=>(hx.pip p hp).1) (by omega) (by omega))
   have hlt:cAt x k i<cellsN (x.pp.take m):=by unfold cAt; omega
   rw [getD_app (by omega),getD_app (by omega)]
   exact fw_at hx hi m (by omega) (by omega)
theorem re_at {p:Int} {l:List Ga} {i:Nat}:(reL p l).getD i 0=(gmul (turnG p) (l.getD i default)).1:=by
 unfold reL
 simp only [List.getD_eq_getElem?_getD,List.getElem?_map]
 cases l[i]? with
 | some v=>rfl
 | none=>show (0:Int)=(gmul (turnG p) (0,0)).1; unfold gmul; simp
theorem leA_at {x:Ow} {h:Int} {f:Ga} {j:Nat}:∀ m,j<m→(leA x h f m).getD j default=(afF x h f j).1
 | 0,hj=>by omega
 | m+1,hj=>by
  have hl:=leA_len (x:=x) (h:=h) (f:=f) m
  show (leA x h f m ++ [(afF x h f m).1]).getD j default=_
  by_cases e:j=m
  ·subst e
   rw [getD_last (by omega),hl,Nat.sub_self]; rfl
  ·rw [getD_app (by omega)]
   exact leA_at m (by omega)
structure SatAt (x:Ln) (h:Int) (f:Ga) (t:Int) (s:Ws):Prop where
 F:∀ k i:Nat,k<x.pp.length→(i:Int)<(x.pp.getD k default).1→s.F.getD (cAt (opn x) k i) 0=(gmul (turnG (h * t - h * i)) (entF (opn x) h f k)).1
 B:∀ k i:Nat,k<x.pp.length→(i:Int)<(x.pp.getD k default).1→s.B.getD (cAt (opn x) k i) 0=(gmul (turnG (h * t+h * (i+1))) (leaF (opn x) h f k)).1
 L:∀ j,j<x.ar.length→s.L.getD j 0=(gmul (turnG (h * t)) (afF (opn x) h f j).1).1
theorem sat_at {x:Ln} {h t:Int} {f:Ga} (hx:LineOk x):SatAt x h f t (satS (styF (opn x) h f) t):=by
 have how:=opn_ok hx
 have hP:satP (styF (opn x) h f) t=h * (t % 4):=rfl
 refine ⟨fun k i hk hi => ?_,fun k i hk hi => ?_,fun j hj => ?_⟩
 ·show (reL _ (fwA (opn x) h f x.pp.length)).getD _ 0=_
  rw [hP,re_at,(fw_at how hi x.pp.length hk (Nat.le_refl _)).1,turn_tick]
  unfold fw1
  rw [turn2,← Int.sub_eq_add_neg]
 ·show (reL _ (bwA (opn x) h f x.pp.length)).getD _ 0=_
  rw [hP,re_at,(fw_at how hi x.pp.length hk (Nat.le_refl _)).2,turn_tick]
  unfold bw1
  rw [turn2]
 ·show (reL _ (leA (opn x) h f x.ar.length)).getD _ 0=_
  rw [hP,re_at,leA_at _ hj,turn_tick]
theorem sat_cl {x:Ln} {h t:Int} {f:Ga}:(gmul (turnG (satP (styF (opn x) h f) t)) (styF (opn x) h f).c).1=(gmul (turnG (h * t)) (clA (opn x) h f x.pp.length)).1:=by
 show (gmul (turnG (h * (t % 4))) _).1=_
 rw [turn_tick]; rfl
theorem bJ_at {x:Ln} (hx:LineOk x) {j c:Nat} (hj:j<x.ar.length) (hc:(x.pp.getD j default).1=c+1):bJ x j=cAt (opn x) j c∧bJ x j+1=cAt (opn x) (j+1) 0:=by
 have hars:=hx.ars
 have h1:=cellsN_step (l:=x.pp) (i:=j) (by omega)
 have h2:=cells_le (opn_ok hx) j
 have h2 : 0≤cellsN (x.pp.take j)∧_:=h2
 have e:(opn x).pp=x.pp:=rfl
 unfold bJ cAt
 rw [e]
 omega
theorem sat_step {x:Ln} {h t:Int} {g:Ga} {N:Nat} {s s':Ws} (hx:LineOk x) (hN:(opn x).n.toNat=N+1) (h1:SatAt x h (2 * g.1,2 * g.2) t s) (h2:SatAt x h (2 * g.1,2 * g.2) (t+1) s') :
  StpAt x s (gmul (turnG (h * (t+1))) (clA (opn x) h (2 * g.1,2 * g.2) x.pp.length)).1 N s':=by
 have how:=opn_ok hx
 have hars:=hx.ars
 have hlen:=hx.len
 have hpp:(opn x).pp=x.pp:=rfl
 have hn:(opn x).n=cellsN x.pp:=rfl
 have ex:=fun k (hk:k<x.pp.length)=>ex_f (h:=h) (g:=g) how (k:=k) hk
 have cp:∀ k,k<x.pp.length→∃ c:Nat,(x.pp.getD k default).1=c+1:=fun k hk=>by
  have:=hx.pip _ (getD_mem (d:=default) hk)
  exact ⟨((x.pp.getD k default).1 - 1).toNat,by omega⟩
 generalize hf:(2 * g.1,2 * g.2)=f at *
 refine ⟨?_,?_,fun i hi hj => ?_,fun j hj => ?_⟩
 ·obtain ⟨c,hc⟩:=cp 0 (by omega)
  have a1:=h2.F 0 0 (by omega) (by omega)
  have a2:=h1.B 0 0 (by omega) (by omega)
  have z:cAt (opn x) 0 0=0:=rfl
  rw [z] at a1 a2
  rw [a1,a2,show h * (t+1) - h * ((0:Nat):Int)=h * (t+1) by simp,show h * t+h * (((0:Nat):Int)+1)=h * (t+1) by rw [Int.mul_add h t 1]; simp]
  have e:=(ex 0 (by omega)).p
  rw [stF_zero] at e
  have e2:=re_add (X:=turnG (h * (t+1))) (a:=entF (opn x) h f 0) (b:=leaF (opn x) h f 0)
  rw [e] at e2
  have e3:(gmul (turnG (h * (t+1))) (0,0)).1=0:=by unfold gmul; simp
  dsimp only at e2
  omega
 ·obtain ⟨m,hm⟩ : ∃ m,x.pp.length=m+1:=⟨x.pp.length - 1,by omega⟩
  obtain ⟨c,hc⟩:=cp m (by omega)
  have a1:=h2.B m c (by omega) (by omega)
  have a2:=h1.F m c (by omega) (by omega)
  have c1:=cellsN_step (l:=x.pp) (i:=m) (by omega)
  rw [List.take_of_length_le (by omega)] at c1
  have c2 : 0≤cellsN (x.pp.take m)∧_:=cells_le how m
  have z:cAt (opn x) m c=N:=by unfold cAt; rw [hpp]; omega
  rw [z] at a1 a2
  rw [a1,a2,hm]
  show _=_+(gmul _ (cl1 (opn x) h f m)).1
  unfold cl1
  rw [re_sub,turn2,turn2,hpp,hc,show h * t - h * (c:Int)=h * (t+1) + -(h * ((c:Int)+1)) by grind]
  omega
 ·obtain ⟨k,hk,k1,k2⟩:=cell_pipe x.pp i (fun p hp=>(hx.pip p hp).1) (by omega)
  have c1:=cellsN_step (l:=x.pp) (i:=k) hk
  have c2 : 0≤cellsN (x.pp.take k)∧_:=cells_le how k
  have hin:(i:Int)+1<cellsN (x.pp.take (k+1)):=by
   by_cases e:(i:Int)+1<cellsN (x.pp.take (k+1))
   ·exact e
   ·exfalso
    by_cases e2:k<x.ar.length
    ·exact hj k e2 (by unfold bJ; omega)
    ·rw [List.take_of_length_le (by omega)] at e; omega
  obtain ⟨r,hr⟩ : ∃ r:Nat,i=(cellsN (x.pp.take k)).toNat+r:=⟨i - (cellsN (x.pp.take k)).toNat,by omega⟩
  have z1:i=cAt (opn x) k r:=hr
  have z2:i+1=cAt (opn x) k (r+1):=by unfold cAt; rw [hpp]; omega
  have a1:=h2.F k (r+1) hk (by omega)
  have a2:=h1.F k r hk (by omega)
  have a3:=h2.B k r hk (by omega)
  have a4:=h1.B k (r+1) hk (by omega)
  rw [← z1] at a2 a3
  rw [← z2] at a1 a4
  rw [a1,a2,a3,a4]
  constructor
  ·rw [show h * (t+1) - h * ((r+1:Nat):Int)=h * t - h * (r:Int) by rw [Int.natCast_add]; grind]
  ·rw [show h * (t+1)+h * ((r:Int)+1)=h * t+h * (((r+1:Nat):Int)+1) by rw [Int.natCast_add]; grind]
 ·obtain ⟨c,hc⟩:=cp j (by omega)
  obtain ⟨c',hc'⟩:=cp (j+1) (by omega)
  obtain ⟨b1,b2⟩:=bJ_at hx hj hc
  have ho:=j_ok hx hj
  have hp1:=(hx.pip _ (getD_mem (l:=x.pp) (i:=j) (d:=default) (by omega))).2
  have hp2:=(hx.pip _ (getD_mem (l:=x.pp) (i:=j+1) (d:=default) (by omega))).2
  have hA:=ar_bd hx j
  have aF:=h1.F j c (by omega) (by omega)
  have aB:=h1.B (j+1) 0 (by omega) (by omega)
  have aL:=h1.L j hj
  have bF:=h2.F (j+1) 0 (by omega) (by omega)
  have bB:=h2.B j c (by omega) (by omega)
  have bL:=h2.L j hj
  rw [← b1] at aF bB
  rw [← b2] at aB bF
  have ex1:=ex j (by omega)
  have ex2:=ex (j+1) (by omega)
  obtain ⟨f1,f2⟩:=ex_af (h:=h) how (k:=j) (by rw [hpp]; omega) ex1
  have hst:=af_st (x:=opn x) (h:=h) (f:=f) (k:=j)
  rw [hpp,hc] at f1 f2
  have s1:(stF (opn x) h f (j+1)).1=(afF (opn x) h f j).1:=by rw [← hst]; rfl
  have s2:(stF (opn x) h f (j+1)).2=gsub (afF (opn x) h f j).2 (gsc (x.ar.getD j 0) (gmul (gsub (1,0) (turnG (-h))) (afF (opn x) h f j).1)):=by
   rw [← hst]
   unfold byA
   have:gmul (turnG (-h)) (1,0)=turnG (-h):=by unfold gmul; simp
   rw [this]; rfl
  have p1:=ex2.p
  have q1:=ex2.r
  rw [← ex2.q,hpp] at q1
  rw [s1] at p1
  rw [s2] at q1
  have key:=re_rel (X:=turnG (h * (t+1))) (jn_rel f1 f2 p1.symm q1)
  rw [turn2,turn2,show h * (t+1) + -(h * ((c:Int)+1))=h * t - h * (c:Int) by grind,show h * (t+1) + -h=h * t by grind,← aF,← aL] at key
  rw [show h * t+h * (((0:Nat):Int)+1)=h * (t+1) by rw [Int.mul_add h t 1]; simp] at aB
  rw [show h * (t+1) - h * ((0:Nat):Int)=h * (t+1) by simp] at bF
  rw [← aB] at key
  have hpj:pJ x s j=s'.L.getD j 0:=by
   unfold pJ jI
   rw [ho.y,ho.w,key,Int.mul_tdiv_cancel_left _ (by omega),bL]
  have r1:=re_add (X:=turnG (h * (t+1))) (a:=entF (opn x) h f (j+1)) (b:=leaF (opn x) h f (j+1))
  rw [p1,← bL,← aB,← bF] at r1
  have r2:=re_add (X:=turnG (h * (t+1))) (a:=gmul (turnG (-(h * ((c:Int)+1)))) (entF (opn x) h f j)) (b:=gmul (turnG (h * ((c:Int)+1))) (leaF (opn x) h f j))
  rw [← f1,← bL,turn2,turn2,show h * (t+1) + -(h * ((c:Int)+1))=h * t - h * (c:Int) by grind,← aF,← bB] at r2
  rw [hpj]
  omega
theorem stp_uniq {x:Ln} {s a b:Ws} {c:Int} {N:Nat} (hN:(opn x).n.toNat=N+1) (ha:StpAt x s c N a) (hb:StpAt x s c N b) (sa:Sh (opn x) a) (sb:Sh (opn x) b):a=b:=by
 have a1:=sa.f; have a2:=sa.b; have a3:=sa.l; have b1:=sb.f; have b2:=sb.b; have b3:=sb.l
 have har:(opn x).ar.length=x.ar.length:=rfl
 have hF:a.F=b.F:=eq_getD 0 (by omega) fun i hi=>by
  cases i with
  | zero=>rw [ha.f0,hb.f0]
  | succ i =>
   by_cases hj:∃ j,j<x.ar.length∧bJ x j=i
   ·obtain ⟨j,hj,rfl⟩:=hj
    rw [(ha.fj j hj).1,(hb.fj j hj).1]
   ·have hj:∀ j,j<x.ar.length→bJ x j ≠ i:=fun j h1 h2=>hj ⟨j,h1,h2⟩
    rw [(ha.fi i (by omega) hj).1,(hb.fi i (by omega) hj).1]
 have hB:a.B=b.B:=eq_getD 0 (by omega) fun i hi=>by
  by_cases e:i=N
  ·subst e; rw [ha.bN,hb.bN]
  ·by_cases hj:∃ j,j<x.ar.length∧bJ x j=i
   ·obtain ⟨j,hj,rfl⟩:=hj
    rw [(ha.fj j hj).2.1,(hb.fj j hj).2.1]
   ·have hj:∀ j,j<x.ar.length→bJ x j ≠ i:=fun j h1 h2=>hj ⟨j,h1,h2⟩
    rw [(ha.fi i (by omega) hj).2,(hb.fi i (by omega) hj).2]
 have hL:a.L=b.L:=eq_getD 0 (by omega) fun j hj=>by
  rw [(ha.fj j (by omega)).2.2,(hb.fj j (by omega)).2.2]
 cases a; cases b
 simp only [Ws.mk.injEq]
 exact ⟨hF,hB,hL⟩
theorem sty_sh {x:Ln} {h t:Int} {f:Ga} (hx:LineOk x):Sh (opn x) (satS (styF (opn x) h f) t):=by
 have how:=opn_ok hx
 have hn:(opn x).n=cellsN x.pp:=rfl
 have e:(opn x).pp=x.pp:=rfl
 have e1:=fwA_len (h:=h) (f:=f) how (opn x).pp.length (Nat.le_refl _)
 have e2:=bwA_len (h:=h) (f:=f) how (opn x).pp.length (Nat.le_refl _)
 rw [List.take_of_length_le (Nat.le_refl _)] at e1 e2
 refine ⟨?_,?_,?_⟩
 ·show ((reL _ (fwA (opn x) h f (opn x).pp.length)).length:Int)=_
  unfold reL; rw [List.length_map]; exact e1
 ·show ((reL _ (bwA (opn x) h f (opn x).pp.length)).length:Int)=_
  unfold reL; rw [List.length_map]; exact e2
 ·show (reL _ (leA (opn x) h f (opn x).ar.length)).length=_
  unfold reL; rw [List.length_map]; exact leA_len _
theorem re_bd {T:Int} {g:Ga} (hg:partOk g) : -1000000≤(gmul (turnG T) g).1∧(gmul (turnG T) g).1≤1000000:=by
 unfold partOk at hg
 unfold gmul
 rcases turn_cases T with e | e | e | e <;> rw [e] <;> dsimp only <;> omega
theorem sty_ok {x:Ln} {h t:Int} {f:Ga} (hx:LineOk x) (hp:∀ g ∈ allG (styF (opn x) h f),partOk g):StateOk (opn x) (satS (styF (opn x) h f) t):=by
 have hs:=sty_sh (h:=h) (t:=t) (f:=f) hx
 have mem:∀ (l:List Ga) (p:Int),(∀ g ∈ l,partOk g)→∀ v ∈ reL p l, -1000000≤v∧v≤1000000:=by
  intro l p hl v hv
  unfold reL at hv
  obtain ⟨g,hg,rfl⟩:=List.mem_map.1 hv
  exact re_bd (hl g hg)
 exact ⟨hs.f,hs.b,hs.l,mem _ _ fun g hg=>hp g (by simp [allG,hg]),mem _ _ fun g hg=>hp g (by simp [allG,hg]),mem _ _ fun g hg=>hp g (by simp [allG,hg])⟩
theorem ok_gd {x:Ow} {s:Ws} (h:StateOk x s):Gd 1000000 s:=by
 have key:∀ (l:List Int),(∀ v ∈ l, -1000000≤v∧v≤1000000)→∀ i, -1000000≤l.getD i 0∧l.getD i 0≤1000000:=by
  intro l hl i
  by_cases hi:i<l.length
  ·exact hl _ (getD_mem hi)
  ·rw [getD_out (by omega)]; decide
 exact ⟨fun i=>⟨key _ h.fs i,key _ h.bs i⟩,fun j=>by have:=key _ h.ls j; omega⟩
theorem sty_tick {x:Ln} {h t:Int} {g:Ga} (hx:LineOk x) (hp:∀ u ∈ allG (styF (opn x) h (2 * g.1,2 * g.2)),partOk u) :
  stp (opn x) (satS (styF (opn x) h (2 * g.1,2 * g.2)) t) (gmul (turnG (satP (styF (opn x) h (2 * g.1,2 * g.2)) (t+1))) (styF (opn x) h (2 * g.1,2 * g.2)).c).1=satS (styF (opn x) h (2 * g.1,2 * g.2)) (t+1):=by
 have hn:=(opn_ok hx).nb
 obtain ⟨N,hN⟩ : ∃ N,(opn x).n.toNat=N+1:=⟨(opn x).n.toNat - 1,by omega⟩
 have hs:=sty_sh (h:=h) (t:=t) (f:=(2 * g.1,2 * g.2)) hx
 have hc:=re_bd (T:=satP (styF (opn x) h (2 * g.1,2 * g.2)) (t+1)) (hp (styF (opn x) h (2 * g.1,2 * g.2)).c (by simp [allG]))
 have k1:=stp_at hx hs (ok_gd (sty_ok (t:=t) hx hp)) (by decide) (c:=(gmul (turnG (satP (styF (opn x) h (2 * g.1,2 * g.2)) (t+1))) (styF (opn x) h (2 * g.1,2 * g.2)).c).1) (by omega) hN
 have k2:=sat_step hx hN (sat_at (h:=h) (t:=t) (f:=(2 * g.1,2 * g.2)) hx) (sat_at (h:=h) (t:=t+1) (f:=(2 * g.1,2 * g.2)) hx)
 rw [← sat_cl] at k2
 exact stp_uniq hN k1 k2 (sh_stp hs hn.1) (sty_sh hx)
theorem sty_res {x:Ln} {h:Int} {g:Ga} (hx:LineOk x) (hd:(lineMat (opn x) h).d=(0,0)):(styF (opn x) h (2 * g.1,2 * g.2)).c=(0,0):=by
 have how:=opn_ok hx
 have hars:=hx.ars
 have hlen:=hx.len
 have hpp:(opn x).pp=x.pp:=rfl
 obtain ⟨m,hm⟩ : ∃ m,x.pp.length=m+1:=⟨x.pp.length - 1,by omega⟩
 have hy:=(hx.pip _ (getD_mem (l:=x.pp) (i:=m) (d:=default) (by omega))).2
 have ex:=ex_f (h:=h) (g:=g) how (k:=m) (by rw [hpp]; omega)
 have f2:=(ex_af (h:=h) how (k:=m) (by rw [hpp]; omega) ex).2
 have z:(afF (opn x) h (2 * g.1,2 * g.2) m).2=(0,0):=by
  show gsc _ (gmul _ (lineM (opn x) h m).d)=_
  rw [show (lineM (opn x) h m).d=(0,0) by rw [← hd]; unfold lineMat; rw [show (opn x).ar.length=m by show x.ar.length=m; omega]]
  unfold gsc gmul
  simp
 rw [z,hpp] at f2
 show clA (opn x) h (2 * g.1,2 * g.2) (opn x).pp.length=_
 rw [hpp,hm]
 show cl1 (opn x) h (2 * g.1,2 * g.2) m=_
 unfold cl1
 rw [hpp]
 generalize gmul (turnG (h * (x.pp.getD m default).1)) _=v at *
 generalize gmul (turnG (-(h * (x.pp.getD m default).1))) _=u at *
 unfold gsc gsub at f2
 rw [Prod.ext_iff] at f2
 dsimp only at f2
 have n1:=(Int.mul_eq_zero.1 f2.1.symm).resolve_left (by omega)
 have n2:=(Int.mul_eq_zero.1 f2.2.symm).resolve_left (by omega)
 unfold gsub
 simp only [Prod.mk.injEq]
 omega
end Go.DI


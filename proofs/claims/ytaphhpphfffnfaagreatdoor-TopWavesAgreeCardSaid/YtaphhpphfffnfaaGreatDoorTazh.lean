/- Law: from the state of a steady oscillation at a tick the grid reaches that at the next tick; at a resonance its closing is always 0. No condition. -/
import Derived.Test.YtaphhpphfffnfaaGreatDoorTazd
import Derived.Test.YtaphhpphfffnfaaGreatDoorTazc
import Derived.Test.YtaphhpphfffnfaaGreatDoorTazg
import Derived.Test.YtaphhpphfffnfaaGreatDoorTax
/- Law: from the state of a steady oscillation at a tick the grid reaches that at the next tick; at a resonance its closing is always 0. No condition. -/
set_option linter.unusedSimpArgs false
set_option maxRecDepth 100000
namespace Go.DI
open Go.Proofs Go.RowKit
theorem few_satS {u:Sty} {t:Int} (hs:FewG u):FewS (satS u t):=by
 refine ⟨?_,?_,?_⟩
 ·show (reL _ _).length≤_; unfold reL; rw [List.length_map]; exact hs.1
 ·show (reL _ _).length≤_; unfold reL; rw [List.length_map]; exact hs.2.1
 ·show (reL _ _).length≤_; unfold reL; rw [List.length_map]; exact hs.2.2
end Go.DI

/- Pressure and flow at the valve in a steady oscillation: their amplitudes have the impedance as their quotient. No condition. -/
set_option linter.unusedSimpArgs false
namespace Go.DI
theorem turn_four (p q:Int):turnG (p+4 * q)=turnG p:=by
 unfold turnG
 rw [show (p+4 * q) % 4=p % 4 by omega]
theorem turn_quad (a:Int) (u:Ga):(gmul (turnG (a+3)) u).1=(gmul (turnG a) u).2:=by
 unfold turnG gmul
 rcases (show a % 4=0∨a % 4=1∨a % 4=2∨a % 4=3 by omega) with e | e | e | e
 ·rw [show (a+3) % 4=3 by omega,e]; simp
 ·rw [show (a+3) % 4=0 by omega,e]; simp
 ·rw [show (a+3) % 4=1 by omega,e]; simp
 ·rw [show (a+3) % 4=2 by omega,e]; simp
def lvS (s:Sty) (N:Nat) (t:Int):Int:=(satS s (t+3)).F.getD N 0
def etS (s:Sty) (N:Nat) (t:Int):Int:=(satS s t).B.getD N 0
structure Vlv (x:Ln) (h:Int) (f:Ga) (m N:Nat) (t:Int):Prop where
 p:lvS (styF (opn x) h f) N t+etS (styF (opn x) h f) N t=(gmul (turnG (h * t)) (afF (opn x) h f m).1).1
 q:(x.pp.getD m default).2 * (lvS (styF (opn x) h f) N t - etS (styF (opn x) h f) N t)=(gmul (turnG (h * t)) (afF (opn x) h f m).2).1
 c:lvS (styF (opn x) h f) N t - etS (styF (opn x) h f) N t = -(gmul (turnG (satP (styF (opn x) h f) t)) (styF (opn x) h f).c).1
theorem re_sc {X a:Ga} {y:Int}:(gmul X (gsc y a)).1=y * (gmul X a).1:=by
 unfold gmul gsc; dsimp only; grind
theorem valve_at {x:Ln} {h t:Int} {g:Ga} {m N:Nat} (hx:LineOk x) (hm:x.pp.length=m+1) (hN:(opn x).n.toNat=N+1):Vlv x h (2 * g.1,2 * g.2) m N t:=by
 have how:=opn_ok hx
 have hpp:(opn x).pp=x.pp:=rfl
 have hn:(opn x).n=cellsN x.pp:=rfl
 have hp:=hx.pip _ (getD_mem (l:=x.pp) (i:=m) (d:=default) (by omega))
 obtain ⟨c,hc⟩ : ∃ c:Nat,(x.pp.getD m default).1=c+1:=⟨((x.pp.getD m default).1 - 1).toNat,by omega⟩
 have c1:=cellsN_step (l:=x.pp) (i:=m) (by omega)
 rw [List.take_of_length_le (by omega)] at c1
 have c2 : 0≤cellsN (x.pp.take m)∧_:=cells_le how m
 have z:cAt (opn x) m c=N:=by unfold cAt; rw [hpp]; omega
 have a1:=(sat_at (h:=h) (t:=t+3) (f:=(2 * g.1,2 * g.2)) hx).F m c (by omega) (by omega)
 have a2:=(sat_at (h:=h) (t:=t) (f:=(2 * g.1,2 * g.2)) hx).B m c (by omega) (by omega)
 have ex:=ex_f (h:=h) (g:=g) how (k:=m) (by rw [hpp]; omega)
 obtain ⟨f1,f2⟩:=ex_af (h:=h) how (k:=m) (by rw [hpp]; omega) ex
 have hcl:=sat_cl (x:=x) (h:=h) (t:=t) (f:=(2 * g.1,2 * g.2))
 rw [hm] at hcl
 rw [z] at a1 a2
 rw [hpp,hc] at f1 f2
 rw [show h * (t+3) - h * (c:Int)=(h * t + -(h * ((c:Int)+1)))+4 * h by grind,turn_four] at a1
 have e1:lvS (styF (opn x) h (2 * g.1,2 * g.2)) N t=(gmul (turnG (h * t)) (gmul (turnG (-(h * ((c:Int)+1)))) (entF (opn x) h (2 * g.1,2 * g.2) m))).1:=by rw [turn2]; exact a1
 have e2:etS (styF (opn x) h (2 * g.1,2 * g.2)) N t=(gmul (turnG (h * t)) (gmul (turnG (h * ((c:Int)+1))) (leaF (opn x) h (2 * g.1,2 * g.2) m))).1:=by rw [turn2]; exact a2
 refine ⟨?_,?_,?_⟩
 ·rw [e1,e2,f1,re_add]
 ·rw [e1,e2,f2,re_sc,re_sub]
 ·rw [e1,e2,hcl]
  show _ = -(gmul (turnG (h * t)) (cl1 (opn x) h (2 * g.1,2 * g.2) m)).1
  unfold cl1
  rw [re_sub,hpp,hc]
  omega
theorem imp_ratio {x:Ln} {h:Int} {f T:Ga} {m:Nat} (hx:LineOk x) (hm:x.pp.length=m+1) (hd:(lowM (lineMat (opn x) h)).d ≠ (0,0)) :
  gmul (gmul T (afF (opn x) h f m).1) (impL (lowM (lineMat (opn x) h))).2=gmul (gmul T (afF (opn x) h f m).2) (impL (lowM (lineMat (opn x) h))).1:=by
 have how:=opn_ok hx
 have hars:=hx.ars
 obtain ⟨hlow,_⟩:=low_ok (h:=h) how
 obtain ⟨_,_,key⟩:=imp_ok hlow.b hlow.d (by decide) hd
 have hr:=red_ok (lineMat (opn x) h)
 have eb:=govr_dvd hr.b
 have ed:=govr_dvd hr.d
 have hpp:(opn x).pp=x.pp:=rfl
 have e1:afF (opn x) h f m=ampG 1 (fcol f (lineMat (opn x) h)):=by
  unfold afF
  rw [hpp,show x.pp.drop (m+1)=[] by rw [List.drop_eq_nil_iff]; omega]
  unfold lineMat
  rw [show (opn x).ar.length=m by show x.ar.length=m; omega]
  rfl
 rw [e1]
 unfold ampG fcol
 dsimp only
 have eb:gsc (redG (lineMat (opn x) h)) (lowM (lineMat (opn x) h)).b=(lineMat (opn x) h).b:=eb
 have ed:gsc (redG (lineMat (opn x) h)) (lowM (lineMat (opn x) h)).d=(lineMat (opn x) h).d:=ed
 rw [← eb,← ed]
 generalize impL (lowM (lineMat (opn x) h))=I at *
 generalize (lowM (lineMat (opn x) h)).b=B at *
 generalize (lowM (lineMat (opn x) h)).d=D at *
 generalize redG (lineMat (opn x) h)=r at *
 clear eb ed e1 hlow hr hd
 unfold gmul at key
 simp only [Prod.mk.injEq] at key
 obtain ⟨k1,k2⟩:=key
 unfold gmul gsc
 simp only [Prod.mk.injEq]
 constructor <;> grind
theorem re_bdB {T B:Int} {g:Ga} (h1 : -B≤g.1∧g.1≤B) (h2 : -B≤g.2∧g.2≤B) : -B≤(gmul (turnG T) g).1∧(gmul (turnG T) g).1≤B:=by
 unfold gmul
 rcases turn_cases T with e | e | e | e <;> rw [e] <;> dsimp only <;> omega
theorem re_getB {T B:Int} {l:List Ga} {i:Nat} (h0 : 0≤B) (h:∀ g ∈ l,(-B≤g.1∧g.1≤B) ∧ -B≤g.2∧g.2≤B) : -B≤(reL T l).getD i 0∧(reL T l).getD i 0≤B:=by
 rw [re_at]
 refine re_bdB ?_ ?_
 ·rw [List.getD_eq_getElem?_getD]
  cases e:l[i]? with
  | none=>exact ⟨by show -B≤0; omega,h0⟩
  | some v=>exact (h v (List.mem_of_getElem? e)).1
 ·rw [List.getD_eq_getElem?_getD]
  cases e:l[i]? with
  | none=>exact ⟨by show -B≤0; omega,h0⟩
  | some v=>exact (h v (List.mem_of_getElem? e)).2
end Go.DI


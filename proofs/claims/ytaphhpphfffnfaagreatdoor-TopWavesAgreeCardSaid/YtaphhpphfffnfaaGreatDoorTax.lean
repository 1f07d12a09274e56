/- Matrices and impedances in lowest terms. No condition. -/
import Derived.Test.YtaphhpphfffnfaaGreatDoorTaw
/- Matrices and impedances in lowest terms. No condition. -/
set_option linter.unusedSimpArgs false
namespace Go.DI
theorem gcdE_dvd (a b:Int):gcdE a b ∣ a∧gcdE a b ∣ b:=by
 unfold gcdE
 exact ⟨Int.ofNat_dvd_left.2 (Nat.gcd_dvd_left _ _),Int.ofNat_dvd_left.2 (Nat.gcd_dvd_right _ _)⟩
theorem gcdL_dvd:∀ (l:List Int) (a:Int),gcdL a l ∣ a∧∀ n ∈ l,gcdL a l ∣ n
 | [],a=>⟨Int.dvd_refl _,fun n h=>by cases h⟩
 | b :: r,a=>by
  obtain ⟨h1,h2⟩:=gcdL_dvd r (gcdE a b)
  obtain ⟨h3,h4⟩:=gcdE_dvd a b
  refine ⟨Int.dvd_trans h1 h3,fun n hn => ?_⟩
  rcases List.mem_cons.1 hn with rfl | hn
  ·exact Int.dvd_trans h1 h4
  ·exact h2 n hn
theorem gcdS_dvd (l:List Int):∀ n ∈ l,gcdS l ∣ n:=(gcdL_dvd l 0).2
def dvdG (g:Int) (u:Ga):Prop:=g ∣ u.1∧g ∣ u.2
def gsc (g:Int) (u:Ga):Ga:=(g * u.1,g * u.2)
theorem govr_dvd {g:Int} {u:Ga} (h:dvdG g u):gsc g (govr u g)=u:=by
 unfold gsc govr
 rw [Int.mul_tdiv_cancel' h.1,Int.mul_tdiv_cancel' h.2]
structure RedOk (m:Mx):Prop where
 a:dvdG (redG m) m.a
 b:dvdG (redG m) m.b
 c:dvdG (redG m) m.c
 d:dvdG (redG m) m.d
 den:redG m ∣ m.den
theorem red_ok (m:Mx):RedOk m:=by
 have h4:=gcdS_dvd [redG3 m,m.d.1,m.d.2]
 have h3:=gcdS_dvd [redG2 m,m.c.1,m.c.2]
 have h2:=gcdS_dvd [redG1 m,m.b.1,m.b.2]
 have h1:=gcdS_dvd [m.den,m.a.1,m.a.2]
 have k3:redG m ∣ redG3 m:=h4 _ (by simp)
 have k2:redG m ∣ redG2 m:=Int.dvd_trans k3 (h3 _ (by simp))
 have k1:redG m ∣ redG1 m:=Int.dvd_trans k2 (h2 _ (by simp))
 exact ⟨⟨Int.dvd_trans k1 (h1 _ (by simp)),Int.dvd_trans k1 (h1 _ (by simp))⟩,⟨Int.dvd_trans k2 (h2 _ (by simp)),Int.dvd_trans k2 (h2 _ (by simp))⟩,⟨Int.dvd_trans k3 (h3 _ (by simp)),Int.dvd_trans k3 (h3 _ (by simp))⟩,⟨h4 _ (by simp),h4 _ (by simp)⟩,Int.dvd_trans k1 (h1 _ (by simp))⟩
def GB (n:Int) (u:Ga):Prop:=(-n≤u.1∧u.1≤n) ∧ -n≤u.2∧u.2≤n
theorem quot_le {g q a n:Int} (hg:g ≠ 0) (h:g * q=a) (ha : -n≤a∧a≤n) : -n≤q∧q≤n:=by
 have h1:a.natAbs=g.natAbs * q.natAbs:=by rw [← h,Int.natAbs_mul]
 have h2 : 1 * q.natAbs≤g.natAbs * q.natAbs:=Nat.mul_le_mul_right _ (by omega)
 omega
theorem gsc_GB {g n:Int} {u v:Ga} (hg:g ≠ 0) (h:gsc g u=v) (hv:GB n v):GB n u:=by
 subst h
 exact ⟨quot_le hg rfl hv.1,quot_le hg rfl hv.2⟩
theorem nrm_GB {u:Ga} {n:Nat} {k:Int} (h:nrm u≤n) (hk:(n:Int)≤k):GB k u:=by
 unfold nrm at h
 exact ⟨by omega,by omega⟩
structure LowOk (m:Mx):Prop where
 a:GB 12500000 m.a
 b:GB 12500000 m.b
 c:GB 12500000 m.c
 d:GB 12500000 m.d
 den : 1≤m.den∧m.den≤10000
 det:detM m=(m.den * m.den,0)
theorem low_ok {x:Ow} {h:Int} (hx:OwOk x):LowOk (lowM (lineMat x h))∧((lowM (lineMat x h)).d=(0,0)↔(lineMat x h).d=(0,0)):=by
 obtain ⟨_,hd1,hd2⟩:=lineMat_bd (h:=h) hx
 have ht:=lineMat_TB (h:=h) hx
 have hdet:detM (lineMat x h)=((lineMat x h).den * (lineMat x h).den,0):=det_line _
 have hr:=red_ok (lineMat x h)
 have hg:=(redG_bd (m:=lineMat x h) hd1).2.2.2
 have ea:=govr_dvd hr.a
 have eb:=govr_dvd hr.b
 have ec:=govr_dvd hr.c
 have ed:=govr_dvd hr.d
 have en:=Int.mul_tdiv_cancel' hr.den
 have ht1:=ht.a; have ht2:=ht.b; have ht3:=ht.c; have ht4:=ht.d
 generalize lineMat x h=m at *
 unfold lowM
 generalize redG m=g at *
 have hg0:g ≠ 0:=by omega
 refine ⟨⟨gsc_GB hg0 ea (nrm_GB ht1 (by decide)),gsc_GB hg0 eb (nrm_GB (show nrm m.b≤1250000 by omega) (by decide)),gsc_GB hg0 ec (nrm_GB ht3 (by decide)),gsc_GB hg0 ed (nrm_GB ht4 (by decide)),?_,?_⟩,?_⟩
 ·show 1≤m.den.tdiv g∧m.den.tdiv g≤10000
  have h2:=quot_le hg0 en (n:=10000) (by omega)
  refine ⟨?_,h2.2⟩
  refine Int.not_lt.1 fun hlt => ?_
  have:g * m.den.tdiv g≤g * 0:=Int.mul_le_mul_of_nonneg_left (by omega) (by omega)
  omega
 ·unfold detM at hdet
  rw [← ea,← eb,← ec,← ed,← en] at hdet
  unfold gsub gmul gsc at hdet
  simp only [Prod.mk.injEq] at hdet
  unfold detM gsub gmul
  simp only [Prod.mk.injEq]
  generalize govr m.a g=A at *
  generalize govr m.b g=B at *
  generalize govr m.c g=C at *
  generalize govr m.d g=D at *
  generalize m.den.tdiv g=n at *
  have hgg:g * g ≠ 0:=Int.mul_ne_zero hg0 hg0
  constructor
  ·refine Int.eq_of_mul_eq_mul_left hgg ?_
   have:=hdet.1
   grind
  ·refine Int.eq_of_mul_eq_mul_left hgg ?_
   have:=hdet.2
   grind
 ·show govr m.d g=(0,0)↔m.d=(0,0)
  constructor
  ·intro h
   rw [h] at ed
   rw [← ed]; simp [gsc]
  ·intro h
   rw [h]; simp [govr]
theorem imp_ok {m:Mx} {n:Int} (hb:GB n m.b) (hd:GB n m.d) (hn : 1≤n) (h0:m.d ≠ (0,0)):(GB n (impL m).1∧GB n (impL m).2)∧(impL m).2 ≠ (0,0)∧gmul (impL m).1 m.d=gmul (impL m).2 m.b:=by
 unfold impL
 split
 ·rename_i h
  rw [h]
  refine ⟨⟨⟨by show -n≤0∧0≤n; omega,by show -n≤0∧0≤n; omega⟩,⟨by show -n≤1∧1≤n; omega,by show -n≤0∧0≤n; omega⟩⟩,by simp,by simp [gmul]⟩
 ·rename_i hb0
  have hdv:=gcdS_dvd [m.b.1,m.b.2,m.d.1,m.d.2]
  have hpos : 1≤gcdS [m.b.1,m.b.2,m.d.1,m.d.2]:=gcdL_pos _ _ (by
   by_cases e:m.d.1=0
   ·exact ⟨m.d.2,by simp,fun e2=>h0 (Prod.ext e e2)⟩
   ·exact ⟨m.d.1,by simp,e⟩)
  have key:dvdG (impG m) m.b∧dvdG (impG m) m.d∧impG m ≠ 0:=by
   unfold impG
   split
   ·exact ⟨⟨Int.neg_dvd.2 (hdv _ (by simp)),Int.neg_dvd.2 (hdv _ (by simp))⟩,⟨Int.neg_dvd.2 (hdv _ (by simp)),Int.neg_dvd.2 (hdv _ (by simp))⟩,by omega⟩
   ·exact ⟨⟨hdv _ (by simp),hdv _ (by simp)⟩,⟨hdv _ (by simp),hdv _ (by simp)⟩,by omega⟩
  obtain ⟨k1,k2,k3⟩:=key
  have eb:=govr_dvd k1
  have ed:=govr_dvd k2
  show (GB n (govr m.b (impG m))∧GB n (govr m.d (impG m)))∧govr m.d (impG m) ≠ (0,0)∧gmul (govr m.b (impG m)) m.d=gmul (govr m.d (impG m)) m.b
  refine ⟨⟨gsc_GB k3 eb hb,gsc_GB k3 ed hd⟩,?_,?_⟩
  ·intro h
   rw [h] at ed
   exact h0 (by rw [← ed]; simp [gsc])
  ·generalize govr m.b (impG m)=B at *
   generalize govr m.d (impG m)=D at *
   rw [← eb,← ed]
   unfold gmul gsc
   simp only [Prod.mk.injEq]
   constructor <;> grind
end Go.DI

/- Amplitudes through a line are the columns of its matrix. No condition. -/
set_option linter.unusedSimpArgs false
namespace Go.DI
def prodP:List Pp→Int
 | []=>1
 | p :: r=>p.2 * prodP r
theorem prodP_bd:∀ (l:List Pp),(∀ p ∈ l,1≤p.2∧p.2≤10)→1≤prodP l∧prodP l≤10 ^ l.length
 | [],_=>by simp [prodP]
 | p :: r,h=>by
  have h1:=h p (by simp)
  obtain ⟨h2,h3⟩:=prodP_bd r fun q hq=>h q (by simp [hq])
  have e1:=Int.mul_le_mul h1.1 h2 (by decide) (by omega)
  have e2:=Int.mul_le_mul h1.2 h3 (by omega) (by decide)
  refine ⟨by simpa [prodP] using e1,?_⟩
  show p.2 * prodP r≤10 ^ (r.length+1)
  rw [Int.pow_succ,Int.mul_comm (10 ^ r.length) 10]
  exact e2
def idM:Mx:=⟨(1,0),(0,0),(0,0),(1,0),1⟩
def preM (x:Ow) (h:Int):Nat→Mx
 | 0=>idM
 | k+1=>mtimes (chamM (x.ar.getD k 0) h) (lineM x h k)
theorem lineM_pre {x:Ow} {h:Int}:∀ k,lineM x h k=mtimes (rotM (x.pp.getD k default).2 (h * (x.pp.getD k default).1)) (preM x h k)
 | 0=>by
  show pipeM (x.pp.getD 0 default) h=_
  rw [pipeM_rot]
  unfold preM idM mtimes rotM gmul gadd
  simp
 | k+1=>by
  show mtimes (pipeM (x.pp.getD (k+1) default) h) _=_
  rw [pipeM_rot]
  rfl
theorem TB.mono {m:Mx} {N K:Nat} (h:TB m N) (hk:N≤K):TB m K:=by
 have h1:=h.a; have h2:=h.b; have h3:=h.c; have h4:=h.d
 exact ⟨by omega,by omega,by omega,by omega⟩
theorem line_TB {x:Ow} {h:Int} (hx:OwOk x) {k:Nat} (hk:k<x.pp.length):TB (lineM x h k) 1250000:=by
 have hl:=hx.len
 refine (lineM_TB (h:=h) hx k hk).mono ?_
 have:k=0∨k=1∨k=2∨k=3:=by omega
 rcases this with rfl | rfl | rfl | rfl <;> decide
theorem pre_TB {x:Ow} {h:Int} (hx:OwOk x) {k:Nat} (hk:k<x.pp.length):TB (preM x h k) 1250000:=by
 have hl:=hx.len
 cases k with
 | zero =>
  show TB idM 1250000
  exact ⟨by decide,by decide,by decide,by decide⟩
 | succ k =>
  have ha:=hx.are _ (getD_mem (l:=x.ar) (d:=0) (show k<x.ar.length by have:=hx.ars; omega))
  refine (cham_TB (h:=h) ha (lineM_TB (h:=h) hx k (by omega))).mono ?_
  have:k=0∨k=1∨k=2:=by omega
  rcases this with rfl | rfl | rfl <;> decide
def ampG (R:Int) (u:Ga × Ga):Ga × Ga:=(gsc R u.1,gsc R u.2)
def thrA (y T:Int) (a:Ga × Ga):Ga × Ga :=
 (gadd (gsc (turnG T).1 a.1) (gsc (turnG T).2 (gmul (turnG 3) (govr a.2 y))),gadd (gsc (turnG T).1 a.2) (gsc (turnG T).2 (gmul (turnG 3) (gsc y a.1))))
def byA (area h:Int) (a:Ga × Ga):Ga × Ga:=(a.1,gsub a.2 (gsc area (gmul (gsub (1,0) (gmul (turnG (-h)) (1,0))) a.1)))
theorem govr_gsc {y R:Int} {v:Ga} (hy:y ≠ 0):govr (gsc (y * R) v) y=gsc R v:=by
 unfold govr gsc
 rw [Int.mul_assoc,Int.mul_assoc,Int.mul_tdiv_cancel_left _ hy,Int.mul_tdiv_cancel_left _ hy]
theorem prod_step {l:List Pp} {k:Nat} (h:k<l.length):prodP (l.drop k)=(l.getD k default).2 * prodP (l.drop (k+1)):=by
 rw [idxF_drop h]; rfl
theorem prod_bd {x:Ow} (hx:OwOk x) (k:Nat) : 1≤prodP (x.pp.drop k)∧prodP (x.pp.drop k)≤10000:=by
 obtain ⟨h1,h2⟩:=prodP_bd (x.pp.drop k) fun p hp=>(hx.pip p (List.mem_of_mem_drop hp)).2
 have hl:=hx.len
 have:(x.pp.drop k).length=0∨(x.pp.drop k).length=1∨(x.pp.drop k).length=2∨(x.pp.drop k).length=3∨(x.pp.drop k).length=4:=by rw [List.length_drop]; omega
 refine ⟨h1,?_⟩
 rcases this with e | e | e | e | e <;> rw [e] at h2 <;> omega
end Go.DI


/- Steady oscillations as plain data. No condition. -/
import Derived.Test.YtaphhpphfffnfaaGreatDoorTax
set_option linter.unusedSimpArgs false
namespace Go.DI
theorem gmul_comm (u v:Ga):gmul u v=gmul v u:=by
 unfold gmul
 simp only [Prod.mk.injEq]
 constructor <;> grind
theorem gmul_assoc (u v w:Ga):gmul (gmul u v) w=gmul u (gmul v w):=by
 unfold gmul
 simp only [Prod.mk.injEq]
 constructor <;> grind
def fcol (f:Ga) (m:Mx):Ga × Ga:=(gmul f m.b,gmul f m.d)
theorem thr_fcol {y T R:Int} {f:Ga} {m:Mx} (hy:y ≠ 0):thrA y T (ampG (y * R) (fcol f m))=ampG R (fcol f (mtimes (rotM y T) m)):=by
 have h3:turnG 3=(0, -1):=rfl
 unfold thrA ampG
 rw [govr_gsc hy,h3]
 unfold fcol mtimes rotM gmul gadd gsc
 simp only [Prod.mk.injEq]
 refine ⟨⟨?_,?_⟩,⟨?_,?_⟩⟩ <;> grind
theorem by_fcol {area h R:Int} {f:Ga} {m:Mx}:byA area h (ampG R (fcol f m))=ampG R (fcol f (mtimes (chamM area h) m)):=by
 unfold byA ampG
 unfold fcol mtimes chamM gmul gadd gsc gneg gsub
 simp only [Prod.mk.injEq]
 refine ⟨⟨?_,?_⟩,⟨?_,?_⟩⟩ <;> grind
def stF (x:Ow) (h:Int) (f:Ga) (k:Nat):Ga × Ga:=ampG (prodP (x.pp.drop k)) (fcol f (preM x h k))
def afF (x:Ow) (h:Int) (f:Ga) (k:Nat):Ga × Ga:=ampG (prodP (x.pp.drop (k+1))) (fcol f (lineM x h k))
theorem st_af {x:Ow} {h:Int} {f:Ga} (hx:OwOk x) {k:Nat} (hk:k<x.pp.length):thrA (x.pp.getD k default).2 (h * (x.pp.getD k default).1) (stF x h f k)=afF x h f k:=by
 have hp:=hx.pip _ (getD_mem (d:=default) hk)
 unfold stF afF
 rw [prod_step hk,thr_fcol (by omega),lineM_pre k]
theorem af_st {x:Ow} {h:Int} {f:Ga} {k:Nat}:byA (x.ar.getD k 0) h (afF x h f k)=stF x h f (k+1):=by
 unfold stF afF
 rw [by_fcol]
 rfl
theorem stF_zero {x:Ow} {h:Int} {f:Ga}:stF x h f 0=((0,0),gsc (prodP x.pp) f):=by
 unfold stF ampG fcol preM idM gmul gsc
 simp
theorem nrm_gsc (R:Int) (u:Ga):nrm (gsc R u)=R.natAbs * nrm u:=by
 unfold nrm gsc
 dsimp only
 rw [Int.natAbs_mul,Int.natAbs_mul,Nat.mul_add]
theorem fcol_nrm {m:Mx} {f:Ga} {R:Int} (hm:TB m 1250000) (hR : 1≤R∧R≤10000) (hf:nrm f≤40):nrm (ampG R (fcol f m)).1≤50000000000∧nrm (ampG R (fcol f m)).2≤500000000000:=by
 have h2:=hm.b; have h4:=hm.d
 have hr:R.natAbs≤10000:=by omega
 have e1:=Nat.mul_le_mul hr (nrm_mul_le hf (show nrm m.b≤125000 by omega))
 have e2:=Nat.mul_le_mul hr (nrm_mul_le hf h4)
 unfold ampG fcol
 dsimp only
 rw [nrm_gsc,nrm_gsc]
 exact ⟨e1,e2⟩
theorem stF_nrm {x:Ow} {h:Int} {f:Ga} (hx:OwOk x) (hf:nrm f≤40) {k:Nat} (hk:k<x.pp.length):nrm (stF x h f k).1≤50000000000∧nrm (stF x h f k).2≤500000000000 :=
 fcol_nrm (pre_TB hx hk) (prod_bd hx k) hf
theorem afF_nrm {x:Ow} {h:Int} {f:Ga} (hx:OwOk x) (hf:nrm f≤40) {k:Nat} (hk:k<x.pp.length):nrm (afF x h f k).1≤50000000000∧nrm (afF x h f k).2≤500000000000 :=
 fcol_nrm (line_TB hx hk) (prod_bd hx (k+1)) hf
theorem govr_nrm (g:Ga) (n:Int):nrm (govr g n)≤nrm g:=by
 have h1:(g.1.tdiv n).natAbs≤g.1.natAbs:=by rw [Int.natAbs_tdiv]; exact Nat.div_le_self _ _
 have h2:(g.2.tdiv n).natAbs≤g.2.natAbs:=by rw [Int.natAbs_tdiv]; exact Nat.div_le_self _ _
 show (g.1.tdiv n).natAbs+(g.2.tdiv n).natAbs≤g.1.natAbs+g.2.natAbs
 omega
def floF (x:Ow) (h:Int) (f:Ga) (k:Nat):Ga:=govr (stF x h f k).2 (x.pp.getD k default).2
def entF (x:Ow) (h:Int) (f:Ga) (k:Nat):Ga:=govr (gadd (stF x h f k).1 (floF x h f k)) 2
def leaF (x:Ow) (h:Int) (f:Ga) (k:Nat):Ga:=govr (gsub (stF x h f k).1 (floF x h f k)) 2
def fw1 (x:Ow) (h:Int) (f:Ga) (k i:Nat):Ga:=gmul (turnG (-(h * i))) (entF x h f k)
def bw1 (x:Ow) (h:Int) (f:Ga) (k i:Nat):Ga:=gmul (turnG (h * (i+1))) (leaF x h f k)
def fwK (x:Ow) (h:Int) (f:Ga) (k n:Nat):List Ga:=(List.range n).map (fw1 x h f k)
def bwK (x:Ow) (h:Int) (f:Ga) (k n:Nat):List Ga:=(List.range n).map (bw1 x h f k)
def fwA (x:Ow) (h:Int) (f:Ga):Nat→List Ga
 | 0=>[]
 | k+1=>fwA x h f k ++ fwK x h f k (x.pp.getD k default).1.toNat
def bwA (x:Ow) (h:Int) (f:Ga):Nat→List Ga
 | 0=>[]
 | k+1=>bwA x h f k ++ bwK x h f k (x.pp.getD k default).1.toNat
def leA (x:Ow) (h:Int) (f:Ga):Nat→List Ga
 | 0=>[]
 | k+1=>leA x h f k ++ [(afF x h f k).1]
def cl1 (x:Ow) (h:Int) (f:Ga) (k:Nat):Ga:=gsub (gmul (turnG (h * (x.pp.getD k default).1)) (leaF x h f k)) (gmul (turnG (-(h * (x.pp.getD k default).1))) (entF x h f k))
def clA (x:Ow) (h:Int) (f:Ga):Nat→Ga
 | 0=>(0,0)
 | k+1=>cl1 x h f k
theorem fwK_step {x:Ow} {h:Int} {f:Ga} {k n:Nat}:fwK x h f k (n+1)=fwK x h f k n ++ [fw1 x h f k n]:=by
 unfold fwK; rw [List.range_succ,List.map_append]; rfl
theorem bwK_step {x:Ow} {h:Int} {f:Ga} {k n:Nat}:bwK x h f k (n+1)=bwK x h f k n ++ [bw1 x h f k n]:=by
 unfold bwK; rw [List.range_succ,List.map_append]; rfl
structure Sty where
 q:Int
 F:List Ga
 B:List Ga
 L:List Ga
 c:Ga
 deriving DecidableEq
def emptySt:Sty:=⟨0,[],[],[],(0,0)⟩
def styF (x:Ow) (h:Int) (f:Ga):Sty:=⟨h,fwA x h f x.pp.length,bwA x h f x.pp.length,leA x h f x.ar.length,clA x h f x.pp.length⟩
theorem wav_nrm {x:Ow} {h:Int} {f:Ga} (hx:OwOk x) (hf:nrm f≤40) {k:Nat} (hk:k<x.pp.length):nrm (floF x h f k)≤500000000000∧nrm (entF x h f k)≤550000000000∧nrm (leaF x h f k)≤550000000000:=by
 obtain ⟨h1,h2⟩:=stF_nrm (h:=h) hx hf hk
 have h3:=govr_nrm (stF x h f k).2 (x.pp.getD k default).2
 have h4:=nrm_add (stF x h f k).1 (floF x h f k)
 have h5:=nrm_sub (stF x h f k).1 (floF x h f k)
 have h6:=govr_nrm (gadd (stF x h f k).1 (floF x h f k)) 2
 have h7:=govr_nrm (gsub (stF x h f k).1 (floF x h f k)) 2
 have h3:nrm (floF x h f k)≤nrm (stF x h f k).2:=h3
 have h6:nrm (entF x h f k)≤nrm (gadd (stF x h f k).1 (floF x h f k)):=h6
 have h7:nrm (leaF x h f k)≤nrm (gsub (stF x h f k).1 (floF x h f k)):=h7
 omega
theorem nrm_tmul (T:Int) (u:Ga):nrm (gmul (turnG T) u)=nrm u:=by
 unfold nrm gmul
 rcases turn_cases T with h | h | h | h <;> rw [h] <;> simp <;> omega
theorem prog_thr {y T:Int} {p q:Ga}:(gsub (gmul (cosG T) p) (gmul (gmul (0,1) (sinG T)) (govr q y)),gsub (gmul (cosG T) q) (gmul (gmul (gmul (0,1) (sinG T)) (y,0)) p))=thrA y T (p,q):=by
 have h3:turnG 3=(0, -1):=rfl
 unfold thrA cosG sinG
 rw [h3]
 unfold gmul gadd gsc gsub
 simp only [Prod.mk.injEq]
 refine ⟨⟨?_,?_⟩,⟨?_,?_⟩⟩ <;> grind
theorem prog_by {area h:Int} {p q:Ga}:gsub q (gmul (gmul (area,0) (gsub (1,0) (turnG (-h)))) p)=(byA area h (p,q)).2:=by
 unfold byA gmul gsc gsub
 simp only [Prod.mk.injEq]
 constructor <;> grind
def hdF (x:Ow) (h:Int) (f:Ga):Nat→Ga × Ga
 | 0=>stF x h f 0
 | k+1=>afF x h f k
theorem prod_take1 {l:List Pp} {k:Nat} (h:k<l.length):prodP (l.take (k+1))=prodP (l.take k) * (l.getD k default).2:=by
 have e:∀ l m:List Pp,prodP (l ++ m)=prodP l * prodP m:=by
  intro l m
  induction l with
  | nil=>simp [prodP]
  | cons a l ih=>simp [prodP,ih,Int.mul_assoc]
 have e2:l.take (k+1)=l.take k ++ [l.getD k default]:=by
  rw [List.take_succ_eq_append_getElem h]
  simp [List.getD_eq_getElem?_getD,h]
 rw [e2,e]
 simp [prodP]
theorem gsc_real {P y:Int} {f:Ga}:gmul (gsc P f) (y,0)=gsc (P * y) f:=by
 unfold gmul gsc
 simp only [Prod.mk.injEq]
 constructor <;> grind
theorem prod_tk {x:Ow} (hx:OwOk x) (k:Nat) : 1≤prodP (x.pp.take k)∧prodP (x.pp.take k)≤10000:=by
 obtain ⟨h1,h2⟩:=prodP_bd (x.pp.take k) fun p hp=>(hx.pip p (List.mem_of_mem_take hp)).2
 have hl:=hx.len
 have:(x.pp.take k).length=0∨(x.pp.take k).length=1∨(x.pp.take k).length=2∨(x.pp.take k).length=3∨(x.pp.take k).length=4:=by rw [List.length_take]; omega
 refine ⟨h1,?_⟩
 rcases this with e | e | e | e | e <;> rw [e] at h2 <;> omega
theorem hd_zero {x:Ow} {h:Int} {f:Ga} {j:Nat} (hj:j=0):hdF x h f j=stF x h f j∧leA x h f (j - 1)=leA x h f j:=by
 subst hj; exact ⟨rfl,rfl⟩
theorem hd_pos {x:Ow} {h:Int} {f:Ga} {j:Nat} (hj : 0<j):(hdF x h f j).1=(stF x h f j).1∧(stF x h f j).2=(byA (x.ar.getD (j - 1) 0) h ((stF x h f j).1,(hdF x h f j).2)).2∧leA x h f j=leA x h f (j - 1) ++ [(stF x h f j).1]:=by
 obtain ⟨j,rfl⟩ : ∃ i,j=i+1:=⟨j - 1,by omega⟩
 have e:=af_st (x:=x) (h:=h) (f:=f) (k:=j)
 have e1:(stF x h f (j+1)).1=(afF x h f j).1:=by rw [← e]; rfl
 refine ⟨e1.symm,?_,?_⟩
 ·rw [e1]
  show _=(byA (x.ar.getD j 0) h (afF x h f j)).2
  rw [e]
 ·rw [e1]; rfl
theorem hd_nrm {x:Ow} {h:Int} {f:Ga} (hx:OwOk x) (hf:nrm f≤40) {j:Nat} (hj:j≤x.pp.length):nrm (hdF x h f j).1≤50000000000∧nrm (hdF x h f j).2≤500000000000:=by
 cases j with
 | zero=>exact stF_nrm hx hf (by have:=hx.len; omega)
 | succ j=>exact afF_nrm hx hf (by omega)
theorem leA_len {x:Ow} {h:Int} {f:Ga}:∀ k,(leA x h f k).length=k
 | 0=>rfl
 | k+1=>by simp [leA,leA_len k]
theorem fwK_len {x:Ow} {h:Int} {f:Ga} {k n:Nat}:(fwK x h f k n).length=n:=by simp [fwK]
theorem bwK_len {x:Ow} {h:Int} {f:Ga} {k n:Nat}:(bwK x h f k n).length=n:=by simp [bwK]
theorem fwA_len {x:Ow} {h:Int} {f:Ga} (hx:OwOk x):∀ k,k≤x.pp.length→(fwA x h f k).length=cellsN (x.pp.take k)
 | 0,_=>by simp [fwA,cellsN]
 | k+1,hk=>by
  have hp:=hx.pip _ (getD_mem (l:=x.pp) (d:=default) (show k<x.pp.length by omega))
  rw [cellsN_step (by omega)]
  have:=fwA_len (h:=h) (f:=f) hx k (by omega)
  simp only [fwA,List.length_append,fwK_len]
  omega
theorem bwA_len {x:Ow} {h:Int} {f:Ga} (hx:OwOk x):∀ k,k≤x.pp.length→(bwA x h f k).length=cellsN (x.pp.take k)
 | 0,_=>by simp [bwA,cellsN]
 | k+1,hk=>by
  have hp:=hx.pip _ (getD_mem (l:=x.pp) (d:=default) (show k<x.pp.length by omega))
  rw [cellsN_step (by omega)]
  have:=bwA_len (h:=h) (f:=f) hx k (by omega)
  simp only [bwA,List.length_append,bwK_len]
  omega
theorem cells_le {x:Ow} (hx:OwOk x) (k:Nat) : 0≤cellsN (x.pp.take k)∧cellsN (x.pp.take k)≤24:=by
 have:=cellsN_bd (x.pp.take k) fun p hp=>(hx.pip p (List.mem_of_mem_take hp)).1
 have hl:=hx.len
 have:=List.length_take (i:=k) (l:=x.pp)
 omega
theorem range_last {α:Type} [Inhabited α] {g:Nat→α} {n:Nat}:((List.range (n+1)).map g).getD n default=g n:=by
 simp [List.getD_eq_getElem?_getD,List.getElem?_range]
theorem getD_last {α:Type} [Inhabited α] {l m:List α} {n:Nat} (h:l.length≤n):(l ++ m).getD n default=m.getD (n - l.length) default:=by
 simp [List.getD_eq_getElem?_getD,List.getElem?_append_right h]
theorem last_w {x:Ow} {h:Int} {f:Ga} (hx:OwOk x) {m c:Nat} (hm:x.pp.length=m+1) (hc:(x.pp.getD m default).1=c+1) :
  (bwA x h f (m+1)).getD (cellsN x.pp - 1).toNat default=bw1 x h f m c∧(fwA x h f (m+1)).getD (cellsN x.pp - 1).toNat default=fw1 x h f m c∧gsub (bw1 x h f m c) (gmul (fw1 x h f m c) (turnG (-h)))=cl1 x h f m:=by
 have e1:=fwA_len (h:=h) (f:=f) hx m (by omega)
 have e2:=bwA_len (h:=h) (f:=f) hx m (by omega)
 have e3:cellsN x.pp=cellsN (x.pp.take m)+(c+1):=by
  have:=cellsN_step (l:=x.pp) (i:=m) (by omega)
  rw [List.take_of_length_le (by omega),hc] at this
  exact this
 have ht:(x.pp.getD m default).1.toNat=c+1:=by omega
 refine ⟨?_,?_,?_⟩
 ·show (bwA x h f m ++ bwK x h f m (x.pp.getD m default).1.toNat).getD _ default=_
  rw [ht,getD_last (by omega),show (cellsN x.pp - 1).toNat - (bwA x h f m).length=c by omega]
  exact range_last
 ·show (fwA x h f m ++ fwK x h f m (x.pp.getD m default).1.toNat).getD _ default=_
  rw [ht,getD_last (by omega),show (cellsN x.pp - 1).toNat - (fwA x h f m).length=c by omega]
  exact range_last
 ·unfold cl1 bw1 fw1
  rw [gmul_comm _ (turnG (-h)),← gmul_assoc,← turn_add,hc]
  congr 3
  rw [Int.mul_add]
  omega
end Go.DI


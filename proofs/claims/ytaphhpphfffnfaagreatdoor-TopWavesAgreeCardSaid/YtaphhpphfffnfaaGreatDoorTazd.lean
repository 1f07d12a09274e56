/- Contracts of the reference: oscillations. No condition. -/
import Derived.Test.YtaphhpphfffnfaaGreatDoorTazb
import Derived.Test.YtaphhpphfffnfaaGreatDoorTazc
import Derived.Test.YtaphhpphfffnfaaGreatDoorTaGe
import Derived.Test.YtaphhpphfffnfaaGreatDoorProg
import Derived.KernelRfl
import Derived.Test.YtaphhpphfffnfaaGreatDoorTaza
import Derived.Test.YtaphhpphfffnfaaGreatDoorTaw
/- Contracts of the reference: oscillations. No condition. -/
set_option linter.unusedSimpArgs false
set_option maxRecDepth 100000
namespace Go.DI
open Go.Proofs Go.RowKit
theorem c_CopyGausses {a:List Ga} (ha:a.length≤1000000000):Contract Tryz.prog 150 [.slc 2 (a.map gI)] (.slc 2 (a.map gI)):=by
 refine contract_run Tryz.func150 k150 rfl ?_
 simp only [body150,b150,res150,vaE, ↓reduceIte,reduceCtorEq,Nat.reduceEqDiff,Nat.reduceAdd,Nat.reduceMul,Nat.reduceSub,Nat.reduceLeDiff,Nat.reduceBEq,Int.reduceToNat,Int.reduceLE,Int.reduceLT,Int.reduceEq,Int.reduceNe,di]
 omega
theorem r_CopySteady {s:Sty} (hs:FewG s):Contract Tryz.prog 61 [stdI s] (stdI s):=by
 have h1:=hs.1; have h2:=hs.2.1; have h3:=hs.2.2
 refine contract_run Tryz.func61 k61 rfl ?_
 simp only [body61,b61,res61,stdI,vaE, ↓reduceIte,reduceCtorEq,Nat.reduceEqDiff,Nat.reduceAdd,Nat.reduceMul,Nat.reduceSub,Nat.reduceLeDiff,Nat.reduceBEq,Int.reduceToNat,Int.reduceLE,Int.reduceLT,Int.reduceEq,Int.reduceNe,di]
 refine calls_of (c_CopyGausses (a:=s.F) (by omega)) ?_; simp only [vaE,res61, ↓reduceIte,reduceCtorEq,Nat.reduceEqDiff,Nat.reduceAdd,Nat.reduceMul,Nat.reduceSub,Nat.reduceLeDiff,Nat.reduceBEq,Int.reduceToNat,Int.reduceLE,Int.reduceLT,Int.reduceEq,Int.reduceNe,di]
 refine calls_of (c_CopyGausses (a:=s.B) (by omega)) ?_; simp only [vaE,res61, ↓reduceIte,reduceCtorEq,Nat.reduceEqDiff,Nat.reduceAdd,Nat.reduceMul,Nat.reduceSub,Nat.reduceLeDiff,Nat.reduceBEq,Int.reduceToNat,Int.reduceLE,Int.reduceLT,Int.reduceEq,Int.reduceNe,di]
 refine calls_of (c_CopyGausses (a:=s.L) (by omega)) ?_; simp only [vaE,res61, ↓reduceIte,reduceCtorEq,Nat.reduceEqDiff,Nat.reduceAdd,Nat.reduceMul,Nat.reduceSub,Nat.reduceLeDiff,Nat.reduceBEq,Int.reduceToNat,Int.reduceLE,Int.reduceLT,Int.reduceEq,Int.reduceNe,di]
theorem r_FlowErr {g:Ga}:Contract Tryz.prog 57 [gI g] (.int .i64 (flowE g)):=by
 refine contract_run Tryz.func57 k57 rfl ?_
 simp only [body57,b57,res57,b57k0,gI,vaE, ↓reduceIte,reduceCtorEq,Nat.reduceEqDiff,Nat.reduceAdd,Nat.reduceMul,Nat.reduceSub,Nat.reduceLeDiff,Nat.reduceBEq,Int.reduceToNat,Int.reduceLE,Int.reduceLT,Int.reduceEq,Int.reduceNe,di]
 refine calls_of c_Within ?_; simp only [vaE,res57,b57k0, ↓reduceIte,reduceCtorEq,Nat.reduceEqDiff,Nat.reduceAdd,Nat.reduceMul,Nat.reduceSub,Nat.reduceLeDiff,Nat.reduceBEq,Int.reduceToNat,Int.reduceLE,Int.reduceLT,Int.reduceEq,Int.reduceNe,di]
 unfold flowE
 by_cases h1 : -10≤g.1∧g.1≤10
 ·simp only [h1,vaE, ↓reduceIte,reduceCtorEq,Nat.reduceEqDiff,Nat.reduceAdd,Nat.reduceMul,Nat.reduceSub,Nat.reduceLeDiff,Nat.reduceBEq,Int.reduceToNat,Int.reduceLE,Int.reduceLT,Int.reduceEq,Int.reduceNe,di]
  refine calls_of c_Within ?_; simp only [vaE,res57,b57k0, ↓reduceIte,reduceCtorEq,Nat.reduceEqDiff,Nat.reduceAdd,Nat.reduceMul,Nat.reduceSub,Nat.reduceLeDiff,Nat.reduceBEq,Int.reduceToNat,Int.reduceLE,Int.reduceLT,Int.reduceEq,Int.reduceNe,di]
  by_cases h2 : -10≤g.2∧g.2≤10
  ·simp only [h2,vaE, ↓reduceIte,reduceCtorEq,Nat.reduceEqDiff,Nat.reduceAdd,Nat.reduceMul,Nat.reduceSub,Nat.reduceLeDiff,Nat.reduceBEq,Int.reduceToNat,Int.reduceLE,Int.reduceLT,Int.reduceEq,Int.reduceNe,di]
   rw [if_pos (show floOk g from ⟨h1,h2⟩)]
  ·simp only [h2,vaE, ↓reduceIte,reduceCtorEq,Nat.reduceEqDiff,Nat.reduceAdd,Nat.reduceMul,Nat.reduceSub,Nat.reduceLeDiff,Nat.reduceBEq,Int.reduceToNat,Int.reduceLE,Int.reduceLT,Int.reduceEq,Int.reduceNe,di]
   rw [if_neg (show ¬ floOk g from fun k=>h2 k.2)]
 ·simp only [h1,vaE, ↓reduceIte,reduceCtorEq,Nat.reduceEqDiff,Nat.reduceAdd,Nat.reduceMul,Nat.reduceSub,Nat.reduceLeDiff,Nat.reduceBEq,Int.reduceToNat,Int.reduceLE,Int.reduceLT,Int.reduceEq,Int.reduceNe,di]
  rw [if_neg (show ¬ floOk g from fun k=>h1 k.1)]
end Go.DI

/- Law: the steady oscillation of a line, and the state and the closing at a tick of any oscillation. No condition. -/
set_option linter.unusedSimpArgs false
set_option maxRecDepth 100000
namespace Go.DI
open Go.Proofs Go.RowKit
theorem few_osZ {x:Ln} {h:Int} {g:Ga}:FewG (osZ x h g):=by
 unfold osZ
 split
 ·rename_i h0
  have hm:matE x h=0:=by unfold osE at h0; rw [fstE_zero] at h0; exact h0.1
  have hx:=(matE_zero.1 hm).1
  have how:=opn_ok hx
  have e1:=fwA_len (h:=h) (f:=(2 * g.1,2 * g.2)) how (opn x).pp.length (Nat.le_refl _)
  have e2:=bwA_len (h:=h) (f:=(2 * g.1,2 * g.2)) how (opn x).pp.length (Nat.le_refl _)
  have e3:=leA_len (x:=opn x) (h:=h) (f:=(2 * g.1,2 * g.2)) (opn x).ar.length
  have e4:=cells_le how (opn x).pp.length
  have e5:=how.ars; have e6:=how.len
  exact ⟨by show (fwA _ _ _ _).length≤_; omega,by show (bwA _ _ _ _).length≤_; omega,by show (leA _ _ _ _).length≤_; omega⟩
 ·exact ⟨by decide,by decide,by decide⟩
end Go.DI

/- The functions of pressures, flows and energies, as data. No condition. -/
namespace Go.DI
open Go.Proofs Go.RowKit
end Go.DI

/- The statement WaveStates, as a contract. No condition. -/
set_option linter.unusedSimpArgs false
set_option maxRecDepth 100000
namespace Go.DI
open Go.Proofs Go.RowKit
def admL:List Pp→List Int
 | []=>[]
 | p :: r=>List.replicate p.1.toNat p.2 ++ admL r
end Go.DI

/- The energy of a line in plain numbers. No condition. -/
set_option linter.unusedSimpArgs false
namespace Go.DI
theorem tdiv_split {N D:Int} (hD : 0<D):∃ r,N=D * N.tdiv D+r∧(-D<r∧r<D)∧0≤N.tdiv D * r:=by
 refine ⟨N.tmod D,(Int.mul_tdiv_add_tmod N D).symm,⟨?_,Int.tmod_lt_of_pos _ hD⟩,?_⟩
 ·have:=Int.tmod_lt_of_pos (-N) hD
  rw [Int.neg_tmod] at this
  omega
 ·by_cases h : 0≤N
  ·exact Int.mul_nonneg (Int.tdiv_nonneg h (by omega)) (Int.tmod_nonneg _ h)
  ·have h1:=Int.tdiv_nonneg (a := -N) (b:=D) (by omega) (by omega)
   have h2:=Int.tmod_nonneg (a := -N) D (by omega)
   rw [Int.neg_tdiv] at h1
   rw [Int.neg_tmod] at h2
   have h3:=Int.mul_nonneg h1 h2
   rw [Int.neg_mul_neg] at h3
   exact h3
def jI (y w A a c L:Int):Int:=(2 * y * a+2 * w * c+A * L).tdiv (y+w+A)
theorem jI_bd {y w A a c L M:Int} (hy : 1≤y) (hw : 1≤w) (hA : 0≤A) (ha : -M≤a∧a≤M) (hc : -M≤c∧c≤M) (hL : -(2 * M)≤L∧L≤2 * M) : -(2 * M)≤jI y w A a c L∧jI y w A a c L≤2 * M:=by
 obtain ⟨r,h1,h2,_⟩:=tdiv_split (N:=2 * y * a+2 * w * c+A * L) (D:=y+w+A) (by omega)
 unfold jI
 generalize (2 * y * a+2 * w * c+A * L).tdiv (y+w+A)=p at *
 have e1:y * a≤y * M:=Int.mul_le_mul_of_nonneg_left ha.2 (by omega)
 have e2:y * (-M)≤y * a:=Int.mul_le_mul_of_nonneg_left ha.1 (by omega)
 have e3:w * c≤w * M:=Int.mul_le_mul_of_nonneg_left hc.2 (by omega)
 have e4:w * (-M)≤w * c:=Int.mul_le_mul_of_nonneg_left hc.1 (by omega)
 have e5:A * L≤A * (2 * M):=Int.mul_le_mul_of_nonneg_left hL.2 hA
 have e6:A * (-(2 * M))≤A * L:=Int.mul_le_mul_of_nonneg_left hL.1 hA
 constructor
 ·refine Int.not_lt.1 fun h => ?_
  have:(y+w+A) * p≤(y+w+A) * (-(2 * M) - 1):=Int.mul_le_mul_of_nonneg_left (by omega) (by omega)
  grind
 ·refine Int.not_lt.1 fun h => ?_
  have:(y+w+A) * (2 * M+1)≤(y+w+A) * p:=Int.mul_le_mul_of_nonneg_left (by omega) (by omega)
  grind
theorem jP_jI {y w A a c L:Int} (hy : 1≤y∧y≤10) (hw : 1≤w∧w≤10) (hA : 0≤A∧A≤20) (ha : -10000000≤a∧a≤10000000) (hc : -10000000≤c∧c≤10000000) (hL : -20000000≤L∧L≤20000000):jP y w A a c L=jI y w A a c L:=by
 have hb:=jI_bd (M:=10000000) hy.1 hw.1 hA.1 ha hc hL
 have h1:=mul_bd (y:=2 * y) (k:=20) (by omega) (by decide) ha
 have h2:=mul_bd (y:=2 * w) (k:=20) (by omega) (by decide) hc
 have h3:=mul_bd (y:=A) (k:=20) (by omega) (by decide) hL
 unfold jP
 unfold jI at hb ⊢
 rw [w6 (n:=2 * y) (by omega) (by omega),w6 (n:=2 * w) (by omega) (by omega),w6 (n:=2 * y * a) (by omega) (by omega),w6 (n:=2 * w * c) (by omega) (by omega),w6 (n:=A * L) (by omega) (by omega),w6 (n:=2 * y * a+2 * w * c) (by omega) (by omega),
  w6 (n:=2 * y * a+2 * w * c+A * L) (by omega) (by omega),w6 (n:=y+w) (by omega) (by omega),w6 (n:=y+w+A) (by omega) (by omega),w6 (by omega) (by omega)]
end Go.DI


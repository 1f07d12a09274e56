/- Whole complex numbers as complex ones: sums, differences and products are exact. No condition. -/
import Derived.Test.YtaphhpphfffnfaaGreatDoorTal
set_option linter.unusedSimpArgs false
namespace Go.DI
open Fl
abbrev Ga:=Int × Int
def gadd (g h:Ga):Ga:=(g.1+h.1,g.2+h.2)
def gsub (g h:Ga):Ga:=(g.1 - h.1,g.2 - h.2)
def gmul (g h:Ga):Ga:=(g.1 * h.1 - g.2 * h.2,g.1 * h.2+g.2 * h.1)
def gneg (g:Ga):Ga:=(-g.1, -g.2)
def nrm (g:Ga):Nat:=g.1.natAbs+g.2.natAbs
theorem nrm_add (g h:Ga):nrm (gadd g h)≤nrm g+nrm h:=by
 unfold nrm gadd; dsimp only
 have h1:=Int.natAbs_add_le g.1 h.1
 have h2:=Int.natAbs_add_le g.2 h.2
 omega
theorem nrm_sub (g h:Ga):nrm (gsub g h)≤nrm g+nrm h:=by
 unfold nrm gsub; dsimp only
 omega
theorem nrm_neg (g:Ga):nrm (gneg g)=nrm g:=by unfold nrm gneg; simp
theorem nrm_mul (g h:Ga):nrm (gmul g h)≤nrm g * nrm h:=by
 unfold nrm gmul; dsimp only
 rw [Nat.add_mul,Nat.mul_add,Nat.mul_add]
 have h1:=Int.natAbs_mul g.1 h.1
 have h2:=Int.natAbs_mul g.2 h.2
 have h3:=Int.natAbs_mul g.1 h.2
 have h4:=Int.natAbs_mul g.2 h.1
 rw [← h1,← h2,← h3,← h4]
 generalize g.1 * h.1=a; generalize g.2 * h.2=b; generalize g.1 * h.2=c; generalize g.2 * h.1=d
 omega
theorem nrm_mul_le {g h:Ga} {a b:Nat} (h1:nrm g≤a) (h2:nrm h≤b):nrm (gmul g h)≤a * b:=Nat.le_trans (nrm_mul g h) (Nat.mul_le_mul h1 h2)
def CC (a b:Nat) (g:Ga):Prop:=F a g.1∧F b g.2
def Bd (n:Nat):Prop:=n<9007199254740992
theorem part_le {g:Ga} {n:Nat} (h:nrm g≤n) (hn:Bd n):Sm g.1∧Sm g.2:=by
 unfold nrm at h; unfold Bd at hn; unfold Sm
 omega
theorem addC {a b c d:Nat} {g h:Ga} (x:CC a b g) (y:CC c d h) (hn:Bd (nrm g+nrm h)):∃ p q,pxI (.cpx .add) [.cpx .f64 a b,.cpx .f64 c d]=some (.cpx .f64 p q)∧CC p q (gadd g h):=by
 obtain ⟨s1,s2⟩:=part_le (nrm_add g h) hn
 obtain ⟨p,e1,h1⟩:=F_add x.1 y.1 s1
 obtain ⟨q,e2,h2⟩:=F_add x.2 y.2 s2
 refine ⟨p,q,?_,h1,h2⟩
 simp only [pxI,cpxI,fltA,e1,e2,both]
theorem subC {a b c d:Nat} {g h:Ga} (x:CC a b g) (y:CC c d h) (hn:Bd (nrm g+nrm h)):∃ p q,pxI (.cpx .sub) [.cpx .f64 a b,.cpx .f64 c d]=some (.cpx .f64 p q)∧CC p q (gsub g h):=by
 obtain ⟨s1,s2⟩:=part_le (nrm_sub g h) hn
 obtain ⟨p,e1,h1⟩:=F_sub x.1 y.1 s1
 obtain ⟨q,e2,h2⟩:=F_sub x.2 y.2 s2
 refine ⟨p,q,?_,h1,h2⟩
 simp only [pxI,cpxI,fltA,e1,e2,both]
theorem mulC {a b c d:Nat} {g h:Ga} (x:CC a b g) (y:CC c d h) (hn:Bd (nrm g * nrm h)):∃ p q,pxI (.cpx .mul) [.cpx .f64 a b,.cpx .f64 c d]=some (.cpx .f64 p q)∧CC p q (gmul g h):=by
 obtain ⟨s1,s2⟩:=part_le (nrm_mul g h) hn
 have hs:Sm (g.1 * h.1)∧Sm (g.2 * h.2)∧Sm (g.1 * h.2)∧Sm (g.2 * h.1):=by
  unfold Bd nrm at hn
  rw [Nat.add_mul,Nat.mul_add,Nat.mul_add] at hn
  unfold Sm
  rw [Int.natAbs_mul,Int.natAbs_mul,Int.natAbs_mul,Int.natAbs_mul]
  omega
 obtain ⟨ac,e1,h1⟩:=F_mul x.1 y.1 hs.1
 obtain ⟨bd,e2,h2⟩:=F_mul x.2 y.2 hs.2.1
 obtain ⟨ad,e3,h3⟩:=F_mul x.1 y.2 hs.2.2.1
 obtain ⟨bc,e4,h4⟩:=F_mul x.2 y.1 hs.2.2.2
 obtain ⟨p,e5,h5⟩:=F_sub h1 h2 s1
 obtain ⟨q,e6,h6⟩:=F_add h3 h4 s2
 refine ⟨p,q,?_,h5,h6⟩
 simp only [pxI,cpxI,cpxM,fltA,e1,e2,e3,e4,e5,e6,both]
theorem negC {a b:Nat} {g:Ga} (x:CC a b g):∃ p q,pxI .neg [.cpx .f64 a b]=some (.cpx .f64 p q)∧CC p q (gneg g):=⟨_,_,rfl,F_neg x.1,F_neg x.2⟩
theorem f2i_F {a:Nat} {n:Int} (x:F a n) (h : -9223372036854775808≤n∧n≤9223372036854775807):pxI (.f2i .i64) [.flt .f64 a]=some (.int .i64 n):=by
 simp only [pxI,toInt_of x]
 rw [if_pos]
 exact h
theorem i2f_F {n:Int} (h:Sm n):F (FloatKind.f64.nearest n) n:=F_int h

theorem F_zero:F 0 0:=⟨false,0, -1074,by decide,⟨1074,by decide,by rw [show sg false ((0:Nat):Int)=0 from rfl,Int.zero_mul,Int.zero_mul]⟩⟩
theorem F_one:F 4607182418800017408 1:=⟨false,4503599627370496, -52,by decide,⟨52,by decide,by decide⟩⟩
theorem F_mone:F 13830554455654793216 (-1):=⟨true,4503599627370496, -52,by decide,⟨52,by decide,by decide⟩⟩
theorem CC_zero:CC 0 0 (0,0):=⟨F_zero,F_zero⟩
theorem CC_one:CC 4607182418800017408 0 (1,0):=⟨F_one,F_zero⟩
theorem CC_mone:CC 13830554455654793216 0 (-1,0):=⟨F_mone,F_zero⟩
theorem CC_i:CC 0 4607182418800017408 (0,1):=⟨F_zero,F_one⟩
theorem CC_mi:CC 0 13830554455654793216 (0, -1):=⟨F_zero,F_mone⟩
def turnG (p:Int):Ga:=if p % 4=0 then (1,0) else if p % 4=1 then (0,1) else if p % 4=2 then (-1,0) else (0, -1)
def cosG (p:Int):Ga:=((turnG p).1,0)
def sinG (p:Int):Ga:=((turnG p).2,0)
def turnA (p:Int):Nat:=if p % 4=0 then 4607182418800017408 else if p % 4=2 then 13830554455654793216 else 0
def turnB (p:Int):Nat:=if p % 4=1 then 4607182418800017408 else if p % 4=3 then 13830554455654793216 else 0
theorem mod4 (p:Int):p % 4=0∨p % 4=1∨p % 4=2∨p % 4=3:=by omega
theorem CC_turn (p:Int):CC (turnA p) (turnB p) (turnG p):=by
 unfold turnA turnB turnG
 rcases mod4 p with h | h | h | h <;> rw [h]
 ·exact CC_one
 ·exact CC_i
 ·exact CC_mone
 ·exact CC_mi
theorem CC_cos (p:Int):CC (turnA p) 0 (cosG p):=⟨(CC_turn p).1,F_zero⟩
theorem CC_sin (p:Int):CC (turnB p) 0 (sinG p):=⟨(CC_turn p).2,F_zero⟩
theorem nrm_turn (p:Int):nrm (turnG p)=1:=by
 unfold turnG
 rcases mod4 p with h | h | h | h <;> rw [h] <;> rfl
theorem nrm_cos (p:Int):nrm (cosG p)≤1:=by
 unfold cosG turnG
 rcases mod4 p with h | h | h | h <;> rw [h] <;> decide
theorem nrm_sin (p:Int):nrm (sinG p)≤1:=by
 unfold sinG turnG
 rcases mod4 p with h | h | h | h <;> rw [h] <;> decide
theorem rem4 (p:Int):((p.tmod 4+4).tmod 4)=p % 4:=by
 have h1:=Int.tmod_eq_emod (a:=p) (b:=4)
 have h2:=Int.tmod_eq_emod (a:=p.tmod 4+4) (b:=4)
 split at h1 <;> split at h2 <;> omega
end Go.DI


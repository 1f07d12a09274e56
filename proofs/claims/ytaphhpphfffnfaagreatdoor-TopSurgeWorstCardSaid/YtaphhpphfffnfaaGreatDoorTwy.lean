/- Covers as plain data: each state lies in exactly one box; bounds of more boxes. No condition. -/
import Derived.Test.YtaphhpphfffnfaaGreatDoorTwx
set_option linter.unusedSimpArgs false
namespace Go.DI
open Go.Proofs Go.RowKit Sg
theorem mem_flowsF {L:Int} {s:Sta}:∀ {n:Nat} {F:Int},s ∈ flowsF L F n↔s.L=L∧F≤s.F∧s.F<F+n
 | 0,F=>by
  constructor
  ·intro h; cases h
  ·intro h; omega
 | n+1,F=>by
  simp only [flowsF,List.mem_cons]
  rw [mem_flowsF (n:=n)]
  constructor
  ·rintro (rfl | h)
   ·exact ⟨rfl,Int.le_refl _,by push_cast; omega⟩
   ·push_cast; omega
  ·intro h
   by_cases e:s.F=F
   ·left; cases s; dsimp only at h e; rw [h.1,e]
   ·right; push_cast at h; omega
theorem mem_levelsF {fl:Int} {nf:Nat} {s:Sta}:∀ {n:Nat} {L:Int},s ∈ levelsF fl nf L n↔(L≤s.L∧s.L<L+n)∧fl≤s.F∧s.F<fl+nf
 | 0,L=>by
  constructor
  ·intro h; cases h
  ·intro h; omega
 | n+1,L=>by
  simp only [levelsF,List.mem_append]
  rw [mem_flowsF,mem_levelsF (n:=n)]
  push_cast
  omega
theorem mem_statesB {b:Bx} {s:Sta}:s ∈ statesB b↔InB b s:=by
 unfold statesB InB Wi
 rw [mem_levelsF]
 omega
theorem uncP_none {b:Bx} {bs:List Bx}:uncP b bs=none↔∀ s,InB b s→∃ x ∈ bs,InB x s:=by
 unfold uncP
 rw [List.find?_eq_none]
 have key:∀ s,(¬ (!covd bs s)=true)↔∃ x ∈ bs,InB x s:=by
  intro s
  unfold covd
  simp [inB_eq]
 constructor
 ·intro h s hs
  exact (key s).1 (h s (mem_statesB.2 hs))
 ·intro h s hs
  exact (key s).2 (h s (mem_statesB.1 hs))
theorem divQ_mono {lo hi c:Int} (h:DivOk lo hi c) {i:Nat}:(i:Int) * (hi - lo+1) / c≤((i:Int)+1) * (hi - lo+1) / c:=by
 have a2:=h.a2; have a4:=h.a4
 apply Int.ediv_le_ediv (by omega)
 exact Int.mul_le_mul_of_nonneg_right (by omega) (by omega)
theorem divQ_last {lo hi c:Int} (h:DivOk lo hi c):(c.toNat:Int) * (hi - lo+1) / c=hi - lo+1:=by
 have a4:=h.a4
 rw [show (c.toNat:Int)=c by omega]
 exact Int.mul_ediv_cancel_left _ (by omega)
def sumD:List (Int × Int)→Int
 | []=>0
 | x :: l=>(x.2 - x.1+1)+sumD l
theorem sumD_append {a b:List (Int × Int)}:sumD (a ++ b)=sumD a+sumD b:=by
 induction a with
 | nil=>simp [sumD]
 | cons x a ih=>simp only [List.cons_append,sumD]; omega
theorem sumD_one {lo hi c:Int} (h:DivOk lo hi c) {i:Nat}:sumD (oneD (divP lo hi c i))=((i:Int)+1) * (hi - lo+1) / c - (i:Int) * (hi - lo+1) / c:=by
 have hm:=divQ_mono h (i:=i)
 unfold oneD divP
 dsimp only
 generalize (i:Int) * (hi - lo+1) / c=q1 at hm ⊢
 generalize ((i:Int)+1) * (hi - lo+1) / c=q2 at hm ⊢
 split
 ·simp only [sumD]; omega
 ·simp only [sumD]; omega
theorem divR_all {lo hi c:Int} (h:DivOk lo hi c):∀ (n i:Nat),n+i=c.toNat →
  sumD (divR lo hi c i)=(hi - lo+1) - (i:Int) * (hi - lo+1) / c ∧
  (∀ t,lo+(i:Int) * (hi - lo+1) / c≤t→t≤hi→∃ x ∈ divR lo hi c i,x.1≤t∧t≤x.2) ∧
  (∀ x ∈ divR lo hi c i,lo+(i:Int) * (hi - lo+1) / c≤x.1)∧(divR lo hi c i).Pairwise (fun x y=>x.2<y.1)
 | 0,i,hn=>by
  rw [divR_end (by omega)]
  have hl:=divQ_last h
  have:i=c.toNat:=by omega
  subst this
  rw [hl]
  refine ⟨by simp [sumD],fun t h1 h2=>by omega,by simp,List.Pairwise.nil⟩
 | n+1,i,hn=>by
  obtain ⟨h1,h2,h3,h4⟩:=divR_all h n (i+1) (by omega)
  have ho:=sumD_one h (i:=i)
  have hm:=divQ_mono h (i:=i)
  rw [divR_step (by omega),sumD_append,ho,h1]
  push_cast at h1 h2 h3 ⊢
  refine ⟨by omega,fun t ht1 ht2 => ?_,fun x hx => ?_,?_⟩
  ·by_cases k:t≤lo+((i:Int)+1) * (hi - lo+1) / c - 1
   ·refine ⟨divP lo hi c i,?_,ht1,k⟩
    unfold oneD
    rw [if_pos (by unfold divP; dsimp only; omega)]
    simp
   ·obtain ⟨x,hx,hx2⟩:=h2 t (by omega) ht2
    exact ⟨x,by simp [hx],hx2⟩
  ·rcases List.mem_append.1 hx with hx | hx
   ·unfold oneD at hx
    split at hx
    ·rw [List.mem_singleton] at hx
     subst hx
     exact Int.le_refl _
    ·cases hx
   ·have:=h3 x hx
    omega
  ·rw [List.pairwise_append]
   refine ⟨?_,h4,fun x hx y hy => ?_⟩
   ·unfold oneD
    split
    ·exact List.pairwise_singleton _ _
    ·exact List.Pairwise.nil
   ·unfold oneD at hx
    split at hx
    ·rw [List.mem_singleton] at hx
     subst hx
     have:=h3 y hy
     unfold divP
     dsimp only
     omega
    ·cases hx
theorem divL_all {lo hi c:Int} (h:DivOk lo hi c):sumD (divL lo hi c)=hi - lo+1∧(∀ t,lo≤t→t≤hi→∃ x ∈ divL lo hi c,x.1≤t∧t≤x.2)∧(divL lo hi c).Pairwise (fun x y=>x.2<y.1):=by
 obtain ⟨h1,h2,h3,h4⟩:=divR_all h c.toNat 0 (by omega)
 simp only [Int.natCast_zero,Int.zero_mul,Int.zero_ediv,Int.add_zero,Int.sub_zero] at h1 h2
 exact ⟨h1,h2,h4⟩
theorem cover_divs {v:Cv} (hv:coverE v=0):DivOk v.b.ll v.b.lh v.parts∧DivOk v.b.fl v.b.fh v.parts:=by
 obtain ⟨hb,hp, -⟩:=coverE_zero.1 hv
 rw [boxErr_zero] at hb
 exact ⟨⟨by omega,by omega,by omega,hp⟩,⟨by omega,by omega,by omega,hp⟩⟩
theorem cover_all {v:Cv} (hv:coverE v=0):uncP v.b (coverL v)=none:=by
 obtain ⟨d1,d2⟩:=cover_divs hv
 rw [uncP_none]
 rintro s ⟨⟨h1,h2⟩,h3,h4⟩
 obtain ⟨x,hx,hx2⟩:=(divL_all d1).2.1 s.L h1 h2
 obtain ⟨y,hy,hy2⟩:=(divL_all d2).2.1 s.F h3 h4
 refine ⟨bxOf x y,?_,hx2,hy2⟩
 unfold coverL
 rw [List.mem_flatMap]
 exact ⟨x,hx,List.mem_map.2 ⟨y,hy,rfl⟩⟩
end Go.DI


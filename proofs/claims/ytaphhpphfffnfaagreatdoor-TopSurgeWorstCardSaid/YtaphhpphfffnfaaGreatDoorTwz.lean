/- The worst surge within a stated gap, plain: a run with any frictions lies in the bound of the cover. No condition. -/
import Derived.Test.YtaphhpphfffnfaaGreatDoorTwy
import Derived.Test.YtaphhpphfffnfaaGreatDoorTwx
set_option linter.unusedSimpArgs false
namespace Go.DI
open Go.Proofs Go.RowKit Sg
theorem orders_2 {p:Pl} (h:p.ch.length≤2):(ordersP p).length≤2:=by
 have hn:p.ch.length=0∨p.ch.length=1∨p.ch.length=2:=by omega
 have hl:=ordF_length (p:=p) p.ch.length []
 unfold ordersP
 rcases hn with e | e | e
 ·rw [e] at hl ⊢; simp at hl; omega
 ·rw [e] at hl ⊢; simp at hl; omega
 ·rw [e]
  have h1:=length_flat (l:=List.range p.ch.length) (m:=1) (g:=fun (i:Nat)=>oneF p [] i (ordF p 1 ([] ++ [(i:Int)]))) fun i hi=>by
   refine Nat.le_trans oneF_length ?_
   have:=ordF_less (p:=p) (f:=0) (o:=[] ++ [(i:Int)]) (j:=i) (List.mem_range.1 hi) (by simp)
   rw [e] at this
   simpa using this
  have h2:ordF p 2 []=(List.range p.ch.length).flatMap fun (i:Nat)=>oneF p [] i (ordF p 1 ([] ++ [(i:Int)])):=rfl
  rw [h2]
  rw [List.length_range,e] at h1
  rw [e]
  exact h1
theorem cover_box {v:Cv} (hv:coverE v=0) {s:Sta} (hs:InB v.b s):∃ b ∈ coverL v,InB b s:=uncP_none.1 (cover_all hv) s hs
def HoldsB (r:Ru) (B:Bool × Int × Int) (c:Bx) (l:List Int):Prop:=∀ x ∈ brunL r c l,B.2.1≤x.ll∧x.lh≤B.2.2
theorem holds_box {r:Ru} {p:Pl} {bs:List Bx} {o:List Int} {b:Bx} (ho:o ∈ ordersP p) (hb:b ∈ bs):HoldsB r (boundP r p bs) b (loadsP p o):=by
 intro x hx
 refine bound_bnd.2 x ?_
 unfold allB
 simp only [List.mem_flatMap,List.mem_singleton]
 exact ⟨o,ho,b,hb,x,hx,rfl⟩
def NowIn (r:Ru) (B:Bool × Int × Int) (s:Sta) (l:List Int):Prop:=∃ c,InB c s∧(-1000≤c.fl∧c.fh≤1000)∧HoldsB r B c l
theorem now_step {r:Ru} {B:Bool × Int × Int} {s:Sta} {load k:Int} {l:List Int} (hr:Sg.Good r) (hl : 0≤load∧load≤1000) (hk:r.lo≤k∧k≤r.hi) (h:NowIn r B s (load :: l)) :
  (B.2.1≤(stp r s load k).L∧(stp r s load k).L≤B.2.2)∧NowIn r B (stp r s load k) l:=by
 obtain ⟨c,hin,hf,hh⟩:=h
 have h1:=bstp_in hr hl hk hin hf
 have hb:=bstp_bd (r:=r) hr (b:=c) (load:=load) (m:=max (max c.ll (-c.ll)) (max c.lh (-c.lh))) (by omega) (by omega) hl
 have h2:=hh (bstp r c load) (by simp [brunL])
 refine ⟨⟨by have:=h1.1.1; omega,by have:=h1.1.2; omega⟩,bstp r c load,h1,by omega,fun x hx=>hh x ?_⟩
 simp only [brunL,List.mem_cons]
 exact .inr hx
theorem now_cover {r:Ru} {p:Pl} {v:Cv} {o:List Int} {s:Sta} (hv:coverE v=0) (ho:o ∈ ordersP p) (hs:InB v.b s):NowIn r (boundP r p (coverL v)) s (loadsP p o):=by
 obtain ⟨b,hb,hin⟩:=cover_box hv hs
 have he:=boxErr_zero.1 ((cover_ok hv).2 b hb)
 exact ⟨b,hin,by omega,holds_box ho hb⟩
theorem maxL_ge:∀ (l:List Int) (m:Int),m≤maxL l m∧∀ x ∈ l,x≤maxL l m
 | [],m=>⟨Int.le_refl m,fun x h=>by cases h⟩
 | y :: l,m=>by
  obtain ⟨h1,h2⟩:=maxL_ge l (max m y)
  show m≤maxL l (max m y)∧∀ x ∈ y :: l,x≤maxL l (max m y)
  refine ⟨by omega,fun x hx => ?_⟩
  rcases List.mem_cons.1 hx with rfl | hx
  ·omega
  ·exact h2 x hx
theorem high_ge {r:Ru} {s q:Sta} {ls:List Int} {k:Int} (h:q ∈ runL r k s ls):q.L≤highL r s ls k:=by
 have hm:q.L ∈ (runL r k s ls).map (·.L):=List.mem_map.2 ⟨q,h,rfl⟩
 unfold highL
 rw [← maxL_eq (List.ne_nil_of_mem hm)]
 exact (maxL_ge _ _).2 _ hm
theorem kept_run {r:Ru} {p:Pl} {v:Cv} {w0:Int} {o:List Int} {s q:Sta} (hr:Sg.Good r) (hv:coverE v=0) (hk:keepsW r p v w0) (hp:PlanOk (setW p w0)) (ho:o ∈ ordersP (setW p w0)) (hs:InB v.b s)
  (hq:q ∈ runL r r.hi s (loadsP (setW p w0) o)):v.lo≤q.L∧q.L≤v.hi:=by
 obtain ⟨b,hb,hin⟩:=cover_box hv hs
 have he:=boxErr_zero.1 ((cover_ok hv).2 b hb)
 have hle:=hr.le
 obtain ⟨x,hx,h1,h2⟩:=run_in hr (k:=r.hi) ⟨by omega,Int.le_refl _⟩ _ (loads_ok hp (orders_perm ho)).2 hin (by omega) q hq
 have:=holds_box (r:=r) ho hb x hx
 obtain ⟨⟨-,k1⟩,k2⟩:=hk
 omega
def cornersB (b:Bx):List Sta:=[⟨b.ll,b.fl⟩,⟨b.lh,b.fl⟩,⟨b.ll,b.fh⟩,⟨b.lh,b.fh⟩]
theorem corner_in {b:Bx} (h:boxErr b=0):∀ s ∈ cornersB b,InB b s∧stateErr s=0:=by
 have hb:=boxErr_zero.1 h
 intro s hs
 rw [stateErr_zero]
 simp only [cornersB,List.mem_cons,List.not_mem_nil,or_false] at hs
 unfold InB Wi
 rcases hs with rfl | rfl | rfl | rfl <;> dsimp only <;> omega
theorem mod_in {lo hi n:Int} (h:lo≤hi):lo≤lo+n % (hi - lo+1)∧lo+n % (hi - lo+1)≤hi:=by
 have h1:=Int.emod_nonneg n (show hi - lo+1 ≠ 0 by omega)
 have h2:=Int.emod_lt_of_pos n (show 0<hi - lo+1 by omega)
 omega
end Go.DI


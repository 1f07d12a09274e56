/- The statement SurgeWitnesses, as a contract. No condition. -/
import Derived.Test.YtaphhpphfffnfaaGreatDoorTwk
import Derived.Test.YtaphhpphfffnfaaGreatDoorTwm
set_option linter.unusedSimpArgs false
set_option maxRecDepth 20000
namespace Go.DI
open Go.Proofs Go.RowKit Sg
def Best (r:Ru) (p:Pl) (L:List (List Int × Sta × Int)):Option Wt→Prop
 | none=>L=[]
 | some v=>(v.ord,v.st,v.k) ∈ L∧v.lev=highL r v.st (loadsP p v.ord) v.k∧∀ t ∈ L,highL r t.2.1 (loadsP p t.1) t.2.2≤v.lev
theorem best_stp {r:Ru} {p:Pl} {L:List (List Int × Sta × Int)} {y:Option Wt} {o:List Int} {s:Sta} {k:Int} (h:Best r p L y):Best r p (L ++ [(o,s,k)]) (wStp r p o s y k):=by
 cases y with
 | none =>
  have h:L=[]:=h
  subst h
  exact ⟨by simp,rfl,fun t ht=>by simp at ht; subst ht; exact Int.le_refl _⟩
 | some v =>
  obtain ⟨h1,h2,h3⟩:=h
  unfold wStp
  dsimp only
  split
  ·rename_i h4
   refine ⟨by simp,rfl,fun t ht => ?_⟩
   rcases List.mem_append.1 ht with ht | ht
   ·have:=h3 t ht; dsimp only; omega
   ·simp at ht; subst ht; exact Int.le_refl _
  ·rename_i h4
   refine ⟨by simp [h1],h2,fun t ht => ?_⟩
   rcases List.mem_append.1 ht with ht | ht
   ·exact h3 t ht
   ·simp at ht; subst ht; dsimp only; omega
theorem best_fold {α:Type} {r:Ru} {p:Pl} {f:Option Wt→α→Option Wt} {g : α→List (List Int × Sta × Int)} (hf:∀ L y x,Best r p L y→Best r p (L ++ g x) (f y x)):∀ (xs:List α) (L:List (List Int × Sta × Int)) (y:Option Wt),Best r p L y→Best r p (L ++ xs.flatMap g) (xs.foldl f y)
 | [],L,y,h=>by simpa using h
 | x :: xs,L,y,h=>by
  have:=best_fold hf xs (L ++ g x) (f y x) (hf L y x h)
  simpa using this
def triples (r:Ru) (p:Pl) (ss:List Sta):List (List Int × Sta × Int):=(ordersP p).flatMap fun o=>ss.flatMap fun s=>[r.lo,r.hi].flatMap fun k=>[(o,s,k)]
theorem worstP_Best {r:Ru} {p:Pl} {ss:List Sta}:Best r p (triples r p ss) (worstP r p ss) :=
 best_fold (g:=fun o=>ss.flatMap fun s=>[r.lo,r.hi].flatMap fun k=>[(o,s,k)]) (fun L y o h =>
  best_fold (g:=fun s=>[r.lo,r.hi].flatMap fun k=>[(o,s,k)]) (fun L y s h=>best_fold (g:=fun k=>[(o,s,k)]) (fun _ _ _ h=>best_stp h) [r.lo,r.hi] L y h) ss L y h) (ordersP p) [] none rfl
theorem worstP_best {r:Ru} {p:Pl} {ss:List Sta} {v:Wt} (h:worstP r p ss=some v):(∃ o ∈ ordersP p,∃ s ∈ ss,∃ k,(k=r.lo∨k=r.hi)∧v.ord=o∧v.st=s∧v.k=k∧v.lev=highL r s (loadsP p o) k) ∧
  ∀ o ∈ ordersP p,∀ s ∈ ss,∀ k,(k=r.lo∨k=r.hi)→highL r s (loadsP p o) k≤v.lev:=by
 have hb:=worstP_Best (r:=r) (p:=p) (ss:=ss)
 rw [h] at hb
 obtain ⟨h1,h2,h3⟩:=hb
 constructor
 ·simp only [triples,List.mem_flatMap,List.mem_cons,List.not_mem_nil,or_false,Prod.mk.injEq] at h1
  obtain ⟨o,ho,s,hs,k,hk,e1,e2,e3⟩:=h1
  subst e1; subst e2; subst e3
  exact ⟨_,ho,_,hs,_,hk,rfl,rfl,rfl,h2⟩
 ·intro o ho s hs k hk
  refine h3 (o,s,k) ?_
  simp only [triples,List.mem_flatMap,List.mem_cons,List.not_mem_nil,or_false,Prod.mk.injEq]
  exact ⟨o,ho,s,hs,k,hk,rfl,rfl,rfl⟩
theorem worstP_none {r:Ru} {p:Pl} {ss:List Sta} (h0 : 0<ss.length):worstP r p ss=none↔ordersP p=[]:=by
 have hb:=worstP_Best (r:=r) (p:=p) (ss:=ss)
 constructor
 ·intro h
  rw [h] at hb
  have hb:triples r p ss=[]:=hb
  cases ho:ordersP p with
  | nil=>rfl
  | cons o l =>
   cases ss with
   | nil=>simp at h0
   | cons s ss =>
    exfalso
    have:(o,s,r.lo) ∈ triples r p (s :: ss):=by
     simp only [triples,List.mem_flatMap,List.mem_cons,List.not_mem_nil,or_false,Prod.mk.injEq,ho]
     exact ⟨o,.inl rfl,s,.inl rfl,r.lo,.inl rfl,rfl,rfl,rfl⟩
    rw [hb] at this
    cases this
 ·intro h
  unfold worstP
  rw [h]
  rfl
theorem worstR_starts {r:Ru} {p:Pl} {ss:List Sta} (h:(planEr r p).2=0):worstR r p ss=if startsE ss=0 then (match worstP r p ss with | none=>(wZ,12) | some w=>(w,0)) else (wZ,startsE ss):=by
 unfold worstR worstE startsE
 rw [show fstE (planEr r p).2 (fstE (if 0<ss.length then 0 else 10) (if ss.length≤40 then 0 else 8))=fstE (if 0<ss.length then 0 else 10) (if ss.length≤40 then 0 else 8) from if_pos h]
 unfold fstE
 by_cases h1 : 0<ss.length
 case neg =>
  rw [if_neg h1,if_neg (show ¬ (10:Int)=0 by decide),if_neg (show ¬ (10:Int)=0 by decide),if_pos (show (10:Int) ≠ 0 by decide),if_neg (show ¬ (10:Int)=0 by decide)]
  rfl
 rw [if_pos h1,if_pos rfl,if_pos rfl]
 by_cases h2:ss.length≤40
 case neg =>
  rw [if_neg h2,if_neg (show ¬ (8:Int)=0 by decide),if_pos (show (8:Int) ≠ 0 by decide),if_neg (show ¬ (8:Int)=0 by decide)]
  rfl
 rw [if_pos h2,if_pos rfl,if_neg (show ¬ (0:Int) ≠ 0 by decide)]
 cases hB:(ss.any fun s => !decide (stateErr s=0)) <;> rfl
end Go.DI


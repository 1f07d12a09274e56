/- Lakes as plain data: steps and runs. -/
import Derived.Test.YtaphhpphfffnfaaGreatDoorTko
namespace Go.DI.Lk
deriving instance DecidableEq for Flow
instance:Inhabited Flow:=⟨⟨0,0,0⟩⟩
structure VPair (p:Pair):Prop where
  u:Valid p.u
  l:Valid p.l
  r:Wi p.rate 0 1000
def stOk (p:Pair) (s:Sta):Prop:=isV p.u s.1∧isV p.l s.2
instance (p:Pair) (s:Sta):Decidable (stOk p s):=inferInstanceAs (Decidable (_∧_))
theorem lakeStep_some {l:List Kn} (h:Valid l) {rate v g a e f:Int} (hv:isV l v) (hr : 0≤rate) (hs:lakeStep l rate v g=some (a,e,f)) :
    isV l a∧a+e+f=v+g∧0≤e∧e≤1000000000∧0≤f∧(f≤g∨f=0):=by
  have h2:=h.two
  have ev:=evap_in h hv hr
  have b:=h.range (i:=0) (by omega)
  have t:=h.range (i:=l.length - 1) (by omega)
  have bt:=h.le (j:=l.length - 1) (by omega) (i:=0) (by omega)
  unfold lakeStep at hs
  dsimp only at hs
  split at hs
  · cases hs
  · rename_i k
    simp only [Option.some.injEq,Prod.mk.injEq] at hs
    obtain ⟨rfl,rfl,rfl⟩:=hs
    unfold isV Wi at *
    unfold top bot at *
    omega
theorem step_some {p:Pair} (h:VPair p) {s t:Sta} {x:Flow} {e f:Int} (hv:stOk p s) (hx:flowOk x) (hs:step p s x=some (t,e,f)) :
    stOk p t∧t.1+t.2+e+f=s.1+s.2+x.up+x.low∧0≤e∧e≤2000000000∧0≤f∧f≤2000000000:=by
  unfold step at hs
  split at hs
  · rename_i a e1 f1 b e2 f2 h1 h2
    simp only [Option.some.injEq,Prod.mk.injEq] at hs
    obtain ⟨rfl,rfl,rfl⟩:=hs
    have q1:=lakeStep_some h.u hv.1 h.r.1 h1
    have q2:=lakeStep_some h.l hv.2 h.r.1 h2
    unfold flowOk Wi at hx
    refine ⟨⟨q1.1,q2.1⟩,?_⟩
    dsimp only
    omega
  · cases hs
def runP (p:Pair) (s:Sta):List Flow→List Sta × (Int × Int) × Bool
  | []=>([],(0,0),true)
  | x :: r=>match step p s x with
    | none=>([],(0,0),false)
    | some (t,e,f)=>(t :: (runP p t r).1,(e+(runP p t r).2.1.1,f+(runP p t r).2.1.2),(runP p t r).2.2)
theorem runP_none {p:Pair} {s:Sta} {x:Flow} {r:List Flow} (h:step p s x=none):runP p s (x :: r)=([],(0,0),false):=by
  simp only [runP,h]
theorem runP_some {p:Pair} {s t:Sta} {x:Flow} {r:List Flow} {e f:Int} (h:step p s x=some (t,e,f)) :
    runP p s (x :: r)=(t :: (runP p t r).1,(e+(runP p t r).2.1.1,f+(runP p t r).2.1.2),(runP p t r).2.2):=by
  simp only [runP,h]
theorem runP_len {p:Pair}:∀ {s:Sta} {l:List Flow},(runP p s l).1.length≤l.length∧((runP p s l).2.2=true→(runP p s l).1.length=l.length)
  | s,[]=>by simp [runP]
  | s,x :: r=>by
    cases h:step p s x with
    | none=>rw [runP_none h]; simp
    | some q =>
      obtain ⟨t,e,f⟩:=q
      rw [runP_some h]
      have := @runP_len p t r
      simp only [List.length_cons]
      exact ⟨by omega,fun k=>by have:=this.2 k; omega⟩
def lastS (s:Sta):List Sta→Sta
  | []=>s
  | t :: r=>lastS t r
theorem runP_spec {p:Pair} (h:VPair p):∀ {s:Sta} {l:List Flow},stOk p s→(∀ x ∈ l,flowOk x) →
    (∀ t ∈ (runP p s l).1,stOk p t)∧0≤(runP p s l).2.1.1∧(runP p s l).2.1.1≤2000000000 * l.length∧0≤(runP p s l).2.1.2∧(runP p s l).2.1.2≤2000000000 * l.length
  | s,[],hs,hl=>by simp [runP]
  | s,x :: r,hs,hl=>by
    cases h':step p s x with
    | none=>rw [runP_none h']; simp; omega
    | some q =>
      obtain ⟨t,e,f⟩:=q
      have a:=step_some h hs (hl x (by simp)) h'
      have b := @runP_spec p h t r a.1 (fun y hy=>hl y (by simp [hy]))
      rw [runP_some h']
      simp only [List.mem_cons,List.length_cons]
      refine ⟨fun z hz => ?_,by omega,by omega,by omega,by omega⟩
      rcases hz with rfl | hz
      · exact a.1
      · exact b.1 z hz
end Go.DI.Lk


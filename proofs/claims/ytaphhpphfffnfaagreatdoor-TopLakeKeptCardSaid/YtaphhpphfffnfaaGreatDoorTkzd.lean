/- Lakes as plain data: a run without evaporation and without spill keeps the water; its levels agree. -/
import Derived.Test.YtaphhpphfffnfaaGreatDoorTkp
namespace Go.DI.Lk
def upEx (l:List Flow):List Int:=l.map fun x=>x.up+x.ex
def upLow (l:List Flow):List Int:=l.map fun x=>x.up+x.low
theorem sumTo_cons {a:Int} {net:List Int}:∀ n:Nat,sumTo (a :: net) (n+1)=a+sumTo net n
  | 0=>by simp [sumTo]
  | n+1=>by
    have ih := @sumTo_cons a net n
    have e:sumTo (a :: net) (n+1+1)=sumTo (a :: net) (n+1)+net.getD n 0:=rfl
    have e2:sumTo net (n+1)=sumTo net n+net.getD n 0:=rfl
    omega
theorem lakeStep_dry {l:List Kn} {v g a e f:Int} (hv:isV l v) (h:lakeStep l 0 v g=some (a,e,f)):e=0∧0≤f∧a+f=v+g:=by
  unfold lakeStep at h
  rw [evap_dry hv] at h
  dsimp only at h
  split at h
  · cases h
  · simp only [Option.some.injEq,Prod.mk.injEq] at h
    obtain ⟨rfl,rfl,rfl⟩:=h
    omega
theorem step_dry {p:Pair} {s t:Sta} {x:Flow} {e f:Int} (hr:p.rate=0) (hv:stOk p s) (hs:step p s x=some (t,e,f)) :
    e=0∧0≤f∧(f=0→t.1=s.1+(x.up+x.ex))∧t.1+t.2+f=s.1+s.2+(x.up+x.low):=by
  unfold step at hs
  rw [hr] at hs
  split at hs
  · rename_i a e1 f1 b e2 f2 h1 h2
    simp only [Option.some.injEq,Prod.mk.injEq] at hs
    obtain ⟨rfl,rfl,rfl⟩:=hs
    have q1:=lakeStep_dry hv.1 h1
    have q2:=lakeStep_dry hv.2 h2
    dsimp only
    omega
  · cases hs
theorem run_dry {p:Pair} (hp:VPair p) (hr:p.rate=0):∀ {l:List Flow} {s:Sta},stOk p s→(∀ x ∈ l,flowOk x)→(runP p s l).2.2=true →
    (runP p s l).2.1.1=0∧0≤(runP p s l).2.1.2∧(lastS s (runP p s l).1).1+(lastS s (runP p s l).1).2+(runP p s l).2.1.2=s.1+s.2+sumTo (upLow l) l.length ∧
    ((runP p s l).2.1.2=0→∀ i,i≤l.length→((s :: (runP p s l).1).getD i default).1=s.1+sumTo (upEx l) i)
  | [],s,_,_,_=>by
    refine ⟨rfl,Int.le_refl _,by simp [runP,lastS,sumTo],fun _ i hi => ?_⟩
    have:i=0:=by simpa using hi
    subst this
    simp [sumTo]
  | x :: r,s,hs,hl,h=>by
    cases h':step p s x with
    | none=>rw [runP_none h'] at h; cases h
    | some q =>
      obtain ⟨t,e,f⟩:=q
      rw [runP_some h'] at h ⊢
      dsimp only at h
      have hx:=hl x (by simp)
      have a:=step_some hp hs hx h'
      have b:=step_dry hr hs h'
      obtain ⟨c1,c2,c3,c4⟩:=run_dry hp hr (l:=r) a.1 (fun y hy=>hl y (by simp [hy])) h
      have e1:sumTo (upLow (x :: r)) (r.length+1)=(x.up+x.low)+sumTo (upLow r) r.length:=sumTo_cons _
      dsimp only [lastS,List.length_cons]
      refine ⟨by omega,by omega,by omega,fun hf i hi => ?_⟩
      cases i with
      | zero=>simp [sumTo]
      | succ i =>
        have d:=c4 (by omega) i (by omega)
        have e2:sumTo (upEx (x :: r)) (i+1)=(x.up+x.ex)+sumTo (upEx r) i:=sumTo_cons _
        have e3:=b.2.2.1 (by omega)
        rw [List.getD_cons_succ,d]
        omega
def gauge (l:List Kn) (A:List Sta) (i:Nat):Rdg:=⟨i,levLo l (A.getD i default).1,levHi l (A.getD i default).1⟩
def gauges (l:List Kn) (A:List Sta) (n:Nat):List Rdg:=(List.range n).map (gauge l A)
theorem gauges_succ {l:List Kn} {A:List Sta} {n:Nat}:gauges l A (n+1)=gauges l A n ++ [gauge l A n]:=by
  unfold gauges
  rw [List.range_succ,List.map_append]
  rfl
theorem gauges_len {l:List Kn} {A:List Sta} {n:Nat}:(gauges l A n).length=n:=by unfold gauges; simp
theorem gauge_ok {l:List Kn} {A:List Sta} {n i:Nat} (h:Valid l) (hi:i≤n) (hv:isV l (A.getD i default).1):rdgErr l n (gauge l A i)=0:=by
  obtain ⟨h1,h2,h3, -⟩:=level_isL h hv
  unfold rdgErr gauge
  dsimp only
  rw [if_neg (by rw [Decidable.not_not]; exact ⟨⟨by omega,by omega⟩,h1,h2⟩),if_neg (by omega)]
theorem gauge_in {l:List Kn} {A:List Sta} {net:List Int} {v:Int} {i:Nat} (h:Valid l) (hv:isV l (A.getD i default).1) (he:(A.getD i default).1=v+sumTo net i) :
    (perm l net (gauge l A i)).1≤v∧v≤(perm l net (gauge l A i)).2:=by
  obtain ⟨h1,h2,h3, -⟩:=level_isL h hv
  refine (perm_iff h (r:=gauge l A i) h1 h2 v).2 ?_
  have e:(gauge l A i).tick.toNat=i:=by simp [gauge]
  rw [e,← he]
  exact ⟨hv,Int.le_refl _,Int.le_refl _⟩
theorem gauges_meet {l:List Kn} {A:List Sta} {net:List Int} {v:Int} {n:Nat} (h:Valid l) (hv:∀ i,i<n+1→isV l (A.getD i default).1) (he:∀ i,i<n+1→(A.getD i default).1=v+sumTo net i) :
    (meets ((gauges l A (n+1)).map (perm l net)) n).1≤v∧v≤(meets ((gauges l A (n+1)).map (perm l net)) n).2:=by
  obtain ⟨-,⟨a,ha,ea⟩,⟨b,hb,eb⟩⟩:=meets_spec ((gauges l A (n+1)).map (perm l net)) n
  have key:∀ i,i<n+1→rn ((gauges l A (n+1)).map (perm l net)) i=perm l net (gauge l A i):=by
    intro i hi
    unfold rn gauges
    rw [List.getD_eq_getElem?_getD,List.getElem?_map,List.getElem?_map,List.getElem?_range hi]
    rfl
  rw [ea,eb,key a (by omega),key b (by omega)]
  exact ⟨(gauge_in h (hv a (by omega)) (he a (by omega))).1,(gauge_in h (hv b (by omega)) (he b (by omega))).2⟩
theorem vol_lt {l:List Kn} {x:Int} (h:Valid l) (h1:isL l x) (h2:isL l (x+1)):volLo l x<volHi l (x+1):=by
  have a:=volume_isV h h1
  have hw:=a.1
  apply Int.lt_of_not_ge
  intro q
  have b:=(reach h h2 hw).2 q
  have c:=(reach' h h1 hw).2 (Int.le_refl _)
  have d:=level_isL h hw
  omega
theorem gauges_contra {l:List Kn} {A:List Sta} {net:List Int} {n:Nat} (h:Valid l) (hv:isV l (A.getD 0 default).1) (hh:isL l (levHi l (A.getD 0 default).1+1)) :
    contra ((gauges l A (n+1) ++ [(⟨0,levHi l (A.getD 0 default).1+1,levHi l (A.getD 0 default).1+1⟩ : Rdg)]).map (perm l net)) ≠ []:=by
  intro hc
  obtain ⟨h1,h2,h3, -⟩:=level_isL h hv
  have hlen:((gauges l A (n+1) ++ [(⟨0,levHi l (A.getD 0 default).1+1,levHi l (A.getD 0 default).1+1⟩ : Rdg)]).map (perm l net)).length=n+2:=by
    rw [List.length_map,List.length_append,gauges_len]; rfl
  rw [helly (by rw [hlen]; omega),hlen] at hc
  obtain ⟨m, -⟩:=meets_spec ((gauges l A (n+1) ++ [(⟨0,levHi l (A.getD 0 default).1+1,levHi l (A.getD 0 default).1+1⟩ : Rdg)]).map (perm l net)) (n+2 - 1)
  have m0:=(m 0 (by omega)).2
  have m1:=(m (n+1) (by omega)).1
  have k0:rn ((gauges l A (n+1) ++ [(⟨0,levHi l (A.getD 0 default).1+1,levHi l (A.getD 0 default).1+1⟩ : Rdg)]).map (perm l net)) 0=perm l net (gauge l A 0):=by
    unfold rn gauges
    rw [List.getD_eq_getElem?_getD,List.getElem?_map,List.getElem?_append_left (by simp),List.getElem?_map,List.getElem?_range (by omega)]
    rfl
  have k1:rn ((gauges l A (n+1) ++ [(⟨0,levHi l (A.getD 0 default).1+1,levHi l (A.getD 0 default).1+1⟩ : Rdg)]).map (perm l net)) (n+1)=perm l net ⟨0,levHi l (A.getD 0 default).1+1,levHi l (A.getD 0 default).1+1⟩:=by
    unfold rn
    rw [List.getD_eq_getElem?_getD,List.getElem?_map,List.getElem?_append_right (by rw [gauges_len]; omega),gauges_len,show n+1 - (n+1)=0 by omega]
    rfl
  rw [k0] at m0
  rw [k1] at m1
  have lt:=vol_lt h h2 hh
  have e0:(perm l net (gauge l A 0)).2=volLo l (levHi l (A.getD 0 default).1) - 0:=rfl
  have e1:(perm l net ⟨0,levHi l (A.getD 0 default).1+1,levHi l (A.getD 0 default).1+1⟩).1=volHi l (levHi l (A.getD 0 default).1+1) - 0:=rfl
  omega
end Go.DI.Lk


/- Contracts: the program's tables of lakes, levels and volumes. No condition. -/
import Derived.Test.YtaphhpphfffnfaaGreatDoorTkq
set_option linter.unusedSimpArgs false
namespace Go.DI
open Go.Proofs Go.RowKit Lk
def indexF {α:Type} (p : α→Bool):List α→Nat→Int
  | [],_ => -1
  | x :: r,i=>if p x then i else indexF p r (i+1)
theorem indexF_cons {α:Type} {p : α→Bool} {x : α} {r:List α} {i:Nat}:indexF p (x :: r) i=if p x then (i:Int) else indexF p r (i+1):=rfl
theorem indexF_idx {p:Kn→Bool} {l:List Kn}:∀ {m j k:Nat},j+m=l.length→idx p l m j<l.length→indexF p (l.drop j) k=(idx p l m j:Int) - j+k
  | 0,j,k,h,hi=>by unfold idx at hi; omega
  | m+1,j,k,h,hi=>by
    rw [List.drop_eq_getElem_cons (by omega)]
    have e:l[j]'(by omega)=kn l j:=by unfold kn; rw [List.getD_eq_getElem?_getD]; simp [show j<l.length by omega]
    rw [e]
    unfold indexF
    unfold idx at hi ⊢
    split
    · rename_i h1; omega
    · rename_i h1
      rw [if_neg h1] at hi
      rw [indexF_idx (m:=m) (j:=j+1) (k:=k+1) (by omega) hi]
      omega
theorem p_IndexFunc {l:List Kn} {p:Kn→Bool} {g:FuncId} {cap:List IV} (hl:l.length≤1000000000000) (hp:∀ k ∈ l,Contract Tryz.prog g (knI k :: cap) (.bool (p k))) :
    Contract Tryz.prog 313 [.slc 2 (l.map knI),.func g [] cap] (.int .i64 (indexF p l 0)):=by
  refine contract_run Tryz.func313 k313 rfl ?_
  simp only [body313,b313,res313,b313k0,b313k1,b313k2, ↓reduceIte,reduceCtorEq,Nat.reduceEqDiff,Nat.reduceAdd,Nat.reduceMul,Nat.reduceSub,Nat.reduceLeDiff,Nat.reduceBEq,Int.reduceToNat,Int.reduceLE,Int.reduceLT,Int.reduceEq,Int.reduceNe,di]
  refine loop_keep (α:=Nat) rfl (fun i=>l.length - i) (fun i=>i≤l.length∧indexF p (l.drop i) i=indexF p l 0)
    (fun i=>[(0,.imm (.slc 2 (l.map knI))),(1,.imm (.func g [] cap)),(7,.imm (.int .i64 l.length)),(8,.imm (.int .i64 i))]) (fun _=>[]) 0 ⟨Nat.zero_le _,rfl⟩ (by simp only [↓reduceIte,reduceCtorEq,Nat.reduceEqDiff,Nat.reduceAdd,Nat.reduceMul,Nat.reduceSub,Nat.reduceLeDiff,Nat.reduceBEq,Int.reduceToNat,Int.reduceLE,Int.reduceLT,Int.reduceEq,Int.reduceNe,di] <;> rfl) ?_
  intro i ⟨hi,he⟩ ih
  simp only [res313,b313k0,b313k1,b313k2, ↓reduceIte,reduceCtorEq,Nat.reduceEqDiff,Nat.reduceAdd,Nat.reduceMul,Nat.reduceSub,Nat.reduceLeDiff,Nat.reduceBEq,Int.reduceToNat,Int.reduceLE,Int.reduceLT,Int.reduceEq,Int.reduceNe,di]
  split
  · rename_i h
    have hx:l.drop i=kn l i :: l.drop (i+1):=by
      rw [List.drop_eq_getElem_cons (by omega)]
      congr 1
      unfold kn; rw [List.getD_eq_getElem?_getD]; simp [show i<l.length by omega]
    have hm:kn l i ∈ l:=List.mem_of_mem_drop (by rw [hx]; simp)
    rw [hx,indexF_cons] at he
    repeat (refine And.intro (by omega) ?_)
    simp only [lkE, ↓reduceIte,reduceCtorEq,Nat.reduceEqDiff,Nat.reduceAdd,Nat.reduceMul,Nat.reduceSub,Nat.reduceLeDiff,Nat.reduceBEq,Int.reduceToNat,Int.reduceLE,Int.reduceLT,Int.reduceEq,Int.reduceNe,di]
    refine calls_of (hp _ hm) ?_; simp only [lkE,res313,b313k0,b313k1,b313k2, ↓reduceIte,reduceCtorEq,Nat.reduceEqDiff,Nat.reduceAdd,Nat.reduceMul,Nat.reduceSub,Nat.reduceLeDiff,Nat.reduceBEq,Int.reduceToNat,Int.reduceLE,Int.reduceLT,Int.reduceEq,Int.reduceNe,di]
    split
    · rename_i h1
      rw [if_pos h1] at he
      rw [he]
    · rename_i h1
      rw [if_neg (by simpa using h1)] at he
      rw [wrap64 (by omega) (by omega)]
      exact ih (i+1) _ _ (by omega) ⟨by omega,he⟩ (by simp only [↓reduceIte,reduceCtorEq,Nat.reduceEqDiff,Nat.reduceAdd,Nat.reduceMul,Nat.reduceSub,Nat.reduceLeDiff,Nat.reduceBEq,Int.reduceToNat,Int.reduceLE,Int.reduceLT,Int.reduceEq,Int.reduceNe,di] <;> rfl)
  · rename_i h
    rw [← he,List.drop_eq_nil_of_le (by omega)]
    rfl
theorem p_pieceTo {l:List Kn} {p:Kn→Bool} {g:FuncId} {cap:List IV} (h2 : 2≤l.length) (hl:l.length≤1000000000000) (hf:idx p l (l.length - 1) 1<l.length) (hp:∀ k ∈ l,Contract Tryz.prog g (knI k :: cap) (.bool (p k))) :
    Contract Tryz.prog 277 [tabI l,.func g [] cap] (pieceI (kn l (idx p l (l.length - 1) 1 - 1)) (kn l (idx p l (l.length - 1) 1))):=by
  have hs:=(idx_spec (p:=p) (l:=l) (m:=l.length - 1) (i:=1)).1
  have hix:=indexF_idx (p:=p) (l:=l) (m:=l.length - 1) (j:=1) (k:=0) (by omega) hf
  generalize idx p l (l.length - 1) 1=i at *
  refine contract_run Tryz.func277 k277 rfl ?_
  simp only [tabI,body277,b277,res277, ↓reduceIte,reduceCtorEq,Nat.reduceEqDiff,Nat.reduceAdd,Nat.reduceMul,Nat.reduceSub,Nat.reduceLeDiff,Nat.reduceBEq,Int.reduceToNat,Int.reduceLE,Int.reduceLT,Int.reduceEq,Int.reduceNe,di]
  repeat (refine And.intro (by omega) ?_)
  have hc:=p_IndexFunc (l:=(l.take l.length).drop 1) (p:=p) (g:=g) (cap:=cap) (by simp; omega) (fun k hk=>hp k (List.mem_of_mem_take (List.mem_of_mem_drop hk)))
  refine calls_of hc ?_; simp only [lkE,res277, ↓reduceIte,reduceCtorEq,Nat.reduceEqDiff,Nat.reduceAdd,Nat.reduceMul,Nat.reduceSub,Nat.reduceLeDiff,Nat.reduceBEq,Int.reduceToNat,Int.reduceLE,Int.reduceLT,Int.reduceEq,Int.reduceNe,di]
  rw [List.take_length,hix]
  have e1:IntKind.wrap .i64 (1+((i:Int) - (1:Nat)+(0:Nat)))=(i:Int):=by rw [wrap64 (by omega) (by omega)]; omega
  have e2:IntKind.wrap .i64 ((i:Int) - 1)=((i - 1:Nat):Int):=by rw [wrap64 (by omega) (by omega)]; omega
  simp only [e1,e2,i_toNat]
  repeat (refine And.intro (by omega) ?_)
  first | rfl | trivial
theorem p_bottom {l:List Kn} (h : 0<l.length):Contract Tryz.prog 209 [tabI l] (knI (bot l)):=by
  refine contract_run Tryz.func209 k209 rfl ?_
  simp only [tabI,body209,b209,res209,lkE, ↓reduceIte,reduceCtorEq,Nat.reduceEqDiff,Nat.reduceAdd,Nat.reduceMul,Nat.reduceSub,Nat.reduceLeDiff,Nat.reduceBEq,Int.reduceToNat,Int.reduceLE,Int.reduceLT,Int.reduceEq,Int.reduceNe,di]
  repeat (refine And.intro (by omega) ?_)
  rfl
theorem p_top {l:List Kn} (h : 0<l.length) (hl:l.length≤1000000000000):Contract Tryz.prog 210 [tabI l] (knI (top l)):=by
  have e:IntKind.wrap .i64 ((l.length:Int) - 1)=((l.length - 1:Nat):Int):=by rw [wrap64 (by omega) (by omega)]; omega
  refine contract_run Tryz.func210 k210 rfl ?_
  simp only [tabI,body210,b210,res210,lkE, ↓reduceIte,reduceCtorEq,Nat.reduceEqDiff,Nat.reduceAdd,Nat.reduceMul,Nat.reduceSub,Nat.reduceLeDiff,Nat.reduceBEq,Int.reduceToNat,Int.reduceLE,Int.reduceLT,Int.reduceEq,Int.reduceNe,di]
  simp only [e,i_toNat]
  repeat (refine And.intro (by omega) ?_)
  rfl
theorem p_volumeAt1 {k:Kn} {x:Int}:Contract Tryz.prog 281 [knI k,.ptr (.agg [.int .i64 x])] (.bool (decide (x≤k.1))):=by
  refine contract_run Tryz.func281 k281 rfl ?_
  simp only [knI,body281,b281,res281,lkE, ↓reduceIte,reduceCtorEq,Nat.reduceEqDiff,Nat.reduceAdd,Nat.reduceMul,Nat.reduceSub,Nat.reduceLeDiff,Nat.reduceBEq,Int.reduceToNat,Int.reduceLE,Int.reduceLT,Int.reduceEq,Int.reduceNe,di]
theorem p_byVolume1 {k:Kn} {x:Int}:Contract Tryz.prog 278 [knI k,.ptr (.agg [.int .i64 x])] (.bool (decide (x≤k.2))):=by
  refine contract_run Tryz.func278 k278 rfl ?_
  simp only [knI,body278,b278,res278,lkE, ↓reduceIte,reduceCtorEq,Nat.reduceEqDiff,Nat.reduceAdd,Nat.reduceMul,Nat.reduceSub,Nat.reduceLeDiff,Nat.reduceBEq,Int.reduceToNat,Int.reduceLE,Int.reduceLT,Int.reduceEq,Int.reduceNe,di]
theorem kb_valid {l:List Kn} (h:Valid l) {i:Nat} (hi:i<l.length):KB (kn l i):=by
  have:=h.range hi
  unfold KB; omega
theorem p_byVolume {l:List Kn} {v:Int} (h:Valid l) (hv:v≤(top l).2):Contract Tryz.prog 219 [tabI l,.int .i64 v] (pieceI (kn l (atV l v - 1)) (kn l (atV l v))):=by
  have hs:=atV_spec h hv
  refine contract_run Tryz.func219 k219 rfl ?_
  simp only [tabI,body219,b219,res219,lkE, ↓reduceIte,reduceCtorEq,Nat.reduceEqDiff,Nat.reduceAdd,Nat.reduceMul,Nat.reduceSub,Nat.reduceLeDiff,Nat.reduceBEq,Int.reduceToNat,Int.reduceLE,Int.reduceLT,Int.reduceEq,Int.reduceNe,di]
  have hc:=p_pieceTo (l:=l) (p:=fun k=>decide (v≤k.2)) (cap:=[.ptr (.agg [.int .i64 v])]) h.two (by have:=h.ten; omega) hs.2.1 (fun k _=>p_byVolume1)
  refine calls_of hc ?_
  simp only [pieceI,res219,lkE, ↓reduceIte,reduceCtorEq,Nat.reduceEqDiff,Nat.reduceAdd,Nat.reduceMul,Nat.reduceSub,Nat.reduceLeDiff,Nat.reduceBEq,Int.reduceToNat,Int.reduceLE,Int.reduceLT,Int.reduceEq,Int.reduceNe,di]
  rfl
theorem p_volumeAt {l:List Kn} {x:Int} (h:Valid l) (hx:isL l x):Contract Tryz.prog 224 [tabI l,.int .i64 x] (.agg [.int .i64 (volLo l x),.int .i64 (volHi l x)]):=by
  have hs:=atL_spec h hx.2
  obtain ⟨i,hi,i1,i2,i3,i4,i5⟩:=at_level h hx
  have hin:=volume_in h hx hi
  have ra:=h.range i2
  have rb:=h.range (i:=i - 1) (by omega)
  have dp:=dh_pos h i1 i2
  have dq:=dv_pos h i1 i2
  have ka:=kb_valid h i2
  have kb:=kb_valid h (i:=i - 1) (by omega)
  have hb:=mul_bd (x:=x - (kn l (i - 1)).1) (y:=dv l i) (by omega) (by omega) (by omega) (by omega)
  have bd:=share (n:=x - (kn l (i - 1)).1) (d:=dh l i) (e:=dv l i) dp.1 (by omega) (by unfold dh; omega) dq.1
  have hc:=p_pieceTo (l:=l) (p:=fun k=>decide (x≤k.1)) (cap:=[.ptr (.agg [.int .i64 x])]) h.two (by have:=h.ten; omega) hs.2.1 (fun k _=>p_volumeAt1)
  have hi':idx (fun k=>decide (x≤k.1)) l (l.length - 1) 1=i:=hi
  rw [hi'] at hc
  refine contract_run Tryz.func224 k224 rfl ?_
  simp only [tabI,body224,b224,res224,lkE, ↓reduceIte,reduceCtorEq,Nat.reduceEqDiff,Nat.reduceAdd,Nat.reduceMul,Nat.reduceSub,Nat.reduceLeDiff,Nat.reduceBEq,Int.reduceToNat,Int.reduceLE,Int.reduceLT,Int.reduceEq,Int.reduceNe,di]
  refine calls_of hc ?_
  simp only [pieceI,res224,lkE, ↓reduceIte,reduceCtorEq,Nat.reduceEqDiff,Nat.reduceAdd,Nat.reduceMul,Nat.reduceSub,Nat.reduceLeDiff,Nat.reduceBEq,Int.reduceToNat,Int.reduceLE,Int.reduceLT,Int.reduceEq,Int.reduceNe,di]
  refine calls_of (p_volume kb ka) ?_; simp only [res224, ↓reduceIte,reduceCtorEq,Nat.reduceEqDiff,Nat.reduceAdd,Nat.reduceMul,Nat.reduceSub,Nat.reduceLeDiff,Nat.reduceBEq,Int.reduceToNat,Int.reduceLE,Int.reduceLT,Int.reduceEq,Int.reduceNe,di]
  have e1:(kn l i).2 - (kn l (i - 1)).2=dv l i:=rfl
  have e2:(kn l i).1 - (kn l (i - 1)).1=dh l i:=rfl
  rw [wrap64 (n:=x - (kn l (i - 1)).1) (by omega) (by omega),e1,wrap64 (n:=(x - (kn l (i - 1)).1) * dv l i) (by omega) (by omega)]
  refine calls_of (p_height kb ka) ?_; simp only [res224, ↓reduceIte,reduceCtorEq,Nat.reduceEqDiff,Nat.reduceAdd,Nat.reduceMul,Nat.reduceSub,Nat.reduceLeDiff,Nat.reduceBEq,Int.reduceToNat,Int.reduceLE,Int.reduceLT,Int.reduceEq,Int.reduceNe,di]
  rw [e2]
  refine calls_of (p_floor dp.1 (by omega) (by omega)) ?_; simp only [res224, ↓reduceIte,reduceCtorEq,Nat.reduceEqDiff,Nat.reduceAdd,Nat.reduceMul,Nat.reduceSub,Nat.reduceLeDiff,Nat.reduceBEq,Int.reduceToNat,Int.reduceLE,Int.reduceLT,Int.reduceEq,Int.reduceNe,di]
  refine calls_of (p_height kb ka) ?_; simp only [res224, ↓reduceIte,reduceCtorEq,Nat.reduceEqDiff,Nat.reduceAdd,Nat.reduceMul,Nat.reduceSub,Nat.reduceLeDiff,Nat.reduceBEq,Int.reduceToNat,Int.reduceLE,Int.reduceLT,Int.reduceEq,Int.reduceNe,di]
  rw [e2]
  refine calls_of (p_ceil dp.1 (by omega) (by omega)) ?_; simp only [res224, ↓reduceIte,reduceCtorEq,Nat.reduceEqDiff,Nat.reduceAdd,Nat.reduceMul,Nat.reduceSub,Nat.reduceLeDiff,Nat.reduceBEq,Int.reduceToNat,Int.reduceLE,Int.reduceLT,Int.reduceEq,Int.reduceNe,di]
  unfold volLo volHi
  rw [hi,wrap64 (by omega) (by omega),wrap64 (by omega) (by omega)]
def levNum (l:List Kn) (v:Int):Int:=((v - (kn l (atV l v - 1)).2) * dh l (atV l v)) % dv l (atV l v)
def levDen (l:List Kn) (v:Int):Int:=dv l (atV l v)
theorem p_levelAt {l:List Kn} {v:Int} (h:Valid l) (hv:isV l v):Contract Tryz.prog 128 [tabI l,.int .i64 v] (.agg [.int .i64 (levLo l v),.int .i64 (levNum l v),.int .i64 (levDen l v)]):=by
  obtain ⟨i,hi,i1,i2,i3,i4,i5⟩:=at_volume h hv
  have hin:=level_in h hv hi
  have ra:=h.range i2
  have rb:=h.range (i:=i - 1) (by omega)
  have dp:=dh_pos h i1 i2
  have dq:=dv_pos h i1 i2
  have ka:=kb_valid h i2
  have kb:=kb_valid h (i:=i - 1) (by omega)
  have hb:=mul_bd (x:=v - (kn l (i - 1)).2) (y:=dh l i) (by omega) (by omega) (by omega) (by omega)
  have bd:=share (n:=v - (kn l (i - 1)).2) (d:=dv l i) (e:=dh l i) dq.1 (by omega) (by unfold dv; omega) dp.1
  have hc:=p_byVolume h hv.2
  rw [hi] at hc
  refine contract_run Tryz.func128 k128 rfl ?_
  simp only [tabI,body128,b128,res128,lkE, ↓reduceIte,reduceCtorEq,Nat.reduceEqDiff,Nat.reduceAdd,Nat.reduceMul,Nat.reduceSub,Nat.reduceLeDiff,Nat.reduceBEq,Int.reduceToNat,Int.reduceLE,Int.reduceLT,Int.reduceEq,Int.reduceNe,di]
  refine calls_of hc ?_
  simp only [pieceI,res128,lkE, ↓reduceIte,reduceCtorEq,Nat.reduceEqDiff,Nat.reduceAdd,Nat.reduceMul,Nat.reduceSub,Nat.reduceLeDiff,Nat.reduceBEq,Int.reduceToNat,Int.reduceLE,Int.reduceLT,Int.reduceEq,Int.reduceNe,di]
  refine calls_of (p_height kb ka) ?_; simp only [res128, ↓reduceIte,reduceCtorEq,Nat.reduceEqDiff,Nat.reduceAdd,Nat.reduceMul,Nat.reduceSub,Nat.reduceLeDiff,Nat.reduceBEq,Int.reduceToNat,Int.reduceLE,Int.reduceLT,Int.reduceEq,Int.reduceNe,di]
  have e1:(kn l i).2 - (kn l (i - 1)).2=dv l i:=rfl
  have e2:(kn l i).1 - (kn l (i - 1)).1=dh l i:=rfl
  rw [wrap64 (n:=v - (kn l (i - 1)).2) (by omega) (by omega),e2,wrap64 (n:=(v - (kn l (i - 1)).2) * dh l i) (by omega) (by omega)]
  refine calls_of (p_volume kb ka) ?_; simp only [res128, ↓reduceIte,reduceCtorEq,Nat.reduceEqDiff,Nat.reduceAdd,Nat.reduceMul,Nat.reduceSub,Nat.reduceLeDiff,Nat.reduceBEq,Int.reduceToNat,Int.reduceLE,Int.reduceLT,Int.reduceEq,Int.reduceNe,di]
  rw [e1,Int.tdiv_eq_ediv_of_nonneg bd.1]
  refine ⟨by omega,?_⟩
  refine calls_of (p_volume kb ka) ?_; simp only [res128, ↓reduceIte,reduceCtorEq,Nat.reduceEqDiff,Nat.reduceAdd,Nat.reduceMul,Nat.reduceSub,Nat.reduceLeDiff,Nat.reduceBEq,Int.reduceToNat,Int.reduceLE,Int.reduceLT,Int.reduceEq,Int.reduceNe,di]
  rw [e1,Int.tmod_eq_emod_of_nonneg bd.1]
  refine ⟨by omega,?_⟩
  refine calls_of (p_volume kb ka) ?_; simp only [res128, ↓reduceIte,reduceCtorEq,Nat.reduceEqDiff,Nat.reduceAdd,Nat.reduceMul,Nat.reduceSub,Nat.reduceLeDiff,Nat.reduceBEq,Int.reduceToNat,Int.reduceLE,Int.reduceLT,Int.reduceEq,Int.reduceNe,di]
  unfold levLo levNum levDen
  rw [hi,e1,wrap64 (n:=(v - (kn l (i - 1)).2) * dh l i / dv l i) (by omega) (by omega),wrap64 (by omega) (by omega)]
end Go.DI


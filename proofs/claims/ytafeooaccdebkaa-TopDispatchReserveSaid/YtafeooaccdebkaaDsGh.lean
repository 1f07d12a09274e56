/- Contracts of potentials and of the best plan. No condition. -/
import Derived.Test.YtafeooaccdebkaaDsGg
/- Contract: the potentials of a task. No condition. -/
set_option linter.unusedSimpArgs false
namespace Go.DI
open Go.Proofs Go.RowKit
def valW (w:Wk) (x:Hld) (t c:Nat):Int:=potV w x (w.hs.length - t) (w.lo+(c / w.ms.length:Nat)) (c % w.ms.length)
def rowW (w:Wk) (x:Hld) (t:Nat):List Int:=(List.range (sizeW w)).map (valW w x t)
def partW (w:Wk) (x:Hld) (t k:Nat):List Int:=(List.range (sizeW w)).map fun c=>if c<k then valW w x t c else -100000000000
def potsI (w:Wk) (x:Hld):IV:=.slc 1 ((List.range (w.hs.length+1)).map fun t=>.slc 1 ((rowW w x t).map (.int .i64)))
def rowD (w:Wk) (x:Hld) (t:Nat):DV:=.imm (.slc 1 ((rowW w x t).map (.int .i64)))
def cellsO (w:Wk) (x:Hld) (q:Nat):List DV:=List.replicate q (.imm (.slc 1 [])) ++ (List.range' q (w.hs.length+1 - q)).map (rowD w x)
def cellsM (w:Wk) (x:Hld) (t:Nat):List DV:=List.replicate t (.imm (.slc 1 [])) ++ (.vec 1000 0 (sizeW w) :: (List.range' (t+1) (w.hs.length - t)).map (rowD w x))
def hdC (x:Hld):List DV:=[.imm (.int .i64 x.mode),.imm (.int .i64 x.hours)]
theorem viewVec_box {id off n:Nat} {cs:List DV}:viewVec id off n (some (.box cs)) = .vec id off n:=rfl
def isImm (d:DV):Prop:=∃ v,d = .imm v
theorem keep_all {ids:List Nat}:∀ {l:List DV},(∀ d ∈ l,isImm d)→l.map (DV.keep ids)=l
 | [],_=>rfl
 | d :: r,h=>by
  obtain ⟨v,rfl⟩:=h d (List.mem_cons_self ..)
  rw [List.map_cons,keep_all fun e he=>h e (List.mem_cons_of_mem _ he)]
  rfl
theorem seal_all {ids:List Nat} {R:Nat→Option Res}:∀ {l:List DV},(∀ d ∈ l,isImm d)→DV.sealAll ids R l=l
 | [],_=>rfl
 | d :: r,h=>by
  obtain ⟨v,rfl⟩:=h d (List.mem_cons_self ..)
  rw [sealAll_cons,seal_all fun e he=>h e (List.mem_cons_of_mem _ he)]
  rfl
theorem seal_app {ids:List Nat} {R:Nat→Option Res}:∀ {l m:List DV},DV.sealAll ids R (l ++ m)=DV.sealAll ids R l ++ DV.sealAll ids R m
 | [],m=>rfl
 | d :: r,m=>by rw [List.cons_append,sealAll_cons,seal_app,sealAll_cons,List.cons_append]
theorem nils_imm {k:Nat}:∀ d ∈ List.replicate k (DV.imm (.slc 1 [])),isImm d:=fun _ hd=>⟨_,List.eq_of_mem_replicate hd⟩
theorem keepN {k:Nat} {ids:List Nat}:(List.replicate k (DV.imm (.slc 1 []))).map (DV.keep ids)=List.replicate k (.imm (.slc 1 [])):=keep_all nils_imm
theorem rows_imm {w:Wk} {x:Hld} {l:List Nat}:∀ d ∈ l.map (rowD w x),isImm d:=fun d hd=>by
 obtain ⟨t,_,rfl⟩:=List.mem_map.1 hd
 exact ⟨_,rfl⟩
theorem cellsO_imm {w:Wk} {x:Hld} {q:Nat}:∀ d ∈ cellsO w x q,isImm d:=fun d hd=>by
 rcases List.mem_append.1 hd with h | h
 ·exact nils_imm d h
 ·exact rows_imm d h
theorem keepO {w:Wk} {x:Hld} {q:Nat} {ids:List Nat}:(cellsO w x q).map (DV.keep ids)=cellsO w x q:=keep_all cellsO_imm
theorem keepM {w:Wk} {x:Hld} {t:Nat} {ids:List Nat} (h:ids.contains 1000=true):(cellsM w x t).map (DV.keep ids)=cellsM w x t:=by
 unfold cellsM
 rw [List.map_append,List.map_cons,keep_all nils_imm,keep_all rows_imm]
 show _ ++ (if ids.contains 1000=true then DV.vec 1000 0 (sizeW w) else .undef) :: _=_
 rw [if_pos h]
theorem rowW_len {w:Wk} {x:Hld} {t:Nat}:(rowW w x t).length=sizeW w:=by unfold rowW; rw [List.length_map,List.length_range]
theorem sealM {w:Wk} {x:Hld} {t:Nat} (ht:t≤w.hs.length) {R:Nat→Option Res} (h:R 1000=some (.fza ((rowW w x t).map (.int .i64)))):DV.sealAll [1000] R (cellsM w x t)=cellsO w x t:=by
 unfold cellsM cellsO
 rw [seal_app,seal_all nils_imm,sealAll_cons,seal_all rows_imm,seal_vec,h,sealVec_fza,if_pos (by rfl),List.length_map,rowW_len,if_pos (by omega),show w.hs.length+1 - t=w.hs.length - t+1 by omega,List.range'_succ,List.map_cons,List.drop_zero,List.take_of_length_le (by rw [List.length_map,rowW_len]; exact Nat.le_refl _)]
 rfl
theorem cellsO_len {w:Wk} {x:Hld} {q:Nat} (hq:q≤w.hs.length+1):(cellsO w x q).length=w.hs.length+1:=by
 unfold cellsO
 rw [List.length_append,List.length_replicate,List.length_map,List.length_range']
 omega
theorem cellsM_at {w:Wk} {x:Hld} {t:Nat}:(cellsM w x t)[t]? = some (.vec 1000 0 (sizeW w)):=by
 unfold cellsM
 rw [List.getElem?_append_right (by rw [List.length_replicate]; exact Nat.le_refl _),List.length_replicate,Nat.sub_self]
 rfl
theorem cellsM_at0 {w:Wk} {x:Hld} {t:Nat}:(cellsM w x t)[0+t]? = some (.vec 1000 0 (sizeW w)):=by
 rw [Nat.zero_add]
 exact cellsM_at
theorem cell_lo {w:Wk} {j b:Nat}:cellW w (w.lo+j) b=j * w.ms.length+b:=by
 unfold cellW
 rw [show (w.lo+(j:Int) - w.lo).toNat=j by omega]
theorem cellsM_next {w:Wk} {x:Hld} {t:Nat} (ht:t<w.hs.length):(cellsM w x t)[t+1]? = some (rowD w x (t+1)):=by
 unfold cellsM
 rw [List.getElem?_append_right (by rw [List.length_replicate]; omega),List.length_replicate,show t+1 - t=0+1 by omega,List.getElem?_cons_succ,List.getElem?_map,List.getElem?_range' (by omega)]
 rfl
theorem cellsM_set {w:Wk} {x:Hld} {t:Nat} (ht:t≤w.hs.length):setCells (cellsO w x (t+1)) t [.vec 1000 0 (sizeW w)]=cellsM w x t:=by
 unfold setCells cellsO cellsM
 have e1:List.take t (List.replicate (t+1) (DV.imm (.slc 1 [])) ++ (List.range' (t+1) (w.hs.length+1 - (t+1))).map (rowD w x))=List.replicate t (.imm (.slc 1 [])):=by
  rw [List.take_append_of_le_length (by rw [List.length_replicate]; omega),List.take_replicate,Nat.min_eq_left (by omega)]
 have e2:List.drop (t+[DV.vec 1000 0 (sizeW w)].length) (List.replicate (t+1) (DV.imm (.slc 1 [])) ++ (List.range' (t+1) (w.hs.length+1 - (t+1))).map (rowD w x))=(List.range' (t+1) (w.hs.length - t)).map (rowD w x):=by
  rw [List.drop_append_of_le_length (by rw [List.length_replicate]; exact Nat.le_refl _),List.drop_of_length_le (by rw [List.length_replicate]; exact Nat.le_refl _),List.nil_append,show w.hs.length+1 - (t+1)=w.hs.length - t by omega]
 rw [e1,e2]
 rfl
theorem allImm_map {α:Type} (f : α→IV):∀ l:List α,allImm (l.map fun a=>DV.imm (f a))=some (l.map f)
 | []=>rfl
 | a :: r=>by
  show (match allImm (r.map fun a=>DV.imm (f a)) with | some vs=>some (f a :: vs) | none=>none)=_
  rw [allImm_map f r]
  rfl
theorem cellsM_tak {w:Wk} {x:Hld} {t:Nat} (ht:t≤w.hs.length):tak t (cellsO w x (t+1)) ++ DV.vec 1000 0 (sizeW w) :: drp (t+1) (cellsO w x (t+1))=cellsM w x t:=by
 have:=cellsM_set (x:=x) ht
 rw [setCells_] at this
 exact this
theorem part_len {w:Wk} {x:Hld} {t k:Nat}:(partW w x t k).length=sizeW w:=by unfold partW; rw [List.length_map,List.length_range]
theorem part_at {w:Wk} {x:Hld} {t k c:Nat} (hc:c<sizeW w):(partW w x t k)[c]? = some (if c<k then valW w x t c else -100000000000):=by
 unfold partW
 rw [List.getElem?_map,List.getElem?_range hc]
 rfl
theorem part_zero {w:Wk} {x:Hld} {t:Nat}:partW w x t 0=List.replicate (sizeW w) (-100000000000):=by
 refine List.eq_replicate_iff.2 ⟨part_len,fun v hv => ?_⟩
 unfold partW at hv
 obtain ⟨c,_,rfl⟩:=List.mem_map.1 hv
 exact if_neg (Nat.not_lt_zero c)
theorem part_end {w:Wk} {x:Hld} {t:Nat}:partW w x t (sizeW w)=rowW w x t:=by
 unfold partW rowW
 exact List.map_congr_left fun c hc=>if_pos (List.mem_range.1 hc)
theorem part_step {w:Wk} {x:Hld} {t k:Nat} (hk:k<sizeW w):(partW w x t k).set k (valW w x t k)=partW w x t (k+1):=by
 refine List.ext_getElem? fun c => ?_
 rw [List.getElem?_set,part_len]
 by_cases hc:c<sizeW w
 ·rw [part_at hc,part_at hc]
  by_cases e:k=c
  ·subst e
   rw [if_pos rfl,if_pos hk,if_pos (by omega)]
  ·rw [if_neg e]
   by_cases e2:c<k
   ·rw [if_pos e2,if_pos (by omega)]
   ·rw [if_neg e2,if_neg (by omega)]
 ·rw [List.getElem?_eq_none (by rw [part_len]; omega),List.getElem?_eq_none (by rw [part_len]; omega)]
  by_cases e:k=c
  ·rw [if_pos e,if_neg (by omega)]
  ·rw [if_neg e]
theorem part_never {w:Wk} {x:Hld} {t k:Nat} (hk:k<sizeW w) (h:valW w x t k = -100000000000):partW w x t (k+1)=partW w x t k:=by
 rw [← part_step hk,h]
 refine List.ext_getElem? fun c => ?_
 rw [List.getElem?_set,part_len]
 by_cases e:k=c
 ·subst e
  rw [if_pos rfl,if_pos hk,part_at hk,if_neg (Nat.lt_irrefl _)]
 ·rw [if_neg e]
theorem part_same {w:Wk} {x:Hld} {t k:Nat} (hk:k<sizeW w):(partW w x t k).set k (-100000000000)=partW w x t k:=by
 refine List.ext_getElem? fun c => ?_
 rw [List.getElem?_set,part_len]
 by_cases e:k=c
 ·subst e
  rw [if_pos rfl,if_pos hk,part_at hk,if_neg (Nat.lt_irrefl _)]
 ·rw [if_neg e]
theorem val_at {w:Wk} {x:Hld} {t j b:Nat} (hb:b<w.ms.length):valW w x t (j * w.ms.length+b)=potV w x (w.hs.length - t) (w.lo+j) b:=by
 unfold valW
 rw [Nat.mul_comm,Nat.mul_add_div (by omega),Nat.mul_add_mod,Nat.div_eq_of_lt hb,Nat.mod_eq_of_lt hb,Nat.add_zero]
theorem row_at {w:Wk} {x:Hld} {t:Nat} {v:Int} (hv:isVol w v) {m:Nat} (hm:m<w.ms.length):(rowW w x t).getD (cellW w v m) default=potV w x (w.hs.length - t) v m:=by
 have h:=cell_lt hv hm
 have e:w.lo+((v - w.lo).toNat:Int)=v:=by have:=hv.1; omega
 unfold rowW
 rw [List.getD_eq_getElem?_getD,List.getElem?_map,List.getElem?_range h]
 show valW w x t (cellW w v m)=_
 unfold cellW
 rw [val_at hm,e]
def bestF (w:Wk) (x:Hld) (k h b:Nat) (a:Int) (y:Nat × Int):Int:=max a (revW w h b y.1+potV w x k y.2 y.1)
theorem best_all {w:Wk} {x:Hld} {k:Nat} {v:Int} {b h:Nat} (hh:h=w.hs.length - (k+1)) (hx:holdsW w x (k+1) v):(stL w v h 0 w.ms.length).foldl (bestF w x k h b) (-100000000000)=potV w x (k+1) v b:=by
 subst hh
 rw [potV_succ,if_pos hx]
 unfold stL
 rw [List.foldl_filterMap,List.range_eq_range']
 congr 1
 funext a m
 unfold mxF optV stF
 by_cases hv:isVol w (aft w v (w.hs.length - (k+1)) m)
 ·rw [if_pos hv,if_pos hv]
  rfl
 ·rw [if_neg hv,if_neg hv]
theorem w_potentials {w:Wk} (ok:WkOk w) {x:Hld} (hx:x.mode<0∨(0≤x.mode∧x.mode<w.ms.length)):Contract Try.prog 38 [wkI w,hdI x] (potsI w x):=by
 have h10:=ok.h10; have m0:=ok.m0; have m5:=ok.m5
 have hb:=size_bd ok
 have hlo:=ok.lo; have hlh:=ok.lh; have hhi:=ok.hi
 have hc:=w_cell ok (v:=w.hi) ⟨by omega,by omega⟩ (m:=w.ms.length - 1) (by omega)
 rw [show ((w.ms.length - 1:Nat):Int)=(w.ms.length:Int) - 1 by omega] at hc
 have hs:cellW w w.hi (w.ms.length - 1)+1=sizeW w:=by
  unfold cellW sizeW
  rw [show (w.hi - w.lo+1).toNat=(w.hi - w.lo).toNat+1 by omega,Nat.add_mul]
  omega
 simp only [wkI] at hc
 refine contract_run Try.func38 k38 rfl ?_
 simp only [body38,b38,res38,b38k0,b38k1,b38k2,b38k3,b38k4,b38k5,b38k6,b38k7,b38k8,b38k9,mdI,hrI,plI,tkI,wkI,hdI,snI, ↓reduceIte,reduceCtorEq,Nat.reduceEqDiff,Nat.reduceAdd,Nat.reduceMul,Nat.reduceSub,Nat.reduceLeDiff,Nat.reduceBEq,Int.reduceToNat,Int.reduceLE,Int.reduceLT,Int.reduceEq,Int.reduceNe,di]
 rw [wrap64 (n:=(w.ms.length:Int) - 1) (by omega) (by omega)]
 refine calls_of hc ?_; simp only [mdI,hrI,plI,tkI,wkI,hdI,snI,res38,b38k0,b38k1,b38k2,b38k3,b38k4,b38k5,b38k6,b38k7,b38k8,b38k9, ↓reduceIte,reduceCtorEq,Nat.reduceEqDiff,Nat.reduceAdd,Nat.reduceMul,Nat.reduceSub,Nat.reduceLeDiff,Nat.reduceBEq,Int.reduceToNat,Int.reduceLE,Int.reduceLT,Int.reduceEq,Int.reduceNe,di]
 rw [wrap64 (n:=(w.hs.length:Int)+1) (by omega) (by omega),show ((w.hs.length:Int)+1).toNat=w.hs.length+1 by omega,wrap64 (n:=(cellW w w.hi (w.ms.length - 1):Int)+1) (by omega) (by omega),show (cellW w w.hi (w.ms.length - 1):Int)+1=(sizeW w:Nat) by omega]
 refine ⟨by omega,by omega,by omega,?_⟩
 refine loop_keep (α:=Nat) rfl (fun q=>q) (fun q=>q≤w.hs.length+1)
  (fun q=>[(2,.ref 2 0),(3,.ref 3 0),(5,.imm (.int .i64 w.hs.length)),(6,.imm (.int .i64 (sizeW w:Nat))),(7,.ref 7 0),(8,.ref 8 0)])
  (fun q=>[(2,.box (wkC w)),(3,.box (hdC x)),(7,.box [.vec 31 0 (w.hs.length+1)]),(8,.box [.imm (.int .i64 ((q:Int) - 1))]),(31,.box (cellsO w x q))]) (w.hs.length+1) (Nat.le_refl _) ?_ ?_
 ·have e:List.replicate (w.hs.length+1) (DV.imm (.slc 1 []))=cellsO w x (w.hs.length+1):=by
   unfold cellsO
   rw [Nat.sub_self]
   exact (List.append_nil _).symm
  simp only [wkC,hdC,keepN,e,keepO,show ((w.hs.length+1:Nat):Int) - 1=w.hs.length by omega,mdI,hrI,plI,tkI,wkI,hdI,snI, ↓reduceIte,reduceCtorEq,Nat.reduceEqDiff,Nat.reduceAdd,Nat.reduceMul,Nat.reduceSub,Nat.reduceLeDiff,Nat.reduceBEq,Int.reduceToNat,Int.reduceLE,Int.reduceLT,Int.reduceEq,Int.reduceNe,di] <;> rfl
 intro q hq ih
 simp only [wkC,hdC,keepO,res38,b38k0,b38k1,b38k2,b38k3,b38k4,b38k5,b38k6,b38k7,b38k8,b38k9,mdI,hrI,plI,tkI,wkI,hdI,snI, ↓reduceIte,reduceCtorEq,Nat.reduceEqDiff,Nat.reduceAdd,Nat.reduceMul,Nat.reduceSub,Nat.reduceLeDiff,Nat.reduceBEq,Int.reduceToNat,Int.reduceLE,Int.reduceLT,Int.reduceEq,Int.reduceNe,di]
 by_cases hq0:q=0
 ·subst hq0
  have e0:allImm (cellsO w x 0)=some ((List.range' 0 (w.hs.length+1)).map fun t=>.slc 1 ((rowW w x t).map (.int .i64))):=allImm_map _ _
  have e1:((List.range' 0 (w.hs.length+1)).map fun t=>IV.slc 1 ((rowW w x t).map (.int .i64))).all (fun v => !v.isAgg && !v.isTup)=true:=by
   rw [List.all_map]
   exact List.all_eq_true.2 fun t _=>rfl
  rw [if_neg (by omega)]
  simp only [e0,viewVec_box,keepO,res38,b38k0,b38k1,b38k2,b38k3,b38k4,b38k5,b38k6,b38k7,b38k8,b38k9,mdI,hrI,plI,tkI,wkI,hdI,snI, ↓reduceIte,reduceCtorEq,Nat.reduceEqDiff,Nat.reduceAdd,Nat.reduceMul,Nat.reduceSub,Nat.reduceLeDiff,Nat.reduceBEq,Int.reduceToNat,Int.reduceLE,Int.reduceLT,Int.reduceEq,Int.reduceNe,di]
  rw [if_pos e1,viewVec_fza,if_pos (by rw [List.length_map,List.length_range']; omega),List.drop_zero,List.take_of_length_le (by rw [List.length_map,List.length_range']; exact Nat.le_refl _),← List.range_eq_range']
  rfl
 obtain ⟨t,rfl⟩ : ∃ t,q=t+1:=⟨q - 1,by omega⟩
 have ht:t≤w.hs.length:=by omega
 rw [if_pos (by omega),show ((t+1:Nat):Int) - 1=t by omega]
 refine do_lend rfl (by rw [restr_nil]; exact b_Repeat (x := -100000000000) (n:=sizeW w) (by omega) hb) rfl rfl ?_
 rintro r R' ⟨rfl,rfl⟩
 refine ⟨_,rfl,rfl,?_⟩
 simp only [viewVec_box,res38,b38k0,b38k1,b38k2,b38k3,b38k4,b38k5,b38k6,b38k7,b38k8,b38k9,mdI,hrI,plI,tkI,wkI,hdI,snI, ↓reduceIte,reduceCtorEq,Nat.reduceEqDiff,Nat.reduceAdd,Nat.reduceMul,Nat.reduceSub,Nat.reduceLeDiff,Nat.reduceBEq,Int.reduceToNat,Int.reduceLE,Int.reduceLT,Int.reduceEq,Int.reduceNe,di]
 refine ⟨by omega,by rw [cellsO_len hq]; omega,?_⟩
 rw [show 0+t=t by omega,cellsM_tak ht,← part_zero (x:=x) (t:=t)]
 refine loop_keep (α:=Nat) rfl (fun j=>(w.hi - w.lo+1).toNat - j) (fun j=>j≤(w.hi - w.lo+1).toNat)
  (fun j=>[(2,.ref 2 0),(3,.ref 3 0),(5,.imm (.int .i64 w.hs.length)),(6,.imm (.int .i64 (sizeW w:Nat))),(7,.ref 7 0),(8,.ref 8 0),(9,.imm (.int .i64 (w.lo+j)))])
  (fun j=>[(2,.box (wkC w)),(3,.box (hdC x)),(7,.box [.vec 31 0 (w.hs.length+1)]),(8,.box [.imm (.int .i64 (t:Nat))]),(31,.box (cellsM w x t)),(1000,.arr ((partW w x t (j * w.ms.length)).map (.int .i64)))]) 0 (Nat.zero_le _) ?_ ?_
 ·simp only [wkC,hdC,keepM,Nat.zero_mul,Int.add_zero,show ((0:Nat):Int)=0 from rfl,mdI,hrI,plI,tkI,wkI,hdI,snI, ↓reduceIte,reduceCtorEq,Nat.reduceEqDiff,Nat.reduceAdd,Nat.reduceMul,Nat.reduceSub,Nat.reduceLeDiff,Nat.reduceBEq,Int.reduceToNat,Int.reduceLE,Int.reduceLT,Int.reduceEq,Int.reduceNe,di] <;> rfl
 intro j hj ihj
 simp only [wkC,hdC,keepM,viewVec_box,res38,b38k0,b38k1,b38k2,b38k3,b38k4,b38k5,b38k6,b38k7,b38k8,b38k9,mdI,hrI,plI,tkI,wkI,hdI,snI, ↓reduceIte,reduceCtorEq,Nat.reduceEqDiff,Nat.reduceAdd,Nat.reduceMul,Nat.reduceSub,Nat.reduceLeDiff,Nat.reduceBEq,Int.reduceToNat,Int.reduceLE,Int.reduceLT,Int.reduceEq,Int.reduceNe,di]
 by_cases hjl:j<(w.hi - w.lo+1).toNat
 case neg =>
  have hje:j * w.ms.length=sizeW w:=by
   unfold sizeW
   rw [show j=(w.hi - w.lo+1).toNat by omega]
  rw [if_neg (by omega),hje,part_end]
  have hseal:∀ R:Nat→Option Res,R 1000=some (.fza ((rowW w x t).map (.int .i64)))→DV.sealAll [1000] R (cellsM w x t)=cellsO w x t:=fun R h=>sealM ht h
  simp only [hseal,keepO,viewVec_box,res38,b38k0,b38k1,b38k2,b38k3,b38k4,b38k5,b38k6,b38k7,b38k8,b38k9,mdI,hrI,plI,tkI,wkI,hdI,snI, ↓reduceIte,reduceCtorEq,Nat.reduceEqDiff,Nat.reduceAdd,Nat.reduceMul,Nat.reduceSub,Nat.reduceLeDiff,Nat.reduceBEq,Int.reduceToNat,Int.reduceLE,Int.reduceLT,Int.reduceEq,Int.reduceNe,di]
  rw [wrap64 (n:=(t:Int) - 1) (by omega) (by omega)]
  refine ih t _ _ (by omega) (by omega) ?_
  simp only [wkC,hdC,keepO,mdI,hrI,plI,tkI,wkI,hdI,snI, ↓reduceIte,reduceCtorEq,Nat.reduceEqDiff,Nat.reduceAdd,Nat.reduceMul,Nat.reduceSub,Nat.reduceLeDiff,Nat.reduceBEq,Int.reduceToNat,Int.reduceLE,Int.reduceLT,Int.reduceEq,Int.reduceNe,di] <;> rfl
 rw [if_pos (by omega)]
 have hsz:(j+1) * w.ms.length≤sizeW w:=Nat.mul_le_mul_right _ (by omega)
 rw [Nat.add_mul,Nat.one_mul] at hsz
 refine loop_keep (α:=Nat) rfl (fun b=>w.ms.length - b) (fun b=>b≤w.ms.length)
  (fun b=>[(2,.ref 2 0),(3,.ref 3 0),(5,.imm (.int .i64 w.hs.length)),(6,.imm (.int .i64 (sizeW w:Nat))),(7,.ref 7 0),(8,.ref 8 0),(9,.imm (.int .i64 (w.lo+j))),(56,.imm (.int .i64 w.ms.length)),(57,.imm (.int .i64 b))])
  (fun b=>[(2,.box (wkC w)),(3,.box (hdC x)),(7,.box [.vec 31 0 (w.hs.length+1)]),(8,.box [.imm (.int .i64 (t:Nat))]),(31,.box (cellsM w x t)),(1000,.arr ((partW w x t (j * w.ms.length+b)).map (.int .i64)))]) 0 (Nat.zero_le _) ?_ ?_
 ·simp only [wkC,hdC,keepM,Nat.add_zero,show ((0:Nat):Int)=0 from rfl,mdI,hrI,plI,tkI,wkI,hdI,snI, ↓reduceIte,reduceCtorEq,Nat.reduceEqDiff,Nat.reduceAdd,Nat.reduceMul,Nat.reduceSub,Nat.reduceLeDiff,Nat.reduceBEq,Int.reduceToNat,Int.reduceLE,Int.reduceLT,Int.reduceEq,Int.reduceNe,di] <;> rfl
 intro b hbl ihb
 have hjv:isVol w (w.lo+j):=⟨by omega,by omega⟩
 simp only [wkC,hdC,keepM,viewVec_box,cellsM_at0,res38,b38k0,b38k1,b38k2,b38k3,b38k4,b38k5,b38k6,b38k7,b38k8,b38k9,mdI,hrI,plI,tkI,wkI,hdI,snI, ↓reduceIte,reduceCtorEq,Nat.reduceEqDiff,Nat.reduceAdd,Nat.reduceMul,Nat.reduceSub,Nat.reduceLeDiff,Nat.reduceBEq,Int.reduceToNat,Int.reduceLE,Int.reduceLT,Int.reduceEq,Int.reduceNe,di]
 by_cases hbm:b<w.ms.length
 case neg =>
  rw [if_neg (by omega),wrap64 (n:=w.lo+(j:Int)+1) (by omega) (by omega),show w.lo+(j:Int)+1=w.lo+((j+1:Nat):Int) by omega]
  refine ihj (j+1) _ _ (by omega) (by omega) ?_
  rw [show b=w.ms.length by omega,show j * w.ms.length+w.ms.length=(j+1) * w.ms.length by rw [Nat.add_mul,Nat.one_mul]]
  simp only [wkC,hdC,keepM,mdI,hrI,plI,tkI,wkI,hdI,snI, ↓reduceIte,reduceCtorEq,Nat.reduceEqDiff,Nat.reduceAdd,Nat.reduceMul,Nat.reduceSub,Nat.reduceLeDiff,Nat.reduceBEq,Int.reduceToNat,Int.reduceLE,Int.reduceLT,Int.reduceEq,Int.reduceNe,di] <;> rfl
 rw [if_pos (by omega)]
 have hcell:=w_cell ok hjv hbm
 rw [cell_lo] at hcell
 simp only [wkI] at hcell
 have hk:j * w.ms.length+b<sizeW w:=by omega
 refine ⟨by omega,?_⟩
 refine calls_of hcell ?_; simp only [mdI,hrI,plI,tkI,wkI,hdI,snI,res38,b38k0,b38k1,b38k2,b38k3,b38k4,b38k5,b38k6,b38k7,b38k8,b38k9, ↓reduceIte,reduceCtorEq,Nat.reduceEqDiff,Nat.reduceAdd,Nat.reduceMul,Nat.reduceSub,Nat.reduceLeDiff,Nat.reduceBEq,Int.reduceToNat,Int.reduceLE,Int.reduceLT,Int.reduceEq,Int.reduceNe,di]
 simp only [wkC,hdC,keepM,viewVec_box,cellsM_at0,res38,b38k0,b38k1,b38k2,b38k3,b38k4,b38k5,b38k6,b38k7,b38k8,b38k9,mdI,hrI,plI,tkI,wkI,hdI,snI, ↓reduceIte,reduceCtorEq,Nat.reduceEqDiff,Nat.reduceAdd,Nat.reduceMul,Nat.reduceSub,Nat.reduceLeDiff,Nat.reduceBEq,Int.reduceToNat,Int.reduceLE,Int.reduceLT,Int.reduceEq,Int.reduceNe,di]
 refine ⟨by omega,?_⟩
 have hw:=worth_bd ok hjv
 by_cases htn:t=w.hs.length
 ·rw [if_pos (by omega),part_len,Nat.zero_add,wrap64 (n:=w.worth * (w.lo+j)) (by omega) (by omega),wrap64 (n:=(b:Int)+1) (by omega) (by omega)]
  refine ⟨hk,?_⟩
  have hval:w.worth * (w.lo+j)=valW w x t (j * w.ms.length+b):=by
   rw [val_at hbm,htn,Nat.sub_self]
   rfl
  rw [hval,part_step hk]
  exact ihb (b+1) _ _ (by omega) (by omega) (by simp only [wkC,hdC,keepM,mdI,hrI,plI,tkI,wkI,hdI,snI, ↓reduceIte,reduceCtorEq,Nat.reduceEqDiff,Nat.reduceAdd,Nat.reduceMul,Nat.reduceSub,Nat.reduceLeDiff,Nat.reduceBEq,Int.reduceToNat,Int.reduceLE,Int.reduceLT,Int.reduceEq,Int.reduceNe,di] <;> rfl)
 rw [if_neg (by omega)]
 have htl:t<w.hs.length:=by omega
 have hho:=w_holds ok hx hjv ht
 simp only [wkI,hdI] at hho
 refine calls_of hho ?_; simp only [mdI,hrI,plI,tkI,wkI,hdI,snI,res38,b38k0,b38k1,b38k2,b38k3,b38k4,b38k5,b38k6,b38k7,b38k8,b38k9, ↓reduceIte,reduceCtorEq,Nat.reduceEqDiff,Nat.reduceAdd,Nat.reduceMul,Nat.reduceSub,Nat.reduceLeDiff,Nat.reduceBEq,Int.reduceToNat,Int.reduceLE,Int.reduceLT,Int.reduceEq,Int.reduceNe,di]
 have hval:=val_at (w:=w) (x:=x) (t:=t) (j:=j) hbm
 by_cases hH:holdsW w x (w.hs.length - t) (w.lo+j)
 case neg =>
  simp only [wkC,hdC,hH,keepM,viewVec_box,cellsM_at0,res38,b38k0,b38k1,b38k2,b38k3,b38k4,b38k5,b38k6,b38k7,b38k8,b38k9,mdI,hrI,plI,tkI,wkI,hdI,snI, ↓reduceIte,reduceCtorEq,Nat.reduceEqDiff,Nat.reduceAdd,Nat.reduceMul,Nat.reduceSub,Nat.reduceLeDiff,Nat.reduceBEq,Int.reduceToNat,Int.reduceLE,Int.reduceLT,Int.reduceEq,Int.reduceNe,di]
  rw [wrap64 (n:=(b:Int)+1) (by omega) (by omega)]
  have hv2:valW w x t (j * w.ms.length+b) = -100000000000:=by
   rw [hval,show w.hs.length - t=(w.hs.length - (t+1))+1 by omega,potV_succ,if_neg (by rw [show w.hs.length - (t+1)+1=w.hs.length - t by omega]; exact hH)]
  refine ihb (b+1) _ _ (by omega) (by omega) ?_
  rw [show j * w.ms.length+(b+1)=j * w.ms.length+b+1 by omega,part_never hk hv2]
  simp only [wkC,hdC,keepM,mdI,hrI,plI,tkI,wkI,hdI,snI, ↓reduceIte,reduceCtorEq,Nat.reduceEqDiff,Nat.reduceAdd,Nat.reduceMul,Nat.reduceSub,Nat.reduceLeDiff,Nat.reduceBEq,Int.reduceToNat,Int.reduceLE,Int.reduceLT,Int.reduceEq,Int.reduceNe,di] <;> rfl
 have hst:=w_steps (w:=w) (v:=w.lo+j) (h:=t)
 simp only [wkI] at hst
 simp only [wkC,hdC,hH,keepM,viewVec_box,cellsM_at0,res38,b38k0,b38k1,b38k2,b38k3,b38k4,b38k5,b38k6,b38k7,b38k8,b38k9,mdI,hrI,plI,tkI,wkI,hdI,snI, ↓reduceIte,reduceCtorEq,Nat.reduceEqDiff,Nat.reduceAdd,Nat.reduceMul,Nat.reduceSub,Nat.reduceLeDiff,Nat.reduceBEq,Int.reduceToNat,Int.reduceLE,Int.reduceLT,Int.reduceEq,Int.reduceNe,di]
 refine calls_of hst ?_; simp only [mdI,hrI,plI,tkI,wkI,hdI,snI,res38,b38k0,b38k1,b38k2,b38k3,b38k4,b38k5,b38k6,b38k7,b38k8,b38k9, ↓reduceIte,reduceCtorEq,Nat.reduceEqDiff,Nat.reduceAdd,Nat.reduceMul,Nat.reduceSub,Nat.reduceLeDiff,Nat.reduceBEq,Int.reduceToNat,Int.reduceLE,Int.reduceLT,Int.reduceEq,Int.reduceNe,di]
 have hfold:=best_all (w:=w) (x:=x) (k:=w.hs.length - (t+1)) (v:=w.lo+j) (b:=b) (h:=t) (by omega) (by rw [show w.hs.length - (t+1)+1=w.hs.length - t by omega]; exact hH)
 rw [show w.hs.length - (t+1)+1=w.hs.length - t by omega,← hval] at hfold
 have hmem:∀ y ∈ stL w (w.lo+j) t 0 w.ms.length,y.1<w.ms.length∧isVol w y.2:=fun y hy=>by
  unfold stL at hy
  obtain ⟨m,hm,e⟩:=List.mem_filterMap.1 hy
  have hm:=List.mem_range'_1.1 hm
  unfold stF at e
  split at e
  ·rename_i hv
   cases e
   exact ⟨by omega,hv⟩
  ·cases e
 have hit:=it_steps ok hjv htl
 generalize stL w (w.lo+j) t 0 w.ms.length=ys at *
 refine range_plain (gf:=53) (first:=[]) (caps:=[.ptr (wkI w),.ptr (.agg [.int .i64 (w.lo+j)]),.ptr (.agg [.int .i64 t])]) (ys.map stpI) false rfl rfl (fun l=>hit l) (fun z hz=>by obtain ⟨q,_,rfl⟩:=List.mem_map.1 hz; rfl) rfl
  (fun n (a:Int)=>a=(ys.take n).foldl (bestF w x (w.hs.length - (t+1)) t b) (-100000000000))
  (fun a=>[(2,.box (wkC w)),(3,.box (hdC x)),(7,.box [.vec 31 0 (w.hs.length+1)]),(8,.box [.imm (.int .i64 (t:Nat))]),(10,.box [.imm (.int .i64 (b:Nat))]),(11,.box [.ref 1000 (0+(j * w.ms.length+b))]),(31,.box (cellsM w x t)),(1000,.arr (((partW w x t (j * w.ms.length+b)).set (j * w.ms.length+b) a).map (.int .i64)))])
  (-100000000000) rfl (by rw [keepRes_look,part_same hk]; simp only [wkC,hdC,keepM,mdI,hrI,plI,tkI,wkI,hdI,snI, ↓reduceIte,reduceCtorEq,Nat.reduceEqDiff,Nat.reduceAdd,Nat.reduceMul,Nat.reduceSub,Nat.reduceLeDiff,Nat.reduceBEq,Int.reduceToNat,Int.reduceLE,Int.reduceLT,Int.reduceEq,Int.reduceNe,di] <;> rfl) ?_ ?_
 ·rintro n z a hz ha
  simp only [List.getElem?_map,Option.map_eq_some_iff] at hz
  obtain ⟨y,hy,rfl⟩:=hz
  obtain ⟨hy1,hy2⟩:=hmem y (List.mem_of_getElem? hy)
  have hrev:=w_revenue ok (h:=t) (b:=b) htl hy1
  have hc2:=w_cell ok hy2 hy1
  simp only [wkI] at hrev hc2
  have hcl:=cell_lt hy2 hy1
  have hrow:=row_at (x:=x) (t:=t+1) hy2 hy1
  simp only [wkC,hdC,stpI,b38a0,b38r0,mdI,hrI,plI,tkI,wkI,hdI,snI, ↓reduceIte,reduceCtorEq,Nat.reduceEqDiff,Nat.reduceAdd,Nat.reduceMul,Nat.reduceSub,Nat.reduceLeDiff,Nat.reduceBEq,Int.reduceToNat,Int.reduceLE,Int.reduceLT,Int.reduceEq,Int.reduceNe,di]
  refine ⟨by rw [List.length_set,part_len]; omega,?_⟩
  refine calls_of hrev ?_; simp only [mdI,hrI,plI,tkI,wkI,hdI,snI,res38,b38k0,b38k1,b38k2,b38k3,b38k4,b38k5,b38k6,b38k7,b38k8,b38k9, ↓reduceIte,reduceCtorEq,Nat.reduceEqDiff,Nat.reduceAdd,Nat.reduceMul,Nat.reduceSub,Nat.reduceLeDiff,Nat.reduceBEq,Int.reduceToNat,Int.reduceLE,Int.reduceLT,Int.reduceEq,Int.reduceNe,di]
  simp only [viewVec_box, ↓reduceIte,reduceCtorEq,Nat.reduceEqDiff,Nat.reduceAdd,Nat.reduceMul,Nat.reduceSub,Nat.reduceLeDiff,Nat.reduceBEq,Int.reduceToNat,Int.reduceLE,Int.reduceLT,Int.reduceEq,Int.reduceNe,di]
  rw [wrap64 (n:=(t:Int)+1) (by omega) (by omega)]
  have hn:(cellsM w x t)[0+((t:Int)+1).toNat]? = some (rowD w x (t+1)):=by
   rw [show 0+((t:Int)+1).toNat=t+1 by omega]
   exact cellsM_next htl
  have hga:((partW w x t (j * w.ms.length+b)).set (j * w.ms.length+b) a).getD (0+(j * w.ms.length+b)) 0=a:=by
   rw [Nat.zero_add,List.getD_eq_getElem?_getD,List.getElem?_set_self (by rw [part_len]; omega)]
   rfl
  have hgr:(rowW w x (t+1)).getD (cellW w y.2 y.1) 0=potV w x (w.hs.length - (t+1)) y.2 y.1:=hrow
  have hpb:=pot_bd ok x (k:=w.hs.length - (t+1)) (by omega) (b:=y.1) hy2
  have hrb:=rev_bd ok t b y.1
  simp only [hn,rowD,hga,res38,b38k0,b38k1,b38k2,b38k3,b38k4,b38k5,b38k6,b38k7,b38k8,b38k9,mdI,hrI,plI,tkI,wkI,hdI,snI, ↓reduceIte,reduceCtorEq,Nat.reduceEqDiff,Nat.reduceAdd,Nat.reduceMul,Nat.reduceSub,Nat.reduceLeDiff,Nat.reduceBEq,Int.reduceToNat,Int.reduceLE,Int.reduceLT,Int.reduceEq,Int.reduceNe,di]
  refine ⟨by omega,by omega,?_⟩
  refine calls_of hc2 ?_; simp only [mdI,hrI,plI,tkI,wkI,hdI,snI,res38,b38k0,b38k1,b38k2,b38k3,b38k4,b38k5,b38k6,b38k7,b38k8,b38k9, ↓reduceIte,reduceCtorEq,Nat.reduceEqDiff,Nat.reduceAdd,Nat.reduceMul,Nat.reduceSub,Nat.reduceLeDiff,Nat.reduceBEq,Int.reduceToNat,Int.reduceLE,Int.reduceLT,Int.reduceEq,Int.reduceNe,di]
  rw [hgr,wrap64 (by omega) (by omega)]
  refine ⟨by rw [rowW_len]; omega,by rw [List.length_set,part_len]; omega,?_⟩
  refine ⟨max a (revW w t b y.1+potV w x (w.hs.length - (t+1)) y.2 y.1),?_,?_⟩
  ·rw [List.take_add_one,hy,List.foldl_append,← ha]
   rfl
  ·rw [Nat.zero_add,List.set_set,keepM rfl]
 ·rintro a _ ha
  rw [List.take_of_length_le (by simp)] at ha
  rw [hfold] at ha
  subst ha
  rw [part_step hk]
  simp only [wkC,hdC,keepM,viewVec_box,cellsM_at0,res38,b38k0,b38k1,b38k2,b38k3,b38k4,b38k5,b38k6,b38k7,b38k8,b38k9,mdI,hrI,plI,tkI,wkI,hdI,snI, ↓reduceIte,reduceCtorEq,Nat.reduceEqDiff,Nat.reduceAdd,Nat.reduceMul,Nat.reduceSub,Nat.reduceLeDiff,Nat.reduceBEq,Int.reduceToNat,Int.reduceLE,Int.reduceLT,Int.reduceEq,Int.reduceNe,di]
  rw [wrap64 (n:=(b:Int)+1) (by omega) (by omega)]
  refine ihb (b+1) _ _ (by omega) (by omega) ?_
  simp only [wkC,hdC,keepM,mdI,hrI,plI,tkI,wkI,hdI,snI, ↓reduceIte,reduceCtorEq,Nat.reduceEqDiff,Nat.reduceAdd,Nat.reduceMul,Nat.reduceSub,Nat.reduceLeDiff,Nat.reduceBEq,Int.reduceToNat,Int.reduceLE,Int.reduceLT,Int.reduceEq,Int.reduceNe,di] <;> rfl
end Go.DI

/- Contracts: the best plan, with or without a hold. No condition. -/
set_option linter.unusedSimpArgs false
namespace Go.DI
open Go.Proofs Go.RowKit
def fits (w:Wk) (x:Hld) (k:Nat) (v:Int) (b h:Nat) (y:Nat × Int):Bool:=decide (revW w h b y.1+potV w x k y.2 y.1=potV w x (k+1) v b)
theorem find_stL {w:Wk} {x:Hld} {k:Nat} {v:Int} {b h:Nat} (hh:h=w.hs.length - (k+1)):∀ (n i:Nat),((stL w v h i n).find? (fits w x k v b h)).map Prod.fst=(List.range' i n).find? fun m=>decide (hits w x k v b m)
 | 0,_=>rfl
 | n+1,i=>by
  have ih:=find_stL (x:=x) (v:=v) (b:=b) hh n (i+1)
  subst hh
  rw [stL_succ,List.range'_succ,List.find?_cons]
  by_cases hv:isVol w (aft w v (w.hs.length - (k+1)) i)
  ·rw [if_pos hv,List.find?_cons]
   have e:fits w x k v b (w.hs.length - (k+1)) (i,aft w v (w.hs.length - (k+1)) i)=decide (hits w x k v b i):=by
    unfold fits
    rw [decide_eq_decide]
    show _↔optV w x k v b i=some (potV w x (k+1) v b)
    unfold optV
    rw [if_pos hv]
    exact ⟨fun h=>congrArg some h,fun h=>Option.some.inj h⟩
   rw [e]
   cases decide (hits w x k v b i) with
   | true=>rfl
   | false=>exact ih
  ·rw [if_neg hv]
   have e:decide (hits w x k v b i)=false:=decide_eq_false fun h=>by
    have h:optV w x k v b i=some (potV w x (k+1) v b):=h
    unfold optV at h
    rw [if_neg hv] at h
    cases h
   rw [e]
   exact ih
theorem pick_first {w:Wk} {x:Hld} {k:Nat} {v:Int} {b h m:Nat} (hh:h=w.hs.length - (k+1)) (hp:pickM w x k v b=some m):∃ u,(stL w v h 0 w.ms.length).find? (fits w x k v b h)=some (m,u):=by
 have e:=find_stL (x:=x) (v:=v) (b:=b) hh w.ms.length 0
 unfold pickM at hp
 rw [← List.range_eq_range',hp] at e
 cases hf:(stL w v h 0 w.ms.length).find? (fits w x k v b h) with
 | none=>rw [hf] at e; cases e
 | some y =>
  rw [hf] at e
  have:=Option.some.inj e
  exact ⟨y.2,by rw [← this]⟩
theorem stL_mem {w:Wk} {v:Int} {h:Nat}:∀ y ∈ stL w v h 0 w.ms.length,y.1<w.ms.length∧isVol w y.2∧y.2=aft w v h y.1:=fun y hy=>by
 unfold stL at hy
 obtain ⟨m,hm,e⟩:=List.mem_filterMap.1 hy
 have hm:=List.mem_range'_1.1 hm
 unfold stF at e
 split at e
 ·rename_i hv
  cases e
  exact ⟨by omega,hv,rfl⟩
 ·cases e
theorem first_at {α:Type} {p : α→Bool} {l:List α} {n:Nat} {y : α} (hn:l[n]? = some y) (h:∀ z ∈ l.take n,p z=false) (hy:p y=true):l.find? p=some y:=by
 obtain ⟨hlt,e⟩:=List.getElem?_eq_some_iff.1 hn
 refine List.find?_eq_some_iff_append.2 ⟨hy,l.take n,l.drop (n+1),?_,fun z hz=>by rw [h z hz]; rfl⟩
 rw [← e,← List.drop_eq_getElem_cons hlt,List.take_append_drop]
theorem planW_succ {w:Wk} {x:Hld} {k:Nat} {v:Int} {b m:Nat} (h:pickM w x k v b=some m):planW w x (k+1) v b=m :: planW w x k (aft w v (w.hs.length - (k+1)) m) m:=by
 show (match pickM w x k v b with | some m=>m :: planW w x k (aft w v (w.hs.length - (k+1)) m) m | none=>planW w x k v b)=_
 rw [h]
theorem getD_range {n i:Nat} (h:i<n):(List.range n).getD i default=i:=by
 rw [List.getD_eq_getElem?_getD,List.getElem?_range h]
 rfl
def bestV (w:Wk) (x:Hld):Int:=potV w x w.hs.length w.vol w.mode.toNat
def bestP (w:Wk) (x:Hld):List Nat:=planW w x w.hs.length w.vol w.mode.toNat
theorem w_best {w:Wk} (ok:WkOk w) {x:Hld} (hx:x.mode<0∨(0≤x.mode∧x.mode<w.ms.length)) :
  Contract Try.prog 30 [wkI w,hdI x] (if -50000000000<bestV w x then .tup [pnI (bestP w x),.int .i64 (bestV w x),.bool true] else .tup [.slc 1 [],.int .i64 0,.bool false]):=by
 have h10:=ok.h10
 have hp:=w_potentials ok hx
 have hm:=ok.mode
 have hv:isVol w w.vol:=ok.vol
 have hm2:w.mode.toNat<w.ms.length:=by omega
 have hc:=w_cell ok hv hm2
 rw [show ((w.mode.toNat:Nat):Int)=w.mode by omega] at hc
 have hcl:=cell_lt hv hm2
 have hrow:(rowW w x 0).getD (cellW w w.vol w.mode.toNat) 0=bestV w x:=row_at (x:=x) (t:=0) hv hm2
 simp only [wkI,hdI,potsI] at hp hc
 refine contract_run Try.func30 k30 rfl ?_
 simp only [body30,b30,res30,b30k0,b30k1,b30k2,b30k3,mdI,hrI,plI,tkI,wkI,hdI,snI, ↓reduceIte,reduceCtorEq,Nat.reduceEqDiff,Nat.reduceAdd,Nat.reduceMul,Nat.reduceSub,Nat.reduceLeDiff,Nat.reduceBEq,Int.reduceToNat,Int.reduceLE,Int.reduceLT,Int.reduceEq,Int.reduceNe,di]
 refine calls_of hp ?_; simp only [mdI,hrI,plI,tkI,wkI,hdI,snI,res30,b30k0,b30k1,b30k2,b30k3, ↓reduceIte,reduceCtorEq,Nat.reduceEqDiff,Nat.reduceAdd,Nat.reduceMul,Nat.reduceSub,Nat.reduceLeDiff,Nat.reduceBEq,Int.reduceToNat,Int.reduceLE,Int.reduceLT,Int.reduceEq,Int.reduceNe,di]
 rw [getD_range (show 0<w.hs.length+1 by omega)]
 refine ⟨by rw [List.length_range]; omega,?_⟩
 refine calls_of hc ?_; simp only [mdI,hrI,plI,tkI,wkI,hdI,snI,res30,b30k0,b30k1,b30k2,b30k3, ↓reduceIte,reduceCtorEq,Nat.reduceEqDiff,Nat.reduceAdd,Nat.reduceMul,Nat.reduceSub,Nat.reduceLeDiff,Nat.reduceBEq,Int.reduceToNat,Int.reduceLE,Int.reduceLT,Int.reduceEq,Int.reduceNe,di]
 rw [hrow]
 refine ⟨by rw [rowW_len]; omega,?_⟩
 refine calls_of d_isValue ?_; simp only [mdI,hrI,plI,tkI,wkI,hdI,snI,res30,b30k0,b30k1,b30k2,b30k3, ↓reduceIte,reduceCtorEq,Nat.reduceEqDiff,Nat.reduceAdd,Nat.reduceMul,Nat.reduceSub,Nat.reduceLeDiff,Nat.reduceBEq,Int.reduceToNat,Int.reduceLE,Int.reduceLT,Int.reduceEq,Int.reduceNe,di]
 by_cases hreal : -50000000000<bestV w x
 case neg =>
  simp only [hreal,res30,b30k0,b30k1,b30k2,b30k3,mdI,hrI,plI,tkI,wkI,hdI,snI, ↓reduceIte,reduceCtorEq,Nat.reduceEqDiff,Nat.reduceAdd,Nat.reduceMul,Nat.reduceSub,Nat.reduceLeDiff,Nat.reduceBEq,Int.reduceToNat,Int.reduceLE,Int.reduceLT,Int.reduceEq,Int.reduceNe,di]
 simp only [hreal,res30,b30k0,b30k1,b30k2,b30k3,mdI,hrI,plI,tkI,wkI,hdI,snI, ↓reduceIte,reduceCtorEq,Nat.reduceEqDiff,Nat.reduceAdd,Nat.reduceMul,Nat.reduceSub,Nat.reduceLeDiff,Nat.reduceBEq,Int.reduceToNat,Int.reduceLE,Int.reduceLT,Int.reduceEq,Int.reduceNe,di]
 refine loop_keep (α:=Nat × Int × Nat × List Nat) rfl (fun q=>w.hs.length - q.1) (fun q=>q.1≤w.hs.length∧isVol w q.2.1∧q.2.2.1<w.ms.length ∧ -90000000000<potV w x (w.hs.length - q.1) q.2.1 q.2.2.1∧q.2.2.2.length=q.1∧q.2.2.2 ++ planW w x (w.hs.length - q.1) q.2.1 q.2.2.1=bestP w x)
  (fun q=>[(2,.ref 2 0),(7,.ref 7 0),(8,.imm (.int .i64 (bestV w x))),(9,.ref 9 0),(10,.ref 10 0),(11,.ref 11 0),(44,.imm (.int .i64 w.hs.length)),(45,.imm (.int .i64 q.1))])
  (fun q=>[(2,.box (wkC w)),(7,.box [.imm (potsI w x)]),(9,.box [.own 1009]),(10,.box [.imm (.int .i64 q.2.1)]),(11,.box [.imm (.int .i64 (q.2.2.1:Nat))]),(1009,.tok 1 (q.2.2.2.map fun m:Nat=>IV.int .i64 (m:Int)))])
  (0,w.vol,w.mode.toNat,[]) ⟨Nat.zero_le _,hv,hm2,by show -90000000000<bestV w x; omega,rfl,rfl⟩ (by simp only [wkC,potsI,show ((w.mode.toNat:Nat):Int)=w.mode by omega,mdI,hrI,plI,tkI,wkI,hdI,snI, ↓reduceIte,reduceCtorEq,Nat.reduceEqDiff,Nat.reduceAdd,Nat.reduceMul,Nat.reduceSub,Nat.reduceLeDiff,Nat.reduceBEq,Int.reduceToNat,Int.reduceLE,Int.reduceLT,Int.reduceEq,Int.reduceNe,di] <;> rfl) ?_
 rintro ⟨i,v,b,pre⟩ ⟨hi,hiv,hb,hre,hpl,hpp⟩ ih
 dsimp only at hi hiv hb hre hpl hpp ⊢
 simp only [wkC,potsI,res30,b30k0,b30k1,b30k2,b30k3,mdI,hrI,plI,tkI,wkI,hdI,snI, ↓reduceIte,reduceCtorEq,Nat.reduceEqDiff,Nat.reduceAdd,Nat.reduceMul,Nat.reduceSub,Nat.reduceLeDiff,Nat.reduceBEq,Int.reduceToNat,Int.reduceLE,Int.reduceLT,Int.reduceEq,Int.reduceNe,di]
 by_cases hin:i<w.hs.length
 case neg =>
  have hie:i=w.hs.length:=by omega
  rw [hie,Nat.sub_self] at hpp
  rw [if_neg (by omega),← hpp]
  simp only [pnI,show planW w x 0 v b=[] from rfl,List.append_nil,res30,b30k0,b30k1,b30k2,b30k3,mdI,hrI,plI,tkI,wkI,hdI,snI, ↓reduceIte,reduceCtorEq,Nat.reduceEqDiff,Nat.reduceAdd,Nat.reduceMul,Nat.reduceSub,Nat.reduceLeDiff,Nat.reduceBEq,Int.reduceToNat,Int.reduceLE,Int.reduceLT,Int.reduceEq,Int.reduceNe,di]
 rw [if_pos (by omega)]
 have hc1:=w_cell ok hiv hb
 simp only [wkI] at hc1
 have hcl1:=cell_lt hiv hb
 have hrow1:(rowW w x i).getD (cellW w v b) 0=potV w x (w.hs.length - i) v b:=row_at (x:=x) (t:=i) hiv hb
 have hst:=w_steps (w:=w) (v:=v) (h:=i)
 simp only [wkI] at hst
 refine ⟨by rw [List.length_range]; omega,?_⟩
 rw [getD_range (show i<w.hs.length+1 by omega)]
 refine calls_of hc1 ?_; simp only [mdI,hrI,plI,tkI,wkI,hdI,snI,res30,b30k0,b30k1,b30k2,b30k3, ↓reduceIte,reduceCtorEq,Nat.reduceEqDiff,Nat.reduceAdd,Nat.reduceMul,Nat.reduceSub,Nat.reduceLeDiff,Nat.reduceBEq,Int.reduceToNat,Int.reduceLE,Int.reduceLT,Int.reduceEq,Int.reduceNe,di]
 rw [hrow1]
 refine ⟨by rw [rowW_len]; omega,?_⟩
 refine calls_of hst ?_; simp only [mdI,hrI,plI,tkI,wkI,hdI,snI,res30,b30k0,b30k1,b30k2,b30k3, ↓reduceIte,reduceCtorEq,Nat.reduceEqDiff,Nat.reduceAdd,Nat.reduceMul,Nat.reduceSub,Nat.reduceLeDiff,Nat.reduceBEq,Int.reduceToNat,Int.reduceLE,Int.reduceLT,Int.reduceEq,Int.reduceNe,di]
 obtain ⟨k,hk⟩ : ∃ k,w.hs.length - i=k+1:=⟨w.hs.length - i - 1,by omega⟩
 rw [hk] at hre hpp
 have hih:i=w.hs.length - (k+1):=by omega
 obtain ⟨m,hpick,hml,_,hav,hreal2⟩:=pick_real ok x (by omega) hiv hre
 obtain ⟨u,hfirst⟩:=pick_first hih hpick
 rw [planW_succ hpick,← hih] at hpp
 rw [← hih] at hav hreal2
 have hmem:=stL_mem (w:=w) (v:=v) (h:=i)
 have hit:=it_steps ok hiv hin
 generalize stL w v i 0 w.ms.length=ys at *
 refine range_plain (gf:=53) (first:=[]) (caps:=[.ptr (wkI w),.ptr (.agg [.int .i64 v]),.ptr (.agg [.int .i64 i])]) (ys.map stpI) false rfl rfl (fun l=>hit l) (fun z hz=>by obtain ⟨q,_,rfl⟩:=List.mem_map.1 hz; rfl) rfl
  (fun n (_:Unit)=>∀ z ∈ ys.take n,fits w x k v b i z=false)
  (fun _=>[(2,.box (wkC w)),(7,.box [.imm (potsI w x)]),(9,.box [.own 1009]),(10,.box [.imm (.int .i64 v)]),(11,.box [.imm (.int .i64 (b:Nat))]),(12,.box [.imm (.int .i64 (i:Nat))]),(13,.box [.imm (.int .i64 (potV w x (k+1) v b))]),(1009,.tok 1 (pre.map fun m:Nat=>IV.int .i64 (m:Int)))])
  () (fun z hz=>by cases hz) (by rw [keepRes_look,hk]; simp only [wkC,potsI,mdI,hrI,plI,tkI,wkI,hdI,snI, ↓reduceIte,reduceCtorEq,Nat.reduceEqDiff,Nat.reduceAdd,Nat.reduceMul,Nat.reduceSub,Nat.reduceLeDiff,Nat.reduceBEq,Int.reduceToNat,Int.reduceLE,Int.reduceLT,Int.reduceEq,Int.reduceNe,di] <;> rfl) ?_ ?_
 ·rintro n z _ hz hno
  simp only [List.getElem?_map,Option.map_eq_some_iff] at hz
  obtain ⟨y,hy,rfl⟩:=hz
  obtain ⟨hy1,hy2,hy3⟩:=hmem y (List.mem_of_getElem? hy)
  have hrev:=w_revenue ok (h:=i) (b:=b) hin hy1
  have hc2:=w_cell ok hy2 hy1
  simp only [wkI] at hrev hc2
  have hcl:=cell_lt hy2 hy1
  have hrow:(rowW w x (i+1)).getD (cellW w y.2 y.1) 0=potV w x k y.2 y.1:=by
   have:=row_at (x:=x) (t:=i+1) hy2 hy1
   rw [show w.hs.length - (i+1)=k by omega] at this
   exact this
  simp only [wkC,stpI,potsI,b30a0,b30r0,mdI,hrI,plI,tkI,wkI,hdI,snI, ↓reduceIte,reduceCtorEq,Nat.reduceEqDiff,Nat.reduceAdd,Nat.reduceMul,Nat.reduceSub,Nat.reduceLeDiff,Nat.reduceBEq,Int.reduceToNat,Int.reduceLE,Int.reduceLT,Int.reduceEq,Int.reduceNe,di]
  refine calls_of hrev ?_; simp only [mdI,hrI,plI,tkI,wkI,hdI,snI,res30,b30k0,b30k1,b30k2,b30k3, ↓reduceIte,reduceCtorEq,Nat.reduceEqDiff,Nat.reduceAdd,Nat.reduceMul,Nat.reduceSub,Nat.reduceLeDiff,Nat.reduceBEq,Int.reduceToNat,Int.reduceLE,Int.reduceLT,Int.reduceEq,Int.reduceNe,di]
  have hpb:=pot_bd ok x (k:=k) (by omega) (b:=y.1) hy2
  have hrb:=rev_bd ok i b y.1
  rw [wrap64 (n:=(i:Int)+1) (by omega) (by omega),show ((i:Int)+1).toNat=i+1 by omega,getD_range (show i+1<w.hs.length+1 by omega),List.length_range]
  refine ⟨by omega,by omega,?_⟩
  refine calls_of hc2 ?_; simp only [mdI,hrI,plI,tkI,wkI,hdI,snI,res30,b30k0,b30k1,b30k2,b30k3, ↓reduceIte,reduceCtorEq,Nat.reduceEqDiff,Nat.reduceAdd,Nat.reduceMul,Nat.reduceSub,Nat.reduceLeDiff,Nat.reduceBEq,Int.reduceToNat,Int.reduceLE,Int.reduceLT,Int.reduceEq,Int.reduceNe,di]
  rw [hrow,wrap64 (by omega) (by omega)]
  refine ⟨by rw [rowW_len]; omega,?_⟩
  split
  ·rename_i heq
   have hf:=first_at hy hno (show fits w x k v b i y=true from decide_eq_true heq)
   rw [hfirst] at hf
   have hym:y.1=m:=congrArg Prod.fst (Option.some.inj hf).symm
   rw [hym] at hy3 hy1 ⊢
   refine ⟨by omega,by omega,?_⟩
   rw [wrap64 (n:=(i:Int)+1) (by omega) (by omega)]
   refine ih (i+1,y.2,m,pre ++ [m]) _ _ (by dsimp only; omega) ⟨by dsimp only; omega,hy2,hml,?_,by dsimp only; rw [List.length_append,hpl]; rfl,?_⟩ ?_
   ·dsimp only
    rw [show w.hs.length - (i+1)=k by omega,hy3]
    exact hreal2
   ·dsimp only
    rw [show w.hs.length - (i+1)=k by omega,hy3,← hpp,List.append_assoc]
    rfl
   ·rw [List.map_append]
    simp only [wkC,potsI,mdI,hrI,plI,tkI,wkI,hdI,snI, ↓reduceIte,reduceCtorEq,Nat.reduceEqDiff,Nat.reduceAdd,Nat.reduceMul,Nat.reduceSub,Nat.reduceLeDiff,Nat.reduceBEq,Int.reduceToNat,Int.reduceLE,Int.reduceLT,Int.reduceEq,Int.reduceNe,di] <;> rfl
  ·rename_i hne
   refine ⟨(),fun z hz => ?_⟩
   rw [List.take_add_one,hy] at hz
   rcases List.mem_append.1 hz with hz | hz
   ·exact hno z hz
   ·rw [List.mem_singleton.1 hz]
    exact decide_eq_false hne
 ·rintro _ _ hno
  exfalso
  rw [List.length_map,List.take_length] at hno
  obtain ⟨hf,l1,l2,hl,_⟩:=List.find?_eq_some_iff_append.1 hfirst
  rw [hno (m,u) (by rw [hl]; simp)] at hf
  cases hf
def noneI (e:Int):IV:=.tup [.slc 1 [],.int .i64 0,.int .i64 e]
def foundI (w:Wk) (x:Hld):IV:=if -50000000000<bestV w x then .tup [pnI (bestP w x),.int .i64 (bestV w x),.int .i64 0] else noneI 12
theorem d_unlessF {e:Int}:Contract Try.prog 27 [.bool false,.int .i64 e] (.int .i64 e):=by
 refine contract_run Try.func27 k27 rfl ?_
 simp only [body27,b27,res27,b27k0, ↓reduceIte,reduceCtorEq,Nat.reduceEqDiff,Nat.reduceAdd,Nat.reduceMul,Nat.reduceSub,Nat.reduceLeDiff,Nat.reduceBEq,Int.reduceToNat,Int.reduceLE,Int.reduceLT,Int.reduceEq,Int.reduceNe,di]
theorem d_BestPlan {w:Wk} (v:Vld w):Contract Try.prog 13 [plI w,tkI w] (foundI w ⟨-1,0⟩):=by
 have ho:=d_open v
 have hb:=w_best v.ok (x:=⟨-1,0⟩) (.inl (by show (-1:Int)<0; decide))
 unfold foundI noneI
 simp only [plI,tkI,wkI,hdI] at ho hb
 refine contract_run Try.func13 k13 rfl ?_
 simp only [body13,b13,res13,b13k0,mdI,hrI,plI,tkI,wkI,hdI,snI, ↓reduceIte,reduceCtorEq,Nat.reduceEqDiff,Nat.reduceAdd,Nat.reduceMul,Nat.reduceSub,Nat.reduceLeDiff,Nat.reduceBEq,Int.reduceToNat,Int.reduceLE,Int.reduceLT,Int.reduceEq,Int.reduceNe,di]
 refine calls_of ho ?_; simp only [mdI,hrI,plI,tkI,wkI,hdI,snI,res13,b13k0, ↓reduceIte,reduceCtorEq,Nat.reduceEqDiff,Nat.reduceAdd,Nat.reduceMul,Nat.reduceSub,Nat.reduceLeDiff,Nat.reduceBEq,Int.reduceToNat,Int.reduceLE,Int.reduceLT,Int.reduceEq,Int.reduceNe,di]
 refine calls_of hb ?_; simp only [mdI,hrI,plI,tkI,wkI,hdI,snI,res13,b13k0, ↓reduceIte,reduceCtorEq,Nat.reduceEqDiff,Nat.reduceAdd,Nat.reduceMul,Nat.reduceSub,Nat.reduceLeDiff,Nat.reduceBEq,Int.reduceToNat,Int.reduceLE,Int.reduceLT,Int.reduceEq,Int.reduceNe,di]
 by_cases hr : -50000000000<bestV w ⟨-1,0⟩
 ·simp only [hr,pnI,res13,b13k0,mdI,hrI,plI,tkI,wkI,hdI,snI, ↓reduceIte,reduceCtorEq,Nat.reduceEqDiff,Nat.reduceAdd,Nat.reduceMul,Nat.reduceSub,Nat.reduceLeDiff,Nat.reduceBEq,Int.reduceToNat,Int.reduceLE,Int.reduceLT,Int.reduceEq,Int.reduceNe,di]
  refine calls_of d_unless ?_; simp only [mdI,hrI,plI,tkI,wkI,hdI,snI,res13,b13k0, ↓reduceIte,reduceCtorEq,Nat.reduceEqDiff,Nat.reduceAdd,Nat.reduceMul,Nat.reduceSub,Nat.reduceLeDiff,Nat.reduceBEq,Int.reduceToNat,Int.reduceLE,Int.reduceLT,Int.reduceEq,Int.reduceNe,di]
 ·simp only [hr,res13,b13k0,mdI,hrI,plI,tkI,wkI,hdI,snI, ↓reduceIte,reduceCtorEq,Nat.reduceEqDiff,Nat.reduceAdd,Nat.reduceMul,Nat.reduceSub,Nat.reduceLeDiff,Nat.reduceBEq,Int.reduceToNat,Int.reduceLE,Int.reduceLT,Int.reduceEq,Int.reduceNe,di]
  refine calls_of d_unlessF ?_; simp only [mdI,hrI,plI,tkI,wkI,hdI,snI,res13,b13k0, ↓reduceIte,reduceCtorEq,Nat.reduceEqDiff,Nat.reduceAdd,Nat.reduceMul,Nat.reduceSub,Nat.reduceLeDiff,Nat.reduceBEq,Int.reduceToNat,Int.reduceLE,Int.reduceLT,Int.reduceEq,Int.reduceNe,di]
theorem d_BestWith {w:Wk} (v:Vld w) {x:Hld} (hm:Wi x.mode 0 (w.ms.length - 1)) (hh:Wi x.hours 0 10):Contract Try.prog 10 [plI w,tkI w,hdI x] (foundI w x):=by
 have ho:=d_open v
 have h5:=v.ok.m5
 have hb:=w_best v.ok (x:=x) (.inr ⟨hm.1,by have:=hm.2; omega⟩)
 have hi:=w_isMode (w:=w) (n:=x.mode) (by omega)
 rw [decide_eq_true hm] at hi
 unfold foundI noneI
 simp only [plI,tkI,wkI,hdI] at ho hb hi
 refine contract_run Try.func10 k10 rfl ?_
 simp only [body10,b10,res10,b10k0,mdI,hrI,plI,tkI,wkI,hdI,snI, ↓reduceIte,reduceCtorEq,Nat.reduceEqDiff,Nat.reduceAdd,Nat.reduceMul,Nat.reduceSub,Nat.reduceLeDiff,Nat.reduceBEq,Int.reduceToNat,Int.reduceLE,Int.reduceLT,Int.reduceEq,Int.reduceNe,di]
 refine calls_of ho ?_; simp only [mdI,hrI,plI,tkI,wkI,hdI,snI,res10,b10k0, ↓reduceIte,reduceCtorEq,Nat.reduceEqDiff,Nat.reduceAdd,Nat.reduceMul,Nat.reduceSub,Nat.reduceLeDiff,Nat.reduceBEq,Int.reduceToNat,Int.reduceLE,Int.reduceLT,Int.reduceEq,Int.reduceNe,di]
 refine calls_of hi ?_; simp only [mdI,hrI,plI,tkI,wkI,hdI,snI,res10,b10k0, ↓reduceIte,reduceCtorEq,Nat.reduceEqDiff,Nat.reduceAdd,Nat.reduceMul,Nat.reduceSub,Nat.reduceLeDiff,Nat.reduceBEq,Int.reduceToNat,Int.reduceLE,Int.reduceLT,Int.reduceEq,Int.reduceNe,di]
 refine calls_of d_unless ?_; simp only [mdI,hrI,plI,tkI,wkI,hdI,snI,res10,b10k0, ↓reduceIte,reduceCtorEq,Nat.reduceEqDiff,Nat.reduceAdd,Nat.reduceMul,Nat.reduceSub,Nat.reduceLeDiff,Nat.reduceBEq,Int.reduceToNat,Int.reduceLE,Int.reduceLT,Int.reduceEq,Int.reduceNe,di]
 refine calls_of (d_withinT hh) ?_; simp only [mdI,hrI,plI,tkI,wkI,hdI,snI,res10,b10k0, ↓reduceIte,reduceCtorEq,Nat.reduceEqDiff,Nat.reduceAdd,Nat.reduceMul,Nat.reduceSub,Nat.reduceLeDiff,Nat.reduceBEq,Int.reduceToNat,Int.reduceLE,Int.reduceLT,Int.reduceEq,Int.reduceNe,di]
 refine calls_of d_unless ?_; simp only [mdI,hrI,plI,tkI,wkI,hdI,snI,res10,b10k0, ↓reduceIte,reduceCtorEq,Nat.reduceEqDiff,Nat.reduceAdd,Nat.reduceMul,Nat.reduceSub,Nat.reduceLeDiff,Nat.reduceBEq,Int.reduceToNat,Int.reduceLE,Int.reduceLT,Int.reduceEq,Int.reduceNe,di]
 refine calls_of (d_first (l:=[0,0,0]) (by decide) (by decide)) ?_; simp only [mdI,hrI,plI,tkI,wkI,hdI,snI,res10,b10k0, ↓reduceIte,reduceCtorEq,Nat.reduceEqDiff,Nat.reduceAdd,Nat.reduceMul,Nat.reduceSub,Nat.reduceLeDiff,Nat.reduceBEq,Int.reduceToNat,Int.reduceLE,Int.reduceLT,Int.reduceEq,Int.reduceNe,di]
 refine calls_of hb ?_; simp only [mdI,hrI,plI,tkI,wkI,hdI,snI,res10,b10k0, ↓reduceIte,reduceCtorEq,Nat.reduceEqDiff,Nat.reduceAdd,Nat.reduceMul,Nat.reduceSub,Nat.reduceLeDiff,Nat.reduceBEq,Int.reduceToNat,Int.reduceLE,Int.reduceLT,Int.reduceEq,Int.reduceNe,di]
 by_cases hr : -50000000000<bestV w x
 ·simp only [hr,pnI,res10,b10k0,mdI,hrI,plI,tkI,wkI,hdI,snI, ↓reduceIte,reduceCtorEq,Nat.reduceEqDiff,Nat.reduceAdd,Nat.reduceMul,Nat.reduceSub,Nat.reduceLeDiff,Nat.reduceBEq,Int.reduceToNat,Int.reduceLE,Int.reduceLT,Int.reduceEq,Int.reduceNe,di]
  refine calls_of d_unless ?_; simp only [mdI,hrI,plI,tkI,wkI,hdI,snI,res10,b10k0, ↓reduceIte,reduceCtorEq,Nat.reduceEqDiff,Nat.reduceAdd,Nat.reduceMul,Nat.reduceSub,Nat.reduceLeDiff,Nat.reduceBEq,Int.reduceToNat,Int.reduceLE,Int.reduceLT,Int.reduceEq,Int.reduceNe,di]
 ·simp only [hr,res10,b10k0,mdI,hrI,plI,tkI,wkI,hdI,snI, ↓reduceIte,reduceCtorEq,Nat.reduceEqDiff,Nat.reduceAdd,Nat.reduceMul,Nat.reduceSub,Nat.reduceLeDiff,Nat.reduceBEq,Int.reduceToNat,Int.reduceLE,Int.reduceLT,Int.reduceEq,Int.reduceNe,di]
  refine calls_of d_unlessF ?_; simp only [mdI,hrI,plI,tkI,wkI,hdI,snI,res10,b10k0, ↓reduceIte,reduceCtorEq,Nat.reduceEqDiff,Nat.reduceAdd,Nat.reduceMul,Nat.reduceSub,Nat.reduceLeDiff,Nat.reduceBEq,Int.reduceToNat,Int.reduceLE,Int.reduceLT,Int.reduceEq,Int.reduceNe,di]
end Go.DI


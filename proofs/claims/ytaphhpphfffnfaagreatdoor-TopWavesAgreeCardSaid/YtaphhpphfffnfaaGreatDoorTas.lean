/- Contracts: lines as strings, in the program and in the reference. No condition. -/
import Derived.Test.YtaphhpphfffnfaaGreatDoorTaGg
import Derived.Test.YtaphhpphfffnfaaGreatDoorTab
import Derived.Test.YtaphhpphfffnfaaGreatDoorTac
import Derived.Test.YtaphhpphfffnfaaGreatDoorTar
import Derived.Lib.ItoaLen
set_option linter.unusedSimpArgs false
set_option maxRecDepth 100000
namespace Go.DI
open Go.Proofs Go.RowKit Go.Lib
def In64 (n:Int):Prop := -9223372036854775808≤n∧n≤9223372036854775807
def numV (s:ByteArray):Int:=match atoiAll s.data.toList with
 | .ok v=>v
 | .range=>atoiSat s.data.toList
 | _ => 0
theorem numV_ok {s:ByteArray} {k:Nat} (hk:k≤18) {v:Int} (h:okW k s=some v):numV s=v:=by
 cases ha:atoiAll s.data.toList with
 | ok u =>
  unfold numV
  rw [ha]
  show u=v
  have hv:=okW_pos h
  by_cases hc : 0≤u∧itoaB u=s∧s.size≤k
  ·have:=okW_yes hk ha hc.1 hc.2.1 hc.2.2
   rw [h] at this
   exact (Option.some.inj this).symm
  ·have:=okW_no hk (s:=s) (fun v' e p q r=>hc (by rw [ha] at e; injection e with e; subst e; exact ⟨p,q,r⟩))
   rw [h] at this
   cases this
 | range =>
  have:=okW_no hk (s:=s) (fun v' e=>by rw [ha] at e; cases e)
  rw [h] at this; cases this
 | _ =>
  have:=okW_no hk (s:=s) (fun v' e=>by rw [ha] at e; cases e)
  rw [h] at this; cases this
theorem w_number {s:ByteArray} (hs:s.size≤1000000):Contract Tryz.prog 98 [.str s] (.tup [.int .i64 (numV s),.bool (okW 3 s).isSome]):=by
 have c:=z_Atoi (s:=s) (by omega)
 unfold atoiI at c
 refine contract_run Tryz.func98 k98 rfl ?_
 simp only [body98,b98,res98,vaE, ↓reduceIte,reduceCtorEq,Nat.reduceEqDiff,Nat.reduceAdd,Nat.reduceMul,Nat.reduceSub,Nat.reduceLeDiff,Nat.reduceBEq,Int.reduceToNat,Int.reduceLE,Int.reduceLT,Int.reduceEq,Int.reduceNe,di]
 unfold numV
 cases ha:atoiAll s.data.toList with
 | range =>
  rw [ha] at c
  refine calls_of c ?_; simp only [vaE,res98, ↓reduceIte,reduceCtorEq,Nat.reduceEqDiff,Nat.reduceAdd,Nat.reduceMul,Nat.reduceSub,Nat.reduceLeDiff,Nat.reduceBEq,Int.reduceToNat,Int.reduceLE,Int.reduceLT,Int.reduceEq,Int.reduceNe,di]
  rw [okW_no (by decide) (fun v e=>by rw [ha] at e; cases e)]
  rfl
 | ok v =>
  rw [ha] at c
  refine calls_of c ?_; simp only [vaE,res98, ↓reduceIte,reduceCtorEq,Nat.reduceEqDiff,Nat.reduceAdd,Nat.reduceMul,Nat.reduceSub,Nat.reduceLeDiff,Nat.reduceBEq,Int.reduceToNat,Int.reduceLE,Int.reduceLT,Int.reduceEq,Int.reduceNe,di]
  obtain ⟨b0,b1⟩:=Lib.atoiAll_bounds ha
  have same:∀ v',atoiAll s.data.toList = .ok v'→v'=v:=fun v' e=>by rw [ha] at e; injection e with e; exact e.symm
  split
  ·rename_i h0
   refine calls_of (z_Itoa b0 b1) ?_; simp only [vaE,res98, ↓reduceIte,reduceCtorEq,Nat.reduceEqDiff,Nat.reduceAdd,Nat.reduceMul,Nat.reduceSub,Nat.reduceLeDiff,Nat.reduceBEq,Int.reduceToNat,Int.reduceLE,Int.reduceLT,Int.reduceEq,Int.reduceNe,di]
   by_cases he:itoaB v=s
   ·rw [if_pos (str_beq.2 he)]
    by_cases h3:(s.size:Int)≤3
    ·rw [okW_yes (by decide) ha h0 he (by omega)]
     simp only [h3]
     rfl
    ·rw [okW_no (by decide) (fun v' e _ _ q=>h3 (by omega))]
     simp only [h3]
     rfl
   ·rw [if_neg (fun e=>he (str_beq.1 e)),okW_no (by decide) (fun v' e _ q _=>he (by rw [← same v' e]; exact q))]
    rfl
  ·rename_i h0
   rw [okW_no (by decide) (fun v' e p _ _=>by have:=same v' e; omega)]
   rfl
 | _ =>
  rw [ha] at c
  refine calls_of c ?_; simp only [vaE,res98, ↓reduceIte,reduceCtorEq,Nat.reduceEqDiff,Nat.reduceAdd,Nat.reduceMul,Nat.reduceSub,Nat.reduceLeDiff,Nat.reduceBEq,Int.reduceToNat,Int.reduceLE,Int.reduceLT,Int.reduceEq,Int.reduceNe,di]
  rw [okW_no (by decide) (fun v e=>by rw [ha] at e; cases e)]
  rfl
structure LnB (x:Ln):Prop where
 pp:∀ p ∈ x.pp,In64 p.1∧In64 p.2
 ar:∀ n ∈ x.ar,In64 n
theorem LnB.at {x:Ln} (h:LnB x) {i:Nat} (hi:i<x.pp.length):In64 (x.pp.getD i default).1∧In64 (x.pp.getD i default).2:=by
 rw [List.getD_eq_getElem?_getD,List.getElem?_eq_getElem hi]
 exact h.pp _ (List.getElem_mem hi)
theorem LnB.area {x:Ln} (h:LnB x) {i:Nat}:In64 (x.ar.getD i 0):=by
 rw [List.getD_eq_getElem?_getD]
 cases hi:x.ar[i]? with
 | none=>exact ⟨by show _≤(0:Int); decide,by show (0:Int)≤_; decide⟩
 | some v=>exact h.ar _ (List.mem_of_getElem? hi)
theorem itoa_len {n:Int} (h:In64 n):(itoa n).length≤21:=itoa_length_le n h.1 h.2
theorem word_len {x:Ln} (h:LnB x):∀ k,k≤x.pp.length→∀ w ∈ wordsTo x k,w.length≤43:=by
 intro k
 induction k with
 | zero=>intro _ w hw; cases hw
 | succ k ihk =>
  intro hk w hw
  unfold wordsTo at hw
  rw [List.mem_append,List.mem_append] at hw
  rcases hw with (hw | hw) | hw
  ·exact ihk (by omega) w hw
  ·split at hw
   ·cases hw
   ·obtain rfl:=List.mem_singleton.1 hw
    have:=itoa_len (h.area (i:=k - 1))
    omega
  ·obtain rfl:=List.mem_singleton.1 hw
   have h1:=itoa_len (h.at (i:=k) (by omega)).1
   have h2:=itoa_len (h.at (i:=k) (by omega)).2
   unfold pipeW
   rw [List.length_append,List.length_cons]
   exact Nat.le_trans (Nat.add_le_add h1 (Nat.add_le_add_right h2 1)) (by decide)
theorem words_len {x:Ln} {i:Nat}:(wordsTo x i).length≤2 * i:=by
 cases i with
 | zero=>exact Nat.le_refl _
 | succ i=>have:=wordsTo_len (x:=x) i; omega
theorem w_FormatLine {x:Ln} (hx:Few x) (hb:LnB x):Contract Tryz.prog 12 [lnI x] (.str (fmtLn x)):=by
 obtain ⟨hx1,hx2⟩:=hx
 refine contract_run Tryz.func12 k12 rfl ?_
 simp only [body12,b12,res12,b12k0,b12k1,b12k2,b12k3,b12k4,vaE, ↓reduceIte,reduceCtorEq,Nat.reduceEqDiff,Nat.reduceAdd,Nat.reduceMul,Nat.reduceSub,Nat.reduceLeDiff,Nat.reduceBEq,Int.reduceToNat,Int.reduceLE,Int.reduceLT,Int.reduceEq,Int.reduceNe,di]
 have hpi:∀ {i:Nat},i<x.pp.length→In64 (x.pp.getD i default).1∧In64 (x.pp.getD i default).2:=fun h=>hb.at h
 have hai:∀ {i:Nat},In64 (x.ar.getD i 0):=hb.area
 have zi:=fun {n:Int} (h:In64 n)=>z_Itoa h.1 h.2
 have il:=fun {n:Int} (h:In64 n)=>itoa_length_le n h.1 h.2
 have wl:∀ {i:Nat},(wordsTo x i).length≤2 * i:=words_len
 refine loop_keep (α:=Nat) rfl (fun i=>x.pp.length - i) (fun i=>i≤x.pp.length)
  (fun i=>[(1,.ref 1 0),(3,.own 3),(8,.imm (.slc 2 (x.pp.map ppI))),(9,.imm (.int .i64 x.pp.length)),(10,.imm (.int .i64 i))])
  (fun i=>[(1,.box [.imm (.slc 2 (x.pp.map ppI)),.imm (nI x.ar)]),(3,.tok 1 ((wordsTo x i).map fun w=>.str (bs w)))]) 0 (Nat.zero_le _) (by simp only [vaE, ↓reduceIte,reduceCtorEq,Nat.reduceEqDiff,Nat.reduceAdd,Nat.reduceMul,Nat.reduceSub,Nat.reduceLeDiff,Nat.reduceBEq,Int.reduceToNat,Int.reduceLE,Int.reduceLT,Int.reduceEq,Int.reduceNe,di] <;> rfl) ?_
 intro i hi ih
 simp only [res12,b12k0,b12k1,b12k2,b12k3,b12k4,vaE, ↓reduceIte,reduceCtorEq,Nat.reduceEqDiff,Nat.reduceAdd,Nat.reduceMul,Nat.reduceSub,Nat.reduceLeDiff,Nat.reduceBEq,Int.reduceToNat,Int.reduceLE,Int.reduceLT,Int.reduceEq,Int.reduceNe,di]
 split
 ·rename_i hlt0
  have hlt:i<x.pp.length:=by omega
  refine ⟨hlt0,?_⟩
  have h1:=(hpi hlt).1
  have h2:=(hpi hlt).2
  have l1:=il h1
  have l2:=il h2
  have hw:(wordsTo x i).length≤2 * i:=wl
  have ih':=fun S R=>ih (i+1) S R (by omega) (by omega)
  have hstep:wordsTo x (i+1)=wordsTo x i ++ (if i=0 then [] else [itoa (x.ar.getD (i - 1) 0)]) ++ [pipeW (x.pp.getD i default)]:=rfl
  generalize x.pp.getD i default=p at h1 h2 l1 l2 hstep ⊢
  have hpw:itoaB p.1 ++ ⟨#[120]⟩ ++ itoaB p.2=bs (pipeW p):=by
   rw [itoaB_bs,itoaB_bs,show (⟨#[120]⟩ : ByteArray)=bs [120] from rfl,bs_append,bs_append]
   unfold pipeW
   rw [List.append_assoc]; rfl
  split
  ·rename_i h0
   rw [if_neg (show ¬ i=0 by omega)] at hstep
   rw [wrapS (n:=(i:Int) - 1) (by omega) (by omega),show ((i:Int) - 1).toNat=i - 1 by omega]
   by_cases hc:(i:Int)≤x.ar.length
   ·rw [if_pos hc]
    refine ⟨by omega,by omega,?_⟩
    refine calls_of (zi (hai (i:=i - 1))) ?_; simp only [vaE,res12,b12k0,b12k1,b12k2,b12k3,b12k4, ↓reduceIte,reduceCtorEq,Nat.reduceEqDiff,Nat.reduceAdd,Nat.reduceMul,Nat.reduceSub,Nat.reduceLeDiff,Nat.reduceBEq,Int.reduceToNat,Int.reduceLE,Int.reduceLT,Int.reduceEq,Int.reduceNe,di]
    refine ⟨by omega,by omega,?_⟩
    refine calls_of (zi h1) ?_; simp only [vaE,res12,b12k0,b12k1,b12k2,b12k3,b12k4, ↓reduceIte,reduceCtorEq,Nat.reduceEqDiff,Nat.reduceAdd,Nat.reduceMul,Nat.reduceSub,Nat.reduceLeDiff,Nat.reduceBEq,Int.reduceToNat,Int.reduceLE,Int.reduceLT,Int.reduceEq,Int.reduceNe,di]
    refine ⟨lim_len (by simp only [itoaB_bs,bs_size,show ByteArray.size ⟨#[120]⟩=1 from rfl]; omega),?_⟩
    refine calls_of (zi h2) ?_; simp only [vaE,res12,b12k0,b12k1,b12k2,b12k3,b12k4, ↓reduceIte,reduceCtorEq,Nat.reduceEqDiff,Nat.reduceAdd,Nat.reduceMul,Nat.reduceSub,Nat.reduceLeDiff,Nat.reduceBEq,Int.reduceToNat,Int.reduceLE,Int.reduceLT,Int.reduceEq,Int.reduceNe,di]
    refine ⟨lim_len (by simp only [itoaB_bs,size_append,bs_size,show ByteArray.size ⟨#[120]⟩=1 from rfl]; omega),?_⟩
    rw [hpw]
    refine ⟨by simp only [List.length_append,List.length_map,List.length_singleton]; omega,by simp only [List.length_append,List.length_map,List.length_singleton]; omega,?_⟩
    rw [wrapS (n:=(i:Int)+1) (by omega) (by omega)]
    refine ih' _ _ ?_
    rw [hstep]
    simp only [List.map_append,vaE, ↓reduceIte,reduceCtorEq,Nat.reduceEqDiff,Nat.reduceAdd,Nat.reduceMul,Nat.reduceSub,Nat.reduceLeDiff,Nat.reduceBEq,Int.reduceToNat,Int.reduceLE,Int.reduceLT,Int.reduceEq,Int.reduceNe,di] <;> rfl
   ·rw [if_neg hc]
    have e0:x.ar.getD (i - 1) 0=0:=by rw [List.getD_eq_getElem?_getD,List.getElem?_eq_none (by omega)]; rfl
    rw [e0] at hstep
    refine calls_of (zi (n:=0) ⟨by decide,by decide⟩) ?_; simp only [vaE,res12,b12k0,b12k1,b12k2,b12k3,b12k4, ↓reduceIte,reduceCtorEq,Nat.reduceEqDiff,Nat.reduceAdd,Nat.reduceMul,Nat.reduceSub,Nat.reduceLeDiff,Nat.reduceBEq,Int.reduceToNat,Int.reduceLE,Int.reduceLT,Int.reduceEq,Int.reduceNe,di]
    refine ⟨by omega,by omega,?_⟩
    refine calls_of (zi h1) ?_; simp only [vaE,res12,b12k0,b12k1,b12k2,b12k3,b12k4, ↓reduceIte,reduceCtorEq,Nat.reduceEqDiff,Nat.reduceAdd,Nat.reduceMul,Nat.reduceSub,Nat.reduceLeDiff,Nat.reduceBEq,Int.reduceToNat,Int.reduceLE,Int.reduceLT,Int.reduceEq,Int.reduceNe,di]
    refine ⟨lim_len (by simp only [itoaB_bs,bs_size,show ByteArray.size ⟨#[120]⟩=1 from rfl]; omega),?_⟩
    refine calls_of (zi h2) ?_; simp only [vaE,res12,b12k0,b12k1,b12k2,b12k3,b12k4, ↓reduceIte,reduceCtorEq,Nat.reduceEqDiff,Nat.reduceAdd,Nat.reduceMul,Nat.reduceSub,Nat.reduceLeDiff,Nat.reduceBEq,Int.reduceToNat,Int.reduceLE,Int.reduceLT,Int.reduceEq,Int.reduceNe,di]
    refine ⟨lim_len (by simp only [itoaB_bs,size_append,bs_size,show ByteArray.size ⟨#[120]⟩=1 from rfl]; omega),?_⟩
    rw [hpw]
    refine ⟨by simp only [List.length_append,List.length_map,List.length_singleton]; omega,by simp only [List.length_append,List.length_map,List.length_singleton]; omega,?_⟩
    rw [wrapS (n:=(i:Int)+1) (by omega) (by omega)]
    refine ih' _ _ ?_
    rw [hstep]
    simp only [List.map_append,vaE, ↓reduceIte,reduceCtorEq,Nat.reduceEqDiff,Nat.reduceAdd,Nat.reduceMul,Nat.reduceSub,Nat.reduceLeDiff,Nat.reduceBEq,Int.reduceToNat,Int.reduceLE,Int.reduceLT,Int.reduceEq,Int.reduceNe,di] <;> rfl
  ·rename_i h0
   obtain rfl:i=0:=by omega
   refine calls_of (zi h1) ?_; simp only [vaE,res12,b12k0,b12k1,b12k2,b12k3,b12k4, ↓reduceIte,reduceCtorEq,Nat.reduceEqDiff,Nat.reduceAdd,Nat.reduceMul,Nat.reduceSub,Nat.reduceLeDiff,Nat.reduceBEq,Int.reduceToNat,Int.reduceLE,Int.reduceLT,Int.reduceEq,Int.reduceNe,di]
   refine ⟨lim_len (by simp only [itoaB_bs,bs_size,show ByteArray.size ⟨#[120]⟩=1 from rfl]; omega),?_⟩
   refine calls_of (zi h2) ?_; simp only [vaE,res12,b12k0,b12k1,b12k2,b12k3,b12k4, ↓reduceIte,reduceCtorEq,Nat.reduceEqDiff,Nat.reduceAdd,Nat.reduceMul,Nat.reduceSub,Nat.reduceLeDiff,Nat.reduceBEq,Int.reduceToNat,Int.reduceLE,Int.reduceLT,Int.reduceEq,Int.reduceNe,di]
   refine ⟨lim_len (by simp only [itoaB_bs,size_append,bs_size,show ByteArray.size ⟨#[120]⟩=1 from rfl]; omega),?_⟩
   rw [hpw]
   repeat (refine And.intro (by omega) ?_)
   refine ih' _ _ ?_
   rw [hstep]
   simp only [List.map_append,vaE, ↓reduceIte,reduceCtorEq,Nat.reduceEqDiff,Nat.reduceAdd,Nat.reduceMul,Nat.reduceSub,Nat.reduceLeDiff,Nat.reduceBEq,Int.reduceToNat,Int.reduceLE,Int.reduceLT,Int.reduceEq,Int.reduceNe,di] <;> rfl
 ·rename_i hge
  obtain rfl:i=x.pp.length:=by omega
  have e:IV.slc 1 ((wordsTo x x.pp.length).map fun w=>IV.str (bs w))=strsI ((wordsTo x x.pp.length).map bs):=by
   unfold strsI
   rw [List.map_map]; rfl
  have e2:((wordsTo x x.pp.length).map bs).map (·.data.toList)=wordsTo x x.pp.length:=by rw [List.map_map]; exact List.map_id _
  have hw:(wordsTo x x.pp.length).length≤2 * x.pp.length:=wl
  have c:=z_Join (l:=(wordsTo x x.pp.length).map bs) (p:=⟨#[32]⟩) (by rw [List.length_map]; omega) (by
   rw [e2]
   have:=join_len (c:=32) (word_len hb _ (Nat.le_refl _))
   show (Lib.join _ [32]).length≤_
   omega)
  rw [e2] at c
  rw [e]
  refine calls_of c ?_; simp only [vaE,res12,b12k0,b12k1,b12k2,b12k3,b12k4, ↓reduceIte,reduceCtorEq,Nat.reduceEqDiff,Nat.reduceAdd,Nat.reduceMul,Nat.reduceSub,Nat.reduceLeDiff,Nat.reduceBEq,Int.reduceToNat,Int.reduceLE,Int.reduceLT,Int.reduceEq,Int.reduceNe,di]
  rfl
theorem parse_no {w:List ByteArray} (h:¬ (w.length % 2=1∧goodTo w w.length)):parseLn w=(⟨[],[]⟩,7):=by
 unfold parseLn
 rw [if_neg h]
theorem tmod2 {n:Nat}:Int.tmod (n:Int) 2=((n % 2:Nat):Int):=rfl
theorem step_b {p:Prop} [Decidable p] {g a b:Bool} (hb:b=decide (p∧g=true)):(b && a)=decide (p∧(g && a)=true):=by
 rw [hb]
 by_cases hp:p <;> simp [hp]
set_option maxHeartbeats 1000000 in
theorem w_ParseLine {s:ByteArray} (hs:s.size≤1000):Contract Tryz.prog 14 [.str s] (.tup [lnI (parseLn (cutS 32 s)).1,.int .i64 (parseLn (cutS 32 s)).2]):=by
 refine contract_run Tryz.func14 k14 rfl ?_
 simp only [body14,b14,res14,b14k0,b14k1,b14k2,b14k3,b14k4,b14k5,vaE, ↓reduceIte,reduceCtorEq,Nat.reduceEqDiff,Nat.reduceAdd,Nat.reduceMul,Nat.reduceSub,Nat.reduceLeDiff,Nat.reduceBEq,Int.reduceToNat,Int.reduceLE,Int.reduceLT,Int.reduceEq,Int.reduceNe,di]
 refine calls_of (z_Split (s:=s) (c:=32) (by omega)) ?_; simp only [vaE,res14,b14k0,b14k1,b14k2,b14k3,b14k4,b14k5, ↓reduceIte,reduceCtorEq,Nat.reduceEqDiff,Nat.reduceAdd,Nat.reduceMul,Nat.reduceSub,Nat.reduceLeDiff,Nat.reduceBEq,Int.reduceToNat,Int.reduceLE,Int.reduceLT,Int.reduceEq,Int.reduceNe,di]
 have hsz:=fun i=>cutS_size (c:=32) (s:=s) (i:=i)
 have hln:=cutS_len (c:=32) (s:=s)
 generalize cutS 32 s=w at hsz hln ⊢
 simp only [strsI,List.length_map,vaE, ↓reduceIte,reduceCtorEq,Nat.reduceEqDiff,Nat.reduceAdd,Nat.reduceMul,Nat.reduceSub,Nat.reduceLeDiff,Nat.reduceBEq,Int.reduceToNat,Int.reduceLE,Int.reduceLT,Int.reduceEq,Int.reduceNe,di]
 refine loop_keep (α:=Nat × Bool × List Pp × List Int) rfl (fun q=>w.length - q.1)
  (fun q=>(q.1≤w.length∧q.2.2.1.length≤q.1∧q.2.2.2.length≤q.1)∧q.2.1=decide (w.length % 2=1∧goodTo w q.1=true)∧(goodTo w q.1=true→q.2.2.1=pipesTo w q.1∧q.2.2.2=areasTo w q.1))
  (fun q=>[(2,.ref 2 0),(5,.imm (.bool q.2.1)),(6,.ref 6 0),(26,.imm (.slc 1 (w.map fun s=>.str s))),(27,.imm (.int .i64 w.length)),(28,.imm (.int .i64 q.1))])
  (fun q=>[(2,.box [.imm (.slc 2 []),.imm (.slc 1 [])]),(6,.box [.own 1006,.own 1007]),(1006,.tok 2 (q.2.2.1.map ppI)),(1007,.tok 1 (q.2.2.2.map (.int .i64)))]) (0,decide (w.length % 2=1∧goodTo w 0=true),[],[]) ⟨⟨Nat.zero_le _,Nat.le_refl _,Nat.le_refl _⟩,rfl,fun _=>⟨rfl,rfl⟩⟩ (by
   have e:decide ((w.length:Int).tmod 2=1)=decide (w.length % 2=1∧goodTo w 0=true):=by
    rw [tmod2,decide_eq_decide]
    exact ⟨fun h=>⟨by omega,rfl⟩,fun h=>by omega⟩
   simp only [vaE, ↓reduceIte,reduceCtorEq,Nat.reduceEqDiff,Nat.reduceAdd,Nat.reduceMul,Nat.reduceSub,Nat.reduceLeDiff,Nat.reduceBEq,Int.reduceToNat,Int.reduceLE,Int.reduceLT,Int.reduceEq,Int.reduceNe,di] <;> rw [e] <;> rfl) ?_
 rintro ⟨i,b,pp,ar⟩ ⟨⟨hi,hp1,ha1⟩,hb,hg⟩ ih
 dsimp only at hi hp1 ha1 hb hg ⊢
 simp only [res14,b14k0,b14k1,b14k2,b14k3,b14k4,b14k5,vaE, ↓reduceIte,reduceCtorEq,Nat.reduceEqDiff,Nat.reduceAdd,Nat.reduceMul,Nat.reduceSub,Nat.reduceLeDiff,Nat.reduceBEq,Int.reduceToNat,Int.reduceLE,Int.reduceLT,Int.reduceEq,Int.reduceNe,di]
 split
 ·rename_i hlt0
  have hlt:i<w.length:=by omega
  refine ⟨hlt0,?_⟩
  rw [tmod2]
  have hx:=hsz i
  have hat:goodAt w i=if i % 2=1 then (okW 3 (w.getD i default)).isSome else (pipeP (w.getD i default)).isSome:=rfl
  have hpt:pipesTo w (i+1)=if i % 2=1 then pipesTo w i else pipesTo w i ++ [(pipeP (w.getD i default)).getD (0,0)]:=rfl
  have hart:areasTo w (i+1)=if i % 2=1 then areasTo w i ++ [(okW 3 (w.getD i default)).getD 0] else areasTo w i:=rfl
  generalize w.getD i default=x at hx hat hpt hart ⊢
  split
  ·rename_i hodd
   rw [if_pos (show i % 2=1 by omega)] at hat hpt hart
   refine calls_of (w_number (s:=x) (by omega)) ?_; simp only [vaE,res14,b14k0,b14k1,b14k2,b14k3,b14k4,b14k5, ↓reduceIte,reduceCtorEq,Nat.reduceEqDiff,Nat.reduceAdd,Nat.reduceMul,Nat.reduceSub,Nat.reduceLeDiff,Nat.reduceBEq,Int.reduceToNat,Int.reduceLE,Int.reduceLT,Int.reduceEq,Int.reduceNe,di]
   refine ⟨by omega,by omega,?_⟩
   rw [wrapS (n:=(i:Int)+1) (by omega) (by omega)]
   have hgo:goodTo w (i+1)=(goodTo w i && (okW 3 x).isSome):=by rw [← hat]; rfl
   have ih':=fun b0 (h0:b0=(b && (okW 3 x).isSome)) S R=>ih (i+1,b0,pp,ar ++ [numV x]) S R (by dsimp only; omega) ⟨⟨by dsimp only; omega,by dsimp only; omega,by dsimp only; rw [List.length_append,List.length_singleton]; omega⟩,by dsimp only; rw [h0,hgo]; exact step_b hb,fun h=>by
    dsimp only at h ⊢
    rw [hgo,Bool.and_eq_true] at h
    obtain ⟨v,hv⟩:=Option.isSome_iff_exists.1 h.2
    rw [hpt,hart,hv,(hg h.1).1,(hg h.1).2,numV_ok (by decide) hv]
    exact ⟨rfl,rfl⟩⟩
   dsimp only at ih'
   by_cases hbt:b=true
   ·rw [if_pos hbt]
    exact ih' (okW 3 x).isSome (by rw [hbt,Bool.true_and]) _ _ (by rw [List.map_append]; simp only [vaE, ↓reduceIte,reduceCtorEq,Nat.reduceEqDiff,Nat.reduceAdd,Nat.reduceMul,Nat.reduceSub,Nat.reduceLeDiff,Nat.reduceBEq,Int.reduceToNat,Int.reduceLE,Int.reduceLT,Int.reduceEq,Int.reduceNe,di] <;> rfl)
   ·rw [if_neg hbt]
    exact ih' false (by rw [show b=false by simpa using hbt,Bool.false_and]) _ _ (by rw [List.map_append]; simp only [vaE, ↓reduceIte,reduceCtorEq,Nat.reduceEqDiff,Nat.reduceAdd,Nat.reduceMul,Nat.reduceSub,Nat.reduceLeDiff,Nat.reduceBEq,Int.reduceToNat,Int.reduceLE,Int.reduceLT,Int.reduceEq,Int.reduceNe,di] <;> rfl)
  ·rename_i hev
   rw [if_neg (show ¬ i % 2=1 by omega)] at hat hpt hart
   have cc:=z_Cut (s:=x) (p:=⟨#[120]⟩) (by omega)
   rw [show (ByteArray.mk #[120]).data.toList=[120] from rfl] at cc
   have hpc:=pipeP_cut x
   have hq1:(bs (Lib.cut x.data.toList [120]).1).size≤x.size∧(bs (Lib.cut x.data.toList [120]).2.1).size≤x.size:=by
    rw [cut_one]
    split
    ·simp only [bs_size,List.length_take,List.length_drop,str_size]
     omega
    ·simp only [bs_size,str_size]
     exact ⟨Nat.le_refl _,Nat.zero_le _⟩
   generalize Lib.cut x.data.toList [120]=q at cc hpc hq1
   obtain ⟨qa,qb,fd⟩:=q
   dsimp only at cc hpc hq1
   refine calls_of cc ?_; simp only [vaE,res14,b14k0,b14k1,b14k2,b14k3,b14k4,b14k5, ↓reduceIte,reduceCtorEq,Nat.reduceEqDiff,Nat.reduceAdd,Nat.reduceMul,Nat.reduceSub,Nat.reduceLeDiff,Nat.reduceBEq,Int.reduceToNat,Int.reduceLE,Int.reduceLT,Int.reduceEq,Int.reduceNe,di]
   refine calls_of (w_number (s:=bs qa) (by omega)) ?_; simp only [vaE,res14,b14k0,b14k1,b14k2,b14k3,b14k4,b14k5, ↓reduceIte,reduceCtorEq,Nat.reduceEqDiff,Nat.reduceAdd,Nat.reduceMul,Nat.reduceSub,Nat.reduceLeDiff,Nat.reduceBEq,Int.reduceToNat,Int.reduceLE,Int.reduceLT,Int.reduceEq,Int.reduceNe,di]
   refine calls_of (w_number (s:=bs qb) (by omega)) ?_; simp only [vaE,res14,b14k0,b14k1,b14k2,b14k3,b14k4,b14k5, ↓reduceIte,reduceCtorEq,Nat.reduceEqDiff,Nat.reduceAdd,Nat.reduceMul,Nat.reduceSub,Nat.reduceLeDiff,Nat.reduceBEq,Int.reduceToNat,Int.reduceLE,Int.reduceLT,Int.reduceEq,Int.reduceNe,di]
   refine ⟨by omega,by omega,?_⟩
   rw [wrapS (n:=(i:Int)+1) (by omega) (by omega)]
   have hgo:goodTo w (i+1)=(goodTo w i && (pipeP x).isSome):=by rw [← hat]; rfl
   have ih':=fun b0 (h0:b0=(b && (pipeP x).isSome)) S R=>ih (i+1,b0,pp ++ [(numV (bs qa),numV (bs qb))],ar) S R (by dsimp only; omega) ⟨⟨by dsimp only; omega,by dsimp only; rw [List.length_append,List.length_singleton]; omega,by dsimp only; omega⟩,by dsimp only; rw [h0,hgo]; exact step_b hb,fun h=>by
    dsimp only at h ⊢
    rw [hgo,Bool.and_eq_true] at h
    obtain ⟨v,hv⟩:=Option.isSome_iff_exists.1 h.2
    rw [hpt,hart,hv,(hg h.1).1,(hg h.1).2]
    refine ⟨?_,rfl⟩
    rw [hpc] at hv
    split at hv
    ·cases h1:okW 3 (bs qa) with
     | none=>rw [h1] at hv; cases hv
     | some m =>
      cases h2:okW 3 (bs qb) with
      | none=>rw [h1,h2] at hv; cases hv
      | some n =>
       rw [h1,h2] at hv
       rw [numV_ok (by decide) h1,numV_ok (by decide) h2,← Option.some.inj hv]
       rfl
    ·cases hv⟩
   dsimp only at ih'
   by_cases hbt:b=true∧fd=true∧(okW 3 (bs qa)).isSome=true
   ·rw [if_pos hbt]
    exact ih' (okW 3 (bs qb)).isSome (by
     obtain ⟨v,hv⟩:=Option.isSome_iff_exists.1 hbt.2.2
     rw [hbt.1,hpc,if_pos hbt.2.1,hv]
     cases okW 3 (bs qb) <;> rfl) _ _ (by rw [List.map_append]; simp only [vaE, ↓reduceIte,reduceCtorEq,Nat.reduceEqDiff,Nat.reduceAdd,Nat.reduceMul,Nat.reduceSub,Nat.reduceLeDiff,Nat.reduceBEq,Int.reduceToNat,Int.reduceLE,Int.reduceLT,Int.reduceEq,Int.reduceNe,di] <;> rfl)
   ·rw [if_neg hbt]
    exact ih' false (by
     rw [hpc]
     by_cases h1:b=true
     ·by_cases h2:fd=true
      ·have h3:okW 3 (bs qa)=none:=by
        cases h:okW 3 (bs qa) with
        | none=>rfl
        | some v=>exact absurd ⟨h1,h2,by rw [h]; rfl⟩ hbt
       rw [if_pos h2,h3,h1]; rfl
      ·rw [if_neg h2,h1]; rfl
     ·rw [show b=false by simpa using h1]; rfl) _ _ (by rw [List.map_append]; simp only [vaE, ↓reduceIte,reduceCtorEq,Nat.reduceEqDiff,Nat.reduceAdd,Nat.reduceMul,Nat.reduceSub,Nat.reduceLeDiff,Nat.reduceBEq,Int.reduceToNat,Int.reduceLE,Int.reduceLT,Int.reduceEq,Int.reduceNe,di] <;> rfl)
 ·rename_i hge
  obtain rfl:i=w.length:=by omega
  by_cases hok:w.length % 2=1∧goodTo w w.length=true
  ·rw [decide_eq_true hok] at hb
   obtain ⟨e1,e2⟩:=hg hok.2
   have hP:parseLn w=if (chkL ⟨pp,ar⟩).2=0 then (⟨pp,ar⟩,0) else (⟨[],[]⟩,(chkL ⟨pp,ar⟩).2):=by
    unfold parseLn
    rw [if_pos hok,e1,e2]
   subst hb
   have c:=w_CheckLine (x:=⟨pp,ar⟩) ⟨by dsimp only; omega,by dsimp only; omega⟩
   rw [hP]
   simp only [vaE, ↓reduceIte,reduceCtorEq,Nat.reduceEqDiff,Nat.reduceAdd,Nat.reduceMul,Nat.reduceSub,Nat.reduceLeDiff,Nat.reduceBEq,Int.reduceToNat,Int.reduceLE,Int.reduceLT,Int.reduceEq,Int.reduceNe,di]
   refine calls_of c ?_; simp only [vaE,res14,b14k0,b14k1,b14k2,b14k3,b14k4,b14k5, ↓reduceIte,reduceCtorEq,Nat.reduceEqDiff,Nat.reduceAdd,Nat.reduceMul,Nat.reduceSub,Nat.reduceLeDiff,Nat.reduceBEq,Int.reduceToNat,Int.reduceLE,Int.reduceLT,Int.reduceEq,Int.reduceNe,di]
   split <;> rfl
  ·rw [decide_eq_false hok] at hb
   subst hb
   rw [parse_no hok]
   simp only [vaE, ↓reduceIte,reduceCtorEq,Nat.reduceEqDiff,Nat.reduceAdd,Nat.reduceMul,Nat.reduceSub,Nat.reduceLeDiff,Nat.reduceBEq,Int.reduceToNat,Int.reduceLE,Int.reduceLT,Int.reduceEq,Int.reduceNe,di]
end Go.DI


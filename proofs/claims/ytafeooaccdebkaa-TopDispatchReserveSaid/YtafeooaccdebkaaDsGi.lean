/- The statement as a contract. No condition. -/
import Derived.Test.YtafeooaccdebkaaDsGh
/- Contracts: copies, powers that follow, their settlement, the examples. No condition. -/
set_option linter.unusedSimpArgs false
namespace Go.DI
open Go.Proofs Go.RowKit
theorem c_Size {n:Int} (h : -1000000000≤n∧n≤1000000000):Contract Try.prog 18 [.int .i64 n] (.int .i64 (n.natAbs:Int)):=by
 refine contract_run Try.func18 k18 rfl ?_
 simp only [body18,b18,res18, ↓reduceIte,reduceCtorEq,Nat.reduceEqDiff,Nat.reduceAdd,Nat.reduceMul,Nat.reduceSub,Nat.reduceLeDiff,Nat.reduceBEq,Int.reduceToNat,Int.reduceLE,Int.reduceLT,Int.reduceEq,Int.reduceNe,di]
 rw [wrap64 (n:=0 - n) (by omega) (by omega),show max n (0 - n)=(n.natAbs:Int) by omega]
theorem d_size {n:Int} (h : -1000000000≤n∧n≤1000000000):Contract Try.prog 34 [.int .i64 n] (.int .i64 (n.natAbs:Int)):=by
 refine contract_run Try.func34 k34 rfl ?_
 simp only [body34,b34,res34, ↓reduceIte,reduceCtorEq,Nat.reduceEqDiff,Nat.reduceAdd,Nat.reduceMul,Nat.reduceSub,Nat.reduceLeDiff,Nat.reduceBEq,Int.reduceToNat,Int.reduceLE,Int.reduceLT,Int.reduceEq,Int.reduceNe,di]
 rw [wrap64 (n:=0 - n) (by omega) (by omega),show max n (0 - n)=(n.natAbs:Int) by omega]
theorem c_ModZ {n d:Int} (hd : 0<d) (hd2:d≤1000000000) (hn:In64 n):Contract Try.prog 16 [.int .i64 n,.int .i64 d] (.int .i64 (n % d)):=by
 obtain ⟨n1,n2⟩:=hn
 have h1:=Int.emod_nonneg n (show d ≠ 0 by omega)
 have h2:=Int.emod_lt_of_pos n hd
 refine contract_run Try.func16 k16 rfl ?_
 simp only [body16,b16,res16,b16k0, ↓reduceIte,reduceCtorEq,Nat.reduceEqDiff,Nat.reduceAdd,Nat.reduceMul,Nat.reduceSub,Nat.reduceLeDiff,Nat.reduceBEq,Int.reduceToNat,Int.reduceLE,Int.reduceLT,Int.reduceEq,Int.reduceNe,di]
 refine ⟨by omega,?_⟩
 rw [Int.tmod_eq_emod]
 by_cases hc : 0≤n∨d ∣ n
 ·rw [if_pos hc,show n % d - ((0:Nat):Int)=n % d by omega,if_neg (by omega)]
 ·have e:((d.natAbs:Nat):Int)=d:=by omega
  rw [if_neg hc,e,if_pos (by omega),wrap64 (by omega) (by omega),show n % d - d+d=n % d by omega]
theorem c_CopyInts {l:List Int} (hl:l.length≤1000000000):Contract Try.prog 15 [snI l] (snI l):=by
 refine contract_run Try.func15 k15 rfl ?_
 simp only [body15,b15,res15,mdI,hrI,plI,tkI,wkI,hdI,snI, ↓reduceIte,reduceCtorEq,Nat.reduceEqDiff,Nat.reduceAdd,Nat.reduceMul,Nat.reduceSub,Nat.reduceLeDiff,Nat.reduceBEq,Int.reduceToNat,Int.reduceLE,Int.reduceLT,Int.reduceEq,Int.reduceNe,di]
 exact ⟨by omega,by omega⟩
theorem c_CopyN {l:List Nat} (hl:l.length≤1000000000):Contract Try.prog 15 [pnI l] (pnI l):=by
 refine contract_run Try.func15 k15 rfl ?_
 simp only [body15,b15,res15,pnI,mdI,hrI,plI,tkI,wkI,hdI,snI, ↓reduceIte,reduceCtorEq,Nat.reduceEqDiff,Nat.reduceAdd,Nat.reduceMul,Nat.reduceSub,Nat.reduceLeDiff,Nat.reduceBEq,Int.reduceToNat,Int.reduceLE,Int.reduceLT,Int.reduceEq,Int.reduceNe,di]
 exact ⟨by omega,by omega⟩
theorem r_CopyPlant {w:Wk} (hl:w.ms.length≤1000000000):Contract Try.prog 11 [plI w] (plI w):=by
 refine contract_run Try.func11 k11 rfl ?_
 simp only [body11,b11,res11,mdI,hrI,plI,tkI,wkI,hdI,snI, ↓reduceIte,reduceCtorEq,Nat.reduceEqDiff,Nat.reduceAdd,Nat.reduceMul,Nat.reduceSub,Nat.reduceLeDiff,Nat.reduceBEq,Int.reduceToNat,Int.reduceLE,Int.reduceLT,Int.reduceEq,Int.reduceNe,di]
 exact ⟨by omega,by omega⟩
theorem r_CopyTask {w:Wk} (hl:w.hs.length≤1000000000):Contract Try.prog 12 [tkI w] (tkI w):=by
 refine contract_run Try.func12 k12 rfl ?_
 simp only [body12,b12,res12,mdI,hrI,plI,tkI,wkI,hdI,snI, ↓reduceIte,reduceCtorEq,Nat.reduceEqDiff,Nat.reduceAdd,Nat.reduceMul,Nat.reduceSub,Nat.reduceLeDiff,Nat.reduceBEq,Int.reduceToNat,Int.reduceLE,Int.reduceLT,Int.reduceEq,Int.reduceNe,di]
 exact ⟨by omega,by omega⟩
theorem c_IntsT {a:List Int} (ha:a.length≤1000000000):Contract Try.prog 20 [snI a,snI a] (.bool true):=by
 refine contract_run Try.func20 k20 rfl ?_
 simp only [body20,b20,res20,b20k0,b20k1,b20k2,b20k3,mdI,hrI,plI,tkI,wkI,hdI,snI, ↓reduceIte,reduceCtorEq,Nat.reduceEqDiff,Nat.reduceAdd,Nat.reduceMul,Nat.reduceSub,Nat.reduceLeDiff,Nat.reduceBEq,Int.reduceToNat,Int.reduceLE,Int.reduceLT,Int.reduceEq,Int.reduceNe,di]
 refine loop_keep (α:=Nat) rfl (fun i=>a.length - i) (fun i=>i≤a.length)
  (fun i=>[(0,.imm (snI a)),(1,.imm (snI a)),(5,.imm (.int .i64 i))]) (fun _=>[]) 0 (Nat.zero_le _) (by simp only [mdI,hrI,plI,tkI,wkI,hdI,snI, ↓reduceIte,reduceCtorEq,Nat.reduceEqDiff,Nat.reduceAdd,Nat.reduceMul,Nat.reduceSub,Nat.reduceLeDiff,Nat.reduceBEq,Int.reduceToNat,Int.reduceLE,Int.reduceLT,Int.reduceEq,Int.reduceNe,di] <;> rfl) ?_
 intro i hi ih
 simp only [res20,b20k0,b20k1,b20k2,b20k3,mdI,hrI,plI,tkI,wkI,hdI,snI, ↓reduceIte,reduceCtorEq,Nat.reduceEqDiff,Nat.reduceAdd,Nat.reduceMul,Nat.reduceSub,Nat.reduceLeDiff,Nat.reduceBEq,Int.reduceToNat,Int.reduceLE,Int.reduceLT,Int.reduceEq,Int.reduceNe,di]
 split
 ·rename_i h
  repeat (refine And.intro (by omega) ?_)
  rw [wrap64 (by omega) (by omega)]
  exact ih (i+1) _ _ (by omega) (by omega) (by simp only [mdI,hrI,plI,tkI,wkI,hdI,snI, ↓reduceIte,reduceCtorEq,Nat.reduceEqDiff,Nat.reduceAdd,Nat.reduceMul,Nat.reduceSub,Nat.reduceLeDiff,Nat.reduceBEq,Int.reduceToNat,Int.reduceLE,Int.reduceLT,Int.reduceEq,Int.reduceNe,di] <;> rfl)
 ·trivial
theorem d_isPowerT {x:Int} (h:Wi x (-1000000) 1000000):Contract Try.prog 32 [.int .i64 x] (.bool true):=by
 refine contract_run Try.func32 k32 rfl ?_
 simp only [body32,b32,res32, ↓reduceIte,reduceCtorEq,Nat.reduceEqDiff,Nat.reduceAdd,Nat.reduceMul,Nat.reduceSub,Nat.reduceLeDiff,Nat.reduceBEq,Int.reduceToNat,Int.reduceLE,Int.reduceLT,Int.reduceEq,Int.reduceNe,di]
 refine calls_of (d_isSizedT (m:=1000000) (by omega) h) ?_; simp only [res32, ↓reduceIte,reduceCtorEq,Nat.reduceEqDiff,Nat.reduceAdd,Nat.reduceMul,Nat.reduceSub,Nat.reduceLeDiff,Nat.reduceBEq,Int.reduceToNat,Int.reduceLE,Int.reduceLT,Int.reduceEq,Int.reduceNe,di]
theorem d_strange {x:Int} (h:Wi x (-1000000) 1000000):Contract Try.prog 47 [.int .i64 x] (.bool false):=by
 refine contract_run Try.func47 k47 rfl ?_
 simp only [body47,b47,res47, ↓reduceIte,reduceCtorEq,Nat.reduceEqDiff,Nat.reduceAdd,Nat.reduceMul,Nat.reduceSub,Nat.reduceLeDiff,Nat.reduceBEq,Int.reduceToNat,Int.reduceLE,Int.reduceLT,Int.reduceEq,Int.reduceNe,di]
 refine calls_of (d_isPowerT h) ?_; simp only [res47, ↓reduceIte,reduceCtorEq,Nat.reduceEqDiff,Nat.reduceAdd,Nat.reduceMul,Nat.reduceSub,Nat.reduceLeDiff,Nat.reduceBEq,Int.reduceToNat,Int.reduceLE,Int.reduceLT,Int.reduceEq,Int.reduceNe,di]
theorem d_IndexI {g:FuncId} {caps:List IV} {l:List Int} (hl:l.length≤1000000000) (hp:∀ x ∈ l,Contract Try.prog g (.int .i64 x :: caps) (.bool false)) :
  Contract Try.prog 56 [snI l,.func g [] caps] (.int .i64 (-1)):=by
 refine contract_run Try.func56 k56 rfl ?_
 simp only [body56,b56,res56,b56k0,b56k1,b56k2,mdI,hrI,plI,tkI,wkI,hdI,snI, ↓reduceIte,reduceCtorEq,Nat.reduceEqDiff,Nat.reduceAdd,Nat.reduceMul,Nat.reduceSub,Nat.reduceLeDiff,Nat.reduceBEq,Int.reduceToNat,Int.reduceLE,Int.reduceLT,Int.reduceEq,Int.reduceNe,di]
 refine loop_keep (α:=Nat) rfl (fun i=>l.length - i) (fun i=>i≤l.length)
  (fun i=>[(0,.imm (snI l)),(1,.imm (.func g [] caps)),(7,.imm (.int .i64 l.length)),(8,.imm (.int .i64 i))]) (fun _=>[]) 0 (Nat.zero_le _) (by simp only [mdI,hrI,plI,tkI,wkI,hdI,snI, ↓reduceIte,reduceCtorEq,Nat.reduceEqDiff,Nat.reduceAdd,Nat.reduceMul,Nat.reduceSub,Nat.reduceLeDiff,Nat.reduceBEq,Int.reduceToNat,Int.reduceLE,Int.reduceLT,Int.reduceEq,Int.reduceNe,di,List.length_map] <;> rfl) ?_
 intro i hi ih
 simp only [res56,b56k0,b56k1,b56k2,mdI,hrI,plI,tkI,wkI,hdI,snI, ↓reduceIte,reduceCtorEq,Nat.reduceEqDiff,Nat.reduceAdd,Nat.reduceMul,Nat.reduceSub,Nat.reduceLeDiff,Nat.reduceBEq,Int.reduceToNat,Int.reduceLE,Int.reduceLT,Int.reduceEq,Int.reduceNe,di]
 split
 ·rename_i h
  have hc:=hp _ (getD_mem (show i<l.length by omega))
  refine ⟨h,?_⟩
  refine calls_of hc ?_; simp only [mdI,hrI,plI,tkI,wkI,hdI,snI,res56,b56k0,b56k1,b56k2, ↓reduceIte,reduceCtorEq,Nat.reduceEqDiff,Nat.reduceAdd,Nat.reduceMul,Nat.reduceSub,Nat.reduceLeDiff,Nat.reduceBEq,Int.reduceToNat,Int.reduceLE,Int.reduceLT,Int.reduceEq,Int.reduceNe,di]
  rw [wrap64 (by omega) (by omega)]
  exact ih (i+1) _ _ (by omega) (by omega) (by simp only [mdI,hrI,plI,tkI,wkI,hdI,snI, ↓reduceIte,reduceCtorEq,Nat.reduceEqDiff,Nat.reduceAdd,Nat.reduceMul,Nat.reduceSub,Nat.reduceLeDiff,Nat.reduceBEq,Int.reduceToNat,Int.reduceLE,Int.reduceLT,Int.reduceEq,Int.reduceNe,di] <;> rfl)
 ·trivial
theorem d_ContainsI {g:FuncId} {caps:List IV} {l:List Int} (hl:l.length≤1000000000) (hp:∀ x ∈ l,Contract Try.prog g (.int .i64 x :: caps) (.bool false)) :
  Contract Try.prog 43 [snI l,.func g [] caps] (.bool false):=by
 have h:=d_IndexI hl hp
 simp only [snI] at h
 refine contract_run Try.func43 k43 rfl ?_
 simp only [body43,b43,res43,mdI,hrI,plI,tkI,wkI,hdI,snI, ↓reduceIte,reduceCtorEq,Nat.reduceEqDiff,Nat.reduceAdd,Nat.reduceMul,Nat.reduceSub,Nat.reduceLeDiff,Nat.reduceBEq,Int.reduceToNat,Int.reduceLE,Int.reduceLT,Int.reduceEq,Int.reduceNe,di]
 refine calls_of h ?_; simp only [mdI,hrI,plI,tkI,wkI,hdI,snI,res43, ↓reduceIte,reduceCtorEq,Nat.reduceEqDiff,Nat.reduceAdd,Nat.reduceMul,Nat.reduceSub,Nat.reduceLeDiff,Nat.reduceBEq,Int.reduceToNat,Int.reduceLE,Int.reduceLT,Int.reduceEq,Int.reduceNe,di]
def PwOk (l:List Int):Prop:=l.length≤300∧∀ x ∈ l, -1000000≤x∧x≤1000000
theorem d_powersErr {l:List Int} (h:PwOk l):Contract Try.prog 33 [snI l] (.int .i64 0):=by
 have h1:=h.1
 have hc:=d_ContainsI (g:=47) (caps:=[]) (by omega) (fun x hx=>d_strange (h.2 x hx))
 simp only [snI] at hc
 refine contract_run Try.func33 k33 rfl ?_
 simp only [body33,b33,res33,mdI,hrI,plI,tkI,wkI,hdI,snI, ↓reduceIte,reduceCtorEq,Nat.reduceEqDiff,Nat.reduceAdd,Nat.reduceMul,Nat.reduceSub,Nat.reduceLeDiff,Nat.reduceBEq,Int.reduceToNat,Int.reduceLE,Int.reduceLT,Int.reduceEq,Int.reduceNe,di]
 refine calls_of hc ?_; simp only [mdI,hrI,plI,tkI,wkI,hdI,snI,res33, ↓reduceIte,reduceCtorEq,Nat.reduceEqDiff,Nat.reduceAdd,Nat.reduceMul,Nat.reduceSub,Nat.reduceLeDiff,Nat.reduceBEq,Int.reduceToNat,Int.reduceLE,Int.reduceLT,Int.reduceEq,Int.reduceNe,di]
 refine calls_of (d_unlessP (show (l.length:Int)≤300 by omega)) ?_; simp only [mdI,hrI,plI,tkI,wkI,hdI,snI,res33, ↓reduceIte,reduceCtorEq,Nat.reduceEqDiff,Nat.reduceAdd,Nat.reduceMul,Nat.reduceSub,Nat.reduceLeDiff,Nat.reduceBEq,Int.reduceToNat,Int.reduceLE,Int.reduceLT,Int.reduceEq,Int.reduceNe,di]
 refine calls_of d_unless ?_; simp only [mdI,hrI,plI,tkI,wkI,hdI,snI,res33, ↓reduceIte,reduceCtorEq,Nat.reduceEqDiff,Nat.reduceAdd,Nat.reduceMul,Nat.reduceSub,Nat.reduceLeDiff,Nat.reduceBEq,Int.reduceToNat,Int.reduceLE,Int.reduceLT,Int.reduceEq,Int.reduceNe,di]
 refine calls_of (d_first (l:=[0,0]) (by decide) (by decide)) ?_; simp only [mdI,hrI,plI,tkI,wkI,hdI,snI,res33, ↓reduceIte,reduceCtorEq,Nat.reduceEqDiff,Nat.reduceAdd,Nat.reduceMul,Nat.reduceSub,Nat.reduceLeDiff,Nat.reduceBEq,Int.reduceToNat,Int.reduceLE,Int.reduceLT,Int.reduceEq,Int.reduceNe,di]
theorem d_Followed {s r:Int} {l:List Int} (hs:Wi s (-1000000) 1000000) (hr:Wi r 0 1000000) (h:PwOk l):Contract Try.prog 19 [.int .i64 s,.int .i64 r,snI l] (.tup [snI (folP r s l),.int .i64 0]):=by
 have h1:=h.1
 have hp:=d_powersErr h
 obtain ⟨r0,r1⟩:=hr
 simp only [snI] at hp
 refine contract_run Try.func19 k19 rfl ?_
 simp only [body19,b19,res19,b19k0,b19k1,b19k2,mdI,hrI,plI,tkI,wkI,hdI,snI, ↓reduceIte,reduceCtorEq,Nat.reduceEqDiff,Nat.reduceAdd,Nat.reduceMul,Nat.reduceSub,Nat.reduceLeDiff,Nat.reduceBEq,Int.reduceToNat,Int.reduceLE,Int.reduceLT,Int.reduceEq,Int.reduceNe,di]
 refine calls_of (d_isPowerT hs) ?_; simp only [mdI,hrI,plI,tkI,wkI,hdI,snI,res19,b19k0,b19k1,b19k2, ↓reduceIte,reduceCtorEq,Nat.reduceEqDiff,Nat.reduceAdd,Nat.reduceMul,Nat.reduceSub,Nat.reduceLeDiff,Nat.reduceBEq,Int.reduceToNat,Int.reduceLE,Int.reduceLT,Int.reduceEq,Int.reduceNe,di]
 refine calls_of (d_withinT (show Wi r 0 1000000 from ⟨r0,r1⟩)) ?_; simp only [mdI,hrI,plI,tkI,wkI,hdI,snI,res19,b19k0,b19k1,b19k2, ↓reduceIte,reduceCtorEq,Nat.reduceEqDiff,Nat.reduceAdd,Nat.reduceMul,Nat.reduceSub,Nat.reduceLeDiff,Nat.reduceBEq,Int.reduceToNat,Int.reduceLE,Int.reduceLT,Int.reduceEq,Int.reduceNe,di]
 refine calls_of d_unless ?_; simp only [mdI,hrI,plI,tkI,wkI,hdI,snI,res19,b19k0,b19k1,b19k2, ↓reduceIte,reduceCtorEq,Nat.reduceEqDiff,Nat.reduceAdd,Nat.reduceMul,Nat.reduceSub,Nat.reduceLeDiff,Nat.reduceBEq,Int.reduceToNat,Int.reduceLE,Int.reduceLT,Int.reduceEq,Int.reduceNe,di]
 refine calls_of hp ?_; simp only [mdI,hrI,plI,tkI,wkI,hdI,snI,res19,b19k0,b19k1,b19k2, ↓reduceIte,reduceCtorEq,Nat.reduceEqDiff,Nat.reduceAdd,Nat.reduceMul,Nat.reduceSub,Nat.reduceLeDiff,Nat.reduceBEq,Int.reduceToNat,Int.reduceLE,Int.reduceLT,Int.reduceEq,Int.reduceNe,di]
 refine calls_of (d_first (l:=[0,0]) (by decide) (by decide)) ?_; simp only [mdI,hrI,plI,tkI,wkI,hdI,snI,res19,b19k0,b19k1,b19k2, ↓reduceIte,reduceCtorEq,Nat.reduceEqDiff,Nat.reduceAdd,Nat.reduceMul,Nat.reduceSub,Nat.reduceLeDiff,Nat.reduceBEq,Int.reduceToNat,Int.reduceLE,Int.reduceLT,Int.reduceEq,Int.reduceNe,di]
 refine loop_keep (α:=Nat × Int × List Int) rfl (fun q=>l.length - q.1) (fun q=>q.1≤l.length∧(-1000000≤q.2.1∧q.2.1≤1000000)∧q.2.2.length=q.1∧q.2.2 ++ folP r q.2.1 (l.drop q.1)=folP r s l)
  (fun q=>[(0,.imm (.int .i64 q.2.1)),(1,.imm (.int .i64 r)),(9,.own 9),(26,.imm (snI l)),(27,.imm (.int .i64 l.length)),(28,.imm (.int .i64 q.1))])
  (fun q=>[(9,.tok 1 (q.2.2.map (.int .i64)))]) (0,s,[]) ⟨Nat.zero_le _,hs,rfl,rfl⟩ (by simp only [mdI,hrI,plI,tkI,wkI,hdI,snI, ↓reduceIte,reduceCtorEq,Nat.reduceEqDiff,Nat.reduceAdd,Nat.reduceMul,Nat.reduceSub,Nat.reduceLeDiff,Nat.reduceBEq,Int.reduceToNat,Int.reduceLE,Int.reduceLT,Int.reduceEq,Int.reduceNe,di] <;> rfl) ?_
 rintro ⟨i,c,pre⟩ ⟨hi,hc,hpl,hpp⟩ ih
 dsimp only at hi hc hpl hpp ⊢
 simp only [res19,b19k0,b19k1,b19k2,mdI,hrI,plI,tkI,wkI,hdI,snI, ↓reduceIte,reduceCtorEq,Nat.reduceEqDiff,Nat.reduceAdd,Nat.reduceMul,Nat.reduceSub,Nat.reduceLeDiff,Nat.reduceBEq,Int.reduceToNat,Int.reduceLE,Int.reduceLT,Int.reduceEq,Int.reduceNe,di]
 by_cases hlt:i<l.length
 case neg =>
  rw [if_neg (by omega)]
  rw [show l.drop i=[] from List.drop_eq_nil_of_le (by omega)] at hpp
  rw [← hpp]
  show some (IV.tup [IV.slc 1 (pre.map (IV.int .i64)),.int .i64 0])=some (IV.tup [IV.slc 1 ((pre ++ []).map (IV.int .i64)),.int .i64 0])
  rw [List.append_nil]
 rw [if_pos (by omega)]
 have hx:=h.2 _ (getD_mem hlt)
 rw [show l.drop i=l.getD i 0 :: l.drop (i+1) from drop_getD hlt] at hpp
 have hx : -1000000≤l.getD i 0∧l.getD i 0≤1000000:=hx
 generalize l.getD i 0=a at *
 have hpp:pre ++ min (max a (c - r)) (c+r) :: folP r (min (max a (c - r)) (c+r)) (l.drop (i+1))=folP r s l:=hpp
 rw [wrap64 (n:=c - r) (by omega) (by omega),wrap64 (n:=c+r) (by omega) (by omega),wrap64 (n:=(i:Int)+1) (by omega) (by omega)]
 refine ⟨by omega,by omega,by omega,?_⟩
 refine ih (i+1,min (max a (c - r)) (c+r),pre ++ [min (max a (c - r)) (c+r)]) _ _ (by dsimp only; omega) ⟨by dsimp only; omega,by dsimp only; omega,by dsimp only; rw [List.length_append,hpl]; rfl,?_⟩ (by simp only [mdI,hrI,plI,tkI,wkI,hdI,snI, ↓reduceIte,reduceCtorEq,Nat.reduceEqDiff,Nat.reduceAdd,Nat.reduceMul,Nat.reduceSub,Nat.reduceLeDiff,Nat.reduceBEq,Int.reduceToNat,Int.reduceLE,Int.reduceLT,Int.reduceEq,Int.reduceNe,di] <;> rfl)
 dsimp only
 rw [List.append_assoc]
 exact hpp
def seI (a b:List Int) (k:Nat):IV:=.agg [.int .i64 (setE a b k),.int .i64 (setM a b k),.int .i64 (setO a b k)]
theorem d_SettledOf {a b:List Int} (ha:PwOk a) (hb:PwOk b) (hl:a.length=b.length):Contract Try.prog 21 [snI a,snI b] (.tup [seI a b a.length,.int .i64 0]):=by
 have h1:=ha.1
 have pa:=d_powersErr ha
 have pb:=d_powersErr hb
 simp only [snI] at pa pb
 unfold seI
 refine contract_run Try.func21 k21 rfl ?_
 simp only [body21,b21,res21,b21k0,b21k1,b21k2,b21k3,b21k4,mdI,hrI,plI,tkI,wkI,hdI,snI, ↓reduceIte,reduceCtorEq,Nat.reduceEqDiff,Nat.reduceAdd,Nat.reduceMul,Nat.reduceSub,Nat.reduceLeDiff,Nat.reduceBEq,Int.reduceToNat,Int.reduceLE,Int.reduceLT,Int.reduceEq,Int.reduceNe,di]
 refine calls_of pa ?_; simp only [mdI,hrI,plI,tkI,wkI,hdI,snI,res21,b21k0,b21k1,b21k2,b21k3,b21k4, ↓reduceIte,reduceCtorEq,Nat.reduceEqDiff,Nat.reduceAdd,Nat.reduceMul,Nat.reduceSub,Nat.reduceLeDiff,Nat.reduceBEq,Int.reduceToNat,Int.reduceLE,Int.reduceLT,Int.reduceEq,Int.reduceNe,di]
 refine calls_of pb ?_; simp only [mdI,hrI,plI,tkI,wkI,hdI,snI,res21,b21k0,b21k1,b21k2,b21k3,b21k4, ↓reduceIte,reduceCtorEq,Nat.reduceEqDiff,Nat.reduceAdd,Nat.reduceMul,Nat.reduceSub,Nat.reduceLeDiff,Nat.reduceBEq,Int.reduceToNat,Int.reduceLE,Int.reduceLT,Int.reduceEq,Int.reduceNe,di]
 refine calls_of (d_unlessP (show (a.length:Int)=b.length by omega)) ?_; simp only [mdI,hrI,plI,tkI,wkI,hdI,snI,res21,b21k0,b21k1,b21k2,b21k3,b21k4, ↓reduceIte,reduceCtorEq,Nat.reduceEqDiff,Nat.reduceAdd,Nat.reduceMul,Nat.reduceSub,Nat.reduceLeDiff,Nat.reduceBEq,Int.reduceToNat,Int.reduceLE,Int.reduceLT,Int.reduceEq,Int.reduceNe,di]
 refine calls_of (d_first (l:=[0,0,0]) (by decide) (by decide)) ?_; simp only [mdI,hrI,plI,tkI,wkI,hdI,snI,res21,b21k0,b21k1,b21k2,b21k3,b21k4, ↓reduceIte,reduceCtorEq,Nat.reduceEqDiff,Nat.reduceAdd,Nat.reduceMul,Nat.reduceSub,Nat.reduceLeDiff,Nat.reduceBEq,Int.reduceToNat,Int.reduceLE,Int.reduceLT,Int.reduceEq,Int.reduceNe,di]
 refine loop_keep (α:=Nat) rfl (fun k=>a.length - k) (fun k=>k≤a.length)
  (fun k=>[(1,.imm (snI b)),(4,.ref 4 0),(7,.ref 7 0),(28,.imm (snI a)),(29,.imm (.int .i64 a.length)),(30,.imm (.int .i64 k))])
  (fun k=>[(4,.box [.imm (.int .i64 0),.imm (.int .i64 0),.imm (.int .i64 0)]),(7,.box [.imm (.int .i64 (setE a b k)),.imm (.int .i64 (setM a b k)),.imm (.int .i64 (setO a b k))])]) 0 (Nat.zero_le _) (by simp only [mdI,hrI,plI,tkI,wkI,hdI,snI, ↓reduceIte,reduceCtorEq,Nat.reduceEqDiff,Nat.reduceAdd,Nat.reduceMul,Nat.reduceSub,Nat.reduceLeDiff,Nat.reduceBEq,Int.reduceToNat,Int.reduceLE,Int.reduceLT,Int.reduceEq,Int.reduceNe,di] <;> rfl) ?_
 intro k hk ih
 simp only [res21,b21k0,b21k1,b21k2,b21k3,b21k4,mdI,hrI,plI,tkI,wkI,hdI,snI, ↓reduceIte,reduceCtorEq,Nat.reduceEqDiff,Nat.reduceAdd,Nat.reduceMul,Nat.reduceSub,Nat.reduceLeDiff,Nat.reduceBEq,Int.reduceToNat,Int.reduceLE,Int.reduceLT,Int.reduceEq,Int.reduceNe,di]
 by_cases hlt:k<a.length
 case neg =>
  obtain rfl:k=a.length:=by omega
  rw [if_neg (by omega)]
 rw [if_pos (by omega)]
 have hx : -1000000≤a.getD k 0∧a.getD k 0≤1000000:=ha.2 _ (getD_mem hlt)
 have hy : -1000000≤b.getD k 0∧b.getD k 0≤1000000:=hb.2 _ (getD_mem (by omega))
 have hE:setE a b (k+1)=setE a b k+gvP (a.getD k 0) (b.getD k 0):=rfl
 have hM:setM a b (k+1)=setM a b k+((a.getD k 0).natAbs - gvP (a.getD k 0) (b.getD k 0)):=rfl
 have hO:setO a b (k+1)=setO a b k+((b.getD k 0).natAbs - gvP (a.getD k 0) (b.getD k 0)):=rfl
 have hbd:=set_bd (B:=1000000) a b ha.2 hb.2 (by decide) k
 have ih:=fun S R=>ih (k+1) S R (by omega) (by omega)
 rw [hE,hM,hO] at ih
 generalize a.getD k 0=x at *
 generalize b.getD k 0=y at *
 have sx:=d_size (n:=x) (by omega)
 have sy:=d_size (n:=y) (by omega)
 have hgb:=gv_bd x y
 have h300:(k:Int)≤300:=by omega
 have hbd1:setE a b k≤300000000∧setM a b k≤300000000∧setO a b k≤300000000:=by omega
 refine ⟨by omega,by omega,?_⟩
 by_cases g : 0<x∧0<y∨x<0∧y<0
 ·have hg:min (x.natAbs:Int) (y.natAbs:Int)=gvP x y:=(if_pos g).symm
  rcases g with ⟨p1,p2⟩ | ⟨p1,p2⟩
  ·simp only [p1,p2, ↓reduceIte,reduceCtorEq,Nat.reduceEqDiff,Nat.reduceAdd,Nat.reduceMul,Nat.reduceSub,Nat.reduceLeDiff,Nat.reduceBEq,Int.reduceToNat,Int.reduceLE,Int.reduceLT,Int.reduceEq,Int.reduceNe,di]
   refine calls_of sx ?_; simp only [mdI,hrI,plI,tkI,wkI,hdI,snI,res21,b21k0,b21k1,b21k2,b21k3,b21k4, ↓reduceIte,reduceCtorEq,Nat.reduceEqDiff,Nat.reduceAdd,Nat.reduceMul,Nat.reduceSub,Nat.reduceLeDiff,Nat.reduceBEq,Int.reduceToNat,Int.reduceLE,Int.reduceLT,Int.reduceEq,Int.reduceNe,di]
   refine calls_of sy ?_; simp only [mdI,hrI,plI,tkI,wkI,hdI,snI,res21,b21k0,b21k1,b21k2,b21k3,b21k4, ↓reduceIte,reduceCtorEq,Nat.reduceEqDiff,Nat.reduceAdd,Nat.reduceMul,Nat.reduceSub,Nat.reduceLeDiff,Nat.reduceBEq,Int.reduceToNat,Int.reduceLE,Int.reduceLT,Int.reduceEq,Int.reduceNe,di]
   refine calls_of sx ?_; simp only [mdI,hrI,plI,tkI,wkI,hdI,snI,res21,b21k0,b21k1,b21k2,b21k3,b21k4, ↓reduceIte,reduceCtorEq,Nat.reduceEqDiff,Nat.reduceAdd,Nat.reduceMul,Nat.reduceSub,Nat.reduceLeDiff,Nat.reduceBEq,Int.reduceToNat,Int.reduceLE,Int.reduceLT,Int.reduceEq,Int.reduceNe,di]
   refine calls_of sy ?_; simp only [mdI,hrI,plI,tkI,wkI,hdI,snI,res21,b21k0,b21k1,b21k2,b21k3,b21k4, ↓reduceIte,reduceCtorEq,Nat.reduceEqDiff,Nat.reduceAdd,Nat.reduceMul,Nat.reduceSub,Nat.reduceLeDiff,Nat.reduceBEq,Int.reduceToNat,Int.reduceLE,Int.reduceLT,Int.reduceEq,Int.reduceNe,di]
   rw [hg]
   rw [wrap64 (n:=setE a b k+gvP x y) (by omega) (by omega),wrap64 (n:=(x.natAbs:Int) - gvP x y) (by omega) (by omega),wrap64 (n:=(y.natAbs:Int) - gvP x y) (by omega) (by omega),wrap64 (n:=setM a b k+((x.natAbs:Int) - gvP x y)) (by omega) (by omega),wrap64 (n:=setO a b k+((y.natAbs:Int) - gvP x y)) (by omega) (by omega),wrap64 (n:=(k:Int)+1) (by omega) (by omega)]
   exact ih _ _ (by simp only [mdI,hrI,plI,tkI,wkI,hdI,snI, ↓reduceIte,reduceCtorEq,Nat.reduceEqDiff,Nat.reduceAdd,Nat.reduceMul,Nat.reduceSub,Nat.reduceLeDiff,Nat.reduceBEq,Int.reduceToNat,Int.reduceLE,Int.reduceLT,Int.reduceEq,Int.reduceNe,di] <;> rfl)
  ·have p0:¬ 0<x:=by omega
   simp only [p0,p1,p2, ↓reduceIte,reduceCtorEq,Nat.reduceEqDiff,Nat.reduceAdd,Nat.reduceMul,Nat.reduceSub,Nat.reduceLeDiff,Nat.reduceBEq,Int.reduceToNat,Int.reduceLE,Int.reduceLT,Int.reduceEq,Int.reduceNe,di]
   refine calls_of sx ?_; simp only [mdI,hrI,plI,tkI,wkI,hdI,snI,res21,b21k0,b21k1,b21k2,b21k3,b21k4, ↓reduceIte,reduceCtorEq,Nat.reduceEqDiff,Nat.reduceAdd,Nat.reduceMul,Nat.reduceSub,Nat.reduceLeDiff,Nat.reduceBEq,Int.reduceToNat,Int.reduceLE,Int.reduceLT,Int.reduceEq,Int.reduceNe,di]
   refine calls_of sy ?_; simp only [mdI,hrI,plI,tkI,wkI,hdI,snI,res21,b21k0,b21k1,b21k2,b21k3,b21k4, ↓reduceIte,reduceCtorEq,Nat.reduceEqDiff,Nat.reduceAdd,Nat.reduceMul,Nat.reduceSub,Nat.reduceLeDiff,Nat.reduceBEq,Int.reduceToNat,Int.reduceLE,Int.reduceLT,Int.reduceEq,Int.reduceNe,di]
   refine calls_of sx ?_; simp only [mdI,hrI,plI,tkI,wkI,hdI,snI,res21,b21k0,b21k1,b21k2,b21k3,b21k4, ↓reduceIte,reduceCtorEq,Nat.reduceEqDiff,Nat.reduceAdd,Nat.reduceMul,Nat.reduceSub,Nat.reduceLeDiff,Nat.reduceBEq,Int.reduceToNat,Int.reduceLE,Int.reduceLT,Int.reduceEq,Int.reduceNe,di]
   refine calls_of sy ?_; simp only [mdI,hrI,plI,tkI,wkI,hdI,snI,res21,b21k0,b21k1,b21k2,b21k3,b21k4, ↓reduceIte,reduceCtorEq,Nat.reduceEqDiff,Nat.reduceAdd,Nat.reduceMul,Nat.reduceSub,Nat.reduceLeDiff,Nat.reduceBEq,Int.reduceToNat,Int.reduceLE,Int.reduceLT,Int.reduceEq,Int.reduceNe,di]
   rw [hg]
   rw [wrap64 (n:=setE a b k+gvP x y) (by omega) (by omega),wrap64 (n:=(x.natAbs:Int) - gvP x y) (by omega) (by omega),wrap64 (n:=(y.natAbs:Int) - gvP x y) (by omega) (by omega),wrap64 (n:=setM a b k+((x.natAbs:Int) - gvP x y)) (by omega) (by omega),wrap64 (n:=setO a b k+((y.natAbs:Int) - gvP x y)) (by omega) (by omega),wrap64 (n:=(k:Int)+1) (by omega) (by omega)]
   exact ih _ _ (by simp only [mdI,hrI,plI,tkI,wkI,hdI,snI, ↓reduceIte,reduceCtorEq,Nat.reduceEqDiff,Nat.reduceAdd,Nat.reduceMul,Nat.reduceSub,Nat.reduceLeDiff,Nat.reduceBEq,Int.reduceToNat,Int.reduceLE,Int.reduceLT,Int.reduceEq,Int.reduceNe,di] <;> rfl)
 ·have hg:(0:Int)=gvP x y:=(if_neg g).symm
  rw [← hg] at ih
  by_cases p1 : 0<x
  ·have p2:¬ 0<y:=fun h=>g (.inl ⟨p1,h⟩)
   have p3:¬ x<0:=by omega
   simp only [p1,p2,p3,false_and, ↓reduceIte,reduceCtorEq,Nat.reduceEqDiff,Nat.reduceAdd,Nat.reduceMul,Nat.reduceSub,Nat.reduceLeDiff,Nat.reduceBEq,Int.reduceToNat,Int.reduceLE,Int.reduceLT,Int.reduceEq,Int.reduceNe,di]
   refine calls_of sx ?_; simp only [mdI,hrI,plI,tkI,wkI,hdI,snI,res21,b21k0,b21k1,b21k2,b21k3,b21k4, ↓reduceIte,reduceCtorEq,Nat.reduceEqDiff,Nat.reduceAdd,Nat.reduceMul,Nat.reduceSub,Nat.reduceLeDiff,Nat.reduceBEq,Int.reduceToNat,Int.reduceLE,Int.reduceLT,Int.reduceEq,Int.reduceNe,di]
   refine calls_of sy ?_; simp only [mdI,hrI,plI,tkI,wkI,hdI,snI,res21,b21k0,b21k1,b21k2,b21k3,b21k4, ↓reduceIte,reduceCtorEq,Nat.reduceEqDiff,Nat.reduceAdd,Nat.reduceMul,Nat.reduceSub,Nat.reduceLeDiff,Nat.reduceBEq,Int.reduceToNat,Int.reduceLE,Int.reduceLT,Int.reduceEq,Int.reduceNe,di]
   rw [wrap64 (n:=setE a b k+0) (by omega) (by omega),wrap64 (n:=(x.natAbs:Int) - 0) (by omega) (by omega),wrap64 (n:=(y.natAbs:Int) - 0) (by omega) (by omega),wrap64 (n:=setM a b k+((x.natAbs:Int) - 0)) (by omega) (by omega),wrap64 (n:=setO a b k+((y.natAbs:Int) - 0)) (by omega) (by omega),wrap64 (n:=(k:Int)+1) (by omega) (by omega)]
   exact ih _ _ (by simp only [mdI,hrI,plI,tkI,wkI,hdI,snI, ↓reduceIte,reduceCtorEq,Nat.reduceEqDiff,Nat.reduceAdd,Nat.reduceMul,Nat.reduceSub,Nat.reduceLeDiff,Nat.reduceBEq,Int.reduceToNat,Int.reduceLE,Int.reduceLT,Int.reduceEq,Int.reduceNe,di] <;> rfl)
  ·by_cases p3:x<0
   ·have p4:¬ y<0:=fun h=>g (.inr ⟨p3,h⟩)
    simp only [p1,p3,p4, ↓reduceIte,reduceCtorEq,Nat.reduceEqDiff,Nat.reduceAdd,Nat.reduceMul,Nat.reduceSub,Nat.reduceLeDiff,Nat.reduceBEq,Int.reduceToNat,Int.reduceLE,Int.reduceLT,Int.reduceEq,Int.reduceNe,di]
    refine calls_of sx ?_; simp only [mdI,hrI,plI,tkI,wkI,hdI,snI,res21,b21k0,b21k1,b21k2,b21k3,b21k4, ↓reduceIte,reduceCtorEq,Nat.reduceEqDiff,Nat.reduceAdd,Nat.reduceMul,Nat.reduceSub,Nat.reduceLeDiff,Nat.reduceBEq,Int.reduceToNat,Int.reduceLE,Int.reduceLT,Int.reduceEq,Int.reduceNe,di]
    refine calls_of sy ?_; simp only [mdI,hrI,plI,tkI,wkI,hdI,snI,res21,b21k0,b21k1,b21k2,b21k3,b21k4, ↓reduceIte,reduceCtorEq,Nat.reduceEqDiff,Nat.reduceAdd,Nat.reduceMul,Nat.reduceSub,Nat.reduceLeDiff,Nat.reduceBEq,Int.reduceToNat,Int.reduceLE,Int.reduceLT,Int.reduceEq,Int.reduceNe,di]
    rw [wrap64 (n:=setE a b k+0) (by omega) (by omega),wrap64 (n:=(x.natAbs:Int) - 0) (by omega) (by omega),wrap64 (n:=(y.natAbs:Int) - 0) (by omega) (by omega),wrap64 (n:=setM a b k+((x.natAbs:Int) - 0)) (by omega) (by omega),wrap64 (n:=setO a b k+((y.natAbs:Int) - 0)) (by omega) (by omega),wrap64 (n:=(k:Int)+1) (by omega) (by omega)]
    exact ih _ _ (by simp only [mdI,hrI,plI,tkI,wkI,hdI,snI, ↓reduceIte,reduceCtorEq,Nat.reduceEqDiff,Nat.reduceAdd,Nat.reduceMul,Nat.reduceSub,Nat.reduceLeDiff,Nat.reduceBEq,Int.reduceToNat,Int.reduceLE,Int.reduceLT,Int.reduceEq,Int.reduceNe,di] <;> rfl)
   ·simp only [p1,p3,false_and, ↓reduceIte,reduceCtorEq,Nat.reduceEqDiff,Nat.reduceAdd,Nat.reduceMul,Nat.reduceSub,Nat.reduceLeDiff,Nat.reduceBEq,Int.reduceToNat,Int.reduceLE,Int.reduceLT,Int.reduceEq,Int.reduceNe,di]
    refine calls_of sx ?_; simp only [mdI,hrI,plI,tkI,wkI,hdI,snI,res21,b21k0,b21k1,b21k2,b21k3,b21k4, ↓reduceIte,reduceCtorEq,Nat.reduceEqDiff,Nat.reduceAdd,Nat.reduceMul,Nat.reduceSub,Nat.reduceLeDiff,Nat.reduceBEq,Int.reduceToNat,Int.reduceLE,Int.reduceLT,Int.reduceEq,Int.reduceNe,di]
    refine calls_of sy ?_; simp only [mdI,hrI,plI,tkI,wkI,hdI,snI,res21,b21k0,b21k1,b21k2,b21k3,b21k4, ↓reduceIte,reduceCtorEq,Nat.reduceEqDiff,Nat.reduceAdd,Nat.reduceMul,Nat.reduceSub,Nat.reduceLeDiff,Nat.reduceBEq,Int.reduceToNat,Int.reduceLE,Int.reduceLT,Int.reduceEq,Int.reduceNe,di]
    rw [wrap64 (n:=setE a b k+0) (by omega) (by omega),wrap64 (n:=(x.natAbs:Int) - 0) (by omega) (by omega),wrap64 (n:=(y.natAbs:Int) - 0) (by omega) (by omega),wrap64 (n:=setM a b k+((x.natAbs:Int) - 0)) (by omega) (by omega),wrap64 (n:=setO a b k+((y.natAbs:Int) - 0)) (by omega) (by omega),wrap64 (n:=(k:Int)+1) (by omega) (by omega)]
    exact ih _ _ (by simp only [mdI,hrI,plI,tkI,wkI,hdI,snI, ↓reduceIte,reduceCtorEq,Nat.reduceEqDiff,Nat.reduceAdd,Nat.reduceMul,Nat.reduceSub,Nat.reduceLeDiff,Nat.reduceBEq,Int.reduceToNat,Int.reduceLE,Int.reduceLT,Int.reduceEq,Int.reduceNe,di] <;> rfl)
def wk0:Wk:=⟨0,10,[⟨⟨#[114,101,115,116]⟩,0,0,0⟩,⟨⟨#[112,117,109,112]⟩,3, -4,5⟩,⟨⟨#[116,117,114,98,105,110,101]⟩, -3,3,2⟩],4,0,1,[⟨2,1,0⟩,⟨12,10,1⟩]⟩
theorem vld0:Vld wk0:=tkE_zero (by decide +kernel)
theorem best0:bestV wk0 ⟨-1,0⟩=30∧bestP wk0 ⟨-1,0⟩=[0,2]:=by decide +kernel
theorem l_Plant:Contract Try.prog 22 [] (plI wk0):=by
 refine contract_run Try.func22 k22 rfl ?_
 simp only [body22,b22,res22,wk0,mdI,hrI,plI,tkI,wkI,hdI,snI, ↓reduceIte,reduceCtorEq,Nat.reduceEqDiff,Nat.reduceAdd,Nat.reduceMul,Nat.reduceSub,Nat.reduceLeDiff,Nat.reduceBEq,Int.reduceToNat,Int.reduceLE,Int.reduceLT,Int.reduceEq,Int.reduceNe,di]
theorem l_Task:Contract Try.prog 23 [] (tkI wk0):=by
 refine contract_run Try.func23 k23 rfl ?_
 simp only [body23,b23,res23,wk0,mdI,hrI,plI,tkI,wkI,hdI,snI, ↓reduceIte,reduceCtorEq,Nat.reduceEqDiff,Nat.reduceAdd,Nat.reduceMul,Nat.reduceSub,Nat.reduceLeDiff,Nat.reduceBEq,Int.reduceToNat,Int.reduceLE,Int.reduceLT,Int.reduceEq,Int.reduceNe,di]
theorem l_dispatchShown:Contract Try.prog 4 [] (.bool true):=by
 have hb:=d_BestPlan vld0
 have e:foundI wk0 ⟨-1,0⟩ = .tup [snI [0,2],.int .i64 30,.int .i64 0]:=by
  unfold foundI
  rw [if_pos (by rw [best0.1]; decide),best0.1,best0.2]
  rfl
 rw [e] at hb
 have hs:=d_SettledOf (a:=[12,12,3]) (b:=[5,10,5]) ⟨by decide,by decide⟩ ⟨by decide,by decide⟩ rfl
 have e2:seI [12,12,3] [5,10,5] 3 = .agg [.int .i64 18,.int .i64 9,.int .i64 2]:=by
  unfold seI
  rw [show setE [12,12,3] [5,10,5] 3=18 by decide,show setM [12,12,3] [5,10,5] 3=9 by decide,show setO [12,12,3] [5,10,5] 3=2 by decide]
 have e3:([12,12,3]:List Int).length=3:=rfl
 rw [e3,e2] at hs
 have hi:=c_IntsT (a:=[0,2]) (by decide)
 refine contract_run Try.func4 k4 rfl ?_
 simp only [body4,b4,res4, ↓reduceIte,reduceCtorEq,Nat.reduceEqDiff,Nat.reduceAdd,Nat.reduceMul,Nat.reduceSub,Nat.reduceLeDiff,Nat.reduceBEq,Int.reduceToNat,Int.reduceLE,Int.reduceLT,Int.reduceEq,Int.reduceNe,di]
 refine calls_of l_Plant ?_; simp only [res4, ↓reduceIte,reduceCtorEq,Nat.reduceEqDiff,Nat.reduceAdd,Nat.reduceMul,Nat.reduceSub,Nat.reduceLeDiff,Nat.reduceBEq,Int.reduceToNat,Int.reduceLE,Int.reduceLT,Int.reduceEq,Int.reduceNe,di]
 refine calls_of l_Task ?_; simp only [res4, ↓reduceIte,reduceCtorEq,Nat.reduceEqDiff,Nat.reduceAdd,Nat.reduceMul,Nat.reduceSub,Nat.reduceLeDiff,Nat.reduceBEq,Int.reduceToNat,Int.reduceLE,Int.reduceLT,Int.reduceEq,Int.reduceNe,di]
 refine calls_of hb ?_; simp only [res4, ↓reduceIte,reduceCtorEq,Nat.reduceEqDiff,Nat.reduceAdd,Nat.reduceMul,Nat.reduceSub,Nat.reduceLeDiff,Nat.reduceBEq,Int.reduceToNat,Int.reduceLE,Int.reduceLT,Int.reduceEq,Int.reduceNe,di]
 refine calls_of hs ?_; simp only [res4, ↓reduceIte,reduceCtorEq,Nat.reduceEqDiff,Nat.reduceAdd,Nat.reduceMul,Nat.reduceSub,Nat.reduceLeDiff,Nat.reduceBEq,Int.reduceToNat,Int.reduceLE,Int.reduceLT,Int.reduceEq,Int.reduceNe,di]
 refine calls_of hi ?_; simp only [res4, ↓reduceIte,reduceCtorEq,Nat.reduceEqDiff,Nat.reduceAdd,Nat.reduceMul,Nat.reduceSub,Nat.reduceLeDiff,Nat.reduceBEq,Int.reduceToNat,Int.reduceLE,Int.reduceLT,Int.reduceEq,Int.reduceNe,di]
end Go.DI

/- The statement TopDispatchReserve, its seconds. No condition. -/
set_option linter.unusedSimpArgs false
namespace Go.DI
open Go.Proofs Go.RowKit
def dcC (x:Hld) (h:Int) (l:List Int):List DV:=[.imm (.int .i64 x.mode),.imm (.int .i64 x.hours),.imm (.int .i64 h),.imm (snI l)]
def plC (w:Wk):List DV:=[.imm (.int .i64 w.lo),.imm (.int .i64 w.hi),.imm (.slc 4 (w.ms.map mdI))]
def tkC (w:Wk):List DV:=[.imm (.int .i64 w.vol),.imm (.int .i64 w.mode),.imm (.int .i64 w.worth),.imm (.slc 3 (w.hs.map hrI))]
theorem dr_tail {x:Hld} {h:Int} {l:List Int} (hl:l.length≤60) (hb:∀ a ∈ l, -1000000≤a∧a≤1000000) :
  run Try.prog b3k11 [] (d3.post (.bool true)) (mkS [(5,.ref 5 0)] [(5,.box (dcC x h l))]):=by
 have pw:PwOk l:=⟨by omega,hb⟩
 simp only [b3k11,res3,b3k12,b3k13,dcC,mdI,hrI,plI,tkI,wkI,hdI,snI, ↓reduceIte,reduceCtorEq,Nat.reduceEqDiff,Nat.reduceAdd,Nat.reduceMul,Nat.reduceSub,Nat.reduceLeDiff,Nat.reduceBEq,Int.reduceToNat,Int.reduceLE,Int.reduceLT,Int.reduceEq,Int.reduceNe,di]
 refine loop_keep (α:=Nat × Int × Int) rfl (fun q=>l.length - q.1) (fun q=>q.1≤l.length∧(0≤q.2.1∧q.2.1≤2000000)∧(-1000000≤q.2.2∧q.2.2≤1000000)∧rampP 0 0 l=rampP q.2.1 q.2.2 (l.drop q.1))
  (fun q=>[(5,.ref 5 0),(22,.imm (.int .i64 q.2.1)),(23,.imm (.int .i64 q.2.2)),(24,.imm (.int .i64 q.1))])
  (fun _=>[(5,.box (dcC x h l))]) (0,0,0) ⟨Nat.zero_le _,by decide,by decide,rfl⟩ (by simp only [dcC,mdI,hrI,plI,tkI,wkI,hdI,snI, ↓reduceIte,reduceCtorEq,Nat.reduceEqDiff,Nat.reduceAdd,Nat.reduceMul,Nat.reduceSub,Nat.reduceLeDiff,Nat.reduceBEq,Int.reduceToNat,Int.reduceLE,Int.reduceLT,Int.reduceEq,Int.reduceNe,di] <;> rfl) ?_
 rintro ⟨i,r,c⟩ ⟨hi,hr,hc,he⟩ ih
 dsimp only at hi hr hc he ⊢
 simp only [dcC,b3k7,res3,b3k12,b3k13,mdI,hrI,plI,tkI,wkI,hdI,snI, ↓reduceIte,reduceCtorEq,Nat.reduceEqDiff,Nat.reduceAdd,Nat.reduceMul,Nat.reduceSub,Nat.reduceLeDiff,Nat.reduceBEq,Int.reduceToNat,Int.reduceLE,Int.reduceLT,Int.reduceEq,Int.reduceNe,di]
 by_cases hlt:i<l.length
 ·rw [if_pos (by omega)]
  have hx : -1000000≤l.getD i 0∧l.getD i 0≤1000000:=hb _ (getD_mem hlt)
  rw [show l.drop i=l.getD i 0 :: l.drop (i+1) from drop_getD hlt] at he
  generalize hga:l.getD i 0=a at *
  have he:rampP 0 0 l=rampP (max r (a - c).natAbs) a (l.drop (i+1)):=he
  have sz:=c_Size (n:=a - c) (by omega)
  rw [wrap64 (n:=a - c) (by omega) (by omega)]
  refine ⟨by omega,?_⟩
  refine calls_of sz ?_; simp only [mdI,hrI,plI,tkI,wkI,hdI,snI,res3,b3k12,b3k13, ↓reduceIte,reduceCtorEq,Nat.reduceEqDiff,Nat.reduceAdd,Nat.reduceMul,Nat.reduceSub,Nat.reduceLeDiff,Nat.reduceBEq,Int.reduceToNat,Int.reduceLE,Int.reduceLT,Int.reduceEq,Int.reduceNe,di]
  rw [hga,wrap64 (n:=(i:Int)+1) (by omega) (by omega)]
  refine ⟨by omega,?_⟩
  exact ih (i+1,max r (a - c).natAbs,a) _ _ (by dsimp only; omega) ⟨by dsimp only; omega,by dsimp only; omega,by dsimp only; omega,by dsimp only; exact he⟩ (by simp only [dcC,mdI,hrI,plI,tkI,wkI,hdI,snI, ↓reduceIte,reduceCtorEq,Nat.reduceEqDiff,Nat.reduceAdd,Nat.reduceMul,Nat.reduceSub,Nat.reduceLeDiff,Nat.reduceBEq,Int.reduceToNat,Int.reduceLE,Int.reduceLT,Int.reduceEq,Int.reduceNe,di] <;> rfl)
 rw [if_neg (by omega)]
 rw [show l.drop i=[] from List.drop_eq_nil_of_le (by omega)] at he
 have he:rampP 0 0 l=r:=he
 simp only [b3k10,b3k9,res3,b3k12,b3k13,mdI,hrI,plI,tkI,wkI,hdI,snI, ↓reduceIte,reduceCtorEq,Nat.reduceEqDiff,Nat.reduceAdd,Nat.reduceMul,Nat.reduceSub,Nat.reduceLeDiff,Nat.reduceBEq,Int.reduceToNat,Int.reduceLE,Int.reduceLT,Int.reduceEq,Int.reduceNe,di]
 by_cases hbig : 1000000<r
 ·rw [if_pos hbig]
  trivial
 rw [if_neg hbig]
 have ci:=c_CopyInts (l:=l) (by omega)
 have fo:=d_Followed (s:=0) (r:=r) (l:=l) ⟨by omega,by omega⟩ ⟨by omega,by omega⟩ pw
 rw [fol_same l 0 0 r (by omega)] at fo
 have hq:r.tdiv 2=r / 2:=Int.tdiv_eq_ediv_of_nonneg hr.1
 have fo2:=d_Followed (s:=0) (r:=r / 2) (l:=l) ⟨by omega,by omega⟩ ⟨by omega,by omega⟩ pw
 have fl:=fol_len (r / 2) l 0
 have fb:=fol_bd (r:=r / 2) (B:=1000000) (by omega) l 0 (by omega) hb
 have it:=c_IntsT (a:=l) (by omega)
 have s1:=d_SettledOf pw pw rfl
 have pw2:PwOk (folP (r / 2) 0 l):=⟨by omega,fb⟩
 have s2:=d_SettledOf pw pw2 fl.symm
 have m1:=set_same l l.length
 have m2:=set_sum l (folP (r / 2) 0 l) l.length
 have d1:=set_bd (B:=1000000) l (folP (r / 2) 0 l) hb fb (by omega) l.length
 generalize folP (r / 2) 0 l=l2 at *
 unfold seI at s1 s2
 rw [m1.1,m1.2] at s1
 simp only [snI] at ci fo fo2 it s1 s2
 refine calls_of ci ?_; simp only [mdI,hrI,plI,tkI,wkI,hdI,snI,res3,b3k12,b3k13, ↓reduceIte,reduceCtorEq,Nat.reduceEqDiff,Nat.reduceAdd,Nat.reduceMul,Nat.reduceSub,Nat.reduceLeDiff,Nat.reduceBEq,Int.reduceToNat,Int.reduceLE,Int.reduceLT,Int.reduceEq,Int.reduceNe,di]
 refine calls_of fo ?_; simp only [mdI,hrI,plI,tkI,wkI,hdI,snI,res3,b3k12,b3k13, ↓reduceIte,reduceCtorEq,Nat.reduceEqDiff,Nat.reduceAdd,Nat.reduceMul,Nat.reduceSub,Nat.reduceLeDiff,Nat.reduceBEq,Int.reduceToNat,Int.reduceLE,Int.reduceLT,Int.reduceEq,Int.reduceNe,di]
 refine calls_of it ?_; simp only [mdI,hrI,plI,tkI,wkI,hdI,snI,res3,b3k12,b3k13, ↓reduceIte,reduceCtorEq,Nat.reduceEqDiff,Nat.reduceAdd,Nat.reduceMul,Nat.reduceSub,Nat.reduceLeDiff,Nat.reduceBEq,Int.reduceToNat,Int.reduceLE,Int.reduceLT,Int.reduceEq,Int.reduceNe,di]
 simp only [b3k8,mdI,hrI,plI,tkI,wkI,hdI,snI, ↓reduceIte,reduceCtorEq,Nat.reduceEqDiff,Nat.reduceAdd,Nat.reduceMul,Nat.reduceSub,Nat.reduceLeDiff,Nat.reduceBEq,Int.reduceToNat,Int.reduceLE,Int.reduceLT,Int.reduceEq,Int.reduceNe,di]
 refine calls_of ci ?_; simp only [mdI,hrI,plI,tkI,wkI,hdI,snI,res3,b3k12,b3k13, ↓reduceIte,reduceCtorEq,Nat.reduceEqDiff,Nat.reduceAdd,Nat.reduceMul,Nat.reduceSub,Nat.reduceLeDiff,Nat.reduceBEq,Int.reduceToNat,Int.reduceLE,Int.reduceLT,Int.reduceEq,Int.reduceNe,di]
 refine calls_of s1 ?_; simp only [mdI,hrI,plI,tkI,wkI,hdI,snI,res3,b3k12,b3k13, ↓reduceIte,reduceCtorEq,Nat.reduceEqDiff,Nat.reduceAdd,Nat.reduceMul,Nat.reduceSub,Nat.reduceLeDiff,Nat.reduceBEq,Int.reduceToNat,Int.reduceLE,Int.reduceLT,Int.reduceEq,Int.reduceNe,di]
 rw [hq,wrap64 (n:=r / 2) (by omega) (by omega)]
 refine calls_of ci ?_; simp only [mdI,hrI,plI,tkI,wkI,hdI,snI,res3,b3k12,b3k13, ↓reduceIte,reduceCtorEq,Nat.reduceEqDiff,Nat.reduceAdd,Nat.reduceMul,Nat.reduceSub,Nat.reduceLeDiff,Nat.reduceBEq,Int.reduceToNat,Int.reduceLE,Int.reduceLT,Int.reduceEq,Int.reduceNe,di]
 refine calls_of fo2 ?_; simp only [mdI,hrI,plI,tkI,wkI,hdI,snI,res3,b3k12,b3k13, ↓reduceIte,reduceCtorEq,Nat.reduceEqDiff,Nat.reduceAdd,Nat.reduceMul,Nat.reduceSub,Nat.reduceLeDiff,Nat.reduceBEq,Int.reduceToNat,Int.reduceLE,Int.reduceLT,Int.reduceEq,Int.reduceNe,di]
 refine calls_of ci ?_; simp only [mdI,hrI,plI,tkI,wkI,hdI,snI,res3,b3k12,b3k13, ↓reduceIte,reduceCtorEq,Nat.reduceEqDiff,Nat.reduceAdd,Nat.reduceMul,Nat.reduceSub,Nat.reduceLeDiff,Nat.reduceBEq,Int.reduceToNat,Int.reduceLE,Int.reduceLT,Int.reduceEq,Int.reduceNe,di]
 refine calls_of s2 ?_; simp only [mdI,hrI,plI,tkI,wkI,hdI,snI,res3,b3k12,b3k13, ↓reduceIte,reduceCtorEq,Nat.reduceEqDiff,Nat.reduceAdd,Nat.reduceMul,Nat.reduceSub,Nat.reduceLeDiff,Nat.reduceBEq,Int.reduceToNat,Int.reduceLE,Int.reduceLT,Int.reduceEq,Int.reduceNe,di]
 rw [if_pos m2.2,wrap64 (by omega) (by omega),decide_eq_true m2.1]
end Go.DI

/- The statement TopDispatchReserve, as a contract. No condition. -/
set_option linter.unusedSimpArgs false
set_option maxRecDepth 100000
namespace Go.DI
open Go.Proofs Go.RowKit
def dcI (x:Hld) (h:Int) (l:List Int):IV:=.agg [.int .i64 x.mode,.int .i64 x.hours,.int .i64 h,snI l]
theorem pwE_zero {l:List Int} (h:pwE l=0):∀ a ∈ l, -1000000≤a∧a≤1000000:=by
 unfold pwE at h
 split at h
 ·cases h
 ·split at h
  ·rename_i h2
   exact fun a ha=>of_decide_eq_true (List.all_eq_true.1 h2 a ha)
  ·cases h
theorem hdE_zero {w:Wk} {x:Hld} (h:hdE w x=0):Wi x.mode 0 (w.ms.length - 1)∧Wi x.hours 0 10:=by
 unfold hdE at h
 split at h
 ·rename_i h1
  split at h
  ·rename_i h2; exact ⟨h1,h2⟩
  ·cases h
 ·cases h
theorem best_less {w:Wk} {x:Hld}:bestV w x≤bestV w ⟨-1,0⟩:=pot_mono (fun k v h=>holds_none k v h) _ _ _
theorem best_shorter {w:Wk} {m n:Int}:bestV w ⟨m,n⟩≤bestV w ⟨m,n - 1⟩:=pot_mono (fun k v h=>holds_less k v h) _ _ _
theorem c_withinT {x lo hi:Int} (h:Wi x lo hi):Contract Try.prog 17 [.int .i64 x,.int .i64 lo,.int .i64 hi] (.bool true):=by
 have:=c_within (x:=x) (lo:=lo) (hi:=hi)
 rw [decide_eq_true h] at this
 exact this
theorem dr_plan {w:Wk} {x:Hld} {h:Int} {l:List Int} (hh:In64 h) (v:Vld w) (hm:Wi x.mode 0 (w.ms.length - 1)) (hx:Wi x.hours 0 10) (hl:l.length≤60) (hb:∀ a ∈ l, -1000000≤a∧a≤1000000) :
  run Try.prog b3k12 [] (d3.post (.bool true)) (mkS [(3,.ref 3 0),(4,.ref 4 0),(5,.ref 5 0)] [(3,.box (plC w)),(4,.box (tkC w)),(5,.box (dcC x h l))]):=by
 have ok:=v.ok
 have m5:=ok.m5; have m0:=ok.m0; have h10:=ok.h10; have h0:=ok.h0; have hmode:=ok.mode
 have tail:=dr_tail (x:=x) (h:=h) hl hb
 have cp:=r_CopyPlant (w:=w) (by omega)
 have ct:=r_CopyTask (w:=w) (by omega)
 have bw:=d_BestWith v hm hx
 have bp:=d_BestPlan v
 have less:=best_less (w:=w) (x:=x)
 simp only [plI,tkI,hdI] at cp ct bw bp
 simp only [dcC] at tail
 simp only [b3k12,res3,b3k13,plC,tkC,dcC,mdI,hrI,plI,tkI,wkI,hdI,snI, ↓reduceIte,reduceCtorEq,Nat.reduceEqDiff,Nat.reduceAdd,Nat.reduceMul,Nat.reduceSub,Nat.reduceLeDiff,Nat.reduceBEq,Int.reduceToNat,Int.reduceLE,Int.reduceLT,Int.reduceEq,Int.reduceNe,di]
 refine calls_of cp ?_; simp only [mdI,hrI,plI,tkI,wkI,hdI,snI,res3,b3k13, ↓reduceIte,reduceCtorEq,Nat.reduceEqDiff,Nat.reduceAdd,Nat.reduceMul,Nat.reduceSub,Nat.reduceLeDiff,Nat.reduceBEq,Int.reduceToNat,Int.reduceLE,Int.reduceLT,Int.reduceEq,Int.reduceNe,di]
 refine calls_of ct ?_; simp only [mdI,hrI,plI,tkI,wkI,hdI,snI,res3,b3k13, ↓reduceIte,reduceCtorEq,Nat.reduceEqDiff,Nat.reduceAdd,Nat.reduceMul,Nat.reduceSub,Nat.reduceLeDiff,Nat.reduceBEq,Int.reduceToNat,Int.reduceLE,Int.reduceLT,Int.reduceEq,Int.reduceNe,di]
 refine calls_of bw ?_; simp only [mdI,hrI,plI,tkI,wkI,hdI,snI,res3,b3k13, ↓reduceIte,reduceCtorEq,Nat.reduceEqDiff,Nat.reduceAdd,Nat.reduceMul,Nat.reduceSub,Nat.reduceLeDiff,Nat.reduceBEq,Int.reduceToNat,Int.reduceLE,Int.reduceLT,Int.reduceEq,Int.reduceNe,di]
 by_cases hr : -50000000000<bestV w x
 case neg =>
  have e1:foundI w x=noneI 12:=if_neg hr
  simp only [e1,noneI,mdI,hrI,plI,tkI,wkI,hdI,snI, ↓reduceIte,reduceCtorEq,Nat.reduceEqDiff,Nat.reduceAdd,Nat.reduceMul,Nat.reduceSub,Nat.reduceLeDiff,Nat.reduceBEq,Int.reduceToNat,Int.reduceLE,Int.reduceLT,Int.reduceEq,Int.reduceNe,di]
  refine calls_of cp ?_; simp only [mdI,hrI,plI,tkI,wkI,hdI,snI,res3,b3k13, ↓reduceIte,reduceCtorEq,Nat.reduceEqDiff,Nat.reduceAdd,Nat.reduceMul,Nat.reduceSub,Nat.reduceLeDiff,Nat.reduceBEq,Int.reduceToNat,Int.reduceLE,Int.reduceLT,Int.reduceEq,Int.reduceNe,di]
  refine calls_of ct ?_; simp only [mdI,hrI,plI,tkI,wkI,hdI,snI,res3,b3k13, ↓reduceIte,reduceCtorEq,Nat.reduceEqDiff,Nat.reduceAdd,Nat.reduceMul,Nat.reduceSub,Nat.reduceLeDiff,Nat.reduceBEq,Int.reduceToNat,Int.reduceLE,Int.reduceLT,Int.reduceEq,Int.reduceNe,di]
  obtain ⟨a,b,c,e⟩ : ∃ a b c,foundI w ⟨-1,0⟩ = .tup [.slc 1 a,.int .i64 b,.int .i64 c]:=by
   unfold foundI noneI pnI
   split
   ·exact ⟨_,_,_,rfl⟩
   ·exact ⟨_,_,_,rfl⟩
  rw [e] at bp
  refine calls_of bp ?_; simp only [mdI,hrI,plI,tkI,wkI,hdI,snI,res3,b3k13, ↓reduceIte,reduceCtorEq,Nat.reduceEqDiff,Nat.reduceAdd,Nat.reduceMul,Nat.reduceSub,Nat.reduceLeDiff,Nat.reduceBEq,Int.reduceToNat,Int.reduceLE,Int.reduceLT,Int.reduceEq,Int.reduceNe,di]
  exact tail
 have e1:foundI w x = .tup [pnI (bestP w x),.int .i64 (bestV w x),.int .i64 0]:=if_pos hr
 have e2:foundI w ⟨-1,0⟩ = .tup [pnI (bestP w ⟨-1,0⟩),.int .i64 (bestV w ⟨-1,0⟩),.int .i64 0]:=if_pos (by omega)
 rw [e2] at bp
 simp only [pnI] at bp
 have P1:=plan_ok ok x w.hs.length (Nat.le_refl _) w.vol w.mode.toNat ok.vol (by show -90000000000<bestV w x; omega)
 have P2:=(plan_ok ok ⟨-1,0⟩ w.hs.length (Nat.le_refl _) w.vol w.mode.toNat ok.vol (by show -90000000000<bestV w ⟨-1,0⟩; omega)).1
 rw [Nat.sub_self] at P1
 obtain ⟨p1,p2,p3,p4⟩:=P1
 have vo:=d_VolumesOf v (plan:=bestP w x) p1 p2 p3
 have vl:=volsW_len w 0 w.vol (bestP w x)
 have p1:(bestP w x).length=w.hs.length:=p1
 have p3:∀ u ∈ volsW w 0 w.vol (bestP w x),isVol w u:=p3
 have p4:∀ j,j<w.hs.length→holdsW w x (w.hs.length - j) ((volsW w 0 w.vol (bestP w x)).getD j 0):=p4
 have P2:(bestP w ⟨-1,0⟩).length=w.hs.length:=P2
 have cn:=c_CopyN (l:=bestP w x) (by omega)
 simp only [e1,pnI,mdI,hrI,plI,tkI,wkI,hdI,snI, ↓reduceIte,reduceCtorEq,Nat.reduceEqDiff,Nat.reduceAdd,Nat.reduceMul,Nat.reduceSub,Nat.reduceLeDiff,Nat.reduceBEq,Int.reduceToNat,Int.reduceLE,Int.reduceLT,Int.reduceEq,Int.reduceNe,di]
 refine calls_of cp ?_; simp only [mdI,hrI,plI,tkI,wkI,hdI,snI,res3,b3k13, ↓reduceIte,reduceCtorEq,Nat.reduceEqDiff,Nat.reduceAdd,Nat.reduceMul,Nat.reduceSub,Nat.reduceLeDiff,Nat.reduceBEq,Int.reduceToNat,Int.reduceLE,Int.reduceLT,Int.reduceEq,Int.reduceNe,di]
 refine calls_of ct ?_; simp only [mdI,hrI,plI,tkI,wkI,hdI,snI,res3,b3k13, ↓reduceIte,reduceCtorEq,Nat.reduceEqDiff,Nat.reduceAdd,Nat.reduceMul,Nat.reduceSub,Nat.reduceLeDiff,Nat.reduceBEq,Int.reduceToNat,Int.reduceLE,Int.reduceLT,Int.reduceEq,Int.reduceNe,di]
 refine calls_of bp ?_; simp only [mdI,hrI,plI,tkI,wkI,hdI,snI,res3,b3k13, ↓reduceIte,reduceCtorEq,Nat.reduceEqDiff,Nat.reduceAdd,Nat.reduceMul,Nat.reduceSub,Nat.reduceLeDiff,Nat.reduceBEq,Int.reduceToNat,Int.reduceLE,Int.reduceLT,Int.reduceEq,Int.reduceNe,di]
 have n1:¬ bestV w ⟨-1,0⟩<bestV w x:=by omega
 rw [if_pos ⟨n1,by omega,by omega⟩]
 simp only [pnI] at cn vo
 simp only [plI,tkI,snI] at vo
 have md:=c_ModZ (n:=h) (d:=w.hs.length) (by omega) (by omega) hh
 have hn0:=Int.emod_nonneg h (show (w.hs.length:Int) ≠ 0 by omega)
 have hn1:=Int.emod_lt_of_pos h (show 0<(w.hs.length:Int) by omega)
 obtain ⟨k,hk⟩ : ∃ k:Nat,h % (w.hs.length:Int)=k:=⟨(h % (w.hs.length:Int)).toNat,by omega⟩
 rw [hk] at md hn0 hn1
 have hvk:isVol w ((volsW w 0 w.vol (bestP w x)).getD k 0):=p3 _ (getD_mem (by omega))
 have hho:=p4 k (by omega)
 generalize volsW w 0 w.vol (bestP w x)=V at *
 generalize hu:V.getD k 0=u at *
 simp only [b3k6,b3k5, ↓reduceIte,reduceCtorEq,Nat.reduceEqDiff,Nat.reduceAdd,Nat.reduceMul,Nat.reduceSub,Nat.reduceLeDiff,Nat.reduceBEq,Int.reduceToNat,Int.reduceLE,Int.reduceLT,Int.reduceEq,Int.reduceNe,di]
 refine calls_of cp ?_; simp only [mdI,hrI,plI,tkI,wkI,hdI,snI,res3,b3k13, ↓reduceIte,reduceCtorEq,Nat.reduceEqDiff,Nat.reduceAdd,Nat.reduceMul,Nat.reduceSub,Nat.reduceLeDiff,Nat.reduceBEq,Int.reduceToNat,Int.reduceLE,Int.reduceLT,Int.reduceEq,Int.reduceNe,di]
 refine calls_of ct ?_; simp only [mdI,hrI,plI,tkI,wkI,hdI,snI,res3,b3k13, ↓reduceIte,reduceCtorEq,Nat.reduceEqDiff,Nat.reduceAdd,Nat.reduceMul,Nat.reduceSub,Nat.reduceLeDiff,Nat.reduceBEq,Int.reduceToNat,Int.reduceLE,Int.reduceLT,Int.reduceEq,Int.reduceNe,di]
 refine calls_of cn ?_; simp only [mdI,hrI,plI,tkI,wkI,hdI,snI,res3,b3k13, ↓reduceIte,reduceCtorEq,Nat.reduceEqDiff,Nat.reduceAdd,Nat.reduceMul,Nat.reduceSub,Nat.reduceLeDiff,Nat.reduceBEq,Int.reduceToNat,Int.reduceLE,Int.reduceLT,Int.reduceEq,Int.reduceNe,di]
 refine calls_of vo ?_; simp only [mdI,hrI,plI,tkI,wkI,hdI,snI,res3,b3k13, ↓reduceIte,reduceCtorEq,Nat.reduceEqDiff,Nat.reduceAdd,Nat.reduceMul,Nat.reduceSub,Nat.reduceLeDiff,Nat.reduceBEq,Int.reduceToNat,Int.reduceLE,Int.reduceLT,Int.reduceEq,Int.reduceNe,di]
 rw [wrap64 (n:=((bestP w x).length:Int)+1) (by omega) (by omega),if_pos (by omega)]
 refine calls_of md ?_; simp only [mdI,hrI,plI,tkI,wkI,hdI,snI,res3,b3k13, ↓reduceIte,reduceCtorEq,Nat.reduceEqDiff,Nat.reduceAdd,Nat.reduceMul,Nat.reduceSub,Nat.reduceLeDiff,Nat.reduceBEq,Int.reduceToNat,Int.reduceLE,Int.reduceLT,Int.reduceEq,Int.reduceNe,di]
 rw [hu]
 refine ⟨by omega,?_⟩
 have hmn : 0≤x.mode∧x.mode<w.ms.length:=⟨hm.1,by have:=hm.2; omega⟩
 have hact:∀ j:Nat,(j:Int)≤x.hours→k+j≤w.hs.length→isVol w (actW w x.mode.toNat k u j):=fun j h1 h2=>by
  have:=hold_vol (w:=w) (x:=x) (k:=w.hs.length - k) (j:=j) (v:=u) (by omega) hvk hho hmn.1 (by omega)
  rw [show w.hs.length - (w.hs.length - k)=k by omega] at this
  exact this
 have hx0:=hx.1; have hx1:=hx.2
 refine loop_keep (α:=Nat) rfl (fun j=>w.hs.length - j) (fun j=>k+j≤w.hs.length∧(j:Int)≤x.hours)
  (fun j=>[(3,.ref 3 0),(4,.ref 4 0),(5,.ref 5 0),(8,.imm (.int .i64 (bestV w x))),(15,.imm (.int .i64 (k:Nat))),(16,.imm (.int .i64 (actW w x.mode.toNat k u j))),(17,.imm (.int .i64 ((k:Int)+j)))])
  (fun _=>[(3,.box (plC w)),(4,.box (tkC w)),(5,.box (dcC x h l))]) 0 ⟨by omega,by omega⟩ (by simp only [plC,tkC,dcC,show ((0:Nat):Int)=0 from rfl,Int.add_zero,mdI,hrI,plI,tkI,wkI,hdI,snI, ↓reduceIte,reduceCtorEq,Nat.reduceEqDiff,Nat.reduceAdd,Nat.reduceMul,Nat.reduceSub,Nat.reduceLeDiff,Nat.reduceBEq,Int.reduceToNat,Int.reduceLE,Int.reduceLT,Int.reduceEq,Int.reduceNe,di] <;> rfl) ?_
 rintro j ⟨hj1,hj2⟩ ih
 have hvj:=hact j hj2 hj1
 simp only [b3k2,b3k1,b3k0,plC,tkC,dcC,mdI,hrI,plI,tkI,wkI,hdI,snI, ↓reduceIte,reduceCtorEq,Nat.reduceEqDiff,Nat.reduceAdd,Nat.reduceMul,Nat.reduceSub,Nat.reduceLeDiff,Nat.reduceBEq,Int.reduceToNat,Int.reduceLE,Int.reduceLT,Int.reduceEq,Int.reduceNe,di]
 have cw:=c_withinT (show Wi (actW w x.mode.toNat k u j) w.lo w.hi from hvj)
 rw [wrap64 (n:=(k:Int)+x.hours) (by omega) (by omega)]
 by_cases hgo:(k:Int)+j<w.hs.length∧(k:Int)+j<(k:Int)+x.hours
 ·rw [if_pos hgo]
  have hab:=aft_bd ok hvj (k+j) x.mode.toNat
  have hinf:=(ok.hr (k+j)).2.2
  have hch:=(ok.md x.mode.toNat).1
  have hvb:=hvj
  obtain ⟨v1,v2⟩:=hvb
  have b1:=ok.lo; have b2:=ok.hi
  refine calls_of cw ?_; simp only [mdI,hrI,plI,tkI,wkI,hdI,snI,res3,b3k13, ↓reduceIte,reduceCtorEq,Nat.reduceEqDiff,Nat.reduceAdd,Nat.reduceMul,Nat.reduceSub,Nat.reduceLeDiff,Nat.reduceBEq,Int.reduceToNat,Int.reduceLE,Int.reduceLT,Int.reduceEq,Int.reduceNe,di]
  have hk1:((k:Int)+j).toNat=k+j:=by omega
  rw [hk1]
  have ha:actW w x.mode.toNat k u (j+1)=actW w x.mode.toNat k u j+(w.hs.getD (k+j) default).inf+(w.ms.getD x.mode.toNat default).ch:=rfl
  rw [wrap64 (n:=actW w x.mode.toNat k u j+(w.hs.getD (k+j) default).inf) (by omega) (by omega),wrap64 (n:=actW w x.mode.toNat k u j+(w.hs.getD (k+j) default).inf+(w.ms.getD x.mode.toNat default).ch) (by omega) (by omega),wrap64 (n:=(k:Int)+j+1) (by omega) (by omega),← ha]
  refine ⟨by omega,by omega,by omega,by omega,?_⟩
  exact ih (j+1) _ _ (by omega) ⟨by omega,by omega⟩ (by simp only [plC,tkC,dcC,show (k:Int)+((j+1:Nat):Int)=(k:Int)+j+1 by omega,mdI,hrI,plI,tkI,wkI,hdI,snI, ↓reduceIte,reduceCtorEq,Nat.reduceEqDiff,Nat.reduceAdd,Nat.reduceMul,Nat.reduceSub,Nat.reduceLeDiff,Nat.reduceBEq,Int.reduceToNat,Int.reduceLE,Int.reduceLT,Int.reduceEq,Int.reduceNe,di] <;> rfl)
 rw [if_neg hgo]
 simp only [b3k4,mdI,hrI,plI,tkI,wkI,hdI,snI, ↓reduceIte,reduceCtorEq,Nat.reduceEqDiff,Nat.reduceAdd,Nat.reduceMul,Nat.reduceSub,Nat.reduceLeDiff,Nat.reduceBEq,Int.reduceToNat,Int.reduceLE,Int.reduceLT,Int.reduceEq,Int.reduceNe,di]
 refine calls_of cw ?_; simp only [mdI,hrI,plI,tkI,wkI,hdI,snI,res3,b3k13, ↓reduceIte,reduceCtorEq,Nat.reduceEqDiff,Nat.reduceAdd,Nat.reduceMul,Nat.reduceSub,Nat.reduceLeDiff,Nat.reduceBEq,Int.reduceToNat,Int.reduceLE,Int.reduceLT,Int.reduceEq,Int.reduceNe,di]
 simp only [b3k3,mdI,hrI,plI,tkI,wkI,hdI,snI, ↓reduceIte,reduceCtorEq,Nat.reduceEqDiff,Nat.reduceAdd,Nat.reduceMul,Nat.reduceSub,Nat.reduceLeDiff,Nat.reduceBEq,Int.reduceToNat,Int.reduceLE,Int.reduceLT,Int.reduceEq,Int.reduceNe,di]
 by_cases hpos : 0<x.hours
 case neg =>
  rw [if_neg hpos]
  exact tail
 rw [if_pos hpos,wrap64 (n:=x.hours - 1) (by omega) (by omega)]
 have bs:=d_BestWith v (x:=⟨x.mode,x.hours - 1⟩) hm ⟨by show 0≤x.hours - 1; omega,by show x.hours - 1≤10; omega⟩
 have sh:bestV w x≤bestV w ⟨x.mode,x.hours - 1⟩:=best_shorter (w:=w) (m:=x.mode) (n:=x.hours)
 have e3:foundI w ⟨x.mode,x.hours - 1⟩ = .tup [pnI (bestP w ⟨x.mode,x.hours - 1⟩),.int .i64 (bestV w ⟨x.mode,x.hours - 1⟩),.int .i64 0]:=if_pos (by omega)
 rw [e3] at bs
 simp only [plI,tkI,hdI,pnI] at bs
 refine calls_of cp ?_; simp only [mdI,hrI,plI,tkI,wkI,hdI,snI,res3,b3k13, ↓reduceIte,reduceCtorEq,Nat.reduceEqDiff,Nat.reduceAdd,Nat.reduceMul,Nat.reduceSub,Nat.reduceLeDiff,Nat.reduceBEq,Int.reduceToNat,Int.reduceLE,Int.reduceLT,Int.reduceEq,Int.reduceNe,di]
 refine calls_of ct ?_; simp only [mdI,hrI,plI,tkI,wkI,hdI,snI,res3,b3k13, ↓reduceIte,reduceCtorEq,Nat.reduceEqDiff,Nat.reduceAdd,Nat.reduceMul,Nat.reduceSub,Nat.reduceLeDiff,Nat.reduceBEq,Int.reduceToNat,Int.reduceLE,Int.reduceLT,Int.reduceEq,Int.reduceNe,di]
 refine calls_of bs ?_; simp only [mdI,hrI,plI,tkI,wkI,hdI,snI,res3,b3k13, ↓reduceIte,reduceCtorEq,Nat.reduceEqDiff,Nat.reduceAdd,Nat.reduceMul,Nat.reduceSub,Nat.reduceLeDiff,Nat.reduceBEq,Int.reduceToNat,Int.reduceLE,Int.reduceLT,Int.reduceEq,Int.reduceNe,di]
 rw [if_neg (by omega)]
 exact tail
theorem l_TopDispatchReserve {w:Wk} {x:Hld} {h:Int} {l:List Int} (hh:In64 h):Contract Try.prog 3 [plI w,tkI w,dcI x h l] (.bool true):=by
 have few:=l_Few (w:=w)
 have short:=l_Short (w:=w)
 simp only [plI,tkI] at few short
 refine contract_run Try.func3 k3 rfl ?_
 simp only [b3,body3,b3k13,res3,dcI,mdI,hrI,plI,tkI,wkI,hdI,snI, ↓reduceIte,reduceCtorEq,Nat.reduceEqDiff,Nat.reduceAdd,Nat.reduceMul,Nat.reduceSub,Nat.reduceLeDiff,Nat.reduceBEq,Int.reduceToNat,Int.reduceLE,Int.reduceLT,Int.reduceEq,Int.reduceNe,di]
 refine calls_of l_dispatchShown ?_; simp only [mdI,hrI,plI,tkI,wkI,hdI,snI,res3, ↓reduceIte,reduceCtorEq,Nat.reduceEqDiff,Nat.reduceAdd,Nat.reduceMul,Nat.reduceSub,Nat.reduceLeDiff,Nat.reduceBEq,Int.reduceToNat,Int.reduceLE,Int.reduceLT,Int.reduceEq,Int.reduceNe,di]
 refine calls_of few ?_; simp only [mdI,hrI,plI,tkI,wkI,hdI,snI,res3, ↓reduceIte,reduceCtorEq,Nat.reduceEqDiff,Nat.reduceAdd,Nat.reduceMul,Nat.reduceSub,Nat.reduceLeDiff,Nat.reduceBEq,Int.reduceToNat,Int.reduceLE,Int.reduceLT,Int.reduceEq,Int.reduceNe,di]
 by_cases h1:fewW w=true
 case neg=>simp only [h1, ↓reduceIte,reduceCtorEq,Nat.reduceEqDiff,Nat.reduceAdd,Nat.reduceMul,Nat.reduceSub,Nat.reduceLeDiff,Nat.reduceBEq,Int.reduceToNat,Int.reduceLE,Int.reduceLT,Int.reduceEq,Int.reduceNe,di]
 simp only [h1, ↓reduceIte,reduceCtorEq,Nat.reduceEqDiff,Nat.reduceAdd,Nat.reduceMul,Nat.reduceSub,Nat.reduceLeDiff,Nat.reduceBEq,Int.reduceToNat,Int.reduceLE,Int.reduceLT,Int.reduceEq,Int.reduceNe,di]
 refine calls_of short ?_; simp only [mdI,hrI,plI,tkI,wkI,hdI,snI,res3, ↓reduceIte,reduceCtorEq,Nat.reduceEqDiff,Nat.reduceAdd,Nat.reduceMul,Nat.reduceSub,Nat.reduceLeDiff,Nat.reduceBEq,Int.reduceToNat,Int.reduceLE,Int.reduceLT,Int.reduceEq,Int.reduceNe,di]
 by_cases h2:w.hs.length≤12
 case neg =>
  rw [if_neg h2]
  trivial
 rw [if_pos h2]
 have hfew:w.ms.length≤7∧∀ m ∈ w.ms,m.nm.size≤20:=by
  unfold fewW at h1
  rw [Bool.and_eq_true] at h1
  exact ⟨of_decide_eq_true h1.1,fun m hm=>of_decide_eq_true (List.all_eq_true.1 h1.2 m hm)⟩
 have te:=r_TaskErr (w:=w) (by omega) (fun m hm=>by have:=hfew.2 m hm; omega) (by omega)
 have he:=r_HoldErr (w:=w) (x:=x) (by omega)
 simp only [plI,tkI,hdI] at te he
 refine calls_of te ?_; simp only [mdI,hrI,plI,tkI,wkI,hdI,snI,res3, ↓reduceIte,reduceCtorEq,Nat.reduceEqDiff,Nat.reduceAdd,Nat.reduceMul,Nat.reduceSub,Nat.reduceLeDiff,Nat.reduceBEq,Int.reduceToNat,Int.reduceLE,Int.reduceLT,Int.reduceEq,Int.reduceNe,di]
 by_cases h3:(tkE w).2=0
 case neg =>
  simp only [h3, ↓reduceIte,reduceCtorEq,Nat.reduceEqDiff,Nat.reduceAdd,Nat.reduceMul,Nat.reduceSub,Nat.reduceLeDiff,Nat.reduceBEq,Int.reduceToNat,Int.reduceLE,Int.reduceLT,Int.reduceEq,Int.reduceNe,di]
  all_goals (simp only [false_and,and_false, ↓reduceIte])
 have v:=tkE_zero h3
 simp only [h3, ↓reduceIte,reduceCtorEq,Nat.reduceEqDiff,Nat.reduceAdd,Nat.reduceMul,Nat.reduceSub,Nat.reduceLeDiff,Nat.reduceBEq,Int.reduceToNat,Int.reduceLE,Int.reduceLT,Int.reduceEq,Int.reduceNe,di]
 refine calls_of he ?_; simp only [mdI,hrI,plI,tkI,wkI,hdI,snI,res3, ↓reduceIte,reduceCtorEq,Nat.reduceEqDiff,Nat.reduceAdd,Nat.reduceMul,Nat.reduceSub,Nat.reduceLeDiff,Nat.reduceBEq,Int.reduceToNat,Int.reduceLE,Int.reduceLT,Int.reduceEq,Int.reduceNe,di]
 by_cases h4:hdE w x=0
 case neg =>
  simp only [h4, ↓reduceIte,reduceCtorEq,Nat.reduceEqDiff,Nat.reduceAdd,Nat.reduceMul,Nat.reduceSub,Nat.reduceLeDiff,Nat.reduceBEq,Int.reduceToNat,Int.reduceLE,Int.reduceLT,Int.reduceEq,Int.reduceNe,di]
  all_goals (simp only [false_and,and_false, ↓reduceIte])
 obtain ⟨hxm,hxh⟩:=hdE_zero h4
 simp only [h4, ↓reduceIte,reduceCtorEq,Nat.reduceEqDiff,Nat.reduceAdd,Nat.reduceMul,Nat.reduceSub,Nat.reduceLeDiff,Nat.reduceBEq,Int.reduceToNat,Int.reduceLE,Int.reduceLT,Int.reduceEq,Int.reduceNe,di]
 by_cases h5 : 60<(l.length:Int)
 case pos =>
  simp only [h5, ↓reduceIte,reduceCtorEq,Nat.reduceEqDiff,Nat.reduceAdd,Nat.reduceMul,Nat.reduceSub,Nat.reduceLeDiff,Nat.reduceBEq,Int.reduceToNat,Int.reduceLE,Int.reduceLT,Int.reduceEq,Int.reduceNe,di]
  all_goals (simp only [false_and,and_false, ↓reduceIte])
 have pe:=r_PowersErr (l:=l) (by omega)
 simp only [snI] at pe
 simp only [h5, ↓reduceIte,reduceCtorEq,Nat.reduceEqDiff,Nat.reduceAdd,Nat.reduceMul,Nat.reduceSub,Nat.reduceLeDiff,Nat.reduceBEq,Int.reduceToNat,Int.reduceLE,Int.reduceLT,Int.reduceEq,Int.reduceNe,di]
 refine calls_of pe ?_; simp only [mdI,hrI,plI,tkI,wkI,hdI,snI,res3, ↓reduceIte,reduceCtorEq,Nat.reduceEqDiff,Nat.reduceAdd,Nat.reduceMul,Nat.reduceSub,Nat.reduceLeDiff,Nat.reduceBEq,Int.reduceToNat,Int.reduceLE,Int.reduceLT,Int.reduceEq,Int.reduceNe,di]
 by_cases h6:pwE l=0
 case neg =>
  simp only [h6, ↓reduceIte,reduceCtorEq,Nat.reduceEqDiff,Nat.reduceAdd,Nat.reduceMul,Nat.reduceSub,Nat.reduceLeDiff,Nat.reduceBEq,Int.reduceToNat,Int.reduceLE,Int.reduceLT,Int.reduceEq,Int.reduceNe,di]
  all_goals (simp only [false_and,and_false, ↓reduceIte])
 have hpw:=pwE_zero h6
 simp only [h6, ↓reduceIte,reduceCtorEq,Nat.reduceEqDiff,Nat.reduceAdd,Nat.reduceMul,Nat.reduceSub,Nat.reduceLeDiff,Nat.reduceBEq,Int.reduceToNat,Int.reduceLE,Int.reduceLT,Int.reduceEq,Int.reduceNe,di]
 exact dr_plan hh v hxm hxh (by omega) hpw
end Go.DI


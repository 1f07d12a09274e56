/- Contracts: covers of boxes, of the program and of the reference. No condition. -/
import Derived.Test.YtaphhpphfffnfaaGreatDoorTwn
import Derived.Test.YtaphhpphfffnfaaGreatDoorTwo
set_option linter.unusedSimpArgs false
set_option maxRecDepth 20000
namespace Go.DI
open Go.Proofs Go.RowKit Sg
def divP (lo hi c:Int) (i:Nat):Int × Int:=(lo+((i:Int) * (hi - lo+1)) / c,lo+(((i:Int)+1) * (hi - lo+1)) / c - 1)
def oneD (x:Int × Int):List (Int × Int):=if x.1≤x.2 then [x] else []
def divR (lo hi c:Int) (i:Nat):List (Int × Int):=((List.range c.toNat).drop i).flatMap fun (j:Nat)=>oneD (divP lo hi c j)
def divL (lo hi c:Int):List (Int × Int):=divR lo hi c 0
theorem divR_step {lo hi c:Int} {i:Nat} (h:i<c.toNat):divR lo hi c i=oneD (divP lo hi c i) ++ divR lo hi c (i+1):=by
 unfold divR
 rw [List.drop_eq_getElem_cons (by simpa using h),List.flatMap_cons,List.getElem_range]
theorem divR_end {lo hi c:Int} {i:Nat} (h:c.toNat≤i):divR lo hi c i=[]:=by
 unfold divR
 rw [List.drop_of_length_le (by simpa using h)]
 rfl
theorem divR_length {lo hi c:Int} {i:Nat}:(divR lo hi c i).length≤c.toNat:=by
 unfold divR
 have:=length_flat (l:=(List.range c.toNat).drop i) (m:=1) (g:=fun (j:Nat)=>oneD (divP lo hi c j)) fun x _=>by unfold oneD; split <;> simp
 rw [List.length_drop,List.length_range] at this
 omega
structure DivOk (lo hi c:Int):Prop where
 a1 : -100000≤lo
 a2:lo≤hi
 a3:hi≤100000
 a4 : 1≤c∧c≤8
theorem div_bd {lo hi c:Int} (h:DivOk lo hi c) {i:Nat} (hi8:(i:Int)≤8):(0≤(i:Int) * (hi - lo+1)∧(i:Int) * (hi - lo+1)≤1600008)∧0≤((i:Int) * (hi - lo+1)) / c∧((i:Int) * (hi - lo+1)) / c≤1600008:=by
 have h1:=h.a1; have h2:=h.a2; have h3:=h.a3; have h4:=h.a4
 have a : 0≤(i:Int) * (hi - lo+1):=Int.mul_nonneg (by omega) (by omega)
 have b:(i:Int) * (hi - lo+1)≤8 * 200001:=Int.mul_le_mul hi8 (by omega) (by omega) (by omega)
 refine ⟨⟨a,by omega⟩,Int.ediv_nonneg a (by omega),?_⟩
 have:=Int.ediv_le_self c a
 omega
theorem s_divided {lo hi c:Int}:Contract Tryz.prog 231 [stI lo hi,.int .i64 c] (.func 285 [] [.ptr (stI lo hi),.ptr (.agg [.int .i64 c])]):=by
 refine contract_run Tryz.func231 k231 rfl ?_
 simp only [body231,b231,res231,ruI,ssI,sbI,spI,swI,scI,stI,srI,saI,snI, ↓reduceIte,reduceCtorEq,Nat.reduceEqDiff,Nat.reduceAdd,Nat.reduceMul,Nat.reduceSub,Nat.reduceLeDiff,Nat.reduceBEq,Int.reduceToNat,Int.reduceLE,Int.reduceLT,Int.reduceEq,Int.reduceNe,di]
theorem it_divided {lo hi c:Int} (hd:DivOk lo hi c) (l:Nat) :
  BC Tryz.prog 285 [.yld l,.imm (.ptr (stI lo hi)),.imm (.ptr (.agg [.int .i64 c]))] (lookR [(0,.seq l (false,some ((divL lo hi c).map fun x=>[stI x.1 x.2])))]) fun _ R'=>seqOver l false R':=by
 have h1:=hd.a1; have h2:=hd.a2; have h3:=hd.a3; have h4:=hd.a4
 refine bc_run Tryz.func285 k285 rfl rfl ?_
 simp only [body285,b285,res285,b285k0,b285k1,ruI,ssI,sbI,spI,swI,scI,stI,srI,saI,snI, ↓reduceIte,reduceCtorEq,Nat.reduceEqDiff,Nat.reduceAdd,Nat.reduceMul,Nat.reduceSub,Nat.reduceLeDiff,Nat.reduceBEq,Int.reduceToNat,Int.reduceLE,Int.reduceLT,Int.reduceEq,Int.reduceNe,di]
 rw [show IntKind.wrap .i64 (hi - lo)=hi - lo from wrap64 (by omega) (by omega)]
 rw [show IntKind.wrap .i64 (hi - lo+1)=hi - lo+1 from wrap64 (by omega) (by omega)]
 refine loop_keep (α:=Nat) rfl (fun i=>c.toNat - i) (fun i=>i≤c.toNat)
  (fun i=>[(0,.yld l),(1,.imm (.ptr (stI lo hi))),(2,.imm (.ptr (.agg [.int .i64 c]))),(4,.imm (.int .i64 (hi - lo+1))),(13,.imm (.int .i64 c)),(14,.imm (.int .i64 i))])
  (fun i=>[(0,.seq l (false,some ((divR lo hi c i).map fun x=>[stI x.1 x.2])))]) 0 (Nat.zero_le _) (by simp only [ruI,ssI,sbI,spI,swI,scI,stI,srI,saI,snI, ↓reduceIte,reduceCtorEq,Nat.reduceEqDiff,Nat.reduceAdd,Nat.reduceMul,Nat.reduceSub,Nat.reduceLeDiff,Nat.reduceBEq,Int.reduceToNat,Int.reduceLE,Int.reduceLT,Int.reduceEq,Int.reduceNe,di] <;> rfl) ?_
 intro i hi8 ih
 simp only [res285,b285k0,b285k1,ruI,ssI,sbI,spI,swI,scI,stI,srI,saI,snI, ↓reduceIte,reduceCtorEq,Nat.reduceEqDiff,Nat.reduceAdd,Nat.reduceMul,Nat.reduceSub,Nat.reduceLeDiff,Nat.reduceBEq,Int.reduceToNat,Int.reduceLE,Int.reduceLT,Int.reduceEq,Int.reduceNe,di]
 split
 case isFalse h =>
  rw [outD_nil res285]
  refine ⟨_,rfl,rfl,.inl ⟨rfl,?_⟩⟩
  rw [divR_end (by omega)]
  rfl
 rename_i h
 have b1:=div_bd hd (i:=i) (by omega)
 have b2:=div_bd hd (i:=i+1) (by omega)
 push_cast at b2
 rw [show IntKind.wrap .i64 ((i:Int) * (hi - lo+1))=(i:Int) * (hi - lo+1) from wrap64 (by omega) (by omega)]
 rw [show IntKind.wrap .i64 ((i:Int)+1)=(i:Int)+1 from wrap64 (by omega) (by omega)]
 rw [show IntKind.wrap .i64 (((i:Int)+1) * (hi - lo+1))=((i:Int)+1) * (hi - lo+1) from wrap64 (by omega) (by omega)]
 rw [Int.tdiv_eq_ediv_of_nonneg b1.1.1,Int.tdiv_eq_ediv_of_nonneg b2.1.1]
 rw [divR_step (by omega)]
 unfold oneD divP
 dsimp only
 generalize ((i:Int) * (hi - lo+1)) / c=q1 at b1 ⊢
 generalize (((i:Int)+1) * (hi - lo+1)) / c=q2 at b2 ⊢
 simp only [show IntKind.wrap .i64 (q1)=q1 from wrap64 (by omega) (by omega)]
 simp only [show IntKind.wrap .i64 (q2)=q2 from wrap64 (by omega) (by omega)]
 simp only [show IntKind.wrap .i64 (lo+q1)=lo+q1 from wrap64 (by omega) (by omega)]
 simp only [show IntKind.wrap .i64 (lo+q2)=lo+q2 from wrap64 (by omega) (by omega)]
 simp only [show IntKind.wrap .i64 (lo+q2 - 1)=lo+q2 - 1 from wrap64 (by omega) (by omega)]
 repeat (refine And.intro (by omega) ?_)
 by_cases hq:lo+q1≤lo+q2 - 1
 ·simp only [hq,ruI,ssI,sbI,spI,swI,scI,stI,srI,saI,snI, ↓reduceIte,reduceCtorEq,Nat.reduceEqDiff,Nat.reduceAdd,Nat.reduceMul,Nat.reduceSub,Nat.reduceLeDiff,Nat.reduceBEq,Int.reduceToNat,Int.reduceLE,Int.reduceLT,Int.reduceEq,Int.reduceNe,di]
  refine do_yield rfl rfl rfl (fun _ => ?_) ?_
  ·simp only [res285,b285k0,b285k1,ruI,ssI,sbI,spI,swI,scI,stI,srI,saI,snI, ↓reduceIte,reduceCtorEq,Nat.reduceEqDiff,Nat.reduceAdd,Nat.reduceMul,Nat.reduceSub,Nat.reduceLeDiff,Nat.reduceBEq,Int.reduceToNat,Int.reduceLE,Int.reduceLT,Int.reduceEq,Int.reduceNe,di]
   simp only [show IntKind.wrap .i64 ((i:Int)+1)=(i:Int)+1 from wrap64 (by omega) (by omega)]
   refine ih (i+1) _ _ (by omega) (by omega) (by simp only [List.nil_append,ruI,ssI,sbI,spI,swI,scI,stI,srI,saI,snI, ↓reduceIte,reduceCtorEq,Nat.reduceEqDiff,Nat.reduceAdd,Nat.reduceMul,Nat.reduceSub,Nat.reduceLeDiff,Nat.reduceBEq,Int.reduceToNat,Int.reduceLE,Int.reduceLT,Int.reduceEq,Int.reduceNe,di] <;> rfl)
  ·simp only [res285,b285k0,b285k1,ruI,ssI,sbI,spI,swI,scI,stI,srI,saI,snI, ↓reduceIte,reduceCtorEq,Nat.reduceEqDiff,Nat.reduceAdd,Nat.reduceMul,Nat.reduceSub,Nat.reduceLeDiff,Nat.reduceBEq,Int.reduceToNat,Int.reduceLE,Int.reduceLT,Int.reduceEq,Int.reduceNe,di]
   rw [outD_nil res285]
   exact ⟨_,rfl,rfl,.inr rfl⟩
 ·simp only [hq,ruI,ssI,sbI,spI,swI,scI,stI,srI,saI,snI, ↓reduceIte,reduceCtorEq,Nat.reduceEqDiff,Nat.reduceAdd,Nat.reduceMul,Nat.reduceSub,Nat.reduceLeDiff,Nat.reduceBEq,Int.reduceToNat,Int.reduceLE,Int.reduceLT,Int.reduceEq,Int.reduceNe,di]
  refine ih (i+1) _ _ (by omega) (by omega) (by simp only [List.nil_append,ruI,ssI,sbI,spI,swI,scI,stI,srI,saI,snI, ↓reduceIte,reduceCtorEq,Nat.reduceEqDiff,Nat.reduceAdd,Nat.reduceMul,Nat.reduceSub,Nat.reduceLeDiff,Nat.reduceBEq,Int.reduceToNat,Int.reduceLE,Int.reduceLT,Int.reduceEq,Int.reduceNe,di] <;> rfl)
  
def bxOf (x y:Int × Int):Bx:=⟨x.1,x.2,y.1,y.2⟩
def coverL (v:Cv):List Bx:=(divL v.b.ll v.b.lh v.parts).flatMap fun x=>(divL v.b.fl v.b.fh v.parts).map fun y=>bxOf x y
def coverE (v:Cv):Int:=fstE (boxErr v.b) (fstE (if Wi v.parts 1 8∧Wi v.lo (-100000) 100000∧Wi v.hi (-100000) 100000 then 0 else 2) (if v.lo≤v.hi then 0 else 9))
theorem coverE_zero {v:Cv}:coverE v=0↔boxErr v.b=0∧(1≤v.parts∧v.parts≤8)∧(-100000≤v.lo∧v.lo≤100000)∧(-100000≤v.hi∧v.hi≤100000)∧v.lo≤v.hi:=by
 unfold coverE
 rw [fstE_zero,fstE_zero]
 by_cases h1:Wi v.parts 1 8∧Wi v.lo (-100000) 100000∧Wi v.hi (-100000) 100000
 ·rw [if_pos h1]
  unfold Wi at h1
  by_cases h2:v.lo≤v.hi
  ·rw [if_pos h2]; simp [h1,h2]
  ·rw [if_neg h2]; simp [h2]
 ·rw [if_neg h1]
  unfold Wi at h1
  constructor
  ·intro h; exact absurd h.2.1 (by decide)
  ·intro h; exact (h1 ⟨h.2.1,h.2.2.1,h.2.2.2.1⟩).elim
theorem s_coverErr {v:Cv}:Contract Tryz.prog 159 [scI v] (.int .i64 (coverE v)):=by
 have sb:=s_boxErr (b:=v.b)
 refine contract_run Tryz.func159 k159 rfl ?_
 simp only [body159,b159,res159,ruI,ssI,sbI,spI,swI,scI,stI,srI,saI,snI, ↓reduceIte,reduceCtorEq,Nat.reduceEqDiff,Nat.reduceAdd,Nat.reduceMul,Nat.reduceSub,Nat.reduceLeDiff,Nat.reduceBEq,Int.reduceToNat,Int.reduceLE,Int.reduceLT,Int.reduceEq,Int.reduceNe,di]
 refine calls_of sb ?_; simp only [ruI,ssI,sbI,spI,swI,scI,stI,srI,saI,snI,res159, ↓reduceIte,reduceCtorEq,Nat.reduceEqDiff,Nat.reduceAdd,Nat.reduceMul,Nat.reduceSub,Nat.reduceLeDiff,Nat.reduceBEq,Int.reduceToNat,Int.reduceLE,Int.reduceLT,Int.reduceEq,Int.reduceNe,di]
 refine calls_of s_within ?_; simp only [ruI,ssI,sbI,spI,swI,scI,stI,srI,saI,snI,res159, ↓reduceIte,reduceCtorEq,Nat.reduceEqDiff,Nat.reduceAdd,Nat.reduceMul,Nat.reduceSub,Nat.reduceLeDiff,Nat.reduceBEq,Int.reduceToNat,Int.reduceLE,Int.reduceLT,Int.reduceEq,Int.reduceNe,di]
 unfold coverE
 by_cases w1:Wi v.parts 1 8
 case neg =>
  simp only [w1,ruI,ssI,sbI,spI,swI,scI,stI,srI,saI,snI, ↓reduceIte,reduceCtorEq,Nat.reduceEqDiff,Nat.reduceAdd,Nat.reduceMul,Nat.reduceSub,Nat.reduceLeDiff,Nat.reduceBEq,Int.reduceToNat,Int.reduceLE,Int.reduceLT,Int.reduceEq,Int.reduceNe,di]
  refine calls_of s_unless ?_; simp only [ruI,ssI,sbI,spI,swI,scI,stI,srI,saI,snI,res159, ↓reduceIte,reduceCtorEq,Nat.reduceEqDiff,Nat.reduceAdd,Nat.reduceMul,Nat.reduceSub,Nat.reduceLeDiff,Nat.reduceBEq,Int.reduceToNat,Int.reduceLE,Int.reduceLT,Int.reduceEq,Int.reduceNe,di]
  refine calls_of s_unless ?_; simp only [ruI,ssI,sbI,spI,swI,scI,stI,srI,saI,snI,res159, ↓reduceIte,reduceCtorEq,Nat.reduceEqDiff,Nat.reduceAdd,Nat.reduceMul,Nat.reduceSub,Nat.reduceLeDiff,Nat.reduceBEq,Int.reduceToNat,Int.reduceLE,Int.reduceLT,Int.reduceEq,Int.reduceNe,di]
  refine calls_of (s_first (l:=[boxErr v.b,2,if v.lo≤v.hi then 0 else 9]) (by simp)) ?_; simp only [ruI,ssI,sbI,spI,swI,scI,stI,srI,saI,snI,res159, ↓reduceIte,reduceCtorEq,Nat.reduceEqDiff,Nat.reduceAdd,Nat.reduceMul,Nat.reduceSub,Nat.reduceLeDiff,Nat.reduceBEq,Int.reduceToNat,Int.reduceLE,Int.reduceLT,Int.reduceEq,Int.reduceNe,di]
  rw [firstNZ_three]
  simp
 simp only [w1,ruI,ssI,sbI,spI,swI,scI,stI,srI,saI,snI, ↓reduceIte,reduceCtorEq,Nat.reduceEqDiff,Nat.reduceAdd,Nat.reduceMul,Nat.reduceSub,Nat.reduceLeDiff,Nat.reduceBEq,Int.reduceToNat,Int.reduceLE,Int.reduceLT,Int.reduceEq,Int.reduceNe,di]
 refine calls_of s_isLevel ?_; simp only [ruI,ssI,sbI,spI,swI,scI,stI,srI,saI,snI,res159, ↓reduceIte,reduceCtorEq,Nat.reduceEqDiff,Nat.reduceAdd,Nat.reduceMul,Nat.reduceSub,Nat.reduceLeDiff,Nat.reduceBEq,Int.reduceToNat,Int.reduceLE,Int.reduceLT,Int.reduceEq,Int.reduceNe,di]
 by_cases w2:Wi v.lo (-100000) 100000
 case neg =>
  simp only [w2,ruI,ssI,sbI,spI,swI,scI,stI,srI,saI,snI, ↓reduceIte,reduceCtorEq,Nat.reduceEqDiff,Nat.reduceAdd,Nat.reduceMul,Nat.reduceSub,Nat.reduceLeDiff,Nat.reduceBEq,Int.reduceToNat,Int.reduceLE,Int.reduceLT,Int.reduceEq,Int.reduceNe,di]
  refine calls_of s_unless ?_; simp only [ruI,ssI,sbI,spI,swI,scI,stI,srI,saI,snI,res159, ↓reduceIte,reduceCtorEq,Nat.reduceEqDiff,Nat.reduceAdd,Nat.reduceMul,Nat.reduceSub,Nat.reduceLeDiff,Nat.reduceBEq,Int.reduceToNat,Int.reduceLE,Int.reduceLT,Int.reduceEq,Int.reduceNe,di]
  refine calls_of s_unless ?_; simp only [ruI,ssI,sbI,spI,swI,scI,stI,srI,saI,snI,res159, ↓reduceIte,reduceCtorEq,Nat.reduceEqDiff,Nat.reduceAdd,Nat.reduceMul,Nat.reduceSub,Nat.reduceLeDiff,Nat.reduceBEq,Int.reduceToNat,Int.reduceLE,Int.reduceLT,Int.reduceEq,Int.reduceNe,di]
  refine calls_of (s_first (l:=[boxErr v.b,2,if v.lo≤v.hi then 0 else 9]) (by simp)) ?_; simp only [ruI,ssI,sbI,spI,swI,scI,stI,srI,saI,snI,res159, ↓reduceIte,reduceCtorEq,Nat.reduceEqDiff,Nat.reduceAdd,Nat.reduceMul,Nat.reduceSub,Nat.reduceLeDiff,Nat.reduceBEq,Int.reduceToNat,Int.reduceLE,Int.reduceLT,Int.reduceEq,Int.reduceNe,di]
  rw [firstNZ_three]
  simp
 simp only [w2,ruI,ssI,sbI,spI,swI,scI,stI,srI,saI,snI, ↓reduceIte,reduceCtorEq,Nat.reduceEqDiff,Nat.reduceAdd,Nat.reduceMul,Nat.reduceSub,Nat.reduceLeDiff,Nat.reduceBEq,Int.reduceToNat,Int.reduceLE,Int.reduceLT,Int.reduceEq,Int.reduceNe,di]
 refine calls_of s_isLevel ?_; simp only [ruI,ssI,sbI,spI,swI,scI,stI,srI,saI,snI,res159, ↓reduceIte,reduceCtorEq,Nat.reduceEqDiff,Nat.reduceAdd,Nat.reduceMul,Nat.reduceSub,Nat.reduceLeDiff,Nat.reduceBEq,Int.reduceToNat,Int.reduceLE,Int.reduceLT,Int.reduceEq,Int.reduceNe,di]
 refine calls_of s_unless ?_; simp only [ruI,ssI,sbI,spI,swI,scI,stI,srI,saI,snI,res159, ↓reduceIte,reduceCtorEq,Nat.reduceEqDiff,Nat.reduceAdd,Nat.reduceMul,Nat.reduceSub,Nat.reduceLeDiff,Nat.reduceBEq,Int.reduceToNat,Int.reduceLE,Int.reduceLT,Int.reduceEq,Int.reduceNe,di]
 refine calls_of s_unless ?_; simp only [ruI,ssI,sbI,spI,swI,scI,stI,srI,saI,snI,res159, ↓reduceIte,reduceCtorEq,Nat.reduceEqDiff,Nat.reduceAdd,Nat.reduceMul,Nat.reduceSub,Nat.reduceLeDiff,Nat.reduceBEq,Int.reduceToNat,Int.reduceLE,Int.reduceLT,Int.reduceEq,Int.reduceNe,di]
 refine calls_of (s_first (l:=[boxErr v.b,if Wi v.hi (-100000) 100000 then 0 else 2,if v.lo≤v.hi then 0 else 9]) (by simp)) ?_; simp only [ruI,ssI,sbI,spI,swI,scI,stI,srI,saI,snI,res159, ↓reduceIte,reduceCtorEq,Nat.reduceEqDiff,Nat.reduceAdd,Nat.reduceMul,Nat.reduceSub,Nat.reduceLeDiff,Nat.reduceBEq,Int.reduceToNat,Int.reduceLE,Int.reduceLT,Int.reduceEq,Int.reduceNe,di]
 rw [firstNZ_three]
def covG (v:Cv) (L:List Bx):List (Nat × Res) :=
 [(1,.box [.imm (.int .i64 v.b.ll),.imm (.int .i64 v.b.lh),.imm (.int .i64 v.b.fl),.imm (.int .i64 v.b.fh),.imm (.int .i64 v.parts),.imm (.int .i64 v.lo),.imm (.int .i64 v.hi)]),(3,.box [.own 1003]),(1003,.tok 4 (L.map sbI))]
def covH (v:Cv) (q:Int × Int) (L:List Bx):List (Nat × Res) :=
 [(1,.box [.imm (.int .i64 v.b.ll),.imm (.int .i64 v.b.lh),.imm (.int .i64 v.b.fl),.imm (.int .i64 v.b.fh),.imm (.int .i64 v.parts),.imm (.int .i64 v.lo),.imm (.int .i64 v.hi)]),(3,.box [.own 1003]),(4,.box [.imm (.int .i64 q.1),.imm (.int .i64 q.2)]),(1003,.tok 4 (L.map sbI))]
theorem s_cover {v:Cv} (hv:coverE v=0):Contract Tryz.prog 160 [scI v] (.slc 4 ((coverL v).map sbI)):=by
 obtain ⟨hb,hp, -⟩:=coverE_zero.1 hv
 rw [boxErr_zero] at hb
 have d1:DivOk v.b.ll v.b.lh v.parts:=⟨by omega,by omega,by omega,hp⟩
 have d2:DivOk v.b.fl v.b.fh v.parts:=⟨by omega,by omega,by omega,hp⟩
 have n1:(divL v.b.ll v.b.lh v.parts).length≤8:=by
  have:=divR_length (lo:=v.b.ll) (hi:=v.b.lh) (c:=v.parts) (i:=0)
  unfold divL
  omega
 have n2:(divL v.b.fl v.b.fh v.parts).length≤8:=by
  have:=divR_length (lo:=v.b.fl) (hi:=v.b.fh) (c:=v.parts) (i:=0)
  unfold divL
  omega
 have i1:=it_divided d1
 have i2:=it_divided d2
 have hcov:coverL v=(divL v.b.ll v.b.lh v.parts).flatMap fun x=>(divL v.b.fl v.b.fh v.parts).map fun y=>bxOf x y:=rfl
 rw [hcov]
 generalize divL v.b.ll v.b.lh v.parts=X at i1 n1 ⊢
 generalize divL v.b.fl v.b.fh v.parts=Y at i2 n2 ⊢
 refine contract_run Tryz.func160 k160 rfl ?_
 simp only [body160,b160,res160,b160k0,ruI,ssI,sbI,spI,swI,scI,stI,srI,saI,snI, ↓reduceIte,reduceCtorEq,Nat.reduceEqDiff,Nat.reduceAdd,Nat.reduceMul,Nat.reduceSub,Nat.reduceLeDiff,Nat.reduceBEq,Int.reduceToNat,Int.reduceLE,Int.reduceLT,Int.reduceEq,Int.reduceNe,di]
 refine calls_of (s_divided (lo:=v.b.ll) (hi:=v.b.lh) (c:=v.parts)) ?_; simp only [ruI,ssI,sbI,spI,swI,scI,stI,srI,saI,snI,res160,b160k0, ↓reduceIte,reduceCtorEq,Nat.reduceEqDiff,Nat.reduceAdd,Nat.reduceMul,Nat.reduceSub,Nat.reduceLeDiff,Nat.reduceBEq,Int.reduceToNat,Int.reduceLE,Int.reduceLT,Int.reduceEq,Int.reduceNe,di]
 have hflat:∀ n,((X.take n).flatMap fun x=>Y.map fun y=>bxOf x y).length≤64:=by
  intro n
  have h1:=length_flat (l:=X.take n) (m:=8) (g:=fun x=>Y.map fun y=>bxOf x y) fun x _=>by rw [List.length_map]; exact n2
  have h2:(X.take n).length≤8:=by rw [List.length_take]; omega
  omega
 refine range_plain (gf:=285) (first:=[]) (caps:=[.ptr (stI v.b.ll v.b.lh),.ptr (.agg [.int .i64 v.parts])]) (X.map fun (x:Int × Int)=>[stI x.1 x.2]) false rfl rfl i1 (by intro x hx; obtain ⟨q,_,rfl⟩:=List.mem_map.1 hx; rfl) rfl (fun n (y:Nat)=>y=n)
  (fun y=>covG v ((X.take y).flatMap fun x=>Y.map fun y=>bxOf x y)) 0 rfl (by rw [keepRes_look]; simp only [covG,ruI,ssI,sbI,spI,swI,scI,stI,srI,saI,snI, ↓reduceIte,reduceCtorEq,Nat.reduceEqDiff,Nat.reduceAdd,Nat.reduceMul,Nat.reduceSub,Nat.reduceLeDiff,Nat.reduceBEq,Int.reduceToNat,Int.reduceLE,Int.reduceLT,Int.reduceEq,Int.reduceNe,di] <;> rfl) ?_ ?_
 ·rintro n x y hx rfl
  simp only [List.getElem?_map,Option.map_eq_some_iff] at hx
  obtain ⟨q,hq,rfl⟩:=hx
  have hl64:=hflat y
  have htake:(X.take (y+1)).flatMap (fun x=>Y.map fun y=>bxOf x y)=((X.take y).flatMap fun x=>Y.map fun y=>bxOf x y) ++ Y.map fun y=>bxOf q y:=by
   rw [List.take_add_one,hq]
   simp
  generalize ((X.take y).flatMap fun x=>Y.map fun y=>bxOf x y)=L at hl64 htake
  simp only [b160a0,b160r0,b160a1,b160r1,covG,ruI,ssI,sbI,spI,swI,scI,stI,srI,saI,snI, ↓reduceIte,reduceCtorEq,Nat.reduceEqDiff,Nat.reduceAdd,Nat.reduceMul,Nat.reduceSub,Nat.reduceLeDiff,Nat.reduceBEq,Int.reduceToNat,Int.reduceLE,Int.reduceLT,Int.reduceEq,Int.reduceNe,di]
  refine calls_of (s_divided (lo:=v.b.fl) (hi:=v.b.fh) (c:=v.parts)) ?_; simp only [ruI,ssI,sbI,spI,swI,scI,stI,srI,saI,snI,res160,b160k0, ↓reduceIte,reduceCtorEq,Nat.reduceEqDiff,Nat.reduceAdd,Nat.reduceMul,Nat.reduceSub,Nat.reduceLeDiff,Nat.reduceBEq,Int.reduceToNat,Int.reduceLE,Int.reduceLT,Int.reduceEq,Int.reduceNe,di]
  refine range_plain (gf:=285) (first:=[]) (caps:=[.ptr (stI v.b.fl v.b.fh),.ptr (.agg [.int .i64 v.parts])]) (Y.map fun (x:Int × Int)=>[stI x.1 x.2]) false rfl rfl i2 (by intro x hx; obtain ⟨q,_,rfl⟩:=List.mem_map.1 hx; rfl) rfl (fun n (z:Nat)=>z=n)
   (fun z=>covH v q (L ++ (Y.take z).map fun y=>bxOf q y)) 0 rfl (by rw [keepRes_look]; simp only [covH,List.take_zero,List.map_nil,List.append_nil,ruI,ssI,sbI,spI,swI,scI,stI,srI,saI,snI, ↓reduceIte,reduceCtorEq,Nat.reduceEqDiff,Nat.reduceAdd,Nat.reduceMul,Nat.reduceSub,Nat.reduceLeDiff,Nat.reduceBEq,Int.reduceToNat,Int.reduceLE,Int.reduceLT,Int.reduceEq,Int.reduceNe,di] <;> rfl) ?_ ?_
  ·rintro m w z hw rfl
   simp only [List.getElem?_map,Option.map_eq_some_iff] at hw
   obtain ⟨u,hu,rfl⟩:=hw
   have hlt:=(List.getElem?_eq_some_iff.1 hu).1
   have hlen2:(L ++ (Y.take z).map fun y=>bxOf q y).length≤72:=by
    rw [List.length_append,List.length_map,List.length_take]
    omega
   have htake2:(L ++ (Y.take (z+1)).map fun y=>bxOf q y)=(L ++ (Y.take z).map fun y=>bxOf q y) ++ [bxOf q u]:=by
    rw [List.take_add_one,hu]
    simp
   generalize (L ++ (Y.take z).map fun y=>bxOf q y)=L2 at hlen2 htake2
   simp only [b160a0,b160r0,b160a1,b160r1,covH,ruI,ssI,sbI,spI,swI,scI,stI,srI,saI,snI, ↓reduceIte,reduceCtorEq,Nat.reduceEqDiff,Nat.reduceAdd,Nat.reduceMul,Nat.reduceSub,Nat.reduceLeDiff,Nat.reduceBEq,Int.reduceToNat,Int.reduceLE,Int.reduceLT,Int.reduceEq,Int.reduceNe,di]
   refine ⟨by omega,by omega,z+1,rfl,?_⟩
   rw [htake2,List.map_append]
   rfl
  ·rintro z _ rfl
   rw [List.length_map,List.take_length,← htake]
   simp only [b160a0,b160r0,b160a1,b160r1,res160,b160k0,covH,ruI,ssI,sbI,spI,swI,scI,stI,srI,saI,snI, ↓reduceIte,reduceCtorEq,Nat.reduceEqDiff,Nat.reduceAdd,Nat.reduceMul,Nat.reduceSub,Nat.reduceLeDiff,Nat.reduceBEq,Int.reduceToNat,Int.reduceLE,Int.reduceLT,Int.reduceEq,Int.reduceNe,di]
   exact ⟨y+1,rfl,rfl⟩
 ·rintro y _ rfl
  rw [List.length_map,List.take_length]
  simp only [res160,b160k0,covG,ruI,ssI,sbI,spI,swI,scI,stI,srI,saI,snI, ↓reduceIte,reduceCtorEq,Nat.reduceEqDiff,Nat.reduceAdd,Nat.reduceMul,Nat.reduceSub,Nat.reduceLeDiff,Nat.reduceBEq,Int.reduceToNat,Int.reduceLE,Int.reduceLT,Int.reduceEq,Int.reduceNe,di]
end Go.DI


/- Contracts: complex numbers, matrices. No condition. -/
import Derived.Test.YtaphhpphfffnfaaGreatDoorTak
import Derived.Test.YtaphhpphfffnfaaGreatDoorTai
import Derived.Test.YtaphhpphfffnfaaGreatDoorTan
set_option linter.unusedSimpArgs false
set_option maxRecDepth 100000
namespace Go.DI
open Go.Proofs Go.RowKit
def gI (g:Ga):IV:=.agg [.int .i64 g.1,.int .i64 g.2]
theorem w_turn {p:Int}:Contract Tryz.prog 139 [.int .i64 p] (.cpx .f64 (turnA p) (turnB p)):=by
 refine contract_run Tryz.func139 k139 rfl ?_
 simp only [body139,b139,res139,vaE, ↓reduceIte,reduceCtorEq,Nat.reduceEqDiff,Nat.reduceAdd,Nat.reduceMul,Nat.reduceSub,Nat.reduceLeDiff,Nat.reduceBEq,Int.reduceToNat,Int.reduceLE,Int.reduceLT,Int.reduceEq,Int.reduceNe,di]
 have hb : -4<p.tmod 4∧p.tmod 4<4:=by
  have h1:=Int.tmod_eq_emod (a:=p) (b:=4)
  split at h1 <;> omega
 rw [wrap64 (by omega) (by omega),rem4]
 unfold turnA turnB
 rcases mod4 p with h | h | h | h <;> rw [h] <;> simp only [Int.toNat_zero,Int.toNat_one,Nat.zero_mul,Nat.one_mul,vaE, ↓reduceIte,reduceCtorEq,Nat.reduceEqDiff,Nat.reduceAdd,Nat.reduceMul,Nat.reduceSub,Nat.reduceLeDiff,Nat.reduceBEq,Int.reduceToNat,Int.reduceLE,Int.reduceLT,Int.reduceEq,Int.reduceNe,di] <;> first | exact ⟨by decide,rfl⟩ | exact ⟨by decide,by decide,rfl⟩
theorem w_cosine {p:Int}:Contract Tryz.prog 141 [.int .i64 p] (.cpx .f64 (turnA p) 0):=by
 refine contract_run Tryz.func141 k141 rfl ?_
 simp only [body141,b141,res141,vaE, ↓reduceIte,reduceCtorEq,Nat.reduceEqDiff,Nat.reduceAdd,Nat.reduceMul,Nat.reduceSub,Nat.reduceLeDiff,Nat.reduceBEq,Int.reduceToNat,Int.reduceLE,Int.reduceLT,Int.reduceEq,Int.reduceNe,di]
 refine calls_of w_turn ?_; simp only [vaE,res141, ↓reduceIte,reduceCtorEq,Nat.reduceEqDiff,Nat.reduceAdd,Nat.reduceMul,Nat.reduceSub,Nat.reduceLeDiff,Nat.reduceBEq,Int.reduceToNat,Int.reduceLE,Int.reduceLT,Int.reduceEq,Int.reduceNe,di]
theorem w_sine {p:Int}:Contract Tryz.prog 142 [.int .i64 p] (.cpx .f64 (turnB p) 0):=by
 refine contract_run Tryz.func142 k142 rfl ?_
 simp only [body142,b142,res142,vaE, ↓reduceIte,reduceCtorEq,Nat.reduceEqDiff,Nat.reduceAdd,Nat.reduceMul,Nat.reduceSub,Nat.reduceLeDiff,Nat.reduceBEq,Int.reduceToNat,Int.reduceLE,Int.reduceLT,Int.reduceEq,Int.reduceNe,di]
 refine calls_of w_turn ?_; simp only [vaE,res142, ↓reduceIte,reduceCtorEq,Nat.reduceEqDiff,Nat.reduceAdd,Nat.reduceMul,Nat.reduceSub,Nat.reduceLeDiff,Nat.reduceBEq,Int.reduceToNat,Int.reduceLE,Int.reduceLT,Int.reduceEq,Int.reduceNe,di]
theorem w_whole {a b:Nat} {g:Ga} (h:CC a b g) (hg:Bd (nrm g)):Contract Tryz.prog 138 [.cpx .f64 a b] (gI g):=by
 have hs:=part_le (Nat.le_refl _) hg
 unfold Fl.Sm at hs
 refine contract_run Tryz.func138 k138 rfl ?_
 simp only [body138,b138,res138,f2i_F h.1 (by omega),f2i_F h.2 (by omega),gI,vaE, ↓reduceIte,reduceCtorEq,Nat.reduceEqDiff,Nat.reduceAdd,Nat.reduceMul,Nat.reduceSub,Nat.reduceLeDiff,Nat.reduceBEq,Int.reduceToNat,Int.reduceLE,Int.reduceLT,Int.reduceEq,Int.reduceNe,di]
def MI (r:IV) (M:Mx):Prop:=∃ a1 a2 b1 b2 c1 c2 d1 d2,r = .agg [.cpx .f64 a1 a2,.cpx .f64 b1 b2,.cpx .f64 c1 c2,.cpx .f64 d1 d2,.int .i64 M.den]∧CC a1 a2 M.a∧CC b1 b2 M.b∧CC c1 c2 M.c∧CC d1 d2 M.d
theorem w_pipe {p:Pp} {h:Int} (hp:(1≤p.1∧p.1≤6)∧1≤p.2∧p.2≤10) (hh : 0≤h∧h≤3):∃ r,MI r (pipeM p h)∧Contract Tryz.prog 253 [ppI p,.int .i64 h] r:=by
 refine contract_ex Tryz.func253 k253 rfl ?_
 simp only [body253,b253,res253,vaE, ↓reduceIte,reduceCtorEq,Nat.reduceEqDiff,Nat.reduceAdd,Nat.reduceMul,Nat.reduceSub,Nat.reduceLeDiff,Nat.reduceBEq,Int.reduceToNat,Int.reduceLE,Int.reduceLT,Int.reduceEq,Int.reduceNe,di]
 have hw : 0≤h * p.1∧h * p.1≤18:=by
  rcases (show h=0∨h=1∨h=2∨h=3 by omega) with e | e | e | e <;> rw [e] <;> omega
 have hy:nrm (p.2,0)≤10:=by rw [nrm_real]; omega
 have cy:CC (FloatKind.f64.nearest p.2) 0 (p.2,0):=⟨i2f_F (by unfold Fl.Sm; omega),F_zero⟩
 have hc:=nrm_cos (h * p.1)
 have hs:=nrm_sin (h * p.1)
 have h1:=nrm_mul_le (show nrm (0, -1)≤1 from by decide) hs
 have h2:=nrm_mul_le h1 hy
 have bd:∀ {a b:Ga} {m n:Nat},nrm a≤m→nrm b≤n→m * n≤1000→Bd (nrm a * nrm b):=fun x y z=>Nat.lt_of_le_of_lt (Nat.le_trans (Nat.mul_le_mul x y) z) (by decide)
 rw [wrap64 (by omega) (by omega)]
 refine calls_of w_cosine ?_; simp only [vaE,res253, ↓reduceIte,reduceCtorEq,Nat.reduceEqDiff,Nat.reduceAdd,Nat.reduceMul,Nat.reduceSub,Nat.reduceLeDiff,Nat.reduceBEq,Int.reduceToNat,Int.reduceLE,Int.reduceLT,Int.reduceEq,Int.reduceNe,di]
 rw [wrap64 (by omega) (by omega)]
 refine calls_of w_sine ?_; simp only [vaE,res253, ↓reduceIte,reduceCtorEq,Nat.reduceEqDiff,Nat.reduceAdd,Nat.reduceMul,Nat.reduceSub,Nat.reduceLeDiff,Nat.reduceBEq,Int.reduceToNat,Int.reduceLE,Int.reduceLT,Int.reduceEq,Int.reduceNe,di]
 obtain ⟨a1,b1,e1,c1⟩:=mulC (CC_cos (h * p.1)) cy (bd hc hy (by decide)); simp only [e1,vaE, ↓reduceIte,reduceCtorEq,Nat.reduceEqDiff,Nat.reduceAdd,Nat.reduceMul,Nat.reduceSub,Nat.reduceLeDiff,Nat.reduceBEq,Int.reduceToNat,Int.reduceLE,Int.reduceLT,Int.reduceEq,Int.reduceNe,di]
 obtain ⟨a2,b2,e2,c2⟩:=mulC CC_mi (CC_sin (h * p.1)) (bd (Nat.le_refl _) hs (by decide)); simp only [e1,e2,vaE, ↓reduceIte,reduceCtorEq,Nat.reduceEqDiff,Nat.reduceAdd,Nat.reduceMul,Nat.reduceSub,Nat.reduceLeDiff,Nat.reduceBEq,Int.reduceToNat,Int.reduceLE,Int.reduceLT,Int.reduceEq,Int.reduceNe,di]
 obtain ⟨a3,b3,e3,c3⟩:=mulC c2 cy (bd h1 hy (by decide)); simp only [e1,e2,e3,vaE, ↓reduceIte,reduceCtorEq,Nat.reduceEqDiff,Nat.reduceAdd,Nat.reduceMul,Nat.reduceSub,Nat.reduceLeDiff,Nat.reduceBEq,Int.reduceToNat,Int.reduceLE,Int.reduceLT,Int.reduceEq,Int.reduceNe,di]
 obtain ⟨a4,b4,e4,c4⟩:=mulC c3 cy (bd h2 hy (by decide)); simp only [e1,e2,e3,e4,vaE, ↓reduceIte,reduceCtorEq,Nat.reduceEqDiff,Nat.reduceAdd,Nat.reduceMul,Nat.reduceSub,Nat.reduceLeDiff,Nat.reduceBEq,Int.reduceToNat,Int.reduceLE,Int.reduceLT,Int.reduceEq,Int.reduceNe,di]
 exact ⟨_,rfl,a1,b1,a2,b2,a4,b4,a1,b1,rfl,c1,c2,c4,c1⟩
theorem w_chamber {a h:Int} (ha : 0≤a∧a≤20) (hh : 0≤h∧h≤3):∃ r,MI r (chamM a h)∧Contract Tryz.prog 255 [.int .i64 a,.int .i64 h] r:=by
 have cy:CC (FloatKind.f64.nearest a) 0 (a,0):=⟨i2f_F (by unfold Fl.Sm; omega),F_zero⟩
 have ct:=CC_turn (-h)
 have h1:nrm (gneg (a,0))≤20:=by rw [nrm_neg,nrm_real]; omega
 have h2:=nrm_sub (1,0) (turnG (-h))
 rw [nrm_turn,show nrm (1,0)=1 from rfl] at h2
 have bd:∀ {a b:Ga} {m n:Nat},nrm a≤m→nrm b≤n→m * n≤1000→Bd (nrm a * nrm b):=fun x y z=>Nat.lt_of_le_of_lt (Nat.le_trans (Nat.mul_le_mul x y) z) (by decide)
 refine contract_ex Tryz.func255 k255 rfl ?_
 simp only [body255,b255,res255,vaE, ↓reduceIte,reduceCtorEq,Nat.reduceEqDiff,Nat.reduceAdd,Nat.reduceMul,Nat.reduceSub,Nat.reduceLeDiff,Nat.reduceBEq,Int.reduceToNat,Int.reduceLE,Int.reduceLT,Int.reduceEq,Int.reduceNe,di]
 obtain ⟨a1,b1,e1,c1⟩:=negC cy; simp only [e1,vaE, ↓reduceIte,reduceCtorEq,Nat.reduceEqDiff,Nat.reduceAdd,Nat.reduceMul,Nat.reduceSub,Nat.reduceLeDiff,Nat.reduceBEq,Int.reduceToNat,Int.reduceLE,Int.reduceLT,Int.reduceEq,Int.reduceNe,di]
 rw [wrap64 (by omega) (by omega),Int.zero_sub]
 refine calls_of w_turn ?_; simp only [vaE,res255, ↓reduceIte,reduceCtorEq,Nat.reduceEqDiff,Nat.reduceAdd,Nat.reduceMul,Nat.reduceSub,Nat.reduceLeDiff,Nat.reduceBEq,Int.reduceToNat,Int.reduceLE,Int.reduceLT,Int.reduceEq,Int.reduceNe,di]
 obtain ⟨a2,b2,e2,c2⟩:=subC CC_one ct (by rw [nrm_turn]; show (2:Nat)<9007199254740992; decide); simp only [e1,e2,vaE, ↓reduceIte,reduceCtorEq,Nat.reduceEqDiff,Nat.reduceAdd,Nat.reduceMul,Nat.reduceSub,Nat.reduceLeDiff,Nat.reduceBEq,Int.reduceToNat,Int.reduceLE,Int.reduceLT,Int.reduceEq,Int.reduceNe,di]
 obtain ⟨a3,b3,e3,c3⟩:=mulC c1 c2 (bd h1 h2 (by decide)); simp only [e1,e2,e3,vaE, ↓reduceIte,reduceCtorEq,Nat.reduceEqDiff,Nat.reduceAdd,Nat.reduceMul,Nat.reduceSub,Nat.reduceLeDiff,Nat.reduceBEq,Int.reduceToNat,Int.reduceLE,Int.reduceLT,Int.reduceEq,Int.reduceNe,di]
 exact ⟨_,rfl,4607182418800017408,0,0,0,a3,b3,4607182418800017408,0,rfl,CC_one,CC_zero,c3,CC_one⟩
theorem run_round {P:Program} {k:List KF} {Q:Ex→St→Prop} {st:St} {live ids:List Nat} {a c:DCode} (hc:c = .keep live ids a) (h:run P a (.again c :: k) Q (st.keep live ids)):run P (.loop c) k Q st:=by
 refine run_loop ?_
 subst hc
 rw [run_keep']
 exact h
theorem wr01:IntKind.wrap .i64 (0+1)=1:=by decide
theorem wr12:IntKind.wrap .i64 (1+1)=2:=by decide
theorem wr23:IntKind.wrap .i64 (2+1)=3:=by decide
theorem wr34:IntKind.wrap .i64 (3+1)=4:=by decide
theorem dotC {x1 x2 x3 x4 y1 y2 y3 y4:Nat} {a b c d:Ga} {m n k:Nat} (xa:CC x1 x2 a) (xb:CC x3 x4 b) (ya:CC y1 y2 c) (yc:CC y3 y4 d) (h1:nrm a≤m) (h2:nrm b≤n) (h3:nrm c≤k) (h4:nrm d≤k) (hk:Bd ((m+n) * k)) :
  ∃ p1 q1 p2 q2 p3 q3 p4 q4,pxI (.cpx .mul) [.cpx .f64 x1 x2,.cpx .f64 y1 y2]=some (.cpx .f64 p1 q1)∧pxI (.cpx .add) [.cpx .f64 0 0,.cpx .f64 p1 q1]=some (.cpx .f64 p2 q2) ∧
   pxI (.cpx .mul) [.cpx .f64 x3 x4,.cpx .f64 y3 y4]=some (.cpx .f64 p3 q3)∧pxI (.cpx .add) [.cpx .f64 p2 q2,.cpx .f64 p3 q3]=some (.cpx .f64 p4 q4)∧CC p4 q4 (gadd (gadd (0,0) (gmul a c)) (gmul b d)):=by
 have e1:=Nat.mul_le_mul h1 h3
 have e2:=Nat.mul_le_mul h2 h4
 have e3:=nrm_mul a c
 have e4:=nrm_mul b d
 have e5:=nrm_add (0,0) (gmul a c)
 have e0:nrm (0,0)=0:=rfl
 rw [Nat.add_mul] at hk
 unfold Bd at hk
 obtain ⟨p1,q1,f1,g1⟩:=mulC xa ya (by unfold Bd; omega)
 obtain ⟨p2,q2,f2,g2⟩:=addC CC_zero g1 (by unfold Bd; omega)
 obtain ⟨p3,q3,f3,g3⟩:=mulC xb yc (by unfold Bd; omega)
 obtain ⟨p4,q4,f4,g4⟩:=addC g2 g3 (by unfold Bd; omega)
 exact ⟨p1,q1,p2,q2,p3,q3,p4,q4,f1,f2,f3,f4,g4⟩
theorem w_times {u v:IV} {m n:Mx} (hu:MI u m) (hv:MI v n) {a b c d k:Nat} (h1:nrm m.a≤a) (h2:nrm m.b≤b) (h3:nrm m.c≤c) (h4:nrm m.d≤d) (hn:MB n k) (hk1:Bd ((a+b) * k)) (hk2:Bd ((c+d) * k)) (hd : -9223372036854775808≤m.den * n.den∧m.den * n.den≤9223372036854775807) :
  ∃ r,MI r (mtimes m n)∧Contract Tryz.prog 254 [u,v] r:=by
 obtain ⟨x1,x2,x3,x4,x5,x6,x7,x8,rfl,xa,xb,xc,xd⟩:=hu
 obtain ⟨y1,y2,y3,y4,y5,y6,y7,y8,rfl,ya,yb,yc,yd⟩:=hv
 obtain ⟨_,_,_,_,_,_,p1,q1,f1,f2,f3,f4,g1⟩:=dotC xa xb ya yc h1 h2 hn.a hn.c hk1
 obtain ⟨_,_,_,_,_,_,p2,q2,f5,f6,f7,f8,g2⟩:=dotC xa xb yb yd h1 h2 hn.b hn.d hk1
 obtain ⟨_,_,_,_,_,_,p3,q3,f9,f10,f11,f12,g3⟩:=dotC xc xd ya yc h3 h4 hn.a hn.c hk2
 obtain ⟨_,_,_,_,_,_,p4,q4,f13,f14,f15,f16,g4⟩:=dotC xc xd yb yd h3 h4 hn.b hn.d hk2
 refine contract_ex Tryz.func254 k254 rfl ?_
 simp only [body254,b254,res254,b254k0,b254k1,b254k2,b254k3,b254k4,b254k5,vaE, ↓reduceIte,reduceCtorEq,Nat.reduceEqDiff,Nat.reduceAdd,Nat.reduceMul,Nat.reduceSub,Nat.reduceLeDiff,Nat.reduceBEq,Int.reduceToNat,Int.reduceLE,Int.reduceLT,Int.reduceEq,Int.reduceNe,di]
 rw [wrap64 hd.1 hd.2]
 iterate 21
  repeat (refine And.intro (by decide) ?_)
  refine run_round rfl ?_
  simp only [res254,b254k0,b254k1,b254k2,b254k3,b254k4,b254k5,wr01,wr12,f1,f2,f3,f4,f5,f6,f7,f8,f9,f10,f11,f12,f13,f14,f15,f16,vaE, ↓reduceIte,reduceCtorEq,Nat.reduceEqDiff,Nat.reduceAdd,Nat.reduceMul,Nat.reduceSub,Nat.reduceLeDiff,Nat.reduceBEq,Int.reduceToNat,Int.reduceLE,Int.reduceLT,Int.reduceEq,Int.reduceNe,di]
 exact ⟨p1,q1,p2,q2,p3,q3,p4,q4,rfl,g1,g2,g3,g4⟩
structure MBits where
 a1:Nat
 a2:Nat
 b1:Nat
 b2:Nat
 c1:Nat
 c2:Nat
 d1:Nat
 d2:Nat
def MBits.box (q:MBits) (d:Int):List DV:=[.imm (.cpx .f64 q.a1 q.a2),.imm (.cpx .f64 q.b1 q.b2),.imm (.cpx .f64 q.c1 q.c2),.imm (.cpx .f64 q.d1 q.d2),.imm (.int .i64 d)]
def MBits.iv (q:MBits) (d:Int):IV:=.agg [.cpx .f64 q.a1 q.a2,.cpx .f64 q.b1 q.b2,.cpx .f64 q.c1 q.c2,.cpx .f64 q.d1 q.d2,.int .i64 d]
theorem MI_bits {r:IV} {M:Mx} (h:MI r M):∃ q:MBits,r=q.iv M.den∧CC q.a1 q.a2 M.a∧CC q.b1 q.b2 M.b∧CC q.c1 q.c2 M.c∧CC q.d1 q.d2 M.d:=by
 obtain ⟨a1,a2,b1,b2,c1,c2,d1,d2,e,h⟩:=h
 exact ⟨⟨a1,a2,b1,b2,c1,c2,d1,d2⟩,e,h⟩
theorem bits_MI {q:MBits} {M:Mx} (h:CC q.a1 q.a2 M.a∧CC q.b1 q.b2 M.b∧CC q.c1 q.c2 M.c∧CC q.d1 q.d2 M.d):MI (q.iv M.den) M:=⟨_,_,_,_,_,_,_,_,rfl,h⟩
theorem w_matrix {x:Ow} {h:Int} (hx:OwOk x) (hh : 0≤h∧h≤3):∃ r,MI r (lineMat x h)∧Contract Tryz.prog 191 [owI x,.int .i64 h] r:=by
 have hl:=hx.len; have hars:=hx.ars
 have hp0:=hx.pip _ (getD_mem (l:=x.pp) (d:=default) (show 0<x.pp.length by omega))
 obtain ⟨r0,hr0,hc0⟩:=w_pipe (h:=h) hp0 hh
 obtain ⟨q0,rfl,hq0⟩:=MI_bits hr0
 refine contract_ex Tryz.func191 k191 rfl ?_
 simp only [body191,b191,res191,b191k0,b191k1,vaE, ↓reduceIte,reduceCtorEq,Nat.reduceEqDiff,Nat.reduceAdd,Nat.reduceMul,Nat.reduceSub,Nat.reduceLeDiff,Nat.reduceBEq,Int.reduceToNat,Int.reduceLE,Int.reduceLT,Int.reduceEq,Int.reduceNe,di]
 repeat (refine And.intro (by first | omega | exact all_int _ | (simp only [zeros_len,List.length_append,List.length_take,List.length_drop,List.length_set,List.length_cons,List.length_nil,List.length_map]; omega)) ?_)
 simp only [ppI] at hc0
 refine calls_of hc0 ?_; simp only [vaE,res191,b191k0,b191k1, ↓reduceIte,reduceCtorEq,Nat.reduceEqDiff,Nat.reduceAdd,Nat.reduceMul,Nat.reduceSub,Nat.reduceLeDiff,Nat.reduceBEq,Int.reduceToNat,Int.reduceLE,Int.reduceLT,Int.reduceEq,Int.reduceNe,di]
 simp only [MBits.iv,vaE, ↓reduceIte,reduceCtorEq,Nat.reduceEqDiff,Nat.reduceAdd,Nat.reduceMul,Nat.reduceSub,Nat.reduceLeDiff,Nat.reduceBEq,Int.reduceToNat,Int.reduceLE,Int.reduceLT,Int.reduceEq,Int.reduceNe,di]
 refine loop_keep (α:=Nat × MBits) rfl (fun q=>x.ar.length - q.1) (fun q=>q.1≤x.ar.length∧CC q.2.a1 q.2.a2 (lineM x h q.1).a∧CC q.2.b1 q.2.b2 (lineM x h q.1).b∧CC q.2.c1 q.2.c2 (lineM x h q.1).c∧CC q.2.d1 q.2.d2 (lineM x h q.1).d)
  (fun q=>[(1,.imm (.int .i64 h)),(2,.ref 2 0),(4,.ref 4 0),(5,.ref 5 0),(17,.imm (nI x.ar)),(18,.imm (.int .i64 x.ar.length)),(19,.imm (.int .i64 q.1))])
  (fun q=>[(2,.box [.imm (.slc 2 (x.pp.map ppI)),.imm (nI x.ar),.imm (nI x.be),.imm (.int .i64 x.n)]),(4,.box [.imm (.cpx .f64 0 0),.imm (.cpx .f64 0 0),.imm (.cpx .f64 0 0),.imm (.cpx .f64 0 0),.imm (.int .i64 0)]),(5,.box (q.2.box (lineM x h q.1).den))])
  (0,q0) ⟨Nat.zero_le _,hq0⟩ (by simp only [MBits.box,vaE, ↓reduceIte,reduceCtorEq,Nat.reduceEqDiff,Nat.reduceAdd,Nat.reduceMul,Nat.reduceSub,Nat.reduceLeDiff,Nat.reduceBEq,Int.reduceToNat,Int.reduceLE,Int.reduceLT,Int.reduceEq,Int.reduceNe,di] <;> rfl) ?_
 rintro ⟨j,q⟩ ⟨hj,hq⟩ ih
 dsimp only at hj hq ⊢
 simp only [res191,b191k0,b191k1,MBits.box,vaE, ↓reduceIte,reduceCtorEq,Nat.reduceEqDiff,Nat.reduceAdd,Nat.reduceMul,Nat.reduceSub,Nat.reduceLeDiff,Nat.reduceBEq,Int.reduceToNat,Int.reduceLE,Int.reduceLT,Int.reduceEq,Int.reduceNe,di]
 split
 ·rename_i hlt
  have hlt:j<x.ar.length:=by omega
  have hp:=hx.pip _ (getD_mem (l:=x.pp) (d:=default) (show j+1<x.pp.length by omega))
  have ha:=hx.are _ (getD_mem (l:=x.ar) (d:=0) hlt)
  obtain ⟨r1,hr1,hc1⟩:=w_pipe (h:=h) hp hh
  obtain ⟨r2,hr2,hc2⟩:=w_chamber (h:=h) ha hh
  obtain ⟨k1,k2,k3⟩:=lineM_bd (h:=h) hx j (by omega)
  have hk:MB (lineM x h j) 2034010000∧1≤(lineM x h j).den∧(lineM x h j).den≤1000:=by
   have:j=0∨j=1∨j=2:=by omega
   rcases this with e | e | e <;> subst e <;> exact ⟨k1.mono (by decide),k2,by omega⟩
  obtain ⟨m1,m2,m3,m4⟩:=chamM_bd (h:=h) ha
  obtain ⟨n1,n2,n3,n4⟩:=pipeM_bd (h:=h) hp.2
  have hden1:(mtimes (chamM (x.ar.getD j 0) h) (lineM x h j)).den=(lineM x h j).den:=Int.one_mul _
  obtain ⟨r3,hr3,hc3⟩:=w_times hr2 (bits_MI hq) m1 m2 m3 m4 hk.1 (by unfold Bd; omega) (by unfold Bd; omega) (by rw [show (chamM (x.ar.getD j 0) h).den=1 from rfl,Int.one_mul]; omega)
  have hyd:(pipeM (x.pp.getD (j+1) default) h).den * (mtimes (chamM (x.ar.getD j 0) h) (lineM x h j)).den=(x.pp.getD (j+1) default).2 * (lineM x h j).den:=by rw [hden1]; rfl
  have hyb : 0≤(x.pp.getD (j+1) default).2 * (lineM x h j).den∧(x.pp.getD (j+1) default).2 * (lineM x h j).den≤10 * 1000:=by
   refine ⟨Int.mul_nonneg (by omega) (by omega),Int.mul_le_mul hp.2.2 hk.2.2 (by omega) (by omega)⟩
  obtain ⟨r4,hr4,hc4⟩:=w_times hr1 hr3 n1 n2 n3 n4 (cham_times ha hk.1) (by unfold Bd; omega) (by unfold Bd; omega) (by rw [hyd]; omega)
  obtain ⟨q4,rfl,hq4⟩:=MI_bits hr4
  rw [wrap64 (n:=(j:Int)+1) (by omega) (by omega),show ((j:Int)+1).toNat=j+1 by omega]
  repeat (refine And.intro (by first | omega | exact all_int _ | (simp only [zeros_len,List.length_append,List.length_take,List.length_drop,List.length_set,List.length_cons,List.length_nil,List.length_map]; omega)) ?_)
  simp only [ppI] at hc1
  refine calls_of hc1 ?_; simp only [vaE,res191,b191k0,b191k1, ↓reduceIte,reduceCtorEq,Nat.reduceEqDiff,Nat.reduceAdd,Nat.reduceMul,Nat.reduceSub,Nat.reduceLeDiff,Nat.reduceBEq,Int.reduceToNat,Int.reduceLE,Int.reduceLT,Int.reduceEq,Int.reduceNe,di]
  refine calls_of hc2 ?_; simp only [vaE,res191,b191k0,b191k1, ↓reduceIte,reduceCtorEq,Nat.reduceEqDiff,Nat.reduceAdd,Nat.reduceMul,Nat.reduceSub,Nat.reduceLeDiff,Nat.reduceBEq,Int.reduceToNat,Int.reduceLE,Int.reduceLT,Int.reduceEq,Int.reduceNe,di]
  simp only [MBits.iv] at hc3 hc4
  refine calls_of hc3 ?_; simp only [vaE,res191,b191k0,b191k1, ↓reduceIte,reduceCtorEq,Nat.reduceEqDiff,Nat.reduceAdd,Nat.reduceMul,Nat.reduceSub,Nat.reduceLeDiff,Nat.reduceBEq,Int.reduceToNat,Int.reduceLE,Int.reduceLT,Int.reduceEq,Int.reduceNe,di]
  refine calls_of hc4 ?_; simp only [vaE,res191,b191k0,b191k1, ↓reduceIte,reduceCtorEq,Nat.reduceEqDiff,Nat.reduceAdd,Nat.reduceMul,Nat.reduceSub,Nat.reduceLeDiff,Nat.reduceBEq,Int.reduceToNat,Int.reduceLE,Int.reduceLT,Int.reduceEq,Int.reduceNe,di]
  rw [wrap64 (n:=(j:Int)+1) (by omega) (by omega)]
  exact ih (j+1,q4) _ _ (by dsimp only; omega) ⟨by dsimp only; omega,hq4⟩ (by simp only [MBits.box,vaE, ↓reduceIte,reduceCtorEq,Nat.reduceEqDiff,Nat.reduceAdd,Nat.reduceMul,Nat.reduceSub,Nat.reduceLeDiff,Nat.reduceBEq,Int.reduceToNat,Int.reduceLE,Int.reduceLT,Int.reduceEq,Int.reduceNe,di] <;> rfl)
 ·rename_i hge
  have:j=x.ar.length:=by omega
  subst this
  exact bits_MI (M:=lineM x h x.ar.length) hq
end Go.DI


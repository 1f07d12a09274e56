/- Contracts: parsing rows of numbers. No condition. -/
import Derived.Test.YtaphhpphfffnfaaGreatDoorTkzb
set_option linter.unusedSimpArgs false
set_option maxRecDepth 100000
namespace Go.DI
open Go.Proofs Go.RowKit Go.Lib Lk
theorem word_bad {k:Nat} {sg:Bool} {x:ByteArray} (hk:k≤17) (h:∀ v,atoiAll x.data.toList = .ok v→itoaB v=x→¬ (v<0∧sg=false)→trimL x≤k→False):wordN k sg x=none:=by
  unfold wordN
  cases hn:numO x k with
  | none=>rfl
  | some v =>
    dsimp only
    by_cases hs:v<0∧sg=false
    · rw [if_pos hs]
    · exfalso
      have:numO x k=none:=numO_no hk fun v' h1 h2 h3=>by
        have e:=numO_yes hk h1 h2 h3
        rw [hn] at e
        have e:v=v':=Option.some.inj e
        exact h v' h1 h2 (by rw [← e]; exact hs) h3
      rw [hn] at this
      cases this
theorem word_good {k:Nat} {sg:Bool} {x:ByteArray} {v:Int} (hk:k≤17) (h:atoiAll x.data.toList = .ok v) (h1:itoaB v=x) (h2:¬ (v<0∧sg=false)) (h3:trimL x≤k):numO x k=some v∧wordN k sg x=some v:=by
  have e:=numO_yes hk h h1 h3
  refine ⟨e,?_⟩
  unfold wordN
  rw [e]
  exact if_neg h2
def sgF (sgn:Int) (i:Nat):Bool:=decide ((i:Int)=sgn)
def splR:Option (List (List Int))→IV
  | some rows=>.tup [rowsI rows,.bool true]
  | none=>.tup [.slc 1 [],.bool false]
set_option maxHeartbeats 1000000 in
theorem p_split {s:ByteArray} {n k:Nat} {sgn:Int} (hs:s.size≤1000000) (hn:n≤1000) (hk:k≤17):Contract Tryz.prog 117 [.str s,.int .i64 n,.int .i64 k,.int .i64 sgn] (splR (parseRows n k (sgF sgn) s)):=by
  refine contract_run Tryz.func117 k117 rfl ?_
  simp only [body117,b117,res117,b117k0,b117k1,b117k2,b117k3,b117k4,b117k5,b117k6,b117k7,lkE, ↓reduceIte,reduceCtorEq,Nat.reduceEqDiff,Nat.reduceAdd,Nat.reduceMul,Nat.reduceSub,Nat.reduceLeDiff,Nat.reduceBEq,Int.reduceToNat,Int.reduceLE,Int.reduceLT,Int.reduceEq,Int.reduceNe,di]
  refine calls_of (z_Split (s:=s) (c:=59) (by omega)) ?_; simp only [lkE,res117,b117k0,b117k1,b117k2,b117k3,b117k4,b117k5,b117k6,b117k7, ↓reduceIte,reduceCtorEq,Nat.reduceEqDiff,Nat.reduceAdd,Nat.reduceMul,Nat.reduceSub,Nat.reduceLeDiff,Nat.reduceBEq,Int.reduceToNat,Int.reduceLE,Int.reduceLT,Int.reduceEq,Int.reduceNe,di]
  have hsz:=fun i=>cutS_size (c:=59) (s:=s) (i:=i)
  have hln:=cutS_len (c:=59) (s:=s)
  have hbad:∀ {i},i<(cutS 59 s).length→rowOk n k (sgF sgn) ((cutS 59 s).getD i default)=false→parseRows n k (sgF sgn) s=none:=fun hi hr=>by
    unfold parseRows
    rw [rowsOk_no hr _ hi]; rfl
  have hgood:rowsOk n k (sgF sgn) (cutS 59 s) (cutS 59 s).length=true→parseRows n k (sgF sgn) s=some (rowsV n k (cutS 59 s) (cutS 59 s).length):=fun hr=>by
    unfold parseRows
    rw [if_pos hr]
  generalize parseRows n k (sgF sgn) s=R at hbad hgood ⊢
  generalize cutS 59 s=ps at hsz hln hbad hgood ⊢
  simp only [strsI,List.length_map,lkE, ↓reduceIte,reduceCtorEq,Nat.reduceEqDiff,Nat.reduceAdd,Nat.reduceMul,Nat.reduceSub,Nat.reduceLeDiff,Nat.reduceBEq,Int.reduceToNat,Int.reduceLE,Int.reduceLT,Int.reduceEq,Int.reduceNe,di]
  refine loop_keep (α:=Nat) rfl (fun i=>ps.length - i) (fun i=>i≤ps.length∧rowsOk n k (sgF sgn) ps i=true)
    (fun i=>[(1,.imm (.int .i64 n)),(2,.imm (.int .i64 k)),(3,.imm (.int .i64 sgn)),(10,.own 10),(20,.imm (.slc 1 (ps.map fun s=>.str s))),(21,.imm (.int .i64 ps.length)),(22,.imm (.int .i64 i))])
    (fun i=>[(10,.tok 1 ((rowsV n k ps i).map rowI))]) 0 ⟨Nat.zero_le _,rfl⟩ (by simp only [lkE, ↓reduceIte,reduceCtorEq,Nat.reduceEqDiff,Nat.reduceAdd,Nat.reduceMul,Nat.reduceSub,Nat.reduceLeDiff,Nat.reduceBEq,Int.reduceToNat,Int.reduceLE,Int.reduceLT,Int.reduceEq,Int.reduceNe,di] <;> rfl) ?_
  rintro i ⟨hi,hall⟩ ih
  simp only [res117,b117k0,b117k1,b117k2,b117k3,b117k4,b117k5,b117k6,b117k7,lkE, ↓reduceIte,reduceCtorEq,Nat.reduceEqDiff,Nat.reduceAdd,Nat.reduceMul,Nat.reduceSub,Nat.reduceLeDiff,Nat.reduceBEq,Int.reduceToNat,Int.reduceLE,Int.reduceLT,Int.reduceEq,Int.reduceNe,di]
  split
  · rename_i hlt0
    have hlt:i<ps.length:=by omega
    refine ⟨hlt0,?_⟩
    have hx:=hsz i
    have hb:=hbad hlt
    have hst:rowsOk n k (sgF sgn) ps (i+1)=(rowsOk n k (sgF sgn) ps i && rowOk n k (sgF sgn) (ps.getD i default)):=rfl
    have hrv:rowsV n k ps (i+1)=rowsV n k ps i ++ [wordsV k (cutS 32 (ps.getD i default)) n]:=rowsV_succ
    have ih':=fun S R=>ih (i+1) S R (by omega)
    have hrl:=rowsV_len (n:=n) (k:=k) (ps:=ps) (i:=i)
    rw [hall,Bool.true_and] at hst
    generalize ps.getD i default=x at hx hb hst hrv ⊢
    refine calls_of (z_Split (s:=x) (c:=32) (by omega)) ?_; simp only [lkE,res117,b117k0,b117k1,b117k2,b117k3,b117k4,b117k5,b117k6,b117k7, ↓reduceIte,reduceCtorEq,Nat.reduceEqDiff,Nat.reduceAdd,Nat.reduceMul,Nat.reduceSub,Nat.reduceLeDiff,Nat.reduceBEq,Int.reduceToNat,Int.reduceLE,Int.reduceLT,Int.reduceEq,Int.reduceNe,di]
    have hwz:=fun j=>cutS_size (c:=32) (s:=x) (i:=j)
    have hwl:=cutS_len (c:=32) (s:=x)
    have hro:rowOk n k (sgF sgn) x=(decide ((cutS 32 x).length=n) && wordsOk k (sgF sgn) (cutS 32 x) n):=rfl
    generalize cutS 32 x=w at hwz hwl hro hrv ⊢
    simp only [strsI,List.length_map,lkE, ↓reduceIte,reduceCtorEq,Nat.reduceEqDiff,Nat.reduceAdd,Nat.reduceMul,Nat.reduceSub,Nat.reduceLeDiff,Nat.reduceBEq,Int.reduceToNat,Int.reduceLE,Int.reduceLT,Int.reduceEq,Int.reduceNe,di]
    by_cases hl:w.length=n
    rotate_left
    · rw [decide_eq_false hl,Bool.false_and] at hro
      rw [if_neg (by omega),hb hro]
      rfl
    rw [if_pos (by omega)]
    rw [decide_eq_true hl,Bool.true_and] at hro
    refine loop_keep (α:=Nat) rfl (fun j=>n - j) (fun j=>j≤n∧wordsOk k (sgF sgn) w j=true)
      (fun j=>[(1,.imm (.int .i64 n)),(2,.imm (.int .i64 k)),(3,.imm (.int .i64 sgn)),(10,.own 10),(14,.own 14),(20,.imm (.slc 1 (ps.map fun s=>.str s))),(21,.imm (.int .i64 ps.length)),(22,.imm (.int .i64 i)),(32,.imm (.slc 1 (w.map fun s=>.str s))),(33,.imm (.int .i64 n)),(34,.imm (.int .i64 j))])
      (fun j=>[(10,.tok 1 ((rowsV n k ps i).map rowI)),(14,.tok 1 ((wordsV k w j).map (.int .i64)))]) 0 ⟨Nat.zero_le _,rfl⟩ (by simp only [hl,lkE, ↓reduceIte,reduceCtorEq,Nat.reduceEqDiff,Nat.reduceAdd,Nat.reduceMul,Nat.reduceSub,Nat.reduceLeDiff,Nat.reduceBEq,Int.reduceToNat,Int.reduceLE,Int.reduceLT,Int.reduceEq,Int.reduceNe,di] <;> rfl) ?_
    rintro j ⟨hj,hwo⟩ ihj
    simp only [res117,b117k0,b117k1,b117k2,b117k3,b117k4,b117k5,b117k6,b117k7,lkE, ↓reduceIte,reduceCtorEq,Nat.reduceEqDiff,Nat.reduceAdd,Nat.reduceMul,Nat.reduceSub,Nat.reduceLeDiff,Nat.reduceBEq,Int.reduceToNat,Int.reduceLE,Int.reduceLT,Int.reduceEq,Int.reduceNe,di]
    split
    · rename_i hjl0
      have hjl:j<n:=by omega
      refine ⟨by omega,?_⟩
      have hy:=hwz j
      have hno:wordN k (sgF sgn j) (w.getD j default)=none→R=none:=fun e=>hb (by rw [hro]; exact wordsOk_no e n hjl)
      have hws:wordsOk k (sgF sgn) w (j+1)=(wordsOk k (sgF sgn) w j && (wordN k (sgF sgn j) (w.getD j default)).isSome):=rfl
      have hwv:wordsV k w (j+1)=wordsV k w j ++ [(numO (w.getD j default) k).getD 0]:=wordsV_succ
      have hwlv:=wordsV_len (k:=k) (w:=w) (i:=j)
      have ihj':=fun S R=>ihj (j+1) S R (by omega)
      rw [hwo,Bool.true_and] at hws
      generalize w.getD j default=y at hy hno hws hwv ⊢
      have c:=z_Atoi (s:=y) (by omega)
      unfold atoiI at c
      cases ha:atoiAll y.data.toList with
      | range =>
        rw [ha] at c
        refine calls_of c ?_; simp only [lkE,res117,b117k0,b117k1,b117k2,b117k3,b117k4,b117k5,b117k6,b117k7, ↓reduceIte,reduceCtorEq,Nat.reduceEqDiff,Nat.reduceAdd,Nat.reduceMul,Nat.reduceSub,Nat.reduceLeDiff,Nat.reduceBEq,Int.reduceToNat,Int.reduceLE,Int.reduceLT,Int.reduceEq,Int.reduceNe,di]
        rw [hno (word_bad hk fun v e=>by rw [ha] at e; cases e)]
        rfl
      | ok v =>
        rw [ha] at c
        obtain ⟨b0,b1⟩:=Lib.atoiAll_bounds ha
        have same:∀ v',atoiAll y.data.toList = .ok v'→v'=v:=fun v' e=>by rw [ha] at e; injection e with e; exact e.symm
        refine calls_of c ?_; simp only [lkE,res117,b117k0,b117k1,b117k2,b117k3,b117k4,b117k5,b117k6,b117k7, ↓reduceIte,reduceCtorEq,Nat.reduceEqDiff,Nat.reduceAdd,Nat.reduceMul,Nat.reduceSub,Nat.reduceLeDiff,Nat.reduceBEq,Int.reduceToNat,Int.reduceLE,Int.reduceLT,Int.reduceEq,Int.reduceNe,di]
        refine calls_of (z_Itoa b0 b1) ?_; simp only [lkE,res117,b117k0,b117k1,b117k2,b117k3,b117k4,b117k5,b117k6,b117k7, ↓reduceIte,reduceCtorEq,Nat.reduceEqDiff,Nat.reduceAdd,Nat.reduceMul,Nat.reduceSub,Nat.reduceLeDiff,Nat.reduceBEq,Int.reduceToNat,Int.reduceLE,Int.reduceLT,Int.reduceEq,Int.reduceNe,di]
        by_cases he:itoaB v=y
        rotate_left
        · rw [if_neg (fun e=>he (str_beq.1 e)),hno (word_bad hk fun v' e q _ _=>he (by rw [← same v' e]; exact q))]
          rfl
        rw [if_pos (str_beq.2 he)]
        have tp:=z_TrimPrefix (s:=y) (p:=⟨#[45]⟩)
        rw [show (ByteArray.mk #[45]).data.toList=[45] from rfl] at tp
        by_cases hneg:v<0
        · rw [if_pos hneg]
          by_cases hjs:(j:Int)=sgn
          rotate_left
          · rw [if_neg hjs,hno (word_bad hk fun v' e _ q _=>q ⟨by rw [same v' e]; exact hneg,decide_eq_false hjs⟩)]
            rfl
          rw [if_pos hjs]
          have hsg:¬ (v<0∧sgF sgn j=false):=fun e=>by
            have e2:sgF sgn j=true:=decide_eq_true hjs
            rw [e2] at e
            cases e.2
          refine calls_of tp ?_; simp only [lkE,res117,b117k0,b117k1,b117k2,b117k3,b117k4,b117k5,b117k6,b117k7, ↓reduceIte,reduceCtorEq,Nat.reduceEqDiff,Nat.reduceAdd,Nat.reduceMul,Nat.reduceSub,Nat.reduceLeDiff,Nat.reduceBEq,Int.reduceToNat,Int.reduceLE,Int.reduceLT,Int.reduceEq,Int.reduceNe,di]
          split
          · rename_i hgt
            have hgt:¬ trimL y≤k:=by unfold trimL; omega
            rw [hno (word_bad hk fun v' _ _ _ q=>hgt q)]
            rfl
          · rename_i hgt
            have hle:trimL y≤k:=by unfold trimL; omega
            obtain ⟨g1,g2⟩:=word_good hk ha he hsg hle
            rw [g2] at hws
            rw [g1] at hwv
            refine ⟨by omega,by omega,?_⟩
            rw [wrapS (n:=(j:Int)+1) (by omega) (by omega)]
            refine ihj' _ _ ⟨by omega,hws⟩ ?_
            rw [hwv,List.map_append]
            simp only [lkE, ↓reduceIte,reduceCtorEq,Nat.reduceEqDiff,Nat.reduceAdd,Nat.reduceMul,Nat.reduceSub,Nat.reduceLeDiff,Nat.reduceBEq,Int.reduceToNat,Int.reduceLE,Int.reduceLT,Int.reduceEq,Int.reduceNe,di] <;> rfl
        · rw [if_neg hneg]
          have hsg:¬ (v<0∧sgF sgn j=false):=fun e=>hneg e.1
          refine calls_of tp ?_; simp only [lkE,res117,b117k0,b117k1,b117k2,b117k3,b117k4,b117k5,b117k6,b117k7, ↓reduceIte,reduceCtorEq,Nat.reduceEqDiff,Nat.reduceAdd,Nat.reduceMul,Nat.reduceSub,Nat.reduceLeDiff,Nat.reduceBEq,Int.reduceToNat,Int.reduceLE,Int.reduceLT,Int.reduceEq,Int.reduceNe,di]
          split
          · rename_i hgt
            have hgt:¬ trimL y≤k:=by unfold trimL; omega
            rw [hno (word_bad hk fun v' _ _ _ q=>hgt q)]
            rfl
          · rename_i hgt
            have hle:trimL y≤k:=by unfold trimL; omega
            obtain ⟨g1,g2⟩:=word_good hk ha he hsg hle
            rw [g2] at hws
            rw [g1] at hwv
            refine ⟨by omega,by omega,?_⟩
            rw [wrapS (n:=(j:Int)+1) (by omega) (by omega)]
            refine ihj' _ _ ⟨by omega,hws⟩ ?_
            rw [hwv,List.map_append]
            simp only [lkE, ↓reduceIte,reduceCtorEq,Nat.reduceEqDiff,Nat.reduceAdd,Nat.reduceMul,Nat.reduceSub,Nat.reduceLeDiff,Nat.reduceBEq,Int.reduceToNat,Int.reduceLE,Int.reduceLT,Int.reduceEq,Int.reduceNe,di] <;> rfl
      | _ =>
        rw [ha] at c
        refine calls_of c ?_; simp only [lkE,res117,b117k0,b117k1,b117k2,b117k3,b117k4,b117k5,b117k6,b117k7, ↓reduceIte,reduceCtorEq,Nat.reduceEqDiff,Nat.reduceAdd,Nat.reduceMul,Nat.reduceSub,Nat.reduceLeDiff,Nat.reduceBEq,Int.reduceToNat,Int.reduceLE,Int.reduceLT,Int.reduceEq,Int.reduceNe,di]
        rw [hno (word_bad hk fun v e=>by rw [ha] at e; cases e)]
        rfl
    · rename_i hjge
      obtain rfl:j=n:=by omega
      rw [hwo] at hro
      rw [hro] at hst
      refine ⟨by omega,by omega,?_⟩
      rw [wrapS (n:=(i:Int)+1) (by omega) (by omega)]
      refine ih' _ _ ⟨by omega,hst⟩ ?_
      rw [hrv,List.map_append]
      simp only [rowI,lkE, ↓reduceIte,reduceCtorEq,Nat.reduceEqDiff,Nat.reduceAdd,Nat.reduceMul,Nat.reduceSub,Nat.reduceLeDiff,Nat.reduceBEq,Int.reduceToNat,Int.reduceLE,Int.reduceLT,Int.reduceEq,Int.reduceNe,di] <;> rfl
  · rename_i hge
    obtain rfl:i=ps.length:=by omega
    rw [hgood hall]
    rfl
theorem parseRows_len {n k:Nat} {sg:Nat→Bool} {s:ByteArray} {rows:List (List Int)} (h:parseRows n k sg s=some rows):(∀ r ∈ rows,r.length=n)∧rows.length≤s.size+1:=by
  unfold parseRows at h
  split at h
  · injection h with h
    subst h
    refine ⟨fun r hr => ?_,by rw [rowsV_len]; exact cutS_len⟩
    obtain ⟨j,_,rfl⟩:=List.mem_map.1 hr
    exact wordsV_len
  · cases h
def knOf (r:List Int):Kn:=(r.getD 0 0,r.getD 1 0)
def flOf (r:List Int):Flow:=⟨r.getD 0 0,r.getD 1 0,r.getD 2 0⟩
def tabR:Option (List (List Int))→List Kn × Int
  | none=>([],7)
  | some rows=>if (chkT (rows.map knOf)).2=0 then (rows.map knOf,0) else ([],(chkT (rows.map knOf)).2)
def flwR:Option (List (List Int))→List Flow × Int
  | none=>([],7)
  | some rows=>if listErr (rows.map flOf)=0 then (rows.map flOf,0) else ([],listErr (rows.map flOf))
def parseTab (s:ByteArray):List Kn × Int:=if 60000<s.size then ([],8) else tabR (parseRows 2 10 (sgF (-1)) s)
def parseFl (s:ByteArray):List Flow × Int:=if 60000<s.size then ([],8) else if s=⟨#[]⟩ then ([],0) else flwR (parseRows 3 8 (sgF 2) s)
theorem p_ParseTable {s:ByteArray} (hs:s.size≤1000000):Contract Tryz.prog 29 [.str s] (.tup [tabI (parseTab s).1,.int .i64 (parseTab s).2]):=by
  refine contract_run Tryz.func29 k29 rfl ?_
  simp only [body29,b29,res29,b29k0,b29k1,b29k2,b29k3,b29k4,lkE, ↓reduceIte,reduceCtorEq,Nat.reduceEqDiff,Nat.reduceAdd,Nat.reduceMul,Nat.reduceSub,Nat.reduceLeDiff,Nat.reduceBEq,Int.reduceToNat,Int.reduceLE,Int.reduceLT,Int.reduceEq,Int.reduceNe,di]
  unfold parseTab
  split
  · rename_i h
    rw [if_pos (by omega)]
    rfl
  rename_i h
  rw [if_neg (by omega)]
  have c:=p_split (s:=s) (n:=2) (k:=10) (sgn := -1) hs (by decide) (by decide)
  have hrl:=fun rows=>parseRows_len (n:=2) (k:=10) (sg:=sgF (-1)) (s:=s) (rows:=rows)
  generalize parseRows 2 10 (sgF (-1)) s=R at c hrl ⊢
  cases R with
  | none =>
    simp only [splR] at c
    refine calls_of c ?_; simp only [lkE,res29,b29k0,b29k1,b29k2,b29k3,b29k4, ↓reduceIte,reduceCtorEq,Nat.reduceEqDiff,Nat.reduceAdd,Nat.reduceMul,Nat.reduceSub,Nat.reduceLeDiff,Nat.reduceBEq,Int.reduceToNat,Int.reduceLE,Int.reduceLT,Int.reduceEq,Int.reduceNe,di]
    rfl
  | some rows =>
    obtain ⟨h2,h3⟩:=hrl rows rfl
    simp only [splR,rowsI] at c
    refine calls_of c ?_; simp only [lkE,res29,b29k0,b29k1,b29k2,b29k3,b29k4, ↓reduceIte,reduceCtorEq,Nat.reduceEqDiff,Nat.reduceAdd,Nat.reduceMul,Nat.reduceSub,Nat.reduceLeDiff,Nat.reduceBEq,Int.reduceToNat,Int.reduceLE,Int.reduceLT,Int.reduceEq,Int.reduceNe,di]
    refine loop_keep (α:=Nat) rfl (fun i=>rows.length - i) (fun i=>i≤rows.length)
      (fun i=>[(2,.ref 2 0),(6,.ref 6 0),(22,.imm (.slc 1 (rows.map rowI))),(23,.imm (.int .i64 rows.length)),(24,.imm (.int .i64 i))])
      (fun i=>[(2,.box [.imm (.slc 2 [])]),(6,.box [.own 1006]),(1006,.tok 2 (((rows.take i).map knOf).map knI))]) 0 (Nat.zero_le _) (by simp only [lkE, ↓reduceIte,reduceCtorEq,Nat.reduceEqDiff,Nat.reduceAdd,Nat.reduceMul,Nat.reduceSub,Nat.reduceLeDiff,Nat.reduceBEq,Int.reduceToNat,Int.reduceLE,Int.reduceLT,Int.reduceEq,Int.reduceNe,di] <;> rfl) ?_
    intro i hi ih
    simp only [res29,b29k0,b29k1,b29k2,b29k3,b29k4,lkE, ↓reduceIte,reduceCtorEq,Nat.reduceEqDiff,Nat.reduceAdd,Nat.reduceMul,Nat.reduceSub,Nat.reduceLeDiff,Nat.reduceBEq,Int.reduceToNat,Int.reduceLE,Int.reduceLT,Int.reduceEq,Int.reduceNe,di]
    split
    · rename_i hlt0
      have hlt:i<rows.length:=by omega
      refine ⟨hlt0,?_⟩
      have hr:=h2 (rows.getD i default) (by rw [List.getD_eq_getElem?_getD,List.getElem?_eq_getElem hlt]; exact List.getElem_mem hlt)
      have htk:rows.take (i+1)=rows.take i ++ [rows.getD i default]:=take_snoc hlt
      generalize rows.getD i default=r at hr htk ⊢
      obtain ⟨a,b,rfl⟩ : ∃ a b,r=[a,b]:=by
        match r,hr with
        | [a,b],_=>exact ⟨a,b,rfl⟩
      have htl:=List.length_take_le i rows
      simp only [rowI,res29,b29k0,b29k1,b29k2,b29k3,b29k4,lkE, ↓reduceIte,reduceCtorEq,Nat.reduceEqDiff,Nat.reduceAdd,Nat.reduceMul,Nat.reduceSub,Nat.reduceLeDiff,Nat.reduceBEq,Int.reduceToNat,Int.reduceLE,Int.reduceLT,Int.reduceEq,Int.reduceNe,di]
      refine ⟨by decide,?_⟩
      rw [show [IV.int .i64 a,IV.int .i64 b].getD 0 IV.nilp = .int .i64 a from rfl]
      simp only [res29,b29k0,b29k1,b29k2,b29k3,b29k4,lkE, ↓reduceIte,reduceCtorEq,Nat.reduceEqDiff,Nat.reduceAdd,Nat.reduceMul,Nat.reduceSub,Nat.reduceLeDiff,Nat.reduceBEq,Int.reduceToNat,Int.reduceLE,Int.reduceLT,Int.reduceEq,Int.reduceNe,di]
      refine ⟨by decide,?_⟩
      rw [show [IV.int .i64 a,IV.int .i64 b].getD 1 IV.nilp = .int .i64 b from rfl]
      simp only [res29,b29k0,b29k1,b29k2,b29k3,b29k4,lkE, ↓reduceIte,reduceCtorEq,Nat.reduceEqDiff,Nat.reduceAdd,Nat.reduceMul,Nat.reduceSub,Nat.reduceLeDiff,Nat.reduceBEq,Int.reduceToNat,Int.reduceLE,Int.reduceLT,Int.reduceEq,Int.reduceNe,di]
      refine ⟨by omega,by omega,?_⟩
      rw [wrapS (n:=(i:Int)+1) (by omega) (by omega)]
      refine ih (i+1) _ _ (by omega) (by omega) ?_
      rw [htk,List.map_append,List.map_append]
      simp only [lkE, ↓reduceIte,reduceCtorEq,Nat.reduceEqDiff,Nat.reduceAdd,Nat.reduceMul,Nat.reduceSub,Nat.reduceLeDiff,Nat.reduceBEq,Int.reduceToNat,Int.reduceLE,Int.reduceLT,Int.reduceEq,Int.reduceNe,di] <;> rfl
    · rename_i hge
      obtain rfl:i=rows.length:=by omega
      rw [List.take_length]
      have e:tabR (some rows)=if (chkT (rows.map knOf)).2=0 then (rows.map knOf,0) else ([],(chkT (rows.map knOf)).2):=rfl
      rw [e]
      refine calls_of (p_tableErr (l:=rows.map knOf) (by rw [List.length_map]; omega)) ?_; simp only [lkE,res29,b29k0,b29k1,b29k2,b29k3,b29k4, ↓reduceIte,reduceCtorEq,Nat.reduceEqDiff,Nat.reduceAdd,Nat.reduceMul,Nat.reduceSub,Nat.reduceLeDiff,Nat.reduceBEq,Int.reduceToNat,Int.reduceLE,Int.reduceLT,Int.reduceEq,Int.reduceNe,di]
      split <;> rfl
theorem p_ParseFlows {s:ByteArray} (hs:s.size≤1000000):Contract Tryz.prog 37 [.str s] (.tup [.slc 3 ((parseFl s).1.map flI),.int .i64 (parseFl s).2]):=by
  refine contract_run Tryz.func37 k37 rfl ?_
  simp only [body37,b37,res37,b37k0,b37k1,b37k2,b37k3,b37k4,b37k5,lkE, ↓reduceIte,reduceCtorEq,Nat.reduceEqDiff,Nat.reduceAdd,Nat.reduceMul,Nat.reduceSub,Nat.reduceLeDiff,Nat.reduceBEq,Int.reduceToNat,Int.reduceLE,Int.reduceLT,Int.reduceEq,Int.reduceNe,di]
  unfold parseFl
  by_cases h : 60000<s.size
  · rw [if_pos (show (60000:Int)<(s.size:Int) by omega),if_pos h]
    rfl
  rw [if_neg (show ¬ (60000:Int)<(s.size:Int) by omega),if_neg h]
  by_cases h0:s=⟨#[]⟩
  · rw [if_pos (str_beq.2 h0),if_pos h0]
    rfl
  rw [if_neg (fun e=>h0 (str_beq.1 e)),if_neg h0]
  have c:=p_split (s:=s) (n:=3) (k:=8) (sgn:=2) hs (by decide) (by decide)
  have hrl:=fun rows=>parseRows_len (n:=3) (k:=8) (sg:=sgF 2) (s:=s) (rows:=rows)
  generalize parseRows 3 8 (sgF 2) s=R at c hrl ⊢
  cases R with
  | none =>
    simp only [splR] at c
    refine calls_of c ?_; simp only [lkE,res37,b37k0,b37k1,b37k2,b37k3,b37k4,b37k5, ↓reduceIte,reduceCtorEq,Nat.reduceEqDiff,Nat.reduceAdd,Nat.reduceMul,Nat.reduceSub,Nat.reduceLeDiff,Nat.reduceBEq,Int.reduceToNat,Int.reduceLE,Int.reduceLT,Int.reduceEq,Int.reduceNe,di]
    rfl
  | some rows =>
    obtain ⟨h2,h3⟩:=hrl rows rfl
    simp only [splR,rowsI] at c
    refine calls_of c ?_; simp only [lkE,res37,b37k0,b37k1,b37k2,b37k3,b37k4,b37k5, ↓reduceIte,reduceCtorEq,Nat.reduceEqDiff,Nat.reduceAdd,Nat.reduceMul,Nat.reduceSub,Nat.reduceLeDiff,Nat.reduceBEq,Int.reduceToNat,Int.reduceLE,Int.reduceLT,Int.reduceEq,Int.reduceNe,di]
    refine loop_keep (α:=Nat) rfl (fun i=>rows.length - i) (fun i=>i≤rows.length)
      (fun i=>[(6,.own 6),(22,.imm (.slc 1 (rows.map rowI))),(23,.imm (.int .i64 rows.length)),(24,.imm (.int .i64 i))])
      (fun i=>[(6,.tok 3 (((rows.take i).map flOf).map flI))]) 0 (Nat.zero_le _) (by simp only [lkE, ↓reduceIte,reduceCtorEq,Nat.reduceEqDiff,Nat.reduceAdd,Nat.reduceMul,Nat.reduceSub,Nat.reduceLeDiff,Nat.reduceBEq,Int.reduceToNat,Int.reduceLE,Int.reduceLT,Int.reduceEq,Int.reduceNe,di] <;> rfl) ?_
    intro i hi ih
    simp only [res37,b37k0,b37k1,b37k2,b37k3,b37k4,b37k5,lkE, ↓reduceIte,reduceCtorEq,Nat.reduceEqDiff,Nat.reduceAdd,Nat.reduceMul,Nat.reduceSub,Nat.reduceLeDiff,Nat.reduceBEq,Int.reduceToNat,Int.reduceLE,Int.reduceLT,Int.reduceEq,Int.reduceNe,di]
    split
    · rename_i hlt0
      have hlt:i<rows.length:=by omega
      refine ⟨hlt0,?_⟩
      have hr:=h2 (rows.getD i default) (by rw [List.getD_eq_getElem?_getD,List.getElem?_eq_getElem hlt]; exact List.getElem_mem hlt)
      have htk:rows.take (i+1)=rows.take i ++ [rows.getD i default]:=take_snoc hlt
      generalize rows.getD i default=r at hr htk ⊢
      obtain ⟨a,b,d,rfl⟩ : ∃ a b d,r=[a,b,d]:=by
        match r,hr with
        | [a,b,d],_=>exact ⟨a,b,d,rfl⟩
      have htl:=List.length_take_le i rows
      simp only [rowI,res37,b37k0,b37k1,b37k2,b37k3,b37k4,b37k5,lkE, ↓reduceIte,reduceCtorEq,Nat.reduceEqDiff,Nat.reduceAdd,Nat.reduceMul,Nat.reduceSub,Nat.reduceLeDiff,Nat.reduceBEq,Int.reduceToNat,Int.reduceLE,Int.reduceLT,Int.reduceEq,Int.reduceNe,di]
      refine ⟨by decide,?_⟩
      rw [show [IV.int .i64 a,IV.int .i64 b,IV.int .i64 d].getD 0 IV.nilp = .int .i64 a from rfl]
      simp only [res37,b37k0,b37k1,b37k2,b37k3,b37k4,b37k5,lkE, ↓reduceIte,reduceCtorEq,Nat.reduceEqDiff,Nat.reduceAdd,Nat.reduceMul,Nat.reduceSub,Nat.reduceLeDiff,Nat.reduceBEq,Int.reduceToNat,Int.reduceLE,Int.reduceLT,Int.reduceEq,Int.reduceNe,di]
      refine ⟨by decide,?_⟩
      rw [show [IV.int .i64 a,IV.int .i64 b,IV.int .i64 d].getD 1 IV.nilp = .int .i64 b from rfl]
      simp only [res37,b37k0,b37k1,b37k2,b37k3,b37k4,b37k5,lkE, ↓reduceIte,reduceCtorEq,Nat.reduceEqDiff,Nat.reduceAdd,Nat.reduceMul,Nat.reduceSub,Nat.reduceLeDiff,Nat.reduceBEq,Int.reduceToNat,Int.reduceLE,Int.reduceLT,Int.reduceEq,Int.reduceNe,di]
      refine ⟨by decide,?_⟩
      rw [show [IV.int .i64 a,IV.int .i64 b,IV.int .i64 d].getD 2 IV.nilp = .int .i64 d from rfl]
      simp only [res37,b37k0,b37k1,b37k2,b37k3,b37k4,b37k5,lkE, ↓reduceIte,reduceCtorEq,Nat.reduceEqDiff,Nat.reduceAdd,Nat.reduceMul,Nat.reduceSub,Nat.reduceLeDiff,Nat.reduceBEq,Int.reduceToNat,Int.reduceLE,Int.reduceLT,Int.reduceEq,Int.reduceNe,di]
      refine ⟨by omega,by omega,?_⟩
      rw [wrapS (n:=(i:Int)+1) (by omega) (by omega)]
      refine ih (i+1) _ _ (by omega) (by omega) ?_
      rw [htk,List.map_append,List.map_append]
      simp only [lkE, ↓reduceIte,reduceCtorEq,Nat.reduceEqDiff,Nat.reduceAdd,Nat.reduceMul,Nat.reduceSub,Nat.reduceLeDiff,Nat.reduceBEq,Int.reduceToNat,Int.reduceLE,Int.reduceLT,Int.reduceEq,Int.reduceNe,di] <;> rfl
    · rename_i hge
      obtain rfl:i=rows.length:=by omega
      rw [List.take_length]
      have e:flwR (some rows)=if listErr (rows.map flOf)=0 then (rows.map flOf,0) else ([],listErr (rows.map flOf)):=rfl
      rw [e]
      refine calls_of (p_ticksErr (l:=rows.map flOf) (by rw [List.length_map]; omega)) ?_; simp only [lkE,res37,b37k0,b37k1,b37k2,b37k3,b37k4,b37k5, ↓reduceIte,reduceCtorEq,Nat.reduceEqDiff,Nat.reduceAdd,Nat.reduceMul,Nat.reduceSub,Nat.reduceLeDiff,Nat.reduceBEq,Int.reduceToNat,Int.reduceLE,Int.reduceLT,Int.reduceEq,Int.reduceNe,di]
      split <;> rfl
end Go.DI


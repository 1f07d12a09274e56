/- Contracts: tables and flows as strings, in the program and in the reference. No condition. -/
import Derived.Test.YtaphhpphfffnfaaGreatDoorTkGg
import Derived.Test.YtaphhpphfffnfaaGreatDoorTka
import Derived.Test.YtaphhpphfffnfaaGreatDoorTkb
import Derived.Test.YtaphhpphfffnfaaGreatDoorTky
import Derived.Test.YtaphhpphfffnfaaGreatDoorTkza
import Derived.Lib.ItoaLen
set_option linter.unusedSimpArgs false
set_option maxRecDepth 100000
namespace Go.DI
open Go.Proofs Go.RowKit Go.Lib Lk
def In64 (n:Int):Prop := -9223372036854775808≤n∧n≤9223372036854775807
def KnB (l:List Kn):Prop:=∀ k ∈ l,In64 k.1∧In64 k.2
def FlB (l:List Flow):Prop:=∀ x ∈ l,In64 x.up∧In64 x.low∧In64 x.ex
def rowI (r:List Int):IV:=.slc 1 (r.map (.int .i64))
def rowsI (rows:List (List Int)):IV:=.slc 1 (rows.map rowI)
def knR (k:Kn):List Int:=[k.1,k.2]
def flR (x:Flow):List Int:=[x.up,x.low,x.ex]
theorem itoa_len {n:Int} (h:In64 n):(itoa n).length≤21:=itoa_length_le n h.1 h.2
structure RowsB (rows:List (List Int)):Prop where
  len:rows.length≤1000
  row:∀ r ∈ rows,r.length≤3∧∀ n ∈ r,In64 n
theorem rowW_len {r:List Int} (h:r.length≤3∧∀ n ∈ r,In64 n):(rowW r).length≤66:=by
  have:=join_len (c:=32) (B:=21) (l:=r.map itoa) (fun w hw=>by
    obtain ⟨n,hn,rfl⟩:=List.mem_map.1 hw
    exact itoa_len (h.2 n hn))
  rw [List.length_map] at this
  unfold rowW
  omega
theorem rows_at {rows:List (List Int)} (h:RowsB rows) {i:Nat}:(rows.getD i default).length≤3∧∀ n ∈ rows.getD i default,In64 n:=by
  rw [List.getD_eq_getElem?_getD]
  cases e:rows[i]? with
  | none=>exact ⟨by decide,fun n hn=>by cases hn⟩
  | some r=>exact h.row r (List.mem_of_getElem? e)
theorem p_join {rows:List (List Int)} (h:RowsB rows):Contract Tryz.prog 116 [rowsI rows] (.str (fmtRows rows)):=by
  have hlen:=h.len
  refine contract_run Tryz.func116 k116 rfl ?_
  simp only [body116,b116,res116,b116k0,b116k1,b116k2,b116k3,b116k4,rowsI,lkE, ↓reduceIte,reduceCtorEq,Nat.reduceEqDiff,Nat.reduceAdd,Nat.reduceMul,Nat.reduceSub,Nat.reduceLeDiff,Nat.reduceBEq,Int.reduceToNat,Int.reduceLE,Int.reduceLT,Int.reduceEq,Int.reduceNe,di]
  refine loop_keep (α:=Nat) rfl (fun i=>rows.length - i) (fun i=>i≤rows.length)
    (fun i=>[(3,.own 3),(9,.imm (.slc 1 (rows.map rowI))),(10,.imm (.int .i64 rows.length)),(11,.imm (.int .i64 i))])
    (fun i=>[(3,.tok 1 ((rows.take i).map fun r=>.str (bs (rowW r))))]) 0 (Nat.zero_le _) (by simp only [List.length_map,lkE, ↓reduceIte,reduceCtorEq,Nat.reduceEqDiff,Nat.reduceAdd,Nat.reduceMul,Nat.reduceSub,Nat.reduceLeDiff,Nat.reduceBEq,Int.reduceToNat,Int.reduceLE,Int.reduceLT,Int.reduceEq,Int.reduceNe,di] <;> rfl) ?_
  intro i hi ih
  simp only [res116,b116k0,b116k1,b116k2,b116k3,b116k4,lkE, ↓reduceIte,reduceCtorEq,Nat.reduceEqDiff,Nat.reduceAdd,Nat.reduceMul,Nat.reduceSub,Nat.reduceLeDiff,Nat.reduceBEq,Int.reduceToNat,Int.reduceLE,Int.reduceLT,Int.reduceEq,Int.reduceNe,di]
  split
  · rename_i hlt0
    have hlt:i<rows.length:=by omega
    refine ⟨hlt0,?_⟩
    have hr:=rows_at h (i:=i)
    have ih':=fun S R=>ih (i+1) S R (by omega) (by omega)
    have htk:rows.take (i+1)=rows.take i ++ [rows.getD i default]:=take_snoc hlt
    generalize rows.getD i default=r at hr htk ⊢
    simp only [rowI,res116,b116k0,b116k1,b116k2,b116k3,b116k4,lkE, ↓reduceIte,reduceCtorEq,Nat.reduceEqDiff,Nat.reduceAdd,Nat.reduceMul,Nat.reduceSub,Nat.reduceLeDiff,Nat.reduceBEq,Int.reduceToNat,Int.reduceLE,Int.reduceLT,Int.reduceEq,Int.reduceNe,di]
    refine loop_keep (α:=Nat) rfl (fun j=>r.length - j) (fun j=>j≤r.length)
      (fun j=>[(3,.own 3),(6,.own 6),(9,.imm (.slc 1 (rows.map rowI))),(10,.imm (.int .i64 rows.length)),(11,.imm (.int .i64 i)),(15,.imm (.slc 1 (r.map (.int .i64)))),(16,.imm (.int .i64 r.length)),(17,.imm (.int .i64 j))])
      (fun j=>[(3,.tok 1 ((rows.take i).map fun r=>.str (bs (rowW r)))),(6,.tok 1 ((r.take j).map fun n=>.str (itoaB n)))]) 0 (Nat.zero_le _) (by simp only [List.length_map,rowI,lkE, ↓reduceIte,reduceCtorEq,Nat.reduceEqDiff,Nat.reduceAdd,Nat.reduceMul,Nat.reduceSub,Nat.reduceLeDiff,Nat.reduceBEq,Int.reduceToNat,Int.reduceLE,Int.reduceLT,Int.reduceEq,Int.reduceNe,di] <;> rfl) ?_
    intro j hj ihj
    simp only [res116,b116k0,b116k1,b116k2,b116k3,b116k4,lkE, ↓reduceIte,reduceCtorEq,Nat.reduceEqDiff,Nat.reduceAdd,Nat.reduceMul,Nat.reduceSub,Nat.reduceLeDiff,Nat.reduceBEq,Int.reduceToNat,Int.reduceLE,Int.reduceLT,Int.reduceEq,Int.reduceNe,di]
    split
    · rename_i hjl0
      have hjl:j<r.length:=by omega
      refine ⟨hjl0,?_⟩
      have hn:In64 (r.getD j 0):=hr.2 _ (by rw [List.getD_eq_getElem?_getD,List.getElem?_eq_getElem hjl]; exact List.getElem_mem hjl)
      have ihj':=fun S R=>ihj (j+1) S R (by omega) (by omega)
      have htj:r.take (j+1)=r.take j ++ [r.getD j 0]:=take_snoc hjl
      generalize r.getD j 0=n at hn htj ⊢
      refine calls_of (z_Itoa hn.1 hn.2) ?_; simp only [lkE,res116,b116k0,b116k1,b116k2,b116k3,b116k4, ↓reduceIte,reduceCtorEq,Nat.reduceEqDiff,Nat.reduceAdd,Nat.reduceMul,Nat.reduceSub,Nat.reduceLeDiff,Nat.reduceBEq,Int.reduceToNat,Int.reduceLE,Int.reduceLT,Int.reduceEq,Int.reduceNe,di]
      have htl:=List.length_take_le j r
      refine ⟨by omega,by omega,?_⟩
      rw [wrapS (n:=(j:Int)+1) (by omega) (by omega)]
      refine ihj' _ _ ?_
      rw [htj,List.map_append]
      simp only [lkE, ↓reduceIte,reduceCtorEq,Nat.reduceEqDiff,Nat.reduceAdd,Nat.reduceMul,Nat.reduceSub,Nat.reduceLeDiff,Nat.reduceBEq,Int.reduceToNat,Int.reduceLE,Int.reduceLT,Int.reduceEq,Int.reduceNe,di] <;> rfl
    · rename_i hjge
      obtain rfl:j=r.length:=by omega
      have e:IV.slc 1 (List.map (fun n=>IV.str (itoaB n)) (List.take r.length r))=strsI (r.map itoaB):=by
        unfold strsI
        rw [List.take_length,List.map_map]; rfl
      have e2:(r.map itoaB).map (·.data.toList)=r.map itoa:=by rw [List.map_map]; rfl
      have c:=z_Join (l:=r.map itoaB) (p:=⟨#[32]⟩) (by rw [List.length_map]; omega) (by
        rw [e2]
        have:=rowW_len hr
        unfold rowW at this
        exact Nat.le_trans this (by decide))
      rw [e2] at c
      rw [e]
      refine calls_of c ?_; simp only [lkE,res116,b116k0,b116k1,b116k2,b116k3,b116k4, ↓reduceIte,reduceCtorEq,Nat.reduceEqDiff,Nat.reduceAdd,Nat.reduceMul,Nat.reduceSub,Nat.reduceLeDiff,Nat.reduceBEq,Int.reduceToNat,Int.reduceLE,Int.reduceLT,Int.reduceEq,Int.reduceNe,di]
      have htl:=List.length_take_le i rows
      refine ⟨by omega,by omega,?_⟩
      rw [wrapS (n:=(i:Int)+1) (by omega) (by omega)]
      refine ih' _ _ ?_
      rw [htk,List.map_append]
      simp only [lkE, ↓reduceIte,reduceCtorEq,Nat.reduceEqDiff,Nat.reduceAdd,Nat.reduceMul,Nat.reduceSub,Nat.reduceLeDiff,Nat.reduceBEq,Int.reduceToNat,Int.reduceLE,Int.reduceLT,Int.reduceEq,Int.reduceNe,di] <;> rfl
  · rename_i hge
    obtain rfl:i=rows.length:=by omega
    have e:IV.slc 1 (List.map (fun r=>IV.str (bs (rowW r))) (List.take rows.length rows))=strsI (rows.map fun r=>bs (rowW r)):=by
      unfold strsI
      rw [List.take_length,List.map_map]; rfl
    have e2:(rows.map fun r=>bs (rowW r)).map (·.data.toList)=rows.map rowW:=by rw [List.map_map]; rfl
    have c:=z_Join (l:=rows.map fun r=>bs (rowW r)) (p:=⟨#[59]⟩) (by rw [List.length_map]; omega) (by
      rw [e2]
      have:=join_len (c:=59) (B:=66) (l:=rows.map rowW) (fun w hw=>by
        obtain ⟨r,hr,rfl⟩:=List.mem_map.1 hw
        exact rowW_len (h.row r hr))
      rw [List.length_map] at this
      show (Lib.join _ [59]).length≤_
      omega)
    rw [e2] at c
    rw [e]
    refine calls_of c ?_; simp only [lkE,res116,b116k0,b116k1,b116k2,b116k3,b116k4, ↓reduceIte,reduceCtorEq,Nat.reduceEqDiff,Nat.reduceAdd,Nat.reduceMul,Nat.reduceSub,Nat.reduceLeDiff,Nat.reduceBEq,Int.reduceToNat,Int.reduceLE,Int.reduceLT,Int.reduceEq,Int.reduceNe,di]
    rfl
theorem kn_rows {l:List Kn} (h:KnB l) (hl:l.length≤1000):RowsB (l.map knR):=by
  refine ⟨by rw [List.length_map]; exact hl,fun r hr => ?_⟩
  obtain ⟨k,hk,rfl⟩:=List.mem_map.1 hr
  refine ⟨by show 2≤3; decide,fun n hn => ?_⟩
  have:=h k hk
  simp only [knR,List.mem_cons,List.not_mem_nil,or_false] at hn
  rcases hn with rfl | rfl
  · exact this.1
  · exact this.2
theorem fl_rows {l:List Flow} (h:FlB l) (hl:l.length≤1000):RowsB (l.map flR):=by
  refine ⟨by rw [List.length_map]; exact hl,fun r hr => ?_⟩
  obtain ⟨k,hk,rfl⟩:=List.mem_map.1 hr
  refine ⟨by show 3≤3; decide,fun n hn => ?_⟩
  have:=h k hk
  simp only [flR,List.mem_cons,List.not_mem_nil,or_false] at hn
  rcases hn with rfl | rfl | rfl
  · exact this.1
  · exact this.2.1
  · exact this.2.2
def fmtT (l:List Kn):ByteArray:=fmtRows (l.map knR)
def fmtF (l:List Flow):ByteArray:=fmtRows (l.map flR)
theorem p_FormatTable {l:List Kn} (h:KnB l) (hl:l.length≤1000):Contract Tryz.prog 27 [tabI l] (.str (fmtT l)):=by
  refine contract_run Tryz.func27 k27 rfl ?_
  simp only [body27,b27,res27,b27k0,b27k1,lkE, ↓reduceIte,reduceCtorEq,Nat.reduceEqDiff,Nat.reduceAdd,Nat.reduceMul,Nat.reduceSub,Nat.reduceLeDiff,Nat.reduceBEq,Int.reduceToNat,Int.reduceLE,Int.reduceLT,Int.reduceEq,Int.reduceNe,di]
  refine loop_keep (α:=Nat) rfl (fun i=>l.length - i) (fun i=>i≤l.length)
    (fun i=>[(3,.own 3),(7,.imm (.slc 2 (l.map knI))),(8,.imm (.int .i64 l.length)),(9,.imm (.int .i64 i))])
    (fun i=>[(3,.tok 1 ((l.take i).map fun k=>rowI (knR k)))]) 0 (Nat.zero_le _) (by simp only [lkE, ↓reduceIte,reduceCtorEq,Nat.reduceEqDiff,Nat.reduceAdd,Nat.reduceMul,Nat.reduceSub,Nat.reduceLeDiff,Nat.reduceBEq,Int.reduceToNat,Int.reduceLE,Int.reduceLT,Int.reduceEq,Int.reduceNe,di] <;> rfl) ?_
  intro i hi ih
  simp only [res27,b27k0,b27k1,lkE, ↓reduceIte,reduceCtorEq,Nat.reduceEqDiff,Nat.reduceAdd,Nat.reduceMul,Nat.reduceSub,Nat.reduceLeDiff,Nat.reduceBEq,Int.reduceToNat,Int.reduceLE,Int.reduceLT,Int.reduceEq,Int.reduceNe,di]
  split
  · rename_i hlt0
    have hlt:i<l.length:=by omega
    have htk:l.take (i+1)=l.take i ++ [l.getD i default]:=take_snoc hlt
    have htl:=List.length_take_le i l
    refine ⟨hlt0,by omega,by omega,?_⟩
    rw [wrapS (n:=(i:Int)+1) (by omega) (by omega)]
    refine ih (i+1) _ _ (by omega) (by omega) ?_
    rw [htk,List.map_append]
    simp only [rowI,knR,lkE, ↓reduceIte,reduceCtorEq,Nat.reduceEqDiff,Nat.reduceAdd,Nat.reduceMul,Nat.reduceSub,Nat.reduceLeDiff,Nat.reduceBEq,Int.reduceToNat,Int.reduceLE,Int.reduceLT,Int.reduceEq,Int.reduceNe,di] <;> rfl
  · rename_i hge
    obtain rfl:i=l.length:=by omega
    have e:IV.slc 1 (List.map (fun k=>rowI (knR k)) (List.take l.length l))=rowsI (l.map knR):=by
      unfold rowsI
      rw [List.take_length,List.map_map]; rfl
    rw [e]
    refine calls_of (p_join (kn_rows h hl)) ?_; simp only [lkE,res27,b27k0,b27k1, ↓reduceIte,reduceCtorEq,Nat.reduceEqDiff,Nat.reduceAdd,Nat.reduceMul,Nat.reduceSub,Nat.reduceLeDiff,Nat.reduceBEq,Int.reduceToNat,Int.reduceLE,Int.reduceLT,Int.reduceEq,Int.reduceNe,di]
    rfl
theorem p_FormatFlows {l:List Flow} (h:FlB l) (hl:l.length≤1000):Contract Tryz.prog 35 [.slc 3 (l.map flI)] (.str (fmtF l)):=by
  refine contract_run Tryz.func35 k35 rfl ?_
  simp only [body35,b35,res35,b35k0,b35k1,lkE, ↓reduceIte,reduceCtorEq,Nat.reduceEqDiff,Nat.reduceAdd,Nat.reduceMul,Nat.reduceSub,Nat.reduceLeDiff,Nat.reduceBEq,Int.reduceToNat,Int.reduceLE,Int.reduceLT,Int.reduceEq,Int.reduceNe,di]
  refine loop_keep (α:=Nat) rfl (fun i=>l.length - i) (fun i=>i≤l.length)
    (fun i=>[(3,.own 3),(6,.imm (.slc 3 (l.map flI))),(7,.imm (.int .i64 l.length)),(8,.imm (.int .i64 i))])
    (fun i=>[(3,.tok 1 ((l.take i).map fun k=>rowI (flR k)))]) 0 (Nat.zero_le _) (by simp only [lkE, ↓reduceIte,reduceCtorEq,Nat.reduceEqDiff,Nat.reduceAdd,Nat.reduceMul,Nat.reduceSub,Nat.reduceLeDiff,Nat.reduceBEq,Int.reduceToNat,Int.reduceLE,Int.reduceLT,Int.reduceEq,Int.reduceNe,di] <;> rfl) ?_
  intro i hi ih
  simp only [res35,b35k0,b35k1,lkE, ↓reduceIte,reduceCtorEq,Nat.reduceEqDiff,Nat.reduceAdd,Nat.reduceMul,Nat.reduceSub,Nat.reduceLeDiff,Nat.reduceBEq,Int.reduceToNat,Int.reduceLE,Int.reduceLT,Int.reduceEq,Int.reduceNe,di]
  split
  · rename_i hlt0
    have hlt:i<l.length:=by omega
    have htk:l.take (i+1)=l.take i ++ [l.getD i default]:=take_snoc hlt
    have htl:=List.length_take_le i l
    refine ⟨hlt0,by omega,by omega,?_⟩
    rw [wrapS (n:=(i:Int)+1) (by omega) (by omega)]
    refine ih (i+1) _ _ (by omega) (by omega) ?_
    rw [htk,List.map_append]
    simp only [rowI,flR,lkE, ↓reduceIte,reduceCtorEq,Nat.reduceEqDiff,Nat.reduceAdd,Nat.reduceMul,Nat.reduceSub,Nat.reduceLeDiff,Nat.reduceBEq,Int.reduceToNat,Int.reduceLE,Int.reduceLT,Int.reduceEq,Int.reduceNe,di] <;> rfl
  · rename_i hge
    obtain rfl:i=l.length:=by omega
    have e:IV.slc 1 (List.map (fun k=>rowI (flR k)) (List.take l.length l))=rowsI (l.map flR):=by
      unfold rowsI
      rw [List.take_length,List.map_map]; rfl
    rw [e]
    refine calls_of (p_join (fl_rows h hl)) ?_; simp only [lkE,res35,b35k0,b35k1, ↓reduceIte,reduceCtorEq,Nat.reduceEqDiff,Nat.reduceAdd,Nat.reduceMul,Nat.reduceSub,Nat.reduceLeDiff,Nat.reduceBEq,Int.reduceToNat,Int.reduceLE,Int.reduceLT,Int.reduceEq,Int.reduceNe,di]
    rfl
end Go.DI


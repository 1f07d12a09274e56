/- Rows of numbers as strings, plain. No condition. -/
import Derived.Test.YtaphhpphfffnfaaGreatDoorTkGg
set_option linter.unusedSimpArgs false
namespace Go.DI
open Go.Lib
def rowW (r:List Int):List UInt8:=Lib.join (r.map itoa) [32]
def fmtRows (rows:List (List Int)):ByteArray:=bs (Lib.join (rows.map rowW) [59])
theorem mem_join {c b:UInt8}:∀ {l:List (List UInt8)},b ∈ Lib.join l [c]→b=c∨∃ x ∈ l,b ∈ x
  | [],h=>by simp [Lib.join,List.intercalate] at h
  | [x],h=>by
    have e:Lib.join [x] [c]=x:=by simp [Lib.join,List.intercalate]
    rw [e] at h
    exact .inr ⟨x,by simp,h⟩
  | x :: y :: l,h=>by
    rw [join_cons,List.mem_append,List.mem_cons] at h
    rcases h with h | h | h
    · exact .inr ⟨x,by simp,h⟩
    · exact .inl h
    · rcases mem_join h with h | ⟨z,hz,h⟩
      · exact .inl h
      · exact .inr ⟨z,List.mem_cons_of_mem _ hz,h⟩
theorem rowW_free (r:List Int):(59:UInt8) ∉ rowW r:=by
  intro h
  rcases mem_join h with h | ⟨x,hx,h⟩
  · cases h
  · obtain ⟨n,_,rfl⟩:=List.mem_map.1 hx
    exact itoa_free (by decide) h
theorem cut_row {r:List Int} (h:r ≠ []):cutS 32 (bs (rowW r))=r.map itoaB:=by
  unfold cutS rowW
  rw [bs_toList,cutB_join (by simpa using h) (by
    intro x hx
    obtain ⟨n,_,rfl⟩:=List.mem_map.1 hx
    exact itoa_free (by decide)),List.map_map]
  rfl
theorem cut_rows {rows:List (List Int)} (h:rows ≠ []):cutS 59 (fmtRows rows)=rows.map fun r=>bs (rowW r):=by
  unfold cutS fmtRows
  rw [bs_toList,cutB_join (by simpa using h) (by
    intro x hx
    obtain ⟨r,_,rfl⟩:=List.mem_map.1 hx
    exact rowW_free r),List.map_map]
  rfl
def trimL (x:ByteArray):Nat:=(bs (Lib.trimPrefix x.data.toList [45])).size
theorem trimL_eq (x:ByteArray):trimL x=if x.data.toList.head? = some 45 then x.size - 1 else x.size:=by
  unfold trimL
  rw [bs_size,← str_size]
  unfold Lib.trimPrefix
  cases h:x.data.toList with
  | nil=>rfl
  | cons b r =>
    by_cases hb:b=45
    · subst hb
      rfl
    · have e:Lib.hasPrefix (b :: r) [45]=false:=by
        show (((45:UInt8) == b) && ([]:List UInt8).isPrefixOf r)=false
        rw [beq_eq_false_iff_ne.2 (fun e=>hb e.symm),Bool.false_and]
      rw [e,if_neg Bool.false_ne_true,if_neg (show ¬ (b :: r).head? = some 45 from fun e=>hb (Option.some.inj e))]
theorem numO_trim {k:Nat} {x:ByteArray}:numO x k=if trimL x≤k then intS x.data.toList else none:=by
  unfold numO
  rw [← trimL_eq]
  by_cases h:trimL x≤k
  · rw [if_pos h,if_pos (by omega)]
  · rw [if_neg h,if_neg (by omega)]
theorem trimL_size (x:ByteArray):x.size≤trimL x+1:=by
  rw [trimL_eq]
  split <;> omega
theorem numO_yes {k:Nat} {x:ByteArray} {v:Int} (hk:k≤17) (h:atoiAll x.data.toList = .ok v) (h1:itoaB v=x) (h2:trimL x≤k):numO x k=some v:=by
  have hp:progS x.data.toList=some v:=by unfold progS; rw [h]; show (if itoa v=x.data.toList then some v else none)=_; rw [if_pos (itoaB_eq.1 h1)]
  have hs:=trimL_size x
  rw [progS_short (by rw [str_size]; omega)] at hp
  rw [numO_trim,if_pos h2,hp]
theorem numO_no {k:Nat} {x:ByteArray} (hk:k≤17) (h:∀ v,atoiAll x.data.toList = .ok v→itoaB v=x→trimL x≤k→False):numO x k=none:=by
  rw [numO_trim]
  by_cases hc:trimL x≤k
  · have hs:=trimL_size x
    rw [if_pos hc,← progS_short (by rw [str_size]; omega)]
    unfold progS
    cases ha:atoiAll x.data.toList with
    | ok v =>
      show (if itoa v=x.data.toList then some v else none)=none
      rw [if_neg]
      intro e
      exact h v ha (itoaB_eq.2 e) hc
    | range=>rfl
    | _ => rfl
  · rw [if_neg hc]
theorem numO_itoa {k:Nat} {n:Int} (h:n.natAbs<10 ^ (k+1)):numO (itoaB n) (k+1:Nat)=some n:=by
  have hl:=dec_len h
  have hc:trimL (itoaB n)≤k+1:=by
    rw [trimL_eq,itoaB_bs,bs_toList,bs_size]
    unfold itoa
    by_cases hn:n<0
    · rw [if_pos hn,if_pos (show (45 :: decDigits n.natAbs).head? = some 45 from rfl),List.length_cons]
      omega
    · rw [if_neg hn,show n.toNat=n.natAbs by omega]
      split <;> omega
  rw [numO_trim,if_pos hc]
  exact intS_itoa n
def wordN (k:Nat) (sg:Bool) (x:ByteArray):Option Int:=match numO x k with
  | some v=>if v<0∧sg=false then none else some v
  | none=>none
def wordsOk (k:Nat) (sg:Nat→Bool) (w:List ByteArray):Nat→Bool
  | 0=>true
  | i+1=>wordsOk k sg w i && (wordN k (sg i) (w.getD i default)).isSome
def wordsV (k:Nat) (w:List ByteArray) (i:Nat):List Int:=(List.range i).map fun j=>(numO (w.getD j default) k).getD 0
theorem wordsV_succ {k:Nat} {w:List ByteArray} {i:Nat}:wordsV k w (i+1)=wordsV k w i ++ [(numO (w.getD i default) k).getD 0]:=by
  unfold wordsV
  rw [List.range_succ,List.map_append]; rfl
theorem wordsV_len {k:Nat} {w:List ByteArray} {i:Nat}:(wordsV k w i).length=i:=by
  unfold wordsV
  rw [List.length_map,List.length_range]
theorem wordsOk_no {k:Nat} {sg:Nat→Bool} {w:List ByteArray} {i:Nat} (h:wordN k (sg i) (w.getD i default)=none):∀ n,i<n→wordsOk k sg w n=false
  | 0,hi=>absurd hi (Nat.not_lt_zero _)
  | n+1,hi=>by
    unfold wordsOk
    by_cases e:i=n
    · rw [← e,h]; simp
    · rw [wordsOk_no h n (by omega)]; rfl
def rowOk (n k:Nat) (sg:Nat→Bool) (part:ByteArray):Bool:=decide ((cutS 32 part).length=n) && wordsOk k sg (cutS 32 part) n
def rowsOk (n k:Nat) (sg:Nat→Bool) (ps:List ByteArray):Nat→Bool
  | 0=>true
  | i+1=>rowsOk n k sg ps i && rowOk n k sg (ps.getD i default)
def rowsV (n k:Nat) (ps:List ByteArray) (i:Nat):List (List Int):=(List.range i).map fun j=>wordsV k (cutS 32 (ps.getD j default)) n
theorem rowsV_succ {n k:Nat} {ps:List ByteArray} {i:Nat}:rowsV n k ps (i+1)=rowsV n k ps i ++ [wordsV k (cutS 32 (ps.getD i default)) n]:=by
  unfold rowsV
  rw [List.range_succ,List.map_append]; rfl
theorem rowsV_len {n k:Nat} {ps:List ByteArray} {i:Nat}:(rowsV n k ps i).length=i:=by
  unfold rowsV
  rw [List.length_map,List.length_range]
theorem rowsOk_no {n k:Nat} {sg:Nat→Bool} {ps:List ByteArray} {i:Nat} (h:rowOk n k sg (ps.getD i default)=false):∀ m,i<m→rowsOk n k sg ps m=false
  | 0,hi=>absurd hi (Nat.not_lt_zero _)
  | m+1,hi=>by
    unfold rowsOk
    by_cases e:i=m
    · rw [← e,h]; simp
    · rw [rowsOk_no h m (by omega)]; rfl
def parseRows (n k:Nat) (sg:Nat→Bool) (s:ByteArray):Option (List (List Int)):=if rowsOk n k sg (cutS 59 s) (cutS 59 s).length then some (rowsV n k (cutS 59 s) (cutS 59 s).length) else none
theorem wordN_itoa {k:Nat} {sg:Bool} {n:Int} (h:n.natAbs<10 ^ (k+1)) (hs:sg=true∨0≤n):wordN (k+1) sg (itoaB n)=some n:=by
  unfold wordN
  rw [numO_itoa h]
  dsimp only
  rw [if_neg]
  rintro ⟨h1,h2⟩
  rcases hs with hs | hs
  · rw [hs] at h2; cases h2
  · omega
theorem words_fmt {k:Nat} {sg:Nat→Bool} {r:List Int} (h:∀ j,j<r.length→(r.getD j 0).natAbs<10 ^ (k+1)∧(sg j=true∨0≤r.getD j 0)):∀ i,i≤r.length→wordsOk (k+1) sg (r.map itoaB) i=true∧wordsV (k+1) (r.map itoaB) i=r.take i
  | 0,_=>⟨rfl,rfl⟩
  | i+1,hi=>by
    obtain ⟨h1,h2⟩:=words_fmt h i (by omega)
    obtain ⟨g1,g2⟩:=h i (by omega)
    have e:(r.map itoaB).getD i default=itoaB (r.getD i 0):=by
      rw [List.getD_eq_getElem?_getD,List.getD_eq_getElem?_getD,List.getElem?_map,List.getElem?_eq_getElem (show i<r.length by omega)]
      rfl
    constructor
    · unfold wordsOk
      rw [h1,e,wordN_itoa g1 g2]
      rfl
    · rw [wordsV_succ,h2,e,numO_itoa g1,List.take_add_one,List.getElem?_eq_getElem (show i<r.length by omega),List.getD_eq_getElem?_getD,List.getElem?_eq_getElem (show i<r.length by omega)]
      rfl
theorem rows_fmt {n k:Nat} {sg:Nat→Bool} {rows:List (List Int)} (h0:rows ≠ []) (hn : 0<n) (h:∀ r ∈ rows,r.length=n∧∀ j,j<n→(r.getD j 0).natAbs<10 ^ (k+1)∧(sg j=true∨0≤r.getD j 0)) :
    parseRows n (k+1) sg (fmtRows rows)=some rows:=by
  have key:∀ i,i≤rows.length→rowsOk n (k+1) sg (rows.map fun r=>bs (rowW r)) i=true∧rowsV n (k+1) (rows.map fun r=>bs (rowW r)) i=rows.take i:=by
    intro i
    induction i with
    | zero=>exact fun _=>⟨rfl,rfl⟩
    | succ i ih =>
      intro hi
      obtain ⟨i1,i2⟩:=ih (by omega)
      have hm:rows[i]? = some rows[i]:=List.getElem?_eq_getElem (show i<rows.length by omega)
      have e:(rows.map fun r=>bs (rowW r)).getD i default=bs (rowW rows[i]):=by
        rw [List.getD_eq_getElem?_getD,List.getElem?_map,hm]
        rfl
      obtain ⟨g1,g2⟩:=h rows[i] (List.getElem_mem _)
      have hne:rows[i] ≠ []:=by
        intro e2
        rw [e2] at g1
        simp at g1
        omega
      obtain ⟨w1,w2⟩:=words_fmt (k:=k) (sg:=sg) (r:=rows[i]) (fun j hj=>g2 j (by omega)) n (by omega)
      constructor
      · unfold rowsOk rowOk
        rw [i1,e,cut_row hne,w1,List.length_map,decide_eq_true g1]
        rfl
      · rw [rowsV_succ,i2,e,cut_row hne,w2,List.take_of_length_le (show rows[i].length≤n by omega),List.take_add_one,hm]
        rfl
  unfold parseRows
  rw [cut_rows h0,List.length_map]
  obtain ⟨k1,k2⟩:=key rows.length (Nat.le_refl _)
  rw [if_pos k1,k2,List.take_length]
end Go.DI


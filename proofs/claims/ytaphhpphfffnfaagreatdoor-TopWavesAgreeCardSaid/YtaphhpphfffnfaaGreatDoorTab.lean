/- Lines as strings, plain. No condition. -/
import Derived.Test.YtaphhpphfffnfaaGreatDoorTaa
import Derived.Test.YtaphhpphfffnfaaGreatDoorTaGg
set_option linter.unusedSimpArgs false
namespace Go.DI
open Go.Lib
def pipeW (p:Pp):List UInt8:=itoa p.1 ++ 120 :: itoa p.2
def wordsTo (x:Ln):Nat→List (List UInt8)
 | 0=>[]
 | k+1=>wordsTo x k ++ (if k=0 then [] else [itoa (x.ar.getD (k - 1) 0)]) ++ [pipeW (x.pp.getD k (0,0))]
def fmtLn (x:Ln):ByteArray:=bs (Lib.join (wordsTo x x.pp.length) [32])
theorem wordsTo_len {x:Ln}:∀ k,(wordsTo x (k+1)).length=2 * k+1
 | 0=>rfl
 | k+1=>by
  have:=wordsTo_len (x:=x) k
  unfold wordsTo
  rw [List.length_append,List.length_append,this,if_neg (by omega)]
  simp only [List.length_singleton]
  omega
theorem wordsTo_free {x:Ln}:∀ k,∀ w ∈ wordsTo x k,(32:UInt8) ∉ w
 | 0,w,h=>by cases h
 | k+1,w,h=>by
  unfold wordsTo at h
  rw [List.mem_append,List.mem_append] at h
  rcases h with (h | h) | h
  ·exact wordsTo_free k w h
  ·split at h
   ·cases h
   ·obtain rfl:=List.mem_singleton.1 h
    exact itoa_free (by decide)
  ·obtain rfl:=List.mem_singleton.1 h
   unfold pipeW
   intro hm
   rw [List.mem_append,List.mem_cons] at hm
   rcases hm with hm | hm | hm
   ·exact itoa_free (by decide) hm
   ·cases hm
   ·exact itoa_free (by decide) hm
theorem wordsTo_pref {x:Ln}:∀ {k m:Nat},k≤m→∃ r,wordsTo x m=wordsTo x k ++ r
 | k,0,h=>⟨[],by rw [show k=0 by omega]; rfl⟩
 | k,m+1,h=>by
  by_cases e:k=m+1
  ·exact ⟨[],by rw [e,List.append_nil]⟩
  ·obtain ⟨r,hr⟩:=wordsTo_pref (x:=x) (k:=k) (m:=m) (by omega)
   refine ⟨r ++ ((if m=0 then [] else [itoa (x.ar.getD (m - 1) 0)]) ++ [pipeW (x.pp.getD m (0,0))]),?_⟩
   show wordsTo x m ++ _ ++ _=_
   rw [hr,List.append_assoc,List.append_assoc]
theorem words_pipe {x:Ln} {n k:Nat} (h:k<n):(wordsTo x n)[2 * k]? = some (pipeW (x.pp.getD k (0,0))):=by
 obtain ⟨r,hr⟩:=wordsTo_pref (x:=x) (k:=k+1) (m:=n) (by omega)
 have hl:=wordsTo_len (x:=x) k
 rw [hr,List.getElem?_append_left (by omega)]
 show (wordsTo x k ++ (if k=0 then [] else [itoa (x.ar.getD (k - 1) 0)]) ++ [pipeW (x.pp.getD k (0,0))])[2 * k]? = _
 have h2:(wordsTo x k ++ (if k=0 then [] else [itoa (x.ar.getD (k - 1) 0)])).length=2 * k:=by
  have:(wordsTo x (k+1)).length=(wordsTo x k ++ (if k=0 then [] else [itoa (x.ar.getD (k - 1) 0)])).length+1:=by
   show (wordsTo x k ++ _ ++ [pipeW _]).length=_
   rw [List.length_append]; rfl
  omega
 rw [List.getElem?_append_right (by omega),h2,Nat.sub_self]
 rfl
theorem words_area {x:Ln} {n k:Nat} (h:k+1<n):(wordsTo x n)[2 * k+1]? = some (itoa (x.ar.getD k 0)):=by
 obtain ⟨r,hr⟩:=wordsTo_pref (x:=x) (k:=k+2) (m:=n) (by omega)
 have hl:(wordsTo x (k+2)).length=2 * (k+1)+1:=wordsTo_len (k+1)
 have hl2:=wordsTo_len (x:=x) k
 rw [hr,List.getElem?_append_left (by omega)]
 show (wordsTo x (k+1) ++ (if k+1=0 then [] else [itoa (x.ar.getD (k+1 - 1) 0)]) ++ [pipeW (x.pp.getD (k+1) (0,0))])[2 * k+1]? = _
 rw [if_neg (by omega),List.append_assoc,List.getElem?_append_right (by omega),hl2,Nat.sub_self]
 rfl
def pipeP (s:ByteArray):Option Pp:=match cutS 120 s with
 | [a,b]=>match okW 3 a,okW 3 b with
  | some m,some n=>some (m,n)
  | _,_=>none
 | _=>none
def wAt (w:List ByteArray) (i:Nat):ByteArray:=w.getD i default
def goodAt (w:List ByteArray) (i:Nat):Bool:=if i % 2=1 then (okW 3 (wAt w i)).isSome else (pipeP (wAt w i)).isSome
def goodTo (w:List ByteArray):Nat→Bool
 | 0=>true
 | i+1=>goodTo w i && goodAt w i
def pipesTo (w:List ByteArray):Nat→List Pp
 | 0=>[]
 | i+1=>if i % 2=1 then pipesTo w i else pipesTo w i ++ [(pipeP (wAt w i)).getD (0,0)]
def areasTo (w:List ByteArray):Nat→List Int
 | 0=>[]
 | i+1=>if i % 2=1 then areasTo w i ++ [(okW 3 (wAt w i)).getD 0] else areasTo w i
def parseLn (w:List ByteArray):Ln × Int:=if w.length % 2=1∧goodTo w w.length then (if (chkL ⟨pipesTo w w.length,areasTo w w.length⟩).2=0 then (⟨pipesTo w w.length,areasTo w w.length⟩,0) else (⟨[],[]⟩,(chkL ⟨pipesTo w w.length,areasTo w w.length⟩).2)) else (⟨[],[]⟩,7)
theorem cut_one (l:List UInt8) (c:UInt8):Lib.cut l [c]=if 0≤indexByte l c then (l.take (indexByte l c).toNat,l.drop ((indexByte l c).toNat+1),true) else (l,[],false):=by
 unfold Lib.cut
 rw [index_one]
 rfl
theorem idx_mem {c:UInt8}:∀ {l:List UInt8} {i:Nat},indexByte l c=i→c ∈ l
 | [],i,h=>by unfold indexByte at h; omega
 | b :: r,i,h=>by
  unfold indexByte at h
  split at h
  ·rename_i hb
   rw [show b=c by simpa using hb]
   exact List.mem_cons_self ..
  ·split at h
   ·omega
   ·rename_i h2
    have hge:=indexByte_ge r c
    have hne:indexByte r c ≠ -1:=by simpa using h2
    exact List.mem_cons_of_mem _ (idx_mem (i:=(indexByte r c).toNat) (by omega))
theorem okW_byte {k:Nat} {s:ByteArray} {v:Int} (h:okW k s=some v) {b:UInt8} (hb:b ∈ s.data.toList) : 48≤b.toNat∧b.toNat≤57:=by
 have hv:=okW_pos h
 unfold okW at h
 split at h
 ·rename_i hc
  have e1:intS s.data.toList=(natS s.data.toList).map fun (m:Nat)=>(m:Int):=by
   unfold intS
   split
   ·rename_i r e
    exfalso
    apply hc.2
    rw [e]; rfl
   ·rfl
  rw [e1] at h
  cases hn:natS s.data.toList with
  | none=>rw [hn] at h; cases h
  | some m =>
   rw [← natS_iff.1 hn] at hb
   exact dec_byte hb
 ·cases h
theorem pipeP_cut (s:ByteArray):pipeP s=if (Lib.cut s.data.toList [120]).2.2=true then (match okW 3 (bs (Lib.cut s.data.toList [120]).1),okW 3 (bs (Lib.cut s.data.toList [120]).2.1) with
  | some m,some n=>some (m,n)
  | _,_=>none) else none:=by
 have hge:=indexByte_ge s.data.toList 120
 by_cases hm:indexByte s.data.toList 120 = -1
 ·have hcut:Lib.cut s.data.toList [120]=(s.data.toList,[],false):=by rw [cut_one,if_neg (by omega)]
  rw [hcut]
  unfold pipeP cutS
  rw [cutB_none _ _ hm]
  rfl
 ·obtain ⟨i,hi⟩ : ∃ i:Nat,indexByte s.data.toList 120=i:=⟨(indexByte s.data.toList 120).toNat,by omega⟩
  have hcut:Lib.cut s.data.toList [120]=(s.data.toList.take i,s.data.toList.drop (i+1),true):=by rw [cut_one,if_pos (by omega),hi]; rfl
  rw [hcut,if_pos rfl]
  show _=match okW 3 (bs (s.data.toList.take i)),okW 3 (bs (s.data.toList.drop (i+1))) with | some m,some n=>some (m,n) | _,_=>none
  unfold pipeP cutS
  rw [cutB_at _ _ _ hi,List.map_cons]
  have hge2:=indexByte_ge (s.data.toList.drop (i+1)) 120
  by_cases hm2:indexByte (s.data.toList.drop (i+1)) 120 = -1
  ·rw [cutB_none _ _ hm2]
   rfl
  ·obtain ⟨j,hj⟩ : ∃ j:Nat,indexByte (s.data.toList.drop (i+1)) 120=j:=⟨(indexByte (s.data.toList.drop (i+1)) 120).toNat,by omega⟩
   rw [cutB_at _ _ _ hj,List.map_cons]
   have hne:∀ l:List UInt8,cutB 120 l ≠ []:=by
    intro l
    cases l with
    | nil=>simp [cutB]
    | cons b r =>
     rw [cutB_cons]
     split
     ·simp
     ·split <;> simp
   have h120:(120:UInt8) ∈ s.data.toList.drop (i+1):=idx_mem hj
   have hno:okW 3 (bs (s.data.toList.drop (i+1)))=none:=by
    cases ho:okW 3 (bs (s.data.toList.drop (i+1))) with
    | none=>rfl
    | some v =>
     have:=okW_byte ho (b:=120) h120
     exact absurd this.2 (by decide)
   rw [hno]
   cases hc:(cutB 120 ((s.data.toList.drop (i+1)).drop (j+1))).map bs with
   | nil=>exact absurd (List.map_eq_nil_iff.1 hc) (hne _)
   | cons y ys=>cases okW 3 (bs (s.data.toList.take i)) <;> rfl
end Go.DI


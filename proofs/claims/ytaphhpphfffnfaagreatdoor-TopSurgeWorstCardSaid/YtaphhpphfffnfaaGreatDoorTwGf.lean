/- Numbers and cuts as plain data, contracts of the library over any program. No condition. -/
import Derived.Lib.AtoiTie
import Derived.Lib.ItoaNum
import Derived.Lib.IndexBytes
import Derived.Lib.CountLaws
import Derived.Lib.SplitLaws
import Derived.Test.YtaphhpphfffnfaaGreatDoorTwGe
import Derived.Shelf.Strings.SplitShaped
import Derived.Shelf.Strings.Shaped
import Derived.Shelf.Strings.OnBuilder
import Derived.Shelf.Strings.Prefix
import Derived.Shelf.Strconv.AtoiAll
import Derived.Shelf.Strconv.ErrVarAll
import Derived.Shelf.Strconv.Itoa3
import Derived.Test.YtaphhpphfffnfaaGreatDoorProg
import Derived.KernelRfl
/- Decimal numbers as they are written: what the library reads is what it writes, exactly for canonical numerals. No condition. -/
namespace Go.DI
open Go.Lib
theorem decFrom_snoc:∀ (l:List UInt8) (acc:Nat) (b:UInt8),decFrom acc (l ++ [b])=match decFrom acc l,digitVal b with | some n,some d=>some (n * 10+d) | _,_=>none
 | [],acc,b=>by
  show decFrom acc [b]=_
  simp only [decFrom]
  cases digitVal b <;> rfl
 | a :: r,acc,b=>by
  show decFrom acc (a :: (r ++ [b]))=_
  simp only [decFrom]
  cases ha:digitVal a with
  | none=>rfl
  | some d=>exact decFrom_snoc r (acc * 10+d) b
theorem digit_of {d:Nat} (h:d<10):digitVal (UInt8.ofNat (48+d))=some d:=by
 have e:(UInt8.ofNat (48+d)).toNat=48+d:=by rw [UInt8.toNat_ofNat']; omega
 unfold digitVal
 rw [e,if_pos (by omega)]
 congr 1
 omega
theorem of_digit {b:UInt8} {d:Nat} (h:digitVal b=some d):b=UInt8.ofNat (48+d)∧d<10:=by
 obtain ⟨h1,h2,h3⟩:=digitVal_eq h
 refine ⟨?_,by omega⟩
 apply UInt8.toNat_inj.1
 rw [UInt8.toNat_ofNat']
 omega
theorem dec_digits (n:Nat):decFrom 0 (decDigits n)=some n:=by
 induction n using Nat.strongRecOn with
 | ind n ih =>
  rw [decDigits]
  split
  ·rename_i h
   simp only [decFrom,digit_of h]
   congr 1
   omega
  ·rename_i h
   rw [decFrom_snoc,ih (n / 10) (by omega),digit_of (Nat.mod_lt _ (by decide))]
   show some (n / 10 * 10+n % 10)=some n
   congr 1
   omega
theorem digits_ne (n:Nat):decDigits n ≠ []:=by
 rw [decDigits]
 split <;> simp
theorem dec_ge:∀ (l:List UInt8) (acc n:Nat),decFrom acc l=some n→acc≤n
 | [],acc,n,h=>by cases h; exact Nat.le_refl _
 | b :: r,acc,n,h=>by
  simp only [decFrom] at h
  split at h
  ·have:=dec_ge r _ n h; omega
  ·cases h
def Canon (l:List UInt8):Prop:=l=[48]∨(l ≠ []∧l.head? ≠ some 48)
theorem canon_pos {b:UInt8} {r:List UInt8} {n:Nat} (h:decFrom 0 (b :: r)=some n) (hb:b ≠ 48) : 1≤n:=by
 simp only [decFrom] at h
 split at h
 ·rename_i d hd
  obtain ⟨h1,h2⟩:=of_digit hd
  have h0:d ≠ 0:=fun e=>hb (by rw [h1,e]; rfl)
  have:=dec_ge r _ n h
  omega
 ·cases h
theorem digits_canon:∀ (k:Nat) (l:List UInt8) (n:Nat),l.length=k→Canon l→decFrom 0 l=some n→decDigits n=l:=by
 intro k
 induction k with
 | zero =>
  intro l n hl hc h
  have:l=[]:=List.eq_nil_of_length_eq_zero hl
  subst this
  rcases hc with h | ⟨h,_⟩
  ·cases h
  ·exact absurd rfl h
 | succ k ih =>
  intro l n hl hc h
  obtain ⟨l',b,rfl⟩ : ∃ l' b,l=l' ++ [b]:=⟨l.dropLast,l.getLast (by intro e; rw [e] at hl; cases hl),(List.dropLast_concat_getLast _).symm⟩
  rw [decFrom_snoc] at h
  cases hm:decFrom 0 l' with
  | none=>rw [hm] at h; cases h
  | some m =>
   cases hd:digitVal b with
   | none=>rw [hm,hd] at h; cases h
   | some d =>
    rw [hm,hd] at h
    have hn:m * 10+d=n:=by simpa using h
    obtain ⟨hb,hd10⟩:=of_digit hd
    cases l' with
    | nil =>
     have h0:m=0:=by simp only [decFrom,Option.some.injEq] at hm; exact hm.symm
     subst h0
     rw [decDigits,dif_pos (by omega),hb,← hn]
     simp
    | cons c r =>
     have hc0:c ≠ 48:=by
      rcases hc with h | ⟨_,h⟩
      ·simp at h
      ·intro e; subst e; exact h rfl
     have hpos:=canon_pos hm hc0
     have hrec:=ih (c :: r) m (by simpa using hl) (.inr ⟨by simp,by simpa using hc0⟩) hm
     rw [decDigits,dif_neg (by omega),show n / 10=m by omega,show n % 10=d by omega,hrec,hb]
theorem canon_digits (n:Nat):Canon (decDigits n):=by
 induction n using Nat.strongRecOn with
 | ind n ih =>
  rw [decDigits]
  split
  ·rename_i h
   by_cases h0:n=0
   ·subst h0; exact .inl rfl
   ·refine .inr ⟨by simp,?_⟩
    show some (UInt8.ofNat (48+n)) ≠ some 48
    intro e
    have e:=Option.some.inj e
    have:(UInt8.ofNat (48+n)).toNat=48:=by rw [e]; rfl
    rw [UInt8.toNat_ofNat'] at this
    omega
  ·rename_i h
   rcases ih (n / 10) (by omega) with h1 | ⟨h1,h2⟩
   ·exfalso
    have:=dec_digits (n / 10)
    rw [h1] at this
    have e:decFrom 0 [48]=some 0:=by decide
    rw [e] at this
    have:n / 10=0:=(Option.some.inj this).symm
    omega
   ·refine .inr ⟨by simp,?_⟩
    cases hl:decDigits (n / 10) with
    | nil=>exact absurd hl h1
    | cons c r=>rw [hl] at h2; simpa using h2
instance (l:List UInt8):Decidable (Canon l):=inferInstanceAs (Decidable (_∨_))
def natS (l:List UInt8):Option Nat:=if Canon l then decFrom 0 l else none
def intS:List UInt8→Option Int
 | 45 :: r=>if r=[48] then none else (natS r).map fun (m:Nat) => -(m:Int)
 | l=>(natS l).map fun (m:Nat)=>(m:Int)
def progS (l:List UInt8):Option Int:=match atoiAll l with
 | .ok n=>if itoa n=l then some n else none
 | _=>none
theorem natS_digits (n:Nat):natS (decDigits n)=some n:=by
 unfold natS
 rw [if_pos (canon_digits n),dec_digits]
theorem natS_iff {l:List UInt8} {n:Nat}:natS l=some n↔decDigits n=l:=by
 constructor
 ·intro h
  unfold natS at h
  split at h
  ·rename_i hc
   exact digits_canon _ l n rfl hc h
  ·cases h
 ·intro h
  rw [← h,natS_digits]
theorem digits_head {n:Nat} {b:UInt8} {r:List UInt8} (h:decDigits n=b :: r) : 48≤b.toNat∧b.toNat≤57:=by
 have:=dec_digits n
 rw [h] at this
 simp only [decFrom] at this
 split at this
 ·rename_i d hd
  have:=digitVal_eq hd
  omega
 ·cases this
theorem itoa_nat (n:Nat):itoa (n:Int)=decDigits n:=by
 unfold itoa
 rw [if_neg (by omega),Int.toNat_natCast]
theorem itoa_neg {n:Nat} (h : 0<n):itoa (-(n:Int))=45 :: decDigits n:=by
 unfold itoa
 rw [if_pos (by omega),Int.natAbs_neg,Int.natAbs_natCast]
theorem decNat_eq {l:List UInt8} (h:l ≠ []):decNat l=decFrom 0 l:=by
 unfold decNat
 cases l with
 | nil=>exact absurd rfl h
 | cons b r=>rfl
theorem plain_prog {l:List UInt8} (hl:l ≠ []):(match NumEnd.ofOption ((decNat l).map fun (m:Nat)=>(m:Int)) with | .ok n=>if itoa n=l then some n else none | _=>none)=(natS l).map fun (m:Nat)=>(m:Int):=by
 rw [decNat_eq hl]
 cases h:decFrom 0 l with
 | none =>
  have:natS l=none:=by unfold natS; rw [h]; split <;> rfl
  rw [this]; rfl
 | some m =>
  show (if itoa (m:Int)=l then some (m:Int) else none)=_
  rw [itoa_nat]
  by_cases hc:decDigits m=l
  ·rw [if_pos hc,natS_iff.2 hc]; rfl
  ·rw [if_neg hc]
   have:natS l=none:=by
    unfold natS
    split
    ·rename_i hcn
     exact absurd (digits_canon _ l m rfl hcn h) hc
    ·rfl
   rw [this]; rfl
theorem progS_short {l:List UInt8} (hl:l.length≤18):progS l=intS l:=by
 unfold progS
 rw [atoiAll_short l hl]
 cases l with
 | nil=>rfl
 | cons b r =>
  by_cases h45:b=45
  ·subst h45
   show (match NumEnd.ofOption ((decNat r).map fun (m:Nat) => -(m:Int)) with | .ok n=>if itoa n=45 :: r then some n else none | _=>none)=if r=[48] then none else (natS r).map fun (m:Nat) => -(m:Int)
   cases r with
   | nil=>rfl
   | cons c q =>
    rw [decNat_eq (by simp)]
    cases h:decFrom 0 (c :: q) with
    | none =>
     have:natS (c :: q)=none:=by unfold natS; rw [h]; split <;> rfl
     rw [this]
     by_cases hz:c :: q=[48]
     ·rw [if_pos hz]; rfl
     ·rw [if_neg hz]; rfl
    | some m =>
     show (if itoa (-(m:Int))=45 :: c :: q then some (-(m:Int)) else none)=_
     by_cases h0:m=0
     ·subst h0
      rw [if_neg (show ¬ itoa (-((0:Nat):Int))=45 :: c :: q by
       intro e
       have:itoa 0=45 :: c :: q:=e
       rw [show itoa 0=decDigits 0 from itoa_nat 0] at this
       have:=digits_head this
       have e45:(45:UInt8).toNat=45:=rfl
       omega)]
      by_cases hz:c :: q=[48]
      ·rw [if_pos hz]
      ·rw [if_neg hz]
       have:natS (c :: q)=none:=by
        cases hn:natS (c :: q) with
        | none=>rfl
        | some k =>
         have hk:=natS_iff.1 hn
         have:=dec_digits k
         rw [hk,h] at this
         have:k=0:=(Option.some.inj this).symm
         subst this
         exact absurd (hk.symm.trans (by rw [decDigits]; rfl)) hz
       rw [this]; rfl
     ·rw [itoa_neg (by omega)]
      have hz:¬ c :: q=[48]:=by
       intro e
       rw [e] at h
       have e0:decFrom 0 [48]=some 0:=by decide
       rw [e0] at h
       exact h0 (Option.some.inj h).symm
      rw [if_neg hz]
      by_cases hc:decDigits m=c :: q
      ·rw [if_pos (by rw [hc]),natS_iff.2 hc]; rfl
      ·rw [if_neg (by intro e; exact hc (by simpa using e))]
       have:natS (c :: q)=none:=by
        unfold natS
        split
        ·rename_i hcn
         exact absurd (digits_canon _ _ m rfl hcn h) hc
        ·rfl
       rw [this]; rfl
  ·have e1:intS (b :: r)=(natS (b :: r)).map fun (m:Nat)=>(m:Int):=by
    unfold intS
    split
    ·rename_i e
     simp only [List.cons.injEq] at e
     exact absurd e.1 h45
    ·rfl
   rw [e1]
   by_cases h43:b=43
   ·subst h43
    have hn:natS (43 :: r)=none:=by
     cases hn:natS (43 :: r) with
     | none=>rfl
     | some k =>
      have:=digits_head (natS_iff.1 hn)
      have e43:(43:UInt8).toNat=43:=rfl
      omega
    rw [hn]
    show (match NumEnd.ofOption ((decNat r).map fun (m:Nat)=>(m:Int)) with | .ok n=>if itoa n=43 :: r then some n else none | _=>none)=none
    cases h:decNat r with
    | none=>rfl
    | some m =>
     show (if itoa (m:Int)=43 :: r then some (m:Int) else none)=none
     rw [itoa_nat,if_neg]
     intro e
     have:=digits_head e
     have e43:(43:UInt8).toNat=43:=rfl
     omega
   ·rw [← plain_prog (by simp:b :: r ≠ [])]
    have e2:atoi (b :: r)=(decNat (b :: r)).map fun (m:Nat)=>(m:Int):=by
     simp only [atoi]
     rw [if_neg (by simpa using h45),if_neg (by simpa using h43)]
    rw [e2]
end Go.DI

/- Strings that are cut at a byte: the library's cuts are the plain ones. No condition. -/
namespace Go.DI
open Go.Lib
def cutB (c:UInt8):List UInt8→List (List UInt8)
 | []=>[[]]
 | b :: r=>if b=c then [] :: cutB c r else match cutB c r with
  | x :: xs=>(b :: x) :: xs
  | []=>[[b]]
theorem cutB_cons (c b:UInt8) (r:List UInt8):cutB c (b :: r)=if b=c then [] :: cutB c r else match cutB c r with
  | x :: xs=>(b :: x) :: xs
  | []=>[[b]]:=rfl
theorem idx_lt (c:UInt8):∀ (l:List UInt8) (i:Nat),indexByte l c=i→i<l.length
 | [],i,h=>by unfold indexByte at h; omega
 | b :: r,i,h=>by
  unfold indexByte at h
  split at h
  ·simp; omega
  ·split at h
   ·omega
   ·have hge:=indexByte_ge r c
    rename_i h2
    have hne:indexByte r c ≠ -1:=by simpa using h2
    obtain ⟨j,hj⟩ : ∃ j:Nat,indexByte r c=j:=⟨(indexByte r c).toNat,by omega⟩
    have:=idx_lt c r j hj
    simp
    omega
theorem cutB_none (c:UInt8):∀ (l:List UInt8),indexByte l c = -1→cutB c l=[l]
 | [],_=>rfl
 | b :: r,h=>by
  unfold indexByte at h
  split at h
  ·cases h
  ·rename_i hb
   have hr:indexByte r c = -1:=by
    split at h
    ·rename_i h2; simpa using h2
    ·have:=indexByte_ge r c; omega
   unfold cutB
   rw [if_neg (by simpa using hb),cutB_none c r hr]
theorem cutB_at (c:UInt8):∀ (l:List UInt8) (i:Nat),indexByte l c=i→cutB c l=l.take i :: cutB c (l.drop (i+1))
 | [],i,h=>by unfold indexByte at h; omega
 | b :: r,i,h=>by
  unfold indexByte at h
  split at h
  ·rename_i hb
   have hi:i=0:=by omega
   subst hi
   rw [cutB_cons,if_pos (by simpa using hb)]
   rfl
  ·rename_i hb
   split at h
   ·omega
   ·rename_i h2
    have hge:=indexByte_ge r c
    have hne:indexByte r c ≠ -1:=by simpa using h2
    obtain ⟨j,hj⟩ : ∃ j:Nat,indexByte r c=j:=⟨(indexByte r c).toNat,by omega⟩
    have hi:i=j+1:=by omega
    subst hi
    rw [cutB_cons,if_neg (by simpa using hb),cutB_at c r j hj]
    rfl
theorem data_extract (s:ByteArray) (a b:Nat):(s.extract a b).data.toList=(s.data.toList.take b).drop a:=by
 rw [ByteArray.data_extract,Array.toList_extract]
 simp [List.drop_take]
theorem indexB_one (s:ByteArray) (c:UInt8):indexB s ⟨#[c]⟩=indexByte s.data.toList c:=index_one s.data.toList c
theorem split_cut (c:UInt8):∀ (k:Nat) (s:ByteArray),s.size=k→(splitB ⟨#[c]⟩ 0 (countB s ⟨#[c]⟩) s).map (fun x=>x.data.toList)=cutB c s.data.toList:=by
 intro k
 induction k using Nat.strongRecOn with
 | ind k ih =>
  intro s hs
  have hge:=indexByte_ge s.data.toList c
  by_cases hm:indexByte s.data.toList c = -1
  ·rw [countB_miss s _ (by rw [indexB_one]; exact hm),splitB_zero,cutB_none c _ hm]
   rfl
  ·obtain ⟨i,hi⟩ : ∃ i:Nat,indexByte s.data.toList c=i:=⟨(indexByte s.data.toList c).toNat,by omega⟩
   have hix:indexB s ⟨#[c]⟩=i:=by rw [indexB_one]; exact hi
   have h1 : 1≤(⟨#[c]⟩ : ByteArray).size:=Nat.le_refl 1
   have hlt:i<s.size:=by
    have:=idx_lt c _ i hi
    rwa [Array.length_toList] at this
   have hsz:(s.extract (i+1) s.size).size<k:=by rw [ByteArray.size_extract]; omega
   rw [countB_hit s _ i h1 hix,Nat.add_comm 1,splitB_hit _ 0 _ s i hix,List.map_cons,cutB_at c _ i hi]
   have:=ih _ hsz (s.extract (i+1) s.size) rfl
   rw [show (⟨#[c]⟩ : ByteArray).size=1 from rfl,this,data_extract,data_extract]
   have hl:s.data.toList.length=s.size:=by simp
   rw [Nat.add_zero,List.drop_zero,← hl,List.take_length]
end Go.DI

/- Contracts of the library on data: out of what the library's shelf says of a call. No condition. -/
set_option linter.unusedSimpArgs false
namespace Go.DI
open Go.Proofs Go.Shelf Go.RowKit Go.Lib Go.Sort
variable {P:Program} {ρ:Ren}
def Fun (P : Program) (f : FuncId) : Prop := ∃ fn c, P.funcs[f]? = some fn ∧ fn.body = some c ∧ (fn.name == "runtime.NumGoroutine") = false
theorem lib_plain {f:FuncId} {ds:List IV} {r:IV} (hf:Fun P f)
  (h:∀ (w:World) (S:Nat→Nat→Prop) (vs:List Value),Lay P w→(∀ b o,S b o→b<w.heap.size)→vs.length=ds.length→(∀ (i:Nat) (d:IV) (v:Value),ds[i]? = some d→vs[i]? = some v→Rd w S d v) →
   Calls P f vs.toArray w fun e w'=>∃ v,e = .returned v∧Below w.heap.size w w'∧∀ w' S',Rd w' S' r v):Contract P f ds r:=by
 refine ⟨hf,fun w S vs hlay hst hl hrd => ?_⟩
 refine (h w S vs hlay hst hl hrd).mono ?_
 rintro e w' ⟨v,rfl,hb,hr⟩
 exact ⟨v,S,rfl,hb,fun _ _ h=>h,fun _ _ h=>.inl h,fun b o h=>Nat.lt_of_lt_of_le (hst b o h) hb.size,hr _ _⟩
theorem rd_str {w:World} {S:Nat→Nat→Prop} {s:ByteArray} {v:Value} (h:Rd w S (.str s) v):v = .string s:=by cases h; rfl
theorem rd_int {w:World} {S:Nat→Nat→Prop} {k:IntKind} {n:Int} {v:Value} (h:Rd w S (.int k n) v):v = .int k n:=by cases h; rfl
theorem one_arg {w:World} {S:Nat→Nat→Prop} {d:IV} {vs:List Value} (hl:vs.length=[d].length) (hrd:∀ (i:Nat) (x:IV) (v:Value),[d][i]? = some x→vs[i]? = some v→Rd w S x v):∃ v,vs=[v]∧Rd w S d v:=by
 match vs,hl with
 | [v],_=>exact ⟨v,rfl,hrd 0 d v rfl rfl⟩
theorem two_args {w:World} {S:Nat→Nat→Prop} {d d':IV} {vs:List Value} (hl:vs.length=[d,d'].length) (hrd:∀ (i:Nat) (x:IV) (v:Value),[d,d'][i]? = some x→vs[i]? = some v→Rd w S x v) :
  ∃ v v',vs=[v,v']∧Rd w S d v∧Rd w S d' v':=by
 match vs,hl with
 | [v,v'],_=>exact ⟨v,v',rfl,hrd 0 d v rfl rfl,hrd 1 d' v' rfl rfl⟩
theorem below_drew (w:World) (n:Nat):Below w.heap.size w (w.drewN n):=⟨rfl,rfl,rfl,Nat.le_refl _,fun _ _=>rfl⟩
theorem below_grow {a w:World} {B:Nat} (h:Below B a w) (hB:B≤w.heap.size) (os:Array Obj):Below B a (grow w os):=by
 refine h.trans ⟨rfl,rfl,rfl,?_,fun k hk => ?_⟩
 ·show w.heap.size≤(w.heap ++ os).size
  simp
 ·show (w.heap ++ os)[k]? = w.heap[k]?
  rw [Array.getElem?_append_left (by omega)]
def itoaB (n:Int):ByteArray:=⟨(Lib.itoa n).toArray⟩
theorem lib_Itoa (L : LaysM.n171 P ρ) (hf : Fun P (ρ.f 171)) (hg : (P.globalNamed "internal/strconv.uint64pow10").isSome = true) {n : Int} (h0 : -9223372036854775808 ≤ n) (h1 : n ≤ 9223372036854775807) : Contract P (ρ.f 171) [.int .i64 n] (.str (itoaB n)) := by
 refine lib_plain hf fun w S vs hlay hst hl hrd => ?_
 obtain ⟨v,rfl,r⟩:=one_arg hl hrd
 rw [rd_int r]
 refine (Any.strconv_Itoa L n h0 h1 w (hlay.tabs ("internal/strconv.uint64pow10", .u64, Lib.pow10Tab) (by simp [libTabs]) hg)).mono ?_
 rintro e w' ⟨rfl,k,os,rfl⟩
 exact ⟨_,rfl,below_grow (below_drew w k) (Nat.le_refl _) os,fun _ _=>.str _⟩
def strsI (l:List ByteArray):IV:=.slc 1 (l.map .str)
theorem lib_Split (L:LaysM.n146 P ρ) (hf:Fun P (ρ.f 146)) {s p:ByteArray} (hs:s.size<4294967281) (h1 : 1≤p.size) :
  Contract P (ρ.f 146) [.str s,.str p] (strsI (Lib.splitB p 0 (Lib.countB s p) s)):=by
 refine ⟨hf,fun w S vs hlay hst hl hrd => ?_⟩
 obtain ⟨v,v',rfl,r,r'⟩:=two_args hl hrd
 rw [rd_str r,rd_str r']
 have hlen:=splitB_all p h1 0 _ s rfl
 refine (Any.strings_Split_shaped L s p w hlay.shape hs h1).mono ?_
 rintro e w' ⟨rfl,rfl⟩
 generalize splitB p 0 (countB s p) s=l at *
 have hg:(w.alloc (.cells (l.map Value.string).toArray (ρ.t 9))).heap[w.heap.size]? = some (.cells (l.map Value.string).toArray (ρ.t 9)):=by show (w.heap.push _)[w.heap.size]? = _; simp
 have hb:Below w.heap.size w (w.alloc (.cells (l.map Value.string).toArray (ρ.t 9))):=(Below.refl _ w).alloc (Nat.le_refl _) _
 have hsz:(w.alloc (.cells (l.map Value.string).toArray (ρ.t 9))).heap.size=w.heap.size+1:=by show (w.heap.push _).size=_; simp
 refine ⟨_,fun q t=>S q t∨q=w.heap.size,rfl,hb,fun _ _ h=>.inl h,fun q t h => ?_,fun q t h => ?_,?_⟩
 ·exact h.imp_right fun h=>by omega
 ·rcases h with h | rfl
  ·have:=hst _ _ h; omega
  ·omega
 ·rw [← hlen]
  have hl2:(l.map IV.str).length=l.length:=List.length_map _
  have:=Rd.slc (w:=w.alloc (.cells (l.map Value.string).toArray (ρ.t 9))) (S:=fun q t=>S q t∨q=w.heap.size) 1 (l.map IV.str) w.heap.size 0 l.length (fun j=>.string (l.getD j ByteArray.empty)) (Nat.le_of_eq hl2) (fun i hi=>by
    rw [hl2] at hi
    refine ⟨.inr rfl,?_⟩
    unfold World.cell?
    rw [hg]
    have hi:i<l.length:=by omega
    simp [hi,List.getD_eq_getElem?_getD])
   (fun i e he=>by
    rw [List.getElem?_map,Option.map_eq_some_iff] at he
    obtain ⟨x,_,rfl⟩:=he
    rfl)
   (fun i e j y he hy=>by
    rw [List.getElem?_map,Option.map_eq_some_iff] at he
    obtain ⟨x,hx,rfl⟩:=he
    have hj:j=0:=by have:=(List.getElem?_eq_some_iff.1 hy).1; simp [IV.cells] at this; exact this
    subst hj
    cases hy
    rw [show i * 1+0=i by omega,List.getD_eq_getElem?_getD,hx]
    exact .str _)
   (fun i e j y he hy=>rfl)
  rw [hl2] at this
  exact this
theorem lib_Join (L:Lays.n156 P ρ) (X:Builder.Extra P ρ) (hf:Fun P (ρ.f 156)) {l:List ByteArray} {p:ByteArray} (hn:l.length≤140737488355328) (hlen:(Lib.join (l.map (·.data.toList)) p.data.toList).length≤140737488355328) :
  Contract P (ρ.f 156) [strsI l,.str p] (.str ⟨(Lib.join (l.map (·.data.toList)) p.data.toList).toArray⟩):=by
 refine lib_plain hf fun w S vs hlay hst hl hrd => ?_
 obtain ⟨v,v',rfl,r,r'⟩:=two_args hl hrd
 rw [rd_str r']
 unfold strsI at r
 cases h:l.map IV.str with
 | nil =>
  have:l=[]:=by simpa using h
  subst this
  have key:∃ a c,v = .slice a 0 c:=by
   rw [h] at r
   cases r with
   | nils=>exact ⟨none,0,rfl⟩
   | slc _ _ b o cap c=>exact ⟨_,_,rfl⟩
  obtain ⟨a,c,rfl⟩:=key
  refine (Any.strings_Join_none L X a c p w).mono ?_
  rintro e w' ⟨rfl,rfl⟩
  exact ⟨_,rfl,Below.refl _ _,fun _ _=>.str _⟩
 | cons x0 xs0 =>
  rw [h] at r
  have hl2:(x0 :: xs0).length=l.length:=by rw [← h,List.length_map]
  cases r with
  | slc _ _ b o cap c hc hs hz hr ha =>
   have hpos : 0<(x0 :: xs0).length * 1:=by simp
   have hcell:∀ (j:Nat) x,l[j]? = some x→w.cell? ⟨b,o+j,none⟩=some (.string x):=fun j x hx=>by
    have hj:=(List.getElem?_eq_some_iff.1 hx).1
    have he:(x0 :: xs0)[j]? = some (.str x):=by rw [← h,List.getElem?_map,hx]; rfl
    have h1:=hr j _ 0 (.str x) he rfl
    rw [show j * 1+0=j by omega] at h1
    rw [(hs j (by omega)).2,rd_str h1]
   have hJ:=Any.strings_Join L X b o cap l p w hcell (hst _ _ (hs 0 hpos).1) hn (by omega) hlen
   rw [← hl2] at hJ
   refine hJ.mono ?_
   rintro e w' ⟨rfl,hb⟩
   exact ⟨_,rfl,hb,fun _ _=>.str _⟩
def atoiI (t:TypeId) (s:ByteArray):IV :=
 match Lib.atoiAll s.data.toList with
 | .ok v=>.tup [.int .i64 v,.nili]
 | .range=>.tup [.int .i64 (Lib.atoiSat s.data.toList),.iface t (.ptr (.agg []))]
 | _ => .tup [.int .i64 0,.iface t (.ptr (.agg []))]
theorem rd_two {w:World} {S:Nat→Nat→Prop} {x y:IV} {v u:Value} (h:Rd w S x v) (h':Rd w S y u):Rd w S (.tup [x,y]) (.tuple #[v,u]):=by
 refine .tup _ [v,u] rfl ?_
 intro i a b ha hb
 match i with
 | 0=>cases ha; cases hb; exact h
 | 1=>cases ha; cases hb; exact h'
 | i+2=>simp at ha
theorem rd_err {w:World} {S:Nat→Nat→Prop} {t:TypeId} {N:Nat}:Rd w S (.iface t (.ptr (.agg []))) (.iface t (.pointer (some ⟨N,0,none⟩))) :=
 .iface _ _ _ (.ptr _ N 0 (fun _=>.bool true) (fun j hj=>absurd hj (Nat.not_lt_zero j)) (fun j x hj=>by simp [IV.cells] at hj) (fun j hj=>absurd hj (Nat.not_lt_zero j)))
theorem lib_Atoi (L : LaysC.n172 P ρ) (hf : Fun P (ρ.f 172)) (g1 : (P.globalNamed "strconv.ErrSyntax").isSome = true) (g2 : (P.globalNamed "strconv.ErrRange").isSome = true) {s : ByteArray} (hs : s.size ≤ 281474976710656) :
  Contract P (ρ.f 172) [.str s] (atoiI (ρ.t 168) s):=by
 refine lib_plain hf fun w S vs hlay hst hl hrd => ?_
 obtain ⟨v,rfl,r⟩:=one_arg hl hrd
 rw [rd_str r]
 unfold atoiI
 cases h:Lib.atoiAll s.data.toList with
 | ok n =>
  refine (Any.strconv_Atoi_ok L s (by omega) n h w).mono ?_
  rintro e w' ⟨rfl,hw⟩
  refine ⟨_,rfl,?_,fun _ _=>rd_two (.int _ _) .nili⟩
  rcases hw with rfl | ⟨t,rfl⟩
  ·exact Below.refl _ _
  ·exact Lib.bytesWorld_below _ _ _
 | range =>
  obtain ⟨t, p, hv⟩ := hlay.errs "strconv.ErrRange" (by simp [libErrs]) g2
  refine (Any.strconv_Atoi_range_var L s hs h t p w hv).mono ?_
  rintro e w' ⟨N,rfl,_,_,hb⟩
  exact ⟨_,rfl,hb,fun _ _=>rd_two (.int _ _) rd_err⟩
 | _ =>
  obtain ⟨t, p, hv⟩ := hlay.errs "strconv.ErrSyntax" (by simp [libErrs]) g1
  refine (Any.strconv_Atoi_syntax_var L s hs h t p w hv).mono ?_
  rintro e w' ⟨N,rfl,_,_,hb⟩
  exact ⟨_,rfl,hb,fun _ _=>rd_two (.int _ _) rd_err⟩
end Go.DI

/- Strings: what is said of rows of bytes, said of strings. No condition. -/
set_option linter.unusedSimpArgs false
namespace Go.DI
open Go.Lib
def bs (l:List UInt8):ByteArray:=⟨l.toArray⟩
theorem bs_toList (l:List UInt8):(bs l).data.toList=l:=rfl
theorem bs_data (s:ByteArray):bs s.data.toList=s:=rfl
theorem bs_ext {s t:ByteArray} (h:s.data.toList=t.data.toList):s=t:=by rw [← bs_data s,← bs_data t,h]
theorem bs_size (l:List UInt8):(bs l).size=l.length:=rfl
theorem str_size (s:ByteArray):s.data.toList.length=s.size:=by simp
def cutS (c:UInt8) (s:ByteArray):List ByteArray:=(cutB c s.data.toList).map bs
theorem split_cutS (c:UInt8) (s:ByteArray):splitB ⟨#[c]⟩ 0 (countB s ⟨#[c]⟩) s=cutS c s:=by
 unfold cutS
 rw [← split_cut c s.size s rfl,List.map_map]
 conv=>lhs; rw [← List.map_id (splitB _ _ _ _)]
 rfl
theorem itoaB_bs (n:Int):itoaB n=bs (itoa n):=rfl
end Go.DI

/- The functions of strings in the statements' base, as data. No condition. -/
namespace Go.DI
open Go.Proofs Go.RowKit
end Go.DI


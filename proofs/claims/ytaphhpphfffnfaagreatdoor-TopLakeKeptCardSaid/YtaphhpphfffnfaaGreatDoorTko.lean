/- Lakes as plain data: levels and volumes at knots, in order; areas in order; readings. -/
import Derived.Test.YtaphhpphfffnfaaGreatDoorTkn
/- Lakes as plain data: levels and volumes at knots, in order; areas in order; readings. -/
namespace Go.DI.Lk
theorem isL_in {l:List Kn} (h:Valid l) {i:Nat} {x:Int} (h0 : 0<i) (hi:i<l.length) (h1:(kn l (i - 1)).1≤x) (h2:x≤(kn l i).1):isL l x:=by
  have a:=h.le (j:=i - 1) (by omega) (i:=0) (by omega)
  have b:=h.le (j:=l.length - 1) (by omega) (i:=i) (by omega)
  unfold isL Wi bot top
  omega
theorem isV_in {l:List Kn} (h:Valid l) {i:Nat} {x:Int} (h0 : 0<i) (hi:i<l.length) (h1:(kn l (i - 1)).2≤x) (h2:x≤(kn l i).2):isV l x:=by
  have a:=h.le (j:=i - 1) (by omega) (i:=0) (by omega)
  have b:=h.le (j:=l.length - 1) (by omega) (i:=i) (by omega)
  unfold isV Wi bot top
  omega
theorem level_isL {l:List Kn} (h:Valid l) {v:Int} (hv:isV l v):isL l (levLo l v)∧isL l (levHi l v)∧levLo l v≤levHi l v∧levHi l v≤levLo l v+1:=by
  obtain ⟨i,hi,i1,i2,i3,i4,i5⟩:=at_volume h hv
  have:=level_in h hv hi
  exact ⟨isL_in h i1 i2 (by omega) (by omega),isL_in h i1 i2 (by omega) (by omega),by omega,by omega⟩
theorem volume_isV {l:List Kn} (h:Valid l) {x:Int} (hx:isL l x):isV l (volLo l x)∧isV l (volHi l x)∧volLo l x≤volHi l x∧volHi l x≤volLo l x+1:=by
  obtain ⟨i,hi,i1,i2,i3,i4,i5⟩:=at_level h hx
  have:=volume_in h hx hi
  exact ⟨isV_in h i1 i2 (by omega) (by omega),isV_in h i1 i2 (by omega) (by omega),by omega,by omega⟩
end Go.DI.Lk

/- Lakes as plain data: readings; ranges that contradict each other. -/
namespace Go.DI.Lk
abbrev Rn:=Int × Int
def rn (rs:List Rn) (i:Nat):Rn:=rs.getD i default
def meet (a b:Rn):Rn:=(max a.1 b.1,min a.2 b.2)
def meets (rs:List Rn):Nat→Rn
  | 0=>rn rs 0
  | n+1=>meet (meets rs n) (rn rs (n+1))
def findN (p:Nat→Bool):Nat→Nat→Option Nat
  | 0,_=>none
  | m+1,i=>if p i then some i else findN p m (i+1)
theorem findN_none {p:Nat→Bool}:∀ {m i:Nat},findN p m i=none↔∀ j,i≤j→j<i+m→p j=false
  | 0,i=>by simp [findN]; intro j h1 h2; omega
  | m+1,i=>by
    unfold findN
    split
    · rename_i h
      constructor
      · intro k; cases k
      · intro k; rw [k i (by omega) (by omega)] at h; cases h
    · rename_i h
      rw [findN_none]
      constructor
      · intro k j h1 h2
        by_cases e:j=i
        · subst e; simpa using h
        · exact k j (by omega) (by omega)
      · intro k j h1 h2; exact k j (by omega) (by omega)
theorem findN_some {p:Nat→Bool}:∀ {m i k:Nat},findN p m i=some k→i≤k∧k<i+m∧p k=true
  | 0,i,k,h=>by cases h
  | m+1,i,k,h=>by
    unfold findN at h
    split at h
    · rename_i q; cases h; exact ⟨by omega,by omega,q⟩
    · have:=findN_some h; exact ⟨by omega,by omega,this.2.2⟩
def find2 (q:Nat→Nat→Bool) (n:Nat):Nat→Nat→Option (Nat × Nat)
  | 0,_=>none
  | m+1,i=>match findN (q i) (n - (i+1)) (i+1) with
    | some k=>some (i,k)
    | none=>find2 q n m (i+1)
theorem find2_none {q:Nat→Nat→Bool} {n:Nat}:∀ {m i:Nat},find2 q n m i=none↔∀ j,i≤j→j<i+m→∀ k,j<k→k<n→q j k=false
  | 0,i=>by simp [find2]; intro j h1 h2; omega
  | m+1,i=>by
    unfold find2
    split
    · rename_i k hk
      have:=findN_some hk
      constructor
      · intro z; cases z
      · intro z; have:=z i (by omega) (by omega) k (by omega) (by omega); simp_all
    · rename_i hk
      rw [findN_none] at hk
      rw [find2_none]
      constructor
      · intro z j h1 h2 k h3 h4
        by_cases e:j=i
        · subst e; exact hk k (by omega) (by omega)
        · exact z j (by omega) (by omega) k h3 h4
      · intro z j h1 h2; exact z j (by omega) (by omega)
theorem find2_some {q:Nat→Nat→Bool} {n:Nat}:∀ {m i:Nat} {r:Nat × Nat},find2 q n m i=some r→i≤r.1∧r.1<i+m∧r.1<r.2∧r.2<n∧q r.1 r.2=true
  | 0,i,r,h=>by cases h
  | m+1,i,r,h=>by
    unfold find2 at h
    split at h
    · rename_i k hk
      have:=findN_some hk
      cases h
      dsimp only
      exact ⟨by omega,by omega,by omega,by omega,this.2.2⟩
    · have:=find2_some h
      exact ⟨by omega,by omega,this.2.2⟩
def empty1 (rs:List Rn) (i:Nat):Bool:=decide ((rn rs i).2<(rn rs i).1)
def empty2 (rs:List Rn) (i k:Nat):Bool:=decide ((meet (rn rs i) (rn rs k)).2<(meet (rn rs i) (rn rs k)).1)
def contra (rs:List Rn):List Nat :=
  match findN (empty1 rs) rs.length 0 with
  | some i=>[i]
  | none=>match find2 (empty2 rs) rs.length rs.length 0 with
    | some (i,k)=>[i,k]
    | none=>[]
theorem meets_spec (rs:List Rn):∀ n,(∀ i,i≤n→(rn rs i).1≤(meets rs n).1∧(meets rs n).2≤(rn rs i).2)∧(∃ i,i≤n∧(meets rs n).1=(rn rs i).1)∧(∃ i,i≤n∧(meets rs n).2=(rn rs i).2)
  | 0 => ⟨fun i hi => by have : i = 0 := by omega
                         subst this; exact ⟨Int.le_refl _,Int.le_refl _⟩,⟨0,by omega,rfl⟩,⟨0,by omega,rfl⟩⟩
  | n+1=>by
    obtain ⟨h1,⟨a,ha,ea⟩,⟨b,hb,eb⟩⟩:=meets_spec rs n
    refine ⟨fun i hi => ?_,?_,?_⟩
    · unfold meets meet
      by_cases e:i=n+1
      · subst e; dsimp only; omega
      · have:=h1 i (by omega); dsimp only; omega
    · unfold meets meet
      by_cases q:(meets rs n).1≤(rn rs (n+1)).1
      · exact ⟨n+1,by omega,by dsimp only; omega⟩
      · exact ⟨a,by omega,by dsimp only; omega⟩
    · unfold meets meet
      by_cases q:(rn rs (n+1)).2≤(meets rs n).2
      · exact ⟨n+1,by omega,by dsimp only; omega⟩
      · exact ⟨b,by omega,by dsimp only; omega⟩
theorem helly {rs:List Rn} (h0 : 0<rs.length):contra rs=[]↔(meets rs (rs.length - 1)).1≤(meets rs (rs.length - 1)).2:=by
  obtain ⟨h1,⟨a,ha,ea⟩,⟨b,hb,eb⟩⟩:=meets_spec rs (rs.length - 1)
  unfold contra
  constructor
  · intro h
    split at h
    · cases h
    · rename_i k1
      split at h
      · cases h
      · rename_i k2
        rw [findN_none] at k1
        rw [find2_none] at k2
        rw [ea,eb]
        rcases Nat.lt_trichotomy a b with q | q | q
        · have:=k2 a (by omega) (by omega) b q (by omega)
          unfold empty2 meet at this
          simp only [decide_eq_false_iff_not] at this
          omega
        · subst q
          have:=k1 a (by omega) (by omega)
          unfold empty1 at this
          simp only [decide_eq_false_iff_not] at this
          omega
        · have:=k2 b (by omega) (by omega) a q (by omega)
          unfold empty2 meet at this
          simp only [decide_eq_false_iff_not] at this
          omega
  · intro h
    split
    · rename_i i hi
      have q:=findN_some hi
      have:=h1 i (by omega)
      unfold empty1 at q
      simp only [decide_eq_true_eq] at q
      omega
    · split
      · rename_i i k hik
        have q:=find2_some hik
        dsimp only at q
        have a1:=h1 i (by omega)
        have a2:=h1 k (by omega)
        unfold empty2 meet at q
        simp only [decide_eq_true_eq] at q
        omega
      · rfl
structure Rdg where
  tick:Int
  lo:Int
  hi:Int
instance:Inhabited Rdg:=⟨⟨0,0,0⟩⟩
def sumTo (net:List Int):Nat→Int
  | 0=>0
  | n+1=>sumTo net n+net.getD n 0
def perm (l:List Kn) (net:List Int) (r:Rdg):Rn:=(volHi l r.lo - sumTo net r.tick.toNat,volLo l r.hi - sumTo net r.tick.toNat)
def rdgErr (l:List Kn) (n:Int) (r:Rdg):Int :=
  if ¬ (Wi r.tick 0 n∧isL l r.lo∧isL l r.hi) then 2 else if r.hi<r.lo then 9 else 0
theorem rdgErr_ok {l:List Kn} {n:Int} {r:Rdg} (h:rdgErr l n r=0):(0≤r.tick∧r.tick≤n)∧isL l r.lo∧isL l r.hi∧r.lo≤r.hi:=by
  unfold rdgErr at h
  split at h
  · omega
  · rename_i k
    split at h
    · omega
    · rename_i k2
      simp only [Decidable.not_not] at k
      exact ⟨k.1,k.2.1,k.2.2,by omega⟩
theorem perm_iff {l:List Kn} (h:Valid l) {net:List Int} {r:Rdg} (h1:isL l r.lo) (h2:isL l r.hi) (v:Int) :
    ((perm l net r).1≤v∧v≤(perm l net r).2)↔(isV l (v+sumTo net r.tick.toNat)∧r.lo≤levLo l (v+sumTo net r.tick.toNat)∧levHi l (v+sumTo net r.tick.toNat)≤r.hi):=by
  have a1:=volume_isV h h1
  have a2:=volume_isV h h2
  unfold perm
  dsimp only
  generalize sumTo net r.tick.toNat=z
  constructor
  · intro q
    have hv:isV l (v+z):=by
      unfold isV Wi at *
      omega
    exact ⟨hv,(reach h h1 hv).2 (by omega),(reach' h h2 hv).2 (by omega)⟩
  · rintro ⟨hv,q1,q2⟩
    have:=(reach h h1 hv).1 q1
    have:=(reach' h h2 hv).1 q2
    omega
end Go.DI.Lk


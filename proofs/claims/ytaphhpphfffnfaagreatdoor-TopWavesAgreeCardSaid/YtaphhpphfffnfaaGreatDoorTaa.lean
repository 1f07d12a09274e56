/- Lines, states and laws of waves as plain data. No condition. -/
import Derived.Test.YtaphhpphfffnfaaGreatDoorSuGa
import Derived.IntWalk
set_option linter.unusedSimpArgs false
namespace Go.DI
abbrev W6 (n:Int):Int:=IntKind.wrap .i64 n
theorem wrap64 {n:Int} (h1 : -9223372036854775808≤n) (h2:n≤9223372036854775807):IntKind.wrap .i64 n=n:=IntWalk.i64_in n ⟨h1,h2⟩
abbrev Pp:=Int × Int
structure Ln where
 pp:List Pp
 ar:List Int
 deriving Inhabited,DecidableEq
structure Ow where
 pp:List Pp
 ar:List Int
 be:List Int
 n:Int
 deriving Inhabited,DecidableEq
structure Ws where
 F:List Int
 B:List Int
 L:List Int
 deriving Inhabited,DecidableEq
structure Tk where
 cl:Int
 mo:Int
 ti:Int
 lo:Int
 hi:Int
 deriving Inhabited,DecidableEq
def firstNZ:List Int→Int
 | []=>0
 | x :: r=>if x=0 then firstNZ r else x
def fstE (a b:Int):Int:=if a=0 then b else a
theorem firstNZ_two {a b:Int}:firstNZ [a,b]=fstE a b:=by
 unfold firstNZ fstE
 split
 ·unfold firstNZ; split
  ·rename_i h; rw [h]; rfl
  ·rfl
 ·rfl
def idxF {α:Type} (p : α→Bool):List α→Int
 | [] => -1
 | x :: r=>if p x then 0 else if idxF p r = -1 then -1 else idxF p r+1
theorem idxF_cons {α:Type} {p : α→Bool} {x : α} {r:List α}:idxF p (x :: r)=if p x then 0 else if idxF p r = -1 then -1 else idxF p r+1:=rfl
theorem idxF_range {α:Type} {p : α→Bool}:∀ (l:List α), -1≤idxF p l∧idxF p l<l.length
 | []=>by simp [idxF]
 | x :: r=>by
  have:=idxF_range (p:=p) r
  unfold idxF
  simp only [List.length_cons]
  split
  ·omega
  ·split <;> omega
theorem idxF_any {α:Type} {p : α→Bool}:∀ (l:List α),(0≤idxF p l)↔l.any p=true
 | []=>by simp [idxF]
 | x :: r=>by
  have h:=idxF_any (p:=p) r
  have hr:=idxF_range (p:=p) r
  unfold idxF
  simp only [List.any_cons,Bool.or_eq_true]
  split
  ·rename_i hx; simp [hx]
  ·rename_i hx
   rw [← h]
   split <;> simp [hx] <;> omega
theorem idxF_none {α:Type} {p : α→Bool} {l:List α}:idxF p l = -1↔∀ x ∈ l,p x=false:=by
 have h:=idxF_any (p:=p) l
 have hr:=idxF_range (p:=p) l
 constructor
 ·intro k x hx
  cases hp:p x with
  | false=>rfl
  | true =>
   have:=h.2 (List.any_eq_true.2 ⟨x,hx,hp⟩)
   omega
 ·intro k
  have:¬ 0≤idxF p l:=by
   rw [h,List.any_eq_true]
   rintro ⟨x,hx,hp⟩
   rw [k x hx] at hp; cases hp
  omega
theorem idxF_drop {α:Type} [Inhabited α] {l:List α} {i:Nat} (h:i<l.length):l.drop i=l.getD i default :: l.drop (i+1):=by
 rw [List.drop_eq_getElem_cons h]
 congr 1
 rw [List.getD_eq_getElem?_getD]; simp [h]
theorem getD_drop {l:List Int} {i:Nat} (h:i<l.length):l.drop i=l.getD i 0 :: l.drop (i+1):=by
 rw [List.drop_eq_getElem_cons h]
 congr 1
 rw [List.getD_eq_getElem?_getD]; simp [h]
theorem getD_mem {α:Type} {l:List α} {i:Nat} {d : α} (h:i<l.length):l.getD i d ∈ l:=by rw [List.getD_eq_getElem?_getD]; simp [h]
def Seek {α:Type} (p : α→Bool) (l:List α) (i:Nat):Prop:=i≤l.length∧idxF p l=if idxF p (l.drop i) = -1 then -1 else idxF p (l.drop i)+i
theorem seek_zero {α:Type} {p : α→Bool} {l:List α}:Seek p l 0:=⟨Nat.zero_le _,by simp⟩
theorem seek_hit {α:Type} {p : α→Bool} [Inhabited α] {l:List α} {i:Nat} (h:Seek p l i) (hi:i<l.length) (hp:p (l.getD i default)=true):idxF p l=i:=by
 have h2:=h.2
 rw [idxF_drop hi,idxF_cons,hp,if_pos rfl,if_neg (by omega)] at h2
 rw [h2]; simp
theorem seek_step {α:Type} {p : α→Bool} [Inhabited α] {l:List α} {i:Nat} (h:Seek p l i) (hi:i<l.length) (hp:p (l.getD i default)=false):Seek p l (i+1):=by
 have h2:=h.2
 have hr:=idxF_range (p:=p) (l.drop (i+1))
 rw [idxF_drop hi,idxF_cons,hp] at h2
 simp only [Bool.false_eq_true,if_false] at h2
 refine ⟨by omega,?_⟩
 rw [h2]
 split
 ·rename_i h3; rw [if_pos rfl]
 ·rename_i h3; rw [if_neg (by omega)]; omega
theorem seek_end {α:Type} {p : α→Bool} {l:List α} (h:Seek p l l.length):idxF p l = -1:=by
 rw [h.2]; simp [idxF]

def badP (p:Pp):Bool := !(decide (1≤p.1∧p.1≤6) && decide (1≤p.2∧p.2≤10))
def badA (n:Int):Bool := !decide (0≤n∧n≤20)
def lenE (x:Ln):Int:=firstNZ [if 0<(x.pp.length:Int) then 0 else 10,if (x.pp.length:Int)≤4 then 0 else 8,if (x.ar.length:Int)=(x.pp.length:Int) - 1 then 0 else 10]
def chkL (x:Ln):Int × Int :=
 if lenE x ≠ 0 then (0,lenE x) else if idxF badP x.pp ≠ -1 then (idxF badP x.pp,2) else if 0≤idxF badA x.ar then (idxF badA x.ar,2) else (0,0)
structure LineOk (x:Ln):Prop where
 len : 1≤x.pp.length∧x.pp.length≤4
 ars:x.ar.length+1=x.pp.length
 pip:∀ p ∈ x.pp,(1≤p.1∧p.1≤6)∧1≤p.2∧p.2≤10
 are:∀ n ∈ x.ar,0≤n∧n≤20
theorem lenE_zero {x:Ln}:lenE x=0↔(1≤x.pp.length∧x.pp.length≤4)∧x.ar.length+1=x.pp.length:=by
 unfold lenE
 constructor
 ·intro h
  by_cases h1 : 0<(x.pp.length:Int)
  ·rw [if_pos h1] at h
   by_cases h2:(x.pp.length:Int)≤4
   ·rw [if_pos h2] at h
    by_cases h3:(x.ar.length:Int)=(x.pp.length:Int) - 1
    ·omega
    ·rw [if_neg h3] at h; cases h
   ·rw [if_neg h2] at h; cases h
  ·rw [if_neg h1] at h; cases h
 ·rintro ⟨⟨h1,h2⟩,h3⟩
  rw [if_pos (show 0<(x.pp.length:Int) by omega),if_pos (show (x.pp.length:Int)≤4 by omega),if_pos (show (x.ar.length:Int)=(x.pp.length:Int) - 1 by omega)]
  rfl
theorem badP_false {p:Pp}:badP p=false↔(1≤p.1∧p.1≤6)∧1≤p.2∧p.2≤10:=by simp [badP]
theorem badP_true {p:Pp} (h:¬ ((1≤p.1∧p.1≤6)∧1≤p.2∧p.2≤10)):badP p=true:=by
 cases hb:badP p with
 | false=>exact absurd (badP_false.1 hb) h
 | true=>rfl
theorem badA_false {n:Int}:badA n=false↔0≤n∧n≤20:=by simp [badA]
theorem chkL_ok {x:Ln}:(chkL x).2=0↔LineOk x:=by
 unfold chkL
 constructor
 ·intro h
  by_cases h1:lenE x ≠ 0
  ·rw [if_pos h1] at h; exact absurd h h1
  rw [if_neg h1] at h
  by_cases h2:idxF badP x.pp ≠ -1
  ·rw [if_pos h2] at h; cases h
  rw [if_neg h2] at h
  by_cases h3 : 0≤idxF badA x.ar
  ·rw [if_pos h3] at h; cases h
  have hr:=idxF_range (p:=badA) x.ar
  have e1:=lenE_zero.1 (Decidable.not_not.1 h1)
  exact ⟨e1.1,e1.2,fun p hp=>badP_false.1 (idxF_none.1 (Decidable.not_not.1 h2) p hp),fun n hn=>badA_false.1 (idxF_none.1 (by omega) n hn)⟩
 ·intro h
  rw [if_neg (by rw [lenE_zero.2 ⟨h.len,h.ars⟩]; simp),if_neg (by rw [idxF_none.2 fun p hp=>badP_false.2 (h.pip p hp)]; simp),if_neg (by rw [idxF_none.2 fun n hn=>badA_false.2 (h.are n hn)]; simp)]
def begL:Int→List Pp→List Int
 | _,[]=>[]
 | a,p :: r=>a :: begL (a+p.1) r
def cellsN:List Pp→Int
 | []=>0
 | p :: r=>p.1+cellsN r
def opn (x:Ln):Ow:=⟨x.pp,x.ar,begL 0 x.pp,cellsN x.pp⟩
theorem begL_length:∀ (l:List Pp) (a:Int),(begL a l).length=l.length
 | [],_=>rfl
 | p :: r,a=>by simp [begL,begL_length r]
theorem cellsN_bd:∀ (l:List Pp),(∀ p ∈ l,1≤p.1∧p.1≤6)→(l.length:Int)≤cellsN l∧cellsN l≤6 * (l.length:Int)
 | [],_=>by simp [cellsN]
 | p :: r,h=>by
  have h1:=h p (by simp)
  have h2:=cellsN_bd r fun q hq=>h q (by simp [hq])
  simp only [cellsN,List.length_cons]
  omega
theorem begL_getD:∀ (l:List Pp) (a:Int) (j:Nat),j<l.length→(begL a l).getD j 0=a+cellsN (l.take j)
 | p :: r,a,0,_=>by simp [begL,cellsN]
 | p :: r,a,j+1,h=>by
  have:=begL_getD r (a+p.1) j (by simpa using h)
  simp only [begL,List.getD_cons_succ,List.take_succ_cons,cellsN,this]
  omega
theorem cellsN_take:∀ (l:List Pp) (j:Nat),cellsN (l.take j)+cellsN (l.drop j)=cellsN l
 | [],j=>by simp [cellsN]
 | p :: r,0=>by simp [cellsN]
 | p :: r,j+1=>by
  have:=cellsN_take r j
  simp only [List.take_succ_cons,List.drop_succ_cons,cellsN]
  omega
theorem begL_step {l:List Pp} {i:Nat} (h:i<l.length):(begL 0 l).take i ++ [cellsN (l.take i)]=(begL 0 l).take (i+1):=by
 rw [List.take_succ_eq_append_getElem (by rw [begL_length]; exact h)]
 congr 2
 have:=begL_getD l 0 i h
 rw [List.getD_eq_getElem?_getD,List.getElem?_eq_getElem (by rw [begL_length]; exact h),Option.getD_some] at this
 omega
theorem cellsN_append:∀ (l m:List Pp),cellsN (l ++ m)=cellsN l+cellsN m
 | [],m=>by simp [cellsN]
 | p :: r,m=>by simp [cellsN,cellsN_append r m]; omega
theorem cellsN_step {l:List Pp} {i:Nat} (h:i<l.length):cellsN (l.take (i+1))=cellsN (l.take i)+(l.getD i default).1:=by
 rw [List.take_succ_eq_append_getElem h,cellsN_append]
 simp [cellsN,List.getD_eq_getElem?_getD,h]

def zeros (n:Nat):List Int:=List.replicate n 0
theorem zeros_len {n:Nat}:(zeros n).length=n:=List.length_replicate
def szOk (n:Int):Bool:=decide (-1000000≤n∧n≤1000000)
def badS (q:Int × Int):Bool := !(szOk q.1 && szOk q.2)
theorem badS_l {a b:Int} (h:¬ szOk a=true):badS (a,b)=true:=by simp [badS,h]
theorem badS_r {a b:Int} (h:¬ szOk b=true):badS (a,b)=true:=by simp [badS,h]
theorem badS_no {a b:Int} (h:szOk a=true) (k:szOk b=true):badS (a,b)=false:=by simp [badS,h,k]
def chkS (x:Ow) (s:Ws):Int × Int :=
 if ¬ ((s.F.length:Int)=x.n∧(s.B.length:Int)=x.n∧s.L.length=x.ar.length) then (0,10)
 else if idxF badS (s.F.zip s.B) ≠ -1 then (idxF badS (s.F.zip s.B),2)
 else if idxF (fun n => !szOk n) s.L ≠ -1 then (idxF (fun n => !szOk n) s.L,2) else (0,0)
structure StateOk (x:Ow) (s:Ws):Prop where
 f:(s.F.length:Int)=x.n
 b:(s.B.length:Int)=x.n
 l:s.L.length=x.ar.length
 fs:∀ v ∈ s.F, -1000000≤v∧v≤1000000
 bs:∀ v ∈ s.B, -1000000≤v∧v≤1000000
 ls:∀ v ∈ s.L, -1000000≤v∧v≤1000000
theorem mem_zip_l {α β:Type}:∀ {l:List α} {m:List β} {a : α},a ∈ l→l.length=m.length→∃ b,(a,b) ∈ l.zip m
 | x :: l,y :: m,a,h,e=>by
  rcases List.mem_cons.1 h with rfl | h
  ·exact ⟨y,by simp⟩
  ·obtain ⟨b,hb⟩:=mem_zip_l h (by simpa using e)
   exact ⟨b,by simp [hb]⟩
 | x :: l,[],a,h,e=>by simp at e
theorem mem_zip_r {α β:Type}:∀ {l:List α} {m:List β} {b : β},b ∈ m→l.length=m.length→∃ a,(a,b) ∈ l.zip m
 | x :: l,y :: m,a,h,e=>by
  rcases List.mem_cons.1 h with rfl | h
  ·exact ⟨x,by simp⟩
  ·obtain ⟨b,hb⟩:=mem_zip_r h (show l.length=m.length by simpa using e)
   exact ⟨b,by simp [hb]⟩
 | [],y :: m,a,h,e=>by simp at e
theorem szOk_true {n:Int}:szOk n=true ↔ -1000000≤n∧n≤1000000:=by simp [szOk]
theorem chkS_ok {x:Ow} {s:Ws}:(chkS x s).2=0↔StateOk x s:=by
 unfold chkS
 constructor
 ·intro h
  by_cases h1:¬ ((s.F.length:Int)=x.n∧(s.B.length:Int)=x.n∧s.L.length=x.ar.length)
  ·rw [if_pos h1] at h; cases h
  rw [if_neg h1] at h
  by_cases h2:idxF badS (s.F.zip s.B) ≠ -1
  ·rw [if_pos h2] at h; cases h
  rw [if_neg h2] at h
  by_cases h3:idxF (fun n => !szOk n) s.L ≠ -1
  ·rw [if_pos h3] at h; cases h
  obtain ⟨e1,e2,e3⟩:=Decidable.not_not.1 h1
  have k2:=idxF_none.1 (Decidable.not_not.1 h2)
  have k3:=idxF_none.1 (Decidable.not_not.1 h3)
  refine ⟨e1,e2,e3,fun v hv => ?_,fun v hv => ?_,fun v hv => ?_⟩
  ·obtain ⟨b,hb⟩:=mem_zip_l hv (show s.F.length=s.B.length by omega)
   have:=k2 _ hb
   simp [badS] at this
   exact szOk_true.1 this.1
  ·obtain ⟨b,hb⟩:=mem_zip_r hv (show s.F.length=s.B.length by omega)
   have:=k2 _ hb
   simp [badS] at this
   exact szOk_true.1 this.2
  ·have:=k3 v hv
   simp at this
   exact szOk_true.1 this
 ·intro h
  have k2:idxF badS (s.F.zip s.B) = -1:=idxF_none.2 fun q hq=>by
   have h1:=szOk_true.2 (h.fs q.1 (List.of_mem_zip hq).1)
   have h2:=szOk_true.2 (h.bs q.2 (List.of_mem_zip hq).2)
   simp [badS,h1,h2]
  have k3:idxF (fun n => !szOk n) s.L = -1:=idxF_none.2 fun v hv=>by simp [szOk_true.2 (h.ls v hv)]
  rw [if_neg (fun k=>k ⟨h.f,h.b,h.l⟩),if_neg (by rw [k2]; simp),if_neg (by rw [k3]; simp)]

def jP (y w A a c L:Int):Int:=W6 ((W6 (W6 (W6 (W6 (2 * y) * a)+W6 (W6 (2 * w) * c))+W6 (A * L))).tdiv (W6 (W6 (y+w)+A)))
def jnc (x:Ow) (s:Ws) (j:Nat) (o:Ws):Ws :=
 let af:=(x.be.getD (j+1) 0).toNat
 let a:=s.F.getD (af - 1) 0
 let c:=s.B.getD af 0
 let p:=jP (x.pp.getD j default).2 (x.pp.getD (j+1) default).2 (x.ar.getD j 0) a c (s.L.getD j 0)
 ⟨o.F.set af (W6 (p - c)),o.B.set (af - 1) (W6 (p - a)),o.L.set j p⟩
def jncs (x:Ow) (s:Ws):Nat→Ws→Ws
 | 0,o=>o
 | k+1,o=>jnc x s k (jncs x s k o)
def baseS (x:Ow) (s:Ws) (c:Int):Ws :=
 ⟨W6 (0 - s.B.getD 0 0) :: s.F.take (x.n.toNat - 1),s.B.drop 1 ++ [W6 (s.F.getD (x.n.toNat - 1) 0+c)],zeros x.ar.length⟩
def stp (x:Ow) (s:Ws) (c:Int):Ws:=jncs x s x.ar.length (baseS x s c)
def restS (x:Ow):Ws:=⟨zeros x.n.toNat,zeros x.n.toNat,zeros x.ar.length⟩
def runS (x:Ow):Ws→List Int→Ws
 | s,[]=>s
 | s,c :: r=>runS x (stp x s c) r
structure Sh (x:Ow) (s:Ws):Prop where
 f:(s.F.length:Int)=x.n
 b:(s.B.length:Int)=x.n
 l:s.L.length=x.ar.length
theorem sh_rest {x:Ow} (h : 0≤x.n):Sh x (restS x):=⟨by simp only [restS,zeros_len]; omega,by simp only [restS,zeros_len]; omega,zeros_len⟩
theorem sh_jnc {x:Ow} {s o:Ws} {j:Nat} (h:Sh x o):Sh x (jnc x s j o):=⟨by simp only [jnc,List.length_set]; exact h.f,by simp only [jnc,List.length_set]; exact h.b,by simp only [jnc,List.length_set]; exact h.l⟩
theorem sh_jncs {x:Ow} {s:Ws}:∀ {k:Nat} {o:Ws},Sh x o→Sh x (jncs x s k o)
 | 0,_,h=>h
 | _+1,_,h=>sh_jnc (sh_jncs h)
theorem sh_base {x:Ow} {s:Ws} {c:Int} (h:Sh x s) (hn : 1≤x.n):Sh x (baseS x s c):=by
 have h1:=h.f; have h2:=h.b
 refine ⟨?_,?_,zeros_len⟩
 ·simp only [baseS,List.length_cons,List.length_take]; omega
 ·simp only [baseS,List.length_append,List.length_drop,List.length_cons,List.length_nil]; omega
theorem sh_stp {x:Ow} {s:Ws} {c:Int} (h:Sh x s) (hn : 1≤x.n):Sh x (stp x s c):=sh_jncs (sh_base h hn)
structure OwOk (x:Ow):Prop where
 len : 1≤x.pp.length∧x.pp.length≤4
 ars:x.ar.length+1=x.pp.length
 pip:∀ p ∈ x.pp,(1≤p.1∧p.1≤6)∧1≤p.2∧p.2≤10
 are:∀ n ∈ x.ar,0≤n∧n≤20
 be:x.be=begL 0 x.pp
 n:x.n=cellsN x.pp
theorem opn_ok {x:Ln} (h:LineOk x):OwOk (opn x):=⟨h.len,h.ars,h.pip,h.are,rfl,rfl⟩
theorem OwOk.nb {x:Ow} (h:OwOk x) : 1≤x.n∧x.n≤24:=by
 have:=cellsN_bd x.pp fun p hp=>(h.pip p hp).1
 have:=h.len; have:=h.n
 omega
theorem OwOk.bel {x:Ow} (h:OwOk x):x.be.length=x.pp.length:=by rw [h.be,begL_length]
theorem OwOk.at {x:Ow} (h:OwOk x) {j:Nat} (hj:j<x.ar.length) : 1≤x.be.getD (j+1) 0∧x.be.getD (j+1) 0+1≤x.n:=by
 have hl:=h.ars
 have h1:=cellsN_take x.pp (j+1)
 have h2:=cellsN_bd (x.pp.take (j+1)) fun p hp=>(h.pip p (List.mem_of_mem_take hp)).1
 have h3:=cellsN_bd (x.pp.drop (j+1)) fun p hp=>(h.pip p (List.mem_of_mem_drop hp)).1
 simp only [List.length_take,List.length_drop] at h2 h3
 rw [h.be,begL_getD _ _ _ (by omega),h.n]
 omega

theorem ticksE_def {n:Int}:(if 1≤n∧n≤200 then (0:Int) else 2)=0↔1≤n∧n≤200:=by
 split <;> simp_all
def lawScan:Int→Int→List Int→Int × Int
 | _,_,[]=>(0,0)
 | i,l,n :: r=>if fstE (if 0≤n∧n≤1000 then 0 else 2) (if l≤n then 0 else 9)=0 then lawScan (i+1) n r else (i,fstE (if 0≤n∧n≤1000 then 0 else 2) (if l≤n then 0 else 9))
theorem lawScan_cons {i l n:Int} {r:List Int}:lawScan i l (n :: r)=if fstE (if 0≤n∧n≤1000 then 0 else 2) (if l≤n then 0 else 9)=0 then lawScan (i+1) n r else (i,fstE (if 0≤n∧n≤1000 then 0 else 2) (if l≤n then 0 else 9)):=rfl
def chkW (law:List Int):Int × Int:=if 60<(law.length:Int) then (0,8) else lawScan 0 0 law
def ticksE (n:Int):Int:=if 1≤n∧n≤200 then 0 else 2
def closeE (n:Int):Int:=if -1000≤n∧n≤1000 then 0 else 2
def atL (law:List Int) (t:Nat):Int:=law.getD (min t (law.length - 1)) 0
def stE (x:Ln) (s:Ws):Int:=if (chkL x).2=0 then (chkS (opn x) s).2 else (chkL x).2
def runE (x:Ln) (s:Ws) (cl:List Int):Int:=cl.foldl (fun e n=>fstE e (closeE n)) (fstE (stE x s) (if (cl.length:Int)≤200 then 0 else 8))
def opnE (x:Ln):Ow:=if (chkL x).2=0 then opn x else ⟨[],[],[],0⟩
def lawRunE (x:Ln) (law:List Int) (t:Int):Int:=firstNZ [(chkL x).2,(chkW law).2,ticksE t]
theorem fstE_zero {a b:Int}:fstE a b=0↔a=0∧b=0:=by
 unfold fstE
 split
 ·rename_i h; simp [h]
 ·rename_i h; simp [h]
theorem runE_go:∀ (cl:List Int) (e:Int),cl.foldl (fun e n=>fstE e (closeE n)) e=0↔e=0∧∀ n ∈ cl,closeE n=0
 | [],e=>by simp
 | n :: r,e=>by
  rw [List.foldl_cons,runE_go r,fstE_zero]
  simp [and_assoc]
theorem runE_zero {x:Ln} {s:Ws} {cl:List Int}:runE x s cl=0↔(stE x s=0∧cl.length≤200)∧∀ n ∈ cl,closeE n=0:=by
 unfold runE
 rw [runE_go,fstE_zero]
 have:((if (cl.length:Int)≤200 then 0 else 8:Int)=0)↔cl.length≤200:=by
  split <;> omega
 rw [this]
theorem stE_zero {x:Ln} {s:Ws}:stE x s=0↔LineOk x∧StateOk (opn x) s:=by
 unfold stE
 split
 ·rename_i h
  rw [chkS_ok]
  exact ⟨fun k=>⟨chkL_ok.1 h,k⟩,fun k=>k.2⟩
 ·rename_i h
  exact ⟨fun k=>absurd k h,fun k=>absurd (chkL_ok.2 k.1) h⟩
theorem firstNZ_zero:∀ {l:List Int},firstNZ l=0↔∀ e ∈ l,e=0
 | []=>by simp [firstNZ]
 | a :: r=>by
  unfold firstNZ
  split
  ·rename_i h; rw [firstNZ_zero]; simp [h]
  ·rename_i h; simp [h]
theorem lawRunE_zero {x:Ln} {law:List Int} {t:Int}:lawRunE x law t=0↔LineOk x∧(chkW law).2=0∧1≤t∧t≤200:=by
 unfold lawRunE
 rw [firstNZ_zero]
 simp only [List.mem_cons,List.not_mem_nil,or_false,forall_eq_or_imp,forall_eq,chkL_ok]
 unfold ticksE
 rw [ticksE_def]
theorem ite_zero {p:Prop} [Decidable p] {n:Int} (h:n ≠ 0):(if p then (0:Int) else n)=0↔p:=by split <;> simp_all
theorem StateOk.sh {x:Ow} {s:Ws} (h:StateOk x s):Sh x s:=⟨h.f,h.b,h.l⟩
def lawS (x:Ow) (law:List Int):Nat→Ws
 | 0=>restS x
 | t+1=>stp x (lawS x law t) (atL law t)
def valve (x:Ow) (law:List Int) (t:Nat):Int:=W6 (W6 (2 * (lawS x law t).F.getD (x.n.toNat - 1) 0)+atL law t)
theorem sh_law {x:Ow} (hn : 1≤x.n) {law:List Int}:∀ t,Sh x (lawS x law t)
 | 0=>sh_rest (by omega)
 | t+1=>sh_stp (sh_law hn t) hn
def valveL (x:Ow) (law:List Int) (k:Nat):List Int:=(List.range k).map (valve x law)
theorem valveL_length {x:Ow} {law:List Int} {k:Nat}:(valveL x law k).length=k:=by simp [valveL]
theorem valveL_succ {x:Ow} {law:List Int} {k:Nat}:valveL x law (k+1)=valveL x law k ++ [valve x law k]:=by simp [valveL,List.range_succ]
def outP (lo hi v:Int):Bool := !decide (lo≤v∧v≤hi)
def beyN (x:Ow) (law:List Int) (t:Tk):Int :=
 if idxF (outP t.lo t.hi) (valveL x law t.ti.toNat) = -1 then t.ti else idxF (outP t.lo t.hi) (valveL x law t.ti.toNat)
def keeps (x:Ow) (t:Tk) (law:List Int):Bool:=decide (beyN x law t=t.ti)
end Go.DI


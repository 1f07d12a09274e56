/- A call on data: the data, what each operation does to them, the relation to memory. No condition. -/
import Derived.WalkKit
import Derived.WalkSpells
import Derived.WalkLawsBesides
import Derived.RangeFuncSeq
/- The data that a call computes with, and how it lies in memory: immutable values, local variables, relations to the world. No condition. -/
namespace Go.DI
open Go.RowKit

inductive IV where
  | bool (b : Bool)
  | int (k : IntKind) (n : Int)
  | flt (k : FloatKind) (bits : Nat)
  | cpx (k : FloatKind) (re im : Nat)
  | str (s : ByteArray)
  | slc (sz : Nat) (es : List IV)
  | agg (cs : List IV)
  | tup (vs : List IV)
  | func (f : FuncId) (first cap : List IV)
  | iface (t : TypeId) (v : IV)
  | ptr (v : IV)
  | nilp
  | nilf
  | nili
  deriving Inhabited

def IV.cells : IV → List IV
  | .agg cs => cs
  | v => [v]

inductive DV where
  | undef
  | imm (v : IV)
  | ref (id off : Nat)
  | pim (v : IV)
  | vec (id off n : Nat)
  | own (t : Nat)
  | cap0 (sz : Nat) (es : List IV)
  | agg (cs : List DV)
  | fn (f : FuncId) (first cap : List DV)
  | yld (l : Nat)
  | nils (sz : Nat)
  deriving Inhabited

inductive Res where
  | box (cells : List DV)
  | arr (es : List IV)
  | fza (es : List IV)
  | tok (sz : Nat) (es : List IV)
  | seq (l : Nat) (todo : Bool × Option (List (List IV)))
  deriving Inhabited

def Owns (tau : Nat → Value) (id : Nat) : Res → Prop
  | .box _ | .arr _ => True
  | .tok _ _ => ∃ a n cap, tau id = .slice (some a) n cap ∧ n < cap
  | _ => False

inductive Rd (w : World) (S : Nat → Nat → Prop) : IV → Value → Prop where
  | bool (b) : Rd w S (.bool b) (.bool b)
  | int (k n) : Rd w S (.int k n) (.int k n)
  | flt (k b) : Rd w S (.flt k b) (.float k b)
  | cpx (k r i) : Rd w S (.cpx k r i) (.complex k r i)
  | str (s) : Rd w S (.str s) (.string s)
  | nils (sz) : Rd w S (.slc sz []) (.slice none 0 0)
  | slc (sz es b o cap) (c : Nat → Value) (hc : es.length ≤ cap)
      (hs : ∀ i, i < es.length * sz → S b (o + i) ∧ w.cell? ⟨b, o + i, none⟩ = some (c i))
      (hz : ∀ (i : Nat) (e : IV), es[i]? = some e → e.cells.length = sz)
      (hr : ∀ (i : Nat) (e : IV) (j : Nat) (x : IV), es[i]? = some e → e.cells[j]? = some x → Rd w S x (c (i * sz + j)))
      (ha : ∀ (i : Nat) (e : IV) (j : Nat) (x : IV), es[i]? = some e → e.cells[j]? = some x → (c (i * sz + j)).oneCell' = true) :
      Rd w S (.slc sz es) (.slice (some ⟨b, o, none⟩) es.length cap)
  | agg (cs : List IV) (vs : List Value) (hl : vs.length = cs.length)
      (hr : ∀ (i : Nat) (x : IV) (v : Value), cs[i]? = some x → vs[i]? = some v → Rd w S x v)
      (ha : ∀ (i : Nat) (v : Value), vs[i]? = some v → v.oneCell' = true) : Rd w S (.agg cs) (.agg vs.toArray)
  | tup (cs : List IV) (vs : List Value) (hl : vs.length = cs.length)
      (hr : ∀ (i : Nat) (x : IV) (v : Value), cs[i]? = some x → vs[i]? = some v → Rd w S x v) : Rd w S (.tup cs) (.tuple vs.toArray)
  | func (f) (first cap : List IV) (vf vc : List Value) (hf : vf.length = first.length) (hc : vc.length = cap.length)
      (hrf : ∀ (i : Nat) (x : IV) (v : Value), first[i]? = some x → vf[i]? = some v → Rd w S x v)
      (hrc : ∀ (i : Nat) (x : IV) (v : Value), cap[i]? = some x → vc[i]? = some v → Rd w S x v) :
      Rd w S (.func f first cap) (.func (.func f) vf.toArray vc.toArray)
  | iface (t x v) (h : Rd w S x v) : Rd w S (.iface t x) (.iface t v)
  | ptr (d : IV) (b o) (c : Nat → Value) (hs : ∀ j, j < d.cells.length → S b (o + j) ∧ w.cell? ⟨b, o + j, none⟩ = some (c j))
      (hr : ∀ (j : Nat) (x : IV), d.cells[j]? = some x → Rd w S x (c j))
      (ha : ∀ j, j < d.cells.length → (c j).oneCell' = true) : Rd w S (.ptr d) (.pointer (some ⟨b, o, none⟩))
  | nilp : Rd w S .nilp (.pointer none)
  | nilf : Rd w S .nilf .nilFunc
  | nili : Rd w S .nili .nilIface

structure Ext (w : World) (S : Nat → Nat → Prop) (w' : World) (S' : Nat → Nat → Prop) : Prop where
  sub : ∀ b o, S b o → S' b o
  cell : ∀ b o, S b o → w'.cell? ⟨b, o, none⟩ = w.cell? ⟨b, o, none⟩

theorem Ext.refl (w S) : Ext w S w S := ⟨fun _ _ h => h, fun _ _ _ => rfl⟩
theorem Ext.trans {w S w' S' w'' S''} (h : Ext w S w' S') (h' : Ext w' S' w'' S'') : Ext w S w'' S'' :=
  ⟨fun b o k => h'.sub b o (h.sub b o k), fun b o k => (h'.cell b o (h.sub b o k)).trans (h.cell b o k)⟩

theorem Rd.mono {w S w' S'} (h : Ext w S w' S') {d v} (r : Rd w S d v) : Rd w' S' d v := by
  induction r with
  | bool b => exact .bool b
  | int k n => exact .int k n
  | flt k b => exact .flt k b
  | cpx k r i => exact .cpx k r i
  | str s => exact .str s
  | nils sz => exact .nils sz
  | slc sz es b o cap c hc hs hz hr ha ih =>
    exact .slc sz es b o cap c hc (fun i hi => ⟨h.sub _ _ (hs i hi).1, (h.cell _ _ (hs i hi).1).trans (hs i hi).2⟩) hz ih ha
  | agg cs vs hl hr ha ih => exact .agg cs vs hl ih ha
  | tup cs vs hl hr ih => exact .tup cs vs hl ih
  | func f first cap vf vc hf hc hrf hrc ih1 ih2 => exact .func f first cap vf vc hf hc ih1 ih2
  | iface t x v h ih => exact .iface t x v ih
  | ptr d b o c hs hr ha ih => exact .ptr d b o c (fun j hj => ⟨h.sub _ _ (hs j hj).1, (h.cell _ _ (hs j hj).1).trans (hs j hj).2⟩) ih ha
  | nilp => exact .nilp
  | nilf => exact .nilf
  | nili => exact .nili

def RdMem (w : World) (S : Nat → Nat → Prop) (d : IV) (b o : Nat) : Prop :=
  ∀ (j : Nat) (x : IV), d.cells[j]? = some x → S b (o + j) ∧ ∃ v, w.cell? ⟨b, o + j, none⟩ = some v ∧ v.oneCell' = true ∧ Rd w S x v

theorem RdMem.ptr {w : World} {S : Nat → Nat → Prop} {d : IV} {b o : Nat} (h : RdMem w S d b o) : Rd w S (.ptr d) (.pointer (some ⟨b, o, none⟩)) := by
  have k : ∀ j : Nat, ∃ v : Value, ∀ x, d.cells[j]? = some x → w.cell? ⟨b, o + j, none⟩ = some v ∧ v.oneCell' = true ∧ Rd w S x v := by
    intro j
    cases hx : d.cells[j]? with
    | none => exact ⟨.bool true, fun x hx' => by cases hx'⟩
    | some x =>
      obtain ⟨_, v, h1, h2, h3⟩ := h j x hx
      exact ⟨v, fun y hy => by cases hy; exact ⟨h1, h2, h3⟩⟩
  have g : ∀ j, j < d.cells.length → ∃ x, d.cells[j]? = some x := fun j hj => ⟨d.cells[j], by simp [hj]⟩
  refine .ptr d b o (fun j => Classical.choose (k j)) (fun j hj => ?_) (fun j x hx => ?_) (fun j hj => ?_)
  · obtain ⟨x, hx⟩ := g j hj
    exact ⟨(h j x hx).1, (Classical.choose_spec (k j) x hx).1⟩
  · exact (Classical.choose_spec (k j) x hx).2.2
  · obtain ⟨x, hx⟩ := g j hj
    exact (Classical.choose_spec (k j) x hx).2.1

theorem Rd.ptr_inv {w : World} {S : Nat → Nat → Prop} {d : IV} {v : Value} (h : Rd w S (.ptr d) v) : ∃ b o, v = .pointer (some ⟨b, o, none⟩) ∧ RdMem w S d b o := by
  cases h with
  | ptr _ b o c hs hr ha =>
    refine ⟨b, o, rfl, fun j x hx => ?_⟩
    have hj := (List.getElem?_eq_some_iff.1 hx).1
    exact ⟨(hs j hj).1, c j, (hs j hj).2, ha j hj, hr j x hx⟩

theorem RdMem.mono {w S w' S'} (h : Ext w S w' S') {d b o} (r : RdMem w S d b o) : RdMem w' S' d b o := by
  intro j x hj
  obtain ⟨hs, v, hv, h1, hr⟩ := r j x hj
  exact ⟨h.sub _ _ hs, v, (h.cell _ _ hs).trans hv, h1, hr.mono h⟩

inductive Rl (w : World) (S : Nat → Nat → Prop) (rho : Nat → Nat) (tau : Nat → Value) : DV → Value → Prop where
  | undef (v) : Rl w S rho tau .undef v
  | imm (d v) (h : Rd w S d v) : Rl w S rho tau (.imm d) v
  | ref (id off) : Rl w S rho tau (.ref id off) (.pointer (some ⟨rho id, off, none⟩))
  | pim (d b o) (h : RdMem w S d b o) : Rl w S rho tau (.pim d) (.pointer (some ⟨b, o, none⟩))
  | vec (id off n cap a) (h : n ≤ cap) (ha : n ≠ 0 → a = some ⟨rho id, off, none⟩) (hz : (a = none ∧ cap = 0) ∨ ∃ b o, a = some ⟨b, o, none⟩) : Rl w S rho tau (.vec id off n) (.slice a n cap)
  | own (t) : Rl w S rho tau (.own t) (tau t)
  | cap0 (sz es v a) (h : Rd w S (.slc sz es) v) (hv : v = .slice a es.length es.length) : Rl w S rho tau (.cap0 sz es) v
  | agg (cs : List DV) (vs : List Value) (hl : vs.length = cs.length)
      (hr : ∀ (i : Nat) (x : DV) (v : Value), cs[i]? = some x → vs[i]? = some v → Rl w S rho tau x v)
      (ha : ∀ (i : Nat) (v : Value), vs[i]? = some v → v.oneCell' = true) : Rl w S rho tau (.agg cs) (.agg vs.toArray)
  | fn (f) (first cap : List DV) (vf vc : List Value) (hf : vf.length = first.length) (hc : vc.length = cap.length)
      (hrf : ∀ (i : Nat) (x : DV) (v : Value), first[i]? = some x → vf[i]? = some v → Rl w S rho tau x v)
      (hrc : ∀ (i : Nat) (x : DV) (v : Value), cap[i]? = some x → vc[i]? = some v → Rl w S rho tau x v) :
      Rl w S rho tau (.fn f first cap) (.func (.func f) vf.toArray vc.toArray)
  | yld (l) : Rl w S rho tau (.yld l) (.func (.yield l) #[] #[])
  | nils (sz) : Rl w S rho tau (.nils sz) (.slice none 0 0)

theorem Rl.mono {w S w' S' rho tau} (h : Ext w S w' S') {d v} (r : Rl w S rho tau d v) : Rl w' S' rho tau d v := by
  induction r with
  | undef v => exact .undef v
  | imm d v k => exact .imm d v (k.mono h)
  | ref id off => exact .ref id off
  | pim d b o k => exact .pim d b o (k.mono h)
  | vec id off n cap a k ha hz => exact .vec id off n cap a k ha hz
  | own t => exact .own t
  | cap0 sz es v a k hv => exact .cap0 sz es v a (k.mono h) hv
  | agg cs vs hl hr ha ih => exact .agg cs vs hl ih ha
  | fn f first cap vf vc hf hc hrf hrc ih1 ih2 => exact .fn f first cap vf vc hf hc ih1 ih2
  | yld l => exact .yld l
  | nils z => exact .nils z

def DV.names (id : Nat) : DV → Bool
  | .ref i _ => i == id
  | .vec i _ _ => i == id
  | .own t => t == id
  | .agg cs => namesAll id cs
  | .fn _ a b => namesAll id a || namesAll id b
  | _ => false
where namesAll (id : Nat) : List DV → Bool
  | [] => false
  | d :: r => DV.names id d || namesAll id r

theorem DV.namesAll_get {id : Nat} : ∀ {cs : List DV}, DV.names.namesAll id cs = false → ∀ (i : Nat) (x : DV), cs[i]? = some x → x.names id = false
  | [], _, i, x, h => by simp at h
  | d :: r, hn, i, x, h => by
    simp only [DV.names.namesAll, Bool.or_eq_false_iff] at hn
    cases i with
    | zero => simp at h; subst h; exact hn.1
    | succ i => simp at h; exact DV.namesAll_get hn.2 i x h

theorem Rl.turn {w S rho tau rho' tau'} {id : Nat} (h1 : ∀ i, i ≠ id → rho' i = rho i) (h2 : ∀ i, i ≠ id → tau' i = tau i) {d v}
    (r : Rl w S rho tau d v) (hn : d.names id = false) : Rl w S rho' tau' d v := by
  induction r with
  | undef v => exact .undef v
  | imm d v k => exact .imm d v k
  | ref i off =>
    have : i ≠ id := by simpa [DV.names] using hn
    rw [← h1 i this]; exact .ref i off
  | pim d b o k => exact .pim d b o k
  | vec i off n cap a k ha hz =>
    have : i ≠ id := by simpa [DV.names] using hn
    exact .vec i off n cap a k (by rw [h1 i this]; exact ha) hz
  | own t =>
    have : t ≠ id := by simpa [DV.names] using hn
    rw [← h2 t this]; exact .own t
  | cap0 sz es v a k hv => exact .cap0 sz es v a k hv
  | agg cs vs hl hr ha ih =>
    simp only [DV.names] at hn
    exact .agg cs vs hl (fun i x v hx hv => ih i x v hx hv (DV.namesAll_get hn i x hx)) ha
  | fn f first cap vf vc hf hc hrf hrc ih1 ih2 =>
    simp only [DV.names, Bool.or_eq_false_iff] at hn
    exact .fn f first cap vf vc hf hc (fun i x v hx hv => ih1 i x v hx hv (DV.namesAll_get hn.1 i x hx)) (fun i x v hx hv => ih2 i x v hx hv (DV.namesAll_get hn.2 i x hx))
  | yld l => exact .yld l
  | nils z => exact .nils z

def RdRes (w : World) (S : Nat → Nat → Prop) (rho : Nat → Nat) (tau : Nat → Value) (id : Nat) : Res → Prop
  | .box cells => ∃ (arr : Array Value) (e : TypeId), w.heap[rho id]? = some (.cells arr e (0, 0)) ∧ arr.size = cells.length ∧
      (∀ (i : Nat) (d : DV) (v : Value), cells[i]? = some d → arr[i]? = some v → Rl w S rho tau d v) ∧ (∀ (i : Nat) (v : Value), arr[i]? = some v → v.oneCell' = true) ∧ ∀ o, ¬ S (rho id) o
  | .arr es => ∃ (arr : Array Value) (e : TypeId), w.heap[rho id]? = some (.cells arr e (0, 0)) ∧ arr.size = es.length ∧
      (∀ (i : Nat) (d : IV) (v : Value), es[i]? = some d → arr[i]? = some v → d.cells.length = 1 ∧ d.cells = [d] ∧ Rd w S d v) ∧ (∀ (i : Nat) (v : Value), arr[i]? = some v → v.oneCell' = true) ∧ ∀ o, ¬ S (rho id) o
  | .fza es => ∀ (i : Nat) (d : IV), es[i]? = some d → d.cells = [d] ∧ S (rho id) i ∧ ∃ v, w.cell? ⟨rho id, i, none⟩ = some v ∧ v.oneCell' = true ∧ Rd w S d v
  | .tok sz es => Rd w S (.slc sz es) (tau id) ∧ ((∃ a, tau id = .slice a es.length es.length) ∨
      ∃ (arr : Array Value) (e : TypeId) (cap : Nat), w.heap[rho id]? = some (.cells arr e (0, 0)) ∧ tau id = .slice (some ⟨rho id, 0, none⟩) es.length cap ∧
      cap * sz ≤ arr.size ∧ es.length < cap ∧ ∀ o, es.length * sz ≤ o → ¬ S (rho id) o)
  | .seq _ _ => True

structure St where
  env : Nat → DV
  res : Nat → Option Res

end Go.DI

/- What each operation does to the data of a call: a weakest precondition over data alone. No condition. -/
namespace Go.DI
open Go.RowKit

def IV.isTup : IV → Bool | .tup _ => true | _ => false
def IV.isAgg : IV → Bool | .agg _ => true | _ => false

def cellsOf : DV → Option (List DV)
  | .undef => none
  | .imm (.agg cs) => some (cs.map .imm)
  | .imm (.tup _) => none
  | .agg cs => some cs
  | d => some [d]

def allImm : List DV → Option (List IV)
  | [] => some []
  | .imm v :: r => match allImm r with | some vs => some (v :: vs) | none => none
  | _ :: _ => none

def mkAgg (cells : List DV) : DV := match allImm cells with | some vs => .imm (.agg vs) | none => .agg cells

def setCells (cells : List DV) (off : Nat) (cs : List DV) : List DV := cells.take off ++ (cs ++ cells.drop (off + cs.length))

mutual
def view (res : Nat → Option Res) : DV → DV
  | .own t => match res t with | some (.tok sz es) => .imm (.slc sz es) | _ => .undef
  | .vec id off n => match res id with
    | some (.fza es) => if off + n ≤ es.length then .imm (.slc 1 ((es.drop off).take n)) else .undef
    | _ => .vec id off n
  | .cap0 sz es => .imm (.slc sz es)
  | .nils sz => .imm (.slc sz [])
  | .pim v => .imm (.ptr v)
  | .ref id off => match res id with
    | some (.fza es) => .imm (.ptr (.agg (es.drop off)))
    | _ => .ref id off
  | .agg cs => mkAgg (viewAll res cs)
  | .fn f a b => match allImm (viewAll res a), allImm (viewAll res b) with | some x, some y => .imm (.func f x y) | _, _ => .fn f a b
  | d => d
def viewAll (res : Nat → Option Res) : List DV → List DV
  | [] => []
  | d :: r => view res d :: viewAll res r
end

def DV.pt : DV → DV
  | .imm (.ptr v) => .pim v
  | d => d

inductive Opd where
  | t (n : Nat)
  | c (v : IV)
  | f (n : FuncId)
  | z (sz : Nat)
  deriving Inhabited

def St.ev (st : St) : Opd → DV
  | .t n => st.env n
  | .c v => .imm v
  | .f n => .imm (.func n [] [])
  | .z sz => .cap0 sz []

structure Arg where
  raw : DV
  vw : DV
  rs : Option Res
  rv : Option Res

def resOf (res : Nat → Option Res) : DV → Option Res
  | .ref id _ => res id
  | _ => none

def resVw (res : Nat → Option Res) : DV → Option Res
  | .ref id _ => match res id with | some (.box cells) => some (.box (viewAll res cells)) | r => r
  | _ => none

def St.arg (st : St) (x : Opd) : Arg := ⟨st.ev x, view st.res (st.ev x), resOf st.res (st.ev x), resVw st.res (st.ev x)⟩

def partIV (cs : List IV) (off n : Nat) (agg : Bool) : Option IV := if agg then some (.agg ((cs.drop off).take n)) else cs[off]?
def partDV (cs : List DV) (off n : Nat) (agg : Bool) : Option DV := if agg then some (mkAgg ((cs.drop off).take n)) else cs[off]?

inductive PX where
  | bit (op : BinOp)
  | sh (op : BinOp)
  | flt (op : BinOp)
  | cpx (op : BinOp)
  | neg
  | inv
  | i2f (k : FloatKind)
  | f2i (k : IntKind)
  | cplx
  | re
  | im
  deriving Inhabited

def bitI (op : BinOp) (k : IntKind) (x y : Int) : Option Int :=
  match op with
  | .and => some (k.wrap (BitVec.ofInt k.bits x &&& BitVec.ofInt k.bits y).toNat)
  | .or => some (k.wrap (BitVec.ofInt k.bits x ||| BitVec.ofInt k.bits y).toNat)
  | .xor => some (k.wrap (BitVec.ofInt k.bits x ^^^ BitVec.ofInt k.bits y).toNat)
  | .andNot => some (k.wrap (BitVec.ofInt k.bits x &&& ~~~(BitVec.ofInt k.bits y)).toNat)
  | _ => none
def shI (op : BinOp) (k : IntKind) (x y : Int) : Option Int :=
  if y < 0 then none else match op with
  | .shl => some (k.wrap (x * 2 ^ (min y.toNat k.bits)))
  | .shr => some (x.fdiv (2 ^ (min y.toNat k.bits)))
  | _ => none
def fltA (op : BinOp) (k : FloatKind) (x y : Nat) : Option Nat :=
  match op with
  | .add => k.format.add x y
  | .sub => k.format.sub x y
  | .mul => k.format.mul x y
  | .quo => k.format.div x y
  | _ => none
def fltI (op : BinOp) (k : FloatKind) (x y : Nat) : Option IV :=
  match op with
  | .add | .sub | .mul | .quo => (fltA op k x y).map (.flt k)
  | .eql => some (.bool (k.format.order x y == some .eq))
  | .neq => some (.bool (k.format.order x y != some .eq))
  | .lss => some (.bool (k.format.order x y == some .lt))
  | .leq => some (.bool (k.format.order x y == some .lt || k.format.order x y == some .eq))
  | .gtr => some (.bool (k.format.order x y == some .gt))
  | .geq => some (.bool (k.format.order x y == some .gt || k.format.order x y == some .eq))
  | _ => none
def both (a b : Option Nat) : Option IV := match a, b with | some x, some y => some (.cpx .f64 x y) | _, _ => none
def cpxM (a b c d : Nat) : Option IV :=
  match fltA .mul .f64 a c, fltA .mul .f64 b d, fltA .mul .f64 a d, fltA .mul .f64 b c with
  | some ac, some bd, some ad, some bc => both (fltA .sub .f64 ac bd) (fltA .add .f64 ad bc)
  | _, _, _, _ => none
def cpxI (op : BinOp) (a b c d : Nat) : Option IV :=
  match op with
  | .add => both (fltA .add .f64 a c) (fltA .add .f64 b d)
  | .sub => both (fltA .sub .f64 a c) (fltA .sub .f64 b d)
  | .mul => cpxM a b c d
  | .eql => some (.bool ((FloatKind.f64.format.order a c == some .eq) && (FloatKind.f64.format.order b d == some .eq)))
  | .neq => some (.bool (!((FloatKind.f64.format.order a c == some .eq) && (FloatKind.f64.format.order b d == some .eq))))
  | _ => none
def pxI : PX → List IV → Option IV
  | .bit op, [.int k a, .int k' b] => if k = k' then (bitI op k a b).map (.int k) else none
  | .sh op, [.int k a, .int _ b] => (shI op k a b).map (.int k)
  | .flt op, [.flt k a, .flt k' b] => if k = k' then fltI op k a b else none
  | .cpx op, [.cpx .f64 a b, .cpx .f64 c d] => cpxI op a b c d
  | .neg, [.flt k a] => some (.flt k (Op.negFloat k a))
  | .neg, [.cpx k a b] => some (.cpx k (Op.negFloat k a) (Op.negFloat k b))
  | .inv, [.int k a] => (bitI .xor k (if k.signed then -1 else k.max) a).map (.int k)
  | .i2f k, [.int _ n] => some (.flt k (k.nearest n))
  | .f2i k, [.flt s b] => match (s.decode b).toInt .zero with
    | some n => if k.min ≤ n ∧ n ≤ k.max then some (.int k n) else none
    | none => none
  | .cplx, [.flt k a, .flt k' b] => if k = k' then some (.cpx k a b) else none
  | .re, [.cpx k a _] => some (.flt k a)
  | .im, [.cpx k _ b] => some (.flt k b)
  | _, _ => none

inductive Kind where
  | mov
  | movv
  | pick
  | ntok (sz : Nat)
  | alloc (zero : List DV)
  | box
  | build (zero : List DV) (parts : List (Nat × Nat))
  | bsl (sz : Nat)
  | load (agg : Bool) (n : Nat)
  | loadf (agg : Bool) (n : Nat) (ids : List Nat)
  | nilck
  | bin (op : BinOp)
  | beq (neg : Bool)
  | pnil (neg : Bool)
  | qnil (neg : Bool)
  | eqs (ks : List Bool) (neg : Bool)
  | un (op : UnOp)
  | conv (k : IntKind)
  | mkfn (f : FuncId) (first : Nat)
  | slice (sz : Nat) (lo hi : Bool)
  | sslice (lo hi : Bool)
  | slice3 (sz : Nat)
  | faddr (off : Nat) (agg : Bool) (n : Nat)
  | faddrp (off : Nat) (agg : Bool) (n : Nat)
  | field (off : Nat) (agg : Bool) (n : Nat)
  | iaddr (sz : Nat)
  | iarr (len sz : Nat) (agg : Bool)
  | index (len sz : Nat) (agg : Bool)
  | sidx
  | ext (i : Nat)
  | call
  | len
  | slen
  | alen (n : Nat)
  | mm (mx : Bool)
  | mksl (zero : IV) (bytes : Nat)
  | buildr (zero : List DV) (parts : List (Nat × Nat))
  | px (p : PX)
  | aslice (n : Nat)
  | appq (sz bytes : Nat)
  | store (n : Nat)
  | storef (n : Nat) (ids : List Nat)
  | append (sz bytes : Nat) (weak : Bool)
  | copy
  | yield
  | callb (ids : List Nat)
  | snil (neg : Bool)
  deriving Inhabited

def Kind.writes : Kind → Bool
  | .store _ | .storef .. | .append .. | .copy | .yield | .callb _ | .snil _ => true
  | _ => false

structure DO where
  dst : Option Nat
  kind : Kind
  xs : List Opd
  guard : Option (Nat × Bool) := none
  after : List Nat := []
  deriving Inhabited

def Contract (P : Program) (f : FuncId) (ds : List IV) (r : IV) : Prop :=
  (∃ fn c, P.funcs[f]? = some fn ∧ fn.body = some c ∧ (fn.name == "runtime.NumGoroutine") = false) ∧
  ∀ (w : World) (S : Nat → Nat → Prop) (vs : List Value), (∀ b o, S b o → b < w.heap.size) → vs.length = ds.length →
    (∀ (i : Nat) (d : IV) (v : Value), ds[i]? = some d → vs[i]? = some v → Rd w S d v) →
    Calls P f vs.toArray w fun e w' => ∃ v S', e = .returned v ∧ Below w.heap.size w w' ∧ (∀ b o, S b o → S' b o) ∧
      (∀ b o, S' b o → S b o ∨ w.heap.size ≤ b) ∧ (∀ b o, S' b o → b < w'.heap.size) ∧ Rd w' S' r v

abbrev Todo := Bool × Option (List (List IV))

def ghost (res : Nat → Option Res) : Option (Nat × Todo) :=
  match res 0 with
  | some (.seq l t) => some (l, t)
  | _ => none

def Res.isSeq : Res → Bool | .seq _ _ => true | _ => false
def Res.isTok : Res → Bool | .tok _ _ => true | _ => false

theorem ghost_none {res : Nat → Option Res} (h : ∀ r, res 0 = some r → r.isSeq = false) : ghost res = none := by
  unfold ghost
  split
  · rename_i l t e
    have := h _ e
    simp [Res.isSeq] at this
  · rfl

def Nm (res : Nat → Option Res) (dv : DV) : Prop := ∀ id, dv.names id = true → (res id).isSome = true

structure Moved (O : Nat → Prop) (S : Nat → Nat → Prop) (w : World) (S' : Nat → Nat → Prop) (w' : World) : Prop where
  os : w'.os = w.os
  tape : w'.tape = w.tape
  output : w'.output = w.output
  size : w.heap.size ≤ w'.heap.size
  block : ∀ k, O k → w'.heap[k]? = w.heap[k]?
  ext : Ext w S w' S'
  snew : ∀ b o, S' b o → S b o ∨ ¬ O b
  stab : (∀ b o, S b o → b < w.heap.size) → ∀ b o, S' b o → b < w'.heap.size

theorem Moved.trans {O S w S' w' S'' w''} (h : Moved O S w S' w') (k : Moved O S' w' S'' w'') : Moved O S w S'' w'' :=
  ⟨k.os.trans h.os, k.tape.trans h.tape, k.output.trans h.output, Nat.le_trans h.size k.size, fun i hi => (k.block i hi).trans (h.block i hi), h.ext.trans k.ext,
    fun b o hs => (k.snew b o hs).elim (h.snew b o) .inr, fun q => k.stab (h.stab q)⟩

theorem Moved.less {O O' S w S' w'} (h : Moved O S w S' w') (k : ∀ b, O' b → O b) : Moved O' S w S' w' :=
  ⟨h.os, h.tape, h.output, h.size, fun i hi => h.block i (k i hi), h.ext, fun b o hs => (h.snew b o hs).imp_right fun q x => q (k b x), h.stab⟩

structure Base where
  O : Nat → Prop
  inv : Option (Nat × Todo) → (Nat → Nat → Prop) → World → Prop
  lt : ∀ {g S w}, inv g S w → ∀ k, O k → k < w.heap.size
  move : ∀ {g S w S' w'}, inv g S w → Moved O S w S' w' → inv g S' w'
  lose : ∀ {g S w}, inv g S w → inv none S w
  pins : Nat → Option (Nat × Value)
  round : Option Nat
  record : ∀ {g S w l}, round = some l → inv g S w → ∃ r, w.heap[l]? = some (.loop r)

structure Core (B : Base) (st : St) (tmps : Array Value) (w : World) (S : Nat → Nat → Prop) (rho : Nat → Nat) (tau : Nat → Value) : Prop where
  inv : B.inv (ghost st.res) S w
  stab : ∀ b o, S b o → b < w.heap.size
  env : ∀ x, Rl w S rho tau (st.env x) (tmps.getD x undef)
  envC : ∀ x id, (st.env x).names id = true → (st.res id).isSome = true
  res : ∀ id r, st.res id = some r → RdRes w S rho tau id r
  resC : ∀ id cells, st.res id = some (.box cells) → ∀ d ∈ cells, ∀ id', d.names id' = true → (st.res id').isSome = true
  base : ∀ id r, st.res id = some r → Owns tau id r → ¬ B.O (rho id) ∧ rho id < w.heap.size
  dis : ∀ i j r r', st.res i = some r → st.res j = some r' → Owns tau i r → Owns tau j r' → i ≠ j → rho i ≠ rho j
  tauS : ∀ t, ∃ a n c, tau t = .slice a n c
  pin : ∀ id b, B.pins id = some b → ∃ r, st.res id = some r ∧ (rho id = b.1 ∧ tau id = b.2) ∧ r.isTok = false

structure Fam where
  ι : Type
  base : ι → Base
  round : Option Nat
  hround : ∀ i, (base i).round = round
  pins : Nat → Option (Nat × Value)
  hpins : ∀ i, (base i).pins = pins

def Fam.one (B : Base) : Fam := ⟨Unit, fun _ => B, B.round, fun _ => rfl, B.pins, fun _ => rfl⟩

structure Turned (O : Nat → Prop) (S : Nat → Nat → Prop) (w : World) (O' : Nat → Prop) (S' : Nat → Nat → Prop) (w' : World) : Prop where
  size : w.heap.size ≤ w'.heap.size
  block : ∀ k, k < w.heap.size → ¬ O k → ¬ O' k ∧ w'.heap[k]? = w.heap[k]?
  ext : Ext w S w' S'
  snew : ∀ b o, S' b o → b < w.heap.size → ¬ O b → S b o
  stab : ∀ b o, S' b o → b < w'.heap.size

def Fam.Yields (P : Program) (A : Fam) : Prop :=
  ∀ (n l : Nat) (inf : Bool) (x : List IV) (rest : List (List IV)) (i : A.ι) (S : Nat → Nat → Prop) (w : World) (us : List Value), (A.base i).inv (some (l, (inf, some (x :: rest)))) S w → (∀ b o, S b o → b < w.heap.size) → us.length = x.length →
    (∀ (k : Nat) (d : IV) (v : Value), x[k]? = some d → us[k]? = some v → Rd w S d v) →
    YieldAt Fence.wide n P l us.toArray w fun e w' => ∃ j S', Turned (A.base i).O S w (A.base j).O S' w' ∧
      ((e = .returned (.bool true) ∧ (inf = true → rest ≠ []) ∧ (A.base j).inv (some (l, (inf, some rest))) S' w') ∨ (e = .returned (.bool false) ∧ (A.base j).inv (some (l, (inf, none))) S' w'))

def St.bare (R : Nat → Option Res) : St := ⟨fun _ => .undef, R⟩
def restr (ids : List Nat) (R : Nat → Option Res) : Nat → Option Res := fun i => if ids.contains i then R i else none

def BC (P : Program) (f : FuncId) (ds : List DV) (R : Nat → Option Res) (Phi : DV → (Nat → Option Res) → Prop) : Prop :=
  (∃ fn c, P.funcs[f]? = some fn ∧ fn.body = some c ∧ (fn.name == "runtime.NumGoroutine") = false) ∧
  ∀ (A : Fam) (i : A.ι) (w : World) (S : Nat → Nat → Prop) (rho : Nat → Nat) (tau : Nat → Value) (vs : List Value), A.Yields P → A.round = none → Core (A.base i) (St.bare R) #[] w S rho tau → vs.length = ds.length →
    (∀ (k : Nat) (d : DV) (v : Value), ds[k]? = some d → vs[k]? = some v → Rl w S rho tau d v) → (∀ d ∈ ds, Nm R d) →
    Calls P f vs.toArray w fun e w' => ∃ v r j S' R' rho' tau', e = .returned v ∧ Rl w' S' rho' tau' r v ∧ Nm R' r ∧ Phi r R' ∧ Core (A.base j) (St.bare R') #[] w' S' rho' tau' ∧
      ∀ id x, R id = some x → x.isTok = false → (rho' id = rho id ∧ tau' id = tau id) ∧ ∃ x', R' id = some x' ∧ x'.isTok = false

def callee : DV → Option (FuncId × List DV × List DV)
  | .fn g a b => some (g, a, b)
  | .imm (.func g a b) => some (g, a.map .imm, b.map .imm)
  | _ => none

mutual
def DV.ok (ids : List Nat) : DV → Bool
  | .ref i _ => ids.contains i
  | .vec i _ _ => ids.contains i
  | .own t => ids.contains t
  | .agg cs => DV.okAll ids cs
  | .fn _ a b => DV.okAll ids a && DV.okAll ids b
  | _ => true
def DV.okAll (ids : List Nat) : List DV → Bool
  | [] => true
  | d :: r => DV.ok ids d && DV.okAll ids r
end

def lendOk (ids : List Nat) (res : Nat → Option Res) (ds : List DV) : Bool :=
  (ids.all fun id => match res id with
    | none | some (.tok _ _) => false
    | some (.box cells) => DV.okAll ids cells
    | _ => true) && DV.okAll ids ds

def bview (res : Nat → Option Res) : DV → DV
  | .cap0 z es => .cap0 z es
  | d => view res d

def withRes (R' R : Nat → Option Res) : Nat → Option Res := fun i => match R' i with | some r => some r | none => R i

def ClosedR (R : Nat → Option Res) : Prop := ∀ id cells, R id = some (.box cells) → ∀ c ∈ cells, Nm R c

def withSeq (R : Nat → Option Res) (l : Nat) (t : Todo) : Nat → Option Res := fun i => if i = 0 then some (.seq l t) else R i
def seqOver (l : Nat) (inf : Bool) (R : Nat → Option Res) : Prop := (inf = false ∧ R 0 = some (.seq l (inf, some []))) ∨ R 0 = some (.seq l (inf, none))

def envL (live ids : List Nat) (env : Nat → DV) : Nat → DV := fun x => if live.contains x then (if (env x).ok ids then env x else .undef) else .undef
def setPs (env : Nat → DV) : List Nat → List IV → Nat → DV
  | p :: ps, v :: vs => fun x => setPs (fun y => if y = p then .imm v else env y) ps vs x
  | _, _ => env

mutual
def DV.ren (a b : Nat) : DV → DV
  | .ref i o => .ref (if i = a then b else i) o
  | .vec i o n => .vec (if i = a then b else i) o n
  | .own t => .own (if t = a then b else t)
  | .agg cs => .agg (DV.renAll a b cs)
  | .fn f x y => .fn f (DV.renAll a b x) (DV.renAll a b y)
  | d => d
def DV.renAll (a b : Nat) : List DV → List DV
  | [] => []
  | d :: r => DV.ren a b d :: DV.renAll a b r
end
def Res.ren (a b : Nat) : Res → Res
  | .box cells => .box (DV.renAll a b cells)
  | r => r
def St.ren (st : St) (a b : Nat) : St :=
  { env := fun x => (st.env x).ren a b, res := fun i => if i = a then none else if i = b then (st.res a).map (Res.ren a b) else (st.res i).map (Res.ren a b) }

def cmpI (op : BinOp) (a b : Int) : Option Bool :=
  match op with
  | .eql => some (a == b)
  | .neq => some (a != b)
  | .lss => some (decide (a < b))
  | .leq => some (decide (a ≤ b))
  | .gtr => some (decide (b < a))
  | .geq => some (decide (b ≤ a))
  | _ => none

def binI (op : BinOp) (k : IntKind) (a b : Int) (K : DV → Prop) : Prop :=
  match op with
  | .add => K (.imm (.int k (k.wrap (a + b))))
  | .sub => K (.imm (.int k (k.wrap (a - b))))
  | .mul => K (.imm (.int k (k.wrap (a * b))))
  | .quo => b ≠ 0 ∧ K (.imm (.int k (k.wrap (a.tdiv b))))
  | .rem => b ≠ 0 ∧ K (.imm (.int k (a.tmod b)))
  | _ => match cmpI op a b with | some c => K (.imm (.bool c)) | none => False

def eqCells : List Bool → List IV → List IV → Option Bool
  | [], [], [] => some true
  | false :: ks, .int k a :: r, .int k' b :: r' => if k = k' then (match eqCells ks r r' with | some q => some ((a == b) && q) | none => none) else none
  | true :: ks, .bool a :: r, .bool b :: r' => match eqCells ks r r' with | some q => some ((a == b) && q) | none => none
  | _, _, _ => none

def fillD : List DV → List (Nat × Nat) → List Arg → Option (List DV)
  | cells, [], [] => some cells
  | cells, (off, n) :: ps, a :: as =>
    match cellsOf a.vw with
    | some cs => if cs.length = n ∧ off + n ≤ cells.length then fillD (setCells cells off cs) ps as else none
    | none => none
  | _, _, _ => none

def mmI (mx : Bool) (a b : Int) : Int := if mx then (if b > a then b else a) else (if b < a then b else a)
def mmAll (mx : Bool) (k : IntKind) : Int → List Arg → Option Int
  | a, [] => some a
  | a, x :: r => match x.vw with
    | .imm (.int k' b) => if k' = k then mmAll mx k (mmI mx a b) r else none
    | _ => none

def addrIn (ids : List Nat) : List Arg → Bool
  | [x] => match x.raw.pt with | .ref id _ => ids.contains id | .pim _ => true | _ => false
  | _ => false
def refIn (ids : List Nat) : DV → Bool
  | .ref id _ => ids.contains id
  | _ => false

def isNilP : DV → Option Bool
  | .imm .nilp => some true
  | .imm (.ptr _) => some false
  | .ref _ _ => some false
  | .pim _ => some false
  | _ => none

section
variable (K : DV → Option Res → Prop)

def semMov : List Arg → Prop
  | [x] => K x.raw none
  | _ => False
def semMovv : List Arg → Prop
  | [x] => K x.vw none
  | _ => False
def semPick : List Arg → Prop
  | [c, a, b] => match c.vw with
    | .imm (.bool t) => K (if t then a.raw else b.raw) none
    | _ => False
  | _ => False
def semNtok (d sz : Nat) : List Arg → Prop
  | [x] => match x.raw with
    | .imm (.slc _ []) => K (.own d) (some (.tok sz []))
    | _ => False
  | _ => False
def semAlloc (d : Nat) (zero : List DV) : List Arg → Prop
  | [] => K (.ref d 0) (some (.box zero))
  | _ => False
def semBox (d : Nat) : List Arg → Prop
  | [x] => match cellsOf x.raw with
    | some cs => K (.ref d 0) (some (.box cs))
    | none => False
  | _ => False
def semBuild (zero : List DV) (parts : List (Nat × Nat)) (as : List Arg) : Prop :=
  match fillD zero parts as with
  | some cells => K (mkAgg cells) none
  | none => False
def Arg.up (a : Arg) : Arg := ⟨a.raw, a.raw, a.rs, a.rv⟩
def semBuildr (zero : List DV) (parts : List (Nat × Nat)) (as : List Arg) : Prop := semBuild K zero parts (as.map Arg.up)
def optK (x : Option IV) : Prop := match x with | some v => K (.imm v) none | none => False
def optP (p : PX) (x : Option (List IV)) : Prop := match x with | some vs => optK K (pxI p vs) | none => False
def semPx (p : PX) (as : List Arg) : Prop := optP K p (allImm (as.map (·.vw)))
def semAslice (n : Nat) : List Arg → Prop
  | [x] => match x.vw with
    | .imm (.ptr (.agg cs)) => cs.length = n ∧ (cs.all fun v => !v.isAgg && !v.isTup) = true ∧ K (.imm (.slc 1 cs)) none
    | _ => False
  | _ => False
def semAppq (sz bytes : Nat) : List Arg → Prop
  | [x, y] => match x.raw, y.vw with
    | .cap0 z' es, .imm (.slc z ys) => z = sz ∧ z' = sz ∧ (es.length + ys.length) * bytes ≤ 140737488355328 ∧ es.length + ys.length ≤ 9223372036854775807 ∧ K (.imm (.slc sz (es ++ ys))) none
    | _, _ => False
  | _ => False
def semBsl (sz : Nat) (as : List Arg) : Prop :=
  match allImm (as.map (·.vw)) with
  | some es => (es.all fun e => e.cells.length == sz && !e.isTup) = true ∧ K (.cap0 sz es) none
  | none => False
def loadI : IV → Prop
  | .agg cs => match cs[0]? with | some c => c.isAgg = false ∧ c.isTup = false ∧ K (.imm c) none | none => False
  | .tup _ => False
  | v => K (.imm v) none
def semLoad (agg : Bool) (n : Nat) : List Arg → Prop
  | [x] => match x.raw.pt with
    | .ref _ off => match x.rv with
      | some (.box cells) => if agg then off + n ≤ cells.length ∧ K (mkAgg ((cells.drop off).take n)) none
        else match x.rs with
          | some (.box cs) => match cs[off]? with | some c => K c none | none => False
          | _ => False
      | some (.arr es) => agg = false ∧ off < es.length ∧ K (.imm (es.getD off .nilp)) none
      | some (.fza es) => if agg then off + n ≤ es.length ∧ K (.imm (.agg ((es.drop off).take n))) none else off < es.length ∧ K (.imm (es.getD off .nilp)) none
      | _ => False
    | .pim v => if agg then (match v with | .agg cs => n ≤ cs.length ∧ K (.imm (.agg (cs.take n))) none | _ => False)
      else loadI K v
    | _ => False
  | _ => False
def semLoadf (agg : Bool) (n : Nat) (ids : List Nat) (as : List Arg) : Prop := addrIn ids as = true ∧ semLoad K agg n as
def semNilck : List Arg → Prop
  | [x] => match x.raw.pt with
    | .ref i o => K (.ref i o) none
    | .pim v => K (.pim v) none
    | .imm (.func f a b) => K (.imm (.func f a b)) none
    | .fn f a b => K (.fn f a b) none
    | _ => False
  | _ => False
def semBin (op : BinOp) : List Arg → Prop
  | [x, y] => match x.vw, y.vw with
    | .imm (.int k a), .imm (.int k' b) => k = k' ∧ binI op k a b (fun r => K r none)
    | .imm (.str a), .imm (.str b) => match op with
      | .eql => K (.imm (.bool (a == b))) none
      | .neq => K (.imm (.bool (!(a == b)))) none
      | .add => a.size + b.size ≤ maxLen ∧ K (.imm (.str (a ++ b))) none
      | _ => False
    | _, _ => False
  | _ => False
def semBeq (neg : Bool) : List Arg → Prop
  | [x, y] => match x.vw, y.vw with
    | .imm (.bool a), .imm (.bool b) => K (.imm (.bool (if neg then !(a == b) else a == b))) none
    | _, _ => False
  | _ => False
def isNilS (r v : DV) : Option Bool := match r with
  | .nils _ => some true
  | _ => match v with
    | .imm (.slc _ (_ :: _)) => some false
    | _ => none
def semQnil (neg : Bool) : List Arg → Prop
  | [x, _] => match isNilS x.raw x.vw with
    | some b => K (.imm (.bool (if neg then !b else b))) none
    | none => False
  | _ => False
def semPnil (neg : Bool) : List Arg → Prop
  | [x, y] => match isNilP x.vw, y.vw with
    | some b, .imm .nilp => K (.imm (.bool (if neg then !b else b))) none
    | _, _ => False
  | _ => False
def semEqs (ks : List Bool) (neg : Bool) : List Arg → Prop
  | [x, y] => match x.vw, y.vw with
    | .imm (.agg a), .imm (.agg b) => match eqCells ks a b with
      | some q => K (.imm (.bool (if neg then !q else q))) none
      | none => False
    | _, _ => False
  | _ => False
def semUn (op : UnOp) : List Arg → Prop
  | [x] => match op, x.vw with
    | .not, .imm (.bool b) => K (.imm (.bool (!b))) none
    | .neg, .imm (.int k n) => K (.imm (.int k (k.wrap (0 - n)))) none
    | _, _ => False
  | _ => False
def semConv (k : IntKind) : List Arg → Prop
  | [x] => match x.vw with
    | .imm (.int _ n) => K (.imm (.int k (k.wrap n))) none
    | _ => False
  | _ => False
def semMkfn (f : FuncId) (nf : Nat) (as : List Arg) : Prop :=
  nf ≤ as.length ∧ match allImm (as.map (·.vw)) with
  | some vs => K (.imm (.func f (vs.take nf) (vs.drop nf))) none
  | none => K (.fn f ((as.map (·.raw)).take nf) ((as.map (·.raw)).drop nf)) none
def bounds (lo hi : Bool) (len : Nat) : List Arg → Option (Int × Int)
  | [] => if lo || hi then none else some (0, len)
  | [x] => match x.vw with
    | .imm (.int _ i) => match lo, hi with | true, false => some (i, len) | false, true => some (0, i) | _, _ => none
    | _ => none
  | [x, y] => match x.vw, y.vw with
    | .imm (.int _ l), .imm (.int _ h) => if lo && hi then some (l, h) else none
    | _, _ => none
  | _ => none
def semSlice (sz : Nat) (lo hi : Bool) : List Arg → Prop
  | [] => False
  | x :: bs => match x.vw with
    | .imm (.slc z es) => match bounds lo hi es.length bs with
      | some (l, h) => z = sz ∧ 0 ≤ l ∧ l ≤ h ∧ h ≤ es.length ∧ K (.imm (.slc sz ((es.take h.toNat).drop l.toNat))) none
      | none => False
    | .vec id off n => match bounds lo hi n bs with
      | some (l, h) => sz = 1 ∧ 0 ≤ l ∧ l ≤ h ∧ h ≤ n ∧ K (.vec id (off + l.toNat) (h.toNat - l.toNat)) none
      | none => False
    | _ => False
def semSslice (lo hi : Bool) : List Arg → Prop
  | [] => False
  | x :: bs => match x.vw with
    | .imm (.str s) => match bounds lo hi s.size bs with
      | some (l, h) => 0 ≤ l ∧ l ≤ h ∧ h ≤ s.size ∧ K (.imm (.str (s.extract l.toNat h.toNat))) none
      | none => False
    | _ => False
def semSlice3 (sz : Nat) : List Arg → Prop
  | [x, l, h, m] => match x.vw, l.vw, h.vw, m.vw with
    | .imm (.slc z es), .imm (.int _ l), .imm (.int _ h), .imm (.int _ m) => z = sz ∧ 0 ≤ l ∧ l ≤ h ∧ h = m ∧ m ≤ es.length ∧ K (.cap0 sz ((es.take h.toNat).drop l.toNat)) none
    | _, _, _, _ => False
  | _ => False
def semPim (cs : List IV) (off n : Nat) (agg : Bool) : Prop :=
  match partIV cs off n agg with
  | some v => (agg = true → off + n ≤ cs.length) ∧ v.isTup = false ∧ (agg = false → v.isAgg = false) ∧ K (.pim v) none
  | none => False
def semFaddr (off : Nat) (agg : Bool) (n : Nat) : List Arg → Prop
  | [x] => match x.raw.pt with
    | .ref i o => K (.ref i (o + off)) none
    | .pim (.agg cs) => semPim K cs off n agg
    | _ => False
  | _ => False
def semFaddrp (off : Nat) (agg : Bool) (n : Nat) (as : List Arg) : Prop := addrIn [] as = true ∧ semFaddr K off agg n as
def semField (off : Nat) (agg : Bool) (n : Nat) : List Arg → Prop
  | [x] => match x.vw with
    | .imm (.agg cs) => match partIV cs off n agg with
      | some v => (agg = true → off + n ≤ cs.length) ∧ K (.imm v) none
      | none => False
    | .agg cs => match partDV cs off n agg with
      | some v => (agg = true → off + n ≤ cs.length) ∧ K v none
      | none => False
    | _ => False
  | _ => False
def semIaddr (sz : Nat) : List Arg → Prop
  | [x, i] => match x.vw, i.vw with
    | .imm (.slc z es), .imm (.int _ i) => z = sz ∧ 0 ≤ i ∧ i < es.length ∧ K (.pim (es.getD i.toNat .nilp)) none
    | .vec id off n, .imm (.int _ i) => sz = 1 ∧ 0 ≤ i ∧ i < n ∧ K (.ref id (off + i.toNat)) none
    | _, _ => False
  | _ => False
def semIarr (len sz : Nat) (agg : Bool) : List Arg → Prop
  | [x, i] => match x.raw.pt, i.vw with
    | .ref id o, .imm (.int _ i) => 0 ≤ i ∧ i < len ∧ K (.ref id (o + i.toNat * sz)) none
    | .pim (.agg cs), .imm (.int _ i) => 0 ≤ i ∧ i < len ∧ semPim K cs (i.toNat * sz) sz agg
    | _, _ => False
  | _ => False
def semIndex (len sz : Nat) (agg : Bool) : List Arg → Prop
  | [x, i] => match x.vw, i.vw with
    | .imm (.agg cs), .imm (.int _ i) => 0 ≤ i ∧ i < len ∧ (match partIV cs (i.toNat * sz) sz agg with
      | some v => (agg = true → i.toNat * sz + sz ≤ cs.length) ∧ K (.imm v) none
      | none => False)
    | .agg cs, .imm (.int _ i) => 0 ≤ i ∧ i < len ∧ (match partDV cs (i.toNat * sz) sz agg with
      | some v => (agg = true → i.toNat * sz + sz ≤ cs.length) ∧ K v none
      | none => False)
    | _, _ => False
  | _ => False
def semSidx : List Arg → Prop
  | [x, i] => match x.vw, i.vw with
    | .imm (.str s), .imm (.int _ i) => 0 ≤ i ∧ i < s.size ∧ K (.imm (.int .u8 (s.data.toList.getD i.toNat 0).toNat)) none
    | _, _ => False
  | _ => False
def semExt (i : Nat) : List Arg → Prop
  | [x] => match x.vw with
    | .imm (.tup vs) => match vs[i]? with | some v => K (.imm v) none | none => False
    | _ => False
  | _ => False
def semCall (P : Program) : List Arg → Prop
  | [] => False
  | f :: as => match f.vw with
    | .imm (.func g first cap) => match allImm (as.map (·.vw)) with
      | some ds => ∃ r, Contract P g (first ++ ds ++ cap) r ∧ K (.imm r) none
      | none => False
    | _ => False
def semLen : List Arg → Prop
  | [x] => match x.vw with
    | .imm (.slc _ es) => K (.imm (.int .i64 es.length)) none
    | .vec _ _ n => K (.imm (.int .i64 n)) none
    | _ => False
  | _ => False
def semSlen : List Arg → Prop
  | [x] => match x.vw with
    | .imm (.str s) => K (.imm (.int .i64 s.size)) none
    | _ => False
  | _ => False
def semAlen (n : Nat) : List Arg → Prop
  | [_] => K (.imm (.int .i64 n)) none
  | _ => False
def semMm (mx : Bool) : List Arg → Prop
  | [] => False
  | x :: r => match x.vw with
    | .imm (.int k a) => match mmAll mx k a r with | some m => K (.imm (.int k m)) none | none => False
    | _ => False
def semMksl (d : Nat) (zero : IV) (bytes : Nat) : List Arg → Prop
  | [l, c] => match l.vw, c.vw with
    | .imm (.int k a), .imm (.int k' b) => k = k' ∧ a = b ∧ 0 ≤ a ∧ a * bytes ≤ 140737488355328 ∧ a ≤ 9223372036854775807 ∧ K (.vec d 0 a.toNat) (some (.arr (List.replicate a.toNat zero)))
    | _, _ => False
  | _ => False
end

def sem (P : Program) (d : Nat) (kind : Kind) (args : List Arg) (K : DV → Option Res → Prop) : Prop :=
  match kind with
  | .mov => semMov K args
  | .movv => semMovv K args
  | .pick => semPick K args
  | .ntok sz => semNtok K d sz args
  | .alloc zero => semAlloc K d zero args
  | .box => semBox K d args
  | .build zero parts => semBuild K zero parts args
  | .bsl sz => semBsl K sz args
  | .load agg n => semLoad K agg n args
  | .loadf agg n ids => semLoadf K agg n ids args
  | .nilck => semNilck K args
  | .bin op => semBin K op args
  | .eqs ks neg => semEqs K ks neg args
  | .beq neg => semBeq K neg args
  | .pnil neg => semPnil K neg args
  | .qnil neg => semQnil K neg args
  | .un op => semUn K op args
  | .conv k => semConv K k args
  | .mkfn f nf => semMkfn K f nf args
  | .slice sz lo hi => semSlice K sz lo hi args
  | .sslice lo hi => semSslice K lo hi args
  | .slice3 sz => semSlice3 K sz args
  | .faddr off agg n => semFaddr K off agg n args
  | .faddrp off agg n => semFaddrp K off agg n args
  | .field off agg n => semField K off agg n args
  | .iaddr sz => semIaddr K sz args
  | .iarr len sz agg => semIarr K len sz agg args
  | .index len sz agg => semIndex K len sz agg args
  | .sidx => semSidx K args
  | .ext i => semExt K i args
  | .call => semCall K P args
  | .len => semLen K args
  | .slen => semSlen K args
  | .alen n => semAlen K n args
  | .mm mx => semMm K mx args
  | .mksl zero bytes => semMksl K d zero bytes args
  | .buildr zero parts => semBuildr K zero parts args
  | .px p => semPx K p args
  | .aslice n => semAslice K n args
  | .appq sz bytes => semAppq K sz bytes args
  | .store _ | .storef .. | .append .. | .copy | .yield | .callb _ | .snil _ => False

def St.put (st : St) (dst : Option Nat) (v : DV) (nr : Option Res) : St :=
  match dst with
  | some d => { env := fun x => if x = d then v else st.env x, res := match nr with | some r => fun i => if i = d then some r else st.res i | none => st.res }
  | none => st

def St.setRes (st : St) (id : Nat) (r : Res) : St := { st with res := fun i => if i = id then some r else st.res i }

mutual
def strip (t : Nat) (v : IV) : DV → DV
  | .own u => if u = t then .imm v else .own u
  | .ref i o => if i = t then .undef else .ref i o
  | .vec i o n => if i = t then .undef else .vec i o n
  | .agg cs => .agg (stripAll t v cs)
  | .fn f a b => .fn f (stripAll t v a) (stripAll t v b)
  | d => d
def stripAll (t : Nat) (v : IV) : List DV → List DV
  | [] => []
  | d :: r => strip t v d :: stripAll t v r
end
def stripRes (t : Nat) (v : IV) : Res → Res
  | .box cells => .box (stripAll t v cells)
  | r => r

def semSt (d : Option Nat) (n : Nat) (xs : List Opd) (st : St) (K : St → Prop) : Prop :=
  match xs with
  | [a, x] => match st.ev a with
    | .ref id off => match st.res id with
      | some (.box cells) => match cellsOf (st.ev x) with
        | some cs => cs.length = n ∧ off + n ≤ cells.length ∧ d = none ∧ K (st.setRes id (.box (setCells cells off cs)))
        | none => False
      | some (.arr es) => match view st.res (st.ev x) with
        | .imm v => n = 1 ∧ off < es.length ∧ v.isAgg = false ∧ v.isTup = false ∧ d = none ∧ K (st.setRes id (.arr (es.set off v)))
        | _ => False
      | _ => False
    | _ => False
  | _ => False

def semW (P : Program) (d : Option Nat) (kind : Kind) (xs : List Opd) (st : St) (K : St → Prop) : Prop :=
  match kind, xs with
  | .store n, xs => semSt d n xs st K
  | .storef n ids, a :: xs => refIn ids (st.ev a) = true ∧ semSt d n (a :: xs) st K
  | .append sz bytes weak, [x, y] => match st.ev x, view st.res (st.ev y) with
    | .own t, .imm (.slc z ys) => match st.res t with
      | some (.tok z' es) => z = sz ∧ z' = sz ∧ (es.length + ys.length) * bytes ≤ 140737488355328 ∧ es.length + ys.length ≤ 9223372036854775807 ∧
          K (St.put { env := fun i => strip t (.slc sz es) (st.env i), res := fun i => if i = t then some (.tok sz (es ++ ys)) else (st.res i).map (stripRes t (.slc sz es)) } d (.own t) none)
      | _ => False
    | .cap0 z' es, .imm (.slc z ys) => z = sz ∧ z' = sz ∧ (es.length + ys.length) * bytes ≤ 140737488355328 ∧ es.length + ys.length ≤ 9223372036854775807 ∧
        (match d with
         | some d => if weak then K (st.put (some d) (.imm (.slc sz (es ++ ys))) none) else st.res d = none ∧ K (st.put (some d) (.own d) (some (.tok sz (es ++ ys))))
         | none => False)
    | .imm (.slc z' []), .imm (.slc z []) => z = sz ∧ z' = sz ∧ K (st.put d (.imm (.slc sz [])) none)
    | _, _ => False
  | .copy, [x, y] => match st.ev x, view st.res (st.ev y) with
    | .vec id off n, .imm (.slc z ys) => match st.res id with
      | some (.arr es) => z = 1 ∧ off + n ≤ es.length ∧ (ys.all fun v => !v.isAgg) = true ∧
          K ((st.setRes id (.arr (es.take off ++ (ys.take n ++ es.drop (off + min n ys.length))))).put d (.imm (.int .i64 (min n ys.length : Nat))) none)
      | _ => False
    | _, _ => False
  | .yield, f :: ys => match view st.res (st.ev f), st.res 0 with
    | .yld l, some (.seq l' (inf, some (x :: rest))) => l' = l ∧ (ys.map fun y => view st.res (st.ev y)) = x.map .imm ∧
        ((inf = true → rest ≠ []) → K ((st.setRes 0 (.seq l (inf, some rest))).put d (.imm (.bool true)) none)) ∧ K ((st.setRes 0 (.seq l (inf, none))).put d (.imm (.bool false)) none)
    | _, _ => False
  | .snil neg, [x, _] => match st.ev x with
    | .nils _ => K (st.put d (.imm (.bool (!neg))) none)
    | dv => match view st.res dv with
      | .imm (.slc _ es) => (es = [] → K (st.put d (.imm (.bool (!neg))) none)) ∧ K (st.put d (.imm (.bool neg)) none)
      | _ => False
  | .callb ids, f :: ys => match callee (view st.res (st.ev f)) with
    | some (g, first, cap) => ∃ Phi, BC P g (first ++ (ys.map fun y => bview st.res (st.ev y)) ++ cap) (restr ids st.res) Phi ∧ lendOk ids st.res (first ++ (ys.map fun y => bview st.res (st.ev y)) ++ cap) = true ∧ (ids.contains 0 || (ghost st.res).isNone) = true ∧
        ∀ r R', Phi r R' → ClosedR R' → Nm R' r → (∀ id, (R' id).isSome = true → ids.contains id = true ∨ st.res id = none) ∧ K (St.put { st with res := withRes R' st.res } d r none)
    | none => False
  | _, _ => False

def wpDO (P : Program) (o : DO) (st : St) (K : St → Prop) : Prop :=
  if o.kind.writes then semW P o.dst o.kind o.xs st K
  else sem P (o.dst.getD 0) o.kind (o.xs.map st.arg) fun v nr =>
    (nr.isSome = true → ∃ d, o.dst = some d ∧ st.res d = none) ∧ K (st.put o.dst v nr)

def gval : DV → Option (Option Bool)
  | .imm (.bool b) => some (some b)
  | .imm (.tup []) => some none
  | _ => none

def skipV : DV := .imm (.tup [])

def wpG (P : Program) (o : DO) (st : St) (K : St → Prop) : Prop :=
  match o.guard with
  | none => wpDO P o st K
  | some (g, want) => match gval (st.env g) with
    | some b => (b = some want → wpDO P o st K) ∧ (b ≠ some want → K (st.put o.dst skipV none))
    | none => False

def wpR (P : Program) : List DO → St → (St → Prop) → Prop
  | [], st, K => K st
  | o :: r, st, K => wpG P o st fun st' => wpR P r st' K

inductive DCode where
  | skip
  | region (ops : List DO) (draw : Bool)
  | seq (a b : DCode)
  | cond (c : Opd) (a b : DCode)
  | block (id : Nat) (a : DCode)
  | loop (a : DCode)
  | exit (id : Nat)
  | ret
  | keep (live : List Nat) (ids : List Nat) (a : DCode)
  | freeze (ids : List Nat) (a : DCode)
  | ren (a b : Nat) (c : DCode)
  | settle (ids : List Nat) (a : DCode)
  | dead
  | mktok (b off t sz : Nat) (c : DCode)
  | rangeF (g : Opd) (ps live ids its kids : List Nat) (assign body : DCode)
  deriving Inhabited

inductive Ex where
  | normal
  | exit (id : Nat)
  | ret

def DV.keep (ids : List Nat) (d : DV) : DV := if d.ok ids then d else .undef
def Res.keep (ids : List Nat) : Res → Res
  | .box cells => .box (cells.map (DV.keep ids))
  | r => r
def keepRes (ids : List Nat) (R : Nat → Option Res) : Nat → Option Res := fun i => if ids.contains i then (R i).map (Res.keep ids) else none
def St.keep (st : St) (live ids : List Nat) : St :=
  { env := fun x => if live.contains x then (st.env x).keep ids else .undef, res := fun i => if ids.contains i then (st.res i).map (Res.keep ids) else none }

def Res.frz : Res → Res
  | .arr es => .fza es
  | .box cs => match allImm cs with
    | some es => if es.all (fun v => !v.isAgg && !v.isTup) then .fza es else .box cs
    | none => .box cs
  | r => r
def St.frz (st : St) (ids : List Nat) : St := { st with res := fun i => if ids.contains i then (st.res i).map Res.frz else st.res i }

def sealed (ids : List Nat) (R : Nat → Option Res) (i : Nat) : Bool := ids.contains i && (match R i with | some (.fza _) => true | _ => false)
def sealRef (i o : Nat) : Option Res → DV
  | some (.fza es) => .pim (.agg (es.drop o))
  | _ => .ref i o
def sealVec (i o n : Nat) : Option Res → DV
  | some (.fza es) => if o + n ≤ es.length then .imm (.slc 1 ((es.drop o).take n)) else .undef
  | _ => .vec i o n
mutual
def DV.seal (ids : List Nat) (R : Nat → Option Res) : DV → DV
  | .ref i o => if ids.contains i then sealRef i o (R i) else .ref i o
  | .vec i o n => if ids.contains i then sealVec i o n (R i) else .vec i o n
  | .own t => if sealed ids R t then .undef else .own t
  | .agg cs => .agg (DV.sealAll ids R cs)
  | .fn f a b => .fn f (DV.sealAll ids R a) (DV.sealAll ids R b)
  | d => d
def DV.sealAll (ids : List Nat) (R : Nat → Option Res) : List DV → List DV
  | [] => []
  | d :: r => DV.seal ids R d :: DV.sealAll ids R r
end
def Res.seal (ids : List Nat) (R : Nat → Option Res) : Res → Res
  | .box cells => .box (DV.sealAll ids R cells)
  | r => r
def St.seal (st : St) (ids : List Nat) : St :=
  { env := fun x => (st.env x).seal ids st.res, res := fun i => if sealed ids st.res i then none else (st.res i).map (Res.seal ids st.res) }
def St.settle (st : St) (ids : List Nat) : St := (st.frz ids).seal ids

def tokAt : List DV → Nat → Nat → Bool
  | .cap0 z _ :: _, 0, sz => z == sz
  | _ :: r, n + 1, sz => tokAt r n sz
  | _, _, _ => false
def tokEs : List DV → Nat → List IV
  | .cap0 _ es :: _, 0 => es
  | _ :: r, n + 1 => tokEs r n
  | _, _ => []
def resEs (off : Nat) : Option Res → List IV
  | some (.box cells) => tokEs cells off
  | _ => []
def Res.setCell (off t : Nat) : Res → Res
  | .box cells => .box (cells.set off (.own t))
  | r => r
def St.mktok (st : St) (b off t sz : Nat) : St :=
  { st with res := fun i => if i = t then some (.tok sz (resEs off (st.res b))) else if i = b then (st.res b).map (Res.setCell off t) else st.res i }

def wpD (P : Program) : DCode → (Ex → St → Prop) → St → Prop
  | .skip, Q, st => Q .normal st
  | .region ops _, Q, st => wpR P ops st (Q .normal)
  | .seq a b, Q, st => wpD P a (fun e s => match e with | .normal => wpD P b Q s | e => Q e s) st
  | .cond c a b, Q, st => match view st.res (st.ev c) with
    | .imm (.bool t) => (t = true → wpD P a Q st) ∧ (t = false → wpD P b Q st)
    | _ => False
  | .block id a, Q, st => wpD P a (fun e s => match e with | .exit i => if i = id then Q .normal s else Q (.exit i) s | e => Q e s) st
  | .loop a, Q, st => ∀ X : St → Prop, (∀ s, wpD P a (fun e s' => match e with | .normal => X s' | e => Q e s') s → X s) → X st
  | .exit id, Q, st => Q (.exit id) st
  | .ret, Q, st => Q .ret st
  | .keep live ids a, Q, st => wpD P a Q (st.keep live ids)
  | .freeze ids a, Q, st => wpD P a Q (st.frz ids)
  | .dead, _, _ => False
  | .settle ids a, Q, st => wpD P a (fun e s => Q e (s.settle ids)) st
  | .mktok b off t sz c, Q, st => (match st.res b with | some (.box cells) => tokAt cells off sz = true | _ => False) ∧ st.res t = none ∧ wpD P c Q (st.mktok b off t sz)
  | .ren a b c, Q, st => st.res b = none ∧ a ≠ 0 ∧ b ≠ 0 ∧ wpD P c Q (st.ren a b)
  | .rangeF g ps live ids its kids assign body, Q, st => ∃ (gf : FuncId) (first caps : List DV), callee (view st.res (st.ev g)) = some (gf, first, caps) ∧ lendOk its st.res (first ++ caps) = true ∧
      (ids.all fun id => !its.contains id && (match st.res id with | some r => !r.isTok | none => false)) = true ∧ its.contains 0 = false ∧
      ∃ (xs : List (List IV)) (inf : Bool) (I : Nat → (Nat → Option Res) → Prop),
        (∀ l, BC P gf (first ++ .yld l :: caps) (withSeq (restr its st.res) l (inf, some xs)) fun _ R' => seqOver l inf R') ∧ (∀ x ∈ xs, x.length = ps.length) ∧ I 0 (keepRes kids st.res) ∧
        (∀ n x R, xs[n]? = some x → I n R → wpD P assign (fun e s => e = .normal ∧ wpD P body (fun e s' => match e with
            | .normal => I (n + 1) (keepRes kids s'.res) ∧ (inf = true → n + 1 < xs.length)
            | e => Q e ⟨envL live ids st.env, keepRes kids s'.res⟩) s)
          ⟨setPs (envL live ids st.env) ps x, R⟩) ∧
        ∀ R, inf = false → I xs.length R → Q .normal ⟨envL live ids st.env, R⟩

end Go.DI

/- What is read of the data is what lies in memory: lemmas on the relation. No condition. -/
namespace Go.DI
open Go.RowKit

theorem Rl.imm_inv {w S rho tau d v} (h : Rl w S rho tau (.imm d) v) : Rd w S d v := by cases h; assumption

theorem Rl.pt {w S rho tau d v} (h : Rl w S rho tau d v) : Rl w S rho tau d.pt v := by
  unfold DV.pt
  split
  · obtain ⟨b, o, rfl, hm⟩ := h.imm_inv.ptr_inv
    exact .pim _ b o hm
  · exact h
theorem DV.pt_names {d : DV} {id : Nat} : d.pt.names id = d.names id := by
  unfold DV.pt
  split
  · rfl
  · rfl

theorem DV.pt_ref {d : DV} {i o : Nat} (h : d.pt = .ref i o) : d = .ref i o := by
  unfold DV.pt at h
  split at h
  · cases h
  · exact h

theorem DV.pt_pim {d : DV} {v : IV} (h : d.pt = .pim v) : d = .pim v ∨ d = .imm (.ptr v) := by
  unfold DV.pt at h
  split at h
  · cases h; exact .inr rfl
  · exact .inl h

theorem allImm_get : ∀ {cs : List DV} {vs : List IV}, allImm cs = some vs → vs.length = cs.length ∧ ∀ (i : Nat) (x : IV), vs[i]? = some x → cs[i]? = some (.imm x)
  | [], vs, h => by simp [allImm] at h; subst h; simp
  | d :: r, vs, h => by
    cases d <;> simp [allImm] at h
    case imm v =>
      cases hr : allImm r with
      | none => simp [hr] at h
      | some rs =>
        simp [hr] at h; subst h
        have ih := allImm_get hr
        refine ⟨by simp [ih.1], fun i x hx => ?_⟩
        cases i with
        | zero => simp at hx ⊢; exact hx
        | succ i => simp at hx ⊢; exact ih.2 i x hx

theorem viewAll_get {res : Nat → Option Res} : ∀ (cs : List DV) (i : Nat), (viewAll res cs)[i]? = (cs[i]?).map (view res)
  | [], i => by simp [viewAll]
  | d :: r, i => by
    cases i with
    | zero => simp [viewAll]
    | succ i => simp [viewAll, viewAll_get r i]

theorem viewAll_length {res : Nat → Option Res} : ∀ (cs : List DV), (viewAll res cs).length = cs.length
  | [] => rfl
  | d :: r => by simp [viewAll, viewAll_length r]

theorem mkAgg_rl {w S rho tau} {cs : List DV} {vs : List Value} (hl : vs.length = cs.length)
    (hr : ∀ (i : Nat) (x : DV) (v : Value), cs[i]? = some x → vs[i]? = some v → Rl w S rho tau x v)
    (ha : ∀ (i : Nat) (v : Value), vs[i]? = some v → v.oneCell' = true) : Rl w S rho tau (mkAgg cs) (.agg vs.toArray) := by
  unfold mkAgg
  cases h : allImm cs with
  | none => exact .agg cs vs hl hr ha
  | some xs =>
    have hx := allImm_get h
    exact .imm _ _ (.agg xs vs (by omega) (fun i x v hi hv => (hr i _ v (hx.2 i x hi) hv).imm_inv) ha)

theorem vec_fza {w S} {rho : Nat → Nat} {id off n : Nat} {es : List IV} {cap : Nat} {a : Option Addr} (hcap : n ≤ cap) (ha : n ≠ 0 → a = some ⟨rho id, off, none⟩)
    (hres : ∀ (i : Nat) (d : IV), es[i]? = some d → d.cells = [d] ∧ S (rho id) i ∧ ∃ v, w.cell? ⟨rho id, i, none⟩ = some v ∧ v.oneCell' = true ∧ Rd w S d v)
    (hn : off + n ≤ es.length) (hz : (a = none ∧ cap = 0) ∨ ∃ b o, a = some ⟨b, o, none⟩) : Rd w S (.slc 1 ((es.drop off).take n)) (.slice a n cap) := by
  have hlen : ((es.drop off).take n).length = n := by simp; omega
  have hg : ∀ (i : Nat) (e : IV), ((es.drop off).take n)[i]? = some e → i < n ∧ es[off + i]? = some e := by
    intro i e h
    have hi : i < n := by
      have := (List.getElem?_eq_some_iff.1 h).1
      omega
    rw [List.getElem?_take_of_lt hi, List.getElem?_drop] at h
    exact ⟨hi, h⟩
  by_cases h0 : n = 0
  · subst h0
    have he : (es.drop off).take 0 = [] := by simp
    rw [he]
    rcases hz with ⟨rfl, rfl⟩ | ⟨b, o, rfl⟩
    · exact .nils 1
    · exact .slc 1 [] b o cap (fun _ => undef) (by simp) (by simp) (by simp) (by simp) (by simp)
  · rw [ha h0]
    have hc : ∀ i, i < n → ∃ v d, es[off + i]? = some d ∧ w.cell? ⟨rho id, off + i, none⟩ = some v ∧ v.oneCell' = true ∧ Rd w S d v ∧ S (rho id) (off + i) ∧ d.cells = [d] := by
      intro i hi
      have : off + i < es.length := by omega
      obtain ⟨h1, h2, v, h3, h4, h5⟩ := hres (off + i) es[off + i] (by simp [this])
      exact ⟨v, es[off + i], by simp [this], h3, h4, h5, h2, h1⟩
    let c : Nat → Value := fun i => (w.cell? ⟨rho id, off + i, none⟩).getD undef
    have hcc : ∀ i, i < n → w.cell? ⟨rho id, off + i, none⟩ = some (c i) := by
      intro i hi
      obtain ⟨v, d, h1, h2, _⟩ := hc i hi
      simp [c, h2]
    have := Rd.slc (w := w) (S := S) 1 ((es.drop off).take n) (rho id) off cap c (by omega)
      (fun i hi => by
        have hi' : i < n := by omega
        obtain ⟨v, d, h1, h2, h3, h4, h5, h6⟩ := hc i hi'
        exact ⟨h5, hcc i hi'⟩)
      (fun i e he => by
        obtain ⟨hi, he'⟩ := hg i e he
        obtain ⟨v, d, h1, h2, h3, h4, h5, h6⟩ := hc i hi
        rw [he'] at h1; cases h1; rw [h6]; rfl)
      (fun i e j x he hj => by
        obtain ⟨hi, he'⟩ := hg i e he
        obtain ⟨v, d, h1, h2, h3, h4, h5, h6⟩ := hc i hi
        rw [he'] at h1; cases h1
        rw [h6] at hj
        have hj0 : j = 0 := by
          have := (List.getElem?_eq_some_iff.1 hj).1
          simp at this; omega
        subst hj0; simp at hj; subst hj
        have := hcc i hi
        rw [h2] at this; cases this
        simpa using h4)
      (fun i e j x he hj => by
        obtain ⟨hi, he'⟩ := hg i e he
        obtain ⟨v, d, h1, h2, h3, h4, h5, h6⟩ := hc i hi
        rw [he'] at h1; cases h1
        rw [h6] at hj
        have hj0 : j = 0 := by
          have := (List.getElem?_eq_some_iff.1 hj).1
          simp at this; omega
        subst hj0
        have := hcc i hi
        rw [h2] at this; cases this
        simpa using h3)
    rw [hlen] at this
    exact this

theorem Rd.oneCell {w S d v} (h : Rd w S d v) (h1 : d.isAgg = false) (h2 : d.isTup = false) : v.oneCell' = true := by
  cases h <;> first | rfl | (simp [IV.isAgg, IV.isTup] at h1 h2)

theorem Rd.agg_cells {w S d v} (h : Rd w S d v) (h2 : d.isTup = false) : v.cells.size = d.cells.length ∧
    (∀ (i : Nat) (x : IV) (u : Value), d.cells[i]? = some x → v.cells[i]? = some u → Rd w S x u) ∧ (∀ (i : Nat) (u : Value), v.cells[i]? = some u → u.oneCell' = true) := by
  cases h
  case agg cs vs hl hr ha => exact ⟨by simpa [Value.cells, IV.cells] using hl, fun i x u hx hu => hr i x u hx (by simpa [Value.cells] using hu), fun i u hu => ha i u (by simpa [Value.cells] using hu)⟩
  all_goals first
    | (simp [IV.isTup] at h2; done)
    | (refine ⟨rfl, fun i x u hx hu => ?_, fun i u hu => ?_⟩
       · have hi : i = 0 := by
           have := (List.getElem?_eq_some_iff.1 hx).1
           simp [IV.cells] at this; omega
         subst hi
         simp [IV.cells, Value.cells] at hx hu
         subst hx; subst hu
         first | assumption | constructor | skip
         all_goals first | assumption | skip
       · have hi : i = 0 := by
           have := (Array.getElem?_eq_some_iff.1 hu).1
           simp [Value.cells] at this; omega
         subst hi
         simp [Value.cells] at hu
         subst hu
         rfl)
end Go.DI

/- The relation between the data of a call and the machine: the invariant, operands. No condition. -/
namespace Go.DI
open Go.RowKit

theorem view_sound {w S rho tau} {res : Nat → Option Res} (hres : ∀ id r, res id = some r → RdRes w S rho tau id r) {d v} (h : Rl w S rho tau d v) :
    Rl w S rho tau (view res d) v := by
  induction h with
  | undef v => unfold view; exact .undef v
  | imm d v k => unfold view; exact .imm d v k
  | ref id off =>
    unfold view
    cases hr : res id with
    | none => exact .ref id off
    | some r =>
      cases r <;> try exact .ref id off
      case fza es =>
        refine .imm _ _ (RdMem.ptr (fun j x hx => ?_))
        have hx : es[off + j]? = some x := by simpa [IV.cells, List.getElem?_drop] using hx
        obtain ⟨_, h2, v, h3, h4, h5⟩ := hres id _ hr (off + j) x hx
        exact ⟨h2, v, h3, h4, h5⟩
  | pim d b o k => unfold view; exact .imm _ _ k.ptr
  | vec id off n cap a k ha hz =>
    unfold view
    cases hr : res id with
    | none => exact .vec id off n cap a k ha hz
    | some r =>
      cases r <;> try exact .vec id off n cap a k ha hz
      case fza es =>
        dsimp only
        split
        · rename_i hn
          exact .imm _ _ (vec_fza k ha (hres id _ hr) hn hz)
        · exact .undef _
  | own t =>
    unfold view
    cases hr : res t with
    | none => exact .undef _
    | some r =>
      cases r <;> try exact .undef _
      case tok sz es => exact .imm _ _ (hres t _ hr).1
  | cap0 sz es v a k hv => unfold view; exact .imm _ _ k
  | agg cs vs hl hr ha ih =>
    unfold view
    exact mkAgg_rl (by rw [viewAll_length]; exact hl) (fun i x v hx hv => by
      rw [viewAll_get] at hx
      cases hc : cs[i]? with
      | none => simp [hc] at hx
      | some y => simp [hc] at hx; subst hx; exact ih i y v hc hv) ha
  | fn f first cap vf vc hf hc hrf hrc ih1 ih2 =>
    unfold view
    cases h1 : allImm (viewAll res first) with
    | none => exact .fn f first cap vf vc hf hc hrf hrc
    | some x =>
      cases h2 : allImm (viewAll res cap) with
      | none => exact .fn f first cap vf vc hf hc hrf hrc
      | some y =>
        have hx := allImm_get h1
        have hy := allImm_get h2
        rw [viewAll_length] at hx hy
        refine .imm _ _ (.func f x y vf vc (by omega) (by omega) ?_ ?_)
        · intro i d v hi hv
          have := hx.2 i d hi
          rw [viewAll_get] at this
          cases hc' : first[i]? with
          | none => simp [hc'] at this
          | some z => simp [hc'] at this; exact (this ▸ ih1 i z v hc' hv).imm_inv
        · intro i d v hi hv
          have := hy.2 i d hi
          rw [viewAll_get] at this
          cases hc' : cap[i]? with
          | none => simp [hc'] at this
          | some z => simp [hc'] at this; exact (this ▸ ih2 i z v hc' hv).imm_inv
  | yld l => unfold view; exact .yld l
  | nils z => unfold view; exact .imm _ _ (.nils z)

def constOk1 : Value → IV → Bool
  | .bool b, .bool c => b == c
  | .int k n, .int k' m => k == k' && n == m
  | .float k b, .flt k' c => k == k' && b == c
  | .complex k a b, .cpx k' c d => k == k' && a == c && b == d
  | .string s, .str t => s.data == t.data
  | .pointer none, .nilp => true
  | .slice none 0 0, .slc _ [] => true
  | .nilFunc, .nilf => true
  | .nilIface, .nili => true
  | .tuple ⟨[]⟩, .tup [] => true
  | _, _ => false
def constAll : List Value → List IV → Bool
  | [], [] => true
  | v :: vs, d :: ds => constOk1 v d && v.oneCell' && constAll vs ds
  | _, _ => false
def constOk (v : Value) (d : IV) : Bool :=
  match v, d with
  | .agg vs, .agg ds => constAll vs.toList ds
  | v, d => constOk1 v d

theorem constOk1_rd {w S v d} (h : constOk1 v d = true) : Rd w S d v := by
  unfold constOk1 at h
  split at h <;> simp at h
  · subst h; exact .bool _
  · obtain ⟨rfl, rfl⟩ := h; exact .int _ _
  · obtain ⟨rfl, rfl⟩ := h; exact .flt _ _
  · obtain ⟨⟨rfl, rfl⟩, rfl⟩ := h; exact .cpx _ _ _
  · rename_i s t; have : s = t := by cases s; cases t; simp at h; simp [h]
    subst this; exact .str _
  · exact .nilp
  · exact .nils _
  · exact .nilf
  · exact .nili
  · exact .tup [] [] rfl (by simp)

theorem constAll_get {w S} : ∀ {vs : List Value} {ds : List IV}, constAll vs ds = true → vs.length = ds.length ∧
    (∀ (i : Nat) (x : IV) (v : Value), ds[i]? = some x → vs[i]? = some v → Rd w S x v) ∧ ∀ (i : Nat) (v : Value), vs[i]? = some v → v.oneCell' = true
  | [], [], _ => by simp
  | [], _ :: _, h => by simp [constAll] at h
  | _ :: _, [], h => by simp [constAll] at h
  | v :: vs, d :: ds, h => by
    simp [constAll] at h
    have ih := constAll_get (w := w) (S := S) h.2
    refine ⟨by simp [ih.1], fun i x u hx hu => ?_, fun i u hu => ?_⟩
    · cases i with
      | zero => simp at hx hu; subst hx; subst hu; exact constOk1_rd h.1.1
      | succ i => simp at hx hu; exact ih.2.1 i x u hx hu
    · cases i with
      | zero => simp at hu; subst hu; exact h.1.2
      | succ i => simp at hu; exact ih.2.2 i u hu

theorem constOk_rd {w S v d} (h : constOk v d = true) : Rd w S d v := by
  unfold constOk at h
  split at h
  · rename_i vs ds
    have := constAll_get (w := w) (S := S) h
    have e : vs = vs.toList.toArray := by simp
    rw [e]
    exact .agg _ _ this.1 this.2.1 this.2.2
  · exact constOk1_rd h

def opdOk : Operand → Opd → Bool
  | .tmp t, .t n => t == n
  | .const v, .c d => constOk v d
  | .func f, .f g => f == g
  | .const (.slice none 0 0), .z _ => true
  | _, _ => false

def opdsOk : List Operand → List Opd → Bool
  | [], [] => true
  | x :: xs, y :: ys => opdOk x y && opdsOk xs ys
  | _, _ => false

theorem Core.fresh {B st tmps w S rho tau} (h : Core B st tmps w S rho tau) {k : Nat} (hk : w.heap.size ≤ k) : ¬ B.O k := fun ho => by
  have := B.lt h.inv k ho
  omega

theorem Core.ev {B st tmps defers w S rho tau} (h : Core B st tmps w S rho tau) {x : Operand} {y : Opd} (hx : opdOk x y = true) :
    Rl w S rho tau (st.ev y) ((Act.mk tmps defers).eval x) := by
  unfold opdOk at hx
  split at hx
  · simp at hx; subst hx; exact h.env _
  · exact .imm _ _ (constOk_rd hx)
  · simp at hx; subst hx; exact .imm _ _ (.func _ [] [] [] [] rfl rfl (by simp) (by simp))
  · exact .cap0 _ [] _ none (.nils _) rfl
  · simp at hx

theorem Core.vw {B st tmps defers w S rho tau} (h : Core B st tmps w S rho tau) {x : Operand} {y : Opd} (hx : opdOk x y = true) :
    Rl w S rho tau (view st.res (st.ev y)) ((Act.mk tmps defers).eval x) := view_sound h.res (h.ev hx)

theorem St.evC {st : St} (hC : ∀ x id, (st.env x).names id = true → (st.res id).isSome = true) (y : Opd) : ∀ id, (st.ev y).names id = true → (st.res id).isSome = true := by
  intro id hid
  cases y with
  | t n => exact hC n id hid
  | c v => simp [St.ev, DV.names] at hid
  | f n => simp [St.ev, DV.names] at hid
  | z sz => simp [St.ev, DV.names] at hid

def putT (tmps : Array Value) (dst : Option Nat) (v : Value) : Array Value := match dst with | some d => tmps.setIfInBounds d v | none => tmps

theorem Core.put {B st tmps w S rho tau} (h : Core B st tmps w S rho tau) {dst : Option Nat} (hd : ∀ d, dst = some d → d < tmps.size) {dv v} (hv : Rl w S rho tau dv v)
    (hc : ∀ id, dv.names id = true → (st.res id).isSome = true) :
    Core B (st.put dst dv none) (putT tmps dst v) w S rho tau := by
  unfold putT
  cases dst with
  | none => exact h
  | some d =>
    have hdl := hd d rfl
    exact { h with
      env := fun x => by
        simp only [St.put]
        by_cases hx : x = d
        · subst hx
          simp [Array.getD, hdl]; exact hv
        · rw [if_neg hx]
          have : (tmps.setIfInBounds d v).getD x undef = tmps.getD x undef := by
            simp only [Array.getD, Array.size_setIfInBounds]
            split
            · rename_i hlt
              show (tmps.setIfInBounds d v)[x]'(by simpa using hlt) = tmps[x]
              rw [Array.getElem_setIfInBounds]
              rw [if_neg (Ne.symm hx)]
            · rfl
          rw [this]; exact h.env x
      envC := fun x id hn => by
        simp only [St.put] at hn
        by_cases hx : x = d
        · rw [if_pos hx] at hn; exact hc id hn
        · rw [if_neg hx] at hn; exact h.envC x id hn }

theorem RdRes.moved {w S w' S' rho tau id r} (hx : Ext w S w' S') (hs1 : Owns tau id r → ∀ o, S' (rho id) o → S (rho id) o) (hb : Owns tau id r → w'.heap[rho id]? = w.heap[rho id]?)
    (h : RdRes w S rho tau id r) : RdRes w' S' rho tau id r := by
  have keep : Owns tau id r → ∀ {arr e fr}, w.heap[rho id]? = some (Obj.cells arr e fr) → w'.heap[rho id]? = some (.cells arr e fr) ∧ rho id < w.heap.size := by
    intro ho arr e fr hk
    exact ⟨(hb ho).trans hk, (Array.getElem?_eq_some_iff.1 hk).1⟩
  cases r with
  | box cells =>
    obtain ⟨arr, e, h1, h2, h3, h4, h5⟩ := h
    obtain ⟨k1, k2⟩ := keep trivial h1
    exact ⟨arr, e, k1, h2, fun i d v hd hv => (h3 i d v hd hv).mono hx, h4, fun o ho => h5 o (hs1 trivial o ho)⟩
  | arr es =>
    obtain ⟨arr, e, h1, h2, h3, h4, h5⟩ := h
    obtain ⟨k1, k2⟩ := keep trivial h1
    exact ⟨arr, e, k1, h2, fun i d v hd hv => ⟨(h3 i d v hd hv).1, (h3 i d v hd hv).2.1, (h3 i d v hd hv).2.2.mono hx⟩, h4, fun o ho => h5 o (hs1 trivial o ho)⟩
  | fza es =>
    intro i d hd
    obtain ⟨h1, h2, v, h3, h4, h5⟩ := h i d hd
    exact ⟨h1, hx.sub _ _ h2, v, (hx.cell _ _ h2).trans h3, h4, h5.mono hx⟩
  | tok sz es =>
    obtain ⟨h1, h2⟩ := h
    refine ⟨h1.mono hx, ?_⟩
    rcases h2 with h2 | ⟨arr, e, cap, g1, g2, g3, g4, g5⟩
    · exact .inl h2
    · obtain ⟨k1, k2⟩ := keep ⟨_, _, _, g2, g4⟩ g1
      exact .inr ⟨arr, e, cap, k1, g2, g3, g4, fun o ho hs => g5 o ho (hs1 ⟨_, _, _, g2, g4⟩ o hs)⟩
  | seq l t => trivial

theorem RdRes.step {w S w' S' rho tau id r} (hx : Ext w S w' S') (hs1 : ∀ b o, S' b o → S b o ∨ w.heap.size ≤ b) (hb : ∀ k, k < w.heap.size → w'.heap[k]? = w.heap[k]?) (hlt : Owns tau id r → rho id < w.heap.size)
    (h : RdRes w S rho tau id r) : RdRes w' S' rho tau id r := h.moved hx (fun ho o k => (hs1 _ _ k).resolve_right fun q => by have := hlt ho; omega) fun ho => hb _ (hlt ho)

theorem ext_of_below {w w' : World} {S S'} (hstab : ∀ b o, S b o → b < w.heap.size) (hsub : ∀ b o, S b o → S' b o) (hb : Below w.heap.size w w') : Ext w S w' S' :=
  ⟨hsub, fun b o hs => hb.cell (p := ⟨b, o, none⟩) (hstab b o hs)⟩

theorem Core.step {B st tmps w S rho tau} (h : Core B st tmps w S rho tau) {w' S'} (hb : Below w.heap.size w w') (hsub : ∀ b o, S b o → S' b o)
    (hs1 : ∀ b o, S' b o → S b o ∨ w.heap.size ≤ b) (hst : ∀ b o, S' b o → b < w'.heap.size) : Core B st tmps w' S' rho tau := by
  have hx := ext_of_below h.stab hsub hb
  exact {
    inv := B.move h.inv ⟨hb.os, hb.tape, hb.output, hb.size, fun k hk => hb.block k (B.lt h.inv k hk), hx, fun b o k => (hs1 b o k).imp_right h.fresh, fun _ => hst⟩
    stab := hst
    env := fun x => (h.env x).mono hx
    envC := h.envC
    res := fun id r hr => (h.res id r hr).step hx hs1 hb.block fun ho => (h.base id r hr ho).2
    resC := h.resC
    base := fun id r hr ho => ⟨(h.base id r hr ho).1, Nat.lt_of_lt_of_le (h.base id r hr ho).2 hb.size⟩
    dis := h.dis
    tauS := h.tauS
    pin := h.pin }

end Go.DI

/- Each operation does to the machine what it does to the data: the operations without a resource of their own. No condition. -/
namespace Go.DI
open Go.RowKit

def upd {α : Type} (f : Nat → α) (d : Nat) (x : α) : Nat → α := fun i => if i = d then x else f i

theorem RdRes.turn {w S rho tau rho' tau'} {d : Nat} (h1 : ∀ i, i ≠ d → rho' i = rho i) (h2 : ∀ i, i ≠ d → tau' i = tau i) {id : Nat} {r : Res} (hne : id ≠ d)
    (hn : ∀ cells, r = .box cells → ∀ c ∈ cells, c.names d = false) (h : RdRes w S rho tau id r) : RdRes w S rho' tau' id r := by
  cases r with
  | box cells =>
    obtain ⟨arr, e, g1, g2, g3, g4, g5⟩ := h
    exact ⟨arr, e, by rw [h1 id hne]; exact g1, g2, fun i x v hx hv => (g3 i x v hx hv).turn h1 h2 (hn cells rfl x (List.mem_of_getElem? hx)), g4, by rw [h1 id hne]; exact g5⟩
  | arr es =>
    obtain ⟨arr, e, g1, g2, g3, g4, g5⟩ := h
    exact ⟨arr, e, by rw [h1 id hne]; exact g1, g2, g3, g4, by rw [h1 id hne]; exact g5⟩
  | fza es =>
    intro i x hx
    rw [h1 id hne]; exact h i x hx
  | tok sz es =>
    obtain ⟨g1, g2⟩ := h
    refine ⟨by rw [h2 id hne]; exact g1, ?_⟩
    rcases g2 with g2 | ⟨arr, e, cap, k1, k2, k3, k4, k5⟩
    · exact .inl (by rw [h2 id hne]; exact g2)
    · exact .inr ⟨arr, e, cap, by rw [h1 id hne]; exact k1, by rw [h1 id hne, h2 id hne]; exact k2, k3, k4, by rw [h1 id hne]; exact k5⟩
  | seq l t => trivial

theorem Owns.turn {tau tau' : Nat → Value} {id : Nat} (h : tau' id = tau id) {r : Res} : Owns tau' id r ↔ Owns tau id r := by
  cases r <;> simp [Owns, h]

theorem Core.add {B st tmps w S rho tau} (h : Core B st tmps w S rho tau) {d : Nat} (hd : st.res d = none) (blk : Nat) (tv : Value) (r : Res) (htv : ∃ a n c, tv = .slice a n c)
    (hr : RdRes w S (upd rho d blk) (upd tau d tv) d r) (hc : ∀ cells, r = .box cells → ∀ c ∈ cells, ∀ id, c.names id = true → id = d ∨ (st.res id).isSome = true)
    (hb : Owns (upd tau d tv) d r → ¬ B.O blk ∧ blk < w.heap.size ∧ ∀ i r', st.res i = some r' → Owns tau i r' → rho i ≠ blk) (hns : r.isSeq = false := by rfl) :
    Core B { st with res := upd st.res d (some r) } tmps w S (upd rho d blk) (upd tau d tv) := by
  have u1 : ∀ i, i ≠ d → upd rho d blk i = rho i := fun i hi => by simp [upd, hi]
  have u2 : ∀ i, i ≠ d → upd tau d tv i = tau i := fun i hi => by simp [upd, hi]
  have ud : upd rho d blk d = blk := by simp [upd]
  have res_ne : ∀ id r', id ≠ d → upd st.res d (some r) id = some r' → st.res id = some r' := fun id r' hne hr' => by simpa [upd, hne] using hr'
  have noD : ∀ {c : DV}, (∀ id, c.names id = true → (st.res id).isSome = true) → c.names d = false := by
    intro c hc
    cases hn : c.names d with
    | false => rfl
    | true => have := hc d hn; rw [hd] at this; simp at this
  have wid : ∀ id, (st.res id).isSome = true → ((upd st.res d (some r)) id).isSome = true := by
    intro id hid
    by_cases e : id = d
    · subst e; simp [upd]
    · simpa [upd, e] using hid
  refine {
    inv := by
      have e : ghost (upd st.res d (some r)) = ghost st.res := by
        by_cases h0 : (0 : Nat) = d
        · rw [ghost_none (res := upd st.res d (some r)) (fun r' hr' => by rw [← h0] at hr'; simp [upd] at hr'; rw [← hr']; exact hns), ghost_none (res := st.res) (fun r' hr' => by rw [h0, hd] at hr'; cases hr')]
        · unfold ghost; simp [upd, h0]
      show B.inv (ghost (upd st.res d (some r))) S w
      rw [e]; exact h.inv
    stab := h.stab
    env := fun x => (h.env x).turn u1 u2 (noD (h.envC x))
    envC := fun x id hn => wid id (h.envC x id hn)
    res := fun id r' hr' => ?_
    resC := fun id cells hcs c hmem id' hn => ?_
    base := fun id r' hr' ho => ?_
    dis := fun i j r1 r2 h1 h2 o1 o2 hij => ?_
    tauS := fun t => by
      by_cases e : t = d
      · subst e; simpa [upd] using htv
      · rw [u2 t e]; exact h.tauS t
    pin := fun id b hp => by
      obtain ⟨r', h1, h2, h3⟩ := h.pin id b hp
      have e : id ≠ d := fun e => by rw [e, hd] at h1; cases h1
      exact ⟨r', by simpa [upd, e] using h1, by rw [u1 id e, u2 id e]; exact h2, h3⟩ }
  · by_cases e : id = d
    · subst e
      have : r' = r := by simpa [upd] using hr'.symm
      subst this; exact hr
    · have hr0 := res_ne id r' e hr'
      exact (h.res id r' hr0).turn u1 u2 e (fun cells hcells c hmem => by subst hcells; exact noD (h.resC id cells hr0 c hmem))
  · by_cases e : id = d
    · subst e
      have : r = .box cells := by simpa [upd] using hcs
      rcases hc cells this c hmem id' hn with k | k
      · subst k; simp [upd]
      · exact wid id' k
    · exact wid id' (h.resC id cells (res_ne id _ e hcs) c hmem id' hn)
  · by_cases e : id = d
    · subst e
      have : r' = r := by simpa [upd] using hr'.symm
      subst this; rw [ud]; exact ⟨(hb ho).1, (hb ho).2.1⟩
    · rw [u1 id e]; exact h.base id r' (res_ne id r' e hr') ((Owns.turn (u2 id e)).1 ho)
  · by_cases ei : i = d
    · subst ei
      have e1 : r1 = r := by simpa [upd] using h1.symm
      subst e1
      have hj : j ≠ i := fun e => hij e.symm
      rw [ud, u1 j hj]
      exact fun e => (hb o1).2.2 j r2 (res_ne j r2 hj h2) ((Owns.turn (u2 j hj)).1 o2) e.symm
    · by_cases ej : j = d
      · subst ej
        have e2 : r2 = r := by simpa [upd] using h2.symm
        subst e2
        rw [ud, u1 i ei]
        exact (hb o2).2.2 i r1 (res_ne i r1 ei h1) ((Owns.turn (u2 i ei)).1 o1)
      · rw [u1 i ei, u1 j ej]
        exact h.dis i j r1 r2 (res_ne i r1 ei h1) (res_ne j r2 ej h2) ((Owns.turn (u2 i ei)).1 o1) ((Owns.turn (u2 j ej)).1 o2) hij

def OkOp (P : Program) (o : Oper) (a : Act) (w : World) (R : Value → World → Prop) : Prop :=
  ∀ (next : Act → World → Prop) (Q : Exit → Act → World → Prop), (∀ v w', R v w' → next (a.put o.dst v) w') → o.wp P a w next Q

theorem okOp_run {P : Program} {o : Oper} {a : Act} {w w' : World} {v : Value} {R : Value → World → Prop} (h : (execOp a.eval o).run P w = .ok (.value v) w') (hr : R v w') : OkOp P o a w R := by
  intro next Q hn
  unfold Oper.wp
  rw [h]
  exact hn v w' hr

def szIs (P : Program) (t : TypeId) (n : Nat) : Bool := match P.info? t with | some i => i.size == n | none => false
def aggIs (P : Program) (t : TypeId) (b : Bool) : Bool :=
  match P.underlying t with
  | some (.struct _) | some (.array _ _) => b
  | some _ => !b
  | none => false

section runs
variable {P : Program} {w : World}
theorem run_sizeOf' {t : TypeId} {n : Nat} (h : szIs P t n = true) : (sizeOf t).run P w = .ok n w := by
  unfold szIs at h
  split at h
  · rename_i i hi
    simp at h
    simp [sizeOf, typeInfo, hi, h]
  · simp at h
theorem run_isAgg' {t : TypeId} {b : Bool} (h : aggIs P t b = true) : (isAgg t).run P w = .ok b w := by
  unfold aggIs at h
  unfold isAgg
  cases hu : P.underlying t with
  | none => simp [hu] at h
  | some d =>
    simp only [Sem.run_bind, run_underlying hu, Result.andThen_ok]
    cases d <;> simp_all
end runs

theorem getElem?_slice {α : Type} (l : List α) (off n i : Nat) : ((l.drop off).take n)[i]? = if i < n then l[off + i]? else none := by
  by_cases h : i < n
  · rw [List.getElem?_take_of_lt h, List.getElem?_drop, if_pos h]
  · rw [if_neg h]
    apply List.getElem?_eq_none
    simp; omega

end Go.DI

/- Each operation does to the machine what it does to the data: values alone. No condition. -/
namespace Go.DI
open Go.RowKit

def plainOp : BinOp → Bool
  | .shl | .shr | .and | .or | .xor | .andNot => false
  | _ => true

def Quiet (P : Program) (B : Base) (st : St) (o : Oper) (a : Act) (w : World) (rho : Nat → Nat) (tau : Nat → Value) (K : DV → Option Res → Prop) : Prop :=
  ∃ dv, K dv none ∧ OkOp P o a w fun v w' => ∃ S', Core B st a.tmps w' S' rho tau ∧ Rl w' S' rho tau dv v ∧ ∀ id, dv.names id = true → (st.res id).isSome = true

theorem Rd.bool_inv {w S b v} (h : Rd w S (.bool b) v) : v = .bool b := by cases h; rfl
theorem Rd.int_inv {w S k n v} (h : Rd w S (.int k n) v) : v = .int k n := by cases h; rfl
theorem Rd.str_inv {w S s v} (h : Rd w S (.str s) v) : v = .string s := by cases h; rfl
theorem Rd.agg_inv {w S cs v} (h : Rd w S (.agg cs) v) : ∃ vs : List Value, v = .agg vs.toArray ∧ vs.length = cs.length ∧
    (∀ (i : Nat) (x : IV) (u : Value), cs[i]? = some x → vs[i]? = some u → Rd w S x u) ∧ ∀ (i : Nat) (u : Value), vs[i]? = some u → u.oneCell' = true := by
  cases h with
  | agg cs vs hl hr ha => exact ⟨vs, rfl, hl, hr, ha⟩
theorem Rl.agg_inv {w S rho tau cs v} (h : Rl w S rho tau (.agg cs) v) : ∃ vs : List Value, v = .agg vs.toArray ∧ vs.length = cs.length ∧
    (∀ (i : Nat) (x : DV) (u : Value), cs[i]? = some x → vs[i]? = some u → Rl w S rho tau x u) ∧ ∀ (i : Nat) (u : Value), vs[i]? = some u → u.oneCell' = true := by
  cases h with
  | agg cs vs hl hr ha => exact ⟨vs, rfl, hl, hr, ha⟩

section ops
variable {P : Program} {B : Base} {st : St} {a : Act} {w : World} {S : Nat → Nat → Prop} {rho : Nat → Nat} {tau : Nat → Value} {o : Oper} {K : DV → Option Res → Prop}

theorem quiet_val (h : Core B st a.tmps w S rho tau) {dv : DV} {v : Value} (hk : K dv none) (hr : (execOp a.eval o).run P w = .ok (.value v) w) (hv : Rl w S rho tau dv v)
    (hn : ∀ id, dv.names id = true → (st.res id).isSome = true) : Quiet P B st o a w rho tau K :=
  ⟨dv, hk, okOp_run hr ⟨S, h, hv, hn⟩⟩

theorem quiet_imm (h : Core B st a.tmps w S rho tau) {d : IV} {v : Value} (hk : K (.imm d) none) (hr : (execOp a.eval o).run P w = .ok (.value v) w) (hv : Rd w S d v) : Quiet P B st o a w rho tau K :=
  quiet_val h hk hr (.imm _ _ hv) (by simp [DV.names])

theorem s_mov (h : Core B st a.tmps w S rho tau) {x : Operand} {y : Opd} (ho : o.op = .move x ∨ o.op = .assign x) (hx : opdOk x y = true) (hs : semMov K [st.arg y]) : Quiet P B st o a w rho tau K := by
  refine quiet_val h hs (v := a.eval x) ?_ (h.ev hx) (St.evC h.envC y)
  unfold execOp
  rcases ho with ho | ho <;> rw [ho] <;> rfl

theorem s_pick (h : Core B st a.tmps w S rho tau) {x1 x2 x3 : Operand} {y1 y2 y3 : Opd} (ho : o.op = .pick x1 x2 x3) (h1 : opdOk x1 y1 = true) (h2 : opdOk x2 y2 = true) (h3 : opdOk x3 y3 = true)
    (hs : semPick K [st.arg y1, st.arg y2, st.arg y3]) : Quiet P B st o a w rho tau K := by
  simp only [semPick, St.arg] at hs
  split at hs
  · rename_i t hc
    have e1 := (hc ▸ h.vw (defers := a.defers) h1).imm_inv.bool_inv
    refine quiet_val h hs (v := if t then a.eval x2 else a.eval x3) ?_ ?_ ?_
    · unfold execOp
      rw [ho]
      have : a.eval x1 = .bool t := e1
      simp [this, asBool]
    · cases t
      · exact h.ev h3
      · exact h.ev h2
    · cases t
      · exact St.evC h.envC y3
      · exact St.evC h.envC y2
  · exact hs.elim

theorem s_nilck (h : Core B st a.tmps w S rho tau) {x : Operand} {y : Opd} (ho : o.op = .nilCheck x) (hx : opdOk x y = true) (hs : semNilck K [st.arg y]) : Quiet P B st o a w rho tau K := by
  have hr := (h.ev (defers := a.defers) hx).pt
  have hc : ∀ id, (st.ev y).pt.names id = true → (st.res id).isSome = true := fun id hn => St.evC h.envC y id (by rwa [DV.pt_names] at hn)
  simp only [semNilck, St.arg] at hs
  have run : ∀ v, a.eval x = v → (∃ p, v = .pointer (some p)) ∨ (∃ f p q, v = .func (.func f) p q) → (execOp a.eval o).run P w = .ok (.value v) w := by
    intro v hv hcase
    unfold execOp
    rw [ho]
    dsimp only
    rw [hv]
    rcases hcase with ⟨p, rfl⟩ | ⟨f, p, q, rfl⟩ <;> rfl
  split at hs
  · rename_i i off hy
    rw [hy] at hr hc
    refine quiet_val h hs (v := a.eval x) (run _ rfl ?_) hr hc
    have hr' : Rl w S rho tau (.ref i off) (a.eval x) := hr
    generalize a.eval x = v at hr'
    cases hr'; exact .inl ⟨_, rfl⟩
  · rename_i d hy
    rw [hy] at hr hc
    refine quiet_val h hs (v := a.eval x) (run _ rfl ?_) hr hc
    have hr' : Rl w S rho tau (.pim d) (a.eval x) := hr
    generalize a.eval x = v at hr'
    cases hr'; exact .inl ⟨_, rfl⟩
  · rename_i f p q hy
    rw [hy] at hr hc
    refine quiet_val h hs (v := a.eval x) (run _ rfl ?_) hr hc
    have hr' : Rd w S (.func f p q) (a.eval x) := hr.imm_inv
    generalize a.eval x = v at hr'
    cases hr'; exact .inr ⟨_, _, _, rfl⟩
  · rename_i f p q hy
    rw [hy] at hr hc
    refine quiet_val h hs (v := a.eval x) (run _ rfl ?_) hr hc
    have hr' : Rl w S rho tau (.fn f p q) (a.eval x) := hr
    generalize a.eval x = v at hr'
    cases hr'; exact .inr ⟨_, _, _, rfl⟩
  · exact hs.elim

theorem run_binI {op : BinOp} {k : IntKind} {p q : Int} {t : TypeId} {x y : Operand} (hop : plainOp op = true) {K' : DV → Prop} (hs : binI op k p q K') :
    ∃ d v, K' (.imm d) ∧ (do eqGuard op t x y (.int k p) (.int k q); binOp op t (.int k p) (.int k q) : Sem Value).run P w = .ok v w ∧ Rd w S d v := by
  cases op <;> simp [plainOp] at hop <;> simp only [binI, cmpI] at hs
  case add => exact ⟨_, _, hs, by simp [eqGuard, binOp, Op.intArith], .int _ _⟩
  case sub => exact ⟨_, _, hs, by simp [eqGuard, binOp, Op.intArith], .int _ _⟩
  case mul => exact ⟨_, _, hs, by simp [eqGuard, binOp, Op.intArith], .int _ _⟩
  case quo => exact ⟨_, _, hs.2, by simp [eqGuard, binOp, Op.intDiv, hs.1], .int _ _⟩
  case rem => exact ⟨_, _, hs.2, by simp [eqGuard, binOp, Op.intDiv, hs.1], .int _ _⟩
  case eql => exact ⟨_, _, hs, by simp [eqGuard, binOp, Op.intCmp], .bool _⟩
  case neq => exact ⟨_, _, hs, by simp [eqGuard, binOp, Op.intCmp], .bool _⟩
  case lss => exact ⟨_, _, hs, by simp [eqGuard, binOp, Op.intCmp], .bool _⟩
  case leq => exact ⟨_, _, hs, by simp [eqGuard, binOp, Op.intCmp], .bool _⟩
  case gtr => exact ⟨_, _, hs, by simp [eqGuard, binOp, Op.intCmp], .bool _⟩
  case geq => exact ⟨_, _, hs, by simp [eqGuard, binOp, Op.intCmp], .bool _⟩

theorem s_bin (h : Core B st a.tmps w S rho tau) {op : BinOp} {t yt : TypeId} {x1 x2 : Operand} {y1 y2 : Opd} (ho : o.op = .binOp op t x1 x2 yt) (hop : plainOp op = true)
    (h1 : opdOk x1 y1 = true) (h2 : opdOk x2 y2 = true) (hs : semBin K op [st.arg y1, st.arg y2]) : Quiet P B st o a w rho tau K := by
  have r1 := h.vw (defers := a.defers) h1
  have r2 := h.vw (defers := a.defers) h2
  have hrun : ∀ v1 v2, a.eval x1 = v1 → a.eval x2 = v2 → ∀ v, (do eqGuard op t x1 x2 v1 v2; binOp op t v1 v2 : Sem Value).run P w = .ok v w → (execOp a.eval o).run P w = .ok (.value v) w := by
    intro v1 v2 e1 e2 v hv
    unfold execOp
    rw [ho]
    simp only [e1, e2]
    simp only [Sem.run_bind] at hv ⊢
    rw [hv]
    rfl
  simp only [semBin, St.arg] at hs
  split at hs
  · rename_i k p k' q e1 e2
    rw [e1] at r1; rw [e2] at r2
    have v1 := r1.imm_inv.int_inv
    have v2 := r2.imm_inv.int_inv
    obtain ⟨rfl, hs⟩ := hs
    obtain ⟨d, v, hk, hv, hd⟩ := run_binI (P := P) (w := w) (S := S) (t := t) (x := x1) (y := x2) hop hs
    exact quiet_imm h hk (hrun _ _ v1 v2 v hv) hd
  · rename_i p q e1 e2
    rw [e1] at r1; rw [e2] at r2
    have v1 := r1.imm_inv.str_inv
    have v2 := r2.imm_inv.str_inv
    cases op <;> simp only at hs
    case eql => exact quiet_imm h hs (hrun _ _ v1 v2 _ (by simp [eqGuard, binOp, Op.stringOp, beq_toListBytes])) (.bool _)
    case neq => exact quiet_imm h hs (hrun _ _ v1 v2 _ (by simp [eqGuard, binOp, Op.stringOp, beq_toListBytes])) (.bool _)
    case add => exact quiet_imm h hs.2 (hrun _ _ v1 v2 _ (by simp [eqGuard, binOp, Op.stringOp, maxLen] at *; omega)) (.str _)
  · exact hs.elim

theorem s_beq (h : Core B st a.tmps w S rho tau) {neg : Bool} {t yt : TypeId} {x1 x2 : Operand} {y1 y2 : Opd} (ho : o.op = .binOp (if neg then .neq else .eql) t x1 x2 yt) (ht : P.underlying t = some .bool)
    (h1 : opdOk x1 y1 = true) (h2 : opdOk x2 y2 = true) (hs : semBeq K neg [st.arg y1, st.arg y2]) : Quiet P B st o a w rho tau K := by
  have r1 := h.vw (defers := a.defers) h1
  have r2 := h.vw (defers := a.defers) h2
  simp only [semBeq, St.arg] at hs
  split at hs
  · rename_i p q e1 e2
    rw [e1] at r1; rw [e2] at r2
    have v1 : a.eval x1 = .bool p := r1.imm_inv.bool_inv
    have v2 : a.eval x2 = .bool q := r2.imm_inv.bool_inv
    cases neg
    · refine quiet_imm h hs ?_ (.bool _)
      unfold execOp
      rw [ho]
      simp [v1, v2, eqGuard, run_eql_bool w t p q ht]
    · refine quiet_imm h hs ?_ (.bool _)
      unfold execOp
      rw [ho]
      simp [v1, v2, eqGuard, run_neq_bool w t p q ht]
  · exact hs.elim

theorem s_qnil (h : Core B st a.tmps w S rho tau) {neg : Bool} {t e yt : TypeId} {x : Operand} {y1 y2 : Opd} (ho : o.op = .binOp (if neg then .neq else .eql) t x (.const (.slice none 0 0)) yt) (ht : P.underlying t = some (.slice e))
    (h1 : opdOk x y1 = true) (hs : semQnil K neg [st.arg y1, st.arg y2]) : Quiet P B st o a w rho tau K := by
  have r1 := h.vw (defers := a.defers) h1
  have r0 := h.ev (defers := a.defers) h1
  simp only [semQnil, St.arg] at hs
  split at hs
  · rename_i b hb
    have hv : ∃ (p : Option Addr) (n cap : Nat), a.eval x = .slice p n cap ∧ b = p.isNone := by
      unfold isNilS at hb
      split at hb
      · rename_i z e0
        rw [e0] at r0
        cases hb
        generalize a.eval x = v at r0
        cases r0
        exact ⟨none, 0, 0, rfl, rfl⟩
      · split at hb
        · rename_i e1
          rw [e1] at r1
          cases hb
          have r1 := r1.imm_inv
          generalize a.eval x = v at r1
          cases r1 with
          | slc _ _ b q cap c => exact ⟨some ⟨b, q, none⟩, _, _, rfl, rfl⟩
        · cases hb
    obtain ⟨p, n, cap, hv, rfl⟩ := hv
    have he : (Op.equal t (.slice p n cap) (.slice none 0 0)).run P w = .ok p.isNone w := by
      have key : ∀ d, (Op.equalIn (d + 1) t (.slice p n cap) (.slice none 0 0)).run P w = .ok p.isNone w := by
        intro d
        unfold Op.equalIn
        rw [Sem.run_bind, run_underlying ht]
        cases p <;> rfl
      exact key 9999
    refine quiet_imm h hs ?_ (.bool _)
    unfold execOp
    rw [ho]
    have hc : a.eval (.const (.slice none 0 0)) = .slice none 0 0 := rfl
    cases neg <;> simp [hv, hc, eqGuard, binOp, he]
  · exact hs.elim

theorem s_pnil (h : Core B st a.tmps w S rho tau) {neg : Bool} {t e yt : TypeId} {x1 x2 : Operand} {y1 y2 : Opd} (ho : o.op = .binOp (if neg then .neq else .eql) t x1 x2 yt) (ht : P.underlying t = some (.pointer e))
    (h1 : opdOk x1 y1 = true) (h2 : opdOk x2 y2 = true) (hs : semPnil K neg [st.arg y1, st.arg y2]) : Quiet P B st o a w rho tau K := by
  have r1 := h.vw (defers := a.defers) h1
  have r2 := h.vw (defers := a.defers) h2
  simp only [semPnil, St.arg] at hs
  split at hs
  · rename_i b e1 e2
    rw [e2] at r2
    have v2 : a.eval x2 = .pointer none := by
      have r2' : Rd w S .nilp (a.eval x2) := r2.imm_inv
      generalize a.eval x2 = v at r2'
      cases r2'; rfl
    have v1 : ∃ p : Option Addr, a.eval x1 = .pointer p ∧ b = p.isNone := by
      have r1' : Rl w S rho tau (view st.res (st.ev y1)) (a.eval x1) := r1
      generalize view st.res (st.ev y1) = d at e1 r1'
      generalize a.eval x1 = v at r1'
      unfold isNilP at e1
      split at e1
      · cases e1
        have := r1'.imm_inv
        cases this; exact ⟨none, rfl, rfl⟩
      · cases e1
        obtain ⟨b, o, rfl, _⟩ := r1'.imm_inv.ptr_inv
        exact ⟨_, rfl, rfl⟩
      · cases e1; cases r1'; exact ⟨_, rfl, rfl⟩
      · cases e1; cases r1'; exact ⟨_, rfl, rfl⟩
      · cases e1
    obtain ⟨p, v1, rfl⟩ := v1
    have he : (Op.equal t (.pointer p) (.pointer none)).run P w = .ok p.isNone w := by
      have key : ∀ d, (Op.equalIn (d + 1) t (.pointer p) (.pointer none)).run P w = .ok p.isNone w := by
        intro d
        unfold Op.equalIn
        rw [Sem.run_bind, run_underlying ht]
        cases p <;> rfl
      exact key 9999
    cases neg
    · refine quiet_imm h hs ?_ (.bool _)
      unfold execOp
      rw [ho]
      simp [v1, v2, eqGuard, binOp, he]
    · refine quiet_imm h hs ?_ (.bool _)
      unfold execOp
      rw [ho]
      simp [v1, v2, eqGuard, binOp, he]
  · exact hs.elim

theorem s_un (h : Core B st a.tmps w S rho tau) {op : UnOp} {t : TypeId} {x1 : Operand} {y1 : Opd} (ho : o.op = .unOp op t x1) (h1 : opdOk x1 y1 = true) (hs : semUn K op [st.arg y1]) : Quiet P B st o a w rho tau K := by
  have r1 := h.vw (defers := a.defers) h1
  simp only [semUn, St.arg] at hs
  split at hs
  · rename_i b e1
    rw [e1] at r1
    have v1 : a.eval x1 = .bool b := r1.imm_inv.bool_inv
    refine quiet_imm h hs ?_ (.bool _)
    unfold execOp; rw [ho]; simp [v1, Op.unary]
  · rename_i k n e1
    rw [e1] at r1
    have v1 : a.eval x1 = .int k n := r1.imm_inv.int_inv
    refine quiet_imm h hs ?_ (.int _ _)
    unfold execOp; rw [ho]; simp [v1, Op.unary, Op.intArith]
  · exact hs.elim

theorem s_conv (h : Core B st a.tmps w S rho tau) {k : IntKind} {s t : TypeId} {x1 : Operand} {y1 : Opd} (ho : o.op = .convert s t x1) (hsrc : (P.underlying s).isSome = true) (ht : P.underlying t = some (.int k)) (h1 : opdOk x1 y1 = true)
    (hs : semConv K k [st.arg y1]) : Quiet P B st o a w rho tau K := by
  have r1 := h.vw (defers := a.defers) h1
  simp only [semConv, St.arg] at hs
  split at hs
  · rename_i q n e1
    rw [e1] at r1
    have v1 : a.eval x1 = .int q n := r1.imm_inv.int_inv
    refine quiet_imm h hs ?_ (.int _ _)
    obtain ⟨d, hd⟩ := Option.isSome_iff_exists.1 hsrc
    unfold execOp; rw [ho]
    simp [v1, convert, run_underlying hd, run_underlying ht, Conv.intToInt]
  · exact hs.elim

end ops
end Go.DI

/- Each operation does to the machine what it does to the data: parts, slices, lengths. No condition. -/
namespace Go.DI
open Go.RowKit

theorem opdsOk_get : ∀ {xs : List Operand} {ys : List Opd}, opdsOk xs ys = true → xs.length = ys.length ∧ ∀ (i : Nat) (x : Operand) (y : Opd), xs[i]? = some x → ys[i]? = some y → opdOk x y = true
  | [], [], _ => by simp
  | [], _ :: _, h => by simp [opdsOk] at h
  | _ :: _, [], h => by simp [opdsOk] at h
  | x :: xs, y :: ys, h => by
    simp [opdsOk] at h
    have ih := opdsOk_get h.2
    refine ⟨by simp [ih.1], fun i u v hu hv => ?_⟩
    cases i with
    | zero => simp at hu hv; subst hu; subst hv; exact h.1
    | succ i => simp at hu hv; exact ih.2 i u v hu hv

section ops
variable {P : Program} {B : Base} {st : St} {a : Act} {w : World} {S : Nat → Nat → Prop} {rho : Nat → Nat} {tau : Nat → Value} {o : Oper} {K : DV → Option Res → Prop}

theorem imm_args (h : Core B st a.tmps w S rho tau) {xs : List Operand} {ys : List Opd} (hx : opdsOk xs ys = true) {ds : List IV} (hd : allImm ((ys.map st.arg).map (·.vw)) = some ds) :
    (xs.map a.eval).length = ds.length ∧ ∀ (i : Nat) (d : IV) (v : Value), ds[i]? = some d → (xs.map a.eval)[i]? = some v → Rd w S d v := by
  have ho := opdsOk_get hx
  have hi := allImm_get hd
  refine ⟨by simp at hi ⊢; omega, fun i d v hdi hv => ?_⟩
  have h1 := hi.2 i d hdi
  simp only [List.map_map, List.getElem?_map, Option.map_eq_some_iff] at h1 hv
  obtain ⟨y, hy, e1⟩ := h1
  obtain ⟨x, hxi, rfl⟩ := hv
  have := h.vw (defers := a.defers) (ho.2 i x y hxi hy)
  simp only [Function.comp, St.arg] at e1
  rw [e1] at this
  exact this.imm_inv

theorem raw_args (h : Core B st a.tmps w S rho tau) {xs : List Operand} {ys : List Opd} (hx : opdsOk xs ys = true) :
    (xs.map a.eval).length = ((ys.map st.arg).map (·.raw)).length ∧ ∀ (i : Nat) (d : DV) (v : Value), ((ys.map st.arg).map (·.raw))[i]? = some d → (xs.map a.eval)[i]? = some v → Rl w S rho tau d v := by
  have ho := opdsOk_get hx
  refine ⟨by simp; omega, fun i d v hdi hv => ?_⟩
  simp only [List.map_map, List.getElem?_map, Option.map_eq_some_iff] at hdi hv
  obtain ⟨y, hy, e1⟩ := hdi
  obtain ⟨x, hxi, rfl⟩ := hv
  have := h.ev (defers := a.defers) (ho.2 i x y hxi hy)
  simp only [Function.comp, St.arg] at e1
  rw [e1] at this
  exact this

theorem namesAll_of {id : Nat} : ∀ {cs : List DV}, DV.names.namesAll id cs = true → ∃ c ∈ cs, c.names id = true
  | [], h => by simp [DV.names.namesAll] at h
  | d :: r, h => by
    simp only [DV.names.namesAll, Bool.or_eq_true] at h
    rcases h with h | h
    · exact ⟨d, by simp, h⟩
    · obtain ⟨c, hc, hn⟩ := namesAll_of h
      exact ⟨c, by simp [hc], hn⟩

theorem s_mkfn (h : Core B st a.tmps w S rho tau) {f : FuncId} {x1 x2 : Array Operand} {ys : List Opd} (ho : o.op = .makeFunc (.func f) x1 x2) (hx : opdsOk (x1.toList ++ x2.toList) ys = true)
    (hs : semMkfn K f x1.size (ys.map st.arg)) : Quiet P B st o a w rho tau K := by
  have hrun : (execOp a.eval o).run P w = .ok (.value (.func (.func f) (x1.toList.map a.eval).toArray (x2.toList.map a.eval).toArray)) w := by
    unfold execOp; rw [ho]
    have e : ∀ z : Array Operand, z.map a.eval = (z.toList.map a.eval).toArray := fun z => by apply Array.ext'; simp
    simp [Instr.makeFunc, e]
  simp only [semMkfn] at hs
  obtain ⟨hle, hs⟩ := hs
  split at hs
  · rename_i vs hv
    obtain ⟨hl, hr⟩ := imm_args h hx hv
    simp at hl
    refine quiet_imm h hs hrun ?_
    have hlen : x1.size ≤ vs.length := by omega
    refine .func f _ _ _ _ (by simp; omega) (by simp; omega) ?_ ?_
    · intro i d v hd hv'
      have hi : i < x1.size := by have := (List.getElem?_eq_some_iff.1 hv').1; simpa using this
      rw [List.getElem?_take_of_lt hi] at hd
      refine hr i d v hd ?_
      simp only [List.map_append]
      rw [List.getElem?_append_left (by simpa using hi)]
      exact hv'
    · intro i d v hd hv'
      rw [List.getElem?_drop] at hd
      refine hr _ d v hd ?_
      simp only [List.map_append]
      rw [List.getElem?_append_right (by simp)]
      simpa using hv'
  · obtain ⟨hl, hr⟩ := raw_args h hx
    simp only [List.length_map] at hle
    refine quiet_val h hs hrun ?_ ?_
    · refine .fn f _ _ _ _ (by simp at hl ⊢; omega) (by simp at hl ⊢; omega) ?_ ?_
      · intro i d v hd hv'
        have hi : i < x1.size := by have := (List.getElem?_eq_some_iff.1 hv').1; simpa using this
        rw [List.getElem?_take_of_lt hi] at hd
        refine hr i d v hd ?_
        simp only [List.map_append]
        rw [List.getElem?_append_left (by simpa using hi)]
        exact hv'
      · intro i d v hd hv'
        rw [List.getElem?_drop] at hd
        refine hr _ d v hd ?_
        simp only [List.map_append]
        rw [List.getElem?_append_right (by simp)]
        simpa using hv'
    · intro id hn
      simp only [DV.names, Bool.or_eq_true] at hn
      have key : ∀ c ∈ (ys.map st.arg).map (·.raw), c.names id = true → (st.res id).isSome = true := by
        intro c hc hcn
        simp only [List.map_map, List.mem_map, Function.comp, St.arg] at hc
        obtain ⟨y, _, rfl⟩ := hc
        exact St.evC h.envC y id hcn
      rcases hn with hn | hn
      · obtain ⟨c, hc, hcn⟩ := namesAll_of hn
        exact key c (List.mem_of_mem_take hc) hcn
      · obtain ⟨c, hc, hcn⟩ := namesAll_of hn
        exact key c (List.mem_of_mem_drop hc) hcn

theorem partIV_rd {cs : List IV} {vs : List Value} (hl : vs.length = cs.length) (hr : ∀ (i : Nat) (x : IV) (u : Value), cs[i]? = some x → vs[i]? = some u → Rd w S x u)
    (ha : ∀ (i : Nat) (u : Value), vs[i]? = some u → u.oneCell' = true) {off n : Nat} {agg : Bool} {t : TypeId} (hag : aggIs P t agg = true) (hsz : szIs P t n = true) {v : IV} (hp : partIV cs off n agg = some v)
    (hle : agg = true → off + n ≤ cs.length) : ∃ u, (part t vs.toArray off).run P w = .ok u w ∧ Rd w S v u := by
  unfold partIV at hp
  cases agg
  · simp at hp
    have hlt : off < vs.length := by
      have := (List.getElem?_eq_some_iff.1 hp).1
      omega
    refine ⟨vs[off], ?_, hr off v _ hp (by simp [hlt])⟩
    unfold part
    simp only [Sem.run_bind, run_isAgg' hag, Result.andThen_ok]
    simp [hlt]
  · simp at hp
    subst hp
    have hle' := hle rfl
    refine ⟨.agg ((vs.drop off).take n).toArray, ?_, ?_⟩
    · unfold part
      simp only [Sem.run_bind, run_isAgg' hag, Result.andThen_ok]
      simp [run_sizeOf' hsz, List.take_drop]
    · refine .agg _ _ (by simp; omega) ?_ ?_
      · intro i x u hx hu
        rw [getElem?_slice] at hx hu
        split at hx
        · rename_i hi; rw [if_pos hi] at hu; exact hr _ x u hx hu
        · simp at hx
      · intro i u hu
        rw [getElem?_slice] at hu
        split at hu
        · exact ha _ u hu
        · simp at hu

theorem partDV_rl {cs : List DV} {vs : List Value} (hl : vs.length = cs.length) (hr : ∀ (i : Nat) (x : DV) (u : Value), cs[i]? = some x → vs[i]? = some u → Rl w S rho tau x u)
    (ha : ∀ (i : Nat) (u : Value), vs[i]? = some u → u.oneCell' = true) {off n : Nat} {agg : Bool} {t : TypeId} (hag : aggIs P t agg = true) (hsz : szIs P t n = true) {v : DV} (hp : partDV cs off n agg = some v)
    (hle : agg = true → off + n ≤ cs.length) : ∃ u, (part t vs.toArray off).run P w = .ok u w ∧ Rl w S rho tau v u := by
  unfold partDV at hp
  cases agg
  · simp at hp
    have hlt : off < vs.length := by
      have := (List.getElem?_eq_some_iff.1 hp).1
      omega
    refine ⟨vs[off], ?_, hr off v _ hp (by simp [hlt])⟩
    unfold part
    simp only [Sem.run_bind, run_isAgg' hag, Result.andThen_ok]
    simp [hlt]
  · simp at hp
    subst hp
    have hle' := hle rfl
    refine ⟨.agg ((vs.drop off).take n).toArray, ?_, ?_⟩
    · unfold part
      simp only [Sem.run_bind, run_isAgg' hag, Result.andThen_ok]
      simp [run_sizeOf' hsz, List.take_drop]
    · refine mkAgg_rl (by simp; omega) ?_ ?_
      · intro i x u hx hu
        rw [getElem?_slice] at hx hu
        split at hx
        · rename_i hi; rw [if_pos hi] at hu; exact hr _ x u hx hu
        · simp at hx
      · intro i u hu
        rw [getElem?_slice] at hu
        split at hu
        · exact ha _ u hu
        · simp at hu

end ops
end Go.DI

/- Each operation does to the machine what it does to the data: addresses, elements, slices. No condition. -/
namespace Go.DI
open Go.RowKit

theorem add_addr (b o n : Nat) : (⟨b, o, none⟩ : Addr).add n = ⟨b, o + n, none⟩ := by
  unfold Addr.add
  split
  · rename_i h; subst h; rfl
  · rfl

def fieldIs (P : Program) (t : TypeId) (f off : Nat) (agg : Bool) (n : Nat) : Bool :=
  match P.underlying t with
  | some (.struct fs) => match fs[f]? with
    | some fd => fd.offset == off && aggIs P fd.type agg && szIs P fd.type n
    | none => false
  | _ => false

theorem fieldIs_of {P : Program} {t : TypeId} {f off : Nat} {agg : Bool} {n : Nat} (h : fieldIs P t f off agg n = true) :
    ∃ fs fd, P.underlying t = some (.struct fs) ∧ fs[f]? = some fd ∧ fd.offset = off ∧ aggIs P fd.type agg = true ∧ szIs P fd.type n = true := by
  unfold fieldIs at h
  split at h
  · rename_i fs hu
    split at h
    · rename_i fd hf
      simp at h
      exact ⟨fs, fd, hu, hf, h.1.1, h.1.2, h.2⟩
    · simp at h
  · simp at h

def sliceIs (P : Program) (t : TypeId) (sz : Nat) : Bool :=
  match P.underlying t with
  | some (.slice e) => szIs P e sz
  | _ => false
def arrIs (P : Program) (t : TypeId) (len sz : Nat) (agg : Bool) : Bool :=
  match P.underlying t with
  | some (.array n e) => n == len && szIs P e sz && aggIs P e agg
  | _ => false

theorem sliceIs_of {P : Program} {t : TypeId} {sz : Nat} (h : sliceIs P t sz = true) : ∃ e, P.underlying t = some (.slice e) ∧ szIs P e sz = true := by
  unfold sliceIs at h
  split at h
  · exact ⟨_, by assumption, h⟩
  · simp at h
theorem arrIs_of {P : Program} {t : TypeId} {len sz : Nat} {agg : Bool} (h : arrIs P t len sz agg = true) : ∃ e, P.underlying t = some (.array len e) ∧ szIs P e sz = true ∧ aggIs P e agg = true := by
  unfold arrIs at h
  split at h
  · rename_i n e hu
    simp at h
    obtain ⟨⟨rfl, h1⟩, h2⟩ := h
    exact ⟨e, hu, h1, h2⟩
  · simp at h

theorem RdMem.part {w S} {cs : List IV} {b o off n : Nat} {agg : Bool} {v : IV} (h : RdMem w S (.agg cs) b o) (hp : partIV cs off n agg = some v) (ht : v.isTup = false) (hg : agg = false → v.isAgg = false) : RdMem w S v b (o + off) := by
  unfold partIV at hp
  cases agg
  · simp at hp
    have hc : v.cells = [v] := by have := hg rfl; cases v <;> simp_all [IV.cells, IV.isAgg]
    intro j x hj
    rw [hc] at hj
    have hj0 : j = 0 := by have := (List.getElem?_eq_some_iff.1 hj).1; simp at this; omega
    subst hj0; simp at hj; subst hj
    exact h off v hp
  · simp at hp
    subst hp
    intro j x hj
    simp only [IV.cells] at hj
    rw [getElem?_slice] at hj
    split at hj
    · have := h (off + j) x hj
      rwa [← Nat.add_assoc] at this
    · simp at hj

section ops
variable {P : Program} {B : Base} {st : St} {a : Act} {w : World} {S : Nat → Nat → Prop} {rho : Nat → Nat} {tau : Nat → Value} {o : Oper} {K : DV → Option Res → Prop}

theorem s_faddr (h : Core B st a.tmps w S rho tau) {t : TypeId} {x : Operand} {y : Opd} {f off n : Nat} {agg : Bool} (ho : o.op = .fieldAddr t x f) (hf : fieldIs P t f off agg n = true) (hn0 : n ≠ 0) (hx : opdOk x y = true)
    (hs : semFaddr K off agg n [st.arg y]) : Quiet P B st o a w rho tau K := by
  obtain ⟨fs, fd, hu, hfd, rfl, hag, hsz⟩ := fieldIs_of hf
  have hr := (h.ev (defers := a.defers) hx).pt
  have hc : ∀ id, (st.ev y).pt.names id = true → (st.res id).isSome = true := fun id hn => St.evC h.envC y id (by rwa [DV.pt_names] at hn)
  have hrun : ∀ b q, a.eval x = .pointer (some ⟨b, q, none⟩) → (execOp a.eval o).run P w = .ok (.value (.pointer (some ⟨b, q + fd.offset, none⟩))) w := by
    intro b q e
    unfold execOp; rw [ho]
    simp [e, Instr.fieldAt, run_underlying hu, hfd, Instr.sureAddr, fieldPlace, run_sizeOf' hsz, hn0, add_addr]
  simp only [semFaddr, St.arg] at hs
  split at hs
  · rename_i i q e
    rw [e] at hr hc
    have hr' : Rl w S rho tau (.ref i q) (a.eval x) := hr
    generalize hv : a.eval x = v at hr'
    cases hr' with
    | ref _ _ => exact quiet_val h hs (hrun _ _ hv) (.ref _ _) (fun id hid => hc id (by simpa [DV.names] using hid))
  · rename_i cs e
    rw [e] at hr hc
    have hr' : Rl w S rho tau (.pim (.agg cs)) (a.eval x) := hr
    generalize hv : a.eval x = v at hr'
    cases hr' with
    | pim _ b q hm =>
      simp only [semPim] at hs
      split at hs
      · rename_i v hp
        obtain ⟨h1, h2, h3, h4⟩ := hs
        exact quiet_val h h4 (hrun _ _ hv) (.pim _ _ _ (hm.part hp h2 h3)) (by simp [DV.names])
      · exact hs.elim
  · exact hs.elim

theorem names_mkAgg {id : Nat} {cs : List DV} (h : (mkAgg cs).names id = true) : ∃ c ∈ cs, c.names id = true := by
  unfold mkAgg at h
  split at h
  · simp [DV.names] at h
  · simp only [DV.names] at h; exact namesAll_of h

theorem names_partDV {id : Nat} {cs : List DV} {off n : Nat} {agg : Bool} {v : DV} (hp : partDV cs off n agg = some v) (h : v.names id = true) : ∃ c ∈ cs, c.names id = true := by
  unfold partDV at hp
  cases agg
  · simp at hp; exact ⟨v, List.mem_of_getElem? hp, h⟩
  · simp at hp; subst hp
    obtain ⟨c, hc, hn⟩ := names_mkAgg h
    exact ⟨c, List.mem_of_mem_drop (List.mem_of_mem_take hc), hn⟩

theorem namesAll_mem {id : Nat} : ∀ {cs : List DV} {c : DV}, c ∈ cs → c.names id = true → DV.names.namesAll id cs = true
  | d :: r, c, hc, hn => by
    simp only [DV.names.namesAll, Bool.or_eq_true]
    rcases List.mem_cons.1 hc with rfl | hc
    · exact .inl hn
    · exact .inr (namesAll_mem hc hn)

theorem names_view {res : Nat → Option Res} {id : Nat} : ∀ {d : DV}, (view res d).names id = true → d.names id = true := by
  intro d
  exact DV.rec (motive_1 := fun d => (view res d).names id = true → d.names id = true)
    (motive_2 := fun cs => DV.names.namesAll id (viewAll res cs) = true → DV.names.namesAll id cs = true)
    (by intro h; unfold view at h; exact h)
    (by intro v h; unfold view at h; exact h)
    (by
      intro i q h
      unfold view at h
      split at h
      · simp [DV.names] at h
      · exact h)
    (by intro v h; unfold view at h; simp [DV.names] at h)
    (by
      intro i q n h
      unfold view at h
      split at h
      · split at h <;> simp [DV.names] at h
      · exact h)
    (by
      intro t h
      unfold view at h
      split at h <;> simp [DV.names] at h)
    (by intro sz es h; unfold view at h; simp [DV.names] at h)
    (by
      intro cs ih h
      unfold view at h
      obtain ⟨c, hc, hn⟩ := names_mkAgg h
      exact ih (namesAll_mem hc hn))
    (by
      intro f p q ih1 ih2 h
      unfold view at h
      split at h
      · simp [DV.names] at h
      · exact h)
    (by intro l h; exact h)
    (by intro z h; unfold view at h; simp [DV.names] at h)
    (by intro h; exact h)
    (by
      intro d r ih1 ih2 h
      simp only [viewAll, DV.names.namesAll, Bool.or_eq_true] at h ⊢
      exact h.imp ih1 ih2) d

theorem St.vwC {st : St} (hC : ∀ x id, (st.env x).names id = true → (st.res id).isSome = true) (y : Opd) : ∀ id, (view st.res (st.ev y)).names id = true → (st.res id).isSome = true :=
  fun id hid => St.evC hC y id (names_view hid)

theorem s_field (h : Core B st a.tmps w S rho tau) {t : TypeId} {x : Operand} {y : Opd} {f off n : Nat} {agg : Bool} (ho : o.op = .field t x f) (hf : fieldIs P t f off agg n = true) (hx : opdOk x y = true)
    (hs : semField K off agg n [st.arg y]) : Quiet P B st o a w rho tau K := by
  obtain ⟨fs, fd, hu, hfd, rfl, hag, hsz⟩ := fieldIs_of hf
  have hr := h.vw (defers := a.defers) hx
  have hc := St.vwC h.envC y
  have hrun : ∀ vs : List Value, a.eval x = .agg vs.toArray → ∀ u, (part fd.type vs.toArray fd.offset).run P w = .ok u w → (execOp a.eval o).run P w = .ok (.value u) w := by
    intro vs e u hp
    unfold execOp; rw [ho]
    simp [e, Instr.field, run_underlying hu, hfd, asAgg, hp]
  simp only [semField, St.arg] at hs
  split at hs
  · rename_i cs e
    rw [e] at hr
    obtain ⟨vs, hv, hl, hrr, ha⟩ := hr.imm_inv.agg_inv
    split at hs
    · rename_i v hp
      obtain ⟨u, hu1, hu2⟩ := partIV_rd (P := P) hl hrr ha hag hsz hp hs.1
      exact quiet_imm h hs.2 (hrun vs hv u hu1) hu2
    · exact hs.elim
  · rename_i cs e
    rw [e] at hr hc
    obtain ⟨vs, hv, hl, hrr, ha⟩ := hr.agg_inv
    split at hs
    · rename_i v hp
      obtain ⟨u, hu1, hu2⟩ := partDV_rl (P := P) hl hrr ha hag hsz hp hs.1
      refine quiet_val h hs.2 (hrun vs hv u hu1) hu2 ?_
      intro id hid
      obtain ⟨c, hcm, hcn⟩ := names_partDV hp hid
      exact hc id (by simp only [DV.names]; exact namesAll_mem hcm hcn)
    · exact hs.elim
  · exact hs.elim

theorem Rd.slc_elem {w S sz es a n cap} (h : Rd w S (.slc sz es) (.slice a n cap)) {i : Nat} {e : IV} (he : es[i]? = some e) : ∃ b q, a = some ⟨b, q, none⟩ ∧ RdMem w S e b (q + i * sz) ∧ e.cells.length = sz := by
  cases h with
  | nils => simp at he
  | slc _ _ b q cap c hc hs hz hr ha =>
    refine ⟨b, q, rfl, fun j x hj => ?_, hz i e he⟩
    have hi : i < es.length := (List.getElem?_eq_some_iff.1 he).1
    have hjl : j < sz := by have := (List.getElem?_eq_some_iff.1 hj).1; rw [hz i e he] at this; exact this
    have hlt : i * sz + j < es.length * sz := by
      have : (i + 1) * sz ≤ es.length * sz := Nat.mul_le_mul_right _ hi
      rw [Nat.succ_mul] at this; omega
    obtain ⟨h1, h2⟩ := hs (i * sz + j) hlt
    rw [Nat.add_assoc]
    exact ⟨h1, _, h2, ha i e j x he hj, hr i e j x he hj⟩

theorem Rd.slc_form {w S sz es v} (h : Rd w S (.slc sz es) v) : ∃ a cap, v = .slice a es.length cap ∧ es.length ≤ cap ∧ ((a = none ∧ cap = 0) ∨ ∃ b q, a = some ⟨b, q, none⟩) := by
  cases h with
  | nils => exact ⟨none, 0, rfl, Nat.le_refl _, .inl ⟨rfl, rfl⟩⟩
  | slc _ _ b q cap c hc hs hz hr ha => exact ⟨_, cap, rfl, hc, .inr ⟨b, q, rfl⟩⟩

theorem getD_get {es : List IV} {i : Nat} (h : i < es.length) : es[i]? = some (es.getD i .nilp) := by simp [List.getD, h]

theorem s_iaddr (h : Core B st a.tmps w S rho tau) {t : TypeId} {x1 x2 : Operand} {y1 y2 : Opd} {sz : Nat} (ho : o.op = .indexAddr t x1 x2) (ht : sliceIs P t sz = true) (h1 : opdOk x1 y1 = true) (h2 : opdOk x2 y2 = true)
    (hs : semIaddr K sz [st.arg y1, st.arg y2]) : Quiet P B st o a w rho tau K := by
  obtain ⟨e, hu, hsz⟩ := sliceIs_of ht
  have r1 := h.vw (defers := a.defers) h1
  have r2 := h.vw (defers := a.defers) h2
  have hc := St.vwC h.envC y1
  have hrun : ∀ b q n cap k (i : Int), a.eval x1 = .slice (some ⟨b, q, none⟩) n cap → a.eval x2 = .int k i → 0 ≤ i → i < n → (execOp a.eval o).run P w = .ok (.value (.pointer (some ⟨b, q + i.toNat * sz, none⟩))) w := by
    intro b q n cap k i e1 e2 i0 i1
    unfold execOp; rw [ho]
    simp [e1, e2, Instr.indexAt, asIntOf, run_underlying hu, run_sizeOf' hsz, i0, i1, add_addr]
  simp only [semIaddr, St.arg] at hs
  split at hs
  · rename_i z es k i e1 e2
    rw [e1] at r1; rw [e2] at r2
    obtain ⟨rfl, i0, i1, hk⟩ := hs
    obtain ⟨aa, cap, hv1, hcap, hform⟩ := r1.imm_inv.slc_form
    have hv2 := r2.imm_inv.int_inv
    have rr := r1.imm_inv
    rw [hv1] at rr
    have hi : i.toNat < es.length := by omega
    obtain ⟨b, q, rfl, hm, hzz⟩ := rr.slc_elem (getD_get hi)
    exact quiet_val h hk (hrun b q _ cap k i hv1 hv2 i0 i1) (.pim _ _ _ hm) (by simp [DV.names])
  · rename_i id off n k i e1 e2
    rw [e1] at r1 hc; rw [e2] at r2
    obtain ⟨rfl, i0, i1, hk⟩ := hs
    have hv2 := r2.imm_inv.int_inv
    have r1' : Rl w S rho tau (.vec id off n) (a.eval x1) := r1
    generalize hv : a.eval x1 = v at r1'
    cases r1' with
    | vec _ _ _ cap aa hcap ha hz =>
      have hn : n ≠ 0 := by omega
      have := ha hn
      subst this
      have := hrun _ _ _ _ _ _ hv hv2 i0 i1
      rw [Nat.mul_one] at this
      exact quiet_val h hk this (.ref _ _) (fun id hid => hc id (by simpa [DV.names] using hid))
  · exact hs.elim

theorem s_iarr (h : Core B st a.tmps w S rho tau) {t : TypeId} {x1 x2 : Operand} {y1 y2 : Opd} {len sz : Nat} {agg : Bool} (ho : o.op = .indexAddr t x1 x2) (ht : arrIs P t len sz agg = true) (h1 : opdOk x1 y1 = true) (h2 : opdOk x2 y2 = true)
    (hs : semIarr K len sz agg [st.arg y1, st.arg y2]) : Quiet P B st o a w rho tau K := by
  obtain ⟨e, hu, hsz, hag⟩ := arrIs_of ht
  have r1 := (h.ev (defers := a.defers) h1).pt
  have r2 := h.vw (defers := a.defers) h2
  have hc : ∀ id, (st.ev y1).pt.names id = true → (st.res id).isSome = true := fun id hn => St.evC h.envC y1 id (by rwa [DV.pt_names] at hn)
  have hrun : ∀ b q k (i : Int), a.eval x1 = .pointer (some ⟨b, q, none⟩) → a.eval x2 = .int k i → 0 ≤ i → i < len → (execOp a.eval o).run P w = .ok (.value (.pointer (some ⟨b, q + i.toNat * sz, none⟩))) w := by
    intro b q k i e1 e2 i0 i1
    unfold execOp; rw [ho]
    simp [e1, e2, Instr.indexAt, asIntOf, run_underlying hu, run_sizeOf' hsz, i0, i1, add_addr, Instr.sureAddr]
  simp only [semIarr, St.arg] at hs
  split at hs
  · rename_i id q k i e1 e2
    rw [e1] at r1 hc; rw [e2] at r2
    have hv2 := r2.imm_inv.int_inv
    have r1' : Rl w S rho tau (.ref id q) (a.eval x1) := r1
    generalize hv : a.eval x1 = v at r1'
    cases r1' with
    | ref _ _ => exact quiet_val h hs.2.2 (hrun _ _ _ _ hv hv2 hs.1 hs.2.1) (.ref _ _) (fun id hid => hc id (by simpa [DV.names] using hid))
  · rename_i cs k i e1 e2
    rw [e1] at r1; rw [e2] at r2
    have hv2 := r2.imm_inv.int_inv
    have r1' : Rl w S rho tau (.pim (.agg cs)) (a.eval x1) := r1
    generalize hv : a.eval x1 = v at r1'
    obtain ⟨i0, i1, hs⟩ := hs
    cases r1' with
    | pim _ b q hm =>
      simp only [semPim] at hs
      split at hs
      · rename_i v hp
        exact quiet_val h hs.2.2.2 (hrun _ _ _ _ hv hv2 i0 i1) (.pim _ _ _ (hm.part hp hs.2.1 hs.2.2.1)) (by simp [DV.names])
      · exact hs.elim
  · exact hs.elim

theorem s_index (h : Core B st a.tmps w S rho tau) {t : TypeId} {x1 x2 : Operand} {y1 y2 : Opd} {len sz : Nat} {agg : Bool} (ho : o.op = .index t x1 x2) (ht : arrIs P t len sz agg = true) (h1 : opdOk x1 y1 = true) (h2 : opdOk x2 y2 = true)
    (hs : semIndex K len sz agg [st.arg y1, st.arg y2]) : Quiet P B st o a w rho tau K := by
  obtain ⟨e, hu, hsz, hag⟩ := arrIs_of ht
  have r1 := h.vw (defers := a.defers) h1
  have hc := St.vwC h.envC y1
  have r2 := h.vw (defers := a.defers) h2
  simp only [semIndex, St.arg] at hs
  split at hs
  · rename_i cs k i e1 e2
    rw [e1] at r1; rw [e2] at r2
    obtain ⟨vs, hv, hl, hrr, ha⟩ := r1.imm_inv.agg_inv
    have hv1 : a.eval x1 = .agg vs.toArray := hv
    have hv2 : a.eval x2 = .int k i := r2.imm_inv.int_inv
    obtain ⟨i0, i1, hs⟩ := hs
    split at hs
    · rename_i v hp
      obtain ⟨u, hu1, hu2⟩ := partIV_rd (P := P) hl hrr ha hag hsz hp hs.1
      refine quiet_imm h hs.2 ?_ hu2
      unfold execOp; rw [ho]
      simp [hv1, hv2, Instr.index, asIntOf, run_underlying hu, run_sizeOf' hsz, i0, i1, hu1]
    · exact hs.elim
  · rename_i cs k i e1 e2
    rw [e1] at r1 hc; rw [e2] at r2
    obtain ⟨vs, hv, hl, hrr, ha⟩ := r1.agg_inv
    have hv1 : a.eval x1 = .agg vs.toArray := hv
    have hv2 : a.eval x2 = .int k i := r2.imm_inv.int_inv
    obtain ⟨i0, i1, hs⟩ := hs
    split at hs
    · rename_i v hp
      obtain ⟨u, hu1, hu2⟩ := partDV_rl (P := P) hl hrr ha hag hsz hp hs.1
      refine quiet_val h hs.2 ?_ hu2 ?_
      · unfold execOp; rw [ho]
        simp [hv1, hv2, Instr.index, asIntOf, run_underlying hu, run_sizeOf' hsz, i0, i1, hu1]
      · intro id hid
        obtain ⟨c, hcm, hcn⟩ := names_partDV hp hid
        exact hc id (by simp only [DV.names]; exact namesAll_mem hcm hcn)
    · exact hs.elim
  · exact hs.elim

theorem s_sidx (h : Core B st a.tmps w S rho tau) {t : TypeId} {x1 x2 : Operand} {y1 y2 : Opd} (ho : o.op = .index t x1 x2) (ht : P.underlying t = some .string) (h1 : opdOk x1 y1 = true) (h2 : opdOk x2 y2 = true)
    (hs : semSidx K [st.arg y1, st.arg y2]) : Quiet P B st o a w rho tau K := by
  have r1 := h.vw (defers := a.defers) h1
  have r2 := h.vw (defers := a.defers) h2
  simp only [semSidx, St.arg] at hs
  split at hs
  · rename_i s k i e1 e2
    rw [e1] at r1; rw [e2] at r2
    have hv1 : a.eval x1 = .string s := r1.imm_inv.str_inv
    have hv2 : a.eval x2 = .int k i := r2.imm_inv.int_inv
    obtain ⟨i0, i1, hs⟩ := hs
    refine quiet_imm h hs ?_ (.int _ _)
    have hi : i.toNat < s.size := by omega
    have hg : s[i.toNat]? = some (s.data.toList.getD i.toNat 0) := by
      have hd : i.toNat < s.data.size := hi
      rw [getElem?_pos s i.toNat hi]
      congr 1
      show s.data[i.toNat] = _
      simp only [List.getD, Array.getElem?_toList]
      rw [Array.getElem?_eq_getElem hd]; rfl
    unfold execOp; rw [ho]
    simp [hv1, hv2, Instr.index, asIntOf, run_underlying ht, i0, hg]
  · exact hs.elim

theorem s_ext (h : Core B st a.tmps w S rho tau) {x : Operand} {y : Opd} {i : Nat} (ho : o.op = .extract x i) (h1 : opdOk x y = true) (hs : semExt K i [st.arg y]) : Quiet P B st o a w rho tau K := by
  have r1 := h.vw (defers := a.defers) h1
  simp only [semExt, St.arg] at hs
  split at hs
  · rename_i vs e1
    rw [e1] at r1
    have r1' : Rd w S (.tup vs) (a.eval x) := r1.imm_inv
    generalize hv : a.eval x = v at r1'
    split at hs
    · rename_i d hd
      cases r1' with
      | tup _ us hl hr =>
        have hi : i < us.length := by have := (List.getElem?_eq_some_iff.1 hd).1; omega
        refine quiet_imm h hs (v := us[i]) ?_ (hr i d _ hd (by simp [hi]))
        unfold execOp; rw [ho]
        simp [hv, Instr.extract, hi]
    · exact hs.elim
  · exact hs.elim

end ops
end Go.DI


/- Limits of lakes and what violates them. No condition. -/
import Derived.Test.YtnkdmcalkgecfaaGreatLmGg
import Derived.Test.YtnkdmcalkgecfaaGreatLmGe
import Derived.Test.YtnkdmcalkgecfaaGreatProg
import Derived.KernelRfl
import Derived.Test.YtnkdmcalkgecfaaGreatLmGl
/- Lakes as plain data: limits, and the first violation of a run. No condition. -/
namespace Go.DI.Lk

structure Lim where
  lo : Int
  hi : Int
  fall : Int
  rise : Int
  win : Int
  deriving Inhabited, DecidableEq
structure Lims where
  u : Lim
  l : Lim
  deriving Inhabited, DecidableEq

def limOk (l : List Kn) (x : Lim) : Prop := isL l x.lo ∧ isL l x.hi ∧ Wi x.fall 0 1000000 ∧ Wi x.rise 0 1000000 ∧ Wi x.win 1 200
instance {l : List Kn} {x : Lim} : Decidable (limOk l x) := by unfold limOk isL Wi; infer_instance
def limErr (l : List Kn) (x : Lim) : Int := if limOk l x then if x.lo ≤ x.hi then 0 else 9 else 2
def limsErr (p : Pair) (L : Lims) : Int := if limErr p.u L.u = 0 then limErr p.l L.l else limErr p.u L.u

def lvl (l : List Kn) (v : Int) : Rat := Rat.divInt ((kn l (atV l v - 1)).1 * dv l (atV l v) + (v - (kn l (atV l v - 1)).2) * dh l (atV l v)) (dv l (atV l v))

def kindOf (x : Lim) (now before : Rat) : Option Nat :=
  if now < (x.lo : Rat) then some 0 else if (x.hi : Rat) < now then some 1 else if (x.fall : Rat) < before - now then some 2 else if (x.rise : Rat) < now - before then some 3 else none
def vLake (l : List Kn) (x : Lim) (f : Nat → Int) (t : Nat) : Option Nat := kindOf x (lvl l (f t)) (lvl l (f (t - x.win.toNat)))
def vAt (p : Pair) (L : Lims) (f : Nat → Sta) (t : Nat) : Option (Nat × Nat) :=
  match vLake p.u L.u (fun i => (f i).1) t with
  | some k => some (0, k)
  | none => (vLake p.l L.l (fun i => (f i).2) t).map fun k => (1, k)
def nth (ss : List Sta) (i : Nat) : Sta := ss.getD i (0, 0)

theorem vAt_congr {p : Pair} {L : Lims} {f g : Nat → Sta} {t : Nat} (h : ∀ i, i ≤ t → f i = g i) : vAt p L f t = vAt p L g t := by
  unfold vAt vLake
  have h1 := h t (Nat.le_refl _)
  have h2 := h (t - L.u.win.toNat) (Nat.sub_le ..)
  have h3 := h (t - L.l.win.toNat) (Nat.sub_le ..)
  simp only [h1, h2, h3]

abbrev Vio := Nat × Nat × Nat

def vio (p : Pair) (L : Lims) : List Sta → Sta → List Flow → Option Vio × Int
  | _, _, [] => (none, 12)
  | ss, s, x :: r => match step p s x with
    | none => (none, 22)
    | some (t, _, _) => match vAt p L (nth (ss ++ [t])) ss.length with
      | some q => (some (ss.length, q), 0)
      | none => vio p L (ss ++ [t]) t r

def wat (p : Pair) (L : Lims) : List Sta → Sta → List Flow → List (Bool × Option Vio)
  | _, _, [] => []
  | ss, s, x :: r => match step p s x with
    | none => [(false, none)]
    | some (t, _, _) => (true, (vAt p L (nth (ss ++ [t])) ss.length).map fun q => (ss.length, q)) :: wat p L (ss ++ [t]) t r
def firstW : List (Bool × Option Vio) → Option Vio × Int
  | [] => (none, 12)
  | (false, _) :: _ => (none, 22)
  | (true, some v) :: _ => (some v, 0)
  | (true, none) :: r => firstW r
theorem firstW_wat {p : Pair} {L : Lims} : ∀ {l : List Flow} {ss : List Sta} {s : Sta}, firstW (wat p L ss s l) = vio p L ss s l
  | [], _, _ => rfl
  | x :: r, ss, s => by
    unfold wat vio
    cases hs : step p s x with
    | none => rfl
    | some q =>
      obtain ⟨t, e, f⟩ := q
      dsimp only
      cases hv : vAt p L (nth (ss ++ [t])) ss.length with
      | none => exact firstW_wat
      | some q => rfl

def scan (p : Pair) (L : Lims) (f : Nat → Sta) : Nat → Nat → Option Vio
  | 0, _ => none
  | m + 1, t => match vAt p L f t with
    | some q => some (t, q)
    | none => scan p L f m (t + 1)
theorem nth_left {a b : List Sta} {i : Nat} (h : i < a.length) : nth (a ++ b) i = nth a i := by
  unfold nth
  rw [List.getD_eq_getElem?_getD, List.getD_eq_getElem?_getD, List.getElem?_append_left h]
theorem scan_vio {p : Pair} {L : Lims} : ∀ {l : List Flow} {ss : List Sta} {s : Sta},
    (match scan p L (nth (ss ++ (runP p s l).1)) (runP p s l).1.length ss.length with
      | some v => (some v, 0)
      | none => (none, if (runP p s l).2.2 = true then 12 else 22)) = vio p L ss s l
  | [], _, _ => rfl
  | x :: r, ss, s => by
    unfold vio
    cases hs : step p s x with
    | none => rw [runP_none hs]; rfl
    | some q =>
      obtain ⟨t, e, f⟩ := q
      rw [runP_some hs]
      dsimp only
      have ec : ss ++ t :: (runP p t r).1 = (ss ++ [t]) ++ (runP p t r).1 := by simp
      have h1 : vAt p L (nth (ss ++ t :: (runP p t r).1)) ss.length = vAt p L (nth (ss ++ [t])) ss.length :=
        vAt_congr fun i hi => by rw [ec]; exact nth_left (by simp; omega)
      rw [List.length_cons]
      unfold scan
      rw [h1]
      cases hv : vAt p L (nth (ss ++ [t])) ss.length with
      | some q => rfl
      | none =>
        dsimp only
        have ih := scan_vio (p := p) (L := L) (l := r) (ss := ss ++ [t]) (s := t)
        rw [← ih, ec]
        simp only [List.length_append, List.length_singleton]

abbrev Hgt := Int × Int × Int
def hgt (l : List Kn) (v : Int) : Hgt := (levLo l v, ((v - (kn l (atV l v - 1)).2) * dh l (atV l v)) % dv l (atV l v), dv l (atV l v))
def hval (a : Hgt) : Rat := (a.1 : Rat) + (a.2.1 : Rat) / (a.2.2 : Rat)
def hOk (a : Hgt) : Prop := 0 ≤ a.2.1 ∧ a.2.1 < a.2.2
def hAbove (a b : Hgt) (more : Int) : Bool := if a.1 - b.1 - more = 0 then decide (b.2.1 * a.2.2 < a.2.1 * b.2.2) else decide (0 < a.1 - b.1 - more)

theorem frac_in {n d : Int} (h0 : 0 ≤ n) (h1 : n < d) : (0 : Rat) ≤ (n : Rat) / (d : Rat) ∧ (n : Rat) / (d : Rat) < 1 := by
  have hd : (0 : Rat) < (d : Rat) := by exact_mod_cast (show 0 < d by omega)
  constructor
  · have h2 : ¬ (n : Rat) / (d : Rat) < 0 := by
      rw [Rat.div_lt_iff hd, Rat.zero_mul]
      exact_mod_cast (show ¬ n < 0 by omega)
    exact Rat.not_lt.1 h2
  · rw [Rat.div_lt_iff hd]
    rw [Rat.one_mul]
    exact_mod_cast h1

theorem hAbove_iff {a b : Hgt} {m : Int} (ha : hOk a) (hb : hOk b) : hAbove a b m = decide (hval b + (m : Rat) < hval a) := by
  obtain ⟨w, n, d⟩ := a
  obtain ⟨w', n', d'⟩ := b
  obtain ⟨a0, a1⟩ := ha
  obtain ⟨b0, b1⟩ := hb
  simp only at a0 a1 b0 b1
  have f1 := frac_in a0 a1
  have f2 := frac_in b0 b1
  unfold hAbove hval
  simp only
  have hd : (0 : Rat) < (d : Rat) := by exact_mod_cast (show 0 < d by omega)
  have hd' : (0 : Rat) < (d' : Rat) := by exact_mod_cast (show 0 < d' by omega)
  generalize hx : (n : Rat) / (d : Rat) = x at *
  generalize hy : (n' : Rat) / (d' : Rat) = y at *
  have en : (n : Rat) = x * d := by rw [← hx]; exact (Rat.div_mul_cancel (by intro h; rw [h] at hd; exact absurd hd (by decide))).symm
  have en' : (n' : Rat) = y * d' := by rw [← hy]; exact (Rat.div_mul_cancel (by intro h; rw [h] at hd'; exact absurd hd' (by decide))).symm
  split
  · rename_i h0
    have hw : w = w' + m := by omega
    subst hw
    congr 1
    have h1 : (n' * d < n * d') ↔ ((n' : Rat) * (d : Rat) < (n : Rat) * (d' : Rat)) := by
      constructor
      · intro h; exact_mod_cast h
      · intro h; exact_mod_cast h
    rw [h1, en, en']
    have h2 : y * ↑d' * ↑d < x * ↑d * ↑d' ↔ y < x := by
      rw [show y * (d' : Rat) * (d : Rat) = y * ((d : Rat) * d') by grind, show x * (d : Rat) * (d' : Rat) = x * ((d : Rat) * d') by grind]
      exact Rat.mul_lt_mul_right (Rat.mul_pos hd hd')
    rw [h2]
    push_cast
    exact propext ⟨fun h => by grind, fun h => by grind⟩
  · rename_i h0
    congr 1
    refine propext ⟨fun h => ?_, fun h => ?_⟩
    · have h3 : (w' : Rat) + m + 1 ≤ w := by exact_mod_cast (show w' + m + 1 ≤ w by omega)
      grind
    · apply Decidable.byContradiction
      intro hn
      have h3 : (w : Rat) + 1 ≤ w' + m := by exact_mod_cast (show w + 1 ≤ w' + m by omega)
      grind
end Go.DI.Lk

/- The functions of the limits of lakes, as data. No condition. -/
namespace Go.DI
open Go.Proofs Go.RowKit
def b9k0 : DCode :=
 (.seq
  (.region [⟨(some 36), .mov, [.t 11], none, []⟩,
    ⟨(some 37), (.pnil true), [.t 36, .c .nilp], none, [0]⟩] false)
  (.cond (.t 37)
   (.seq
    (.region [⟨(some 38), .mov, [.t 11], none, []⟩,
      ⟨(some 39), .nilck, [.t 38], none, [0]⟩,
      ⟨(some 40), (.load true 3), [.t 39], none, [1]⟩,
      ⟨none, (.store 3), [.t 6, .t 40], none, [2, 0, 1, 2]⟩,
      ⟨none, (.store 1), [.t 7, .c (.int .i64 0)], none, [3, 0, 1, 2, 3]⟩] false)
    .ret)
   .skip))
def b9a0 : DCode :=
 (.seq
  (.region [⟨(some 10), .mov, [.t 31], none, []⟩] false)
  (.region [⟨(some 11), .mov, [.t 32], none, []⟩] false))
def b9r0 : DCode :=
 (.block 1
  (.seq
   (.seq
    (.region [⟨(some 33), .mov, [.t 10], none, []⟩,
      ⟨(some 34), (.un .not), [.t 33], none, [0]⟩] false)
    (.cond (.t 34)
     (.seq
      (.region [⟨(some 35), (.build [(.imm (.int .i64 0)), (.imm (.int .i64 0)), (.imm (.int .i64 0))] []), [], none, []⟩,
        ⟨none, (.store 3), [.t 6, .t 35], none, [0, 0]⟩,
        ⟨none, (.store 1), [.t 7, .c (.int .i64 22)], none, [1, 0, 1]⟩] false)
      .ret)
     .skip))
   (.keep [6, 7, 11] [6, 7] b9k0)))
def b9k1 : DCode :=
 (.seq
  (.region [⟨(some 41), (.build [(.imm (.int .i64 0)), (.imm (.int .i64 0)), (.imm (.int .i64 0))] []), [], none, []⟩,
    ⟨none, (.store 3), [.t 6, .t 41], none, [0, 0]⟩,
    ⟨none, (.store 1), [.t 7, .c (.int .i64 12)], none, [1, 0, 1]⟩] false)
  .ret)
def b9k2 : DCode :=
 (.seq
  (.seq
   (.region [⟨(some 23), (.load true 3), [.t 8], none, []⟩,
     ⟨(some 24), (.load true 2), [.t 4], none, []⟩,
     ⟨(some 25), (.faddr 0 true 10), [.t 5], none, []⟩,
     ⟨(some 26), (.load true 10), [.t 25], none, [2]⟩,
     ⟨(some 27), (.faddr 10 false 1), [.t 5], none, []⟩,
     ⟨(some 28), (.load false 1), [.t 27], none, [4]⟩,
     ⟨(some 29), .call, [.f 32, .t 28], none, [5]⟩,
     ⟨(some 30), (.callb []), [.f 31, .t 23, .t 24, .t 26, .t 29], none, [0, 1, 3, 6, 6]⟩] true)
   (.block 0
    (.rangeF (.t 30) [31, 32] [6, 7] [6, 7] [1000] [6, 7] b9a0 b9r0)))
  (.keep [6, 7] [6, 7] b9k1))
def b9 : DCode :=
 (.seq
  (.region [⟨(some 3), .box, [.t 0], none, []⟩,
    ⟨(some 4), .box, [.t 1], none, []⟩,
    ⟨(some 5), .box, [.t 2], none, []⟩,
    ⟨(some 6), (.alloc [(.imm (.int .i64 0)), (.imm (.int .i64 0)), (.imm (.int .i64 0))]), [], none, []⟩,
    ⟨(some 7), (.alloc [(.imm (.int .i64 0))]), [], none, []⟩] false)
  (.seq
   (.region [⟨(some 13), (.load true 3), [.t 3], none, []⟩,
     ⟨(some 14), (.load true 2), [.t 4], none, []⟩,
     ⟨(some 15), (.load true 11), [.t 5], none, []⟩,
     ⟨(some 16), .call, [.f 30, .t 13, .t 14, .t 15], none, [0, 1, 2]⟩,
     ⟨(some 12), .mov, [.t 16], none, [3]⟩,
     ⟨(some 17), (.ext 0), [.t 12], none, [4]⟩,
     ⟨(some 18), (.ext 1), [.t 12], none, [4]⟩,
     ⟨(some 8), (.alloc [(.imm (.slc 2 [])), (.imm (.slc 2 [])), (.imm (.int .i64 0))]), [], none, []⟩,
     ⟨none, (.store 3), [.t 8, .t 17], none, [7, 5, 3, 0, 1, 2, 3, 4, 5, 7]⟩,
     ⟨(some 9), .mov, [.t 18], none, [6, 8, 0, 1, 2, 3, 4, 5, 6, 7, 8]⟩] false)
   (.seq
    (.seq
     (.region [⟨(some 19), .mov, [.t 9], none, []⟩,
       ⟨(some 20), (.bin .neq), [.t 19, .c (.int .i64 0)], none, [0]⟩] false)
     (.cond (.t 20)
      (.seq
       (.region [⟨(some 21), (.build [(.imm (.int .i64 0)), (.imm (.int .i64 0)), (.imm (.int .i64 0))] []), [], none, []⟩,
         ⟨(some 22), .mov, [.t 9], none, []⟩,
         ⟨none, (.store 3), [.t 6, .t 21], none, [0, 0]⟩,
         ⟨none, (.store 1), [.t 7, .t 22], none, [1, 2, 0, 1, 2]⟩] false)
       .ret)
      .skip))
    (.keep [4, 5, 6, 7, 8] [4, 5, 6, 7, 8] b9k2))))
def d9 : DFn := ⟨3, 42, [.cell 6 true 3, .cell 7 false 1], b9⟩
theorem body9 : d9.body = b9 := rfl
theorem res9 : d9.res = [.cell 6 true 3, .cell 7 false 1] := rfl
theorem k9 : chkFn Tryz.prog Tryz.f9 d9 = true := by kernel_rfl

def b14k0 : DCode :=
 (.seq
  (.region [⟨(some 17), .mov, [.t 6], none, []⟩,
    ⟨(some 4), .mov, [.t 17], none, [0, 0]⟩] false)
  .ret)
def b14 : DCode :=
 (.seq
  (.region [⟨(some 2), .box, [.t 0], none, []⟩,
    ⟨(some 3), .box, [.t 1], none, []⟩,
    ⟨(some 4), .mov, [.c (.int .i64 0)], none, []⟩] false)
  (.seq
   (.region [⟨(some 8), (.load true 3), [.t 2], none, []⟩,
     ⟨(some 9), .call, [.f 36, .t 8], none, [0]⟩,
     ⟨(some 7), .mov, [.t 9], none, [1]⟩,
     ⟨(some 10), (.ext 0), [.t 7], none, [2]⟩,
     ⟨(some 11), (.ext 1), [.t 7], none, [2]⟩,
     ⟨(some 5), (.alloc [(.imm (.slc 2 [])), (.imm (.slc 2 [])), (.imm (.int .i64 0))]), [], none, []⟩,
     ⟨none, (.store 3), [.t 5, .t 10], none, [5, 3, 1, 0, 1, 2, 3, 5]⟩,
     ⟨(some 6), .mov, [.t 11], none, [4, 6, 0, 1, 2, 3, 4, 5, 6]⟩] false)
   (.seq
    (.seq
     (.region [⟨(some 12), .mov, [.t 6], none, []⟩,
       ⟨(some 13), (.bin .eql), [.t 12, .c (.int .i64 0)], none, [0]⟩] false)
     (.cond (.t 13)
      (.region [⟨(some 14), (.load true 3), [.t 5], none, []⟩,
        ⟨(some 15), (.load true 10), [.t 3], none, []⟩,
        ⟨(some 16), .call, [.f 37, .t 14, .t 15], none, [0, 1]⟩,
        ⟨(some 6), .mov, [.t 16], none, [2, 2, 0, 1, 2]⟩] false)
      .skip))
    (.keep [6] [] b14k0))))
def d14 : DFn := ⟨2, 18, [.tmp 4], b14⟩
theorem body14 : d14.body = b14 := rfl
theorem res14 : d14.res = [.tmp 4] := rfl
theorem k14 : chkFn Tryz.prog Tryz.f14 d14 = true := by kernel_rfl

def b30k0 : DCode :=
 (.seq
  (.region [⟨(some 27), (.load true 3), [.t 8], none, []⟩,
    ⟨(some 28), .mov, [.t 9], none, []⟩,
    ⟨none, (.store 3), [.t 6, .t 27], none, [0, 0]⟩,
    ⟨(some 7), .mov, [.t 28], none, [1, 2, 0, 1, 2]⟩] false)
  .ret)
def b30 : DCode :=
 (.seq
  (.region [⟨(some 3), .box, [.t 0], none, []⟩,
    ⟨(some 4), .box, [.t 1], none, []⟩,
    ⟨(some 5), .box, [.t 2], none, []⟩,
    ⟨(some 6), (.alloc [(.imm (.slc 2 [])), (.imm (.slc 2 [])), (.imm (.int .i64 0))]), [], none, []⟩,
    ⟨(some 7), .mov, [.c (.int .i64 0)], none, []⟩] false)
  (.seq
   (.region [⟨(some 11), (.load true 3), [.t 3], none, []⟩,
     ⟨(some 12), (.load true 2), [.t 4], none, []⟩,
     ⟨(some 13), .call, [.f 49, .t 11, .t 12], none, [0, 1]⟩,
     ⟨(some 10), .mov, [.t 13], none, [2]⟩,
     ⟨(some 14), (.ext 0), [.t 10], none, [3]⟩,
     ⟨(some 15), (.ext 1), [.t 10], none, [3]⟩,
     ⟨(some 8), (.alloc [(.imm (.slc 2 [])), (.imm (.slc 2 [])), (.imm (.int .i64 0))]), [], none, []⟩,
     ⟨none, (.store 3), [.t 8, .t 14], none, [6, 4, 2, 0, 1, 2, 3, 4, 6]⟩,
     ⟨(some 9), .mov, [.t 15], none, [5, 7, 0, 1, 2, 3, 4, 5, 6, 7]⟩] false)
   (.seq
    (.seq
     (.region [⟨(some 16), .mov, [.t 9], none, []⟩,
       ⟨(some 17), (.bin .eql), [.t 16, .c (.int .i64 0)], none, [0]⟩] false)
     (.cond (.t 17)
      (.region [⟨(some 18), (.load true 3), [.t 8], none, []⟩,
        ⟨(some 19), (.faddr 0 true 10), [.t 5], none, []⟩,
        ⟨(some 20), (.load true 10), [.t 19], none, [1]⟩,
        ⟨(some 21), .call, [.f 37, .t 18, .t 20], none, [0, 2]⟩,
        ⟨(some 22), (.faddr 10 false 1), [.t 5], none, []⟩,
        ⟨(some 23), (.load false 1), [.t 22], none, [4]⟩,
        ⟨(some 24), .call, [.f 56, .t 23], none, [5, 3]⟩,
        ⟨(some 25), (.bsl 1), [.t 21, .t 24], none, [3, 6]⟩,
        ⟨(some 26), .call, [.f 42, .t 25], none, [7, 6]⟩,
        ⟨(some 9), .mov, [.t 26], none, [8, 8, 0, 1, 2, 3, 4, 5, 6, 7, 8]⟩] true)
      .skip))
    (.keep [6, 8, 9] [6, 8] b30k0))))
def d30 : DFn := ⟨3, 29, [.cell 6 true 3, .tmp 7], b30⟩
theorem body30 : d30.body = b30 := rfl
theorem res30 : d30.res = [.cell 6 true 3, .tmp 7] := rfl
theorem k30 : chkFn Tryz.prog Tryz.f30 d30 = true := by kernel_rfl

def b31 : DCode :=
 (.seq
  (.settle [4, 6, 7]
   (.region [⟨(some 4), .box, [.t 0], none, []⟩,
     ⟨(some 5), .box, [.t 1], none, []⟩,
     ⟨(some 6), .box, [.t 2], none, []⟩,
     ⟨(some 7), .box, [.t 3], none, []⟩,
     ⟨(some 8), .mov, [.c .nilf], none, []⟩] false))
  (.ren 5 1000
   (.seq
    (.region [⟨(some 9), (.mkfn 57 0), [.t 4, .t 5, .t 7, .t 6], none, []⟩,
      ⟨(some 8), .mov, [.t 9], none, [0, 0]⟩] false)
    .ret)))
def d31 : DFn := ⟨4, 10, [.tmp 8], b31⟩
theorem body31 : d31.body = b31 := rfl
theorem res31 : d31.res = [.tmp 8] := rfl
theorem k31 : chkFnB Tryz.prog Tryz.f31 d31 [] [1000] = true := by kernel_rfl

def b57k0 : DCode :=
 (.region [⟨(some 97), (.bin .add), [.t 55, .c (.int .i64 1)], none, []⟩,
   ⟨(some 55), .mov, [.t 97], none, [0]⟩] false)
def b57k1 : DCode :=
 (.seq
  (.block 3
   (.seq
    (.region [⟨(some 57), .mov, [.t 55], none, []⟩,
      ⟨(some 58), (.index 2 1 false), [.t 54, .t 55], none, []⟩,
      ⟨(some 13), .mov, [.t 57], none, [0, 0, 1]⟩,
      ⟨(some 14), .mov, [.t 58], none, [1, 2, 0, 1, 2]⟩] false)
    (.seq
     (.region [⟨(some 59), .mov, [.t 13], none, []⟩,
       ⟨(some 60), .mov, [.t 13], none, []⟩,
       ⟨(some 61), (.iarr 2 1 false), [.t 6, .t 60], none, [1]⟩,
       ⟨(some 62), (.load false 1), [.t 61], none, [2]⟩,
       ⟨(some 63), .mov, [.t 13], none, []⟩,
       ⟨(some 64), (.faddr 0 true 2), [.t 1], none, []⟩,
       ⟨(some 65), (.iarr 2 1 true), [.t 64, .t 63], none, [5, 4]⟩,
       ⟨(some 66), (.load true 1), [.t 65], none, [6]⟩,
       ⟨(some 67), .mov, [.t 14], none, []⟩,
       ⟨(some 68), .call, [.f 48, .t 66, .t 67], none, [7, 8]⟩,
       ⟨(some 69), (.bsl 3), [.t 68], none, [9]⟩,
       ⟨(some 70), (.append 3 24 false), [.t 62, .t 69], none, [3, 10, 9]⟩,
       ⟨(some 71), (.iarr 2 1 false), [.t 6, .t 59], none, [0, 0, 1, 2, 3, 4, 5, 6, 7, 8, 9, 10, 11]⟩,
       ⟨none, (.store 1), [.t 71, .t 70], none, [12, 11, 11, 0, 1, 2, 3, 4, 5, 6, 7, 8, 9, 10, 11]⟩] true)
     (.seq
      (.region [⟨(some 72), (.faddr 0 true 5), [.t 4], none, []⟩,
        ⟨(some 73), (.load true 5), [.t 72], none, [0]⟩,
        ⟨(some 74), (.faddr 5 true 5), [.t 4], none, []⟩,
        ⟨(some 75), (.load true 5), [.t 74], none, [2]⟩,
        ⟨(some 76), (.build [(.imm (.int .i64 0)), (.imm (.int .i64 0)), (.imm (.int .i64 0)), (.imm (.int .i64 0)), (.imm (.int .i64 0)), (.imm (.int .i64 0)), (.imm (.int .i64 0)), (.imm (.int .i64 0)), (.imm (.int .i64 0)), (.imm (.int .i64 0))] [(0, 5), (5, 5)]), [.t 73, .t 75], none, [1, 3]⟩,
        ⟨(some 15), (.alloc [(.imm (.int .i64 0)), (.imm (.int .i64 0)), (.imm (.int .i64 0)), (.imm (.int .i64 0)), (.imm (.int .i64 0)), (.imm (.int .i64 0)), (.imm (.int .i64 0)), (.imm (.int .i64 0)), (.imm (.int .i64 0)), (.imm (.int .i64 0))]), [], none, []⟩,
        ⟨none, (.store 10), [.t 15, .t 76], none, [5, 4, 0, 1, 2, 3, 4, 5]⟩] false)
      (.seq
       (.region [⟨(some 78), .mov, [.t 13], none, []⟩,
         ⟨(some 79), (.iarr 2 5 true), [.t 15, .t 78], none, [0]⟩,
         ⟨(some 80), (.load true 5), [.t 79], none, [1]⟩,
         ⟨(some 81), .mov, [.t 13], none, []⟩,
         ⟨(some 82), (.iarr 2 1 false), [.t 6, .t 81], none, [3]⟩,
         ⟨(some 83), (.load false 1), [.t 82], none, [4]⟩,
         ⟨(some 84), .call, [.f 58, .t 80, .t 83], none, [2, 5]⟩,
         ⟨(some 77), .mov, [.t 84], none, [6]⟩,
         ⟨(some 85), (.ext 0), [.t 77], none, [7]⟩,
         ⟨(some 86), (.ext 1), [.t 77], none, [7]⟩,
         ⟨(some 16), .mov, [.t 85], none, [8, 6, 0, 1, 2, 3, 4, 5, 6, 7, 8]⟩,
         ⟨(some 17), .mov, [.t 86], none, [9, 10, 0, 1, 2, 3, 4, 5, 6, 7, 8, 9, 10]⟩] true)
       (.seq
        (.region [⟨(some 87), .mov, [.t 17], none, []⟩,
          ⟨(some 88), .mov, [.t 87], none, [0]⟩,
          ⟨(some 89), .mov, [.t 12], (some (88, true)), [1]⟩,
          ⟨(some 90), (.pnil false), [.t 89, .c .nilp], (some (88, true)), [2, 1]⟩,
          ⟨(some 91), .pick, [.t 88, .t 90, .c (.bool false)], none, [1, 3]⟩] false)
        (.cond (.t 91)
         (.settle [96]
          (.region [⟨(some 92), (.load false 1), [.t 7], none, []⟩,
            ⟨(some 93), .mov, [.t 13], none, []⟩,
            ⟨(some 94), .mov, [.t 16], none, []⟩,
            ⟨(some 95), (.build [(.imm (.int .i64 0)), (.imm (.int .i64 0)), (.imm (.int .i64 0))] [(0, 1), (1, 1), (2, 1)]), [.t 92, .t 93, .t 94], none, [0, 1, 2]⟩,
            ⟨(some 96), .box, [.t 95], none, [3]⟩,
            ⟨(some 12), .mov, [.t 96], none, [4, 0, 1, 2, 3, 4]⟩] false))
         .skip)))))))
  (.keep [1, 4, 5, 6, 7, 12, 54, 55] [0, 5, 6, 7, 70, 1000, 1006, 1007] b57k0))
def b57l0 : DCode := .keep [1, 4, 5, 6, 7, 12, 54, 55] [0, 5, 6, 7, 70, 1000, 1006, 1007]
  (.seq
   (.region [⟨(some 56), (.bin .lss), [.t 55, .c (.int .i64 2)], none, []⟩] false)
   (.seq
    (.cond (.t 56)
     .skip
     (.exit 2))
    (.keep [1, 4, 5, 6, 7, 12, 54, 55] [0, 5, 6, 7, 70, 1000, 1006, 1007] b57k1)))
def b57k2 : DCode :=
 (.seq
  (.region [⟨(some 98), (.load false 1), [.t 5], none, []⟩,
    ⟨(some 99), .mov, [.t 12], none, []⟩,
    ⟨(some 100), .yield, [.t 98, .c (.bool true), .t 99], none, [0, 1]⟩,
    ⟨(some 101), (.un .not), [.t 100], none, [2]⟩] false)
  (.cond (.t 101)
   .ret
   .skip))
def b57k3 : DCode :=
 (.seq
  (.region [⟨(some 49), (.load true 2), [.t 9], none, []⟩,
    ⟨none, (.store 2), [.t 2, .t 49], none, [0, 0]⟩] false)
  (.seq
   (.region [⟨(some 12), .mov, [.c .nilp], none, []⟩] false)
   (.seq
    (.seq
     (.region [⟨(some 50), (.faddr 0 false 1), [.t 2], none, []⟩,
       ⟨(some 51), (.load false 1), [.t 50], none, [0]⟩,
       ⟨(some 52), (.faddr 1 false 1), [.t 2], none, []⟩,
       ⟨(some 53), (.load false 1), [.t 52], none, [2]⟩,
       ⟨(some 54), (.build [(.imm (.int .i64 0)), (.imm (.int .i64 0))] [(0, 1), (1, 1)]), [.t 51, .t 53], none, [1, 3]⟩,
       ⟨(some 55), .mov, [.c (.int .i64 0)], none, []⟩] false)
     (.block 2
      (.loop b57l0)))
    (.keep [5, 12] [0, 5, 6, 7, 70, 1000, 1006, 1007] b57k2))))
def b57a1 : DCode :=
 (.region [⟨(some 8), (.alloc [(.imm (.int .i64 0)), (.imm (.int .i64 0)), (.imm (.int .i64 0))]), [], none, []⟩,
   ⟨none, (.store 3), [.t 8, .t 34], none, [0, 0]⟩] false)
def b57r1 : DCode :=
 (.block 1
  (.seq
   (.region [⟨(some 35), (.load false 1), [.t 7], none, []⟩,
     ⟨(some 36), (.bin .add), [.t 35, .c (.int .i64 1)], none, [0]⟩,
     ⟨none, (.store 1), [.t 7, .t 36], none, [1, 0, 1]⟩] false)
   (.seq
    (.region [⟨(some 38), (.load true 3), [.t 1], none, []⟩,
      ⟨(some 39), (.load true 2), [.t 2], none, []⟩,
      ⟨(some 40), (.load true 3), [.t 8], none, []⟩,
      ⟨(some 41), .call, [.f 51, .t 38, .t 39, .t 40], none, [0, 1, 2]⟩,
      ⟨(some 37), .mov, [.t 41], none, [3]⟩,
      ⟨(some 42), (.ext 0), [.t 37], none, [4]⟩,
      ⟨(some 43), (.ext 1), [.t 37], none, [4]⟩,
      ⟨(some 44), (.ext 2), [.t 37], none, [4]⟩,
      ⟨(some 9), (.alloc [(.imm (.int .i64 0)), (.imm (.int .i64 0))]), [], none, []⟩,
      ⟨(some 10), (.alloc [(.imm (.int .i64 0)), (.imm (.int .i64 0))]), [], none, []⟩,
      ⟨none, (.store 2), [.t 9, .t 42], none, [8, 5, 3, 0, 1, 2, 3, 4, 5, 8, 9]⟩,
      ⟨none, (.store 2), [.t 10, .t 43], none, [9, 6, 10, 0, 1, 2, 3, 4, 5, 6, 8, 9, 10]⟩,
      ⟨(some 11), .mov, [.t 44], none, [7, 11, 0, 1, 2, 3, 4, 5, 6, 7, 8, 9, 10, 11]⟩] false)
    (.seq
     (.seq
      (.region [⟨(some 45), .mov, [.t 11], none, []⟩,
        ⟨(some 46), (.un .not), [.t 45], none, [0]⟩] false)
      (.cond (.t 46)
       (.seq
        (.region [⟨(some 47), (.load false 1), [.t 5], none, []⟩,
          ⟨(some 48), .yield, [.t 47, .c (.bool false), .c .nilp], none, [0]⟩] false)
        .ret)
       .skip))
     (.keep [1, 2, 4, 5, 6, 7, 9] [0, 5, 6, 7, 9, 70, 1000, 1006, 1007] b57k3)))))
def b57 : DCode :=
 (.seq
  (.region [⟨(some 5), .box, [.t 0], none, []⟩] false)
  (.seq
   (.region [⟨(some 18), (.faddr 0 true 2), [.t 1], none, []⟩,
     ⟨(some 19), (.iarr 2 1 true), [.t 18, .c (.int .i64 0)], none, [0]⟩,
     ⟨(some 20), (.load true 1), [.t 19], none, [1]⟩,
     ⟨(some 21), (.faddr 0 false 1), [.t 2], none, []⟩,
     ⟨(some 22), (.load false 1), [.t 21], none, [3]⟩,
     ⟨(some 23), .call, [.f 48, .t 20, .t 22], none, [2, 4]⟩,
     ⟨(some 24), (.bsl 3), [.t 23], none, [5]⟩,
     ⟨(some 25), (.faddr 0 true 2), [.t 1], none, []⟩,
     ⟨(some 26), (.iarr 2 1 true), [.t 25, .c (.int .i64 1)], none, [7]⟩,
     ⟨(some 27), (.load true 1), [.t 26], none, [8]⟩,
     ⟨(some 28), (.faddr 1 false 1), [.t 2], none, []⟩,
     ⟨(some 29), (.load false 1), [.t 28], none, [10]⟩,
     ⟨(some 30), .call, [.f 48, .t 27, .t 29], none, [9, 11, 5]⟩,
     ⟨(some 31), (.bsl 3), [.t 30], none, [12]⟩,
     ⟨(some 32), (.buildr [(.imm (.slc 3 [])), (.imm (.slc 3 []))] [(0, 1), (1, 1)]), [.t 24, .t 31], none, [6, 13]⟩,
     ⟨(some 6), (.alloc [(.cap0 3 []), (.cap0 3 [])]), [], none, []⟩,
     ⟨none, (.store 2), [.t 6, .t 32], none, [15, 14, 12, 0, 1, 2, 3, 4, 5, 6, 7, 8, 9, 10, 11, 12, 13, 14, 15]⟩] true)
   (.mktok 6 0 1006 3
    (.mktok 6 1 1007 3
     (.seq
      (.region [⟨(some 7), (.alloc [(.imm (.int .i64 0))]), [], none, []⟩,
        ⟨none, (.store 1), [.t 7, .c (.int .i64 0)], none, [0, 0]⟩] false)
      (.seq
       (.region [⟨(some 33), (.load false 1), [.t 3], none, []⟩] false)
       (.block 0
        (.rangeF (.t 33) [34] [1, 2, 4, 5, 6, 7] [5, 6, 7, 1000] [] [0, 5, 6, 7, 70, 1000, 1006, 1007] b57a1 b57r1))))))))
def d57 : DFn := ⟨5, 102, [], b57⟩
theorem body57 : d57.body = b57 := rfl
theorem res57 : d57.res = [] := rfl
theorem k57 : chkFnB Tryz.prog Tryz.f57 d57 [0, 1000] [0, 1000] = true := by kernel_rfl

def b58 : DCode :=
 (.seq
  (.region [⟨(some 2), .box, [.t 0], none, []⟩,
    ⟨(some 4), .mov, [.c (.int .i64 0)], none, []⟩,
    ⟨(some 5), .mov, [.c (.bool false)], none, [1]⟩] false)
  (.seq
   (.region [⟨(some 11), .movv, [.t 1], none, []⟩,
     ⟨(some 12), .len, [.t 11], none, [0]⟩,
     ⟨(some 13), (.bin .sub), [.t 12, .c (.int .i64 1)], none, [1]⟩,
     ⟨(some 6), .mov, [.t 13], none, [2, 0, 1, 2]⟩] false)
   (.seq
    (.region [⟨(some 14), .movv, [.t 1], none, []⟩,
      ⟨(some 15), .mov, [.t 6], none, []⟩,
      ⟨(some 16), (.iaddr 3), [.t 14, .t 15], none, [0, 1]⟩,
      ⟨(some 17), (.loadf true 3 []), [.t 16], none, [2]⟩,
      ⟨(some 18), .movv, [.t 1], none, []⟩,
      ⟨(some 19), .mov, [.t 6], none, []⟩,
      ⟨(some 20), (.faddr 4 false 1), [.t 2], none, []⟩,
      ⟨(some 21), (.loadf false 1 [2]), [.t 20], none, [6]⟩,
      ⟨(some 22), (.bin .sub), [.t 19, .t 21], none, [5, 7]⟩,
      ⟨(some 23), (.mm true), [.c (.int .i64 0), .t 22], none, [8]⟩,
      ⟨(some 24), (.iaddr 3), [.t 18, .t 23], none, [4, 9]⟩,
      ⟨(some 25), (.loadf true 3 []), [.t 24], none, [10]⟩,
      ⟨(some 7), (.alloc [(.imm (.int .i64 0)), (.imm (.int .i64 0)), (.imm (.int .i64 0))]), [], none, []⟩,
      ⟨(some 8), (.alloc [(.imm (.int .i64 0)), (.imm (.int .i64 0)), (.imm (.int .i64 0))]), [], none, []⟩,
      ⟨none, (.storef 3 [7]), [.t 7, .t 17], none, [12, 3, 0, 1, 2, 3, 12, 13]⟩,
      ⟨none, (.storef 3 [8]), [.t 8, .t 25], none, [13, 11, 14, 0, 1, 2, 3, 4, 5, 6, 7, 8, 9, 10, 11, 12, 13, 14]⟩] true)
    (.seq
     (.region [⟨(some 26), (.faddr 0 true 2), [.t 2], none, []⟩,
       ⟨(some 27), (.faddr 0 false 1), [.t 26], none, [0]⟩,
       ⟨(some 28), (.load false 1), [.t 27], none, [1]⟩,
       ⟨(some 29), .call, [.f 87, .t 28], none, [2]⟩,
       ⟨(some 30), (.load true 3), [.t 7], none, []⟩,
       ⟨(some 31), .call, [.f 88, .t 29, .t 30, .c (.int .i64 0)], none, [3, 4, 3]⟩,
       ⟨(some 32), (.load true 3), [.t 7], none, []⟩,
       ⟨(some 33), (.faddr 0 true 2), [.t 2], none, []⟩,
       ⟨(some 34), (.faddr 1 false 1), [.t 33], none, [7]⟩,
       ⟨(some 35), (.load false 1), [.t 34], none, [8]⟩,
       ⟨(some 36), .call, [.f 87, .t 35], none, [9, 5]⟩,
       ⟨(some 37), .call, [.f 88, .t 32, .t 36, .c (.int .i64 0)], none, [6, 10, 10]⟩,
       ⟨(some 38), (.load true 3), [.t 8], none, []⟩,
       ⟨(some 39), (.load true 3), [.t 7], none, []⟩,
       ⟨(some 40), (.faddr 2 false 1), [.t 2], none, []⟩,
       ⟨(some 41), (.load false 1), [.t 40], none, [14]⟩,
       ⟨(some 42), .call, [.f 88, .t 38, .t 39, .t 41], none, [12, 13, 15, 11]⟩,
       ⟨(some 43), (.load true 3), [.t 7], none, []⟩,
       ⟨(some 44), (.load true 3), [.t 8], none, []⟩,
       ⟨(some 45), (.faddr 3 false 1), [.t 2], none, []⟩,
       ⟨(some 46), (.load false 1), [.t 45], none, [19]⟩,
       ⟨(some 47), .call, [.f 88, .t 43, .t 44, .t 46], none, [17, 18, 20, 16]⟩,
       ⟨(some 48), (.build [(.imm (.bool false)), (.imm (.bool false)), (.imm (.bool false)), (.imm (.bool false))] [(0, 1), (1, 1), (2, 1), (3, 1)]), [.t 31, .t 37, .t 42, .t 47], none, [5, 11, 16, 21]⟩,
       ⟨(some 9), (.alloc [(.imm (.bool false)), (.imm (.bool false)), (.imm (.bool false)), (.imm (.bool false))]), [], none, []⟩,
       ⟨none, (.store 4), [.t 9, .t 48], none, [23, 22, 21, 0, 1, 2, 3, 4, 5, 6, 7, 8, 9, 10, 11, 12, 13, 14, 15, 16, 17, 18, 19, 20, 21, 22, 23]⟩] true)
     (.seq
      (.freeze [9]
       (.region [⟨(some 49), (.aslice 4), [.t 9], none, []⟩,
         ⟨(some 50), .call, [.f 89, .t 49, .c (.bool true)], none, [0]⟩,
         ⟨(some 10), .mov, [.t 50], none, [1, 1, 0, 1]⟩] false))
      (.seq
       (.region [⟨(some 51), .mov, [.t 10], none, []⟩,
         ⟨(some 52), (.mm true), [.t 51, .c (.int .i64 0)], none, [0]⟩,
         ⟨(some 53), .mov, [.t 10], none, []⟩,
         ⟨(some 54), (.bin .geq), [.t 53, .c (.int .i64 0)], none, [2]⟩,
         ⟨(some 4), .mov, [.t 52], none, [1, 0, 1]⟩,
         ⟨(some 5), .mov, [.t 54], none, [3, 4, 0, 1, 2, 3, 4]⟩] false)
       .ret))))))
def d58 : DFn := ⟨2, 55, [.tmp 4, .tmp 5], b58⟩
theorem body58 : d58.body = b58 := rfl
theorem res58 : d58.res = [.tmp 4, .tmp 5] := rfl
theorem k58 : chkFn Tryz.prog Tryz.f58 d58 = true := by kernel_rfl

def b87 : DCode :=
 (.seq
  (.region [⟨(some 2), (.alloc [(.imm (.int .i64 0)), (.imm (.int .i64 0)), (.imm (.int .i64 0))]), [], none, []⟩] false)
  (.seq
   (.region [⟨(some 3), .mov, [.t 0], none, []⟩,
     ⟨(some 4), (.build [(.imm (.int .i64 0)), (.imm (.int .i64 0)), (.imm (.int .i64 0))] [(0, 1), (1, 1), (2, 1)]), [.t 3, .c (.int .i64 0), .c (.int .i64 1)], none, [0]⟩,
     ⟨none, (.store 3), [.t 2, .t 4], none, [1, 0, 1]⟩] false)
   .ret))
def d87 : DFn := ⟨1, 5, [.cell 2 true 3], b87⟩
theorem body87 : d87.body = b87 := rfl
theorem res87 : d87.res = [.cell 2 true 3] := rfl
theorem k87 : chkFn Tryz.prog Tryz.f87 d87 = true := by kernel_rfl

def b88k0 : DCode :=
 (.seq
  (.region [⟨(some 19), (.faddr 1 false 1), [.t 3], none, []⟩,
    ⟨(some 20), (.load false 1), [.t 19], none, [0]⟩,
    ⟨(some 21), (.faddr 2 false 1), [.t 4], none, []⟩,
    ⟨(some 22), (.load false 1), [.t 21], none, [2]⟩,
    ⟨(some 23), (.bin .mul), [.t 20, .t 22], none, [1, 3]⟩,
    ⟨(some 24), (.faddr 1 false 1), [.t 4], none, []⟩,
    ⟨(some 25), (.load false 1), [.t 24], none, [5]⟩,
    ⟨(some 26), (.faddr 2 false 1), [.t 3], none, []⟩,
    ⟨(some 27), (.load false 1), [.t 26], none, [7]⟩,
    ⟨(some 28), (.bin .mul), [.t 25, .t 27], none, [6, 8]⟩,
    ⟨(some 29), (.bin .gtr), [.t 23, .t 28], none, [4, 9]⟩,
    ⟨(some 6), .mov, [.t 29], none, [10, 0, 1, 2, 3, 4, 5, 6, 7, 8, 9, 10]⟩] false)
  .ret)
def b88 : DCode :=
 (.seq
  (.region [⟨(some 3), .box, [.t 0], none, []⟩,
    ⟨(some 4), .box, [.t 1], none, []⟩,
    ⟨(some 6), .mov, [.c (.bool false)], none, []⟩] false)
  (.seq
   (.seq
    (.region [⟨(some 8), (.faddr 0 false 1), [.t 3], none, []⟩,
      ⟨(some 9), (.load false 1), [.t 8], none, [0]⟩,
      ⟨(some 10), (.faddr 0 false 1), [.t 4], none, []⟩,
      ⟨(some 11), (.load false 1), [.t 10], none, [2]⟩,
      ⟨(some 12), (.bin .sub), [.t 9, .t 11], none, [1, 3]⟩,
      ⟨(some 13), .mov, [.t 2], none, []⟩,
      ⟨(some 14), (.bin .sub), [.t 12, .t 13], none, [4, 5]⟩,
      ⟨(some 7), .mov, [.t 14], none, [6, 0, 1, 2, 3, 4, 5, 6]⟩] false)
    (.seq
     (.region [⟨(some 15), .mov, [.t 7], none, []⟩,
       ⟨(some 16), (.bin .neq), [.t 15, .c (.int .i64 0)], none, [0]⟩] false)
     (.cond (.t 16)
      (.seq
       (.region [⟨(some 17), .mov, [.t 7], none, []⟩,
         ⟨(some 18), (.bin .gtr), [.t 17, .c (.int .i64 0)], none, [0]⟩,
         ⟨(some 6), .mov, [.t 18], none, [1, 0, 1]⟩] false)
       .ret)
      .skip)))
   (.keep [3, 4] [3, 4] b88k0)))
def d88 : DFn := ⟨3, 30, [.tmp 6], b88⟩
theorem body88 : d88.body = b88 := rfl
theorem res88 : d88.res = [.tmp 6] := rfl
theorem k88 : chkFn Tryz.prog Tryz.f88 d88 = true := by kernel_rfl

def b37 : DCode :=
 (.seq
  (.region [⟨(some 2), .box, [.t 0], none, []⟩,
    ⟨(some 3), .box, [.t 1], none, []⟩,
    ⟨(some 4), .mov, [.c (.int .i64 0)], none, []⟩] false)
  (.seq
   (.region [⟨(some 5), (.faddr 0 true 2), [.t 2], none, []⟩,
     ⟨(some 6), (.iarr 2 1 true), [.t 5, .c (.int .i64 0)], none, [0]⟩,
     ⟨(some 7), (.load true 1), [.t 6], none, [1]⟩,
     ⟨(some 8), (.faddr 0 true 5), [.t 3], none, []⟩,
     ⟨(some 9), (.load true 5), [.t 8], none, [3]⟩,
     ⟨(some 10), .call, [.f 63, .t 7, .t 9], none, [2, 4]⟩,
     ⟨(some 11), (.faddr 0 true 2), [.t 2], none, []⟩,
     ⟨(some 12), (.iarr 2 1 true), [.t 11, .c (.int .i64 1)], none, [6]⟩,
     ⟨(some 13), (.load true 1), [.t 12], none, [7]⟩,
     ⟨(some 14), (.faddr 5 true 5), [.t 3], none, []⟩,
     ⟨(some 15), (.load true 5), [.t 14], none, [9]⟩,
     ⟨(some 16), .call, [.f 63, .t 13, .t 15], none, [8, 10, 5]⟩,
     ⟨(some 17), (.bsl 1), [.t 10, .t 16], none, [5, 11]⟩,
     ⟨(some 18), .call, [.f 42, .t 17], none, [12, 11]⟩,
     ⟨(some 4), .mov, [.t 18], none, [13, 13, 0, 1, 2, 3, 4, 5, 6, 7, 8, 9, 10, 11, 12, 13]⟩] true)
   .ret))
def d37 : DFn := ⟨2, 19, [.tmp 4], b37⟩
theorem body37 : d37.body = b37 := rfl
theorem res37 : d37.res = [.tmp 4] := rfl
theorem k37 : chkFn Tryz.prog Tryz.f37 d37 = true := by kernel_rfl

def b63 : DCode :=
 (.seq
  (.region [⟨(some 2), .box, [.t 0], none, []⟩,
    ⟨(some 3), .box, [.t 1], none, []⟩,
    ⟨(some 4), .mov, [.c (.int .i64 0)], none, []⟩] false)
  (.seq
   (.freeze [2]
    (.region [⟨(some 8), (.mkfn 91 0), [.t 2], none, []⟩,
      ⟨(some 5), .mov, [.t 8], none, [0, 0]⟩] false))
   (.seq
    (.region [⟨(some 6), .mov, [.f 92], none, []⟩] false)
    (.seq
     (.region [⟨(some 9), .mov, [.t 5], none, []⟩,
       ⟨(some 10), (.faddr 0 true 2), [.t 3], none, []⟩,
       ⟨(some 11), (.faddr 0 false 1), [.t 10], none, [1]⟩,
       ⟨(some 12), (.load false 1), [.t 11], none, [2]⟩,
       ⟨(some 13), .call, [.t 9, .t 12], none, [0, 3]⟩,
       ⟨(some 14), .mov, [.t 13], none, [4, 4]⟩,
       ⟨(some 15), .mov, [.t 5], (some (14, true)), [5]⟩,
       ⟨(some 16), (.faddr 0 true 2), [.t 3], (some (14, true)), [5]⟩,
       ⟨(some 17), (.faddr 1 false 1), [.t 16], (some (14, true)), [7, 5]⟩,
       ⟨(some 18), (.load false 1), [.t 17], (some (14, true)), [8, 5]⟩,
       ⟨(some 19), .call, [.t 15, .t 18], (some (14, true)), [6, 9, 5, 5]⟩,
       ⟨(some 20), .pick, [.t 14, .t 19, .c (.bool false)], none, [5, 10]⟩,
       ⟨(some 21), .mov, [.t 20], none, [11, 10]⟩,
       ⟨(some 22), .mov, [.t 6], (some (21, true)), [12]⟩,
       ⟨(some 23), (.faddr 2 false 1), [.t 3], (some (21, true)), [12]⟩,
       ⟨(some 24), (.load false 1), [.t 23], (some (21, true)), [14, 12]⟩,
       ⟨(some 25), .call, [.t 22, .t 24], (some (21, true)), [13, 15, 12, 12]⟩,
       ⟨(some 26), .pick, [.t 21, .t 25, .c (.bool false)], none, [12, 16]⟩,
       ⟨(some 27), .mov, [.t 26], none, [17, 16]⟩,
       ⟨(some 28), .mov, [.t 6], (some (27, true)), [18]⟩,
       ⟨(some 29), (.faddr 3 false 1), [.t 3], (some (27, true)), [18]⟩,
       ⟨(some 30), (.load false 1), [.t 29], (some (27, true)), [20, 18]⟩,
       ⟨(some 31), .call, [.t 28, .t 30], (some (27, true)), [19, 21, 18, 18]⟩,
       ⟨(some 32), .pick, [.t 27, .t 31, .c (.bool false)], none, [18, 22]⟩,
       ⟨(some 33), .mov, [.t 32], none, [23, 22]⟩,
       ⟨(some 34), (.faddr 4 false 1), [.t 3], (some (33, true)), [24]⟩,
       ⟨(some 35), (.load false 1), [.t 34], (some (33, true)), [25, 24]⟩,
       ⟨(some 36), .call, [.f 82, .t 35, .c (.int .i64 1), .c (.int .i64 200)], (some (33, true)), [26, 24, 24]⟩,
       ⟨(some 37), .pick, [.t 33, .t 36, .c (.bool false)], none, [24, 27]⟩,
       ⟨(some 7), .mov, [.t 37], none, [28, 27, 0, 1, 2, 3, 4, 5, 6, 7, 8, 9, 10, 11, 12, 13, 14, 15, 16, 17, 18, 19, 20, 21, 22, 23, 24, 25, 26, 27, 28]⟩] false)
     (.seq
      (.region [⟨(some 38), .mov, [.t 7], none, []⟩,
        ⟨(some 39), .call, [.f 43, .t 38, .c (.int .i64 2)], none, [0]⟩,
        ⟨(some 40), (.faddr 0 true 2), [.t 3], none, []⟩,
        ⟨(some 41), (.faddr 0 false 1), [.t 40], none, [2]⟩,
        ⟨(some 42), (.load false 1), [.t 41], none, [3]⟩,
        ⟨(some 43), (.faddr 0 true 2), [.t 3], none, []⟩,
        ⟨(some 44), (.faddr 1 false 1), [.t 43], none, [5]⟩,
        ⟨(some 45), (.load false 1), [.t 44], none, [6]⟩,
        ⟨(some 46), (.bin .leq), [.t 42, .t 45], none, [4, 7]⟩,
        ⟨(some 47), .call, [.f 43, .t 46, .c (.int .i64 9)], none, [8, 1]⟩,
        ⟨(some 48), (.bsl 1), [.t 39, .t 47], none, [1, 9]⟩,
        ⟨(some 49), .call, [.f 42, .t 48], none, [10, 9]⟩,
        ⟨(some 4), .mov, [.t 49], none, [11, 11, 0, 1, 2, 3, 4, 5, 6, 7, 8, 9, 10, 11]⟩] true)
      .ret)))))
def d63 : DFn := ⟨2, 50, [.tmp 4], b63⟩
theorem body63 : d63.body = b63 := rfl
theorem res63 : d63.res = [.tmp 4] := rfl
theorem k63 : chkFn Tryz.prog Tryz.f63 d63 = true := by kernel_rfl

def b91 : DCode :=
 (.seq
  (.region [⟨(some 3), .mov, [.c (.bool false)], none, []⟩] false)
  (.seq
   (.region [⟨(some 4), .mov, [.t 0], none, []⟩,
     ⟨(some 5), (.load true 1), [.t 1], none, []⟩,
     ⟨(some 6), .call, [.f 52, .t 5], none, [1]⟩,
     ⟨(some 7), (.field 0 false 1), [.t 6], none, [2]⟩,
     ⟨(some 8), (.load true 1), [.t 1], none, []⟩,
     ⟨(some 9), .call, [.f 53, .t 8], none, [4, 2]⟩,
     ⟨(some 10), (.field 0 false 1), [.t 9], none, [5]⟩,
     ⟨(some 11), .call, [.f 82, .t 4, .t 7, .t 10], none, [0, 3, 6, 5]⟩,
     ⟨(some 3), .mov, [.t 11], none, [7, 7, 0, 1, 2, 3, 4, 5, 6, 7]⟩] true)
   .ret))
def d91 : DFn := ⟨2, 12, [.tmp 3], b91⟩
theorem body91 : d91.body = b91 := rfl
theorem res91 : d91.res = [.tmp 3] := rfl
theorem k91 : chkFn Tryz.prog Tryz.f91 d91 = true := by kernel_rfl

def b92 : DCode :=
 (.seq
  (.region [⟨(some 2), .mov, [.c (.bool false)], none, []⟩] false)
  (.seq
   (.region [⟨(some 3), .mov, [.t 0], none, []⟩,
     ⟨(some 4), .call, [.f 82, .t 3, .c (.int .i64 0), .c (.int .i64 1000000)], none, [0]⟩,
     ⟨(some 2), .mov, [.t 4], none, [1, 1, 0, 1]⟩] false)
   .ret))
def d92 : DFn := ⟨1, 5, [.tmp 2], b92⟩
theorem body92 : d92.body = b92 := rfl
theorem res92 : d92.res = [.tmp 2] := rfl
theorem k92 : chkFn Tryz.prog Tryz.f92 d92 = true := by kernel_rfl

def b89k0 : DCode :=
 (.region [⟨(some 18), (.bin .add), [.t 8, .c (.int .i64 1)], none, []⟩,
   ⟨(some 8), .mov, [.t 18], none, [0]⟩] false)
def b89k1 : DCode :=
 (.seq
  (.block 1
   (.seq
    (.region [⟨(some 10), .mov, [.t 8], none, []⟩,
      ⟨(some 5), .mov, [.t 10], none, [0, 0]⟩] false)
    (.seq
     (.region [⟨(some 11), .mov, [.t 1], none, []⟩,
       ⟨(some 12), .movv, [.t 0], none, []⟩,
       ⟨(some 13), .mov, [.t 5], none, []⟩,
       ⟨(some 14), (.iaddr 1), [.t 12, .t 13], none, [1, 2]⟩,
       ⟨(some 15), (.load false 1), [.t 14], none, [3]⟩,
       ⟨(some 16), (.beq false), [.t 11, .t 15], none, [0, 4]⟩] false)
     (.cond (.t 16)
      (.seq
       (.region [⟨(some 17), .mov, [.t 5], none, []⟩,
         ⟨(some 4), .mov, [.t 17], none, [0, 0]⟩] false)
       .ret)
      .skip))))
  (.keep [0, 1, 7, 8] [] b89k0))
def b89l0 : DCode := .keep [0, 1, 7, 8] []
  (.seq
   (.region [⟨(some 9), (.bin .lss), [.t 8, .t 7], none, []⟩] false)
   (.seq
    (.cond (.t 9)
     .skip
     (.exit 0))
    (.keep [0, 1, 7, 8] [] b89k1)))
def b89k2 : DCode :=
 (.seq
  (.region [⟨(some 4), .mov, [.c (.int .i64 (-1))], none, []⟩] false)
  .ret)
def b89 : DCode :=
 (.seq
  (.region [⟨(some 4), .mov, [.c (.int .i64 0)], none, []⟩] false)
  (.seq
   (.seq
    (.region [⟨(some 6), .movv, [.t 0], none, []⟩,
      ⟨(some 7), .len, [.t 6], none, [0]⟩,
      ⟨(some 8), .mov, [.c (.int .i64 0)], none, []⟩] false)
    (.block 0
     (.loop b89l0)))
   (.keep [] [] b89k2)))
def d89 : DFn := ⟨2, 19, [.tmp 4], b89⟩
theorem body89 : d89.body = b89 := rfl
theorem res89 : d89.res = [.tmp 4] := rfl
theorem k89 : chkFn Tryz.prog Tryz.f89 d89 = true := by kernel_rfl

def b32 : DCode :=
 (.seq
  (.region [⟨(some 1), .box, [.t 0], none, []⟩,
    ⟨(some 2), .mov, [.c .nilf], none, []⟩] false)
  (.seq
   (.freeze [1]
    (.region [⟨(some 3), (.mkfn 59 0), [.t 1], none, []⟩,
      ⟨(some 2), .mov, [.t 3], none, [0, 0]⟩] false))
   .ret))
def d32 : DFn := ⟨1, 4, [.tmp 2], b32⟩
theorem body32 : d32.body = b32 := rfl
theorem res32 : d32.res = [.tmp 2] := rfl
theorem k32 : chkFn Tryz.prog Tryz.f32 d32 = true := by kernel_rfl

def b59k0 : DCode :=
 (.region [⟨(some 15), (.bin .add), [.t 7, .c (.int .i64 1)], none, []⟩,
   ⟨(some 7), .mov, [.t 15], none, [0]⟩] false)
def b59k1 : DCode :=
 (.seq
  (.block 1
   (.seq
    (.region [⟨(some 9), (.iaddr 3), [.t 5, .t 7], none, []⟩,
      ⟨(some 10), (.load true 3), [.t 9], none, [0]⟩,
      ⟨(some 4), (.alloc [(.imm (.int .i64 0)), (.imm (.int .i64 0)), (.imm (.int .i64 0))]), [], none, []⟩,
      ⟨none, (.store 3), [.t 4, .t 10], none, [2, 1, 0, 1, 2]⟩] false)
    (.seq
     (.region [⟨(some 11), .mov, [.t 0], none, []⟩,
       ⟨(some 12), (.load true 3), [.t 4], none, []⟩,
       ⟨(some 13), .yield, [.t 11, .t 12], none, [0, 1]⟩,
       ⟨(some 14), (.un .not), [.t 13], none, [2]⟩] false)
     (.cond (.t 14)
      .ret
      .skip))))
  (.keep [0, 5, 6, 7] [0] b59k0))
def b59l0 : DCode := .keep [0, 5, 6, 7] [0]
  (.seq
   (.region [⟨(some 8), (.bin .lss), [.t 7, .t 6], none, []⟩] false)
   (.seq
    (.cond (.t 8)
     .skip
     (.exit 0))
    (.keep [0, 5, 6, 7] [0] b59k1)))
def b59 : DCode :=
 (.seq
  (.region [⟨(some 5), (.load false 1), [.t 1], none, []⟩,
    ⟨(some 6), .len, [.t 5], none, [0]⟩,
    ⟨(some 7), .mov, [.c (.int .i64 0)], none, []⟩] false)
  (.block 0
   (.loop b59l0)))
def d59 : DFn := ⟨2, 16, [], b59⟩
theorem body59 : d59.body = b59 := rfl
theorem res59 : d59.res = [] := rfl
theorem k59 : chkFnB Tryz.prog Tryz.f59 d59 [0] [0] = true := by kernel_rfl

def b11 : DCode :=
 (.seq
  (.region [⟨(some 1), .box, [.t 0], none, []⟩,
    ⟨(some 2), (.alloc [(.imm (.int .i64 0)), (.imm (.int .i64 0)), (.imm (.int .i64 0)), (.imm (.int .i64 0)), (.imm (.int .i64 0)), (.imm (.int .i64 0)), (.imm (.int .i64 0)), (.imm (.int .i64 0)), (.imm (.int .i64 0)), (.imm (.int .i64 0)), (.imm (.slc 3 []))]), [], none, []⟩] false)
  (.seq
   (.region [⟨(some 3), (.faddr 0 true 10), [.t 1], none, []⟩,
     ⟨(some 4), (.load true 10), [.t 3], none, [0]⟩,
     ⟨(some 5), (.faddr 10 false 1), [.t 1], none, []⟩,
     ⟨(some 6), (.load false 1), [.t 5], none, [2]⟩,
     ⟨(some 7), .call, [.f 21, .t 6], none, [3]⟩,
     ⟨(some 8), (.build [(.imm (.int .i64 0)), (.imm (.int .i64 0)), (.imm (.int .i64 0)), (.imm (.int .i64 0)), (.imm (.int .i64 0)), (.imm (.int .i64 0)), (.imm (.int .i64 0)), (.imm (.int .i64 0)), (.imm (.int .i64 0)), (.imm (.int .i64 0)), (.imm (.slc 3 []))] [(0, 10), (10, 1)]), [.t 4, .t 7], none, [1, 4]⟩,
     ⟨none, (.store 11), [.t 2, .t 8], none, [5, 4, 0, 1, 2, 3, 4, 5]⟩] true)
   .ret))
def d11 : DFn := ⟨1, 9, [.cell 2 true 11], b11⟩
theorem body11 : d11.body = b11 := rfl
theorem res11 : d11.res = [.cell 2 true 11] := rfl
theorem k11 : chkFn Tryz.prog Tryz.f11 d11 = true := by kernel_rfl

def b13k0 : DCode :=
 (.seq
  (.region [⟨(some 14), (.faddr 1 true 1), [.t 2], none, []⟩,
    ⟨(some 15), (.load true 1), [.t 14], none, [0]⟩,
    ⟨(some 16), (.faddr 5 true 5), [.t 3], none, []⟩,
    ⟨(some 17), (.load true 5), [.t 16], none, [2]⟩,
    ⟨(some 18), .call, [.f 35, .t 15, .t 17], none, [1, 3]⟩,
    ⟨(some 4), .mov, [.t 18], none, [4, 4, 0, 1, 2, 3, 4]⟩] false)
  .ret)
def b13 : DCode :=
 (.seq
  (.region [⟨(some 2), .box, [.t 0], none, []⟩,
    ⟨(some 3), .box, [.t 1], none, []⟩,
    ⟨(some 4), .mov, [.c (.int .i64 0)], none, []⟩] false)
  (.seq
   (.seq
    (.region [⟨(some 6), (.faddr 0 true 1), [.t 2], none, []⟩,
      ⟨(some 7), (.load true 1), [.t 6], none, [0]⟩,
      ⟨(some 8), (.faddr 0 true 5), [.t 3], none, []⟩,
      ⟨(some 9), (.load true 5), [.t 8], none, [2]⟩,
      ⟨(some 10), .call, [.f 35, .t 7, .t 9], none, [1, 3]⟩,
      ⟨(some 5), .mov, [.t 10], none, [4, 4, 0, 1, 2, 3, 4]⟩] false)
    (.seq
     (.region [⟨(some 11), .mov, [.t 5], none, []⟩,
       ⟨(some 12), (.bin .neq), [.t 11, .c (.int .i64 0)], none, [0]⟩] false)
     (.cond (.t 12)
      (.seq
       (.region [⟨(some 13), .mov, [.t 5], none, []⟩,
         ⟨(some 4), .mov, [.t 13], none, [0, 0]⟩] false)
       .ret)
      .skip)))
   (.keep [2, 3] [2, 3] b13k0)))
def d13 : DFn := ⟨2, 19, [.tmp 4], b13⟩
theorem body13 : d13.body = b13 := rfl
theorem res13 : d13.res = [.tmp 4] := rfl
theorem k13 : chkFn Tryz.prog Tryz.f13 d13 = true := by kernel_rfl

def b16k0 : DCode :=
 (.seq
  (.region [⟨(some 13), (.faddr 10 false 1), [.t 3], none, []⟩,
    ⟨(some 14), (.load false 1), [.t 13], none, [0]⟩,
    ⟨(some 15), .call, [.f 39, .t 14], none, [1]⟩,
    ⟨(some 4), .mov, [.t 15], none, [2, 2, 0, 1, 2]⟩] false)
  .ret)
def b16 : DCode :=
 (.seq
  (.region [⟨(some 2), .box, [.t 0], none, []⟩,
    ⟨(some 3), .box, [.t 1], none, []⟩,
    ⟨(some 4), .mov, [.c (.int .i64 0)], none, []⟩] false)
  (.seq
   (.seq
    (.region [⟨(some 6), (.load true 3), [.t 2], none, []⟩,
      ⟨(some 7), (.faddr 0 true 10), [.t 3], none, []⟩,
      ⟨(some 8), (.load true 10), [.t 7], none, [1]⟩,
      ⟨(some 9), .call, [.f 13, .t 6, .t 8], none, [0, 2]⟩,
      ⟨(some 5), .mov, [.t 9], none, [3, 3, 0, 1, 2, 3]⟩] false)
    (.seq
     (.region [⟨(some 10), .mov, [.t 5], none, []⟩,
       ⟨(some 11), (.bin .neq), [.t 10, .c (.int .i64 0)], none, [0]⟩] false)
     (.cond (.t 11)
      (.seq
       (.region [⟨(some 12), .mov, [.t 5], none, []⟩,
         ⟨(some 4), .mov, [.t 12], none, [0, 0]⟩] false)
       .ret)
      .skip)))
   (.keep [3] [3] b16k0)))
def d16 : DFn := ⟨2, 16, [.tmp 4], b16⟩
theorem body16 : d16.body = b16 := rfl
theorem res16 : d16.res = [.tmp 4] := rfl
theorem k16 : chkFn Tryz.prog Tryz.f16 d16 = true := by kernel_rfl

def b17k0 : DCode :=
 (.region [⟨(some 32), .mov, [.t 12], none, []⟩,
   ⟨(some 33), (.bin .add), [.t 32, .c (.int .i64 1)], none, [0]⟩,
   ⟨(some 12), .mov, [.t 33], none, [1, 0, 1]⟩] false)
def b17k1 : DCode :=
 (.seq
  (.block 1
   (.seq
    (.region [⟨(some 35), (.load true 3), [.t 3], none, []⟩,
      ⟨(some 36), (.faddr 0 true 10), [.t 5], none, []⟩,
      ⟨(some 37), (.load true 10), [.t 36], none, [1]⟩,
      ⟨(some 38), .movv, [.t 11], none, []⟩,
      ⟨(some 39), .mov, [.t 12], none, []⟩,
      ⟨(some 40), .call, [.f 41, .t 35, .t 37, .t 38, .t 39], none, [0, 2, 3, 4]⟩,
      ⟨(some 34), .mov, [.t 40], none, [5]⟩,
      ⟨(some 41), (.ext 0), [.t 34], none, [6]⟩,
      ⟨(some 42), (.ext 1), [.t 34], none, [6]⟩,
      ⟨(some 13), (.alloc [(.imm (.int .i64 0)), (.imm (.int .i64 0)), (.imm (.int .i64 0))]), [], none, []⟩,
      ⟨none, (.store 3), [.t 13, .t 41], none, [9, 7, 5, 0, 1, 2, 3, 4, 5, 6, 7, 9]⟩,
      ⟨(some 14), .mov, [.t 42], none, [8, 10, 0, 1, 2, 3, 4, 5, 6, 7, 8, 9, 10]⟩] false)
    (.seq
     (.region [⟨(some 43), .mov, [.t 14], none, []⟩] false)
     (.cond (.t 43)
      (.seq
       (.region [⟨(some 44), (.load true 3), [.t 13], none, []⟩,
         ⟨none, (.store 3), [.t 6, .t 44], none, [0, 0]⟩,
         ⟨(some 7), .mov, [.c (.int .i64 0)], none, [1, 0, 1]⟩] false)
       .ret)
      .skip))))
  (.keep [3, 5, 6, 10, 11, 12] [3, 5, 6, 27] b17k0))
def b17l0 : DCode := .keep [3, 5, 6, 10, 11, 12] [3, 5, 6, 27]
  (.seq
   (.seq
    (.region [⟨(some 28), .mov, [.t 12], none, []⟩,
      ⟨(some 29), .movv, [.t 11], none, []⟩,
      ⟨(some 30), .len, [.t 29], none, [1]⟩,
      ⟨(some 31), (.bin .lss), [.t 28, .t 30], none, [0, 2]⟩] false)
    (.cond (.t 31)
     .skip
     (.exit 0)))
   (.keep [3, 5, 6, 10, 11, 12] [3, 5, 6, 27] b17k1))
def b17k2 : DCode :=
 (.seq
  (.region [⟨(some 48), (.build [(.imm (.int .i64 0)), (.imm (.int .i64 0)), (.imm (.int .i64 0))] []), [], none, []⟩,
    ⟨none, (.store 3), [.t 6, .t 48], none, [0, 0]⟩,
    ⟨(some 7), .mov, [.c (.int .i64 12)], none, [1, 0, 1]⟩] false)
  .ret)
def b17k3 : DCode :=
 (.seq
  (.seq
   (.region [⟨(some 45), .mov, [.t 10], none, []⟩,
     ⟨(some 46), (.un .not), [.t 45], none, [0]⟩] false)
   (.cond (.t 46)
    (.seq
     (.region [⟨(some 47), (.build [(.imm (.int .i64 0)), (.imm (.int .i64 0)), (.imm (.int .i64 0))] []), [], none, []⟩,
       ⟨none, (.store 3), [.t 6, .t 47], none, [0, 0]⟩,
       ⟨(some 7), .mov, [.c (.int .i64 22)], none, [1, 0, 1]⟩] false)
     .ret)
    .skip))
  (.keep [6] [6] b17k2))
def b17 : DCode :=
 (.seq
  (.region [⟨(some 3), .box, [.t 0], none, []⟩,
    ⟨(some 4), .box, [.t 1], none, []⟩,
    ⟨(some 5), .box, [.t 2], none, []⟩,
    ⟨(some 6), (.alloc [(.imm (.int .i64 0)), (.imm (.int .i64 0)), (.imm (.int .i64 0))]), [], none, []⟩,
    ⟨(some 7), .mov, [.c (.int .i64 0)], none, []⟩] false)
  (.seq
   (.region [⟨(some 16), (.load true 3), [.t 3], none, []⟩,
     ⟨(some 17), (.load true 2), [.t 4], none, []⟩,
     ⟨(some 18), (.faddr 10 false 1), [.t 5], none, []⟩,
     ⟨(some 19), (.load false 1), [.t 18], none, [2]⟩,
     ⟨(some 20), .call, [.f 40, .t 16, .t 17, .t 19], none, [0, 1, 3]⟩,
     ⟨(some 15), .mov, [.t 20], none, [4]⟩,
     ⟨(some 21), (.ext 0), [.t 15], none, [5]⟩,
     ⟨(some 22), (.ext 1), [.t 15], none, [5]⟩,
     ⟨(some 23), (.ext 2), [.t 15], none, [5]⟩,
     ⟨(some 9), (.alloc [(.imm (.int .i64 0)), (.imm (.int .i64 0))]), [], none, []⟩,
     ⟨(some 8), .movv, [.t 21], none, [6, 4, 0, 1, 2, 3, 4, 5, 6, 9]⟩,
     ⟨none, (.store 2), [.t 9, .t 22], none, [9, 7, 10, 0, 1, 2, 3, 4, 5, 6, 7, 9, 10]⟩,
     ⟨(some 10), .mov, [.t 23], none, [8, 11, 0, 1, 2, 3, 4, 5, 6, 7, 8, 9, 10, 11]⟩] false)
   (.seq
    (.region [⟨(some 24), (.load true 2), [.t 4], none, []⟩,
      ⟨(some 25), (.bsl 2), [.t 24], none, [0]⟩,
      ⟨(some 26), .movv, [.t 8], none, []⟩,
      ⟨(some 27), (.append 2 16 false), [.t 25, .t 26], none, [1, 2]⟩,
      ⟨(some 11), .movv, [.t 27], none, [3, 3, 0, 1, 2, 3]⟩] false)
    (.seq
     (.seq
      (.region [⟨(some 12), .mov, [.c (.int .i64 1)], none, []⟩] false)
      (.block 0
       (.loop b17l0)))
     (.keep [6, 10] [6] b17k3)))))
def d17 : DFn := ⟨3, 49, [.cell 6 true 3, .tmp 7], b17⟩
theorem body17 : d17.body = b17 := rfl
theorem res17 : d17.res = [.cell 6 true 3, .tmp 7] := rfl
theorem k17 : chkFn Tryz.prog Tryz.f17 d17 = true := by kernel_rfl

def b35k0 : DCode :=
 (.seq
  (.region [⟨(some 4), .mov, [.c (.int .i64 0)], none, []⟩] false)
  .ret)
def b35k1 : DCode :=
 (.seq
  (.seq
   (.region [⟨(some 37), (.faddr 0 true 2), [.t 3], none, []⟩,
     ⟨(some 38), (.faddr 0 false 1), [.t 37], none, [0]⟩,
     ⟨(some 39), (.load false 1), [.t 38], none, [1]⟩,
     ⟨(some 40), (.faddr 0 true 2), [.t 3], none, []⟩,
     ⟨(some 41), (.faddr 1 false 1), [.t 40], none, [3]⟩,
     ⟨(some 42), (.load false 1), [.t 41], none, [4]⟩,
     ⟨(some 43), (.bin .gtr), [.t 39, .t 42], none, [2, 5]⟩] false)
   (.cond (.t 43)
    (.seq
     (.region [⟨(some 4), .mov, [.c (.int .i64 9)], none, []⟩] false)
     .ret)
    .skip))
  (.keep [] [] b35k0))
def b35 : DCode :=
 (.seq
  (.region [⟨(some 2), .box, [.t 0], none, []⟩,
    ⟨(some 3), .box, [.t 1], none, []⟩,
    ⟨(some 4), .mov, [.c (.int .i64 0)], none, []⟩] false)
  (.seq
   (.seq
    (.region [⟨(some 5), (.load true 1), [.t 2], none, []⟩,
      ⟨(some 6), (.faddr 0 true 2), [.t 3], none, []⟩,
      ⟨(some 7), (.faddr 0 false 1), [.t 6], none, [1]⟩,
      ⟨(some 8), (.load false 1), [.t 7], none, [2]⟩,
      ⟨(some 9), .call, [.f 61, .t 5, .t 8], none, [0, 3]⟩,
      ⟨(some 10), (.un .not), [.t 9], none, [4]⟩,
      ⟨(some 11), .mov, [.t 10], none, [5, 4]⟩,
      ⟨(some 12), (.load true 1), [.t 2], (some (11, false)), [6]⟩,
      ⟨(some 13), (.faddr 0 true 2), [.t 3], (some (11, false)), [6]⟩,
      ⟨(some 14), (.faddr 1 false 1), [.t 13], (some (11, false)), [8, 6]⟩,
      ⟨(some 15), (.load false 1), [.t 14], (some (11, false)), [9, 6]⟩,
      ⟨(some 16), .call, [.f 61, .t 12, .t 15], (some (11, false)), [7, 10, 6, 6]⟩,
      ⟨(some 17), (.un .not), [.t 16], (some (11, false)), [11, 6]⟩,
      ⟨(some 18), .pick, [.t 11, .c (.bool true), .t 17], none, [6, 12]⟩,
      ⟨(some 19), .mov, [.t 18], none, [13, 11]⟩,
      ⟨(some 20), (.faddr 2 false 1), [.t 3], (some (19, false)), [14]⟩,
      ⟨(some 21), (.load false 1), [.t 20], (some (19, false)), [15, 14]⟩,
      ⟨(some 22), .call, [.f 20, .t 21, .c (.int .i64 0), .c (.int .i64 1000000)], (some (19, false)), [16, 14, 14]⟩,
      ⟨(some 23), (.un .not), [.t 22], (some (19, false)), [17, 14]⟩,
      ⟨(some 24), .pick, [.t 19, .c (.bool true), .t 23], none, [14, 18]⟩,
      ⟨(some 25), .mov, [.t 24], none, [19, 17]⟩,
      ⟨(some 26), (.faddr 3 false 1), [.t 3], (some (25, false)), [20]⟩,
      ⟨(some 27), (.load false 1), [.t 26], (some (25, false)), [21, 20]⟩,
      ⟨(some 28), .call, [.f 20, .t 27, .c (.int .i64 0), .c (.int .i64 1000000)], (some (25, false)), [22, 20, 20]⟩,
      ⟨(some 29), (.un .not), [.t 28], (some (25, false)), [23, 20]⟩,
      ⟨(some 30), .pick, [.t 25, .c (.bool true), .t 29], none, [20, 24]⟩,
      ⟨(some 31), .mov, [.t 30], none, [25, 23]⟩,
      ⟨(some 32), (.faddr 4 false 1), [.t 3], (some (31, false)), [26]⟩,
      ⟨(some 33), (.load false 1), [.t 32], (some (31, false)), [27, 26]⟩,
      ⟨(some 34), .call, [.f 20, .t 33, .c (.int .i64 1), .c (.int .i64 200)], (some (31, false)), [28, 26, 26]⟩,
      ⟨(some 35), (.un .not), [.t 34], (some (31, false)), [29, 26]⟩,
      ⟨(some 36), .pick, [.t 31, .c (.bool true), .t 35], none, [26, 30]⟩] false)
    (.cond (.t 36)
     (.seq
      (.region [⟨(some 4), .mov, [.c (.int .i64 2)], none, []⟩] false)
      .ret)
     .skip))
   (.keep [3] [3] b35k1)))
def d35 : DFn := ⟨2, 44, [.tmp 4], b35⟩
theorem body35 : d35.body = b35 := rfl
theorem res35 : d35.res = [.tmp 4] := rfl
theorem k35 : chkFn Tryz.prog Tryz.f35 d35 = true := by kernel_rfl

def b41k0 : DCode :=
 (.region [⟨(some 80), .mov, [.t 16], none, []⟩,
   ⟨(some 81), (.bin .add), [.t 80, .c (.int .i64 1)], none, [0]⟩,
   ⟨(some 16), .mov, [.t 81], none, [1, 0, 1]⟩] false)
def b41k1 : DCode :=
 (.seq
  (.block 3
   (.seq
    (.region [⟨(some 82), .mov, [.t 16], none, []⟩,
      ⟨(some 83), (.iarr 4 1 false), [.t 15, .t 82], none, [0]⟩,
      ⟨(some 84), (.load false 1), [.t 83], none, [1]⟩] false)
    (.cond (.t 84)
     (.seq
      (.region [⟨(some 85), .mov, [.t 3], none, []⟩,
        ⟨(some 86), .mov, [.t 10], none, []⟩,
        ⟨(some 87), .mov, [.t 16], none, []⟩,
        ⟨(some 88), (.build [(.imm (.int .i64 0)), (.imm (.int .i64 0)), (.imm (.int .i64 0))] [(0, 1), (1, 1), (2, 1)]), [.t 85, .t 86, .t 87], none, [0, 1, 2]⟩,
        ⟨none, (.store 3), [.t 8, .t 88], none, [3, 0, 1, 2, 3]⟩,
        ⟨(some 9), .mov, [.c (.bool true)], none, [4, 0, 1, 2, 3, 4]⟩] false)
      .ret)
     .skip)))
  (.keep [2, 3, 4, 5, 8, 10, 15, 16] [4, 5, 8, 15] b41k0))
def b41l0 : DCode := .keep [2, 3, 4, 5, 8, 10, 15, 16] [4, 5, 8, 15]
  (.seq
   (.seq
    (.region [⟨(some 78), .mov, [.t 16], none, []⟩,
      ⟨(some 79), (.bin .lss), [.t 78, .c (.int .i64 4)], none, [0]⟩] false)
    (.cond (.t 79)
     .skip
     (.exit 2)))
   (.keep [2, 3, 4, 5, 8, 10, 15, 16] [4, 5, 8, 15] b41k1))
def b41k2 : DCode :=
 (.region [⟨(some 19), .mov, [.t 10], none, []⟩,
   ⟨(some 20), (.bin .add), [.t 19, .c (.int .i64 1)], none, [0]⟩,
   ⟨(some 10), .mov, [.t 20], none, [1, 0, 1]⟩] false)
def b41k3 : DCode :=
 (.seq
  (.block 1
   (.seq
    (.region [⟨(some 21), (.load true 3), [.t 4], none, []⟩,
      ⟨(some 22), .mov, [.t 10], none, []⟩,
      ⟨(some 23), .call, [.f 67, .t 21, .t 22], none, [0, 1]⟩,
      ⟨(some 24), (.load true 10), [.t 5], none, []⟩,
      ⟨(some 25), .mov, [.t 10], none, []⟩,
      ⟨(some 26), .call, [.f 68, .t 24, .t 25], none, [3, 4, 2]⟩,
      ⟨(some 11), (.alloc [(.imm (.slc 2 []))]), [], none, []⟩,
      ⟨(some 12), (.alloc [(.imm (.int .i64 0)), (.imm (.int .i64 0)), (.imm (.int .i64 0)), (.imm (.int .i64 0)), (.imm (.int .i64 0))]), [], none, []⟩,
      ⟨none, (.store 1), [.t 11, .t 23], none, [6, 2, 5, 0, 1, 2, 6, 7]⟩,
      ⟨none, (.store 5), [.t 12, .t 26], none, [7, 5, 8, 0, 1, 2, 3, 4, 5, 6, 7, 8]⟩] true)
    (.seq
     (.region [⟨(some 27), (.load true 1), [.t 11], none, []⟩,
       ⟨(some 28), .movv, [.t 2], none, []⟩,
       ⟨(some 29), .mov, [.t 3], none, []⟩,
       ⟨(some 30), (.iaddr 2), [.t 28, .t 29], none, [1, 2]⟩,
       ⟨(some 31), (.load true 2), [.t 30], none, [3]⟩,
       ⟨(some 32), .mov, [.t 10], none, []⟩,
       ⟨(some 33), .call, [.f 70, .t 31, .t 32], none, [4, 5]⟩,
       ⟨(some 34), .call, [.f 69, .t 27, .t 33], none, [0, 6, 6]⟩,
       ⟨(some 13), (.alloc [(.imm (.int .i64 0)), (.imm (.slc 1 [])), (.imm (.int .i64 0)), (.imm (.slc 1 []))]), [], none, []⟩,
       ⟨none, (.store 4), [.t 13, .t 34], none, [8, 7, 7, 0, 1, 2, 3, 4, 5, 6, 7, 8]⟩] true)
     (.seq
      (.region [⟨(some 35), (.load true 1), [.t 11], none, []⟩,
        ⟨(some 36), .movv, [.t 2], none, []⟩,
        ⟨(some 37), .mov, [.t 3], none, []⟩,
        ⟨(some 38), (.faddr 4 false 1), [.t 12], none, []⟩,
        ⟨(some 39), (.load false 1), [.t 38], none, [3]⟩,
        ⟨(some 40), (.bin .sub), [.t 37, .t 39], none, [2, 4]⟩,
        ⟨(some 41), (.mm true), [.c (.int .i64 0), .t 40], none, [5]⟩,
        ⟨(some 42), (.iaddr 2), [.t 36, .t 41], none, [1, 6]⟩,
        ⟨(some 43), (.load true 2), [.t 42], none, [7]⟩,
        ⟨(some 44), .mov, [.t 10], none, []⟩,
        ⟨(some 45), .call, [.f 70, .t 43, .t 44], none, [8, 9]⟩,
        ⟨(some 46), .call, [.f 69, .t 35, .t 45], none, [0, 10, 10]⟩,
        ⟨(some 14), (.alloc [(.imm (.int .i64 0)), (.imm (.slc 1 [])), (.imm (.int .i64 0)), (.imm (.slc 1 []))]), [], none, []⟩,
        ⟨none, (.store 4), [.t 14, .t 46], none, [12, 11, 11, 0, 1, 2, 3, 4, 5, 6, 7, 8, 9, 10, 11, 12]⟩] true)
      (.seq
       (.region [⟨(some 47), (.load true 4), [.t 13], none, []⟩,
         ⟨(some 48), (.faddr 0 true 2), [.t 12], none, []⟩,
         ⟨(some 49), (.faddr 0 false 1), [.t 48], none, [1]⟩,
         ⟨(some 50), (.load false 1), [.t 49], none, [2]⟩,
         ⟨(some 51), .call, [.f 72, .t 50], none, [3]⟩,
         ⟨(some 52), .call, [.f 71, .t 47, .t 51], none, [0, 4, 4]⟩,
         ⟨(some 53), (.bin .lss), [.t 52, .c (.int .i64 0)], none, [5]⟩,
         ⟨(some 54), (.load true 4), [.t 13], none, []⟩,
         ⟨(some 55), (.faddr 0 true 2), [.t 12], none, []⟩,
         ⟨(some 56), (.faddr 1 false 1), [.t 55], none, [8]⟩,
         ⟨(some 57), (.load false 1), [.t 56], none, [9]⟩,
         ⟨(some 58), .call, [.f 72, .t 57], none, [10, 5]⟩,
         ⟨(some 59), .call, [.f 71, .t 54, .t 58], none, [7, 11, 11]⟩,
         ⟨(some 60), (.bin .gtr), [.t 59, .c (.int .i64 0)], none, [12]⟩,
         ⟨(some 61), (.load true 4), [.t 14], none, []⟩,
         ⟨(some 62), (.load true 4), [.t 13], none, []⟩,
         ⟨(some 63), .call, [.f 73, .t 61, .t 62], none, [14, 15, 12]⟩,
         ⟨(some 64), (.faddr 2 false 1), [.t 12], none, []⟩,
         ⟨(some 65), (.load false 1), [.t 64], none, [17]⟩,
         ⟨(some 66), .call, [.f 72, .t 65], none, [18, 16]⟩,
         ⟨(some 67), .call, [.f 71, .t 63, .t 66], none, [16, 19, 19]⟩,
         ⟨(some 68), (.bin .gtr), [.t 67, .c (.int .i64 0)], none, [20]⟩,
         ⟨(some 69), (.load true 4), [.t 13], none, []⟩,
         ⟨(some 70), (.load true 4), [.t 14], none, []⟩,
         ⟨(some 71), .call, [.f 73, .t 69, .t 70], none, [22, 23, 20]⟩,
         ⟨(some 72), (.faddr 3 false 1), [.t 12], none, []⟩,
         ⟨(some 73), (.load false 1), [.t 72], none, [25]⟩,
         ⟨(some 74), .call, [.f 72, .t 73], none, [26, 24]⟩,
         ⟨(some 75), .call, [.f 71, .t 71, .t 74], none, [24, 27, 27]⟩,
         ⟨(some 76), (.bin .gtr), [.t 75, .c (.int .i64 0)], none, [28]⟩,
         ⟨(some 77), (.build [(.imm (.bool false)), (.imm (.bool false)), (.imm (.bool false)), (.imm (.bool false))] [(0, 1), (1, 1), (2, 1), (3, 1)]), [.t 53, .t 60, .t 68, .t 76], none, [6, 13, 21, 29]⟩,
         ⟨(some 15), (.alloc [(.imm (.bool false)), (.imm (.bool false)), (.imm (.bool false)), (.imm (.bool false))]), [], none, []⟩,
         ⟨none, (.store 4), [.t 15, .t 77], none, [31, 30, 28, 0, 1, 2, 3, 4, 5, 6, 7, 8, 9, 10, 11, 12, 13, 14, 15, 16, 17, 18, 19, 20, 21, 22, 23, 24, 25, 26, 27, 28, 29, 30, 31]⟩] true)
       (.seq
        (.region [⟨(some 16), .mov, [.c (.int .i64 0)], none, []⟩] false)
        (.block 2
         (.loop b41l0))))))))
  (.keep [2, 3, 4, 5, 8, 10] [4, 5, 8] b41k2))
def b41l1 : DCode := .keep [2, 3, 4, 5, 8, 10] [4, 5, 8]
  (.seq
   (.seq
    (.region [⟨(some 17), .mov, [.t 10], none, []⟩,
      ⟨(some 18), (.bin .lss), [.t 17, .c (.int .i64 2)], none, [0]⟩] false)
    (.cond (.t 18)
     .skip
     (.exit 0)))
   (.keep [2, 3, 4, 5, 8, 10] [4, 5, 8] b41k3))
def b41k4 : DCode :=
 (.seq
  (.region [⟨(some 89), (.build [(.imm (.int .i64 0)), (.imm (.int .i64 0)), (.imm (.int .i64 0))] []), [], none, []⟩,
    ⟨none, (.store 3), [.t 8, .t 89], none, [0, 0]⟩,
    ⟨(some 9), .mov, [.c (.bool false)], none, [1, 0, 1]⟩] false)
  .ret)
def b41 : DCode :=
 (.seq
  (.region [⟨(some 4), .box, [.t 0], none, []⟩,
    ⟨(some 5), .box, [.t 1], none, []⟩,
    ⟨(some 8), (.alloc [(.imm (.int .i64 0)), (.imm (.int .i64 0)), (.imm (.int .i64 0))]), [], none, []⟩,
    ⟨(some 9), .mov, [.c (.bool false)], none, []⟩] false)
  (.seq
   (.seq
    (.region [⟨(some 10), .mov, [.c (.int .i64 0)], none, []⟩] false)
    (.block 0
     (.loop b41l1)))
   (.keep [8] [8] b41k4)))
def d41 : DFn := ⟨4, 90, [.cell 8 true 3, .tmp 9], b41⟩
theorem body41 : d41.body = b41 := rfl
theorem res41 : d41.res = [.cell 8 true 3, .tmp 9] := rfl
theorem k41 : chkFn Tryz.prog Tryz.f41 d41 = true := by kernel_rfl

def b67k0 : DCode :=
 (.seq
  (.region [⟨(some 9), (.faddr 1 true 1), [.t 2], none, []⟩,
    ⟨(some 10), (.load true 1), [.t 9], none, [0]⟩,
    ⟨none, (.store 1), [.t 4, .t 10], none, [1, 0, 1]⟩] false)
  .ret)
def b67 : DCode :=
 (.seq
  (.region [⟨(some 2), .box, [.t 0], none, []⟩,
    ⟨(some 4), (.alloc [(.imm (.slc 2 []))]), [], none, []⟩] false)
  (.seq
   (.seq
    (.region [⟨(some 5), .mov, [.t 1], none, []⟩,
      ⟨(some 6), (.bin .eql), [.t 5, .c (.int .i64 0)], none, [0]⟩] false)
    (.cond (.t 6)
     (.seq
      (.region [⟨(some 7), (.faddr 0 true 1), [.t 2], none, []⟩,
        ⟨(some 8), (.load true 1), [.t 7], none, [0]⟩,
        ⟨none, (.store 1), [.t 4, .t 8], none, [1, 0, 1]⟩] false)
      .ret)
     .skip))
   (.keep [2, 4] [2, 4] b67k0)))
def d67 : DFn := ⟨2, 11, [.cell 4 true 1], b67⟩
theorem body67 : d67.body = b67 := rfl
theorem res67 : d67.res = [.cell 4 true 1] := rfl
theorem k67 : chkFn Tryz.prog Tryz.f67 d67 = true := by kernel_rfl

def b68k0 : DCode :=
 (.seq
  (.region [⟨(some 9), (.faddr 5 true 5), [.t 2], none, []⟩,
    ⟨(some 10), (.load true 5), [.t 9], none, [0]⟩,
    ⟨none, (.store 5), [.t 4, .t 10], none, [1, 0, 1]⟩] false)
  .ret)
def b68 : DCode :=
 (.seq
  (.region [⟨(some 2), .box, [.t 0], none, []⟩,
    ⟨(some 4), (.alloc [(.imm (.int .i64 0)), (.imm (.int .i64 0)), (.imm (.int .i64 0)), (.imm (.int .i64 0)), (.imm (.int .i64 0))]), [], none, []⟩] false)
  (.seq
   (.seq
    (.region [⟨(some 5), .mov, [.t 1], none, []⟩,
      ⟨(some 6), (.bin .eql), [.t 5, .c (.int .i64 0)], none, [0]⟩] false)
    (.cond (.t 6)
     (.seq
      (.region [⟨(some 7), (.faddr 0 true 5), [.t 2], none, []⟩,
        ⟨(some 8), (.load true 5), [.t 7], none, [0]⟩,
        ⟨none, (.store 5), [.t 4, .t 8], none, [1, 0, 1]⟩] false)
      .ret)
     .skip))
   (.keep [2, 4] [2, 4] b68k0)))
def d68 : DFn := ⟨2, 11, [.cell 4 true 5], b68⟩
theorem body68 : d68.body = b68 := rfl
theorem res68 : d68.res = [.cell 4 true 5] := rfl
theorem k68 : chkFn Tryz.prog Tryz.f68 d68 = true := by kernel_rfl

def b70k0 : DCode :=
 (.seq
  (.region [⟨(some 9), (.faddr 1 false 1), [.t 2], none, []⟩,
    ⟨(some 10), (.load false 1), [.t 9], none, [0]⟩,
    ⟨(some 4), .mov, [.t 10], none, [1, 0, 1]⟩] false)
  .ret)
def b70 : DCode :=
 (.seq
  (.region [⟨(some 2), .box, [.t 0], none, []⟩,
    ⟨(some 4), .mov, [.c (.int .i64 0)], none, []⟩] false)
  (.seq
   (.seq
    (.region [⟨(some 5), .mov, [.t 1], none, []⟩,
      ⟨(some 6), (.bin .eql), [.t 5, .c (.int .i64 0)], none, [0]⟩] false)
    (.cond (.t 6)
     (.seq
      (.region [⟨(some 7), (.faddr 0 false 1), [.t 2], none, []⟩,
        ⟨(some 8), (.load false 1), [.t 7], none, [0]⟩,
        ⟨(some 4), .mov, [.t 8], none, [1, 0, 1]⟩] false)
      .ret)
     .skip))
   (.keep [2] [2] b70k0)))
def d70 : DFn := ⟨2, 11, [.tmp 4], b70⟩
theorem body70 : d70.body = b70 := rfl
theorem res70 : d70.res = [.tmp 4] := rfl
theorem k70 : chkFn Tryz.prog Tryz.f70 d70 = true := by kernel_rfl

def b73 : DCode :=
 (.seq
  (.region [⟨(some 2), .box, [.t 0], none, []⟩,
    ⟨(some 3), .box, [.t 1], none, []⟩,
    ⟨(some 4), (.alloc [(.imm (.int .i64 0)), (.imm (.slc 1 [])), (.imm (.int .i64 0)), (.imm (.slc 1 []))]), [], none, []⟩] false)
  (.seq
   (.region [⟨(some 5), (.load true 4), [.t 2], none, []⟩,
     ⟨(some 6), (.load true 4), [.t 3], none, []⟩,
     ⟨(some 7), .call, [.f 100, .t 6], none, [1]⟩,
     ⟨(some 8), .call, [.f 95, .t 5, .t 7], none, [0, 2, 2]⟩,
     ⟨none, (.store 4), [.t 4, .t 8], none, [3, 3, 0, 1, 2, 3]⟩] true)
   .ret))
def d73 : DFn := ⟨2, 9, [.cell 4 true 4], b73⟩
theorem body73 : d73.body = b73 := rfl
theorem res73 : d73.res = [.cell 4 true 4] := rfl
theorem k73 : chkFn Tryz.prog Tryz.f73 d73 = true := by kernel_rfl

def b100 : DCode :=
 (.seq
  (.region [⟨(some 1), .box, [.t 0], none, []⟩,
    ⟨(some 2), (.alloc [(.imm (.int .i64 0)), (.imm (.slc 1 [])), (.imm (.int .i64 0)), (.imm (.slc 1 []))]), [], none, []⟩] false)
  (.seq
   (.region [⟨(some 3), (.faddr 0 true 2), [.t 1], none, []⟩,
     ⟨(some 4), (.load true 2), [.t 3], none, [0]⟩,
     ⟨(some 5), .call, [.f 120, .t 4], none, [1]⟩,
     ⟨(some 6), (.faddr 2 true 2), [.t 1], none, []⟩,
     ⟨(some 7), (.load true 2), [.t 6], none, [3]⟩,
     ⟨(some 8), (.build [(.imm (.int .i64 0)), (.imm (.slc 1 [])), (.imm (.int .i64 0)), (.imm (.slc 1 []))] [(0, 2), (2, 2)]), [.t 5, .t 7], none, [2, 4]⟩,
     ⟨none, (.store 4), [.t 2, .t 8], none, [5, 2, 0, 1, 2, 3, 4, 5]⟩] true)
   .ret))
def d100 : DFn := ⟨1, 9, [.cell 2 true 4], b100⟩
theorem body100 : d100.body = b100 := rfl
theorem res100 : d100.res = [.cell 2 true 4] := rfl
theorem k100 : chkFn Tryz.prog Tryz.f100 d100 = true := by kernel_rfl

end Go.DI

/- Contracts: the program's limits, heights and what is violated. No condition. -/
set_option linter.unusedSimpArgs false
namespace Go.DI
open Go.Proofs Go.RowKit Lk

def limI (x : Lim) : IV := .agg [.int .i64 x.lo, .int .i64 x.hi, .int .i64 x.fall, .int .i64 x.rise, .int .i64 x.win]
def limsI (L : Lims) : IV := .agg [.int .i64 L.u.lo, .int .i64 L.u.hi, .int .i64 L.u.fall, .int .i64 L.u.rise, .int .i64 L.u.win, .int .i64 L.l.lo, .int .i64 L.l.hi, .int .i64 L.l.fall, .int .i64 L.l.rise, .int .i64 L.l.win]
structure Tsk where
  L : Lims
  fs : List Flow
def tskI (x : Tsk) : IV := .agg [.int .i64 x.L.u.lo, .int .i64 x.L.u.hi, .int .i64 x.L.u.fall, .int .i64 x.L.u.rise, .int .i64 x.L.u.win, .int .i64 x.L.l.lo, .int .i64 x.L.l.hi, .int .i64 x.L.l.fall, .int .i64 x.L.l.rise, .int .i64 x.L.l.win, .slc 3 (x.fs.map flI)]
def hgtI (a : Hgt) : IV := .agg [.int .i64 a.1, .int .i64 a.2.1, .int .i64 a.2.2]

theorem p_whole {n : Int} : Contract Tryz.prog 87 [.int .i64 n] (hgtI (n, 0, 1)) := by
  refine contract_run Tryz.func87 k87 rfl ?_
  simp only [body87, b87, res87, limI, limsI, tskI, hgtI, lkE, ↓reduceIte, reduceCtorEq, Nat.reduceEqDiff, Nat.reduceAdd, Nat.reduceMul, Nat.reduceSub, Nat.reduceLeDiff, Nat.reduceBEq, Int.reduceToNat, Int.reduceLE, Int.reduceLT, Int.reduceEq, Int.reduceNe, di]

def hSm (a : Hgt) : Prop := (-10000000 ≤ a.1 ∧ a.1 ≤ 10000000) ∧ (0 ≤ a.2.1 ∧ a.2.1 ≤ 1000000000) ∧ 0 ≤ a.2.2 ∧ a.2.2 ≤ 1000000000
theorem p_above {a b : Hgt} {m : Int} (ha : hSm a) (hb : hSm b) (h1 : -10000000 ≤ m) (h2 : m ≤ 10000000) : Contract Tryz.prog 88 [hgtI a, hgtI b, .int .i64 m] (.bool (hAbove a b m)) := by
  obtain ⟨w, n, d⟩ := a
  obtain ⟨w', n', d'⟩ := b
  obtain ⟨a1, a2, a3⟩ := ha
  obtain ⟨b1, b2, b3⟩ := hb
  simp only at a1 a2 a3 b1 b2 b3
  have m1 := mul_bd (x := n) (y := d') (by omega) (by omega) (by omega) (by omega)
  have m2 := mul_bd (x := n') (y := d) (by omega) (by omega) (by omega) (by omega)
  unfold hAbove
  refine contract_run Tryz.func88 k88 rfl ?_
  simp only [body88, b88, res88, b88k0, limI, limsI, tskI, hgtI, lkE, ↓reduceIte, reduceCtorEq, Nat.reduceEqDiff, Nat.reduceAdd, Nat.reduceMul, Nat.reduceSub, Nat.reduceLeDiff, Nat.reduceBEq, Int.reduceToNat, Int.reduceLE, Int.reduceLT, Int.reduceEq, Int.reduceNe, di]
  simp only [show IntKind.wrap .i64 (w - w') = w - w' from wrap64 (by omega) (by omega)]
  simp only [show IntKind.wrap .i64 (w - w' - m) = w - w' - m from wrap64 (by omega) (by omega)]
  simp only [show IntKind.wrap .i64 (n * d') = n * d' from wrap64 (by omega) (by omega)]
  simp only [show IntKind.wrap .i64 (n' * d) = n' * d from wrap64 (by omega) (by omega)]
  split <;> rfl

theorem p_limitErr1 {l : List Kn} {x : Int} (h : Valid l) : Contract Tryz.prog 91 [.int .i64 x, .ptr (tabI l)] (.bool (decide (isL l x))) := by
  have hz := valid_len h
  refine contract_run Tryz.func91 k91 rfl ?_
  simp only [body91, b91, res91, limI, limsI, tskI, hgtI, lkE, ↓reduceIte, reduceCtorEq, Nat.reduceEqDiff, Nat.reduceAdd, Nat.reduceMul, Nat.reduceSub, Nat.reduceLeDiff, Nat.reduceBEq, Int.reduceToNat, Int.reduceLE, Int.reduceLT, Int.reduceEq, Int.reduceNe, di]
  refine calls_of (p_bottom hz.1) ?_; simp only [limI, limsI, tskI, hgtI, res91, lkE, ↓reduceIte, reduceCtorEq, Nat.reduceEqDiff, Nat.reduceAdd, Nat.reduceMul, Nat.reduceSub, Nat.reduceLeDiff, Nat.reduceBEq, Int.reduceToNat, Int.reduceLE, Int.reduceLT, Int.reduceEq, Int.reduceNe, di]
  refine calls_of (p_top hz.1 hz.2) ?_; simp only [limI, limsI, tskI, hgtI, res91, lkE, ↓reduceIte, reduceCtorEq, Nat.reduceEqDiff, Nat.reduceAdd, Nat.reduceMul, Nat.reduceSub, Nat.reduceLeDiff, Nat.reduceBEq, Int.reduceToNat, Int.reduceLE, Int.reduceLT, Int.reduceEq, Int.reduceNe, di]
  refine calls_of p_within ?_; simp only [limI, limsI, tskI, hgtI, res91, lkE, ↓reduceIte, reduceCtorEq, Nat.reduceEqDiff, Nat.reduceAdd, Nat.reduceMul, Nat.reduceSub, Nat.reduceLeDiff, Nat.reduceBEq, Int.reduceToNat, Int.reduceLE, Int.reduceLT, Int.reduceEq, Int.reduceNe, di]
  rfl
theorem p_limitErr2 {x : Int} : Contract Tryz.prog 92 [.int .i64 x] (.bool (decide (Wi x 0 1000000))) := by
  refine contract_run Tryz.func92 k92 rfl ?_
  simp only [body92, b92, res92, limI, limsI, tskI, hgtI, lkE, ↓reduceIte, reduceCtorEq, Nat.reduceEqDiff, Nat.reduceAdd, Nat.reduceMul, Nat.reduceSub, Nat.reduceLeDiff, Nat.reduceBEq, Int.reduceToNat, Int.reduceLE, Int.reduceLT, Int.reduceEq, Int.reduceNe, di]
  refine calls_of p_within ?_; simp only [limI, limsI, tskI, hgtI, res92, lkE, ↓reduceIte, reduceCtorEq, Nat.reduceEqDiff, Nat.reduceAdd, Nat.reduceMul, Nat.reduceSub, Nat.reduceLeDiff, Nat.reduceBEq, Int.reduceToNat, Int.reduceLE, Int.reduceLT, Int.reduceEq, Int.reduceNe, di]

theorem p_limitErr {l : List Kn} {x : Lim} (h : Valid l) : Contract Tryz.prog 63 [tabI l, limI x] (.int .i64 (limErr l x)) := by
  have hz := valid_len h
  unfold limErr limOk
  refine contract_run Tryz.func63 k63 rfl ?_
  simp only [body63, b63, res63, limI, limsI, tskI, hgtI, lkE, ↓reduceIte, reduceCtorEq, Nat.reduceEqDiff, Nat.reduceAdd, Nat.reduceMul, Nat.reduceSub, Nat.reduceLeDiff, Nat.reduceBEq, Int.reduceToNat, Int.reduceLE, Int.reduceLT, Int.reduceEq, Int.reduceNe, di]
  refine calls_of (p_limitErr1 h) ?_; simp only [limI, limsI, tskI, hgtI, res63, lkE, ↓reduceIte, reduceCtorEq, Nat.reduceEqDiff, Nat.reduceAdd, Nat.reduceMul, Nat.reduceSub, Nat.reduceLeDiff, Nat.reduceBEq, Int.reduceToNat, Int.reduceLE, Int.reduceLT, Int.reduceEq, Int.reduceNe, di]
  by_cases c1 : isL l x.lo
  · simp only [c1, limI, limsI, tskI, hgtI, lkE, ↓reduceIte, reduceCtorEq, Nat.reduceEqDiff, Nat.reduceAdd, Nat.reduceMul, Nat.reduceSub, Nat.reduceLeDiff, Nat.reduceBEq, Int.reduceToNat, Int.reduceLE, Int.reduceLT, Int.reduceEq, Int.reduceNe, di]
    refine calls_of (p_limitErr1 h) ?_; simp only [limI, limsI, tskI, hgtI, res63, lkE, ↓reduceIte, reduceCtorEq, Nat.reduceEqDiff, Nat.reduceAdd, Nat.reduceMul, Nat.reduceSub, Nat.reduceLeDiff, Nat.reduceBEq, Int.reduceToNat, Int.reduceLE, Int.reduceLT, Int.reduceEq, Int.reduceNe, di]
    by_cases c2 : isL l x.hi
    · simp only [c2, limI, limsI, tskI, hgtI, lkE, ↓reduceIte, reduceCtorEq, Nat.reduceEqDiff, Nat.reduceAdd, Nat.reduceMul, Nat.reduceSub, Nat.reduceLeDiff, Nat.reduceBEq, Int.reduceToNat, Int.reduceLE, Int.reduceLT, Int.reduceEq, Int.reduceNe, di]
      refine calls_of p_limitErr2 ?_; simp only [limI, limsI, tskI, hgtI, res63, lkE, ↓reduceIte, reduceCtorEq, Nat.reduceEqDiff, Nat.reduceAdd, Nat.reduceMul, Nat.reduceSub, Nat.reduceLeDiff, Nat.reduceBEq, Int.reduceToNat, Int.reduceLE, Int.reduceLT, Int.reduceEq, Int.reduceNe, di]
      by_cases c3 : Wi x.fall 0 1000000
      · simp only [c3, limI, limsI, tskI, hgtI, lkE, ↓reduceIte, reduceCtorEq, Nat.reduceEqDiff, Nat.reduceAdd, Nat.reduceMul, Nat.reduceSub, Nat.reduceLeDiff, Nat.reduceBEq, Int.reduceToNat, Int.reduceLE, Int.reduceLT, Int.reduceEq, Int.reduceNe, di]
        refine calls_of p_limitErr2 ?_; simp only [limI, limsI, tskI, hgtI, res63, lkE, ↓reduceIte, reduceCtorEq, Nat.reduceEqDiff, Nat.reduceAdd, Nat.reduceMul, Nat.reduceSub, Nat.reduceLeDiff, Nat.reduceBEq, Int.reduceToNat, Int.reduceLE, Int.reduceLT, Int.reduceEq, Int.reduceNe, di]
        by_cases c4 : Wi x.rise 0 1000000
        · simp only [c4, limI, limsI, tskI, hgtI, lkE, ↓reduceIte, reduceCtorEq, Nat.reduceEqDiff, Nat.reduceAdd, Nat.reduceMul, Nat.reduceSub, Nat.reduceLeDiff, Nat.reduceBEq, Int.reduceToNat, Int.reduceLE, Int.reduceLT, Int.reduceEq, Int.reduceNe, di]
          refine calls_of p_within ?_; simp only [limI, limsI, tskI, hgtI, res63, lkE, ↓reduceIte, reduceCtorEq, Nat.reduceEqDiff, Nat.reduceAdd, Nat.reduceMul, Nat.reduceSub, Nat.reduceLeDiff, Nat.reduceBEq, Int.reduceToNat, Int.reduceLE, Int.reduceLT, Int.reduceEq, Int.reduceNe, di]
          refine calls_of p_unless ?_; simp only [limI, limsI, tskI, hgtI, res63, lkE, ↓reduceIte, reduceCtorEq, Nat.reduceEqDiff, Nat.reduceAdd, Nat.reduceMul, Nat.reduceSub, Nat.reduceLeDiff, Nat.reduceBEq, Int.reduceToNat, Int.reduceLE, Int.reduceLT, Int.reduceEq, Int.reduceNe, di]
          refine calls_of p_unless ?_; simp only [limI, limsI, tskI, hgtI, res63, lkE, ↓reduceIte, reduceCtorEq, Nat.reduceEqDiff, Nat.reduceAdd, Nat.reduceMul, Nat.reduceSub, Nat.reduceLeDiff, Nat.reduceBEq, Int.reduceToNat, Int.reduceLE, Int.reduceLT, Int.reduceEq, Int.reduceNe, di]
          refine calls_of p_first2 ?_; simp only [limI, limsI, tskI, hgtI, res63, lkE, ↓reduceIte, reduceCtorEq, Nat.reduceEqDiff, Nat.reduceAdd, Nat.reduceMul, Nat.reduceSub, Nat.reduceLeDiff, Nat.reduceBEq, Int.reduceToNat, Int.reduceLE, Int.reduceLT, Int.reduceEq, Int.reduceNe, di]
          by_cases c5 : Wi x.win 1 200 <;> by_cases c6 : x.lo ≤ x.hi <;> simp [c5, c6]
        · simp only [c4, limI, limsI, tskI, hgtI, lkE, ↓reduceIte, reduceCtorEq, Nat.reduceEqDiff, Nat.reduceAdd, Nat.reduceMul, Nat.reduceSub, Nat.reduceLeDiff, Nat.reduceBEq, Int.reduceToNat, Int.reduceLE, Int.reduceLT, Int.reduceEq, Int.reduceNe, di]
          refine calls_of p_unless ?_; simp only [limI, limsI, tskI, hgtI, res63, lkE, ↓reduceIte, reduceCtorEq, Nat.reduceEqDiff, Nat.reduceAdd, Nat.reduceMul, Nat.reduceSub, Nat.reduceLeDiff, Nat.reduceBEq, Int.reduceToNat, Int.reduceLE, Int.reduceLT, Int.reduceEq, Int.reduceNe, di]
          refine calls_of p_unless ?_; simp only [limI, limsI, tskI, hgtI, res63, lkE, ↓reduceIte, reduceCtorEq, Nat.reduceEqDiff, Nat.reduceAdd, Nat.reduceMul, Nat.reduceSub, Nat.reduceLeDiff, Nat.reduceBEq, Int.reduceToNat, Int.reduceLE, Int.reduceLT, Int.reduceEq, Int.reduceNe, di]
          refine calls_of p_first2 ?_; simp only [limI, limsI, tskI, hgtI, res63, lkE, ↓reduceIte, reduceCtorEq, Nat.reduceEqDiff, Nat.reduceAdd, Nat.reduceMul, Nat.reduceSub, Nat.reduceLeDiff, Nat.reduceBEq, Int.reduceToNat, Int.reduceLE, Int.reduceLT, Int.reduceEq, Int.reduceNe, di]
          simp
      · simp only [c3, limI, limsI, tskI, hgtI, lkE, ↓reduceIte, reduceCtorEq, Nat.reduceEqDiff, Nat.reduceAdd, Nat.reduceMul, Nat.reduceSub, Nat.reduceLeDiff, Nat.reduceBEq, Int.reduceToNat, Int.reduceLE, Int.reduceLT, Int.reduceEq, Int.reduceNe, di]
        refine calls_of p_unless ?_; simp only [limI, limsI, tskI, hgtI, res63, lkE, ↓reduceIte, reduceCtorEq, Nat.reduceEqDiff, Nat.reduceAdd, Nat.reduceMul, Nat.reduceSub, Nat.reduceLeDiff, Nat.reduceBEq, Int.reduceToNat, Int.reduceLE, Int.reduceLT, Int.reduceEq, Int.reduceNe, di]
        refine calls_of p_unless ?_; simp only [limI, limsI, tskI, hgtI, res63, lkE, ↓reduceIte, reduceCtorEq, Nat.reduceEqDiff, Nat.reduceAdd, Nat.reduceMul, Nat.reduceSub, Nat.reduceLeDiff, Nat.reduceBEq, Int.reduceToNat, Int.reduceLE, Int.reduceLT, Int.reduceEq, Int.reduceNe, di]
        refine calls_of p_first2 ?_; simp only [limI, limsI, tskI, hgtI, res63, lkE, ↓reduceIte, reduceCtorEq, Nat.reduceEqDiff, Nat.reduceAdd, Nat.reduceMul, Nat.reduceSub, Nat.reduceLeDiff, Nat.reduceBEq, Int.reduceToNat, Int.reduceLE, Int.reduceLT, Int.reduceEq, Int.reduceNe, di]
        simp
    · simp only [c2, limI, limsI, tskI, hgtI, lkE, ↓reduceIte, reduceCtorEq, Nat.reduceEqDiff, Nat.reduceAdd, Nat.reduceMul, Nat.reduceSub, Nat.reduceLeDiff, Nat.reduceBEq, Int.reduceToNat, Int.reduceLE, Int.reduceLT, Int.reduceEq, Int.reduceNe, di]
      refine calls_of p_unless ?_; simp only [limI, limsI, tskI, hgtI, res63, lkE, ↓reduceIte, reduceCtorEq, Nat.reduceEqDiff, Nat.reduceAdd, Nat.reduceMul, Nat.reduceSub, Nat.reduceLeDiff, Nat.reduceBEq, Int.reduceToNat, Int.reduceLE, Int.reduceLT, Int.reduceEq, Int.reduceNe, di]
      refine calls_of p_unless ?_; simp only [limI, limsI, tskI, hgtI, res63, lkE, ↓reduceIte, reduceCtorEq, Nat.reduceEqDiff, Nat.reduceAdd, Nat.reduceMul, Nat.reduceSub, Nat.reduceLeDiff, Nat.reduceBEq, Int.reduceToNat, Int.reduceLE, Int.reduceLT, Int.reduceEq, Int.reduceNe, di]
      refine calls_of p_first2 ?_; simp only [limI, limsI, tskI, hgtI, res63, lkE, ↓reduceIte, reduceCtorEq, Nat.reduceEqDiff, Nat.reduceAdd, Nat.reduceMul, Nat.reduceSub, Nat.reduceLeDiff, Nat.reduceBEq, Int.reduceToNat, Int.reduceLE, Int.reduceLT, Int.reduceEq, Int.reduceNe, di]
      simp
  · simp only [c1, limI, limsI, tskI, hgtI, lkE, ↓reduceIte, reduceCtorEq, Nat.reduceEqDiff, Nat.reduceAdd, Nat.reduceMul, Nat.reduceSub, Nat.reduceLeDiff, Nat.reduceBEq, Int.reduceToNat, Int.reduceLE, Int.reduceLT, Int.reduceEq, Int.reduceNe, di]
    refine calls_of p_unless ?_; simp only [limI, limsI, tskI, hgtI, res63, lkE, ↓reduceIte, reduceCtorEq, Nat.reduceEqDiff, Nat.reduceAdd, Nat.reduceMul, Nat.reduceSub, Nat.reduceLeDiff, Nat.reduceBEq, Int.reduceToNat, Int.reduceLE, Int.reduceLT, Int.reduceEq, Int.reduceNe, di]
    refine calls_of p_unless ?_; simp only [limI, limsI, tskI, hgtI, res63, lkE, ↓reduceIte, reduceCtorEq, Nat.reduceEqDiff, Nat.reduceAdd, Nat.reduceMul, Nat.reduceSub, Nat.reduceLeDiff, Nat.reduceBEq, Int.reduceToNat, Int.reduceLE, Int.reduceLT, Int.reduceEq, Int.reduceNe, di]
    refine calls_of p_first2 ?_; simp only [limI, limsI, tskI, hgtI, res63, lkE, ↓reduceIte, reduceCtorEq, Nat.reduceEqDiff, Nat.reduceAdd, Nat.reduceMul, Nat.reduceSub, Nat.reduceLeDiff, Nat.reduceBEq, Int.reduceToNat, Int.reduceLE, Int.reduceLT, Int.reduceEq, Int.reduceNe, di]
    simp

theorem p_limitsErr {p : Pair} {L : Lims} (h : VPair p) : Contract Tryz.prog 37 [lpI p, limsI L] (.int .i64 (limsErr p L)) := by
  unfold limsErr
  refine contract_run Tryz.func37 k37 rfl ?_
  simp only [body37, b37, res37, limI, limsI, tskI, hgtI, lkE, ↓reduceIte, reduceCtorEq, Nat.reduceEqDiff, Nat.reduceAdd, Nat.reduceMul, Nat.reduceSub, Nat.reduceLeDiff, Nat.reduceBEq, Int.reduceToNat, Int.reduceLE, Int.reduceLT, Int.reduceEq, Int.reduceNe, di]
  repeat (refine And.intro (by omega) ?_)
  refine calls_of (p_limitErr (x := L.u) h.u) ?_; simp only [limI, limsI, tskI, hgtI, res37, lkE, ↓reduceIte, reduceCtorEq, Nat.reduceEqDiff, Nat.reduceAdd, Nat.reduceMul, Nat.reduceSub, Nat.reduceLeDiff, Nat.reduceBEq, Int.reduceToNat, Int.reduceLE, Int.reduceLT, Int.reduceEq, Int.reduceNe, di]
  repeat (refine And.intro (by omega) ?_)
  refine calls_of (p_limitErr (x := L.l) h.l) ?_; simp only [limI, limsI, tskI, hgtI, res37, lkE, ↓reduceIte, reduceCtorEq, Nat.reduceEqDiff, Nat.reduceAdd, Nat.reduceMul, Nat.reduceSub, Nat.reduceLeDiff, Nat.reduceBEq, Int.reduceToNat, Int.reduceLE, Int.reduceLT, Int.reduceEq, Int.reduceNe, di]
  refine calls_of p_first2 ?_; simp only [limI, limsI, tskI, hgtI, res37, lkE, ↓reduceIte, reduceCtorEq, Nat.reduceEqDiff, Nat.reduceAdd, Nat.reduceMul, Nat.reduceSub, Nat.reduceLeDiff, Nat.reduceBEq, Int.reduceToNat, Int.reduceLE, Int.reduceLT, Int.reduceEq, Int.reduceNe, di]

theorem p_CheckLimits {p : Pair} {L : Lims} (h : Sm p) : Contract Tryz.prog 14 [lpI p, limsI L] (.int .i64 (if pairErr p = 0 then limsErr p L else pairErr p)) := by
  refine contract_run Tryz.func14 k14 rfl ?_
  simp only [body14, b14, res14, b14k0, limI, limsI, tskI, hgtI, lkE, ↓reduceIte, reduceCtorEq, Nat.reduceEqDiff, Nat.reduceAdd, Nat.reduceMul, Nat.reduceSub, Nat.reduceLeDiff, Nat.reduceBEq, Int.reduceToNat, Int.reduceLE, Int.reduceLT, Int.reduceEq, Int.reduceNe, di]
  refine calls_of (p_openPair h) ?_; simp only [limI, limsI, tskI, hgtI, res14, b14k0, lkE, ↓reduceIte, reduceCtorEq, Nat.reduceEqDiff, Nat.reduceAdd, Nat.reduceMul, Nat.reduceSub, Nat.reduceLeDiff, Nat.reduceBEq, Int.reduceToNat, Int.reduceLE, Int.reduceLT, Int.reduceEq, Int.reduceNe, di]
  split
  · rename_i k
    refine calls_of (p_limitsErr (L := L) (pairErr_ok.1 k)) ?_; simp only [limI, limsI, tskI, hgtI, res14, b14k0, lkE, ↓reduceIte, reduceCtorEq, Nat.reduceEqDiff, Nat.reduceAdd, Nat.reduceMul, Nat.reduceSub, Nat.reduceLeDiff, Nat.reduceBEq, Int.reduceToNat, Int.reduceLE, Int.reduceLT, Int.reduceEq, Int.reduceNe, di]
  · rfl

def taskErr (p : Pair) (x : Tsk) : Int := if limsErr p x.L = 0 then listErr x.fs else limsErr p x.L
theorem p_openTask {p : Pair} {s : Sta} {x : Tsk} (h : Sm p) (hl : x.fs.length ≤ 1000000000000) : Contract Tryz.prog 30 [lpI p, stI s, tskI x] (.tup [lpI p, .int .i64 (if bothErr p s = 0 then taskErr p x else bothErr p s)]) := by
  unfold taskErr
  refine contract_run Tryz.func30 k30 rfl ?_
  simp only [body30, b30, res30, b30k0, limI, limsI, tskI, hgtI, lkE, ↓reduceIte, reduceCtorEq, Nat.reduceEqDiff, Nat.reduceAdd, Nat.reduceMul, Nat.reduceSub, Nat.reduceLeDiff, Nat.reduceBEq, Int.reduceToNat, Int.reduceLE, Int.reduceLT, Int.reduceEq, Int.reduceNe, di]
  refine calls_of (p_openState h) ?_; simp only [limI, limsI, tskI, hgtI, res30, b30k0, lkE, ↓reduceIte, reduceCtorEq, Nat.reduceEqDiff, Nat.reduceAdd, Nat.reduceMul, Nat.reduceSub, Nat.reduceLeDiff, Nat.reduceBEq, Int.reduceToNat, Int.reduceLE, Int.reduceLT, Int.reduceEq, Int.reduceNe, di]
  split
  · rename_i k
    refine calls_of (p_limitsErr (L := x.L) (bothErr_ok.1 k).1) ?_; simp only [limI, limsI, tskI, hgtI, res30, b30k0, lkE, ↓reduceIte, reduceCtorEq, Nat.reduceEqDiff, Nat.reduceAdd, Nat.reduceMul, Nat.reduceSub, Nat.reduceLeDiff, Nat.reduceBEq, Int.reduceToNat, Int.reduceLE, Int.reduceLT, Int.reduceEq, Int.reduceNe, di]
    refine calls_of (p_ticksErr hl) ?_; simp only [limI, limsI, tskI, hgtI, res30, b30k0, lkE, ↓reduceIte, reduceCtorEq, Nat.reduceEqDiff, Nat.reduceAdd, Nat.reduceMul, Nat.reduceSub, Nat.reduceLeDiff, Nat.reduceBEq, Int.reduceToNat, Int.reduceLE, Int.reduceLT, Int.reduceEq, Int.reduceNe, di]
    refine calls_of p_first2 ?_; simp only [limI, limsI, tskI, hgtI, res30, b30k0, lkE, ↓reduceIte, reduceCtorEq, Nat.reduceEqDiff, Nat.reduceAdd, Nat.reduceMul, Nat.reduceSub, Nat.reduceLeDiff, Nat.reduceBEq, Int.reduceToNat, Int.reduceLE, Int.reduceLT, Int.reduceEq, Int.reduceNe, di]
  · rfl
end Go.DI

/- Contracts: what the levels of a lake violate. No condition. -/
set_option linter.unusedSimpArgs false
namespace Go.DI
open Go.Proofs Go.RowKit Lk

theorem p_IndexB {l : List Bool} (hl : l.length ≤ 1000000000000) : Contract Tryz.prog 89 [.slc 1 (l.map .bool), .bool true] (.int .i64 (indexF (fun b => b) l 0)) := by
  refine contract_run Tryz.func89 k89 rfl ?_
  simp only [body89, b89, res89, b89k0, b89k1, b89k2, ↓reduceIte, reduceCtorEq, Nat.reduceEqDiff, Nat.reduceAdd, Nat.reduceMul, Nat.reduceSub, Nat.reduceLeDiff, Nat.reduceBEq, Int.reduceToNat, Int.reduceLE, Int.reduceLT, Int.reduceEq, Int.reduceNe, di]
  refine loop_keep (α := Nat) rfl (fun i => l.length - i) (fun i => i ≤ l.length ∧ indexF (fun b => b) (l.drop i) i = indexF (fun b => b) l 0)
    (fun i => [(0, .imm (.slc 1 (l.map .bool))), (1, .imm (.bool true)), (7, .imm (.int .i64 l.length)), (8, .imm (.int .i64 i))]) (fun _ => []) 0 ⟨Nat.zero_le _, rfl⟩ (by simp only [↓reduceIte, reduceCtorEq, Nat.reduceEqDiff, Nat.reduceAdd, Nat.reduceMul, Nat.reduceSub, Nat.reduceLeDiff, Nat.reduceBEq, Int.reduceToNat, Int.reduceLE, Int.reduceLT, Int.reduceEq, Int.reduceNe, di] <;> rfl) ?_
  intro i ⟨hi, he⟩ ih
  simp only [res89, b89k0, b89k1, b89k2, ↓reduceIte, reduceCtorEq, Nat.reduceEqDiff, Nat.reduceAdd, Nat.reduceMul, Nat.reduceSub, Nat.reduceLeDiff, Nat.reduceBEq, Int.reduceToNat, Int.reduceLE, Int.reduceLT, Int.reduceEq, Int.reduceNe, di]
  split
  · rename_i h
    have hx : l.drop i = l.getD i false :: l.drop (i + 1) := by
      rw [List.drop_eq_getElem_cons (by omega)]
      congr 1
      rw [List.getD_eq_getElem?_getD]; simp [show i < l.length by omega]
    rw [hx, indexF_cons] at he
    repeat (refine And.intro (by omega) ?_)
    rw [show (default : Bool) = false from rfl]
    cases hb : l.getD i false
    · rw [hb] at he
      rw [if_neg (by decide), wrap64 (by omega) (by omega)]
      exact ih (i + 1) _ _ (by omega) ⟨by omega, by simpa using he⟩ (by simp only [↓reduceIte, reduceCtorEq, Nat.reduceEqDiff, Nat.reduceAdd, Nat.reduceMul, Nat.reduceSub, Nat.reduceLeDiff, Nat.reduceBEq, Int.reduceToNat, Int.reduceLE, Int.reduceLT, Int.reduceEq, Int.reduceNe, di] <;> rfl)
    · rw [hb] at he
      rw [if_pos (by decide), ← he]
      rfl
  · rename_i h
    rw [← he, List.drop_eq_nil_of_le (by omega)]
    rfl

theorem hgt_ok {l : List Kn} {v : Int} (h : Valid l) (hv : isV l v) : hOk (hgt l v) ∧ hSm (hgt l v) ∧ hval (hgt l v) = lvl l v := by
  obtain ⟨i, hi, i1, i2, i3, i4, i5⟩ := at_volume h hv
  have hin := level_in h hv hi
  have ra := h.range i2
  have rb := h.range (i := i - 1) (by omega)
  have dp := dh_pos h i1 i2
  have dq := dv_pos h i1 i2
  have m1 := Int.emod_nonneg ((v - (kn l (i - 1)).2) * dh l i) (show dv l i ≠ 0 by omega)
  have m2 := Int.emod_lt_of_pos ((v - (kn l (i - 1)).2) * dh l i) dq.1
  unfold hOk hSm hval hgt lvl
  simp only [hi]
  refine ⟨⟨m1, m2⟩, ⟨⟨by omega, by omega⟩, ⟨m1, by omega⟩, by omega, by omega⟩, ?_⟩
  unfold levLo
  rw [hi]
  generalize (v - (kn l (i - 1)).2) * dh l i = n at *
  generalize (kn l (i - 1)).1 = k at *
  generalize dv l i = d at *
  have hd : (d : Rat) ≠ 0 := by
    intro h0
    have : d = 0 := by exact_mod_cast h0
    omega
  have e := Int.mul_ediv_add_emod n d
  have e' : (d : Rat) * ((n / d : Int) : Rat) + ((n % d : Int) : Rat) = (n : Rat) := by exact_mod_cast e
  rw [Rat.divInt_eq_div]
  have h1 : ((k * d + n : Int) : Rat) = (k : Rat) * d + n := by push_cast; rfl
  rw [h1, ← e']
  have h2 : ((k + n / d : Int) : Rat) = (k : Rat) + ((n / d : Int) : Rat) := by push_cast; rfl
  rw [h2]
  clear hin rb m1 m2 e e' h1 h2
  generalize ((n / d : Int) : Rat) = q
  generalize ((n % d : Int) : Rat) = r
  generalize (d : Rat) = c at *
  generalize (k : Rat) = j
  grind

def kinds (x : Lim) (now before : Hgt) : List Bool := [hAbove (x.lo, 0, 1) now 0, hAbove now (x.hi, 0, 1) 0, hAbove before now x.fall, hAbove now before x.rise]
theorem hval_int {n : Int} : hval (n, 0, 1) = (n : Rat) := by
  unfold hval
  simp
  grind
theorem kinds_kind {x : Lim} {now before : Hgt} (h1 : hOk now) (h2 : hOk before) :
    indexF (fun b => b) (kinds x now before) 0 = match kindOf x (hval now) (hval before) with | some k => (k : Int) | none => -1 := by
  have hw : ∀ n : Int, hOk (n, 0, 1) := fun n => ⟨by simp, by simp⟩
  unfold kinds kindOf
  rw [hAbove_iff (hw _) h1, hAbove_iff h1 (hw _), hAbove_iff h2 h1, hAbove_iff h1 h2, hval_int, hval_int]
  have e0 : (hval now + ((0 : Int) : Rat) < (x.lo : Rat)) ↔ (hval now < (x.lo : Rat)) := by constructor <;> intro h <;> grind
  have e1 : ((x.hi : Rat) + ((0 : Int) : Rat) < hval now) ↔ ((x.hi : Rat) < hval now) := by constructor <;> intro h <;> grind
  have e2 : (hval now + (x.fall : Rat) < hval before) ↔ ((x.fall : Rat) < hval before - hval now) := by constructor <;> intro h <;> grind
  have e3 : (hval before + (x.rise : Rat) < hval now) ↔ ((x.rise : Rat) < hval now - hval before) := by constructor <;> intro h <;> grind
  simp only [e0, e1, e2, e3]
  by_cases c0 : hval now < (x.lo : Rat)
  · simp [indexF, c0]
  by_cases c1 : (x.hi : Rat) < hval now
  · simp [indexF, c0, c1]
  by_cases c2 : (x.fall : Rat) < hval before - hval now
  · simp [indexF, c0, c1, c2]
  by_cases c3 : (x.rise : Rat) < hval now - hval before
  · simp [indexF, c0, c1, c2, c3]
  · simp [indexF, c0, c1, c2, c3]

def vioR (l : List Kn) (x : Lim) (vs : List Int) : Option Nat := vLake l x (fun i => vs.getD i 0) (vs.length - 1)

theorem p_violated {l : List Kn} {x : Lim} {vs : List Int} (h : Valid l) (hx : limOk l x) (hv : ∀ v ∈ vs, isV l v) (h0 : vs ≠ []) (hn : vs.length ≤ 1000000) :
    Contract Tryz.prog 58 [limI x, .slc 3 (vs.map fun v => hgtI (hgt l v))] (.tup [.int .i64 (match vioR l x vs with | some k => (k : Int) | none => 0), .bool (vioR l x vs).isSome]) := by
  have hp : 0 < vs.length := List.length_pos_iff.2 h0
  obtain ⟨x1, x2, x3, x4, x5⟩ := hx
  unfold Wi at x3 x4 x5
  have b1 := isL_bd h x1
  have b2 := isL_bd h x2
  have hin : ∀ i, i < vs.length → isV l (vs.getD i 0) := fun i hi => hv _ (by rw [List.getD_eq_getElem?_getD]; simp [hi])
  have hg : ∀ i, i < vs.length → (vs.map fun v => hgtI (hgt l v)).getD i .nilp = hgtI (hgt l (vs.getD i 0)) := fun i hi => by
    rw [List.getD_eq_getElem?_getD, List.getD_eq_getElem?_getD]; simp [hi]
  have n1 : ((vs.length : Int) - 1) = ((vs.length - 1 : Nat) : Int) := by omega
  have n2 : max 0 (((vs.length - 1 : Nat) : Int) - x.win) = ((vs.length - 1 - x.win.toNat : Nat) : Int) := by omega
  have ho1 := hgt_ok h (hin (vs.length - 1) (by omega))
  have ho2 := hgt_ok h (hin (vs.length - 1 - x.win.toNat) (by omega))
  have hk := kinds_kind (x := x) ho1.1 ho2.1
  rw [ho1.2.2, ho2.2.2] at hk
  have hk' : indexF (fun b => b) (kinds x (hgt l (vs.getD (vs.length - 1) 0)) (hgt l (vs.getD (vs.length - 1 - x.win.toNat) 0))) 0 = match vioR l x vs with | some k => (k : Int) | none => -1 := hk
  refine contract_run Tryz.func58 k58 rfl ?_
  simp only [body58, b58, res58, limI, limsI, tskI, hgtI, lkE, ↓reduceIte, reduceCtorEq, Nat.reduceEqDiff, Nat.reduceAdd, Nat.reduceMul, Nat.reduceSub, Nat.reduceLeDiff, Nat.reduceBEq, Int.reduceToNat, Int.reduceLE, Int.reduceLT, Int.reduceEq, Int.reduceNe, di]
  simp only [show IntKind.wrap .i64 ((vs.length : Int) - 1) = (vs.length : Int) - 1 from wrap64 (by omega) (by omega)]
  simp only [show IntKind.wrap .i64 ((vs.length : Int) - 1 - x.win) = (vs.length : Int) - 1 - x.win from wrap64 (by omega) (by omega)]
  simp only [n2, n1, i_toNat]
  repeat (refine And.intro (by omega) ?_)
  generalize hgt l (vs.getD (vs.length - 1) 0) = a at *
  generalize hgt l (vs.getD (vs.length - 1 - x.win.toNat) 0) = b at *
  have hw : ∀ n : Int, 0 ≤ n ∧ n ≤ 1000000 → hSm (n, 0, 1) := fun n hn => ⟨⟨by dsimp only; omega, by dsimp only; omega⟩, ⟨by simp, by simp⟩, by simp, by simp⟩
  refine calls_of p_whole ?_; simp only [limI, limsI, tskI, hgtI, res58, lkE, ↓reduceIte, reduceCtorEq, Nat.reduceEqDiff, Nat.reduceAdd, Nat.reduceMul, Nat.reduceSub, Nat.reduceLeDiff, Nat.reduceBEq, Int.reduceToNat, Int.reduceLE, Int.reduceLT, Int.reduceEq, Int.reduceNe, di]
  refine calls_of (p_above (a := (x.lo, 0, 1)) (b := a) (m := 0) (hw _ b1) ho1.2.1 (by omega) (by omega)) ?_; simp only [limI, limsI, tskI, hgtI, res58, lkE, ↓reduceIte, reduceCtorEq, Nat.reduceEqDiff, Nat.reduceAdd, Nat.reduceMul, Nat.reduceSub, Nat.reduceLeDiff, Nat.reduceBEq, Int.reduceToNat, Int.reduceLE, Int.reduceLT, Int.reduceEq, Int.reduceNe, di]
  refine calls_of p_whole ?_; simp only [limI, limsI, tskI, hgtI, res58, lkE, ↓reduceIte, reduceCtorEq, Nat.reduceEqDiff, Nat.reduceAdd, Nat.reduceMul, Nat.reduceSub, Nat.reduceLeDiff, Nat.reduceBEq, Int.reduceToNat, Int.reduceLE, Int.reduceLT, Int.reduceEq, Int.reduceNe, di]
  refine calls_of (p_above (a := a) (b := (x.hi, 0, 1)) (m := 0) ho1.2.1 (hw _ b2) (by omega) (by omega)) ?_; simp only [limI, limsI, tskI, hgtI, res58, lkE, ↓reduceIte, reduceCtorEq, Nat.reduceEqDiff, Nat.reduceAdd, Nat.reduceMul, Nat.reduceSub, Nat.reduceLeDiff, Nat.reduceBEq, Int.reduceToNat, Int.reduceLE, Int.reduceLT, Int.reduceEq, Int.reduceNe, di]
  refine calls_of (p_above (a := b) (b := a) (m := x.fall) ho2.2.1 ho1.2.1 (by omega) (by omega)) ?_; simp only [limI, limsI, tskI, hgtI, res58, lkE, ↓reduceIte, reduceCtorEq, Nat.reduceEqDiff, Nat.reduceAdd, Nat.reduceMul, Nat.reduceSub, Nat.reduceLeDiff, Nat.reduceBEq, Int.reduceToNat, Int.reduceLE, Int.reduceLT, Int.reduceEq, Int.reduceNe, di]
  refine calls_of (p_above (a := a) (b := b) (m := x.rise) ho1.2.1 ho2.2.1 (by omega) (by omega)) ?_; simp only [limI, limsI, tskI, hgtI, res58, lkE, ↓reduceIte, reduceCtorEq, Nat.reduceEqDiff, Nat.reduceAdd, Nat.reduceMul, Nat.reduceSub, Nat.reduceLeDiff, Nat.reduceBEq, Int.reduceToNat, Int.reduceLE, Int.reduceLT, Int.reduceEq, Int.reduceNe, di]
  refine calls_of (p_IndexB (l := kinds x a b) (by simp [kinds])) ?_; simp only [limI, limsI, tskI, hgtI, res58, lkE, ↓reduceIte, reduceCtorEq, Nat.reduceEqDiff, Nat.reduceAdd, Nat.reduceMul, Nat.reduceSub, Nat.reduceLeDiff, Nat.reduceBEq, Int.reduceToNat, Int.reduceLE, Int.reduceLT, Int.reduceEq, Int.reduceNe, di]
  rw [hk']
  cases vioR l x vs with
  | none => rfl
  | some k =>
    simp only [Option.isSome_some, ↓reduceIte, reduceCtorEq, Nat.reduceEqDiff, Nat.reduceAdd, Nat.reduceMul, Nat.reduceSub, Nat.reduceLeDiff, Nat.reduceBEq, Int.reduceToNat, Int.reduceLE, Int.reduceLT, Int.reduceEq, Int.reduceNe, di]
    rw [Int.max_eq_left (by omega)]
end Go.DI

/- Contracts: the program watches levels tick by tick. No condition. -/
set_option linter.unusedSimpArgs false
namespace Go.DI
open Go.Proofs Go.RowKit Lk

def flsI (fs : List Flow) : IV := .func 59 [] [.ptr (.agg [.slc 3 (fs.map flI)])]
theorem p_Values {fs : List Flow} : Contract Tryz.prog 32 [.slc 3 (fs.map flI)] (flsI fs) := by
  refine contract_run Tryz.func32 k32 rfl ?_
  simp only [body32, b32, res32, limI, limsI, tskI, hgtI, lkE, ↓reduceIte, reduceCtorEq, Nat.reduceEqDiff, Nat.reduceAdd, Nat.reduceMul, Nat.reduceSub, Nat.reduceLeDiff, Nat.reduceBEq, Int.reduceToNat, Int.reduceLE, Int.reduceLT, Int.reduceEq, Int.reduceNe, di]
  rfl

theorem it_Values {fs : List Flow} (hl : fs.length ≤ 1000000000000) (l : Nat) :
    BC Tryz.prog 59 [.yld l, .imm (.ptr (.agg [.slc 3 (fs.map flI)]))] (lookR [(0, .seq l (false, some (fs.map fun x => [flI x])))]) fun _ R' => seqOver l false R' := by
  refine bc_run Tryz.func59 k59 rfl rfl ?_
  simp only [body59, b59, res59, b59k0, b59k1, limI, limsI, tskI, hgtI, lkE, ↓reduceIte, reduceCtorEq, Nat.reduceEqDiff, Nat.reduceAdd, Nat.reduceMul, Nat.reduceSub, Nat.reduceLeDiff, Nat.reduceBEq, Int.reduceToNat, Int.reduceLE, Int.reduceLT, Int.reduceEq, Int.reduceNe, di]
  refine loop_keep (α := Nat) rfl (fun i => fs.length - i) (fun i => i ≤ fs.length)
    (fun i => [(0, .yld l), (5, .imm (.slc 3 (fs.map flI))), (6, .imm (.int .i64 fs.length)), (7, .imm (.int .i64 i))])
    (fun i => [(0, .seq l (false, some ((fs.drop i).map fun x => [flI x])))]) 0 (Nat.zero_le _) (by simp only [limI, limsI, tskI, hgtI, lkE, ↓reduceIte, reduceCtorEq, Nat.reduceEqDiff, Nat.reduceAdd, Nat.reduceMul, Nat.reduceSub, Nat.reduceLeDiff, Nat.reduceBEq, Int.reduceToNat, Int.reduceLE, Int.reduceLT, Int.reduceEq, Int.reduceNe, di] <;> rfl) ?_
  intro i hi ih
  simp only [res59, b59k0, b59k1, limI, limsI, tskI, hgtI, lkE, ↓reduceIte, reduceCtorEq, Nat.reduceEqDiff, Nat.reduceAdd, Nat.reduceMul, Nat.reduceSub, Nat.reduceLeDiff, Nat.reduceBEq, Int.reduceToNat, Int.reduceLE, Int.reduceLT, Int.reduceEq, Int.reduceNe, di]
  split
  · rename_i h
    have hlt : i < fs.length := by omega
    rw [fl_getD hlt, List.map_cons]
    refine ⟨h, ?_⟩
    refine do_yield rfl rfl rfl ?_ ?_
    · intro _
      simp only [res59, b59k0, b59k1, limI, limsI, tskI, hgtI, lkE, ↓reduceIte, reduceCtorEq, Nat.reduceEqDiff, Nat.reduceAdd, Nat.reduceMul, Nat.reduceSub, Nat.reduceLeDiff, Nat.reduceBEq, Int.reduceToNat, Int.reduceLE, Int.reduceLT, Int.reduceEq, Int.reduceNe, di]
      rw [wrap64 (by omega) (by omega)]
      exact ih (i + 1) _ _ (by omega) (by omega) (by simp only [limI, limsI, tskI, hgtI, lkE, ↓reduceIte, reduceCtorEq, Nat.reduceEqDiff, Nat.reduceAdd, Nat.reduceMul, Nat.reduceSub, Nat.reduceLeDiff, Nat.reduceBEq, Int.reduceToNat, Int.reduceLE, Int.reduceLT, Int.reduceEq, Int.reduceNe, di] <;> rfl)
    · simp only [res59, b59k0, b59k1, limI, limsI, tskI, hgtI, lkE, ↓reduceIte, reduceCtorEq, Nat.reduceEqDiff, Nat.reduceAdd, Nat.reduceMul, Nat.reduceSub, Nat.reduceLeDiff, Nat.reduceBEq, Int.reduceToNat, Int.reduceLE, Int.reduceLT, Int.reduceEq, Int.reduceNe, di]
      rw [outD_nil res59]
      exact ⟨_, rfl, rfl, .inr rfl⟩
  · rename_i h
    have hie : i = fs.length := by omega
    subst hie
    rw [outD_nil res59]
    exact ⟨_, rfl, rfl, .inl ⟨rfl, by simp [lookR]⟩⟩

def watC (p : Pair) (L : Lims) (fs : List Flow) : List DV := [.pim (lpI p), .ref 1000 0, .pim (.agg [flsI fs]), .pim (limsI L)]
theorem b_watch {p : Pair} {s : Sta} {L : Lims} {fs : List Flow} :
    BC Tryz.prog 31 [.imm (lpI p), .imm (stI s), .imm (limsI L), .imm (flsI fs)] (lookR []) fun r R' => r = .fn 57 [] (watC p L fs) ∧ R' = lookR [(1000, .box [.imm (.int .i64 s.1), .imm (.int .i64 s.2)])] := by
  refine bc_run Tryz.func31 k31 rfl rfl ?_
  simp only [flsI, body31, b31, res31, limI, limsI, tskI, hgtI, lkE, ↓reduceIte, reduceCtorEq, Nat.reduceEqDiff, Nat.reduceAdd, Nat.reduceMul, Nat.reduceSub, Nat.reduceLeDiff, Nat.reduceBEq, Int.reduceToNat, Int.reduceLE, Int.reduceLT, Int.reduceEq, Int.reduceNe, di]
  refine run_ren rfl (by first | decide | rfl) (by first | decide | rfl) (by first | decide | rfl) ?_
  simp only [limI, limsI, tskI, hgtI, lkE, ↓reduceIte, reduceCtorEq, Nat.reduceEqDiff, Nat.reduceAdd, Nat.reduceMul, Nat.reduceSub, Nat.reduceLeDiff, Nat.reduceBEq, Int.reduceToNat, Int.reduceLE, Int.reduceLT, Int.reduceEq, Int.reduceNe, di]
  rw [outD_one res31, getD_tmp]
  exact ⟨_, rfl, rfl, rfl⟩

theorem p_hgt {l : List Kn} {v : Int} (h : Valid l) (hv : isV l v) : Contract Tryz.prog 48 [tabI l, .int .i64 v] (hgtI (hgt l v)) := p_levelAt h hv

def vioI : Option Vio → IV
  | none => .nilp
  | some (t, a, k) => .ptr (.agg [.int .i64 t, .int .i64 a, .int .i64 k])
def watI (x : Bool × Option Vio) : List IV := [.bool x.1, vioI x.2]

def watG (p : Pair) (L : Lims) (l : Nat) (fs : List Flow) (ss : List Sta) (s : Sta) : List (Nat × Res) :=
  [(0, .seq l (false, some ((wat p L ss s (fs.drop (ss.length - 1))).map watI))), (5, .box [.yld l]), (6, .box [.own 1006, .own 1007]), (7, .box [.imm (.int .i64 ((ss.length - 1 : Nat) : Int))]),
    (1000, .box [.imm (.int .i64 s.1), .imm (.int .i64 s.2)]), (1006, .tok 3 (ss.map fun s => hgtI (hgt p.u s.1))), (1007, .tok 3 (ss.map fun s => hgtI (hgt p.l s.2)))]

theorem p_violatedT {l : List Kn} {x : Lim} (F : Sta → Int) (hF : F (0, 0) = 0) {ss : List Sta} {t : Sta} (h : Valid l) (hx : limOk l x) (hv : ∀ s ∈ ss ++ [t], isV l (F s)) (hn : ss.length < 1000000) :
    Contract Tryz.prog 58 [limI x, .slc 3 (ss.map (fun s => hgtI (hgt l (F s))) ++ [hgtI (hgt l (F t))])]
      (.tup [.int .i64 (match vLake l x (fun i => F (nth (ss ++ [t]) i)) ss.length with | some k => (k : Int) | none => 0), .bool (vLake l x (fun i => F (nth (ss ++ [t]) i)) ss.length).isSome]) := by
  have hc := p_violated (l := l) (x := x) (vs := (ss ++ [t]).map F) h hx (fun v hv' => by obtain ⟨s, hs, rfl⟩ := List.mem_map.1 hv'; exact hv s hs) (by simp) (by simp; omega)
  have e : vioR l x ((ss ++ [t]).map F) = vLake l x (fun i => F (nth (ss ++ [t]) i)) ss.length := by
    unfold vioR
    have e1 : (fun i => ((ss ++ [t]).map F).getD i 0) = fun i => F (nth (ss ++ [t]) i) := by
      funext i
      unfold nth
      rw [List.getD_eq_getElem?_getD, List.getD_eq_getElem?_getD, List.getElem?_map]
      cases (ss ++ [t])[i]? with
      | none => exact hF.symm
      | some q => rfl
    rw [e1]
    simp
  rw [e] at hc
  have e2 : ((ss ++ [t]).map F).map (fun v => hgtI (hgt l v)) = ss.map (fun s => hgtI (hgt l (F s))) ++ [hgtI (hgt l (F t))] := by simp
  rw [e2] at hc
  exact hc

theorem it_watch {p : Pair} {s : Sta} {L : Lims} {fs : List Flow} (hp : VPair p) (hs : stOk p s) (hL : limOk p.u L.u ∧ limOk p.l L.l) (hf : ∀ x ∈ fs, flowOk x) (hn : fs.length ≤ 1000) (l : Nat) :
    BC Tryz.prog 57 (.yld l :: watC p L fs) (lookR [(0, .seq l (false, some ((wat p L [s] s fs).map watI))), (1000, .box [.imm (.int .i64 s.1), .imm (.int .i64 s.2)])]) fun _ R' => seqOver l false R' := by
  refine bc_run Tryz.func57 k57 rfl rfl ?_
  simp only [watC, flsI, body57, b57, res57, b57k0, b57k1, b57k2, b57k3, limI, limsI, tskI, hgtI, lkE, ↓reduceIte, reduceCtorEq, Nat.reduceEqDiff, Nat.reduceAdd, Nat.reduceMul, Nat.reduceSub, Nat.reduceLeDiff, Nat.reduceBEq, Int.reduceToNat, Int.reduceLE, Int.reduceLT, Int.reduceEq, Int.reduceNe, di]
  repeat (refine And.intro (by omega) ?_)
  refine calls_of (p_hgt hp.u hs.1) ?_; simp only [limI, limsI, tskI, hgtI, res57, b57k0, b57k1, b57k2, b57k3, lkE, ↓reduceIte, reduceCtorEq, Nat.reduceEqDiff, Nat.reduceAdd, Nat.reduceMul, Nat.reduceSub, Nat.reduceLeDiff, Nat.reduceBEq, Int.reduceToNat, Int.reduceLE, Int.reduceLT, Int.reduceEq, Int.reduceNe, di]
  repeat (refine And.intro (by omega) ?_)
  refine calls_of (p_hgt hp.l hs.2) ?_; simp only [limI, limsI, tskI, hgtI, res57, b57k0, b57k1, b57k2, b57k3, lkE, ↓reduceIte, reduceCtorEq, Nat.reduceEqDiff, Nat.reduceAdd, Nat.reduceMul, Nat.reduceSub, Nat.reduceLeDiff, Nat.reduceBEq, Int.reduceToNat, Int.reduceLE, Int.reduceLT, Int.reduceEq, Int.reduceNe, di]
  repeat (refine And.intro (by omega) ?_)
  refine range_plain (gf := 59) (first := []) (caps := [.ptr (.agg [.slc 3 (fs.map flI)])]) (fs.map fun x => [flI x]) false rfl rfl (it_Values (by omega)) (by simp) rfl
    (fun n (y : List Sta × Sta) => y.1.length = n + 1 ∧ (∀ t ∈ y.1, stOk p t) ∧ stOk p y.2) (fun y => watG p L l fs y.1 y.2) ([s], s) ⟨rfl, by simpa using hs, hs⟩ (by rw [keepRes_look]; simp only [watG, limI, limsI, tskI, hgtI, lkE, ↓reduceIte, reduceCtorEq, Nat.reduceEqDiff, Nat.reduceAdd, Nat.reduceMul, Nat.reduceSub, Nat.reduceLeDiff, Nat.reduceBEq, Int.reduceToNat, Int.reduceLE, Int.reduceLT, Int.reduceEq, Int.reduceNe, di] <;> rfl) ?_ ?_
  · rintro n x ⟨ss, s'⟩ hx ⟨h1, h2, h3⟩
    dsimp only at h1 h2 h3
    simp only [List.getElem?_map, Option.map_eq_some_iff] at hx
    obtain ⟨f, hf', rfl⟩ := hx
    have hlt := (List.getElem?_eq_some_iff.1 hf').1
    have hfo : flowOk f := hf f (List.mem_of_getElem? hf')
    have hd : fs.drop (ss.length - 1) = f :: fs.drop (n + 1) := by
      rw [show ss.length - 1 = n by omega, List.drop_eq_getElem_cons hlt]
      congr 1
      exact (List.getElem?_eq_some_iff.1 hf').2
    simp only [watG, hd, wat, b57l0, b57a1, b57r1, limI, limsI, tskI, hgtI, lkE, ↓reduceIte, reduceCtorEq, Nat.reduceEqDiff, Nat.reduceAdd, Nat.reduceMul, Nat.reduceSub, Nat.reduceLeDiff, Nat.reduceBEq, Int.reduceToNat, Int.reduceLE, Int.reduceLT, Int.reduceEq, Int.reduceNe, di]
    simp only [show IntKind.wrap .i64 (((ss.length - 1 : Nat) : Int) + 1) = ((ss.length - 1 : Nat) : Int) + 1 from wrap64 (by omega) (by omega)]
    simp only [show ((ss.length - 1 : Nat) : Int) + 1 = (ss.length : Int) by omega]
    refine calls_of (p_step hp h3 hfo) ?_; simp only [limI, limsI, tskI, hgtI, res57, b57k0, b57k1, b57k2, b57k3, lkE, ↓reduceIte, reduceCtorEq, Nat.reduceEqDiff, Nat.reduceAdd, Nat.reduceMul, Nat.reduceSub, Nat.reduceLeDiff, Nat.reduceBEq, Int.reduceToNat, Int.reduceLE, Int.reduceLT, Int.reduceEq, Int.reduceNe, di]
    cases hst : Lk.step p s' f with
    | none =>
      simp only [stepI, b57l0, b57a1, b57r1, limI, limsI, tskI, hgtI, lkE, ↓reduceIte, reduceCtorEq, Nat.reduceEqDiff, Nat.reduceAdd, Nat.reduceMul, Nat.reduceSub, Nat.reduceLeDiff, Nat.reduceBEq, Int.reduceToNat, Int.reduceLE, Int.reduceLT, Int.reduceEq, Int.reduceNe, di]
      refine do_yield rfl rfl rfl (fun _ => ?_) ?_
      · simp only [b57l0, b57a1, b57r1, limI, limsI, tskI, hgtI, lkE, ↓reduceIte, reduceCtorEq, Nat.reduceEqDiff, Nat.reduceAdd, Nat.reduceMul, Nat.reduceSub, Nat.reduceLeDiff, Nat.reduceBEq, Int.reduceToNat, Int.reduceLE, Int.reduceLT, Int.reduceEq, Int.reduceNe, di]
        rw [outD_nil res57]
        exact ⟨_, rfl, rfl, .inl ⟨rfl, rfl⟩⟩
      · simp only [b57l0, b57a1, b57r1, limI, limsI, tskI, hgtI, lkE, ↓reduceIte, reduceCtorEq, Nat.reduceEqDiff, Nat.reduceAdd, Nat.reduceMul, Nat.reduceSub, Nat.reduceLeDiff, Nat.reduceBEq, Int.reduceToNat, Int.reduceLE, Int.reduceLT, Int.reduceEq, Int.reduceNe, di]
        rw [outD_nil res57]
        exact ⟨_, rfl, rfl, .inr rfl⟩
    | some q =>
      obtain ⟨t, e, g⟩ := q
      have ht := (step_some hp h3 hfo hst).1
      simp only [stepI, b57l0, b57a1, b57r1, limI, limsI, tskI, hgtI, lkE, ↓reduceIte, reduceCtorEq, Nat.reduceEqDiff, Nat.reduceAdd, Nat.reduceMul, Nat.reduceSub, Nat.reduceLeDiff, Nat.reduceBEq, Int.reduceToNat, Int.reduceLE, Int.reduceLT, Int.reduceEq, Int.reduceNe, di]
      refine run_round rfl ?_
      simp only [res57, b57k0, b57k1, b57k2, b57k3, b57l0, b57a1, b57r1, limI, limsI, tskI, hgtI, lkE, ↓reduceIte, reduceCtorEq, Nat.reduceEqDiff, Nat.reduceAdd, Nat.reduceMul, Nat.reduceSub, Nat.reduceLeDiff, Nat.reduceBEq, Int.reduceToNat, Int.reduceLE, Int.reduceLT, Int.reduceEq, Int.reduceNe, di]
      repeat (refine And.intro (by omega) ?_)
      refine calls_of (p_hgt hp.u ht.1) ?_; simp only [limI, limsI, tskI, hgtI, res57, b57k0, b57k1, b57k2, b57k3, lkE, ↓reduceIte, reduceCtorEq, Nat.reduceEqDiff, Nat.reduceAdd, Nat.reduceMul, Nat.reduceSub, Nat.reduceLeDiff, Nat.reduceBEq, Int.reduceToNat, Int.reduceLE, Int.reduceLT, Int.reduceEq, Int.reduceNe, di]
      repeat (refine And.intro (by omega) ?_)
      have hall : ∀ q ∈ ss ++ [t], stOk p q := by
        intro q hq
        rcases List.mem_append.1 hq with hq | hq
        · exact h2 q hq
        · rw [List.mem_singleton] at hq
          subst hq
          exact ht
      have hv1 := p_violatedT (l := p.u) (x := L.u) Prod.fst rfl (ss := ss) (t := t) hp.u hL.1 (fun q hq => (hall q hq).1) (by omega)
      have hv2 := p_violatedT (l := p.l) (x := L.l) Prod.snd rfl (ss := ss) (t := t) hp.l hL.2 (fun q hq => (hall q hq).2) (by omega)
      have hva : vAt p L (nth (ss ++ [t])) ss.length = match vLake p.u L.u (fun i => (nth (ss ++ [t]) i).1) ss.length with | some k => some (0, k) | none => (vLake p.l L.l (fun i => (nth (ss ++ [t]) i).2) ss.length).map fun k => (1, k) := rfl
      rw [hva]
      generalize vLake p.u L.u (fun i => (nth (ss ++ [t]) i).1) ss.length = r1 at *
      generalize vLake p.l L.l (fun i => (nth (ss ++ [t]) i).2) ss.length = r2 at *
      refine calls_of hv1 ?_; simp only [limI, limsI, tskI, hgtI, res57, b57k0, b57k1, b57k2, b57k3, lkE, ↓reduceIte, reduceCtorEq, Nat.reduceEqDiff, Nat.reduceAdd, Nat.reduceMul, Nat.reduceSub, Nat.reduceLeDiff, Nat.reduceBEq, Int.reduceToNat, Int.reduceLE, Int.reduceLT, Int.reduceEq, Int.reduceNe, di]
      have hw1 : IntKind.wrap .i64 (0 + 1) = 1 := by decide
      have hw2 : IntKind.wrap .i64 (1 + 1) = 2 := by decide
      cases r1 with
      | none =>
        simp only [Option.isSome_none, hw1, hw2, res57, b57k0, b57k1, b57k2, b57k3, b57l0, b57a1, b57r1, limI, limsI, tskI, hgtI, lkE, ↓reduceIte, reduceCtorEq, Nat.reduceEqDiff, Nat.reduceAdd, Nat.reduceMul, Nat.reduceSub, Nat.reduceLeDiff, Nat.reduceBEq, Int.reduceToNat, Int.reduceLE, Int.reduceLT, Int.reduceEq, Int.reduceNe, di]
        refine run_round rfl ?_
        simp only [hw1, hw2, res57, b57k0, b57k1, b57k2, b57k3, b57l0, b57a1, b57r1, limI, limsI, tskI, hgtI, lkE, ↓reduceIte, reduceCtorEq, Nat.reduceEqDiff, Nat.reduceAdd, Nat.reduceMul, Nat.reduceSub, Nat.reduceLeDiff, Nat.reduceBEq, Int.reduceToNat, Int.reduceLE, Int.reduceLT, Int.reduceEq, Int.reduceNe, di]
        repeat (refine And.intro (by omega) ?_)
        refine calls_of (p_hgt hp.l ht.2) ?_; simp only [limI, limsI, tskI, hgtI, res57, b57k0, b57k1, b57k2, b57k3, lkE, ↓reduceIte, reduceCtorEq, Nat.reduceEqDiff, Nat.reduceAdd, Nat.reduceMul, Nat.reduceSub, Nat.reduceLeDiff, Nat.reduceBEq, Int.reduceToNat, Int.reduceLE, Int.reduceLT, Int.reduceEq, Int.reduceNe, di]
        repeat (refine And.intro (by omega) ?_)
        refine calls_of hv2 ?_; simp only [limI, limsI, tskI, hgtI, res57, b57k0, b57k1, b57k2, b57k3, lkE, ↓reduceIte, reduceCtorEq, Nat.reduceEqDiff, Nat.reduceAdd, Nat.reduceMul, Nat.reduceSub, Nat.reduceLeDiff, Nat.reduceBEq, Int.reduceToNat, Int.reduceLE, Int.reduceLT, Int.reduceEq, Int.reduceNe, di]
        cases r2 with
        | none =>
          simp only [Option.isSome_none, hw1, hw2, res57, b57k0, b57k1, b57k2, b57k3, b57l0, b57a1, b57r1, limI, limsI, tskI, hgtI, lkE, ↓reduceIte, reduceCtorEq, Nat.reduceEqDiff, Nat.reduceAdd, Nat.reduceMul, Nat.reduceSub, Nat.reduceLeDiff, Nat.reduceBEq, Int.reduceToNat, Int.reduceLE, Int.reduceLT, Int.reduceEq, Int.reduceNe, di]
          refine run_round rfl ?_
          simp only [hw1, hw2, res57, b57k0, b57k1, b57k2, b57k3, b57l0, b57a1, b57r1, limI, limsI, tskI, hgtI, lkE, ↓reduceIte, reduceCtorEq, Nat.reduceEqDiff, Nat.reduceAdd, Nat.reduceMul, Nat.reduceSub, Nat.reduceLeDiff, Nat.reduceBEq, Int.reduceToNat, Int.reduceLE, Int.reduceLT, Int.reduceEq, Int.reduceNe, di]
          refine do_yield rfl rfl rfl (fun _ => ?_) ?_
          · simp only [hw1, hw2, res57, b57k0, b57k1, b57k2, b57k3, b57l0, b57a1, b57r1, limI, limsI, tskI, hgtI, lkE, ↓reduceIte, reduceCtorEq, Nat.reduceEqDiff, Nat.reduceAdd, Nat.reduceMul, Nat.reduceSub, Nat.reduceLeDiff, Nat.reduceBEq, Int.reduceToNat, Int.reduceLE, Int.reduceLT, Int.reduceEq, Int.reduceNe, di]
            refine ⟨(ss ++ [t], t), ⟨by simp; omega, hall, ht⟩, ?_⟩
            have e1 : (ss ++ [t]).length - 1 = ss.length := by simp
            simp only [e1, List.map_append, List.map_cons, List.map_nil, h1]
          · simp only [hw1, hw2, res57, b57k0, b57k1, b57k2, b57k3, b57l0, b57a1, b57r1, limI, limsI, tskI, hgtI, lkE, ↓reduceIte, reduceCtorEq, Nat.reduceEqDiff, Nat.reduceAdd, Nat.reduceMul, Nat.reduceSub, Nat.reduceLeDiff, Nat.reduceBEq, Int.reduceToNat, Int.reduceLE, Int.reduceLT, Int.reduceEq, Int.reduceNe, di]
            rw [outD_nil res57]
            exact ⟨_, rfl, rfl, .inr rfl⟩
          
        | some k2 =>
          simp only [Option.isSome_some, hw1, hw2, res57, b57k0, b57k1, b57k2, b57k3, b57l0, b57a1, b57r1, limI, limsI, tskI, hgtI, lkE, ↓reduceIte, reduceCtorEq, Nat.reduceEqDiff, Nat.reduceAdd, Nat.reduceMul, Nat.reduceSub, Nat.reduceLeDiff, Nat.reduceBEq, Int.reduceToNat, Int.reduceLE, Int.reduceLT, Int.reduceEq, Int.reduceNe, di]
          refine run_round rfl ?_
          simp only [hw1, hw2, res57, b57k0, b57k1, b57k2, b57k3, b57l0, b57a1, b57r1, limI, limsI, tskI, hgtI, lkE, ↓reduceIte, reduceCtorEq, Nat.reduceEqDiff, Nat.reduceAdd, Nat.reduceMul, Nat.reduceSub, Nat.reduceLeDiff, Nat.reduceBEq, Int.reduceToNat, Int.reduceLE, Int.reduceLT, Int.reduceEq, Int.reduceNe, di]
          refine do_yield rfl rfl rfl (fun _ => ?_) ?_
          · simp only [hw1, hw2, res57, b57k0, b57k1, b57k2, b57k3, b57l0, b57a1, b57r1, limI, limsI, tskI, hgtI, lkE, ↓reduceIte, reduceCtorEq, Nat.reduceEqDiff, Nat.reduceAdd, Nat.reduceMul, Nat.reduceSub, Nat.reduceLeDiff, Nat.reduceBEq, Int.reduceToNat, Int.reduceLE, Int.reduceLT, Int.reduceEq, Int.reduceNe, di]
            refine ⟨(ss ++ [t], t), ⟨by simp; omega, hall, ht⟩, ?_⟩
            have e1 : (ss ++ [t]).length - 1 = ss.length := by simp
            simp only [e1, List.map_append, List.map_cons, List.map_nil, h1]
          · simp only [hw1, hw2, res57, b57k0, b57k1, b57k2, b57k3, b57l0, b57a1, b57r1, limI, limsI, tskI, hgtI, lkE, ↓reduceIte, reduceCtorEq, Nat.reduceEqDiff, Nat.reduceAdd, Nat.reduceMul, Nat.reduceSub, Nat.reduceLeDiff, Nat.reduceBEq, Int.reduceToNat, Int.reduceLE, Int.reduceLT, Int.reduceEq, Int.reduceNe, di]
            rw [outD_nil res57]
            exact ⟨_, rfl, rfl, .inr rfl⟩
          
        
      | some k1 =>
        simp only [Option.isSome_some, hw1, hw2, res57, b57k0, b57k1, b57k2, b57k3, b57l0, b57a1, b57r1, limI, limsI, tskI, hgtI, lkE, ↓reduceIte, reduceCtorEq, Nat.reduceEqDiff, Nat.reduceAdd, Nat.reduceMul, Nat.reduceSub, Nat.reduceLeDiff, Nat.reduceBEq, Int.reduceToNat, Int.reduceLE, Int.reduceLT, Int.reduceEq, Int.reduceNe, di]
        refine run_round rfl ?_
        simp only [hw1, hw2, res57, b57k0, b57k1, b57k2, b57k3, b57l0, b57a1, b57r1, limI, limsI, tskI, hgtI, lkE, ↓reduceIte, reduceCtorEq, Nat.reduceEqDiff, Nat.reduceAdd, Nat.reduceMul, Nat.reduceSub, Nat.reduceLeDiff, Nat.reduceBEq, Int.reduceToNat, Int.reduceLE, Int.reduceLT, Int.reduceEq, Int.reduceNe, di]
        repeat (refine And.intro (by omega) ?_)
        refine calls_of (p_hgt hp.l ht.2) ?_; simp only [limI, limsI, tskI, hgtI, res57, b57k0, b57k1, b57k2, b57k3, lkE, ↓reduceIte, reduceCtorEq, Nat.reduceEqDiff, Nat.reduceAdd, Nat.reduceMul, Nat.reduceSub, Nat.reduceLeDiff, Nat.reduceBEq, Int.reduceToNat, Int.reduceLE, Int.reduceLT, Int.reduceEq, Int.reduceNe, di]
        repeat (refine And.intro (by omega) ?_)
        refine calls_of hv2 ?_; simp only [limI, limsI, tskI, hgtI, res57, b57k0, b57k1, b57k2, b57k3, lkE, ↓reduceIte, reduceCtorEq, Nat.reduceEqDiff, Nat.reduceAdd, Nat.reduceMul, Nat.reduceSub, Nat.reduceLeDiff, Nat.reduceBEq, Int.reduceToNat, Int.reduceLE, Int.reduceLT, Int.reduceEq, Int.reduceNe, di]
        cases r2 with
        | none =>
          simp only [Option.isSome_none, hw1, hw2, res57, b57k0, b57k1, b57k2, b57k3, b57l0, b57a1, b57r1, limI, limsI, tskI, hgtI, lkE, ↓reduceIte, reduceCtorEq, Nat.reduceEqDiff, Nat.reduceAdd, Nat.reduceMul, Nat.reduceSub, Nat.reduceLeDiff, Nat.reduceBEq, Int.reduceToNat, Int.reduceLE, Int.reduceLT, Int.reduceEq, Int.reduceNe, di]
          refine run_round rfl ?_
          simp only [hw1, hw2, res57, b57k0, b57k1, b57k2, b57k3, b57l0, b57a1, b57r1, limI, limsI, tskI, hgtI, lkE, ↓reduceIte, reduceCtorEq, Nat.reduceEqDiff, Nat.reduceAdd, Nat.reduceMul, Nat.reduceSub, Nat.reduceLeDiff, Nat.reduceBEq, Int.reduceToNat, Int.reduceLE, Int.reduceLT, Int.reduceEq, Int.reduceNe, di]
          refine do_yield rfl rfl rfl (fun _ => ?_) ?_
          · simp only [hw1, hw2, res57, b57k0, b57k1, b57k2, b57k3, b57l0, b57a1, b57r1, limI, limsI, tskI, hgtI, lkE, ↓reduceIte, reduceCtorEq, Nat.reduceEqDiff, Nat.reduceAdd, Nat.reduceMul, Nat.reduceSub, Nat.reduceLeDiff, Nat.reduceBEq, Int.reduceToNat, Int.reduceLE, Int.reduceLT, Int.reduceEq, Int.reduceNe, di]
            refine ⟨(ss ++ [t], t), ⟨by simp; omega, hall, ht⟩, ?_⟩
            have e1 : (ss ++ [t]).length - 1 = ss.length := by simp
            simp only [e1, List.map_append, List.map_cons, List.map_nil, h1]
          · simp only [hw1, hw2, res57, b57k0, b57k1, b57k2, b57k3, b57l0, b57a1, b57r1, limI, limsI, tskI, hgtI, lkE, ↓reduceIte, reduceCtorEq, Nat.reduceEqDiff, Nat.reduceAdd, Nat.reduceMul, Nat.reduceSub, Nat.reduceLeDiff, Nat.reduceBEq, Int.reduceToNat, Int.reduceLE, Int.reduceLT, Int.reduceEq, Int.reduceNe, di]
            rw [outD_nil res57]
            exact ⟨_, rfl, rfl, .inr rfl⟩
          
        | some k2 =>
          simp only [Option.isSome_some, hw1, hw2, res57, b57k0, b57k1, b57k2, b57k3, b57l0, b57a1, b57r1, limI, limsI, tskI, hgtI, lkE, ↓reduceIte, reduceCtorEq, Nat.reduceEqDiff, Nat.reduceAdd, Nat.reduceMul, Nat.reduceSub, Nat.reduceLeDiff, Nat.reduceBEq, Int.reduceToNat, Int.reduceLE, Int.reduceLT, Int.reduceEq, Int.reduceNe, di]
          refine run_round rfl ?_
          simp only [hw1, hw2, res57, b57k0, b57k1, b57k2, b57k3, b57l0, b57a1, b57r1, limI, limsI, tskI, hgtI, lkE, ↓reduceIte, reduceCtorEq, Nat.reduceEqDiff, Nat.reduceAdd, Nat.reduceMul, Nat.reduceSub, Nat.reduceLeDiff, Nat.reduceBEq, Int.reduceToNat, Int.reduceLE, Int.reduceLT, Int.reduceEq, Int.reduceNe, di]
          refine do_yield rfl rfl rfl (fun _ => ?_) ?_
          · simp only [hw1, hw2, res57, b57k0, b57k1, b57k2, b57k3, b57l0, b57a1, b57r1, limI, limsI, tskI, hgtI, lkE, ↓reduceIte, reduceCtorEq, Nat.reduceEqDiff, Nat.reduceAdd, Nat.reduceMul, Nat.reduceSub, Nat.reduceLeDiff, Nat.reduceBEq, Int.reduceToNat, Int.reduceLE, Int.reduceLT, Int.reduceEq, Int.reduceNe, di]
            refine ⟨(ss ++ [t], t), ⟨by simp; omega, hall, ht⟩, ?_⟩
            have e1 : (ss ++ [t]).length - 1 = ss.length := by simp
            simp only [e1, List.map_append, List.map_cons, List.map_nil, h1]
          · simp only [hw1, hw2, res57, b57k0, b57k1, b57k2, b57k3, b57l0, b57a1, b57r1, limI, limsI, tskI, hgtI, lkE, ↓reduceIte, reduceCtorEq, Nat.reduceEqDiff, Nat.reduceAdd, Nat.reduceMul, Nat.reduceSub, Nat.reduceLeDiff, Nat.reduceBEq, Int.reduceToNat, Int.reduceLE, Int.reduceLT, Int.reduceEq, Int.reduceNe, di]
            rw [outD_nil res57]
            exact ⟨_, rfl, rfl, .inr rfl⟩
          
        
  · rintro ⟨ss, s'⟩ _ ⟨h1, h2, h3⟩
    dsimp only at h1
    have e1 : fs.drop (ss.length - 1) = [] := List.drop_eq_nil_of_le (by simp at h1; omega)
    simp only [watG, e1, wat, res57, b57k0, b57k1, b57k2, b57k3, b57l0, b57a1, b57r1, limI, limsI, tskI, hgtI, lkE, ↓reduceIte, reduceCtorEq, Nat.reduceEqDiff, Nat.reduceAdd, Nat.reduceMul, Nat.reduceSub, Nat.reduceLeDiff, Nat.reduceBEq, Int.reduceToNat, Int.reduceLE, Int.reduceLT, Int.reduceEq, Int.reduceNe, di]
    rw [outD_nil res57]
    exact ⟨_, rfl, rfl, .inl ⟨rfl, rfl⟩⟩
end Go.DI

/- Contracts: the program's first violation. No condition. -/
set_option linter.unusedSimpArgs false
namespace Go.DI
open Go.Proofs Go.RowKit Lk

def vio3 : Option Vio → IV
  | none => .agg [.int .i64 0, .int .i64 0, .int .i64 0]
  | some (t, a, k) => .agg [.int .i64 t, .int .i64 a, .int .i64 k]
def taskE (p : Pair) (s : Sta) (x : Tsk) : Int := if bothErr p s = 0 then taskErr p x else bothErr p s
def vioO (p : Pair) (s : Sta) (x : Tsk) : Option Vio × Int := if taskE p s x = 0 then vio p x.L [s] s x.fs else (none, taskE p s x)

theorem limErr_ok {l : List Kn} {x : Lim} (h : limErr l x = 0) : limOk l x ∧ x.lo ≤ x.hi := by
  unfold limErr at h
  split at h
  · rename_i h1
    split at h
    · rename_i h2; exact ⟨h1, h2⟩
    · omega
  · omega
theorem taskE_ok {p : Pair} {s : Sta} {x : Tsk} (h : taskE p s x = 0) : VPair p ∧ stOk p s ∧ (limOk p.u x.L.u ∧ limOk p.l x.L.l) ∧ x.fs.length ≤ 200 ∧ ∀ y ∈ x.fs, flowOk y := by
  unfold taskE at h
  split at h
  · rename_i h1
    have hb := bothErr_ok.1 h1
    unfold taskErr limsErr at h
    by_cases h2 : limErr p.u x.L.u = 0
    · rw [if_pos h2] at h
      by_cases h3 : limErr p.l x.L.l = 0
      · rw [if_pos h3] at h
        have hl := listErr_ok.1 h
        exact ⟨hb.1, hb.2, ⟨(limErr_ok h2).1, (limErr_ok h3).1⟩, hl.1, hl.2⟩
      · rw [if_neg h3] at h
        exact absurd h h3
    · rw [if_neg h2, if_neg h2] at h
      exact absurd h h2
  · rename_i h1; exact absurd h h1

theorem p_ViolationOf {p : Pair} {s : Sta} {x : Tsk} (h : Sm p) (hl : x.fs.length ≤ 1000000000000) (v : Option Vio) (e : Int) (hv : vioO p s x = (v, e)) : Contract Tryz.prog 9 [lpI p, stI s, tskI x] (.tup [vio3 v, .int .i64 e]) := by
  have ho : Contract Tryz.prog 30 [lpI p, stI s, tskI x] (.tup [lpI p, .int .i64 (taskE p s x)]) := p_openTask h hl
  unfold vioO at hv
  refine contract_run Tryz.func9 k9 rfl ?_
  simp only [body9, b9, res9, b9k0, b9k1, b9k2, limI, limsI, tskI, hgtI, lkE, ↓reduceIte, reduceCtorEq, Nat.reduceEqDiff, Nat.reduceAdd, Nat.reduceMul, Nat.reduceSub, Nat.reduceLeDiff, Nat.reduceBEq, Int.reduceToNat, Int.reduceLE, Int.reduceLT, Int.reduceEq, Int.reduceNe, di]
  refine calls_of ho ?_; simp only [limI, limsI, tskI, hgtI, res9, b9k0, b9k1, b9k2, lkE, ↓reduceIte, reduceCtorEq, Nat.reduceEqDiff, Nat.reduceAdd, Nat.reduceMul, Nat.reduceSub, Nat.reduceLeDiff, Nat.reduceBEq, Int.reduceToNat, Int.reduceLE, Int.reduceLT, Int.reduceEq, Int.reduceNe, di]
  by_cases hE : taskE p s x = 0
  case neg =>
    rw [if_neg hE] at hv
    cases hv
    rw [if_neg hE]
    rfl
  rw [if_pos hE] at hv
  obtain ⟨hp, hs, hL, hn, hf⟩ := taskE_ok hE
  simp only [hE, res9, b9k0, b9k1, b9k2, limI, limsI, tskI, hgtI, lkE, ↓reduceIte, reduceCtorEq, Nat.reduceEqDiff, Nat.reduceAdd, Nat.reduceMul, Nat.reduceSub, Nat.reduceLeDiff, Nat.reduceBEq, Int.reduceToNat, Int.reduceLE, Int.reduceLT, Int.reduceEq, Int.reduceNe, di]
  refine calls_of p_Values ?_; simp only [limI, limsI, tskI, hgtI, res9, b9k0, b9k1, b9k2, lkE, ↓reduceIte, reduceCtorEq, Nat.reduceEqDiff, Nat.reduceAdd, Nat.reduceMul, Nat.reduceSub, Nat.reduceLeDiff, Nat.reduceBEq, Int.reduceToNat, Int.reduceLE, Int.reduceLT, Int.reduceEq, Int.reduceNe, di]
  refine do_lend rfl (by rw [restr_look]; exact b_watch (p := p) (s := s) (L := x.L) (fs := x.fs)) rfl rfl ?_
  rintro q R' ⟨rfl, rfl⟩
  refine ⟨_, rfl, rfl, ?_⟩
  simp only [res9, b9k0, b9k1, b9k2, limI, limsI, tskI, hgtI, lkE, ↓reduceIte, reduceCtorEq, Nat.reduceEqDiff, Nat.reduceAdd, Nat.reduceMul, Nat.reduceSub, Nat.reduceLeDiff, Nat.reduceBEq, Int.reduceToNat, Int.reduceLE, Int.reduceLT, Int.reduceEq, Int.reduceNe, di]
  rw [← firstW_wat] at hv
  have hw := it_watch (s := s) hp hs hL hf (by omega)
  generalize wat p x.L [s] s x.fs = ys at *
  refine range_keep (gf := 57) (first := []) (caps := watC p x.L x.fs) (ys.map watI) false rfl rfl rfl rfl (fun l => by rw [restr_look, withSeq_look]; exact hw l) (fun z hz => by obtain ⟨q, _, rfl⟩ := List.mem_map.1 hz; rfl) rfl
    (fun n (_ : Unit) => firstW (ys.drop n) = (v, e)) (fun _ => [(6, .box [.imm (.int .i64 0), .imm (.int .i64 0), .imm (.int .i64 0)]), (7, .box [.imm (.int .i64 0)])]) () (by simpa using hv) (by rw [keepRes_look]; simp only [limI, limsI, tskI, hgtI, lkE, ↓reduceIte, reduceCtorEq, Nat.reduceEqDiff, Nat.reduceAdd, Nat.reduceMul, Nat.reduceSub, Nat.reduceLeDiff, Nat.reduceBEq, Int.reduceToNat, Int.reduceLE, Int.reduceLT, Int.reduceEq, Int.reduceNe, di] <;> rfl) ?_ ?_
  · rintro n z _ hx hi
    simp only [List.getElem?_map, Option.map_eq_some_iff] at hx
    obtain ⟨⟨b, w⟩, hx, rfl⟩ := hx
    have hlt := (List.getElem?_eq_some_iff.1 hx).1
    have hd : ys.drop n = (b, w) :: ys.drop (n + 1) := by
      rw [List.drop_eq_getElem_cons hlt]
      congr 1
      exact (List.getElem?_eq_some_iff.1 hx).2
    rw [hd] at hi
    cases b with
    | false =>
      simp only [firstW, Prod.mk.injEq] at hi
      obtain ⟨rfl, rfl⟩ := hi
      simp only [watI, b9a0, b9r0, res9, b9k0, b9k1, b9k2, limI, limsI, tskI, hgtI, lkE, ↓reduceIte, reduceCtorEq, Nat.reduceEqDiff, Nat.reduceAdd, Nat.reduceMul, Nat.reduceSub, Nat.reduceLeDiff, Nat.reduceBEq, Int.reduceToNat, Int.reduceLE, Int.reduceLT, Int.reduceEq, Int.reduceNe, di]
      rfl
    | true =>
      cases w with
      | none =>
        simp only [firstW] at hi
        simp only [watI, vioI, b9a0, b9r0, res9, b9k0, b9k1, b9k2, limI, limsI, tskI, hgtI, lkE, ↓reduceIte, reduceCtorEq, Nat.reduceEqDiff, Nat.reduceAdd, Nat.reduceMul, Nat.reduceSub, Nat.reduceLeDiff, Nat.reduceBEq, Int.reduceToNat, Int.reduceLE, Int.reduceLT, Int.reduceEq, Int.reduceNe, di]
        exact ⟨(), hi⟩
      | some w =>
        obtain ⟨t, a, k⟩ := w
        simp only [firstW, Prod.mk.injEq] at hi
        obtain ⟨rfl, rfl⟩ := hi
        simp only [watI, vioI, b9a0, b9r0, res9, b9k0, b9k1, b9k2, limI, limsI, tskI, hgtI, lkE, ↓reduceIte, reduceCtorEq, Nat.reduceEqDiff, Nat.reduceAdd, Nat.reduceMul, Nat.reduceSub, Nat.reduceLeDiff, Nat.reduceBEq, Int.reduceToNat, Int.reduceLE, Int.reduceLT, Int.reduceEq, Int.reduceNe, di]
        rfl
  · rintro _ _ hi
    rw [List.length_map, List.drop_length] at hi
    simp only [firstW, Prod.mk.injEq] at hi
    obtain ⟨rfl, rfl⟩ := hi
    simp only [b9a0, b9r0, res9, b9k0, b9k1, b9k2, limI, limsI, tskI, hgtI, lkE, ↓reduceIte, reduceCtorEq, Nat.reduceEqDiff, Nat.reduceAdd, Nat.reduceMul, Nat.reduceSub, Nat.reduceLeDiff, Nat.reduceBEq, Int.reduceToNat, Int.reduceLE, Int.reduceLT, Int.reduceEq, Int.reduceNe, di]
    rfl
end Go.DI


/- Bounds as specified. No condition. -/
import Derived.Test.YtdpfjbghiahbeaaKhGp
/- The statement SurgeBounds, as a contract. No condition. -/
set_option linter.unusedSimpArgs false
set_option maxRecDepth 20000
namespace Go.DI
open Go.Proofs Go.RowKit Sg

def ruC (r : Ru) : List DV := [.imm (.int .i64 r.I), .imm (.int .i64 r.A), .imm (.int .i64 r.lo), .imm (.int .i64 r.hi), .imm (.int .i64 r.T)]
def spC (p : Pl) : List DV := [.imm (.int .i64 p.load), .imm (snI p.ch), .imm (.int .i64 p.wait), .imm (.int .i64 p.ticks)]
end Go.DI

/- The statement SurgeWaits, as a contract. No condition. -/
set_option linter.unusedSimpArgs false
set_option maxRecDepth 20000
namespace Go.DI
open Go.Proofs Go.RowKit Sg

theorem bBox_true {r : Ru} {p : Pl} {o : List Int} {y : Bool × Int × Int} {b : Bx} (ht : 1 ≤ p.ticks) : (bBox r p o y b).1 = true := by
  unfold bBox
  cases hw : brunL r b (loadsP p o) with
  | nil =>
    have h1 := brunL_length (r := r) (loadsP p o) b
    have h2 := loadsF_length (p := p) (o := o) p.ticks.toNat 0 p.load
    unfold loadsP at h1 hw
    rw [hw, h2] at h1
    simp at h1
    omega
  | cons x l => exact bfold_true (l := l) (y := bStp y x) rfl
theorem bOrd_true {r : Ru} {p : Pl} {o : List Int} (ht : 1 ≤ p.ticks) : ∀ {bs : List Bx} {y : Bool × Int × Int}, (bs ≠ [] ∨ y.1 = true) → (bOrd r p bs y o).1 = true
  | [], _, h => h.resolve_left (fun k => k rfl)
  | b :: bs, y, _ => bOrd_true (bs := bs) (y := bBox r p o y b) ht (.inr (bBox_true ht))
theorem bound_found {r : Ru} {p : Pl} {bs : List Bx} (ht : 1 ≤ p.ticks) (hb : bs ≠ []) : (boundP r p bs).1 = true ↔ ordersP p ≠ [] := by
  have key : ∀ (os : List (List Int)) (y : Bool × Int × Int), (os ≠ [] ∨ y.1 = true) → (os.foldl (bOrd r p bs) y).1 = true := by
    intro os
    induction os with
    | nil => intro y h; exact h.resolve_left (fun k => k rfl)
    | cons o os ih => intro _ _; exact ih _ (.inr (bOrd_true ht (.inl hb)))
  constructor
  · intro h k
    unfold boundP at h
    rw [k] at h
    cases h
  · intro h
    exact key _ _ (.inl h)

end Go.DI

/- Orders, witnesses and bounds as plain data: which orders there are; a run lies in the bound. No condition. -/
set_option linter.unusedSimpArgs false
namespace Go.DI
open Go.Proofs Go.RowKit Sg

def ND (o : List Int) : Prop := ∀ k, k < o.length → o.getD k 0 ∉ o.take k
theorem nd_snoc {o : List Int} {x : Int} (h : ND o) (hx : x ∉ o) : ND (o ++ [x]) := by
  intro k hk
  rw [List.length_append, List.length_singleton] at hk
  by_cases e : k < o.length
  · have h1 := h k e
    rw [List.getD_eq_getElem?_getD, List.getElem?_append_left e, ← List.getD_eq_getElem?_getD, List.take_append_of_le_length (by omega)]
    exact h1
  · have hk2 : k = o.length := by omega
    subst hk2
    rw [List.getD_eq_getElem?_getD, List.getElem?_append_right (Nat.le_refl _)]
    simpa using hx
theorem ordF_nd {p : Pl} : ∀ (f : Nat) (o o' : List Int), ND o → o' ∈ ordF p f o → ND o'
  | 0, o, o', ho, h => by
    simp only [ordF, List.mem_singleton] at h
    subst h
    exact ho
  | f + 1, o, o', ho, h => by
    unfold ordF at h
    rw [List.mem_flatMap] at h
    obtain ⟨i, _, h⟩ := h
    exact ordF_nd f _ o' (nd_snoc ho (oneF_mem h).1) (oneF_mem h).2.2
theorem permL_append {ch : List Int} : ∀ {a b : List Int} {load : Int}, permL ch load (a ++ b) = true → permL ch load a = true
  | [], _, _, _ => rfl
  | x :: a, b, load, h => by
    rw [List.cons_append, permL_cons, Bool.and_eq_true] at h
    rw [permL_cons, Bool.and_eq_true]
    exact ⟨h.1, permL_append h.2⟩
theorem idxErr_zero {p : Pl} {o : List Int} {k : Nat} : idxErr p o k = 0 ↔ (0 ≤ o.getD k 0 ∧ o.getD k 0 < (p.ch.length : Int)) ∧ o.getD k 0 ∉ o.take k := by
  unfold idxErr
  rw [fstE_zero]
  by_cases h1 : Wi (o.getD k 0) 0 ((p.ch.length : Int) - 1)
  · rw [if_pos h1]
    unfold Wi at h1
    by_cases h2 : o.getD k 0 ∈ o.take k
    · rw [if_pos h2]
      exact ⟨fun h => absurd h.2 (by decide), fun h => absurd h2 h.2⟩
    · rw [if_neg h2]
      exact ⟨fun _ => ⟨⟨h1.1, by omega⟩, h2⟩, fun _ => ⟨rfl, rfl⟩⟩
  · rw [if_neg h1]
    unfold Wi at h1
    constructor
    · intro h; exact absurd h.1 (by decide)
    · intro h; exact (h1 ⟨h.1.1, by omega⟩).elim

theorem orders_iff {p : Pl} {o : List Int} : o ∈ ordersP p ↔ orderE p o = 0 := by
  constructor
  · intro h
    obtain ⟨h1, h2⟩ := orders_mem h
    have h3 := orders_perm h
    have h4 : ND o := ordF_nd _ [] o (fun k hk => by simp at hk) h
    unfold orderE
    rw [if_neg (by omega)]
    have hs : scanO p o o.length 0 = 0 := by
      rw [scanO_zero]
      intro k _ hk
      rw [idxErr_zero]
      refine ⟨h2 _ (getD_mem (by omega)), h4 k (by omega)⟩
    rw [if_pos hs, if_pos h3]
  · intro h
    obtain ⟨h1, h2, h3⟩ := orderE_zero h
    rw [scanO_zero] at h2
    have key : ∀ (f k : Nat), k + f = o.length → o ∈ ordF p f (o.take k) := by
      intro f
      induction f with
      | zero =>
        intro k hk
        rw [show o.take k = o from List.take_of_length_le (by omega)]
        exact List.mem_singleton.2 rfl
      | succ f ih =>
        intro k hk
        have hz := idxErr_zero.1 (h2 k (by omega) (by omega))
        have hlt : k < o.length := by omega
        have htk : o.take (k + 1) = o.take k ++ [o.getD k 0] := by
          rw [List.take_add_one, List.getElem?_eq_getElem hlt, List.getD_eq_getElem?_getD]
          simp [hlt]
        have hx : (((o.getD k 0).toNat : Nat) : Int) = o.getD k 0 := by omega
        unfold ordF
        rw [List.mem_flatMap]
        refine ⟨(o.getD k 0).toNat, by rw [List.mem_range]; omega, ?_⟩
        unfold oneF
        rw [hx, if_neg hz.2, ← htk]
        rw [if_pos (permL_append (b := o.drop (k + 1)) (by rw [List.take_append_drop]; exact h3))]
        exact ih (k + 1) (by omega)
    have := key o.length 0 (by omega)
    rw [List.take_zero, h1] at this
    exact this

theorem ordF_less {p : Pl} {f : Nat} {o : List Int} {j : Nat} (hj : j < p.ch.length) (hm : (j : Int) ∈ o) : (ordF p (f + 1) o).length ≤ (p.ch.length - 1) * p.ch.length ^ f := by
  have key : ∀ (l : List Nat), l.Nodup → j ∈ l → (l.flatMap fun (i : Nat) => oneF p o i (ordF p f (o ++ [(i : Int)]))).length ≤ (l.length - 1) * p.ch.length ^ f := by
    intro l
    induction l with
    | nil => intro _ h; cases h
    | cons a l ih =>
      intro hn hm2
      rw [List.nodup_cons] at hn
      rw [List.flatMap_cons, List.length_append, List.length_cons, Nat.add_sub_cancel]
      by_cases e : a = j
      · have h0 : oneF p o a (ordF p f (o ++ [(a : Int)])) = [] := by
          unfold oneF
          rw [if_pos (by rw [e]; exact hm)]
        have h1 := length_flat (l := l) (m := p.ch.length ^ f) (g := fun (i : Nat) => oneF p o i (ordF p f (o ++ [(i : Int)]))) fun i _ => Nat.le_trans oneF_length (ordF_length f _)
        rw [h0]
        simpa using h1
      · have hml : j ∈ l := by
          rcases List.mem_cons.1 hm2 with h | h
          · exact (e h.symm).elim
          · exact h
        have h1 := ih hn.2 hml
        have h2 : (oneF p o a (ordF p f (o ++ [(a : Int)]))).length ≤ p.ch.length ^ f := Nat.le_trans oneF_length (ordF_length f _)
        have hpos := List.length_pos_of_mem hml
        have : l.length * p.ch.length ^ f = (l.length - 1) * p.ch.length ^ f + p.ch.length ^ f := by
          rw [← Nat.succ_mul]
          congr 1
          omega
        omega
  have := key (List.range p.ch.length) List.nodup_range (List.mem_range.2 hj)
  rwa [List.length_range] at this
theorem orders_24 {p : Pl} (h : p.ch.length ≤ 3) : (ordersP p).length ≤ 24 := by
  have hn : p.ch.length = 0 ∨ p.ch.length = 1 ∨ p.ch.length = 2 ∨ p.ch.length = 3 := by omega
  have hl := ordF_length (p := p) p.ch.length []
  unfold ordersP
  rcases hn with e | e | e | e
  · rw [e] at hl ⊢; simp at hl; omega
  · rw [e] at hl ⊢; simp at hl; omega
  · rw [e] at hl ⊢; simp at hl; omega
  · rw [e]
    have h1 := length_flat (l := List.range p.ch.length) (m := 6) (g := fun (i : Nat) => oneF p [] i (ordF p 2 ([] ++ [(i : Int)]))) fun i hi => by
      refine Nat.le_trans oneF_length ?_
      have := ordF_less (p := p) (f := 1) (o := [] ++ [(i : Int)]) (j := i) (List.mem_range.1 hi) (by simp)
      rw [e] at this
      simpa using this
    rw [List.length_range, e] at h1
    have h2 : ordF p 3 [] = (List.range p.ch.length).flatMap fun (i : Nat) => oneF p [] i (ordF p 2 ([] ++ [(i : Int)])) := rfl
    rw [h2, e]
    exact Nat.le_trans h1 (by decide)

theorem maxL_mem : ∀ (l : List Int) (m : Int), maxL l m = m ∨ maxL l m ∈ l
  | [], _ => .inl rfl
  | x :: l, m => by
    show maxL l (max m x) = m ∨ maxL l (max m x) ∈ x :: l
    rcases maxL_mem l (max m x) with h | h
    · rw [h]
      by_cases k : m ≤ x
      · right; rw [show max m x = x by omega]; simp
      · left; omega
    · right; exact List.mem_cons_of_mem _ h
theorem high_mem {r : Ru} {s : Sta} {ls : List Int} {k : Int} (h : ls ≠ []) : ∃ q ∈ runL r k s ls, highL r s ls k = q.L := by
  have hlen := runL_length (r := r) (k := k) ls s
  have hpos := List.length_pos_iff.2 h
  unfold highL
  cases hr : runL r k s ls with
  | nil => rw [hr] at hlen; simp at hlen; omega
  | cons q l =>
    rcases maxL_mem (((q :: l).map (·.L)).drop 1) (((q :: l).map (·.L)).getD 0 0) with e | e
    · exact ⟨q, by simp, e⟩
    · simp only [List.map_cons, List.drop_succ_cons, List.drop_zero, List.mem_map] at e
      obtain ⟨x, hx, ex⟩ := e
      exact ⟨x, List.mem_cons_of_mem _ hx, ex.symm⟩

theorem run_in {r : Ru} (hr : Sg.Good r) {k : Int} (hk : r.lo ≤ k ∧ k ≤ r.hi) : ∀ (ls : List Int) {b : Bx} {s : Sta}, (∀ x ∈ ls, 0 ≤ x ∧ x ≤ 1000) → InB b s → (-1000 ≤ b.fl ∧ b.fh ≤ 1000) →
    ∀ q ∈ runL r k s ls, ∃ x ∈ brunL r b ls, x.ll ≤ q.L ∧ q.L ≤ x.lh
  | [], _, _, _, _, _, q, hq => by cases hq
  | load :: ls, b, s, hl, hin, hf, q, hq => by
    have h1 := bstp_in hr (hl load (by simp)) hk hin hf
    have hb := bstp_bd (r := r) hr (b := b) (load := load) (m := max (max b.ll (-b.ll)) (max b.lh (-b.lh))) (by omega) (by omega) (hl load (by simp))
    simp only [runL, List.mem_cons] at hq
    simp only [brunL, List.mem_cons]
    rcases hq with rfl | hq
    · exact ⟨_, .inl rfl, h1.1.1, h1.1.2⟩
    · obtain ⟨x, hx, h2⟩ := run_in hr hk ls (fun y hy => hl y (by simp [hy])) h1 (by omega) q hq
      exact ⟨x, .inr hx, h2⟩

def Bnd (L : List Bx) (y : Bool × Int × Int) : Prop := (y.1 = true ∨ L = []) ∧ ∀ x ∈ L, y.2.1 ≤ x.ll ∧ x.lh ≤ y.2.2
theorem bnd_stp {L : List Bx} {y : Bool × Int × Int} {b : Bx} (h : Bnd L y) : Bnd (L ++ [b]) (bStp y b) := by
  obtain ⟨h1, h2⟩ := h
  refine ⟨.inl rfl, fun x hx => ?_⟩
  unfold bStp
  dsimp only
  rcases List.mem_append.1 hx with hx | hx
  · rcases h1 with h1 | h1
    · have := h2 x hx
      rw [if_pos h1, if_pos h1]
      omega
    · rw [h1] at hx; cases hx
  · rw [List.mem_singleton] at hx
    subst hx
    omega
theorem bnd_fold {α : Type} {f : Bool × Int × Int → α → Bool × Int × Int} {g : α → List Bx} (hf : ∀ L y x, Bnd L y → Bnd (L ++ g x) (f y x)) : ∀ (xs : List α) (L : List Bx) (y : Bool × Int × Int), Bnd L y → Bnd (L ++ xs.flatMap g) (xs.foldl f y)
  | [], L, y, h => by simpa using h
  | x :: xs, L, y, h => by
    have := bnd_fold hf xs (L ++ g x) (f y x) (hf L y x h)
    simpa using this
def allB (r : Ru) (p : Pl) (bs : List Bx) : List Bx := (ordersP p).flatMap fun o => bs.flatMap fun b => (brunL r b (loadsP p o)).flatMap fun x => [x]
theorem bound_bnd {r : Ru} {p : Pl} {bs : List Bx} : Bnd (allB r p bs) (boundP r p bs) :=
  bnd_fold (g := fun o => bs.flatMap fun b => (brunL r b (loadsP p o)).flatMap fun x => [x]) (fun L y o h =>
    bnd_fold (g := fun b => (brunL r b (loadsP p o)).flatMap fun x => [x]) (fun L y b h => bnd_fold (g := fun x => [x]) (fun _ _ _ h => bnd_stp h) (brunL r b (loadsP p o)) L y h) bs L y h) (ordersP p) [] (false, 0, 0) ⟨.inr rfl, by simp⟩

theorem high_bound {r : Ru} {p : Pl} {bs : List Bx} {o : List Int} {s : Sta} {k : Int} {b : Bx} (hr : Sg.Good r) (hp : PlanOk p) (ho : o ∈ ordersP p) (hk : r.lo ≤ k ∧ k ≤ r.hi) (hb : b ∈ bs) (hbe : boxErr b = 0) (hs : InB b s) :
    (boundP r p bs).2.1 ≤ highL r s (loadsP p o) k ∧ highL r s (loadsP p o) k ≤ (boundP r p bs).2.2 := by
  obtain ⟨q, hq, e⟩ := high_mem (r := r) (s := s) (k := k) (loads_ne (o := o) hp)
  have hlo := loads_ok hp (orders_perm ho)
  have hb2 := boxErr_zero.1 hbe
  obtain ⟨x, hx, h1, h2⟩ := run_in hr hk (loadsP p o) hlo.2 hs (by omega) q hq
  have hm : x ∈ allB r p bs := by
    unfold allB
    simp only [List.mem_flatMap, List.mem_singleton]
    exact ⟨o, ho, b, hb, x, hx, rfl⟩
  have := bound_bnd.2 x hm
  rw [e]
  omega

theorem chkW_zero {r : Ru} {p : Pl} {w : Wt} : chkW r p w = 0 ↔ (planEr r p).2 = 0 ∧ orderE p w.ord = 0 ∧ stateErr w.st = 0 ∧ (r.lo ≤ w.k ∧ w.k ≤ r.hi) ∧ highL r w.st (loadsP p w.ord) w.k = w.lev := by
  unfold chkW witE
  rw [fstE_zero, fstE_zero, fstE_zero, fstE_zero, fricErr_zero]
  by_cases h : highL r w.st (loadsP p w.ord) w.k = w.lev
  · rw [if_pos h]; simp [h]
  · rw [if_neg h]; simp [h]
end Go.DI


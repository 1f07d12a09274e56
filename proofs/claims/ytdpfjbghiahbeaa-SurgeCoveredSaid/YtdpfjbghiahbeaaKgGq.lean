/- Bounds as specified. No condition. -/
import Derived.Test.YtdpfjbghiahbeaaKgGp
/- The statement SurgeBounds, as a contract. No condition. -/
set_option linter.unusedSimpArgs false
set_option maxRecDepth 20000
namespace Go.DI
open Go.Proofs Go.RowKit Sg

def ruC (r : Ru) : List DV := [.imm (.int .i64 r.I), .imm (.int .i64 r.A), .imm (.int .i64 r.lo), .imm (.int .i64 r.hi), .imm (.int .i64 r.T)]
def spC (p : Pl) : List DV := [.imm (.int .i64 p.load), .imm (snI p.ch), .imm (.int .i64 p.wait), .imm (.int .i64 p.ticks)]
end Go.DI

/- The statement SurgeWaits, as a contract. No condition. -/
set_option linter.unusedSimpArgs false
set_option maxRecDepth 20000
namespace Go.DI
open Go.Proofs Go.RowKit Sg

theorem bBox_true {r : Ru} {p : Pl} {o : List Int} {y : Bool × Int × Int} {b : Bx} (ht : 1 ≤ p.ticks) : (bBox r p o y b).1 = true := by
  unfold bBox
  cases hw : brunL r b (loadsP p o) with
  | nil =>
    have h1 := brunL_length (r := r) (loadsP p o) b
    have h2 := loadsF_length (p := p) (o := o) p.ticks.toNat 0 p.load
    unfold loadsP at h1 hw
    rw [hw, h2] at h1
    simp at h1
    omega
  | cons x l => exact bfold_true (l := l) (y := bStp y x) rfl
theorem bOrd_true {r : Ru} {p : Pl} {o : List Int} (ht : 1 ≤ p.ticks) : ∀ {bs : List Bx} {y : Bool × Int × Int}, (bs ≠ [] ∨ y.1 = true) → (bOrd r p bs y o).1 = true
  | [], _, h => h.resolve_left (fun k => k rfl)
  | b :: bs, y, _ => bOrd_true (bs := bs) (y := bBox r p o y b) ht (.inr (bBox_true ht))
theorem bound_found {r : Ru} {p : Pl} {bs : List Bx} (ht : 1 ≤ p.ticks) (hb : bs ≠ []) : (boundP r p bs).1 = true ↔ ordersP p ≠ [] := by
  have key : ∀ (os : List (List Int)) (y : Bool × Int × Int), (os ≠ [] ∨ y.1 = true) → (os.foldl (bOrd r p bs) y).1 = true := by
    intro os
    induction os with
    | nil => intro y h; exact h.resolve_left (fun k => k rfl)
    | cons o os ih => intro _ _; exact ih _ (.inr (bOrd_true ht (.inl hb)))
  constructor
  · intro h k
    unfold boundP at h
    rw [k] at h
    cases h
  · intro h
    exact key _ _ (.inl h)

theorem cover_ne {v : Cv} (hv : coverE v = 0) : coverL v ≠ [] ∧ (coverL v).length ≤ v.parts.toNat * v.parts.toNat := by
  obtain ⟨hb, hp, -⟩ := coverE_zero.1 hv
  rw [boxErr_zero] at hb
  have ne : ∀ {lo hi c : Int}, DivOk lo hi c → divL lo hi c ≠ [] := by
    intro lo hi c h
    have a1 := h.a1; have a2 := h.a2; have a3 := h.a3; have a4 := h.a4
    have hm : divP lo hi c (c.toNat - 1) ∈ divL lo hi c := by
      unfold divL divR
      rw [List.drop_zero, List.mem_flatMap]
      refine ⟨c.toNat - 1, by rw [List.mem_range]; omega, ?_⟩
      unfold oneD
      rw [if_pos]
      · exact List.mem_singleton.2 rfl
      · have e : (((c.toNat - 1 : Nat) : Int) + 1) = c := by omega
        unfold divP
        dsimp only
        rw [e, Int.mul_ediv_cancel_left _ (by omega)]
        have : ((c.toNat - 1 : Nat) : Int) * (hi - lo + 1) / c < hi - lo + 1 := by
          apply Int.ediv_lt_of_lt_mul (by omega)
          rw [Int.mul_comm (hi - lo + 1) c]
          exact Int.mul_lt_mul_of_pos_right (by omega) (by omega)
        omega
    intro k
    rw [k] at hm
    cases hm
  have d1 : DivOk v.b.ll v.b.lh v.parts := ⟨by omega, by omega, by omega, hp⟩
  have d2 : DivOk v.b.fl v.b.fh v.parts := ⟨by omega, by omega, by omega, hp⟩
  have n1 := ne d1
  have n2 := ne d2
  constructor
  · unfold coverL
    intro k
    cases hx : divL v.b.ll v.b.lh v.parts with
    | nil => exact n1 hx
    | cons x l =>
      rw [hx] at k
      cases hy : divL v.b.fl v.b.fh v.parts with
      | nil => exact n2 hy
      | cons y m =>
        rw [hy] at k
        simp at k
  · have h1 := length_flat (l := divL v.b.ll v.b.lh v.parts) (m := v.parts.toNat) (g := fun x => (divL v.b.fl v.b.fh v.parts).map fun y => bxOf x y) fun x _ => by
      rw [List.length_map]
      exact divR_length (lo := v.b.fl) (hi := v.b.fh) (c := v.parts) (i := 0)
    have h2 := divR_length (lo := v.b.ll) (hi := v.b.lh) (c := v.parts) (i := 0)
    exact Nat.le_trans h1 (Nat.mul_le_mul_right _ h2)

theorem boxesE_ok {bs : List Bx} (h0 : bs ≠ []) (h1 : bs.length ≤ 64) (h2 : ∀ b ∈ bs, boxErr b = 0) : boxesE bs = 0 := by
  unfold boxesE
  rw [fstE_zero, fstE_zero, scanB_zero]
  have := List.length_pos_iff.2 h0
  exact ⟨⟨if_pos this, if_pos h1⟩, h2⟩

def wider (v : Cv) : Cv := ⟨v.b, v.parts, v.lo - 5, v.hi + 5⟩
def wtR (r : Ru) (p : Pl) (v : Cv) : List (Nat × Res) := [(3, .box (ruC r)), (4, .box (spC p)), (5, .box (scCells v))]
end Go.DI

/- Orders, witnesses and bounds as plain data: which orders there are; a run lies in the bound. No condition. -/
set_option linter.unusedSimpArgs false
namespace Go.DI
open Go.Proofs Go.RowKit Sg

def Bnd (L : List Bx) (y : Bool × Int × Int) : Prop := (y.1 = true ∨ L = []) ∧ ∀ x ∈ L, y.2.1 ≤ x.ll ∧ x.lh ≤ y.2.2
theorem bnd_stp {L : List Bx} {y : Bool × Int × Int} {b : Bx} (h : Bnd L y) : Bnd (L ++ [b]) (bStp y b) := by
  obtain ⟨h1, h2⟩ := h
  refine ⟨.inl rfl, fun x hx => ?_⟩
  unfold bStp
  dsimp only
  rcases List.mem_append.1 hx with hx | hx
  · rcases h1 with h1 | h1
    · have := h2 x hx
      rw [if_pos h1, if_pos h1]
      omega
    · rw [h1] at hx; cases hx
  · rw [List.mem_singleton] at hx
    subst hx
    omega
theorem bnd_fold {α : Type} {f : Bool × Int × Int → α → Bool × Int × Int} {g : α → List Bx} (hf : ∀ L y x, Bnd L y → Bnd (L ++ g x) (f y x)) : ∀ (xs : List α) (L : List Bx) (y : Bool × Int × Int), Bnd L y → Bnd (L ++ xs.flatMap g) (xs.foldl f y)
  | [], L, y, h => by simpa using h
  | x :: xs, L, y, h => by
    have := bnd_fold hf xs (L ++ g x) (f y x) (hf L y x h)
    simpa using this
def allB (r : Ru) (p : Pl) (bs : List Bx) : List Bx := (ordersP p).flatMap fun o => bs.flatMap fun b => (brunL r b (loadsP p o)).flatMap fun x => [x]
theorem bound_bnd {r : Ru} {p : Pl} {bs : List Bx} : Bnd (allB r p bs) (boundP r p bs) :=
  bnd_fold (g := fun o => bs.flatMap fun b => (brunL r b (loadsP p o)).flatMap fun x => [x]) (fun L y o h =>
    bnd_fold (g := fun b => (brunL r b (loadsP p o)).flatMap fun x => [x]) (fun L y b h => bnd_fold (g := fun x => [x]) (fun _ _ _ h => bnd_stp h) (brunL r b (loadsP p o)) L y h) bs L y h) (ordersP p) [] (false, 0, 0) ⟨.inr rfl, by simp⟩

end Go.DI

/- Covers as plain data: each state lies in exactly one box; bounds of more boxes. No condition. -/
set_option linter.unusedSimpArgs false
namespace Go.DI
open Go.Proofs Go.RowKit Sg

theorem mem_flowsF {L : Int} {s : Sta} : ∀ {n : Nat} {F : Int}, s ∈ flowsF L F n ↔ s.L = L ∧ F ≤ s.F ∧ s.F < F + n
  | 0, F => by
    constructor
    · intro h; cases h
    · intro h; omega
  | n + 1, F => by
    simp only [flowsF, List.mem_cons]
    rw [mem_flowsF (n := n)]
    constructor
    · rintro (rfl | h)
      · exact ⟨rfl, Int.le_refl _, by push_cast; omega⟩
      · push_cast; omega
    · intro h
      by_cases e : s.F = F
      · left; cases s; dsimp only at h e; rw [h.1, e]
      · right; push_cast at h; omega
theorem mem_levelsF {fl : Int} {nf : Nat} {s : Sta} : ∀ {n : Nat} {L : Int}, s ∈ levelsF fl nf L n ↔ (L ≤ s.L ∧ s.L < L + n) ∧ fl ≤ s.F ∧ s.F < fl + nf
  | 0, L => by
    constructor
    · intro h; cases h
    · intro h; omega
  | n + 1, L => by
    simp only [levelsF, List.mem_append]
    rw [mem_flowsF, mem_levelsF (n := n)]
    push_cast
    omega
theorem mem_statesB {b : Bx} {s : Sta} : s ∈ statesB b ↔ InB b s := by
  unfold statesB InB Wi
  rw [mem_levelsF]
  omega
theorem uncP_none {b : Bx} {bs : List Bx} : uncP b bs = none ↔ ∀ s, InB b s → ∃ x ∈ bs, InB x s := by
  unfold uncP
  rw [List.find?_eq_none]
  have key : ∀ s, (¬ (!covd bs s) = true) ↔ ∃ x ∈ bs, InB x s := by
    intro s
    unfold covd
    simp [inB_eq]
  constructor
  · intro h s hs
    exact (key s).1 (h s (mem_statesB.2 hs))
  · intro h s hs
    exact (key s).2 (h s (mem_statesB.1 hs))

theorem divQ_mono {lo hi c : Int} (h : DivOk lo hi c) {i : Nat} : (i : Int) * (hi - lo + 1) / c ≤ ((i : Int) + 1) * (hi - lo + 1) / c := by
  have a2 := h.a2; have a4 := h.a4
  apply Int.ediv_le_ediv (by omega)
  exact Int.mul_le_mul_of_nonneg_right (by omega) (by omega)
theorem divQ_last {lo hi c : Int} (h : DivOk lo hi c) : (c.toNat : Int) * (hi - lo + 1) / c = hi - lo + 1 := by
  have a4 := h.a4
  rw [show (c.toNat : Int) = c by omega]
  exact Int.mul_ediv_cancel_left _ (by omega)
def sumD : List (Int × Int) → Int
  | [] => 0
  | x :: l => (x.2 - x.1 + 1) + sumD l
theorem sumD_append {a b : List (Int × Int)} : sumD (a ++ b) = sumD a + sumD b := by
  induction a with
  | nil => simp [sumD]
  | cons x a ih => simp only [List.cons_append, sumD]; omega
theorem sumD_one {lo hi c : Int} (h : DivOk lo hi c) {i : Nat} : sumD (oneD (divP lo hi c i)) = ((i : Int) + 1) * (hi - lo + 1) / c - (i : Int) * (hi - lo + 1) / c := by
  have hm := divQ_mono h (i := i)
  unfold oneD divP
  dsimp only
  generalize (i : Int) * (hi - lo + 1) / c = q1 at hm ⊢
  generalize ((i : Int) + 1) * (hi - lo + 1) / c = q2 at hm ⊢
  split
  · simp only [sumD]; omega
  · simp only [sumD]; omega
theorem divR_all {lo hi c : Int} (h : DivOk lo hi c) : ∀ (n i : Nat), n + i = c.toNat →
    sumD (divR lo hi c i) = (hi - lo + 1) - (i : Int) * (hi - lo + 1) / c ∧
    (∀ t, lo + (i : Int) * (hi - lo + 1) / c ≤ t → t ≤ hi → ∃ x ∈ divR lo hi c i, x.1 ≤ t ∧ t ≤ x.2) ∧
    (∀ x ∈ divR lo hi c i, lo + (i : Int) * (hi - lo + 1) / c ≤ x.1) ∧ (divR lo hi c i).Pairwise (fun x y => x.2 < y.1)
  | 0, i, hn => by
    rw [divR_end (by omega)]
    have hl := divQ_last h
    have : i = c.toNat := by omega
    subst this
    rw [hl]
    refine ⟨by simp [sumD], fun t h1 h2 => by omega, by simp, List.Pairwise.nil⟩
  | n + 1, i, hn => by
    obtain ⟨h1, h2, h3, h4⟩ := divR_all h n (i + 1) (by omega)
    have ho := sumD_one h (i := i)
    have hm := divQ_mono h (i := i)
    rw [divR_step (by omega), sumD_append, ho, h1]
    push_cast at h1 h2 h3 ⊢
    refine ⟨by omega, fun t ht1 ht2 => ?_, fun x hx => ?_, ?_⟩
    · by_cases k : t ≤ lo + ((i : Int) + 1) * (hi - lo + 1) / c - 1
      · refine ⟨divP lo hi c i, ?_, ht1, k⟩
        unfold oneD
        rw [if_pos (by unfold divP; dsimp only; omega)]
        simp
      · obtain ⟨x, hx, hx2⟩ := h2 t (by omega) ht2
        exact ⟨x, by simp [hx], hx2⟩
    · rcases List.mem_append.1 hx with hx | hx
      · unfold oneD at hx
        split at hx
        · rw [List.mem_singleton] at hx
          subst hx
          exact Int.le_refl _
        · cases hx
      · have := h3 x hx
        omega
    · rw [List.pairwise_append]
      refine ⟨?_, h4, fun x hx y hy => ?_⟩
      · unfold oneD
        split
        · exact List.pairwise_singleton _ _
        · exact List.Pairwise.nil
      · unfold oneD at hx
        split at hx
        · rw [List.mem_singleton] at hx
          subst hx
          have := h3 y hy
          unfold divP
          dsimp only
          omega
        · cases hx
theorem divL_all {lo hi c : Int} (h : DivOk lo hi c) : sumD (divL lo hi c) = hi - lo + 1 ∧ (∀ t, lo ≤ t → t ≤ hi → ∃ x ∈ divL lo hi c, x.1 ≤ t ∧ t ≤ x.2) ∧ (divL lo hi c).Pairwise (fun x y => x.2 < y.1) := by
  obtain ⟨h1, h2, h3, h4⟩ := divR_all h c.toNat 0 (by omega)
  simp only [Int.natCast_zero, Int.zero_mul, Int.zero_ediv, Int.add_zero, Int.sub_zero] at h1 h2
  exact ⟨h1, h2, h4⟩

theorem cover_divs {v : Cv} (hv : coverE v = 0) : DivOk v.b.ll v.b.lh v.parts ∧ DivOk v.b.fl v.b.fh v.parts := by
  obtain ⟨hb, hp, -⟩ := coverE_zero.1 hv
  rw [boxErr_zero] at hb
  exact ⟨⟨by omega, by omega, by omega, hp⟩, ⟨by omega, by omega, by omega, hp⟩⟩

/-- The cover covers. -/
theorem cover_all {v : Cv} (hv : coverE v = 0) : uncP v.b (coverL v) = none := by
  obtain ⟨d1, d2⟩ := cover_divs hv
  rw [uncP_none]
  rintro s ⟨⟨h1, h2⟩, h3, h4⟩
  obtain ⟨x, hx, hx2⟩ := (divL_all d1).2.1 s.L h1 h2
  obtain ⟨y, hy, hy2⟩ := (divL_all d2).2.1 s.F h3 h4
  refine ⟨bxOf x y, ?_, hx2, hy2⟩
  unfold coverL
  rw [List.mem_flatMap]
  exact ⟨x, hx, List.mem_map.2 ⟨y, hy, rfl⟩⟩

def sumC : List Bx → Int
  | [] => 0
  | b :: l => countB b + sumC l
theorem sumC_append {a b : List Bx} : sumC (a ++ b) = sumC a + sumC b := by
  induction a with
  | nil => simp [sumC]
  | cons x a ih => simp only [List.cons_append, sumC]; omega
theorem sumC_row {x : Int × Int} : ∀ (Y : List (Int × Int)), sumC (Y.map fun y => bxOf x y) = (x.2 - x.1 + 1) * sumD Y
  | [] => by simp [sumC, sumD]
  | y :: Y => by
    simp only [List.map_cons, sumC, sumD]
    rw [sumC_row Y, Int.mul_add]
    rfl
theorem sumC_flat {Y : List (Int × Int)} : ∀ (X : List (Int × Int)), sumC (X.flatMap fun x => Y.map fun y => bxOf x y) = sumD X * sumD Y
  | [] => by simp [sumC, sumD]
  | x :: X => by
    rw [List.flatMap_cons, sumC_append, sumC_row, sumC_flat X]
    show _ = ((x.2 - x.1 + 1) + sumD X) * sumD Y
    rw [Int.add_mul (x.2 - x.1 + 1)]
/-- The boxes have as many states as the box. -/
theorem cover_sum {v : Cv} (hv : coverE v = 0) : sumC (coverL v) = countB v.b := by
  obtain ⟨d1, d2⟩ := cover_divs hv
  unfold coverL
  rw [sumC_flat, (divL_all d1).1, (divL_all d2).1]
  rfl

theorem boxes_length {Y : List (Int × Int)} : ∀ (X : List (Int × Int)), (X.flatMap fun x => Y.map fun y => bxOf x y).length = X.length * Y.length
  | [] => by simp
  | x :: X => by
    rw [List.flatMap_cons, List.length_append, boxes_length X, List.length_map, List.length_cons, Nat.succ_mul]
    omega
theorem one_part {lo hi c : Int} (h : DivOk lo hi c) (hl : (divL lo hi c).length = 1) : divL lo hi c = [(lo, hi)] := by
  have hs := (divL_all h).1
  cases hd : divL lo hi c with
  | nil => rw [hd] at hl; cases hl
  | cons x l =>
    rw [hd] at hl hs
    have hl0 : l = [] := List.eq_nil_of_length_eq_zero (by simpa using hl)
    subst hl0
    have hx := divL_mem h (x := x) (by rw [hd]; simp)
    simp only [sumD] at hs
    obtain ⟨a, b⟩ := x
    dsimp only at hs hx
    have : a = lo := by omega
    have : b = hi := by omega
    subst a b
    rfl
theorem cover_one {v : Cv} (hv : coverE v = 0) (h : (coverL v).length = 1) : coverL v = [v.b] := by
  obtain ⟨d1, d2⟩ := cover_divs hv
  unfold coverL at h ⊢
  rw [boxes_length] at h
  have h1 := Nat.eq_one_of_mul_eq_one_right h
  have h2 := Nat.eq_one_of_mul_eq_one_left h
  rw [one_part d1 h1, one_part d2 h2]
  rfl

/-- Without its first box the cover does not cover. -/
theorem cover_gap {v : Cv} (hv : coverE v = 0) : ∃ s, uncP v.b ((coverL v).drop 1) = some s := by
  obtain ⟨d1, d2⟩ := cover_divs hv
  obtain ⟨hne, -⟩ := cover_ne hv
  have p1 := (divL_all d1).2.2
  have p2 := (divL_all d2).2.2
  have m1 : ∀ x ∈ divL v.b.ll v.b.lh v.parts, _ := fun x hx => divL_mem d1 (x := x) hx
  have m2 : ∀ x ∈ divL v.b.fl v.b.fh v.parts, _ := fun x hx => divL_mem d2 (x := x) hx
  cases hu : uncP v.b ((coverL v).drop 1) with
  | some s => exact ⟨s, rfl⟩
  | none =>
    exfalso
    rw [uncP_none] at hu
    unfold coverL at hu hne
    cases hX : divL v.b.ll v.b.lh v.parts with
    | nil => rw [hX] at hne; exact hne rfl
    | cons x X =>
      cases hY : divL v.b.fl v.b.fh v.parts with
      | nil =>
        rw [hY] at hne
        apply hne
        simp
      | cons y Y =>
        rw [hX] at p1 m1
        rw [hY] at p2 m2
        rw [List.pairwise_cons] at p1 p2
        have mx := m1 x (by simp)
        have my := m2 y (by simp)
        rw [hX, hY, List.flatMap_cons, List.map_cons, List.cons_append, List.drop_succ_cons, List.drop_zero] at hu
        obtain ⟨z, hz, hin⟩ := hu ⟨x.1, y.1⟩ ⟨⟨by show v.b.ll ≤ x.1; omega, by show x.1 ≤ v.b.lh; omega⟩, by show v.b.fl ≤ y.1; omega, by show y.1 ≤ v.b.fh; omega⟩
        rcases List.mem_append.1 hz with hz | hz
        · rw [List.mem_map] at hz
          obtain ⟨y2, hy2, rfl⟩ := hz
          have := p2.1 y2 hy2
          have hF := hin.2.1
          unfold bxOf at hF
          dsimp only at hF
          omega
        · rw [List.mem_flatMap] at hz
          obtain ⟨x2, hx2, hz⟩ := hz
          rw [List.mem_map] at hz
          obtain ⟨y2, hy2, rfl⟩ := hz
          have := p1.1 x2 hx2
          have hL := hin.1.1
          unfold bxOf at hL
          dsimp only at hL
          omega

def Att (L : List Bx) (y : Bool × Int × Int) : Prop := y.1 = true → (∃ x ∈ L, y.2.1 = x.ll) ∧ ∃ x ∈ L, y.2.2 = x.lh
theorem att_stp {L : List Bx} {y : Bool × Int × Int} {b : Bx} (h : Att L y) : Att (L ++ [b]) (bStp y b) := by
  intro _
  unfold bStp
  dsimp only
  have hb : b ∈ L ++ [b] := by simp
  by_cases k : y.1 = true
  · obtain ⟨⟨x, hx, e⟩, x2, hx2, e2⟩ := h k
    rw [if_pos k, if_pos k]
    constructor
    · by_cases k2 : y.2.1 ≤ b.ll
      · exact ⟨x, by simp [hx], by omega⟩
      · exact ⟨b, hb, by omega⟩
    · by_cases k2 : b.lh ≤ y.2.2
      · exact ⟨x2, by simp [hx2], by omega⟩
      · exact ⟨b, hb, by omega⟩
  · rw [if_neg k, if_neg k]
    exact ⟨⟨b, hb, by omega⟩, b, hb, by omega⟩
theorem att_fold {α : Type} {f : Bool × Int × Int → α → Bool × Int × Int} {g : α → List Bx} (hf : ∀ L y x, Att L y → Att (L ++ g x) (f y x)) : ∀ (xs : List α) (L : List Bx) (y : Bool × Int × Int), Att L y → Att (L ++ xs.flatMap g) (xs.foldl f y)
  | [], L, y, h => by simpa using h
  | x :: xs, L, y, h => by
    have := att_fold hf xs (L ++ g x) (f y x) (hf L y x h)
    simpa using this
theorem bound_att {r : Ru} {p : Pl} {bs : List Bx} : Att (allB r p bs) (boundP r p bs) :=
  att_fold (g := fun o => bs.flatMap fun b => (brunL r b (loadsP p o)).flatMap fun x => [x]) (fun L y o h =>
    att_fold (g := fun b => (brunL r b (loadsP p o)).flatMap fun x => [x]) (fun L y b h => att_fold (g := fun x => [x]) (fun _ _ _ h => att_stp h) (brunL r b (loadsP p o)) L y h) bs L y h) (ordersP p) [] (false, 0, 0) (fun h => by cases h)

/-- If each box of some lies in one of others, their bound is not wider. -/
theorem bounds_sub {r : Ru} {p : Pl} {cs bs : List Bx} (hf : (boundP r p cs).1 = true) (h : ∀ x ∈ allB r p cs, ∃ y ∈ allB r p bs, y.ll ≤ x.ll ∧ x.lh ≤ y.lh) :
    (boundP r p bs).2.1 ≤ (boundP r p cs).2.1 ∧ (boundP r p cs).2.2 ≤ (boundP r p bs).2.2 := by
  obtain ⟨⟨x, hx, e⟩, x2, hx2, e2⟩ := bound_att hf
  obtain ⟨y, hy, h1⟩ := h x hx
  obtain ⟨y2, hy2, h2⟩ := h x2 hx2
  have b1 := bound_bnd.2 y hy
  have b2 := bound_bnd.2 y2 hy2
  omega
theorem mem_allB {r : Ru} {p : Pl} {bs : List Bx} {x : Bx} : x ∈ allB r p bs ↔ ∃ o ∈ ordersP p, ∃ b ∈ bs, x ∈ brunL r b (loadsP p o) := by
  unfold allB
  simp only [List.mem_flatMap, List.mem_singleton]
  constructor
  · rintro ⟨o, ho, b, hb, y, hy, rfl⟩; exact ⟨o, ho, b, hb, hy⟩
  · rintro ⟨o, ho, b, hb, hy⟩; exact ⟨o, ho, b, hb, x, hy, rfl⟩
theorem brun_sub {r : Ru} (hr : Sg.Good r) : ∀ (ls : List Int) {a b : Bx}, (∀ x ∈ ls, 0 ≤ x ∧ x ≤ 1000) → Sub a b → (a.ll ≤ a.lh ∧ a.fl ≤ a.fh) → (-1000 ≤ b.fl ∧ b.fh ≤ 1000) →
    ∀ x ∈ brunL r a ls, ∃ y ∈ brunL r b ls, y.ll ≤ x.ll ∧ x.lh ≤ y.lh
  | [], _, _, _, _, _, _, x, hx => by cases hx
  | load :: ls, a, b, hl, hs, hff, hf, x, hx => by
    have h1 := bstp_sub hr (hl load (by simp)) hs hff.2 hf
    have hb := bstp_bd (r := r) hr (b := b) (load := load) (m := max (max b.ll (-b.ll)) (max b.lh (-b.lh))) (by omega) (by omega) (hl load (by simp))
    simp only [brunL, List.mem_cons] at hx ⊢
    rcases hx with rfl | hx
    · exact ⟨_, .inl rfl, h1.1, h1.2.1⟩
    · have hne : (bstp r a load).ll ≤ (bstp r a load).lh ∧ (bstp r a load).fl ≤ (bstp r a load).fh := by
        obtain ⟨g1, g2, g3, g4⟩ := hs
        have hi := bstp_in hr (b := a) (s := ⟨a.ll, a.fl⟩) (hl load (by simp)) (k := r.lo) ⟨Int.le_refl _, hr.le⟩ ⟨⟨Int.le_refl _, hff.1⟩, Int.le_refl _, hff.2⟩ (by omega)
        exact ⟨Int.le_trans hi.1.1 hi.1.2, Int.le_trans hi.2.1 hi.2.2⟩
      obtain ⟨y, hy, h2⟩ := brun_sub hr ls (fun z hz => hl z (by simp [hz])) h1 hne (by omega) x hx
      exact ⟨y, .inr hy, h2⟩

theorem boxErr_sub {v : Cv} (hv : coverE v = 0) {b : Bx} (hb : b ∈ coverL v) : Sub b v.b := by
  obtain ⟨d1, d2⟩ := cover_divs hv
  unfold coverL at hb
  rw [List.mem_flatMap] at hb
  obtain ⟨x, hx, hb⟩ := hb
  rw [List.mem_map] at hb
  obtain ⟨y, hy, rfl⟩ := hb
  have h1 := divL_mem d1 hx
  have h2 := divL_mem d2 hy
  exact ⟨h1.1, h1.2.2, h2.1, h2.2.2⟩

/-- Bounds of the cover: with the box itself not narrower, without a box not wider. -/
theorem cover_bounds {r : Ru} {p : Pl} {v : Cv} (hr : Sg.Good r) (hp : PlanOk p) (hv : coverE v = 0) (ho : ordersP p ≠ []) (h1 : (coverL v).drop 1 ≠ []) :
    ((boundP r p (coverL v)).2.1 ≤ (boundP r p ((coverL v).drop 1)).2.1 ∧ (boundP r p ((coverL v).drop 1)).2.2 ≤ (boundP r p (coverL v)).2.2) ∧
    (boundP r p [v.b]).2.1 ≤ (boundP r p (coverL v)).2.1 ∧ (boundP r p (coverL v)).2.2 ≤ (boundP r p [v.b]).2.2 := by
  obtain ⟨hne, -⟩ := cover_ne hv
  obtain ⟨-, hcb⟩ := cover_ok hv
  obtain ⟨hb, -⟩ := coverE_zero.1 hv
  rw [boxErr_zero] at hb
  constructor
  · refine bounds_sub ((bound_found hp.ticks.1 h1).2 ho) fun x hx => ?_
    rw [mem_allB] at hx
    obtain ⟨o, hoo, b, hbm, hx⟩ := hx
    exact ⟨x, mem_allB.2 ⟨o, hoo, b, List.mem_of_mem_drop hbm, hx⟩, Int.le_refl _, Int.le_refl _⟩
  · refine bounds_sub ((bound_found hp.ticks.1 hne).2 ho) fun x hx => ?_
    rw [mem_allB] at hx
    obtain ⟨o, hoo, b, hbm, hx⟩ := hx
    have hlo := loads_ok hp (orders_perm hoo)
    have hbb := boxErr_zero.1 (hcb b hbm)
    obtain ⟨y, hy, h⟩ := brun_sub hr (loadsP p o) hlo.2 (boxErr_sub hv hbm) (by omega) (by omega) x hx
    exact ⟨y, mem_allB.2 ⟨o, hoo, v.b, by simp, hy⟩, h⟩
end Go.DI


/- The statement SurgeWaits, as a contract. No condition. -/
import Derived.Test.YtdpfjbghiahbeaaKrGq
set_option linter.unusedSimpArgs false
set_option maxRecDepth 20000
namespace Go.DI
open Go.Proofs Go.RowKit Sg

theorem bBox_true {r : Ru} {p : Pl} {o : List Int} {y : Bool × Int × Int} {b : Bx} (ht : 1 ≤ p.ticks) : (bBox r p o y b).1 = true := by
  unfold bBox
  cases hw : brunL r b (loadsP p o) with
  | nil =>
    have h1 := brunL_length (r := r) (loadsP p o) b
    have h2 := loadsF_length (p := p) (o := o) p.ticks.toNat 0 p.load
    unfold loadsP at h1 hw
    rw [hw, h2] at h1
    simp at h1
    omega
  | cons x l => exact bfold_true (l := l) (y := bStp y x) rfl
theorem bOrd_true {r : Ru} {p : Pl} {o : List Int} (ht : 1 ≤ p.ticks) : ∀ {bs : List Bx} {y : Bool × Int × Int}, (bs ≠ [] ∨ y.1 = true) → (bOrd r p bs y o).1 = true
  | [], _, h => h.resolve_left (fun k => k rfl)
  | b :: bs, y, _ => bOrd_true (bs := bs) (y := bBox r p o y b) ht (.inr (bBox_true ht))
theorem bound_found {r : Ru} {p : Pl} {bs : List Bx} (ht : 1 ≤ p.ticks) (hb : bs ≠ []) : (boundP r p bs).1 = true ↔ ordersP p ≠ [] := by
  have key : ∀ (os : List (List Int)) (y : Bool × Int × Int), (os ≠ [] ∨ y.1 = true) → (os.foldl (bOrd r p bs) y).1 = true := by
    intro os
    induction os with
    | nil => intro y h; exact h.resolve_left (fun k => k rfl)
    | cons o os ih => intro _ _; exact ih _ (.inr (bOrd_true ht (.inl hb)))
  constructor
  · intro h k
    unfold boundP at h
    rw [k] at h
    cases h
  · intro h
    exact key _ _ (.inl h)

theorem cover_ne {v : Cv} (hv : coverE v = 0) : coverL v ≠ [] ∧ (coverL v).length ≤ v.parts.toNat * v.parts.toNat := by
  obtain ⟨hb, hp, -⟩ := coverE_zero.1 hv
  rw [boxErr_zero] at hb
  have ne : ∀ {lo hi c : Int}, DivOk lo hi c → divL lo hi c ≠ [] := by
    intro lo hi c h
    have a1 := h.a1; have a2 := h.a2; have a3 := h.a3; have a4 := h.a4
    have hm : divP lo hi c (c.toNat - 1) ∈ divL lo hi c := by
      unfold divL divR
      rw [List.drop_zero, List.mem_flatMap]
      refine ⟨c.toNat - 1, by rw [List.mem_range]; omega, ?_⟩
      unfold oneD
      rw [if_pos]
      · exact List.mem_singleton.2 rfl
      · have e : (((c.toNat - 1 : Nat) : Int) + 1) = c := by omega
        unfold divP
        dsimp only
        rw [e, Int.mul_ediv_cancel_left _ (by omega)]
        have : ((c.toNat - 1 : Nat) : Int) * (hi - lo + 1) / c < hi - lo + 1 := by
          apply Int.ediv_lt_of_lt_mul (by omega)
          rw [Int.mul_comm (hi - lo + 1) c]
          exact Int.mul_lt_mul_of_pos_right (by omega) (by omega)
        omega
    intro k
    rw [k] at hm
    cases hm
  have d1 : DivOk v.b.ll v.b.lh v.parts := ⟨by omega, by omega, by omega, hp⟩
  have d2 : DivOk v.b.fl v.b.fh v.parts := ⟨by omega, by omega, by omega, hp⟩
  have n1 := ne d1
  have n2 := ne d2
  constructor
  · unfold coverL
    intro k
    cases hx : divL v.b.ll v.b.lh v.parts with
    | nil => exact n1 hx
    | cons x l =>
      rw [hx] at k
      cases hy : divL v.b.fl v.b.fh v.parts with
      | nil => exact n2 hy
      | cons y m =>
        rw [hy] at k
        simp at k
  · have h1 := length_flat (l := divL v.b.ll v.b.lh v.parts) (m := v.parts.toNat) (g := fun x => (divL v.b.fl v.b.fh v.parts).map fun y => bxOf x y) fun x _ => by
      rw [List.length_map]
      exact divR_length (lo := v.b.fl) (hi := v.b.fh) (c := v.parts) (i := 0)
    have h2 := divR_length (lo := v.b.ll) (hi := v.b.lh) (c := v.parts) (i := 0)
    exact Nat.le_trans h1 (Nat.mul_le_mul_right _ h2)

theorem boxesE_ok {bs : List Bx} (h0 : bs ≠ []) (h1 : bs.length ≤ 64) (h2 : ∀ b ∈ bs, boxErr b = 0) : boxesE bs = 0 := by
  unfold boxesE
  rw [fstE_zero, fstE_zero, scanB_zero]
  have := List.length_pos_iff.2 h0
  exact ⟨⟨if_pos this, if_pos h1⟩, h2⟩

def wider (v : Cv) : Cv := ⟨v.b, v.parts, v.lo - 5, v.hi + 5⟩
theorem shortF_wider {r : Ru} {p : Pl} {v : Cv} {w0 : Int} : ∀ (n : Nat) (w : Int), shortF r p v n w = some w0 → (w ≤ w0 ∧ w0 < w + n ∧ keepsW r p v w0) ∧ ∃ m, shortF r p (wider v) n w = some m ∧ m ≤ w0
  | 0, w, h => by cases h
  | n + 1, w, h => by
    rw [shortF_cons] at h ⊢
    have hk : keepsW r p v w → keepsW r p (wider v) w := by
      rintro ⟨⟨h1, h2⟩, h3⟩
      exact ⟨⟨h1, Int.le_trans (show v.lo - 5 ≤ v.lo by omega) h2⟩, Int.le_trans h3 (show v.hi ≤ v.hi + 5 by omega)⟩
    by_cases k : keepsW r p v w
    · rw [if_pos k] at h
      have e := Option.some.inj h
      subst e
      exact ⟨⟨by omega, by push_cast; omega, k⟩, w, if_pos (hk k), Int.le_refl _⟩
    · rw [if_neg k] at h
      obtain ⟨⟨a1, a2, a3⟩, m, hm, hle⟩ := shortF_wider n (w + 1) h
      refine ⟨⟨by omega, by push_cast at a2 ⊢; omega, a3⟩, ?_⟩
      by_cases k2 : keepsW r p (wider v) w
      · exact ⟨w, if_pos k2, by omega⟩
      · exact ⟨m, by rw [if_neg k2]; exact hm, hle⟩
theorem ordF_setW {p : Pl} {w : Int} : ∀ (f : Nat) (o : List Int), ordF (setW p w) f o = ordF p f o
  | 0, _ => rfl
  | f + 1, o => by
    show ((List.range p.ch.length).flatMap fun (i : Nat) => oneF (setW p w) o i (ordF (setW p w) f (o ++ [(i : Int)]))) = (List.range p.ch.length).flatMap fun (i : Nat) => oneF p o i (ordF p f (o ++ [(i : Int)]))
    congr 1
    funext i
    rw [ordF_setW f]
    rfl
theorem orders_setW {p : Pl} {w : Int} : ordersP (setW p w) = ordersP p := ordF_setW _ _

def wtR (r : Ru) (p : Pl) (v : Cv) : List (Nat × Res) := [(3, .box (ruC r)), (4, .box (spC p)), (5, .box (scCells v))]
theorem loop_SurgeWaits {r : Ru} {p : Pl} {v : Cv} (hr : Sg.Good r) (hp : PlanOk p) (hv : coverE v = 0) :
    run Try.prog b12k5 [] (d12.post (.bool true)) (mkS [(3, .ref 3 0), (4, .ref 4 0), (5, .ref 5 0), (7, .imm (.int .i64 (optW (shortP r p v)))), (8, .imm (.int .i64 (optE (shortP r p v)))), (12, .imm (.slc 4 ((coverL v).map sbI)))] (wtR r p v)) := by
  have hpl := hp.len
  have ht := hp.ticks
  obtain ⟨hcl, hcb⟩ := cover_ok hv
  obtain ⟨hne, -⟩ := cover_ne hv
  have hbe := boxesE_ok hne hcl hcb
  have cp := r_CopyPlan (p := p) (by omega)
  have cb := r_CopyBoxes (l := coverL v) (by omega)
  simp only [b12k5, res12, b12k4, wtR, ruC, spC, scCells, ruI, ssI, sbI, spI, swI, scI, stI, srI, saI, snI, ↓reduceIte, reduceCtorEq, Nat.reduceEqDiff, Nat.reduceAdd, Nat.reduceMul, Nat.reduceSub, Nat.reduceLeDiff, Nat.reduceBEq, Int.reduceToNat, Int.reduceLE, Int.reduceLT, Int.reduceEq, Int.reduceNe, di0, di1, di2, di3, di4, di5, di6, di7, di8, di9, postX_ret, postX_normal, ex_some]
  refine loop_keep (α := Int) rfl (fun w => (21 - w).toNat) (fun w => (1 ≤ w ∧ w ≤ 21) ∧ shortP r p v = shortF r p v (21 - w).toNat w)
    (fun w => [(3, .ref 3 0), (4, .ref 4 0), (5, .ref 5 0), (7, .imm (.int .i64 (optW (shortP r p v)))), (8, .imm (.int .i64 (optE (shortP r p v)))), (12, .imm (.slc 4 ((coverL v).map sbI))), (14, .imm (.int .i64 w))])
    (fun _ => wtR r p v) 1 ⟨⟨by omega, by omega⟩, rfl⟩ (by simp only [wtR, ruC, spC, scCells, ruI, ssI, sbI, spI, swI, scI, stI, srI, saI, snI, ↓reduceIte, reduceCtorEq, Nat.reduceEqDiff, Nat.reduceAdd, Nat.reduceMul, Nat.reduceSub, Nat.reduceLeDiff, Nat.reduceBEq, Int.reduceToNat, Int.reduceLE, Int.reduceLT, Int.reduceEq, Int.reduceNe, di0, di1, di2, di3, di4, di5, di6, di7, di8, di9, postX_ret, postX_normal, ex_some] <;> rfl) ?_
  rintro w ⟨hw, he⟩ ih
  simp only [b12k0, b12k1, b12k2, b12k3, res12, wtR, ruC, spC, scCells, ruI, ssI, sbI, spI, swI, scI, stI, srI, saI, snI, ↓reduceIte, reduceCtorEq, Nat.reduceEqDiff, Nat.reduceAdd, Nat.reduceMul, Nat.reduceSub, Nat.reduceLeDiff, Nat.reduceBEq, Int.reduceToNat, Int.reduceLE, Int.reduceLT, Int.reduceEq, Int.reduceNe, di0, di1, di2, di3, di4, di5, di6, di7, di8, di9, postX_ret, postX_normal, ex_some]
  split
  case isFalse h1 =>
    rw [show (21 - w).toNat = 0 by omega] at he
    simp only [shortF] at he
    rw [he]
    simp only [optE, ruI, ssI, sbI, spI, swI, scI, stI, srI, saI, snI, ↓reduceIte, reduceCtorEq, Nat.reduceEqDiff, Nat.reduceAdd, Nat.reduceMul, Nat.reduceSub, Nat.reduceLeDiff, Nat.reduceBEq, Int.reduceToNat, Int.reduceLE, Int.reduceLT, Int.reduceEq, Int.reduceNe, di0, di1, di2, di3, di4, di5, di6, di7, di8, di9, postX_ret, postX_normal, ex_some]
  rename_i h1
  have hps : PlanOk (setW p w) := setW_ok hp ⟨hw.1, h1⟩
  rw [show (21 - w).toNat = (21 - (w + 1)).toNat + 1 by omega, shortF_cons] at he
  have hpe : (planEr r (setW p w)).2 = 0 := planEr_zero.2 ⟨hr, hps⟩
  have hbd : boundE r (setW p w) (coverL v) = 0 := by unfold boundE; rw [fstE_zero]; exact ⟨hpe, hbe⟩
  have sb := s_BoundOf (r := r) (p := setW p w) (bs := coverL v) (by show p.ch.length ≤ _; omega) (by omega)
  rw [if_pos hbd] at sb
  have hk : keepsW r p v w = (((boundP r (setW p w) (coverL v)).1 = true ∧ v.lo ≤ (boundP r (setW p w) (coverL v)).2.1) ∧ (boundP r (setW p w) (coverL v)).2.2 ≤ v.hi) := rfl
  have hfd : (boundP r (setW p w) (coverL v)).1 = true ↔ ordersP p ≠ [] := by rw [← orders_setW (p := p) (w := w)]; exact bound_found (p := setW p w) ht.1 hne
  generalize boundP r (setW p w) (coverL v) = B at hk hfd sb
  obtain ⟨Bf, B1, B2⟩ := B
  dsimp only at hk hfd sb
  simp only [setW] at sb
  refine calls_of cp ?_; simp only [ruI, ssI, sbI, spI, swI, scI, stI, srI, saI, snI, res12, b12k0, b12k1, b12k2, b12k3, b12k4, b12k5, b12k6, b12k7, ↓reduceIte, reduceCtorEq, Nat.reduceEqDiff, Nat.reduceAdd, Nat.reduceMul, Nat.reduceSub, Nat.reduceLeDiff, Nat.reduceBEq, Int.reduceToNat, Int.reduceLE, Int.reduceLT, Int.reduceEq, Int.reduceNe, di0, di1, di2, di3, di4, di5, di6, di7, di8, di9, postX_ret, postX_normal, ex_some]
  refine calls_of cb ?_; simp only [ruI, ssI, sbI, spI, swI, scI, stI, srI, saI, snI, res12, b12k0, b12k1, b12k2, b12k3, b12k4, b12k5, b12k6, b12k7, ↓reduceIte, reduceCtorEq, Nat.reduceEqDiff, Nat.reduceAdd, Nat.reduceMul, Nat.reduceSub, Nat.reduceLeDiff, Nat.reduceBEq, Int.reduceToNat, Int.reduceLE, Int.reduceLT, Int.reduceEq, Int.reduceNe, di0, di1, di2, di3, di4, di5, di6, di7, di8, di9, postX_ret, postX_normal, ex_some]
  refine calls_of sb ?_; simp only [ruI, ssI, sbI, spI, swI, scI, stI, srI, saI, snI, res12, b12k0, b12k1, b12k2, b12k3, b12k4, b12k5, b12k6, b12k7, ↓reduceIte, reduceCtorEq, Nat.reduceEqDiff, Nat.reduceAdd, Nat.reduceMul, Nat.reduceSub, Nat.reduceLeDiff, Nat.reduceBEq, Int.reduceToNat, Int.reduceLE, Int.reduceLT, Int.reduceEq, Int.reduceNe, di0, di1, di2, di3, di4, di5, di6, di7, di8, di9, postX_ret, postX_normal, ex_some]
  cases Bf
  ·
    have hno : ordersP p = [] := by
      cases ho : ordersP p with
      | nil => rfl
      | cons a b => exact absurd (hfd.2 (by rw [ho]; simp)) (by simp)
    have hnk : ∀ u, ¬ keepsW r p v u := by
      rintro u ⟨⟨k1, -⟩, -⟩
      have := (bound_found (p := setW p u) (bs := coverL v) (r := r) ht.1 hne).1 k1
      rw [orders_setW] at this
      exact this hno
    have hsn : shortP r p v = none := by
      have : ∀ (n : Nat) (u : Int), shortF r p v n u = none := by
        intro n
        induction n with
        | zero => intro u; rfl
        | succ n ihn => intro u; rw [shortF_cons, if_neg (hnk u)]; exact ihn _
      exact this _ _
    rw [hsn]
    simp only [optE, ruI, ssI, sbI, spI, swI, scI, stI, srI, saI, snI, ↓reduceIte, reduceCtorEq, Nat.reduceEqDiff, Nat.reduceAdd, Nat.reduceMul, Nat.reduceSub, Nat.reduceLeDiff, Nat.reduceBEq, Int.reduceToNat, Int.reduceLE, Int.reduceLT, Int.reduceEq, Int.reduceNe, di0, di1, di2, di3, di4, di5, di6, di7, di8, di9, postX_ret, postX_normal, ex_some]
  · simp only [ruI, ssI, sbI, spI, swI, scI, stI, srI, saI, snI, ↓reduceIte, reduceCtorEq, Nat.reduceEqDiff, Nat.reduceAdd, Nat.reduceMul, Nat.reduceSub, Nat.reduceLeDiff, Nat.reduceBEq, Int.reduceToNat, Int.reduceLE, Int.reduceLT, Int.reduceEq, Int.reduceNe, di0, di1, di2, di3, di4, di5, di6, di7, di8, di9, postX_ret, postX_normal, ex_some]
    have hnot : ∀ n, shortP r p v = shortF r p v n (w + 1) → ¬ (optE (shortP r p v) = 0 ∧ w = optW (shortP r p v)) := by
      intro n hn
      cases hs : shortP r p v with
      | none => simp [optE]
      | some w0 =>
        rw [hs] at hn
        have := (shortF_wider n (w + 1) hn.symm).1.1
        simp only [optW, optE]
        omega
    have hwr : IntKind.wrap .i64 (w + 1) = w + 1 := wrap64 (by omega) (by omega)
    by_cases k1 : v.lo ≤ B1
    case neg =>
      rw [if_neg (by rw [hk]; simp [k1])] at he
      simp only [k1, ruI, ssI, sbI, spI, swI, scI, stI, srI, saI, snI, ↓reduceIte, reduceCtorEq, Nat.reduceEqDiff, Nat.reduceAdd, Nat.reduceMul, Nat.reduceSub, Nat.reduceLeDiff, Nat.reduceBEq, Int.reduceToNat, Int.reduceLE, Int.reduceLT, Int.reduceEq, Int.reduceNe, di0, di1, di2, di3, di4, di5, di6, di7, di8, di9, postX_ret, postX_normal, ex_some]
      rw [if_neg (hnot _ he), hwr]
      exact ih (w + 1) _ _ (by omega) ⟨by omega, he⟩ (by simp only [wtR, ruC, spC, scCells, ruI, ssI, sbI, spI, swI, scI, stI, srI, saI, snI, ↓reduceIte, reduceCtorEq, Nat.reduceEqDiff, Nat.reduceAdd, Nat.reduceMul, Nat.reduceSub, Nat.reduceLeDiff, Nat.reduceBEq, Int.reduceToNat, Int.reduceLE, Int.reduceLT, Int.reduceEq, Int.reduceNe, di0, di1, di2, di3, di4, di5, di6, di7, di8, di9, postX_ret, postX_normal, ex_some] <;> rfl)
    simp only [k1, ruI, ssI, sbI, spI, swI, scI, stI, srI, saI, snI, ↓reduceIte, reduceCtorEq, Nat.reduceEqDiff, Nat.reduceAdd, Nat.reduceMul, Nat.reduceSub, Nat.reduceLeDiff, Nat.reduceBEq, Int.reduceToNat, Int.reduceLE, Int.reduceLT, Int.reduceEq, Int.reduceNe, di0, di1, di2, di3, di4, di5, di6, di7, di8, di9, postX_ret, postX_normal, ex_some]
    by_cases k2 : B2 ≤ v.hi
    case neg =>
      rw [if_neg (by rw [hk]; simp [k2])] at he
      simp only [k2, ruI, ssI, sbI, spI, swI, scI, stI, srI, saI, snI, ↓reduceIte, reduceCtorEq, Nat.reduceEqDiff, Nat.reduceAdd, Nat.reduceMul, Nat.reduceSub, Nat.reduceLeDiff, Nat.reduceBEq, Int.reduceToNat, Int.reduceLE, Int.reduceLT, Int.reduceEq, Int.reduceNe, di0, di1, di2, di3, di4, di5, di6, di7, di8, di9, postX_ret, postX_normal, ex_some]
      rw [if_neg (hnot _ he), hwr]
      exact ih (w + 1) _ _ (by omega) ⟨by omega, he⟩ (by simp only [wtR, ruC, spC, scCells, ruI, ssI, sbI, spI, swI, scI, stI, srI, saI, snI, ↓reduceIte, reduceCtorEq, Nat.reduceEqDiff, Nat.reduceAdd, Nat.reduceMul, Nat.reduceSub, Nat.reduceLeDiff, Nat.reduceBEq, Int.reduceToNat, Int.reduceLE, Int.reduceLT, Int.reduceEq, Int.reduceNe, di0, di1, di2, di3, di4, di5, di6, di7, di8, di9, postX_ret, postX_normal, ex_some] <;> rfl)
    rw [if_pos (by rw [hk]; exact ⟨⟨rfl, k1⟩, k2⟩)] at he
    rw [he]
    simp only [k2, optE, optW, ruI, ssI, sbI, spI, swI, scI, stI, srI, saI, snI, ↓reduceIte, reduceCtorEq, Nat.reduceEqDiff, Nat.reduceAdd, Nat.reduceMul, Nat.reduceSub, Nat.reduceLeDiff, Nat.reduceBEq, Int.reduceToNat, Int.reduceLE, Int.reduceLT, Int.reduceEq, Int.reduceNe, di0, di1, di2, di3, di4, di5, di6, di7, di8, di9, postX_ret, postX_normal, ex_some]

theorem l_SurgeWaits {r : Ru} {p : Pl} {v : Cv} : Contract Try.prog 12 [ruI r, spI p, scI v] (.bool true) := by
  refine contract_run Try.func12 k12 rfl ?_
  simp only [body12, b12, res12, b12k6, b12k7, ruI, ssI, sbI, spI, swI, scI, stI, srI, saI, snI, ↓reduceIte, reduceCtorEq, Nat.reduceEqDiff, Nat.reduceAdd, Nat.reduceMul, Nat.reduceSub, Nat.reduceLeDiff, Nat.reduceBEq, Int.reduceToNat, Int.reduceLE, Int.reduceLT, Int.reduceEq, Int.reduceNe, di0, di1, di2, di3, di4, di5, di6, di7, di8, di9, postX_ret, postX_normal, ex_some]
  refine calls_of s_awake ?_; simp only [ruI, ssI, sbI, spI, swI, scI, stI, srI, saI, snI, res12, b12k6, b12k7, ↓reduceIte, reduceCtorEq, Nat.reduceEqDiff, Nat.reduceAdd, Nat.reduceMul, Nat.reduceSub, Nat.reduceLeDiff, Nat.reduceBEq, Int.reduceToNat, Int.reduceLE, Int.reduceLT, Int.reduceEq, Int.reduceNe, di0, di1, di2, di3, di4, di5, di6, di7, di8, di9, postX_ret, postX_normal, ex_some]
  refine calls_of r_PlanErr0 ?_; simp only [ruI, ssI, sbI, spI, swI, scI, stI, srI, saI, snI, res12, b12k6, b12k7, ↓reduceIte, reduceCtorEq, Nat.reduceEqDiff, Nat.reduceAdd, Nat.reduceMul, Nat.reduceSub, Nat.reduceLeDiff, Nat.reduceBEq, Int.reduceToNat, Int.reduceLE, Int.reduceLT, Int.reduceEq, Int.reduceNe, di0, di1, di2, di3, di4, di5, di6, di7, di8, di9, postX_ret, postX_normal, ex_some]
  by_cases hE : (planEr r p).2 = 0
  case neg =>
    simp only [hE, ruI, ssI, sbI, spI, swI, scI, stI, srI, saI, snI, ↓reduceIte, reduceCtorEq, Nat.reduceEqDiff, Nat.reduceAdd, Nat.reduceMul, Nat.reduceSub, Nat.reduceLeDiff, Nat.reduceBEq, Int.reduceToNat, Int.reduceLE, Int.reduceLT, Int.reduceEq, Int.reduceNe, di0, di1, di2, di3, di4, di5, di6, di7, di8, di9, postX_ret, postX_normal, ex_some]
    all_goals (rw [if_neg (fun k => k.1)]; trivial)
  obtain ⟨hr, hp⟩ := planEr_zero.1 hE
  have hpl := hp.len
  simp only [hE, ruI, ssI, sbI, spI, swI, scI, stI, srI, saI, snI, ↓reduceIte, reduceCtorEq, Nat.reduceEqDiff, Nat.reduceAdd, Nat.reduceMul, Nat.reduceSub, Nat.reduceLeDiff, Nat.reduceBEq, Int.reduceToNat, Int.reduceLE, Int.reduceLT, Int.reduceEq, Int.reduceNe, di0, di1, di2, di3, di4, di5, di6, di7, di8, di9, postX_ret, postX_normal, ex_some]
  have rc := r_CoverErr (v := v)
  refine calls_of rc ?_; simp only [ruI, ssI, sbI, spI, swI, scI, stI, srI, saI, snI, res12, b12k6, b12k7, ↓reduceIte, reduceCtorEq, Nat.reduceEqDiff, Nat.reduceAdd, Nat.reduceMul, Nat.reduceSub, Nat.reduceLeDiff, Nat.reduceBEq, Int.reduceToNat, Int.reduceLE, Int.reduceLT, Int.reduceEq, Int.reduceNe, di0, di1, di2, di3, di4, di5, di6, di7, di8, di9, postX_ret, postX_normal, ex_some]
  by_cases hv : coverE v = 0
  case neg =>
    simp only [hv, ruI, ssI, sbI, spI, swI, scI, stI, srI, saI, snI, ↓reduceIte, reduceCtorEq, Nat.reduceEqDiff, Nat.reduceAdd, Nat.reduceMul, Nat.reduceSub, Nat.reduceLeDiff, Nat.reduceBEq, Int.reduceToNat, Int.reduceLE, Int.reduceLT, Int.reduceEq, Int.reduceNe, di0, di1, di2, di3, di4, di5, di6, di7, di8, di9, postX_ret, postX_normal, ex_some]
    all_goals (rw [if_neg (fun k => k.1)]; trivial)
  simp only [hv, ruI, ssI, sbI, spI, swI, scI, stI, srI, saI, snI, ↓reduceIte, reduceCtorEq, Nat.reduceEqDiff, Nat.reduceAdd, Nat.reduceMul, Nat.reduceSub, Nat.reduceLeDiff, Nat.reduceBEq, Int.reduceToNat, Int.reduceLE, Int.reduceLT, Int.reduceEq, Int.reduceNe, di0, di1, di2, di3, di4, di5, di6, di7, di8, di9, postX_ret, postX_normal, ex_some]
  by_cases h1 : 2 < v.parts
  · simp only [h1, ruI, ssI, sbI, spI, swI, scI, stI, srI, saI, snI, ↓reduceIte, reduceCtorEq, Nat.reduceEqDiff, Nat.reduceAdd, Nat.reduceMul, Nat.reduceSub, Nat.reduceLeDiff, Nat.reduceBEq, Int.reduceToNat, Int.reduceLE, Int.reduceLT, Int.reduceEq, Int.reduceNe, di0, di1, di2, di3, di4, di5, di6, di7, di8, di9, postX_ret, postX_normal, ex_some]
    all_goals (rw [if_neg (fun k => k.1)]; trivial)
  simp only [h1, ruI, ssI, sbI, spI, swI, scI, stI, srI, saI, snI, ↓reduceIte, reduceCtorEq, Nat.reduceEqDiff, Nat.reduceAdd, Nat.reduceMul, Nat.reduceSub, Nat.reduceLeDiff, Nat.reduceBEq, Int.reduceToNat, Int.reduceLE, Int.reduceLT, Int.reduceEq, Int.reduceNe, di0, di1, di2, di3, di4, di5, di6, di7, di8, di9, postX_ret, postX_normal, ex_some]
  by_cases h2 : (2 : Int) < (p.ch.length : Int)
  · simp only [h2, ruI, ssI, sbI, spI, swI, scI, stI, srI, saI, snI, ↓reduceIte, reduceCtorEq, Nat.reduceEqDiff, Nat.reduceAdd, Nat.reduceMul, Nat.reduceSub, Nat.reduceLeDiff, Nat.reduceBEq, Int.reduceToNat, Int.reduceLE, Int.reduceLT, Int.reduceEq, Int.reduceNe, di0, di1, di2, di3, di4, di5, di6, di7, di8, di9, postX_ret, postX_normal, ex_some]
    all_goals (rw [if_neg (fun k => k.1)]; trivial)
  simp only [h2, ruI, ssI, sbI, spI, swI, scI, stI, srI, saI, snI, ↓reduceIte, reduceCtorEq, Nat.reduceEqDiff, Nat.reduceAdd, Nat.reduceMul, Nat.reduceSub, Nat.reduceLeDiff, Nat.reduceBEq, Int.reduceToNat, Int.reduceLE, Int.reduceLT, Int.reduceEq, Int.reduceNe, di0, di1, di2, di3, di4, di5, di6, di7, di8, di9, postX_ret, postX_normal, ex_some]
  by_cases h3 : 12 < p.ticks
  · simp only [h3, ruI, ssI, sbI, spI, swI, scI, stI, srI, saI, snI, ↓reduceIte, reduceCtorEq, Nat.reduceEqDiff, Nat.reduceAdd, Nat.reduceMul, Nat.reduceSub, Nat.reduceLeDiff, Nat.reduceBEq, Int.reduceToNat, Int.reduceLE, Int.reduceLT, Int.reduceEq, Int.reduceNe, di0, di1, di2, di3, di4, di5, di6, di7, di8, di9, postX_ret, postX_normal, ex_some]
    all_goals (rw [if_neg (fun k => k.1)]; trivial)
  simp only [h3, ruI, ssI, sbI, spI, swI, scI, stI, srI, saI, snI, ↓reduceIte, reduceCtorEq, Nat.reduceEqDiff, Nat.reduceAdd, Nat.reduceMul, Nat.reduceSub, Nat.reduceLeDiff, Nat.reduceBEq, Int.reduceToNat, Int.reduceLE, Int.reduceLT, Int.reduceEq, Int.reduceNe, di0, di1, di2, di3, di4, di5, di6, di7, di8, di9, postX_ret, postX_normal, ex_some]
  refine calls_of c_Wi ?_; simp only [ruI, ssI, sbI, spI, swI, scI, stI, srI, saI, snI, res12, b12k6, b12k7, ↓reduceIte, reduceCtorEq, Nat.reduceEqDiff, Nat.reduceAdd, Nat.reduceMul, Nat.reduceSub, Nat.reduceLeDiff, Nat.reduceBEq, Int.reduceToNat, Int.reduceLE, Int.reduceLT, Int.reduceEq, Int.reduceNe, di0, di1, di2, di3, di4, di5, di6, di7, di8, di9, postX_ret, postX_normal, ex_some]
  by_cases h4 : Wi v.lo (-90000) 90000
  case neg =>
    simp only [h4, ruI, ssI, sbI, spI, swI, scI, stI, srI, saI, snI, ↓reduceIte, reduceCtorEq, Nat.reduceEqDiff, Nat.reduceAdd, Nat.reduceMul, Nat.reduceSub, Nat.reduceLeDiff, Nat.reduceBEq, Int.reduceToNat, Int.reduceLE, Int.reduceLT, Int.reduceEq, Int.reduceNe, di0, di1, di2, di3, di4, di5, di6, di7, di8, di9, postX_ret, postX_normal, ex_some]
    all_goals (rw [if_neg (fun k => k.1)]; trivial)
  simp only [h4, ruI, ssI, sbI, spI, swI, scI, stI, srI, saI, snI, ↓reduceIte, reduceCtorEq, Nat.reduceEqDiff, Nat.reduceAdd, Nat.reduceMul, Nat.reduceSub, Nat.reduceLeDiff, Nat.reduceBEq, Int.reduceToNat, Int.reduceLE, Int.reduceLT, Int.reduceEq, Int.reduceNe, di0, di1, di2, di3, di4, di5, di6, di7, di8, di9, postX_ret, postX_normal, ex_some]
  refine calls_of c_Wi ?_; simp only [ruI, ssI, sbI, spI, swI, scI, stI, srI, saI, snI, res12, b12k6, b12k7, ↓reduceIte, reduceCtorEq, Nat.reduceEqDiff, Nat.reduceAdd, Nat.reduceMul, Nat.reduceSub, Nat.reduceLeDiff, Nat.reduceBEq, Int.reduceToNat, Int.reduceLE, Int.reduceLT, Int.reduceEq, Int.reduceNe, di0, di1, di2, di3, di4, di5, di6, di7, di8, di9, postX_ret, postX_normal, ex_some]
  by_cases h5 : Wi v.hi (-90000) 90000
  case neg =>
    simp only [h5, ruI, ssI, sbI, spI, swI, scI, stI, srI, saI, snI, ↓reduceIte, reduceCtorEq, Nat.reduceEqDiff, Nat.reduceAdd, Nat.reduceMul, Nat.reduceSub, Nat.reduceLeDiff, Nat.reduceBEq, Int.reduceToNat, Int.reduceLE, Int.reduceLT, Int.reduceEq, Int.reduceNe, di0, di1, di2, di3, di4, di5, di6, di7, di8, di9, postX_ret, postX_normal, ex_some]
    all_goals (rw [if_neg (fun k => k.1)]; trivial)
  simp only [h5, ruI, ssI, sbI, spI, swI, scI, stI, srI, saI, snI, ↓reduceIte, reduceCtorEq, Nat.reduceEqDiff, Nat.reduceAdd, Nat.reduceMul, Nat.reduceSub, Nat.reduceLeDiff, Nat.reduceBEq, Int.reduceToNat, Int.reduceLE, Int.reduceLT, Int.reduceEq, Int.reduceNe, di0, di1, di2, di3, di4, di5, di6, di7, di8, di9, postX_ret, postX_normal, ex_some]
  obtain ⟨hb, hpa, hlo, hhi, hle⟩ := coverE_zero.1 hv
  unfold Wi at h4 h5
  have hv2 : coverE (wider v) = 0 := coverE_zero.2 ⟨hb, hpa, ⟨show -100000 ≤ v.lo - 5 by omega, show v.lo - 5 ≤ 100000 by omega⟩, ⟨show -100000 ≤ v.hi + 5 by omega, show v.hi + 5 ≤ 100000 by omega⟩, show v.lo - 5 ≤ v.hi + 5 by omega⟩
  have cp := r_CopyPlan (p := p) (by omega)
  have s1 := s_ShortestWait (r := r) (p := p) (v := v) (by omega)
  have s2 := s_ShortestWait (r := r) (p := p) (v := wider v) (by omega)
  rw [if_pos (show waitE r p v = 0 by unfold waitE; rw [fstE_zero]; exact ⟨hE, hv⟩)] at s1
  rw [if_pos (show waitE r p (wider v) = 0 by unfold waitE; rw [fstE_zero]; exact ⟨hE, hv2⟩)] at s2
  have s3 := s_CoverOf (r := r) (v := v)
  rw [if_pos (show fstE (rulesErr r) (coverE v) = 0 by rw [fstE_zero]; exact ⟨rules_ok.2 hr, hv⟩)] at s3
  obtain ⟨hcl, hcb⟩ := cover_ok hv
  obtain ⟨hne, hlen⟩ := cover_ne hv
  have hl4 : (coverL v).length ≤ 4 := by
    have : v.parts.toNat ≤ 2 := by omega
    have := Nat.mul_le_mul this this
    omega
  have hl0 : 0 < (coverL v).length := List.length_pos_iff.2 hne
  have rbe := r_BoxesErr (bs := coverL v) (by omega)
  rw [boxesE_ok hne hcl hcb] at rbe
  have lp := loop_SurgeWaits hr hp hv
  simp only [wtR, ruC, spC, scCells] at lp
  have hsw : ∀ w0, shortP r p v = some w0 → (1 ≤ w0 ∧ w0 ≤ 20) ∧ ∃ m, shortP r p (wider v) = some m ∧ m ≤ w0 := fun w0 h => by
    obtain ⟨⟨a1, a2, a3⟩, m, hm, hle⟩ := shortF_wider 20 1 h
    exact ⟨⟨a1, by push_cast at a2; omega⟩, m, hm, hle⟩
  refine calls_of cp ?_; simp only [ruI, ssI, sbI, spI, swI, scI, stI, srI, saI, snI, res12, b12k6, b12k7, ↓reduceIte, reduceCtorEq, Nat.reduceEqDiff, Nat.reduceAdd, Nat.reduceMul, Nat.reduceSub, Nat.reduceLeDiff, Nat.reduceBEq, Int.reduceToNat, Int.reduceLE, Int.reduceLT, Int.reduceEq, Int.reduceNe, di0, di1, di2, di3, di4, di5, di6, di7, di8, di9, postX_ret, postX_normal, ex_some]
  refine calls_of s1 ?_; simp only [ruI, ssI, sbI, spI, swI, scI, stI, srI, saI, snI, res12, b12k6, b12k7, ↓reduceIte, reduceCtorEq, Nat.reduceEqDiff, Nat.reduceAdd, Nat.reduceMul, Nat.reduceSub, Nat.reduceLeDiff, Nat.reduceBEq, Int.reduceToNat, Int.reduceLE, Int.reduceLT, Int.reduceEq, Int.reduceNe, di0, di1, di2, di3, di4, di5, di6, di7, di8, di9, postX_ret, postX_normal, ex_some]
  refine calls_of cp ?_; simp only [ruI, ssI, sbI, spI, swI, scI, stI, srI, saI, snI, res12, b12k6, b12k7, ↓reduceIte, reduceCtorEq, Nat.reduceEqDiff, Nat.reduceAdd, Nat.reduceMul, Nat.reduceSub, Nat.reduceLeDiff, Nat.reduceBEq, Int.reduceToNat, Int.reduceLE, Int.reduceLT, Int.reduceEq, Int.reduceNe, di0, di1, di2, di3, di4, di5, di6, di7, di8, di9, postX_ret, postX_normal, ex_some]
  simp only [wider] at s2 hsw
  simp only [show IntKind.wrap .i64 (v.lo - 5) = v.lo - 5 from wrap64 (by omega) (by omega)]
  simp only [show IntKind.wrap .i64 (v.hi + 5) = v.hi + 5 from wrap64 (by omega) (by omega)]
  refine calls_of s2 ?_; simp only [ruI, ssI, sbI, spI, swI, scI, stI, srI, saI, snI, res12, b12k6, b12k7, ↓reduceIte, reduceCtorEq, Nat.reduceEqDiff, Nat.reduceAdd, Nat.reduceMul, Nat.reduceSub, Nat.reduceLeDiff, Nat.reduceBEq, Int.reduceToNat, Int.reduceLE, Int.reduceLT, Int.reduceEq, Int.reduceNe, di0, di1, di2, di3, di4, di5, di6, di7, di8, di9, postX_ret, postX_normal, ex_some]
  refine calls_of s3 ?_; simp only [ruI, ssI, sbI, spI, swI, scI, stI, srI, saI, snI, res12, b12k6, b12k7, ↓reduceIte, reduceCtorEq, Nat.reduceEqDiff, Nat.reduceAdd, Nat.reduceMul, Nat.reduceSub, Nat.reduceLeDiff, Nat.reduceBEq, Int.reduceToNat, Int.reduceLE, Int.reduceLT, Int.reduceEq, Int.reduceNe, di0, di1, di2, di3, di4, di5, di6, di7, di8, di9, postX_ret, postX_normal, ex_some]
  rw [if_pos ⟨by omega, by omega⟩]
  refine calls_of rbe ?_; simp only [ruI, ssI, sbI, spI, swI, scI, stI, srI, saI, snI, res12, b12k6, b12k7, ↓reduceIte, reduceCtorEq, Nat.reduceEqDiff, Nat.reduceAdd, Nat.reduceMul, Nat.reduceSub, Nat.reduceLeDiff, Nat.reduceBEq, Int.reduceToNat, Int.reduceLE, Int.reduceLT, Int.reduceEq, Int.reduceNe, di0, di1, di2, di3, di4, di5, di6, di7, di8, di9, postX_ret, postX_normal, ex_some]
  cases hs : shortP r p v with
  | none =>
    rw [hs] at lp
    cases hs2 : shortP r p ⟨v.b, v.parts, v.lo - 5, v.hi + 5⟩ with
    | none =>
      simp only [optE, optW, ruI, ssI, sbI, spI, swI, scI, stI, srI, saI, snI, ↓reduceIte, reduceCtorEq, Nat.reduceEqDiff, Nat.reduceAdd, Nat.reduceMul, Nat.reduceSub, Nat.reduceLeDiff, Nat.reduceBEq, Int.reduceToNat, Int.reduceLE, Int.reduceLT, Int.reduceEq, Int.reduceNe, di0, di1, di2, di3, di4, di5, di6, di7, di8, di9, postX_ret, postX_normal, ex_some] at lp ⊢
      exact lp
    | some m =>
      simp only [optE, optW, ruI, ssI, sbI, spI, swI, scI, stI, srI, saI, snI, ↓reduceIte, reduceCtorEq, Nat.reduceEqDiff, Nat.reduceAdd, Nat.reduceMul, Nat.reduceSub, Nat.reduceLeDiff, Nat.reduceBEq, Int.reduceToNat, Int.reduceLE, Int.reduceLT, Int.reduceEq, Int.reduceNe, di0, di1, di2, di3, di4, di5, di6, di7, di8, di9, postX_ret, postX_normal, ex_some] at lp ⊢
      exact lp
  | some w0 =>
    obtain ⟨hw0, m, hm, hle2⟩ := hsw w0 hs
    rw [hs] at lp
    rw [hm]
    simp only [optE, optW, ruI, ssI, sbI, spI, swI, scI, stI, srI, saI, snI, ↓reduceIte, reduceCtorEq, Nat.reduceEqDiff, Nat.reduceAdd, Nat.reduceMul, Nat.reduceSub, Nat.reduceLeDiff, Nat.reduceBEq, Int.reduceToNat, Int.reduceLE, Int.reduceLT, Int.reduceEq, Int.reduceNe, di0, di1, di2, di3, di4, di5, di6, di7, di8, di9, postX_ret, postX_normal, ex_some] at lp ⊢
    rw [if_neg (show ¬ w0 < m by omega)]
    refine calls_of c_Wi ?_; simp only [ruI, ssI, sbI, spI, swI, scI, stI, srI, saI, snI, res12, b12k6, b12k7, ↓reduceIte, reduceCtorEq, Nat.reduceEqDiff, Nat.reduceAdd, Nat.reduceMul, Nat.reduceSub, Nat.reduceLeDiff, Nat.reduceBEq, Int.reduceToNat, Int.reduceLE, Int.reduceLT, Int.reduceEq, Int.reduceNe, di0, di1, di2, di3, di4, di5, di6, di7, di8, di9, postX_ret, postX_normal, ex_some]
    rw [if_pos (show Wi w0 1 20 from hw0)]
    exact lp
end Go.DI


/- Contracts of the worst witness, of bounds, and of the examples. No condition. -/
import Derived.Test.YtdpfjbghiahbeaaKuGg
/- Contracts: all orders. No condition. -/
set_option linter.unusedSimpArgs false
namespace Go.DI
open Go.Proofs Go.RowKit Sg

theorem length_flat {α β : Type} {g : α → List β} {m : Nat} : ∀ {l : List α}, (∀ x ∈ l, (g x).length ≤ m) → (l.flatMap g).length ≤ l.length * m
  | [], _ => by simp
  | x :: l, h => by
    have := length_flat (l := l) fun y hy => h y (List.mem_cons_of_mem _ hy)
    have h1 := h x (List.mem_cons_self ..)
    rw [List.flatMap_cons, List.length_append, List.length_cons, Nat.succ_mul]
    omega

theorem oneF_mem {p : Pl} {o o' : List Int} {i : Nat} {L : List (List Int)} (h : o' ∈ oneF p o i L) : (i : Int) ∉ o ∧ permL p.ch p.load (o ++ [(i : Int)]) = true ∧ o' ∈ L := by
  unfold oneF at h
  split at h
  · cases h
  · rename_i h1
    split at h
    · rename_i h2; exact ⟨h1, h2, h⟩
    · cases h
theorem oneF_length {p : Pl} {o : List Int} {i : Nat} {L : List (List Int)} : (oneF p o i L).length ≤ L.length := by
  unfold oneF
  split
  · simp
  · split <;> simp

theorem ordF_length {p : Pl} : ∀ (f : Nat) (o : List Int), (ordF p f o).length ≤ p.ch.length ^ f
  | 0, _ => by simp [ordF]
  | f + 1, o => by
    unfold ordF
    have := length_flat (l := List.range p.ch.length) (m := p.ch.length ^ f) (g := fun (i : Nat) => oneF p o i (ordF p f (o ++ [(i : Int)]))) fun i _ => Nat.le_trans oneF_length (ordF_length f _)
    rw [List.length_range] at this
    rw [Nat.pow_succ, Nat.mul_comm]
    exact this

theorem ordF_mem {p : Pl} : ∀ (f : Nat) (o o' : List Int), o.length + f = p.ch.length → (∀ i ∈ o, 0 ≤ i ∧ i < (p.ch.length : Int)) → o' ∈ ordF p f o → o'.length = p.ch.length ∧ ∀ i ∈ o', 0 ≤ i ∧ i < (p.ch.length : Int)
  | 0, o, o', hl, ho, h => by
    simp only [ordF, List.mem_singleton] at h
    subst h
    exact ⟨by omega, ho⟩
  | f + 1, o, o', hl, ho, h => by
    unfold ordF at h
    rw [List.mem_flatMap] at h
    obtain ⟨i, hi, h⟩ := h
    rw [List.mem_range] at hi
    refine ordF_mem f (o ++ [(i : Int)]) o' (by simp; omega) ?_ (oneF_mem h).2.2
    intro j hj
    rcases List.mem_append.1 hj with hj | hj
    · exact ho j hj
    · rw [List.mem_singleton] at hj
      omega

theorem orders_length {p : Pl} (hp : PlanOk p) : (ordersP p).length ≤ 256 := by
  have h1 := ordF_length (p := p) p.ch.length []
  have h2 : p.ch.length ^ p.ch.length ≤ 4 ^ 4 := Nat.le_trans (Nat.pow_le_pow_left hp.len _) (Nat.pow_le_pow_right (by omega) hp.len)
  unfold ordersP
  omega
theorem orders_mem {p : Pl} {o : List Int} (h : o ∈ ordersP p) : o.length = p.ch.length ∧ ∀ i ∈ o, 0 ≤ i ∧ i < (p.ch.length : Int) := ordF_mem _ _ _ (by simp) (by simp) h

theorem orders_idx {p : Pl} {o : List Int} (hp : PlanOk p) (h : o ∈ ordersP p) : Idx p o := ⟨by have := (orders_mem h).1; have := hp.len; omega, (orders_mem h).2⟩

/-- What a permitted order's beginnings are. -/
theorem ordF_perm {p : Pl} : ∀ (f : Nat) (o o' : List Int), permL p.ch p.load o = true → o' ∈ ordF p f o → permL p.ch p.load o' = true
  | 0, o, o', ho, h => by
    simp only [ordF, List.mem_singleton] at h
    subst h
    exact ho
  | f + 1, o, o', _, h => by
    unfold ordF at h
    rw [List.mem_flatMap] at h
    obtain ⟨i, _, h⟩ := h
    exact ordF_perm f (o ++ [(i : Int)]) o' (oneF_mem h).2.1 (oneF_mem h).2.2
theorem orders_perm {p : Pl} {o : List Int} (h : o ∈ ordersP p) : permL p.ch p.load o = true := ordF_perm _ _ _ rfl h

/-- The worst witness so far. -/
def wStp (r : Ru) (p : Pl) (o : List Int) (s : Sta) (w : Option Wt) (k : Int) : Option Wt :=
  match w with
  | none => some ⟨o, s, k, highL r s (loadsP p o) k⟩
  | some v => if v.lev < highL r s (loadsP p o) k then some ⟨o, s, k, highL r s (loadsP p o) k⟩ else some v
def wSta (r : Ru) (p : Pl) (o : List Int) (w : Option Wt) (s : Sta) : Option Wt := [r.lo, r.hi].foldl (wStp r p o s) w
def wOrd (r : Ru) (p : Pl) (ss : List Sta) (w : Option Wt) (o : List Int) : Option Wt := ss.foldl (wSta r p o) w
def worstP (r : Ru) (p : Pl) (ss : List Sta) : Option Wt := (ordersP p).foldl (wOrd r p ss) none
def wD : Option Wt → DV
  | none => .imm .nilp
  | some w => .pim (swI w)

theorem s_WorstBad {s : Sta} : Contract Try.prog 101 [ssI s] (.bool (!decide (stateErr s = 0))) := by
  refine contract_run Try.func101 k101 rfl ?_
  simp only [body101, b101, res101, ruI, ssI, sbI, spI, swI, scI, stI, srI, saI, snI, ↓reduceIte, reduceCtorEq, Nat.reduceEqDiff, Nat.reduceAdd, Nat.reduceMul, Nat.reduceSub, Nat.reduceLeDiff, Nat.reduceBEq, Int.reduceToNat, Int.reduceLE, Int.reduceLT, Int.reduceEq, Int.reduceNe, di0, di1, di2, di3, di4, di5, di6, di7, di8, di9, postX_ret, postX_normal, ex_some]
  refine calls_of s_stateErr ?_; simp only [ruI, ssI, sbI, spI, swI, scI, stI, srI, saI, snI, res101, ↓reduceIte, reduceCtorEq, Nat.reduceEqDiff, Nat.reduceAdd, Nat.reduceMul, Nat.reduceSub, Nat.reduceLeDiff, Nat.reduceBEq, Int.reduceToNat, Int.reduceLE, Int.reduceLT, Int.reduceEq, Int.reduceNe, di0, di1, di2, di3, di4, di5, di6, di7, di8, di9, postX_ret, postX_normal, ex_some]

def worstE (r : Ru) (p : Pl) (n : Nat) : Int := fstE (planEr r p).2 (fstE (if 0 < n then 0 else 10) (if n ≤ 40 then 0 else 8))
def worstR (r : Ru) (p : Pl) (ss : List Sta) : Wt × Int :=
  if worstE r p ss.length ≠ 0 then (⟨[], ⟨0, 0⟩, 0, 0⟩, worstE r p ss.length)
  else if (ss.any fun s => !decide (stateErr s = 0)) = true then (⟨[], ⟨0, 0⟩, 0, 0⟩, 2)
  else match worstP r p ss with
    | none => (⟨[], ⟨0, 0⟩, 0, 0⟩, 12)
    | some w => (w, 0)

theorem keep_wD {ids : List Nat} {y : Option Wt} : DV.keep ids (wD y) = wD y := by cases y <;> rfl
def wG (r : Ru) (p : Pl) (ss : List Sta) (y : Option Wt) : List (Nat × Res) :=
  [(3, .box [.imm (.int .i64 r.I), .imm (.int .i64 r.A), .imm (.int .i64 r.lo), .imm (.int .i64 r.hi), .imm (.int .i64 r.T)]), (5, .box [.imm (.slc 2 (ss.map ssI))]), (6, .box [.imm (.slc 1 []), .imm (.int .i64 0), .imm (.int .i64 0), .imm (.int .i64 0), .imm (.int .i64 0)]),
    (8, .box [.imm (.int .i64 r.I), .imm (.int .i64 r.A), .imm (.int .i64 r.lo), .imm (.int .i64 r.hi), .imm (.int .i64 r.T), .imm (.int .i64 p.load), .imm (snI p.ch), .imm (.int .i64 p.wait), .imm (.int .i64 p.ticks)]), (10, .box [wD y])]

theorem s_WorstOf0 {r : Ru} {p : Pl} {ss : List Sta} (hl : p.ch.length ≤ 1000000000) (hn : ss.length ≤ 1000000000) (w : Wt) (e : Int) (hx : worstR r p ss = (w, e)) : Contract Try.prog 30 [ruI r, spI p, .slc 2 (ss.map ssI)] (.tup [swI w, .int .i64 e]) := by
  have hbad := s_ContainsSta (g := 101) (caps := []) (p := fun s => !decide (stateErr s = 0)) (l := ss) hn fun s _ => s_WorstBad
  refine contract_run Try.func30 k30 rfl ?_
  simp only [body30, b30, res30, b30k0, b30k1, b30k2, b30k3, b30k4, b30k5, b30k6, b30k7, ruI, ssI, sbI, spI, swI, scI, stI, srI, saI, snI, ↓reduceIte, reduceCtorEq, Nat.reduceEqDiff, Nat.reduceAdd, Nat.reduceMul, Nat.reduceSub, Nat.reduceLeDiff, Nat.reduceBEq, Int.reduceToNat, Int.reduceLE, Int.reduceLT, Int.reduceEq, Int.reduceNe, di0, di1, di2, di3, di4, di5, di6, di7, di8, di9, postX_ret, postX_normal, ex_some]
  refine calls_of (s_open hl) ?_; simp only [ruI, ssI, sbI, spI, swI, scI, stI, srI, saI, snI, res30, b30k0, b30k1, b30k2, b30k3, b30k4, b30k5, b30k6, b30k7, ↓reduceIte, reduceCtorEq, Nat.reduceEqDiff, Nat.reduceAdd, Nat.reduceMul, Nat.reduceSub, Nat.reduceLeDiff, Nat.reduceBEq, Int.reduceToNat, Int.reduceLE, Int.reduceLT, Int.reduceEq, Int.reduceNe, di0, di1, di2, di3, di4, di5, di6, di7, di8, di9, postX_ret, postX_normal, ex_some]
  refine calls_of s_unless ?_; simp only [ruI, ssI, sbI, spI, swI, scI, stI, srI, saI, snI, res30, b30k0, b30k1, b30k2, b30k3, b30k4, b30k5, b30k6, b30k7, ↓reduceIte, reduceCtorEq, Nat.reduceEqDiff, Nat.reduceAdd, Nat.reduceMul, Nat.reduceSub, Nat.reduceLeDiff, Nat.reduceBEq, Int.reduceToNat, Int.reduceLE, Int.reduceLT, Int.reduceEq, Int.reduceNe, di0, di1, di2, di3, di4, di5, di6, di7, di8, di9, postX_ret, postX_normal, ex_some]
  refine calls_of s_unless ?_; simp only [ruI, ssI, sbI, spI, swI, scI, stI, srI, saI, snI, res30, b30k0, b30k1, b30k2, b30k3, b30k4, b30k5, b30k6, b30k7, ↓reduceIte, reduceCtorEq, Nat.reduceEqDiff, Nat.reduceAdd, Nat.reduceMul, Nat.reduceSub, Nat.reduceLeDiff, Nat.reduceBEq, Int.reduceToNat, Int.reduceLE, Int.reduceLT, Int.reduceEq, Int.reduceNe, di0, di1, di2, di3, di4, di5, di6, di7, di8, di9, postX_ret, postX_normal, ex_some]
  refine calls_of (s_first (l := [(planEr r p).2, if (0 : Int) < (ss.length : Int) then 0 else 10, if (ss.length : Int) ≤ 40 then 0 else 8]) (by simp)) ?_; simp only [ruI, ssI, sbI, spI, swI, scI, stI, srI, saI, snI, res30, b30k0, b30k1, b30k2, b30k3, b30k4, b30k5, b30k6, b30k7, ↓reduceIte, reduceCtorEq, Nat.reduceEqDiff, Nat.reduceAdd, Nat.reduceMul, Nat.reduceSub, Nat.reduceLeDiff, Nat.reduceBEq, Int.reduceToNat, Int.reduceLE, Int.reduceLT, Int.reduceEq, Int.reduceNe, di0, di1, di2, di3, di4, di5, di6, di7, di8, di9, postX_ret, postX_normal, ex_some]
  rw [firstNZ_three]
  have he : fstE (planEr r p).2 (fstE (if (0 : Int) < (ss.length : Int) then 0 else 10) (if (ss.length : Int) ≤ 40 then 0 else 8)) = worstE r p ss.length := by
    unfold worstE
    rw [show (if (0 : Int) < (ss.length : Int) then (0 : Int) else 10) = if 0 < ss.length then 0 else 10 by split <;> split <;> omega, show (if (ss.length : Int) ≤ 40 then (0 : Int) else 8) = if ss.length ≤ 40 then 0 else 8 by split <;> split <;> omega]
  rw [he]
  unfold worstR at hx
  by_cases hE : worstE r p ss.length = 0
  case neg =>
    rw [if_pos hE] at hx
    cases hx
    simp only [hE, ruI, ssI, sbI, spI, swI, scI, stI, srI, saI, snI, ↓reduceIte, reduceCtorEq, Nat.reduceEqDiff, Nat.reduceAdd, Nat.reduceMul, Nat.reduceSub, Nat.reduceLeDiff, Nat.reduceBEq, Int.reduceToNat, Int.reduceLE, Int.reduceLT, Int.reduceEq, Int.reduceNe, di0, di1, di2, di3, di4, di5, di6, di7, di8, di9, postX_ret, postX_normal, ex_some]
  rw [if_neg (show ¬ worstE r p ss.length ≠ 0 from fun h => h hE)] at hx
  simp only [hE, ruI, ssI, sbI, spI, swI, scI, stI, srI, saI, snI, ↓reduceIte, reduceCtorEq, Nat.reduceEqDiff, Nat.reduceAdd, Nat.reduceMul, Nat.reduceSub, Nat.reduceLeDiff, Nat.reduceBEq, Int.reduceToNat, Int.reduceLE, Int.reduceLT, Int.reduceEq, Int.reduceNe, di0, di1, di2, di3, di4, di5, di6, di7, di8, di9, postX_ret, postX_normal, ex_some]
  refine calls_of hbad ?_
  simp only [res30, b30k0, b30k1, b30k2, b30k3, b30k4, b30k5, b30k6, b30k7, ruI, ssI, sbI, spI, swI, scI, stI, srI, saI, snI, ↓reduceIte, reduceCtorEq, Nat.reduceEqDiff, Nat.reduceAdd, Nat.reduceMul, Nat.reduceSub, Nat.reduceLeDiff, Nat.reduceBEq, Int.reduceToNat, Int.reduceLE, Int.reduceLT, Int.reduceEq, Int.reduceNe, di0, di1, di2, di3, di4, di5, di6, di7, di8, di9, postX_ret, postX_normal, ex_some]
  cases hB : (ss.any fun s => !decide (stateErr s = 0))
  case true =>
    rw [hB, if_pos rfl] at hx
    cases hx
    simp only [ruI, ssI, sbI, spI, swI, scI, stI, srI, saI, snI, ↓reduceIte, reduceCtorEq, Nat.reduceEqDiff, Nat.reduceAdd, Nat.reduceMul, Nat.reduceSub, Nat.reduceLeDiff, Nat.reduceBEq, Int.reduceToNat, Int.reduceLE, Int.reduceLT, Int.reduceEq, Int.reduceNe, di0, di1, di2, di3, di4, di5, di6, di7, di8, di9, postX_ret, postX_normal, ex_some]
  rw [hB, if_neg (by decide)] at hx
  simp only [ruI, ssI, sbI, spI, swI, scI, stI, srI, saI, snI, ↓reduceIte, reduceCtorEq, Nat.reduceEqDiff, Nat.reduceAdd, Nat.reduceMul, Nat.reduceSub, Nat.reduceLeDiff, Nat.reduceBEq, Int.reduceToNat, Int.reduceLE, Int.reduceLT, Int.reduceEq, Int.reduceNe, di0, di1, di2, di3, di4, di5, di6, di7, di8, di9, postX_ret, postX_normal, ex_some]
  have hE2 := hE
  unfold worstE at hE2
  rw [fstE_zero, fstE_zero, planEr_zero] at hE2
  obtain ⟨⟨hr, hp⟩, h0, h40⟩ := hE2
  have hss : ∀ s ∈ ss, stateErr s = 0 := by
    intro s hs
    have := List.any_eq_false.1 hB s hs
    simpa using this
  refine range_plain (gf := 102) (first := [saI (r, p)]) (caps := []) ((ordersP p).map fun x => [snI x]) false rfl rfl (it_orders hp) (by simp) rfl (fun n (y : Option Wt) => y = ((ordersP p).take n).foldl (wOrd r p ss) none)
    (wG r p ss) none rfl (by rw [keepRes_look]; simp only [wG, keep_wD, ruI, ssI, sbI, spI, swI, scI, stI, srI, saI, snI, ↓reduceIte, reduceCtorEq, Nat.reduceEqDiff, Nat.reduceAdd, Nat.reduceMul, Nat.reduceSub, Nat.reduceLeDiff, Nat.reduceBEq, Int.reduceToNat, Int.reduceLE, Int.reduceLT, Int.reduceEq, Int.reduceNe, di0, di1, di2, di3, di4, di5, di6, di7, di8, di9, postX_ret, postX_normal, ex_some] <;> rfl) ?_ ?_
  · rintro n x y hq rfl
    simp only [List.getElem?_map, Option.map_eq_some_iff] at hq
    obtain ⟨o, ho, rfl⟩ := hq
    have hmem := List.mem_of_getElem? ho
    have hoi := orders_idx hp hmem
    have hlo := loads_ok hp (orders_perm hmem)
    have hne : loadsP p o ≠ [] := by
      intro h
      have h1 := loadsF_length (p := p) (o := o) p.ticks.toNat 0 p.load
      have h2 := hp.ticks
      unfold loadsP at h
      rw [h] at h1
      simp at h1
      omega
    simp only [List.take_add_one, ho, Option.toList_some, List.foldl_append, List.foldl_cons, List.foldl_nil]
    generalize List.foldl (wOrd r p ss) none (List.take n (ordersP p)) = y
    simp only [b30l0, b30l1, b30a2, b30r2, wG, keep_wD, ruI, ssI, sbI, spI, swI, scI, stI, srI, saI, snI, ↓reduceIte, reduceCtorEq, Nat.reduceEqDiff, Nat.reduceAdd, Nat.reduceMul, Nat.reduceSub, Nat.reduceLeDiff, Nat.reduceBEq, Int.reduceToNat, Int.reduceLE, Int.reduceLT, Int.reduceEq, Int.reduceNe, di0, di1, di2, di3, di4, di5, di6, di7, di8, di9, postX_ret, postX_normal, ex_some]
    refine calls_of (s_loads (r := r) hp hoi) ?_
    simp only [b30l0, b30l1, b30a2, b30r2, ruI, ssI, sbI, spI, swI, scI, stI, srI, saI, snI, ↓reduceIte, reduceCtorEq, Nat.reduceEqDiff, Nat.reduceAdd, Nat.reduceMul, Nat.reduceSub, Nat.reduceLeDiff, Nat.reduceBEq, Int.reduceToNat, Int.reduceLE, Int.reduceLT, Int.reduceEq, Int.reduceNe, di0, di1, di2, di3, di4, di5, di6, di7, di8, di9, postX_ret, postX_normal, ex_some]
    refine loop_keep (α := Nat × Option Wt) rfl (fun q => ss.length - q.1) (fun q => q.1 ≤ ss.length ∧ (ss.drop q.1).foldl (wSta r p o) q.2 = wOrd r p ss y o)
      (fun q => [(3, .ref 3 0), (8, .ref 8 0), (10, .ref 10 0), (11, .imm (snI o)), (12, .imm (snI (loadsP p o))), (48, .imm (.slc 2 (ss.map ssI))), (49, .imm (.int .i64 ss.length)), (50, .imm (.int .i64 q.1))])
      (fun q => wG r p ss q.2) (0, y) ⟨Nat.zero_le _, rfl⟩ (by simp only [wG, keep_wD, ruI, ssI, sbI, spI, swI, scI, stI, srI, saI, snI, ↓reduceIte, reduceCtorEq, Nat.reduceEqDiff, Nat.reduceAdd, Nat.reduceMul, Nat.reduceSub, Nat.reduceLeDiff, Nat.reduceBEq, Int.reduceToNat, Int.reduceLE, Int.reduceLT, Int.reduceEq, Int.reduceNe, di0, di1, di2, di3, di4, di5, di6, di7, di8, di9, postX_ret, postX_normal, ex_some] <;> rfl) ?_
    rintro ⟨i, y1⟩ ⟨hi, he1⟩ ih
    dsimp only at hi he1 ⊢
    simp only [b30l0, b30l1, b30a2, b30r2, res30, b30k0, b30k1, b30k2, b30k3, b30k4, b30k5, b30k6, b30k7, wG, keep_wD, ruI, ssI, sbI, spI, swI, scI, stI, srI, saI, snI, ↓reduceIte, reduceCtorEq, Nat.reduceEqDiff, Nat.reduceAdd, Nat.reduceMul, Nat.reduceSub, Nat.reduceLeDiff, Nat.reduceBEq, Int.reduceToNat, Int.reduceLE, Int.reduceLT, Int.reduceEq, Int.reduceNe, di0, di1, di2, di3, di4, di5, di6, di7, di8, di9, postX_ret, postX_normal, ex_some]
    split
    case isFalse h =>
      have : i = ss.length := by omega
      subst this
      rw [List.drop_length] at he1
      simp only [List.foldl_nil] at he1
      subst he1
      exact ⟨_, rfl, rfl⟩
    rename_i h
    have hlt : i < ss.length := by omega
    rw [List.drop_eq_getElem_cons hlt, List.foldl_cons] at he1
    repeat (refine And.intro (by omega) ?_)
    have hd : ss[i] = ss.getD i default := by rw [List.getD_eq_getElem?_getD]; simp [hlt]
    have hm : ss.getD i default ∈ ss := by rw [← hd]; exact List.getElem_mem hlt
    rw [hd] at he1
    have hs := hss _ hm
    rw [stateErr_zero] at hs
    generalize ss.getD i default = s at he1 hm hs
    refine loop_keep (α := Nat × Option Wt) rfl (fun q => 2 - q.1) (fun q => q.1 ≤ 2 ∧ ([r.lo, r.hi].drop q.1).foldl (wStp r p o s) q.2 = wSta r p o y1 s)
      (fun q => [(3, .ref 3 0), (8, .ref 8 0), (10, .ref 10 0), (11, .imm (snI o)), (12, .imm (snI (loadsP p o))), (14, .ref 14 0), (48, .imm (.slc 2 (ss.map ssI))), (49, .imm (.int .i64 ss.length)), (50, .imm (.int .i64 i)), (60, .imm (.agg [.int .i64 r.lo, .int .i64 r.hi])), (61, .imm (.int .i64 q.1))])
      (fun q => wG r p ss q.2 ++ [(14, .box [.imm (.int .i64 s.L), .imm (.int .i64 s.F)])]) (0, y1) ⟨by omega, rfl⟩ (by simp only [wG, List.cons_append, List.nil_append, keep_wD, ruI, ssI, sbI, spI, swI, scI, stI, srI, saI, snI, ↓reduceIte, reduceCtorEq, Nat.reduceEqDiff, Nat.reduceAdd, Nat.reduceMul, Nat.reduceSub, Nat.reduceLeDiff, Nat.reduceBEq, Int.reduceToNat, Int.reduceLE, Int.reduceLT, Int.reduceEq, Int.reduceNe, di0, di1, di2, di3, di4, di5, di6, di7, di8, di9, postX_ret, postX_normal, ex_some] <;> rfl) ?_
    rintro ⟨j, y2⟩ ⟨hj, he2⟩ ih2
    dsimp only at hj he2 ⊢
    simp only [b30l0, b30l1, b30a2, b30r2, res30, b30k0, b30k1, b30k2, b30k3, b30k4, b30k5, b30k6, b30k7, wG, List.cons_append, List.nil_append, keep_wD, ruI, ssI, sbI, spI, swI, scI, stI, srI, saI, snI, ↓reduceIte, reduceCtorEq, Nat.reduceEqDiff, Nat.reduceAdd, Nat.reduceMul, Nat.reduceSub, Nat.reduceLeDiff, Nat.reduceBEq, Int.reduceToNat, Int.reduceLE, Int.reduceLT, Int.reduceEq, Int.reduceNe, di0, di1, di2, di3, di4, di5, di6, di7, di8, di9, postX_ret, postX_normal, ex_some]
    split
    case isFalse h2 =>
      have : j = 2 := by omega
      subst this
      simp only [List.drop_succ_cons, List.drop_zero, List.foldl_nil] at he2
      rw [wrap64 (by omega) (by omega)]
      refine ih (i + 1, y2) _ _ (by dsimp only; omega) ⟨by dsimp only; omega, ?_⟩ (by simp only [wG, keep_wD, ruI, ssI, sbI, spI, swI, scI, stI, srI, saI, snI, ↓reduceIte, reduceCtorEq, Nat.reduceEqDiff, Nat.reduceAdd, Nat.reduceMul, Nat.reduceSub, Nat.reduceLeDiff, Nat.reduceBEq, Int.reduceToNat, Int.reduceLE, Int.reduceLT, Int.reduceEq, Int.reduceNe, di0, di1, di2, di3, di4, di5, di6, di7, di8, di9, postX_ret, postX_normal, ex_some] <;> rfl)
      rw [← he1, ← he2]
    rename_i h2
    have k1 := hr.lo; have k2 := hr.le; have k3 := hr.hi
    have h01 : j = 0 ∨ j = 1 := by omega
    rcases h01 with rfl | rfl
    · simp only [List.drop_succ_cons, List.drop_zero, List.foldl_cons] at he2
      repeat (refine And.intro (by omega) ?_)
      simp only [b30l0, b30l1, b30a2, b30r2, res30, b30k0, b30k1, b30k2, b30k3, b30k4, b30k5, b30k6, b30k7, ruI, ssI, sbI, spI, swI, scI, stI, srI, saI, snI, ↓reduceIte, reduceCtorEq, Nat.reduceEqDiff, Nat.reduceAdd, Nat.reduceMul, Nat.reduceSub, Nat.reduceLeDiff, Nat.reduceBEq, Int.reduceToNat, Int.reduceLE, Int.reduceLT, Int.reduceEq, Int.reduceNe, di0, di1, di2, di3, di4, di5, di6, di7, di8, di9, postX_ret, postX_normal, ex_some]
      refine calls_of (s_highest (s := s) (k := r.lo) hr (by omega) hlo (by omega) hne) ?_
      simp only [b30l0, b30l1, b30a2, b30r2, res30, b30k0, b30k1, b30k2, b30k3, b30k4, b30k5, b30k6, b30k7, ruI, ssI, sbI, spI, swI, scI, stI, srI, saI, snI, ↓reduceIte, reduceCtorEq, Nat.reduceEqDiff, Nat.reduceAdd, Nat.reduceMul, Nat.reduceSub, Nat.reduceLeDiff, Nat.reduceBEq, Int.reduceToNat, Int.reduceLE, Int.reduceLT, Int.reduceEq, Int.reduceNe, di0, di1, di2, di3, di4, di5, di6, di7, di8, di9, postX_ret, postX_normal, ex_some]
      cases y2 with
      | none =>
        simp only [wD, ruI, ssI, sbI, spI, swI, scI, stI, srI, saI, snI, ↓reduceIte, reduceCtorEq, Nat.reduceEqDiff, Nat.reduceAdd, Nat.reduceMul, Nat.reduceSub, Nat.reduceLeDiff, Nat.reduceBEq, Int.reduceToNat, Int.reduceLE, Int.reduceLT, Int.reduceEq, Int.reduceNe, di0, di1, di2, di3, di4, di5, di6, di7, di8, di9, postX_ret, postX_normal, ex_some]
        refine calls_of (s_Clone (l := o) hoi.1) ?_
        simp only [b30l0, b30l1, b30a2, b30r2, res30, b30k0, b30k1, b30k2, b30k3, b30k4, b30k5, b30k6, b30k7, ruI, ssI, sbI, spI, swI, scI, stI, srI, saI, snI, ↓reduceIte, reduceCtorEq, Nat.reduceEqDiff, Nat.reduceAdd, Nat.reduceMul, Nat.reduceSub, Nat.reduceLeDiff, Nat.reduceBEq, Int.reduceToNat, Int.reduceLE, Int.reduceLT, Int.reduceEq, Int.reduceNe, di0, di1, di2, di3, di4, di5, di6, di7, di8, di9, postX_ret, postX_normal, ex_some]
        refine ih2 (0 + 1, some ⟨o, s, r.lo, highL r s (loadsP p o) r.lo⟩) _ _ (by dsimp only; omega) ⟨by dsimp only; omega, by rw [← he2]; rfl⟩ (by simp only [wG, List.cons_append, List.nil_append, wD, keep_wD, ruI, ssI, sbI, spI, swI, scI, stI, srI, saI, snI, ↓reduceIte, reduceCtorEq, Nat.reduceEqDiff, Nat.reduceAdd, Nat.reduceMul, Nat.reduceSub, Nat.reduceLeDiff, Nat.reduceBEq, Int.reduceToNat, Int.reduceLE, Int.reduceLT, Int.reduceEq, Int.reduceNe, di0, di1, di2, di3, di4, di5, di6, di7, di8, di9, postX_ret, postX_normal, ex_some] <;> rfl)
      | some v =>
        simp only [wD, b30l0, b30l1, b30a2, b30r2, res30, b30k0, b30k1, b30k2, b30k3, b30k4, b30k5, b30k6, b30k7, ruI, ssI, sbI, spI, swI, scI, stI, srI, saI, snI, ↓reduceIte, reduceCtorEq, Nat.reduceEqDiff, Nat.reduceAdd, Nat.reduceMul, Nat.reduceSub, Nat.reduceLeDiff, Nat.reduceBEq, Int.reduceToNat, Int.reduceLE, Int.reduceLT, Int.reduceEq, Int.reduceNe, di0, di1, di2, di3, di4, di5, di6, di7, di8, di9, postX_ret, postX_normal, ex_some]
        split
        · rename_i h3
          refine calls_of (s_Clone (l := o) hoi.1) ?_
          simp only [b30l0, b30l1, b30a2, b30r2, res30, b30k0, b30k1, b30k2, b30k3, b30k4, b30k5, b30k6, b30k7, ruI, ssI, sbI, spI, swI, scI, stI, srI, saI, snI, ↓reduceIte, reduceCtorEq, Nat.reduceEqDiff, Nat.reduceAdd, Nat.reduceMul, Nat.reduceSub, Nat.reduceLeDiff, Nat.reduceBEq, Int.reduceToNat, Int.reduceLE, Int.reduceLT, Int.reduceEq, Int.reduceNe, di0, di1, di2, di3, di4, di5, di6, di7, di8, di9, postX_ret, postX_normal, ex_some]
          refine ih2 (0 + 1, some ⟨o, s, r.lo, highL r s (loadsP p o) r.lo⟩) _ _ (by dsimp only; omega) ⟨by dsimp only; omega, by rw [← he2, show wStp r p o s (some v) r.lo = some ⟨o, s, r.lo, highL r s (loadsP p o) r.lo⟩ from if_pos h3]; rfl⟩ (by simp only [wG, List.cons_append, List.nil_append, wD, keep_wD, ruI, ssI, sbI, spI, swI, scI, stI, srI, saI, snI, ↓reduceIte, reduceCtorEq, Nat.reduceEqDiff, Nat.reduceAdd, Nat.reduceMul, Nat.reduceSub, Nat.reduceLeDiff, Nat.reduceBEq, Int.reduceToNat, Int.reduceLE, Int.reduceLT, Int.reduceEq, Int.reduceNe, di0, di1, di2, di3, di4, di5, di6, di7, di8, di9, postX_ret, postX_normal, ex_some] <;> rfl)
        · rename_i h3
          refine ih2 (0 + 1, some v) _ _ (by dsimp only; omega) ⟨by dsimp only; omega, by rw [← he2, show wStp r p o s (some v) r.lo = some v from if_neg h3]; rfl⟩ (by simp only [wG, List.cons_append, List.nil_append, wD, keep_wD, ruI, ssI, sbI, spI, swI, scI, stI, srI, saI, snI, ↓reduceIte, reduceCtorEq, Nat.reduceEqDiff, Nat.reduceAdd, Nat.reduceMul, Nat.reduceSub, Nat.reduceLeDiff, Nat.reduceBEq, Int.reduceToNat, Int.reduceLE, Int.reduceLT, Int.reduceEq, Int.reduceNe, di0, di1, di2, di3, di4, di5, di6, di7, di8, di9, postX_ret, postX_normal, ex_some] <;> rfl)
    · simp only [List.drop_succ_cons, List.drop_zero, List.foldl_cons] at he2
      repeat (refine And.intro (by omega) ?_)
      simp only [b30l0, b30l1, b30a2, b30r2, res30, b30k0, b30k1, b30k2, b30k3, b30k4, b30k5, b30k6, b30k7, ruI, ssI, sbI, spI, swI, scI, stI, srI, saI, snI, ↓reduceIte, reduceCtorEq, Nat.reduceEqDiff, Nat.reduceAdd, Nat.reduceMul, Nat.reduceSub, Nat.reduceLeDiff, Nat.reduceBEq, Int.reduceToNat, Int.reduceLE, Int.reduceLT, Int.reduceEq, Int.reduceNe, di0, di1, di2, di3, di4, di5, di6, di7, di8, di9, postX_ret, postX_normal, ex_some]
      refine calls_of (s_highest (s := s) (k := r.hi) hr (by omega) hlo (by omega) hne) ?_
      simp only [b30l0, b30l1, b30a2, b30r2, res30, b30k0, b30k1, b30k2, b30k3, b30k4, b30k5, b30k6, b30k7, ruI, ssI, sbI, spI, swI, scI, stI, srI, saI, snI, ↓reduceIte, reduceCtorEq, Nat.reduceEqDiff, Nat.reduceAdd, Nat.reduceMul, Nat.reduceSub, Nat.reduceLeDiff, Nat.reduceBEq, Int.reduceToNat, Int.reduceLE, Int.reduceLT, Int.reduceEq, Int.reduceNe, di0, di1, di2, di3, di4, di5, di6, di7, di8, di9, postX_ret, postX_normal, ex_some]
      cases y2 with
      | none =>
        simp only [wD, ruI, ssI, sbI, spI, swI, scI, stI, srI, saI, snI, ↓reduceIte, reduceCtorEq, Nat.reduceEqDiff, Nat.reduceAdd, Nat.reduceMul, Nat.reduceSub, Nat.reduceLeDiff, Nat.reduceBEq, Int.reduceToNat, Int.reduceLE, Int.reduceLT, Int.reduceEq, Int.reduceNe, di0, di1, di2, di3, di4, di5, di6, di7, di8, di9, postX_ret, postX_normal, ex_some]
        refine calls_of (s_Clone (l := o) hoi.1) ?_
        simp only [b30l0, b30l1, b30a2, b30r2, res30, b30k0, b30k1, b30k2, b30k3, b30k4, b30k5, b30k6, b30k7, ruI, ssI, sbI, spI, swI, scI, stI, srI, saI, snI, ↓reduceIte, reduceCtorEq, Nat.reduceEqDiff, Nat.reduceAdd, Nat.reduceMul, Nat.reduceSub, Nat.reduceLeDiff, Nat.reduceBEq, Int.reduceToNat, Int.reduceLE, Int.reduceLT, Int.reduceEq, Int.reduceNe, di0, di1, di2, di3, di4, di5, di6, di7, di8, di9, postX_ret, postX_normal, ex_some]
        refine ih2 (1 + 1, some ⟨o, s, r.hi, highL r s (loadsP p o) r.hi⟩) _ _ (by dsimp only; omega) ⟨by dsimp only; omega, by rw [← he2]; rfl⟩ (by simp only [wG, List.cons_append, List.nil_append, wD, keep_wD, ruI, ssI, sbI, spI, swI, scI, stI, srI, saI, snI, ↓reduceIte, reduceCtorEq, Nat.reduceEqDiff, Nat.reduceAdd, Nat.reduceMul, Nat.reduceSub, Nat.reduceLeDiff, Nat.reduceBEq, Int.reduceToNat, Int.reduceLE, Int.reduceLT, Int.reduceEq, Int.reduceNe, di0, di1, di2, di3, di4, di5, di6, di7, di8, di9, postX_ret, postX_normal, ex_some] <;> rfl)
      | some v =>
        simp only [wD, b30l0, b30l1, b30a2, b30r2, res30, b30k0, b30k1, b30k2, b30k3, b30k4, b30k5, b30k6, b30k7, ruI, ssI, sbI, spI, swI, scI, stI, srI, saI, snI, ↓reduceIte, reduceCtorEq, Nat.reduceEqDiff, Nat.reduceAdd, Nat.reduceMul, Nat.reduceSub, Nat.reduceLeDiff, Nat.reduceBEq, Int.reduceToNat, Int.reduceLE, Int.reduceLT, Int.reduceEq, Int.reduceNe, di0, di1, di2, di3, di4, di5, di6, di7, di8, di9, postX_ret, postX_normal, ex_some]
        split
        · rename_i h3
          refine calls_of (s_Clone (l := o) hoi.1) ?_
          simp only [b30l0, b30l1, b30a2, b30r2, res30, b30k0, b30k1, b30k2, b30k3, b30k4, b30k5, b30k6, b30k7, ruI, ssI, sbI, spI, swI, scI, stI, srI, saI, snI, ↓reduceIte, reduceCtorEq, Nat.reduceEqDiff, Nat.reduceAdd, Nat.reduceMul, Nat.reduceSub, Nat.reduceLeDiff, Nat.reduceBEq, Int.reduceToNat, Int.reduceLE, Int.reduceLT, Int.reduceEq, Int.reduceNe, di0, di1, di2, di3, di4, di5, di6, di7, di8, di9, postX_ret, postX_normal, ex_some]
          refine ih2 (1 + 1, some ⟨o, s, r.hi, highL r s (loadsP p o) r.hi⟩) _ _ (by dsimp only; omega) ⟨by dsimp only; omega, by rw [← he2, show wStp r p o s (some v) r.hi = some ⟨o, s, r.hi, highL r s (loadsP p o) r.hi⟩ from if_pos h3]; rfl⟩ (by simp only [wG, List.cons_append, List.nil_append, wD, keep_wD, ruI, ssI, sbI, spI, swI, scI, stI, srI, saI, snI, ↓reduceIte, reduceCtorEq, Nat.reduceEqDiff, Nat.reduceAdd, Nat.reduceMul, Nat.reduceSub, Nat.reduceLeDiff, Nat.reduceBEq, Int.reduceToNat, Int.reduceLE, Int.reduceLT, Int.reduceEq, Int.reduceNe, di0, di1, di2, di3, di4, di5, di6, di7, di8, di9, postX_ret, postX_normal, ex_some] <;> rfl)
        · rename_i h3
          refine ih2 (1 + 1, some v) _ _ (by dsimp only; omega) ⟨by dsimp only; omega, by rw [← he2, show wStp r p o s (some v) r.hi = some v from if_neg h3]; rfl⟩ (by simp only [wG, List.cons_append, List.nil_append, wD, keep_wD, ruI, ssI, sbI, spI, swI, scI, stI, srI, saI, snI, ↓reduceIte, reduceCtorEq, Nat.reduceEqDiff, Nat.reduceAdd, Nat.reduceMul, Nat.reduceSub, Nat.reduceLeDiff, Nat.reduceBEq, Int.reduceToNat, Int.reduceLE, Int.reduceLT, Int.reduceEq, Int.reduceNe, di0, di1, di2, di3, di4, di5, di6, di7, di8, di9, postX_ret, postX_normal, ex_some] <;> rfl)
  · rintro y _ rfl
    rw [List.length_map, List.take_length]
    rw [show (ordersP p).foldl (wOrd r p ss) none = worstP r p ss from rfl]
    cases hW : worstP r p ss with
    | none =>
      rw [hW] at hx
      cases hx
      simp only [res30, b30k0, b30k1, b30k2, b30k3, b30k4, b30k5, b30k6, b30k7, wG, wD, ruI, ssI, sbI, spI, swI, scI, stI, srI, saI, snI, ↓reduceIte, reduceCtorEq, Nat.reduceEqDiff, Nat.reduceAdd, Nat.reduceMul, Nat.reduceSub, Nat.reduceLeDiff, Nat.reduceBEq, Int.reduceToNat, Int.reduceLE, Int.reduceLT, Int.reduceEq, Int.reduceNe, di0, di1, di2, di3, di4, di5, di6, di7, di8, di9, postX_ret, postX_normal, ex_some]
    | some v =>
      rw [hW] at hx
      cases hx
      simp only [res30, b30k0, b30k1, b30k2, b30k3, b30k4, b30k5, b30k6, b30k7, wG, wD, ruI, ssI, sbI, spI, swI, scI, stI, srI, saI, snI, ↓reduceIte, reduceCtorEq, Nat.reduceEqDiff, Nat.reduceAdd, Nat.reduceMul, Nat.reduceSub, Nat.reduceLeDiff, Nat.reduceBEq, Int.reduceToNat, Int.reduceLE, Int.reduceLT, Int.reduceEq, Int.reduceNe, di0, di1, di2, di3, di4, di5, di6, di7, di8, di9, postX_ret, postX_normal, ex_some]

theorem s_WorstOf {r : Ru} {p : Pl} {ss : List Sta} (hl : p.ch.length ≤ 1000000000) (hn : ss.length ≤ 1000000000) : Contract Try.prog 30 [ruI r, spI p, .slc 2 (ss.map ssI)] (.tup [swI (worstR r p ss).1, .int .i64 (worstR r p ss).2]) := s_WorstOf0 hl hn _ _ rfl
end Go.DI

/- Contracts: the bound of boxes. No condition. -/
set_option linter.unusedSimpArgs false
namespace Go.DI
open Go.Proofs Go.RowKit Sg

/-- The first odd box. -/
def scanB : List Bx → Int
  | [] => 0
  | b :: l => if boxErr b = 0 then scanB l else boxErr b
def boxesE (bs : List Bx) : Int := fstE (fstE (if 0 < bs.length then 0 else 10) (if bs.length ≤ 64 then 0 else 8)) (scanB bs)
theorem scanB_zero {bs : List Bx} : scanB bs = 0 ↔ ∀ b ∈ bs, boxErr b = 0 := by
  induction bs with
  | nil => simp [scanB]
  | cons b l ih =>
    unfold scanB
    by_cases h : boxErr b = 0
    · rw [if_pos h, ih]; simp [h]
    · rw [if_neg h]; simp [h]

theorem s_boxesErr {bs : List Bx} (hn : bs.length ≤ 1000000000) : Contract Try.prog 119 [.slc 4 (bs.map sbI)] (.int .i64 (boxesE bs)) := by
  refine contract_run Try.func119 k119 rfl ?_
  simp only [body119, b119, res119, b119k0, b119k1, b119k2, b119k3, ruI, ssI, sbI, spI, swI, scI, stI, srI, saI, snI, ↓reduceIte, reduceCtorEq, Nat.reduceEqDiff, Nat.reduceAdd, Nat.reduceMul, Nat.reduceSub, Nat.reduceLeDiff, Nat.reduceBEq, Int.reduceToNat, Int.reduceLE, Int.reduceLT, Int.reduceEq, Int.reduceNe, di0, di1, di2, di3, di4, di5, di6, di7, di8, di9, postX_ret, postX_normal, ex_some]
  refine calls_of s_unless ?_; simp only [ruI, ssI, sbI, spI, swI, scI, stI, srI, saI, snI, res119, b119k0, b119k1, b119k2, b119k3, ↓reduceIte, reduceCtorEq, Nat.reduceEqDiff, Nat.reduceAdd, Nat.reduceMul, Nat.reduceSub, Nat.reduceLeDiff, Nat.reduceBEq, Int.reduceToNat, Int.reduceLE, Int.reduceLT, Int.reduceEq, Int.reduceNe, di0, di1, di2, di3, di4, di5, di6, di7, di8, di9, postX_ret, postX_normal, ex_some]
  refine calls_of s_unless ?_; simp only [ruI, ssI, sbI, spI, swI, scI, stI, srI, saI, snI, res119, b119k0, b119k1, b119k2, b119k3, ↓reduceIte, reduceCtorEq, Nat.reduceEqDiff, Nat.reduceAdd, Nat.reduceMul, Nat.reduceSub, Nat.reduceLeDiff, Nat.reduceBEq, Int.reduceToNat, Int.reduceLE, Int.reduceLT, Int.reduceEq, Int.reduceNe, di0, di1, di2, di3, di4, di5, di6, di7, di8, di9, postX_ret, postX_normal, ex_some]
  refine calls_of (s_first (l := [if (0 : Int) < (bs.length : Int) then 0 else 10, if (bs.length : Int) ≤ 64 then 0 else 8]) (by simp)) ?_; simp only [ruI, ssI, sbI, spI, swI, scI, stI, srI, saI, snI, res119, b119k0, b119k1, b119k2, b119k3, ↓reduceIte, reduceCtorEq, Nat.reduceEqDiff, Nat.reduceAdd, Nat.reduceMul, Nat.reduceSub, Nat.reduceLeDiff, Nat.reduceBEq, Int.reduceToNat, Int.reduceLE, Int.reduceLT, Int.reduceEq, Int.reduceNe, di0, di1, di2, di3, di4, di5, di6, di7, di8, di9, postX_ret, postX_normal, ex_some]
  rw [firstNZ_two]
  rw [show (if (0 : Int) < (bs.length : Int) then (0 : Int) else 10) = if 0 < bs.length then 0 else 10 by split <;> split <;> omega, show (if (bs.length : Int) ≤ 64 then (0 : Int) else 8) = if bs.length ≤ 64 then 0 else 8 by split <;> split <;> omega]
  unfold boxesE
  generalize fstE (if 0 < bs.length then 0 else 10) (if bs.length ≤ 64 then 0 else 8) = e
  unfold fstE
  by_cases he : e = 0
  case neg => simp only [he, ruI, ssI, sbI, spI, swI, scI, stI, srI, saI, snI, ↓reduceIte, reduceCtorEq, Nat.reduceEqDiff, Nat.reduceAdd, Nat.reduceMul, Nat.reduceSub, Nat.reduceLeDiff, Nat.reduceBEq, Int.reduceToNat, Int.reduceLE, Int.reduceLT, Int.reduceEq, Int.reduceNe, di0, di1, di2, di3, di4, di5, di6, di7, di8, di9, postX_ret, postX_normal, ex_some]
  simp only [he, ruI, ssI, sbI, spI, swI, scI, stI, srI, saI, snI, ↓reduceIte, reduceCtorEq, Nat.reduceEqDiff, Nat.reduceAdd, Nat.reduceMul, Nat.reduceSub, Nat.reduceLeDiff, Nat.reduceBEq, Int.reduceToNat, Int.reduceLE, Int.reduceLT, Int.reduceEq, Int.reduceNe, di0, di1, di2, di3, di4, di5, di6, di7, di8, di9, postX_ret, postX_normal, ex_some]
  refine loop_keep (α := Nat) rfl (fun i => bs.length - i) (fun i => i ≤ bs.length ∧ scanB bs = scanB (bs.drop i))
    (fun i => [(20, .imm (.slc 4 (bs.map sbI))), (21, .imm (.int .i64 bs.length)), (22, .imm (.int .i64 i))]) (fun _ => []) 0 ⟨Nat.zero_le _, rfl⟩ (by simp only [ruI, ssI, sbI, spI, swI, scI, stI, srI, saI, snI, ↓reduceIte, reduceCtorEq, Nat.reduceEqDiff, Nat.reduceAdd, Nat.reduceMul, Nat.reduceSub, Nat.reduceLeDiff, Nat.reduceBEq, Int.reduceToNat, Int.reduceLE, Int.reduceLT, Int.reduceEq, Int.reduceNe, di0, di1, di2, di3, di4, di5, di6, di7, di8, di9, postX_ret, postX_normal, ex_some] <;> rfl) ?_
  intro i ⟨hi, hs⟩ ih
  simp only [res119, b119k0, b119k1, b119k2, b119k3, ruI, ssI, sbI, spI, swI, scI, stI, srI, saI, snI, ↓reduceIte, reduceCtorEq, Nat.reduceEqDiff, Nat.reduceAdd, Nat.reduceMul, Nat.reduceSub, Nat.reduceLeDiff, Nat.reduceBEq, Int.reduceToNat, Int.reduceLE, Int.reduceLT, Int.reduceEq, Int.reduceNe, di0, di1, di2, di3, di4, di5, di6, di7, di8, di9, postX_ret, postX_normal, ex_some]
  split
  case isFalse h =>
    have : i = bs.length := by omega
    subst this
    rw [hs]
    simp [scanB]
  rename_i h
  have hlt : i < bs.length := by omega
  rw [List.drop_eq_getElem_cons hlt] at hs
  have hd : bs[i] = bs.getD i default := by rw [List.getD_eq_getElem?_getD]; simp [hlt]
  rw [hd] at hs
  generalize bs.getD i default = b at hs
  repeat (refine And.intro (by omega) ?_)
  refine calls_of (s_boxErr (b := b)) ?_
  simp only [res119, b119k0, b119k1, b119k2, b119k3, ruI, ssI, sbI, spI, swI, scI, stI, srI, saI, snI, ↓reduceIte, reduceCtorEq, Nat.reduceEqDiff, Nat.reduceAdd, Nat.reduceMul, Nat.reduceSub, Nat.reduceLeDiff, Nat.reduceBEq, Int.reduceToNat, Int.reduceLE, Int.reduceLT, Int.reduceEq, Int.reduceNe, di0, di1, di2, di3, di4, di5, di6, di7, di8, di9, postX_ret, postX_normal, ex_some]
  rw [show scanB (b :: bs.drop (i + 1)) = if boxErr b = 0 then scanB (bs.drop (i + 1)) else boxErr b from rfl] at hs
  split
  · rename_i h2
    rw [if_pos h2] at hs
    rw [wrap64 (by omega) (by omega)]
    exact ih (i + 1) _ _ (by omega) ⟨by omega, hs⟩ (by simp only [ruI, ssI, sbI, spI, swI, scI, stI, srI, saI, snI, ↓reduceIte, reduceCtorEq, Nat.reduceEqDiff, Nat.reduceAdd, Nat.reduceMul, Nat.reduceSub, Nat.reduceLeDiff, Nat.reduceBEq, Int.reduceToNat, Int.reduceLE, Int.reduceLT, Int.reduceEq, Int.reduceNe, di0, di1, di2, di3, di4, di5, di6, di7, di8, di9, postX_ret, postX_normal, ex_some] <;> rfl)
  · rename_i h2
    rw [if_neg h2] at hs
    rw [hs]

def bStp (y : Bool × Int × Int) (b : Bx) : Bool × Int × Int := (true, min (if y.1 = true then y.2.1 else b.ll) b.ll, max (if y.1 = true then y.2.2 else b.lh) b.lh)
def bBox (r : Ru) (p : Pl) (o : List Int) (y : Bool × Int × Int) (b : Bx) : Bool × Int × Int := (brunL r b (loadsP p o)).foldl bStp y
def bOrd (r : Ru) (p : Pl) (bs : List Bx) (y : Bool × Int × Int) (o : List Int) : Bool × Int × Int := bs.foldl (bBox r p o) y
def boundP (r : Ru) (p : Pl) (bs : List Bx) : Bool × Int × Int := (ordersP p).foldl (bOrd r p bs) (false, 0, 0)
def bG (r : Ru) (p : Pl) (bs : List Bx) (y : Bool × Int × Int) : List (Nat × Res) :=
  [(2, .box [.imm (.int .i64 r.I), .imm (.int .i64 r.A), .imm (.int .i64 r.lo), .imm (.int .i64 r.hi), .imm (.int .i64 r.T), .imm (.int .i64 p.load), .imm (snI p.ch), .imm (.int .i64 p.wait), .imm (.int .i64 p.ticks)]),
    (3, .box [.imm (.slc 4 (bs.map sbI))]), (4, .box [.imm (.int .i64 0), .imm (.int .i64 0)]), (6, .box [.imm (.int .i64 y.2.1), .imm (.int .i64 y.2.2)]), (7, .box [.imm (.bool y.1)])]

theorem s_bound {r : Ru} {p : Pl} {bs : List Bx} (hr : Sg.Good r) (hp : PlanOk p) (hn : bs.length ≤ 1000000000) (hb : ∀ b ∈ bs, boxErr b = 0) : Contract Try.prog 120 [saI (r, p), .slc 4 (bs.map sbI)] (.tup [stI (boundP r p bs).2.1 (boundP r p bs).2.2, .bool (boundP r p bs).1]) := by
  refine contract_run Try.func120 k120 rfl ?_
  simp only [body120, b120, res120, b120k0, b120k1, b120k2, b120k3, ruI, ssI, sbI, spI, swI, scI, stI, srI, saI, snI, ↓reduceIte, reduceCtorEq, Nat.reduceEqDiff, Nat.reduceAdd, Nat.reduceMul, Nat.reduceSub, Nat.reduceLeDiff, Nat.reduceBEq, Int.reduceToNat, Int.reduceLE, Int.reduceLT, Int.reduceEq, Int.reduceNe, di0, di1, di2, di3, di4, di5, di6, di7, di8, di9, postX_ret, postX_normal, ex_some]
  refine range_plain (gf := 102) (first := [saI (r, p)]) (caps := []) ((ordersP p).map fun x => [snI x]) false rfl rfl (it_orders hp) (by simp) rfl (fun n (y : Bool × Int × Int) => y = ((ordersP p).take n).foldl (bOrd r p bs) (false, 0, 0))
    (bG r p bs) (false, 0, 0) rfl (by rw [keepRes_look]; simp only [bG, ruI, ssI, sbI, spI, swI, scI, stI, srI, saI, snI, ↓reduceIte, reduceCtorEq, Nat.reduceEqDiff, Nat.reduceAdd, Nat.reduceMul, Nat.reduceSub, Nat.reduceLeDiff, Nat.reduceBEq, Int.reduceToNat, Int.reduceLE, Int.reduceLT, Int.reduceEq, Int.reduceNe, di0, di1, di2, di3, di4, di5, di6, di7, di8, di9, postX_ret, postX_normal, ex_some] <;> rfl) ?_ ?_
  · rintro n x y hq rfl
    simp only [List.getElem?_map, Option.map_eq_some_iff] at hq
    obtain ⟨o, ho, rfl⟩ := hq
    have hmem := List.mem_of_getElem? ho
    have hoi := orders_idx hp hmem
    have hlo := loads_ok hp (orders_perm hmem)
    simp only [List.take_add_one, ho, Option.toList_some, List.foldl_append, List.foldl_cons, List.foldl_nil]
    generalize List.foldl (bOrd r p bs) (false, 0, 0) (List.take n (ordersP p)) = y
    simp only [b120a0, b120r0, b120l1, b120a2, b120r2, bG, ruI, ssI, sbI, spI, swI, scI, stI, srI, saI, snI, ↓reduceIte, reduceCtorEq, Nat.reduceEqDiff, Nat.reduceAdd, Nat.reduceMul, Nat.reduceSub, Nat.reduceLeDiff, Nat.reduceBEq, Int.reduceToNat, Int.reduceLE, Int.reduceLT, Int.reduceEq, Int.reduceNe, di0, di1, di2, di3, di4, di5, di6, di7, di8, di9, postX_ret, postX_normal, ex_some]
    refine calls_of (s_loads (r := r) hp hoi) ?_
    simp only [b120a0, b120r0, b120l1, b120a2, b120r2, ruI, ssI, sbI, spI, swI, scI, stI, srI, saI, snI, ↓reduceIte, reduceCtorEq, Nat.reduceEqDiff, Nat.reduceAdd, Nat.reduceMul, Nat.reduceSub, Nat.reduceLeDiff, Nat.reduceBEq, Int.reduceToNat, Int.reduceLE, Int.reduceLT, Int.reduceEq, Int.reduceNe, di0, di1, di2, di3, di4, di5, di6, di7, di8, di9, postX_ret, postX_normal, ex_some]
    refine loop_keep (α := Nat × Bool × Int × Int) rfl (fun q => bs.length - q.1) (fun q => q.1 ≤ bs.length ∧ (bs.drop q.1).foldl (bBox r p o) q.2 = bOrd r p bs y o)
      (fun q => [(2, .ref 2 0), (6, .ref 6 0), (7, .ref 7 0), (9, .imm (snI (loadsP p o))), (19, .imm (.slc 4 (bs.map sbI))), (20, .imm (.int .i64 bs.length)), (21, .imm (.int .i64 q.1))])
      (fun q => bG r p bs q.2) (0, y) ⟨Nat.zero_le _, rfl⟩ (by simp only [bG, ruI, ssI, sbI, spI, swI, scI, stI, srI, saI, snI, ↓reduceIte, reduceCtorEq, Nat.reduceEqDiff, Nat.reduceAdd, Nat.reduceMul, Nat.reduceSub, Nat.reduceLeDiff, Nat.reduceBEq, Int.reduceToNat, Int.reduceLE, Int.reduceLT, Int.reduceEq, Int.reduceNe, di0, di1, di2, di3, di4, di5, di6, di7, di8, di9, postX_ret, postX_normal, ex_some] <;> rfl) ?_
    rintro ⟨i, y1⟩ ⟨hi, he1⟩ ih
    dsimp only at hi he1 ⊢
    simp only [b120a0, b120r0, b120l1, b120a2, b120r2, res120, b120k0, b120k1, b120k2, b120k3, bG, ruI, ssI, sbI, spI, swI, scI, stI, srI, saI, snI, ↓reduceIte, reduceCtorEq, Nat.reduceEqDiff, Nat.reduceAdd, Nat.reduceMul, Nat.reduceSub, Nat.reduceLeDiff, Nat.reduceBEq, Int.reduceToNat, Int.reduceLE, Int.reduceLT, Int.reduceEq, Int.reduceNe, di0, di1, di2, di3, di4, di5, di6, di7, di8, di9, postX_ret, postX_normal, ex_some]
    split
    case isFalse h =>
      have : i = bs.length := by omega
      subst this
      rw [List.drop_length] at he1
      simp only [List.foldl_nil] at he1
      subst he1
      exact ⟨_, rfl, rfl⟩
    rename_i h
    have hlt : i < bs.length := by omega
    rw [List.drop_eq_getElem_cons hlt, List.foldl_cons] at he1
    repeat (refine And.intro (by omega) ?_)
    have hd : bs[i] = bs.getD i default := by rw [List.getD_eq_getElem?_getD]; simp [hlt]
    have hm : bs.getD i default ∈ bs := by rw [← hd]; exact List.getElem_mem hlt
    rw [hd] at he1
    have hs := hb _ hm
    rw [boxErr_zero] at hs
    generalize bs.getD i default = b at he1 hm hs
    refine calls_of (s_boxRun (r := r) (b := b) (ls := loadsP p o)) ?_
    simp only [b120a0, b120r0, b120l1, b120a2, b120r2, res120, b120k0, b120k1, b120k2, b120k3, ruI, ssI, sbI, spI, swI, scI, stI, srI, saI, snI, ↓reduceIte, reduceCtorEq, Nat.reduceEqDiff, Nat.reduceAdd, Nat.reduceMul, Nat.reduceSub, Nat.reduceLeDiff, Nat.reduceBEq, Int.reduceToNat, Int.reduceLE, Int.reduceLT, Int.reduceEq, Int.reduceNe, di0, di1, di2, di3, di4, di5, di6, di7, di8, di9, postX_ret, postX_normal, ex_some]
    refine range_plain (gf := 156) (first := []) (caps := [.ptr (sbI b), .ptr (.agg [snI (loadsP p o)]), .ptr (ruI r)]) ((brunL r b (loadsP p o)).map fun x => [sbI x]) false rfl rfl (it_boxRun hr (by omega) hlo) (by simp) rfl (fun n (z : Bool × Int × Int) => z = ((brunL r b (loadsP p o)).take n).foldl bStp y1)
      (bG r p bs) y1 rfl (by rw [keepRes_look]; simp only [bG, ruI, ssI, sbI, spI, swI, scI, stI, srI, saI, snI, ↓reduceIte, reduceCtorEq, Nat.reduceEqDiff, Nat.reduceAdd, Nat.reduceMul, Nat.reduceSub, Nat.reduceLeDiff, Nat.reduceBEq, Int.reduceToNat, Int.reduceLE, Int.reduceLT, Int.reduceEq, Int.reduceNe, di0, di1, di2, di3, di4, di5, di6, di7, di8, di9, postX_ret, postX_normal, ex_some] <;> rfl) ?_ ?_
    · rintro n2 x z hq rfl
      simp only [List.getElem?_map, Option.map_eq_some_iff] at hq
      obtain ⟨b2, hb2, rfl⟩ := hq
      simp only [List.take_add_one, hb2, Option.toList_some, List.foldl_append, List.foldl_cons, List.foldl_nil]
      generalize List.foldl bStp y1 (List.take n2 (brunL r b (loadsP p o))) = z
      obtain ⟨zb, z1, z2⟩ := z
      cases zb
      · simp only [b120a0, b120r0, b120l1, b120a2, b120r2, res120, b120k0, b120k1, b120k2, b120k3, bG, bStp, ruI, ssI, sbI, spI, swI, scI, stI, srI, saI, snI, ↓reduceIte, reduceCtorEq, Nat.reduceEqDiff, Nat.reduceAdd, Nat.reduceMul, Nat.reduceSub, Nat.reduceLeDiff, Nat.reduceBEq, Int.reduceToNat, Int.reduceLE, Int.reduceLT, Int.reduceEq, Int.reduceNe, di0, di1, di2, di3, di4, di5, di6, di7, di8, di9, postX_ret, postX_normal, ex_some]
        exact ⟨_, rfl, rfl⟩
      · simp only [b120a0, b120r0, b120l1, b120a2, b120r2, res120, b120k0, b120k1, b120k2, b120k3, bG, bStp, ruI, ssI, sbI, spI, swI, scI, stI, srI, saI, snI, ↓reduceIte, reduceCtorEq, Nat.reduceEqDiff, Nat.reduceAdd, Nat.reduceMul, Nat.reduceSub, Nat.reduceLeDiff, Nat.reduceBEq, Int.reduceToNat, Int.reduceLE, Int.reduceLT, Int.reduceEq, Int.reduceNe, di0, di1, di2, di3, di4, di5, di6, di7, di8, di9, postX_ret, postX_normal, ex_some]
        exact ⟨_, rfl, rfl⟩
    · rintro z _ rfl
      rw [List.length_map, List.take_length]
      simp only [b120a0, b120r0, b120l1, b120a2, b120r2, res120, b120k0, b120k1, b120k2, b120k3, bG, ruI, ssI, sbI, spI, swI, scI, stI, srI, saI, snI, ↓reduceIte, reduceCtorEq, Nat.reduceEqDiff, Nat.reduceAdd, Nat.reduceMul, Nat.reduceSub, Nat.reduceLeDiff, Nat.reduceBEq, Int.reduceToNat, Int.reduceLE, Int.reduceLT, Int.reduceEq, Int.reduceNe, di0, di1, di2, di3, di4, di5, di6, di7, di8, di9, postX_ret, postX_normal, ex_some]
      rw [wrap64 (by omega) (by omega)]
      refine ih (i + 1, bBox r p o y1 b) _ _ (by dsimp only; omega) ⟨by dsimp only; omega, he1⟩ (by simp only [bG, bBox, ruI, ssI, sbI, spI, swI, scI, stI, srI, saI, snI, ↓reduceIte, reduceCtorEq, Nat.reduceEqDiff, Nat.reduceAdd, Nat.reduceMul, Nat.reduceSub, Nat.reduceLeDiff, Nat.reduceBEq, Int.reduceToNat, Int.reduceLE, Int.reduceLT, Int.reduceEq, Int.reduceNe, di0, di1, di2, di3, di4, di5, di6, di7, di8, di9, postX_ret, postX_normal, ex_some] <;> rfl)
  · rintro y _ rfl
    rw [List.length_map, List.take_length]
    rw [show (ordersP p).foldl (bOrd r p bs) (false, 0, 0) = boundP r p bs from rfl]
    simp only [res120, b120k0, b120k1, b120k2, b120k3, bG, ruI, ssI, sbI, spI, swI, scI, stI, srI, saI, snI, ↓reduceIte, reduceCtorEq, Nat.reduceEqDiff, Nat.reduceAdd, Nat.reduceMul, Nat.reduceSub, Nat.reduceLeDiff, Nat.reduceBEq, Int.reduceToNat, Int.reduceLE, Int.reduceLT, Int.reduceEq, Int.reduceNe, di0, di1, di2, di3, di4, di5, di6, di7, di8, di9, postX_ret, postX_normal, ex_some]

def boundE (r : Ru) (p : Pl) (bs : List Bx) : Int := fstE (planEr r p).2 (boxesE bs)
theorem s_BoundOf {r : Ru} {p : Pl} {bs : List Bx} (hl : p.ch.length ≤ 1000000000) (hn : bs.length ≤ 1000000000) : Contract Try.prog 60 [ruI r, spI p, .slc 4 (bs.map sbI)]
    (if boundE r p bs = 0 then .tup [stI (boundP r p bs).2.1 (boundP r p bs).2.2, .int .i64 (if (boundP r p bs).1 = true then 0 else 12)] else .tup [stI 0 0, .int .i64 (boundE r p bs)]) := by
  refine contract_run Try.func60 k60 rfl ?_
  simp only [body60, b60, res60, b60k0, ruI, ssI, sbI, spI, swI, scI, stI, srI, saI, snI, ↓reduceIte, reduceCtorEq, Nat.reduceEqDiff, Nat.reduceAdd, Nat.reduceMul, Nat.reduceSub, Nat.reduceLeDiff, Nat.reduceBEq, Int.reduceToNat, Int.reduceLE, Int.reduceLT, Int.reduceEq, Int.reduceNe, di0, di1, di2, di3, di4, di5, di6, di7, di8, di9, postX_ret, postX_normal, ex_some]
  refine calls_of (s_open hl) ?_; simp only [ruI, ssI, sbI, spI, swI, scI, stI, srI, saI, snI, res60, b60k0, ↓reduceIte, reduceCtorEq, Nat.reduceEqDiff, Nat.reduceAdd, Nat.reduceMul, Nat.reduceSub, Nat.reduceLeDiff, Nat.reduceBEq, Int.reduceToNat, Int.reduceLE, Int.reduceLT, Int.reduceEq, Int.reduceNe, di0, di1, di2, di3, di4, di5, di6, di7, di8, di9, postX_ret, postX_normal, ex_some]
  refine calls_of (s_boxesErr hn) ?_; simp only [ruI, ssI, sbI, spI, swI, scI, stI, srI, saI, snI, res60, b60k0, ↓reduceIte, reduceCtorEq, Nat.reduceEqDiff, Nat.reduceAdd, Nat.reduceMul, Nat.reduceSub, Nat.reduceLeDiff, Nat.reduceBEq, Int.reduceToNat, Int.reduceLE, Int.reduceLT, Int.reduceEq, Int.reduceNe, di0, di1, di2, di3, di4, di5, di6, di7, di8, di9, postX_ret, postX_normal, ex_some]
  refine calls_of (s_first (l := [(planEr r p).2, boxesE bs]) (by simp)) ?_; simp only [ruI, ssI, sbI, spI, swI, scI, stI, srI, saI, snI, res60, b60k0, ↓reduceIte, reduceCtorEq, Nat.reduceEqDiff, Nat.reduceAdd, Nat.reduceMul, Nat.reduceSub, Nat.reduceLeDiff, Nat.reduceBEq, Int.reduceToNat, Int.reduceLE, Int.reduceLT, Int.reduceEq, Int.reduceNe, di0, di1, di2, di3, di4, di5, di6, di7, di8, di9, postX_ret, postX_normal, ex_some]
  rw [firstNZ_two]
  show (if boundE r p bs = 0 then _ else _)
  split
  · rename_i h
    unfold boundE at h
    rw [fstE_zero, planEr_zero] at h
    have h2 := h.2
    unfold boxesE at h2
    rw [fstE_zero, scanB_zero] at h2
    refine calls_of (s_bound h.1.1 h.1.2 hn h2.2) ?_
    simp only [res60, b60k0, ruI, ssI, sbI, spI, swI, scI, stI, srI, saI, snI, ↓reduceIte, reduceCtorEq, Nat.reduceEqDiff, Nat.reduceAdd, Nat.reduceMul, Nat.reduceSub, Nat.reduceLeDiff, Nat.reduceBEq, Int.reduceToNat, Int.reduceLE, Int.reduceLT, Int.reduceEq, Int.reduceNe, di0, di1, di2, di3, di4, di5, di6, di7, di8, di9, postX_ret, postX_normal, ex_some]
    refine calls_of s_unless ?_; simp only [ruI, ssI, sbI, spI, swI, scI, stI, srI, saI, snI, res60, b60k0, ↓reduceIte, reduceCtorEq, Nat.reduceEqDiff, Nat.reduceAdd, Nat.reduceMul, Nat.reduceSub, Nat.reduceLeDiff, Nat.reduceBEq, Int.reduceToNat, Int.reduceLE, Int.reduceLT, Int.reduceEq, Int.reduceNe, di0, di1, di2, di3, di4, di5, di6, di7, di8, di9, postX_ret, postX_normal, ex_some]
  · rfl
end Go.DI

/- Base functions and the laws' examples, as data. No condition. -/
namespace Go.DI
open Go.Proofs Go.RowKit
/-- guidevane/guidevanebase.Ints -/
def b46k0 : DCode :=
 (.region [⟨(some 15), .mov, [.t 5], none, []⟩,
   ⟨(some 16), (.bin .add), [.t 15, .c (.int .i64 1)], none, [0]⟩,
   ⟨(some 5), .mov, [.t 16], none, [1, 0, 1]⟩] false)
def b46k1 : DCode :=
 (.seq
  (.block 1
   (.seq
    (.region [⟨(some 17), .movv, [.t 0], none, []⟩,
      ⟨(some 18), .mov, [.t 5], none, []⟩,
      ⟨(some 19), (.iaddr 1), [.t 17, .t 18], none, [0, 1]⟩,
      ⟨(some 20), (.load false 1), [.t 19], none, [2]⟩,
      ⟨(some 21), .movv, [.t 1], none, []⟩,
      ⟨(some 22), .mov, [.t 5], none, []⟩,
      ⟨(some 23), (.iaddr 1), [.t 21, .t 22], none, [4, 5]⟩,
      ⟨(some 24), (.load false 1), [.t 23], none, [6]⟩,
      ⟨(some 25), (.bin .neq), [.t 20, .t 24], none, [3, 7]⟩] true)
    (.cond (.t 25)
     (.seq
      (.region [⟨(some 4), .mov, [.c (.bool false)], none, []⟩] false)
      .ret)
     .skip)))
  (.keep [0, 1, 5] [] b46k0))
def b46l0 : DCode := .keep [0, 1, 5] []
  (.seq
   (.seq
    (.region [⟨(some 11), .mov, [.t 5], none, []⟩,
      ⟨(some 12), .movv, [.t 0], none, []⟩,
      ⟨(some 13), .len, [.t 12], none, [1]⟩,
      ⟨(some 14), (.bin .lss), [.t 11, .t 13], none, [0, 2]⟩] false)
    (.cond (.t 14)
     .skip
     (.exit 0)))
   (.keep [0, 1, 5] [] b46k1))
def b46k2 : DCode :=
 (.seq
  (.region [⟨(some 4), .mov, [.c (.bool true)], none, []⟩] false)
  .ret)
def b46k3 : DCode :=
 (.seq
  (.seq
   (.region [⟨(some 5), .mov, [.c (.int .i64 0)], none, []⟩] false)
   (.block 0
    (.loop b46l0)))
  (.keep [] [] b46k2))
def b46 : DCode :=
 (.seq
  (.region [⟨(some 4), .mov, [.c (.bool false)], none, []⟩] false)
  (.seq
   (.seq
    (.region [⟨(some 6), .movv, [.t 0], none, []⟩,
      ⟨(some 7), .len, [.t 6], none, [0]⟩,
      ⟨(some 8), .movv, [.t 1], none, []⟩,
      ⟨(some 9), .len, [.t 8], none, [2]⟩,
      ⟨(some 10), (.bin .neq), [.t 7, .t 9], none, [1, 3]⟩] false)
    (.cond (.t 10)
     (.seq
      (.region [⟨(some 4), .mov, [.c (.bool false)], none, []⟩] false)
      .ret)
     .skip))
   (.keep [0, 1] [] b46k3)))
def d46 : DFn := ⟨2, 26, [.tmp 4], b46⟩
theorem body46 : d46.body = b46 := rfl
theorem res46 : d46.res = [.tmp 4] := rfl
theorem k46 : chkFn Try.prog Try.f46 d46 = true := by kernel_rfl

/-- guidevane/guidevanebase.Within -/
def b27 : DCode :=
 (.seq
  (.region [⟨(some 6), .mov, [.c (.bool false)], none, []⟩] false)
  (.seq
   (.region [⟨(some 7), .mov, [.t 1], none, []⟩,
     ⟨(some 8), .mov, [.t 0], none, []⟩,
     ⟨(some 9), (.bin .leq), [.t 7, .t 8], none, [0, 1]⟩,
     ⟨(some 10), .mov, [.t 9], none, [2]⟩,
     ⟨(some 11), .mov, [.t 0], (some (10, true)), [3]⟩,
     ⟨(some 12), .mov, [.t 2], (some (10, true)), [3]⟩,
     ⟨(some 13), (.bin .leq), [.t 11, .t 12], (some (10, true)), [4, 5, 3]⟩,
     ⟨(some 14), .pick, [.t 10, .t 13, .c (.bool false)], none, [3, 6]⟩,
     ⟨(some 6), .mov, [.t 14], none, [7, 3, 0, 1, 2, 3, 4, 5, 6, 7]⟩] false)
   .ret))
def d27 : DFn := ⟨3, 15, [.tmp 6], b27⟩
theorem body27 : d27.body = b27 := rfl
theorem res27 : d27.res = [.tmp 6] := rfl
theorem k27 : chkFn Try.prog Try.f27 d27 = true := by kernel_rfl

/-- guidevane/guidevanebase.Floor -/
def b96k0 : DCode :=
 (.seq
  (.region [⟨(some 15), .mov, [.t 5], none, []⟩,
    ⟨(some 4), .mov, [.t 15], none, [0, 0]⟩] false)
  .ret)
def b96 : DCode :=
 (.seq
  (.region [⟨(some 4), .mov, [.c (.int .i64 0)], none, []⟩] false)
  (.seq
   (.region [⟨(some 6), .mov, [.t 0], none, []⟩,
     ⟨(some 7), .mov, [.t 1], none, []⟩,
     ⟨(some 8), (.bin .quo), [.t 6, .t 7], none, [0, 1]⟩,
     ⟨(some 5), .mov, [.t 8], none, [2, 0, 1, 2]⟩] false)
   (.seq
    (.seq
     (.region [⟨(some 9), .mov, [.t 0], none, []⟩,
       ⟨(some 10), .mov, [.t 1], none, []⟩,
       ⟨(some 11), (.bin .rem), [.t 9, .t 10], none, [0, 1]⟩,
       ⟨(some 12), (.bin .lss), [.t 11, .c (.int .i64 0)], none, [2]⟩] false)
     (.cond (.t 12)
      (.region [⟨(some 13), .mov, [.t 5], none, []⟩,
        ⟨(some 14), (.bin .sub), [.t 13, .c (.int .i64 1)], none, [0]⟩,
        ⟨(some 5), .mov, [.t 14], none, [1, 0, 1]⟩] false)
      .skip))
    (.keep [5] [] b96k0))))
def d96 : DFn := ⟨2, 16, [.tmp 4], b96⟩
theorem body96 : d96.body = b96 := rfl
theorem res96 : d96.res = [.tmp 4] := rfl
theorem k96 : chkFn Try.prog Try.f96 d96 = true := by kernel_rfl

/-- guidevane/guidevanebase.Size -/
def b144 : DCode :=
 (.seq
  (.region [⟨(some 2), .mov, [.c (.int .i64 0)], none, []⟩] false)
  (.seq
   (.region [⟨(some 3), .mov, [.t 0], none, []⟩,
     ⟨(some 4), .mov, [.t 0], none, []⟩,
     ⟨(some 5), (.un .neg), [.t 4], none, [1]⟩,
     ⟨(some 6), (.mm true), [.t 3, .t 5], none, [0, 2]⟩,
     ⟨(some 2), .mov, [.t 6], none, [3, 0, 1, 2, 3]⟩] false)
   .ret))
def d144 : DFn := ⟨1, 7, [.tmp 2], b144⟩
theorem body144 : d144.body = b144 := rfl
theorem res144 : d144.res = [.tmp 2] := rfl
theorem k144 : chkFn Try.prog Try.f144 d144 = true := by kernel_rfl

/-- guidevane/guidevanelaw04.Rules -/
def b84 : DCode :=
 (.seq
  (.region [⟨(some 0), (.alloc [(.imm (.int .i64 0)), (.imm (.int .i64 0)), (.imm (.int .i64 0)), (.imm (.int .i64 0)), (.imm (.int .i64 0))]), [], none, []⟩] false)
  (.seq
   (.region [⟨(some 1), (.build [(.imm (.int .i64 0)), (.imm (.int .i64 0))] [(1, 1)]), [.c (.int .i64 2)], none, []⟩,
     ⟨(some 2), (.build [(.imm (.int .i64 0)), (.imm (.int .i64 0)), (.imm (.int .i64 0)), (.imm (.int .i64 0)), (.imm (.int .i64 0))] [(0, 1), (1, 1), (2, 2)]), [.c (.int .i64 10), .c (.int .i64 5), .t 1], none, [0]⟩,
     ⟨none, (.store 5), [.t 0, .t 2], none, [1, 0, 1]⟩] false)
   .ret))
def d84 : DFn := ⟨0, 3, [.cell 0 true 5], b84⟩
theorem body84 : d84.body = b84 := rfl
theorem res84 : d84.res = [.cell 0 true 5] := rfl
theorem k84 : chkFn Try.prog Try.f84 d84 = true := by kernel_rfl

/-- guidevane/guidevanelaw04.Plan -/
def b85 : DCode :=
 (.seq
  (.region [⟨(some 0), (.alloc [(.imm (.int .i64 0)), (.imm (.slc 1 [])), (.imm (.int .i64 0)), (.imm (.int .i64 0))]), [], none, []⟩] false)
  (.seq
   (.region [⟨(some 1), (.bsl 1), [.c (.int .i64 (-80)), .c (.int .i64 30), .c (.int .i64 (-50))], none, []⟩,
     ⟨(some 2), (.build [(.imm (.int .i64 0)), (.imm (.slc 1 [])), (.imm (.int .i64 0)), (.imm (.int .i64 0))] [(0, 1), (1, 1), (2, 1), (3, 1)]), [.c (.int .i64 100), .t 1, .c (.int .i64 2), .c (.int .i64 5)], none, [0]⟩,
     ⟨none, (.store 4), [.t 0, .t 2], none, [1, 0, 1]⟩] false)
   .ret))
def d85 : DFn := ⟨0, 3, [.cell 0 true 4], b85⟩
theorem body85 : d85.body = b85 := rfl
theorem res85 : d85.res = [.cell 0 true 4] := rfl
theorem k85 : chkFn Try.prog Try.f85 d85 = true := by kernel_rfl

/-- guidevane/guidevanelaw04.Drop -/
def b86 : DCode :=
 (.seq
  (.region [⟨(some 0), (.alloc [(.imm (.int .i64 0)), (.imm (.slc 1 [])), (.imm (.int .i64 0)), (.imm (.int .i64 0))]), [], none, []⟩] false)
  (.seq
   (.region [⟨(some 1), (.bsl 1), [.c (.int .i64 (-100))], none, []⟩,
     ⟨(some 2), (.build [(.imm (.int .i64 0)), (.imm (.slc 1 [])), (.imm (.int .i64 0)), (.imm (.int .i64 0))] [(0, 1), (1, 1), (2, 1), (3, 1)]), [.c (.int .i64 100), .t 1, .c (.int .i64 1), .c (.int .i64 3)], none, [0]⟩,
     ⟨none, (.store 4), [.t 0, .t 2], none, [1, 0, 1]⟩] false)
   .ret))
def d86 : DFn := ⟨0, 3, [.cell 0 true 4], b86⟩
theorem body86 : d86.body = b86 := rfl
theorem res86 : d86.res = [.cell 0 true 4] := rfl
theorem k86 : chkFn Try.prog Try.f86 d86 = true := by kernel_rfl

/-- guidevane/guidevanelaw04.awake -/
def b15 : DCode :=
 (.seq
  (.region [⟨(some 0), .mov, [.c (.bool false)], none, []⟩] false)
  (.seq
   (.region [⟨(some 12), .call, [.f 84], none, []⟩,
     ⟨(some 13), (.build [(.imm (.int .i64 0)), (.imm (.int .i64 0))] [(1, 1)]), [.c (.int .i64 100)], none, []⟩,
     ⟨(some 14), (.build [(.imm (.int .i64 0)), (.imm (.int .i64 0))] [(1, 1)]), [.c (.int .i64 2)], none, []⟩,
     ⟨(some 15), .call, [.f 16, .t 12, .t 13, .t 14], none, [0, 1, 2, 0]⟩,
     ⟨(some 11), .mov, [.t 15], none, [3]⟩,
     ⟨(some 16), (.ext 0), [.t 11], none, [4]⟩,
     ⟨(some 17), (.ext 1), [.t 11], none, [4]⟩,
     ⟨(some 1), (.alloc [(.imm (.int .i64 0)), (.imm (.int .i64 0))]), [], none, []⟩,
     ⟨none, (.store 2), [.t 1, .t 16], none, [7, 5, 3, 0, 1, 2, 3, 4, 5, 7]⟩,
     ⟨(some 2), .mov, [.t 17], none, [6, 8, 0, 1, 2, 3, 4, 5, 6, 7, 8]⟩] false)
   (.seq
    (.region [⟨(some 19), .call, [.f 84], none, []⟩,
      ⟨(some 20), (.build [(.imm (.int .i64 0)), (.imm (.int .i64 0))] [(0, 1), (1, 1)]), [.c (.int .i64 100), .c (.int .i64 100)], none, []⟩,
      ⟨(some 21), (.build [(.imm (.int .i64 0)), (.imm (.int .i64 0)), (.imm (.int .i64 0)), (.imm (.int .i64 0))] [(2, 2)]), [.t 20], none, [1]⟩,
      ⟨(some 22), .call, [.f 25, .t 19, .t 21, .c (.int .i64 0)], none, [0, 2, 0]⟩,
      ⟨(some 18), .mov, [.t 22], none, [3]⟩,
      ⟨(some 23), (.ext 0), [.t 18], none, [4]⟩,
      ⟨(some 24), (.ext 1), [.t 18], none, [4]⟩,
      ⟨(some 3), (.alloc [(.imm (.int .i64 0)), (.imm (.int .i64 0)), (.imm (.int .i64 0)), (.imm (.int .i64 0))]), [], none, []⟩,
      ⟨none, (.store 4), [.t 3, .t 23], none, [7, 5, 3, 0, 1, 2, 3, 4, 5, 7]⟩,
      ⟨(some 4), .mov, [.t 24], none, [6, 8, 0, 1, 2, 3, 4, 5, 6, 7, 8]⟩] false)
    (.seq
     (.region [⟨(some 26), .call, [.f 84], none, []⟩,
       ⟨(some 27), .call, [.f 85], none, [0]⟩,
       ⟨(some 28), (.bsl 1), [.c (.int .i64 0), .c (.int .i64 1), .c (.int .i64 2)], none, []⟩,
       ⟨(some 29), .call, [.f 42, .t 26, .t 27, .t 28], none, [0, 1, 2, 1]⟩,
       ⟨(some 25), .mov, [.t 29], none, [3]⟩,
       ⟨(some 30), (.ext 0), [.t 25], none, [4]⟩,
       ⟨(some 31), (.ext 1), [.t 25], none, [4]⟩,
       ⟨(some 5), .movv, [.t 30], none, [5, 3, 0, 1, 2, 3, 4, 5]⟩,
       ⟨(some 6), .mov, [.t 31], none, [6, 7, 0, 1, 2, 3, 4, 5, 6, 7]⟩] false)
     (.seq
      (.region [⟨(some 33), .call, [.f 84], none, []⟩,
        ⟨(some 34), .call, [.f 86], none, [0]⟩,
        ⟨(some 35), (.build [(.imm (.int .i64 0)), (.imm (.int .i64 0))] [(1, 1)]), [.c (.int .i64 100)], none, []⟩,
        ⟨(some 36), (.bsl 2), [.t 35], none, [2]⟩,
        ⟨(some 37), .call, [.f 30, .t 33, .t 34, .t 36], none, [0, 1, 3, 1]⟩,
        ⟨(some 32), .mov, [.t 37], none, [4]⟩,
        ⟨(some 38), (.ext 0), [.t 32], none, [5]⟩,
        ⟨(some 39), (.ext 1), [.t 32], none, [5]⟩,
        ⟨(some 7), (.alloc [(.imm (.slc 1 [])), (.imm (.int .i64 0)), (.imm (.int .i64 0)), (.imm (.int .i64 0)), (.imm (.int .i64 0))]), [], none, []⟩,
        ⟨none, (.store 5), [.t 7, .t 38], none, [8, 6, 4, 0, 1, 2, 3, 4, 5, 6, 8]⟩,
        ⟨(some 8), .mov, [.t 39], none, [7, 9, 0, 1, 2, 3, 4, 5, 6, 7, 8, 9]⟩] false)
      (.seq
       (.region [⟨(some 41), .call, [.f 84], none, []⟩,
         ⟨(some 42), .call, [.f 86], none, [0]⟩,
         ⟨(some 43), (.build [(.imm (.int .i64 0)), (.imm (.int .i64 0))] [(0, 1), (1, 1)]), [.c (.int .i64 100), .c (.int .i64 100)], none, []⟩,
         ⟨(some 44), (.build [(.imm (.int .i64 0)), (.imm (.int .i64 0)), (.imm (.int .i64 0)), (.imm (.int .i64 0))] [(2, 2)]), [.t 43], none, [2]⟩,
         ⟨(some 45), (.bsl 4), [.t 44], none, [3]⟩,
         ⟨(some 46), .call, [.f 60, .t 41, .t 42, .t 45], none, [0, 1, 4, 1]⟩,
         ⟨(some 40), .mov, [.t 46], none, [5]⟩,
         ⟨(some 47), (.ext 0), [.t 40], none, [6]⟩,
         ⟨(some 48), (.ext 1), [.t 40], none, [6]⟩,
         ⟨(some 9), (.alloc [(.imm (.int .i64 0)), (.imm (.int .i64 0))]), [], none, []⟩,
         ⟨none, (.store 2), [.t 9, .t 47], none, [9, 7, 5, 0, 1, 2, 3, 4, 5, 6, 7, 9]⟩,
         ⟨(some 10), .mov, [.t 48], none, [8, 10, 0, 1, 2, 3, 4, 5, 6, 7, 8, 9, 10]⟩] false)
       (.seq
        (.region [⟨(some 49), .mov, [.t 2], none, []⟩,
          ⟨(some 50), (.bin .eql), [.t 49, .c (.int .i64 0)], none, [0]⟩,
          ⟨(some 51), .mov, [.t 50], none, [1]⟩,
          ⟨(some 52), (.load true 2), [.t 1], (some (51, true)), [2]⟩,
          ⟨(some 53), (.build [(.imm (.int .i64 0)), (.imm (.int .i64 0))] [(0, 1), (1, 1)]), [.c (.int .i64 19), .c (.int .i64 98)], (some (51, true)), [2]⟩,
          ⟨(some 54), (.eqs [false, false] false), [.t 52, .t 53], (some (51, true)), [3, 4, 2]⟩,
          ⟨(some 55), .pick, [.t 51, .t 54, .c (.bool false)], none, [2, 5]⟩,
          ⟨(some 56), .mov, [.t 55], none, [6, 2]⟩,
          ⟨(some 57), .mov, [.t 4], (some (56, true)), [7]⟩,
          ⟨(some 58), (.bin .eql), [.t 57, .c (.int .i64 0)], (some (56, true)), [8, 7]⟩,
          ⟨(some 59), .pick, [.t 56, .t 58, .c (.bool false)], none, [7, 9]⟩,
          ⟨(some 60), .mov, [.t 59], none, [10, 7]⟩,
          ⟨(some 61), (.load true 4), [.t 3], (some (60, true)), [11]⟩,
          ⟨(some 62), (.build [(.imm (.int .i64 0)), (.imm (.int .i64 0))] [(0, 1), (1, 1)]), [.c (.int .i64 19), .c (.int .i64 20)], (some (60, true)), [11]⟩,
          ⟨(some 63), (.build [(.imm (.int .i64 0)), (.imm (.int .i64 0))] [(0, 1), (1, 1)]), [.c (.int .i64 98), .c (.int .i64 100)], (some (60, true)), [11]⟩,
          ⟨(some 64), (.build [(.imm (.int .i64 0)), (.imm (.int .i64 0)), (.imm (.int .i64 0)), (.imm (.int .i64 0))] [(0, 2), (2, 2)]), [.t 62, .t 63], (some (60, true)), [13, 14, 11]⟩,
          ⟨(some 65), (.eqs [false, false, false, false] false), [.t 61, .t 64], (some (60, true)), [12, 15, 11]⟩,
          ⟨(some 66), .pick, [.t 60, .t 65, .c (.bool false)], none, [11, 16]⟩,
          ⟨(some 67), .mov, [.t 66], none, [17, 11]⟩,
          ⟨(some 68), .mov, [.t 6], (some (67, true)), [18]⟩,
          ⟨(some 69), (.bin .eql), [.t 68, .c (.int .i64 0)], (some (67, true)), [19, 18]⟩,
          ⟨(some 70), .pick, [.t 67, .t 69, .c (.bool false)], none, [18, 20]⟩,
          ⟨(some 71), .mov, [.t 70], none, [21, 18]⟩,
          ⟨(some 72), .movv, [.t 5], (some (71, true)), [22]⟩,
          ⟨(some 73), (.bsl 1), [.c (.int .i64 20), .c (.int .i64 20), .c (.int .i64 50), .c (.int .i64 50), .c (.int .i64 0)], (some (71, true)), [22]⟩,
          ⟨(some 74), .call, [.f 46, .t 72, .t 73], (some (71, true)), [23, 24, 22, 22]⟩,
          ⟨(some 75), .pick, [.t 71, .t 74, .c (.bool false)], none, [22, 25]⟩,
          ⟨(some 76), .mov, [.t 75], none, [26, 25]⟩,
          ⟨(some 77), .mov, [.t 8], (some (76, true)), [27]⟩,
          ⟨(some 78), (.bin .eql), [.t 77, .c (.int .i64 0)], (some (76, true)), [28, 27]⟩,
          ⟨(some 79), .pick, [.t 76, .t 78, .c (.bool false)], none, [27, 29]⟩,
          ⟨(some 80), .mov, [.t 79], none, [30, 27]⟩,
          ⟨(some 81), (.faddr 4 false 1), [.t 7], (some (80, true)), [31]⟩,
          ⟨(some 82), (.load false 1), [.t 81], (some (80, true)), [32, 31]⟩,
          ⟨(some 83), (.bin .eql), [.t 82, .c (.int .i64 58)], (some (80, true)), [33, 31]⟩,
          ⟨(some 84), .pick, [.t 80, .t 83, .c (.bool false)], none, [31, 34]⟩,
          ⟨(some 85), .mov, [.t 84], none, [35, 31]⟩,
          ⟨(some 86), .mov, [.t 10], (some (85, true)), [36]⟩,
          ⟨(some 87), (.bin .eql), [.t 86, .c (.int .i64 0)], (some (85, true)), [37, 36]⟩,
          ⟨(some 88), .pick, [.t 85, .t 87, .c (.bool false)], none, [36, 38]⟩,
          ⟨(some 89), .mov, [.t 88], none, [39, 36]⟩,
          ⟨(some 90), (.load true 2), [.t 9], (some (89, true)), [40]⟩,
          ⟨(some 91), (.build [(.imm (.int .i64 0)), (.imm (.int .i64 0))] [(0, 1), (1, 1)]), [.c (.int .i64 19), .c (.int .i64 58)], (some (89, true)), [40]⟩,
          ⟨(some 92), (.eqs [false, false] false), [.t 90, .t 91], (some (89, true)), [41, 42, 40]⟩,
          ⟨(some 93), .pick, [.t 89, .t 92, .c (.bool false)], none, [40, 43]⟩,
          ⟨(some 0), .mov, [.t 93], none, [44, 40, 0, 1, 2, 3, 4, 5, 6, 7, 8, 9, 10, 11, 12, 13, 14, 15, 16, 17, 18, 19, 20, 21, 22, 23, 24, 25, 26, 27, 28, 29, 30, 31, 32, 33, 34, 35, 36, 37, 38, 39, 40, 41, 42, 43, 44]⟩] false)
        .ret)))))))
def d15 : DFn := ⟨0, 94, [.tmp 0], b15⟩
theorem body15 : d15.body = b15 := rfl
theorem res15 : d15.res = [.tmp 0] := rfl
theorem k15 : chkFn Try.prog Try.f15 d15 = true := by kernel_rfl

end Go.DI

/- Contracts: the examples of the laws. No condition. -/
set_option linter.unusedSimpArgs false
namespace Go.DI
open Go.Proofs Go.RowKit Sg

theorem c_Size {n : Int} (h1 : -9223372036854775807 ≤ n) (h2 : n ≤ 9223372036854775807) : Contract Try.prog 144 [.int .i64 n] (.int .i64 n.natAbs) := by
  refine contract_run Try.func144 k144 rfl ?_
  simp only [body144, b144, res144, ↓reduceIte, reduceCtorEq, Nat.reduceEqDiff, Nat.reduceAdd, Nat.reduceMul, Nat.reduceSub, Nat.reduceLeDiff, Nat.reduceBEq, Int.reduceToNat, Int.reduceLE, Int.reduceLT, Int.reduceEq, Int.reduceNe, di0, di1, di2, di3, di4, di5, di6, di7, di8, di9, postX_ret, postX_normal, ex_some]
  rw [wrap64 (by omega) (by omega)]
  congr 2
  omega

theorem c_Within {x lo hi : Int} : Contract Try.prog 27 [.int .i64 x, .int .i64 lo, .int .i64 hi] (.bool (decide (lo ≤ x ∧ x ≤ hi))) := by
  refine contract_run Try.func27 k27 rfl ?_
  simp only [body27, b27, res27, ↓reduceIte, reduceCtorEq, Nat.reduceEqDiff, Nat.reduceAdd, Nat.reduceMul, Nat.reduceSub, Nat.reduceLeDiff, Nat.reduceBEq, Int.reduceToNat, Int.reduceLE, Int.reduceLT, Int.reduceEq, Int.reduceNe, di0, di1, di2, di3, di4, di5, di6, di7, di8, di9, postX_ret, postX_normal, ex_some]
  split
  · rename_i h; simp [h]
  · rename_i h; simp [h]

theorem eq_of_getD {α : Type} (d : α) : ∀ {a b : List α}, a.length = b.length → (∀ i, i < a.length → a.getD i d = b.getD i d) → a = b
  | [], [], _, _ => rfl
  | [], _ :: _, h, _ => by cases h
  | _ :: _, [], h, _ => by cases h
  | x :: a, y :: b, h, k => by
    have h0 : x = y := by simpa using k 0 (by simp)
    rw [h0, eq_of_getD d (a := a) (b := b) (by simpa using h) (fun i hi => by have := k (i + 1) (by simpa using hi); simpa using this)]

theorem c_Ints {a b : List Int} (ha : a.length ≤ 1000000000000) : Contract Try.prog 46 [.slc 1 (a.map (.int .i64)), .slc 1 (b.map (.int .i64))] (.bool (decide (a = b))) := by
  refine contract_run Try.func46 k46 rfl ?_
  simp only [body46, b46, res46, b46k0, b46k1, b46k2, b46k3, ↓reduceIte, reduceCtorEq, Nat.reduceEqDiff, Nat.reduceAdd, Nat.reduceMul, Nat.reduceSub, Nat.reduceLeDiff, Nat.reduceBEq, Int.reduceToNat, Int.reduceLE, Int.reduceLT, Int.reduceEq, Int.reduceNe, di0, di1, di2, di3, di4, di5, di6, di7, di8, di9, postX_ret, postX_normal, ex_some]
  split
  · rename_i hl
    have hl : a.length = b.length := by omega
    refine loop_keep (α := Nat) rfl (fun i => a.length - i) (fun i => i ≤ a.length ∧ ∀ j, j < i → a.getD j 0 = b.getD j 0)
      (fun i => [(0, .imm (.slc 1 (a.map (.int .i64)))), (1, .imm (.slc 1 (b.map (.int .i64)))), (5, .imm (.int .i64 i))]) (fun _ => []) 0 ⟨Nat.zero_le _, fun j hj => by omega⟩ (by simp only [↓reduceIte, reduceCtorEq, Nat.reduceEqDiff, Nat.reduceAdd, Nat.reduceMul, Nat.reduceSub, Nat.reduceLeDiff, Nat.reduceBEq, Int.reduceToNat, Int.reduceLE, Int.reduceLT, Int.reduceEq, Int.reduceNe, di0, di1, di2, di3, di4, di5, di6, di7, di8, di9, postX_ret, postX_normal, ex_some] <;> rfl) ?_
    intro i ⟨hi, he⟩ ih
    simp only [res46, b46k0, b46k1, b46k2, b46k3, ↓reduceIte, reduceCtorEq, Nat.reduceEqDiff, Nat.reduceAdd, Nat.reduceMul, Nat.reduceSub, Nat.reduceLeDiff, Nat.reduceBEq, Int.reduceToNat, Int.reduceLE, Int.reduceLT, Int.reduceEq, Int.reduceNe, di0, di1, di2, di3, di4, di5, di6, di7, di8, di9, postX_ret, postX_normal, ex_some]
    split
    · rename_i h
      repeat (refine And.intro (by omega) ?_)
      split
      · rename_i h2
        rw [wrap64 (by omega) (by omega)]
        refine ih (i + 1) _ _ (by omega) ⟨by omega, fun j hj => ?_⟩ (by simp only [↓reduceIte, reduceCtorEq, Nat.reduceEqDiff, Nat.reduceAdd, Nat.reduceMul, Nat.reduceSub, Nat.reduceLeDiff, Nat.reduceBEq, Int.reduceToNat, Int.reduceLE, Int.reduceLT, Int.reduceEq, Int.reduceNe, di0, di1, di2, di3, di4, di5, di6, di7, di8, di9, postX_ret, postX_normal, ex_some] <;> rfl)
        by_cases e : j = i
        · subst e; exact h2
        · exact he j (by omega)
      · rename_i h2
        have : ¬ a = b := fun k => h2 (by rw [k])
        rw [decide_eq_false this]
    · rename_i h
      have : a = b := eq_of_getD 0 hl (fun j hj => he j (by omega))
      rw [decide_eq_true this]
  · rename_i hl
    have : ¬ a = b := fun k => hl (by rw [k])
    rw [decide_eq_false this]

def ruA : Ru := ⟨10, 5, 0, 2, 0⟩
def plA : Pl := ⟨100, [-80, 30, -50], 2, 5⟩
def plB : Pl := ⟨100, [-100], 1, 3⟩
theorem s_lawRules : Contract Try.prog 84 [] (ruI ruA) := by
  refine contract_run Try.func84 k84 rfl ?_
  simp only [body84, b84, res84, ruA, ruI, ssI, sbI, spI, swI, scI, stI, srI, saI, snI, ↓reduceIte, reduceCtorEq, Nat.reduceEqDiff, Nat.reduceAdd, Nat.reduceMul, Nat.reduceSub, Nat.reduceLeDiff, Nat.reduceBEq, Int.reduceToNat, Int.reduceLE, Int.reduceLT, Int.reduceEq, Int.reduceNe, di0, di1, di2, di3, di4, di5, di6, di7, di8, di9, postX_ret, postX_normal, ex_some]
theorem s_lawPlan : Contract Try.prog 85 [] (spI plA) := by
  refine contract_run Try.func85 k85 rfl ?_
  simp only [body85, b85, res85, plA, ruI, ssI, sbI, spI, swI, scI, stI, srI, saI, snI, ↓reduceIte, reduceCtorEq, Nat.reduceEqDiff, Nat.reduceAdd, Nat.reduceMul, Nat.reduceSub, Nat.reduceLeDiff, Nat.reduceBEq, Int.reduceToNat, Int.reduceLE, Int.reduceLT, Int.reduceEq, Int.reduceNe, di0, di1, di2, di3, di4, di5, di6, di7, di8, di9, postX_ret, postX_normal, ex_some]
theorem s_lawDrop : Contract Try.prog 86 [] (spI plB) := by
  refine contract_run Try.func86 k86 rfl ?_
  simp only [body86, b86, res86, plB, ruI, ssI, sbI, spI, swI, scI, stI, srI, saI, snI, ↓reduceIte, reduceCtorEq, Nat.reduceEqDiff, Nat.reduceAdd, Nat.reduceMul, Nat.reduceSub, Nat.reduceLeDiff, Nat.reduceBEq, Int.reduceToNat, Int.reduceLE, Int.reduceLT, Int.reduceEq, Int.reduceNe, di0, di1, di2, di3, di4, di5, di6, di7, di8, di9, postX_ret, postX_normal, ex_some]
theorem s_awake1 : Contract Try.prog 16 [ruI ruA, ssI ⟨0, 100⟩, stI 0 2] (.tup [ssI ⟨19, 98⟩, .int .i64 0]) := by
  have h := s_Stepped (r := ruA) (s := ⟨0, 100⟩) (load := 0) (k := 2)
  rwa [if_pos (by decide), show stp ruA ⟨0, 100⟩ 0 2 = ⟨19, 98⟩ by decide] at h
theorem s_awake2 : Contract Try.prog 25 [ruI ruA, sbI ⟨0, 0, 100, 100⟩, .int .i64 0] (.tup [sbI ⟨19, 20, 98, 100⟩, .int .i64 0]) := by
  have h := s_BoxStep (r := ruA) (b := ⟨0, 0, 100, 100⟩) (load := 0)
  rwa [if_pos (by decide), show bstp ruA ⟨0, 0, 100, 100⟩ 0 = ⟨19, 20, 98, 100⟩ by decide] at h
theorem s_awake3 : Contract Try.prog 42 [ruI ruA, spI plA, snI [0, 1, 2]] (.tup [snI [20, 20, 50, 50, 0], .int .i64 0]) := by
  have h := s_LoadsOf (r := ruA) (p := plA) (o := [0, 1, 2]) (by decide)
  rwa [if_pos (by decide), show loadsP plA [0, 1, 2] = [20, 20, 50, 50, 0] by decide] at h
theorem s_awake4 : ∃ w, w.lev = 58 ∧ Contract Try.prog 30 [ruI ruA, spI plB, .slc 2 [ssI ⟨0, 100⟩]] (.tup [swI w, .int .i64 0]) := by
  have h := s_WorstOf (r := ruA) (p := plB) (ss := [⟨0, 100⟩]) (by decide) (by decide)
  refine ⟨(worstR ruA plB [⟨0, 100⟩]).1, by decide, ?_⟩
  rwa [show (worstR ruA plB [⟨0, 100⟩]).2 = 0 by decide] at h
theorem s_awake5 : Contract Try.prog 60 [ruI ruA, spI plB, .slc 4 [sbI ⟨0, 0, 100, 100⟩]] (.tup [stI 19 58, .int .i64 0]) := by
  have h := s_BoundOf (r := ruA) (p := plB) (bs := [⟨0, 0, 100, 100⟩]) (by decide) (by decide)
  rwa [if_pos (by decide), show boundP ruA plB [⟨0, 0, 100, 100⟩] = (true, 19, 58) by decide] at h

theorem s_awake : Contract Try.prog 15 [] (.bool true) := by
  obtain ⟨w, hw, h4⟩ := s_awake4
  refine contract_run Try.func15 k15 rfl ?_
  simp only [body15, b15, res15, ruI, ssI, sbI, spI, swI, scI, stI, srI, saI, snI, ↓reduceIte, reduceCtorEq, Nat.reduceEqDiff, Nat.reduceAdd, Nat.reduceMul, Nat.reduceSub, Nat.reduceLeDiff, Nat.reduceBEq, Int.reduceToNat, Int.reduceLE, Int.reduceLT, Int.reduceEq, Int.reduceNe, di0, di1, di2, di3, di4, di5, di6, di7, di8, di9, postX_ret, postX_normal, ex_some]
  refine calls_of s_lawRules ?_; simp only [ruI, ssI, sbI, spI, swI, scI, stI, srI, saI, snI, res15, ↓reduceIte, reduceCtorEq, Nat.reduceEqDiff, Nat.reduceAdd, Nat.reduceMul, Nat.reduceSub, Nat.reduceLeDiff, Nat.reduceBEq, Int.reduceToNat, Int.reduceLE, Int.reduceLT, Int.reduceEq, Int.reduceNe, di0, di1, di2, di3, di4, di5, di6, di7, di8, di9, postX_ret, postX_normal, ex_some]
  refine calls_of s_awake1 ?_; simp only [ruI, ssI, sbI, spI, swI, scI, stI, srI, saI, snI, res15, ↓reduceIte, reduceCtorEq, Nat.reduceEqDiff, Nat.reduceAdd, Nat.reduceMul, Nat.reduceSub, Nat.reduceLeDiff, Nat.reduceBEq, Int.reduceToNat, Int.reduceLE, Int.reduceLT, Int.reduceEq, Int.reduceNe, di0, di1, di2, di3, di4, di5, di6, di7, di8, di9, postX_ret, postX_normal, ex_some]
  refine calls_of s_lawRules ?_; simp only [ruI, ssI, sbI, spI, swI, scI, stI, srI, saI, snI, res15, ↓reduceIte, reduceCtorEq, Nat.reduceEqDiff, Nat.reduceAdd, Nat.reduceMul, Nat.reduceSub, Nat.reduceLeDiff, Nat.reduceBEq, Int.reduceToNat, Int.reduceLE, Int.reduceLT, Int.reduceEq, Int.reduceNe, di0, di1, di2, di3, di4, di5, di6, di7, di8, di9, postX_ret, postX_normal, ex_some]
  refine calls_of s_awake2 ?_; simp only [ruI, ssI, sbI, spI, swI, scI, stI, srI, saI, snI, res15, ↓reduceIte, reduceCtorEq, Nat.reduceEqDiff, Nat.reduceAdd, Nat.reduceMul, Nat.reduceSub, Nat.reduceLeDiff, Nat.reduceBEq, Int.reduceToNat, Int.reduceLE, Int.reduceLT, Int.reduceEq, Int.reduceNe, di0, di1, di2, di3, di4, di5, di6, di7, di8, di9, postX_ret, postX_normal, ex_some]
  refine calls_of s_lawRules ?_; simp only [ruI, ssI, sbI, spI, swI, scI, stI, srI, saI, snI, res15, ↓reduceIte, reduceCtorEq, Nat.reduceEqDiff, Nat.reduceAdd, Nat.reduceMul, Nat.reduceSub, Nat.reduceLeDiff, Nat.reduceBEq, Int.reduceToNat, Int.reduceLE, Int.reduceLT, Int.reduceEq, Int.reduceNe, di0, di1, di2, di3, di4, di5, di6, di7, di8, di9, postX_ret, postX_normal, ex_some]
  refine calls_of s_lawPlan ?_; simp only [ruI, ssI, sbI, spI, swI, scI, stI, srI, saI, snI, res15, ↓reduceIte, reduceCtorEq, Nat.reduceEqDiff, Nat.reduceAdd, Nat.reduceMul, Nat.reduceSub, Nat.reduceLeDiff, Nat.reduceBEq, Int.reduceToNat, Int.reduceLE, Int.reduceLT, Int.reduceEq, Int.reduceNe, di0, di1, di2, di3, di4, di5, di6, di7, di8, di9, postX_ret, postX_normal, ex_some]
  refine calls_of s_awake3 ?_; simp only [ruI, ssI, sbI, spI, swI, scI, stI, srI, saI, snI, res15, ↓reduceIte, reduceCtorEq, Nat.reduceEqDiff, Nat.reduceAdd, Nat.reduceMul, Nat.reduceSub, Nat.reduceLeDiff, Nat.reduceBEq, Int.reduceToNat, Int.reduceLE, Int.reduceLT, Int.reduceEq, Int.reduceNe, di0, di1, di2, di3, di4, di5, di6, di7, di8, di9, postX_ret, postX_normal, ex_some]
  refine calls_of s_lawRules ?_; simp only [ruI, ssI, sbI, spI, swI, scI, stI, srI, saI, snI, res15, ↓reduceIte, reduceCtorEq, Nat.reduceEqDiff, Nat.reduceAdd, Nat.reduceMul, Nat.reduceSub, Nat.reduceLeDiff, Nat.reduceBEq, Int.reduceToNat, Int.reduceLE, Int.reduceLT, Int.reduceEq, Int.reduceNe, di0, di1, di2, di3, di4, di5, di6, di7, di8, di9, postX_ret, postX_normal, ex_some]
  refine calls_of s_lawDrop ?_; simp only [ruI, ssI, sbI, spI, swI, scI, stI, srI, saI, snI, res15, ↓reduceIte, reduceCtorEq, Nat.reduceEqDiff, Nat.reduceAdd, Nat.reduceMul, Nat.reduceSub, Nat.reduceLeDiff, Nat.reduceBEq, Int.reduceToNat, Int.reduceLE, Int.reduceLT, Int.reduceEq, Int.reduceNe, di0, di1, di2, di3, di4, di5, di6, di7, di8, di9, postX_ret, postX_normal, ex_some]
  refine calls_of h4 ?_; simp only [ruI, ssI, sbI, spI, swI, scI, stI, srI, saI, snI, res15, ↓reduceIte, reduceCtorEq, Nat.reduceEqDiff, Nat.reduceAdd, Nat.reduceMul, Nat.reduceSub, Nat.reduceLeDiff, Nat.reduceBEq, Int.reduceToNat, Int.reduceLE, Int.reduceLT, Int.reduceEq, Int.reduceNe, di0, di1, di2, di3, di4, di5, di6, di7, di8, di9, postX_ret, postX_normal, ex_some]
  refine calls_of s_lawRules ?_; simp only [ruI, ssI, sbI, spI, swI, scI, stI, srI, saI, snI, res15, ↓reduceIte, reduceCtorEq, Nat.reduceEqDiff, Nat.reduceAdd, Nat.reduceMul, Nat.reduceSub, Nat.reduceLeDiff, Nat.reduceBEq, Int.reduceToNat, Int.reduceLE, Int.reduceLT, Int.reduceEq, Int.reduceNe, di0, di1, di2, di3, di4, di5, di6, di7, di8, di9, postX_ret, postX_normal, ex_some]
  refine calls_of s_lawDrop ?_; simp only [ruI, ssI, sbI, spI, swI, scI, stI, srI, saI, snI, res15, ↓reduceIte, reduceCtorEq, Nat.reduceEqDiff, Nat.reduceAdd, Nat.reduceMul, Nat.reduceSub, Nat.reduceLeDiff, Nat.reduceBEq, Int.reduceToNat, Int.reduceLE, Int.reduceLT, Int.reduceEq, Int.reduceNe, di0, di1, di2, di3, di4, di5, di6, di7, di8, di9, postX_ret, postX_normal, ex_some]
  refine calls_of s_awake5 ?_; simp only [ruI, ssI, sbI, spI, swI, scI, stI, srI, saI, snI, res15, ↓reduceIte, reduceCtorEq, Nat.reduceEqDiff, Nat.reduceAdd, Nat.reduceMul, Nat.reduceSub, Nat.reduceLeDiff, Nat.reduceBEq, Int.reduceToNat, Int.reduceLE, Int.reduceLT, Int.reduceEq, Int.reduceNe, di0, di1, di2, di3, di4, di5, di6, di7, di8, di9, postX_ret, postX_normal, ex_some]

  refine calls_of (c_Ints (a := [20, 20, 50, 50, 0]) (b := [20, 20, 50, 50, 0]) (by decide)) ?_; simp only [ruI, ssI, sbI, spI, swI, scI, stI, srI, saI, snI, res15, ↓reduceIte, reduceCtorEq, Nat.reduceEqDiff, Nat.reduceAdd, Nat.reduceMul, Nat.reduceSub, Nat.reduceLeDiff, Nat.reduceBEq, Int.reduceToNat, Int.reduceLE, Int.reduceLT, Int.reduceEq, Int.reduceNe, di0, di1, di2, di3, di4, di5, di6, di7, di8, di9, postX_ret, postX_normal, ex_some]
  rw [if_pos hw]
  trivial
end Go.DI


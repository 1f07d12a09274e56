/- The statement TopWaveLimit, as a contract. No condition. -/
import Derived.Test.YtadmimjaelodkaaWis
import Derived.Test.YtadmimjaelodkaaWit
set_option linter.unusedSimpArgs false
set_option maxRecDepth 100000
namespace Go.DI
open Go.Proofs Go.RowKit

theorem pkC_le {t : Nat} {l : List Int} {o u : Int × Int × Int} (h : o.1 ≤ u.1) : ∀ k, (pkC loB t l o k).1 ≤ (pkC hiB t l u k).1
  | 0 => h
  | k + 1 => by
    have ih := pkC_le (t := t) (l := l) h k
    unfold pkC
    by_cases hc : t + k = 0
    · rw [if_pos (.inl hc), if_pos (.inl hc)]; exact Int.le_refl _
    · by_cases h1 : l.getD k 0 < (pkC loB t l o k).1
      · rw [if_pos (.inr (decide_eq_true h1)), if_neg (by rintro (h2 | h2); exact hc h2; exact absurd (of_decide_eq_true h2) (by omega))]
        show l.getD k 0 ≤ _
        omega
      · rw [if_neg (by rintro (h2 | h2); exact hc h2; exact absurd (of_decide_eq_true h2) h1)]
        by_cases h2 : (pkC hiB t l u k).1 < l.getD k 0
        · rw [if_pos (.inr (decide_eq_true h2))]
          show _ ≤ l.getD k 0
          omega
        · rw [if_neg (by rintro (h3 | h3); exact hc h3; exact absurd (of_decide_eq_true h3) h2)]
          exact ih
theorem pkT_le {x : Ow} {law : List Int} : ∀ t, (pkT loB x law t).1 ≤ (pkT hiB x law t).1
  | 0 => Int.le_refl _
  | t + 1 => pkC_le (pkT_le t) _
theorem pkC_in {b : Int → Int → Bool} {t : Nat} {l : List Int} {o : Int × Int × Int} {M : Int} (hl : ∀ i, -M ≤ l.getD i 0 ∧ l.getD i 0 ≤ M) (ho : -M ≤ o.1 ∧ o.1 ≤ M) : ∀ k, -M ≤ (pkC b t l o k).1 ∧ (pkC b t l o k).1 ≤ M
  | 0 => ho
  | k + 1 => by
    unfold pkC
    split
    · exact hl k
    · exact pkC_in hl ho k
/-- On a plain line no pressure of a cell is greater than the closing. -/
theorem plain_pk {b : Int → Int → Bool} {x : Ln} {law : List Int} {M : Int} (hx : LineOk x) (hp : plainL x = true) (hM : 0 ≤ M ∧ M ≤ 10000) (h0 : ∀ t, 0 ≤ atL law t) (h1 : ∀ t, atL law t ≤ M) (hm : ∀ s t, s ≤ t → atL law s ≤ atL law t) : ∀ t, -M ≤ (pkT b (opn x) law t).1 ∧ (pkT b (opn x) law t).1 ≤ M
  | 0 => by simp [pkT]; omega
  | t + 1 => by
    have hn := (opn_ok hx).nb
    refine pkC_in (fun i => ?_) (plain_pk hx hp hM h0 h1 hm t) _
    obtain ⟨eF, eB⟩ := plain_law hx hp hM.2 h0 h1 hm (t + 1)
    have heb := fun t => eV_bd (f := atL law) (n := (opn x).n.toNat) (by omega) h0 hm t t (Nat.le_refl _)
    by_cases hi : i < (opn x).n.toNat
    · have : (presK (lawS (opn x) law (t + 1)) (opn x).n.toNat).getD i 0 = W6 ((lawS (opn x) law (t + 1)).F.getD i 0 + (lawS (opn x) law (t + 1)).B.getD i 0) := by simp [presK, List.getD_eq_getElem?_getD, hi]
      rw [this, eF, eB, plF_get hi, plB_get hi]
      have a1 := heb (t + 1 - 1 - i - (opn x).n.toNat)
      have a2 := h1 (t + 1 - 1 - i - (opn x).n.toNat)
      have a3 := heb (t + 1 + i - (opn x).n.toNat)
      have a4 := h1 (t + 1 + i - (opn x).n.toNat)
      generalize eV (atL law) (opn x).n.toNat (t + 1 - 1 - i - (opn x).n.toNat) = e1 at *
      generalize eV (atL law) (opn x).n.toNat (t + 1 + i - (opn x).n.toNat) = e2 at *
      have : ∀ u v : Int, -M ≤ u ∧ u ≤ 0 → 0 ≤ v ∧ v ≤ M → -M ≤ W6 (u + v) ∧ W6 (u + v) ≤ M := by
        intro u v h1 h2
        rw [w6 (by omega) (by omega)]; omega
      exact this _ _ (by split <;> omega) (by split <;> omega)
    · rw [getD_out (by rw [presK_length]; omega)]; omega
theorem keeps_wide {x : Ow} {t u : Tk} {law : List Int} (ht : 0 ≤ t.ti) (he : u.ti = t.ti) (hl : u.lo ≤ t.lo) (hh : t.hi ≤ u.hi) (h : keeps x t law = true) : keeps x u law = true := by
  rw [keeps_iff (by omega)] at h ⊢
  rw [he]
  rw [idxF_none] at h ⊢
  intro v hv
  have := h v hv
  simp only [outP, Bool.not_eq_false', decide_eq_true_eq] at this ⊢
  omega
theorem keeps_at {x : Ow} {t : Tk} {law : List Int} (ht : 0 ≤ t.ti) (h : keeps x t law = true) {i : Nat} (hi : i < t.ti.toNat) : t.lo ≤ valve x law i ∧ valve x law i ≤ t.hi := by
  rw [keeps_iff ht, idxF_none] at h
  have := h (valve x law i) (List.mem_map.2 ⟨i, List.mem_range.2 hi, rfl⟩)
  simpa [outP] using this
theorem atL_one {c : Int} (t : Nat) : atL [c] t = c := by
  unfold atL
  rw [show min t ([c].length - 1) = 0 by simp]
  rfl
theorem fast_plain {x : Ln} {t : Tk} (hx : LineOk x) (hp : plainL x = true) (ht : TkOk t) : fast (opn x) ⟨t.cl, t.mo, t.ti, -t.cl, t.cl⟩ = [t.cl] := by
  have hcl := ht.cl
  have hmo := ht.mo
  have hti := ht.ti
  have hn := (opn_ok hx).nb
  have hk : keeps (opn x) ⟨t.cl, t.mo, t.ti, -t.cl, t.cl⟩ [t.cl] = true := by
    rw [keeps_iff (by show 0 ≤ t.ti; omega), idxF_none]
    intro v hv
    obtain ⟨i, _, rfl⟩ := List.mem_map.1 hv
    have hv := plain_valve (law := [t.cl]) (M := 10000) hx hp (by decide) (fun t => by rw [atL_one]; omega) (fun t => by rw [atL_one]; omega) (fun s t _ => by rw [atL_one, atL_one]; exact Int.le_refl _) i
    have heb := eV_bd (f := atL [t.cl]) (n := (opn x).n.toNat) (by omega) (fun t => by rw [atL_one]; omega) (fun s t _ => by rw [atL_one, atL_one]; exact Int.le_refl _) (i - 2 * (opn x).n.toNat) _ (Nat.le_refl _)
    rw [atL_one] at hv heb
    simp only [outP, Bool.not_eq_false', decide_eq_true_eq]
    rw [hv]
    split <;> omega
  unfold fast
  show fastL (opn x) ⟨t.cl, t.mo, t.ti, -t.cl, t.cl⟩ 0 t.mo.toNat = _
  obtain ⟨m, hm⟩ : ∃ m, t.mo.toNat = m + 1 := ⟨t.mo.toNat - 1, by omega⟩
  rw [hm]
  unfold fastL
  rw [lawsL_nil]
  simp only [refL, List.find?_cons, hk]
theorem fast_bd {x : Ow} {t : Tk} (ht : TkOk t) (hf : fast x t ≠ []) : Asc 0 (fast x t) ∧ ∀ i, 0 ≤ atL (fast x t) i ∧ atL (fast x t) i ≤ t.cl := by
  obtain ⟨⟨⟨k1, k2, k3⟩, k4⟩, k5, _⟩ := fast_some ht hf
  have hasc := chkW_asc.1 k5
  refine ⟨hasc.2, fun i => ⟨(atL_rng hasc.2 i).1, ?_⟩⟩
  have h1 := atL_mono hasc.2 (min i ((fast x t).length - 1)) ((fast x t).length - 1) (by omega)
  have e1 : atL (fast x t) (min i ((fast x t).length - 1)) = atL (fast x t) i := by
    unfold atL
    rw [show min (min i ((fast x t).length - 1)) ((fast x t).length - 1) = min i ((fast x t).length - 1) by omega]
  have e2 : atL (fast x t) ((fast x t).length - 1) = t.cl := by
    unfold atL
    rw [Nat.min_self]; exact k2
  omega

theorem a_1' : Contract Try.prog 39 [lnI pipeX, nI [5], .int .i64 5] (.tup [nI [5, 5, 5, 5, -5], .int .i64 0]) := by
  have h := w_ValvePressures (x := pipeX) (law := [5]) (t := 5) few_pipe (by decide)
  rwa [if_pos (by decide), show valveL (opn pipeX) [5] (5 : Int).toNat = [5, 5, 5, 5, -5] by decide] at h
theorem l_waveShown : Contract Try.prog 54 [] (.bool true) := by
  refine contract_run Try.func54 k54 rfl ?_
  simp only [body54, b54, res54, vaE, ↓reduceIte, reduceCtorEq, Nat.reduceEqDiff, Nat.reduceAdd, Nat.reduceMul, Nat.reduceSub, Nat.reduceLeDiff, Nat.reduceBEq, Int.reduceToNat, Int.reduceLE, Int.reduceLT, Int.reduceEq, Int.reduceNe, di]
  refine calls_of l_Pipe ?_; simp only [vaE, res54, ↓reduceIte, reduceCtorEq, Nat.reduceEqDiff, Nat.reduceAdd, Nat.reduceMul, Nat.reduceSub, Nat.reduceLeDiff, Nat.reduceBEq, Int.reduceToNat, Int.reduceLE, Int.reduceLT, Int.reduceEq, Int.reduceNe, di]
  simp only [pipeX, vaE, ↓reduceIte, reduceCtorEq, Nat.reduceEqDiff, Nat.reduceAdd, Nat.reduceMul, Nat.reduceSub, Nat.reduceLeDiff, Nat.reduceBEq, Int.reduceToNat, Int.reduceLE, Int.reduceLT, Int.reduceEq, Int.reduceNe, di]
  refine calls_of a_1' ?_; simp only [vaE, res54, ↓reduceIte, reduceCtorEq, Nat.reduceEqDiff, Nat.reduceAdd, Nat.reduceMul, Nat.reduceSub, Nat.reduceLeDiff, Nat.reduceBEq, Int.reduceToNat, Int.reduceLE, Int.reduceLT, Int.reduceEq, Int.reduceNe, di]
  refine calls_of l_Line ?_; simp only [vaE, res54, ↓reduceIte, reduceCtorEq, Nat.reduceEqDiff, Nat.reduceAdd, Nat.reduceMul, Nat.reduceSub, Nat.reduceLeDiff, Nat.reduceBEq, Int.reduceToNat, Int.reduceLE, Int.reduceLT, Int.reduceEq, Int.reduceNe, di]
  refine calls_of a_4 ?_; simp only [vaE, res54, ↓reduceIte, reduceCtorEq, Nat.reduceEqDiff, Nat.reduceAdd, Nat.reduceMul, Nat.reduceSub, Nat.reduceLeDiff, Nat.reduceBEq, Int.reduceToNat, Int.reduceLE, Int.reduceLT, Int.reduceEq, Int.reduceNe, di]
  simp only [ratI, vaE, ↓reduceIte, reduceCtorEq, Nat.reduceEqDiff, Nat.reduceAdd, Nat.reduceMul, Nat.reduceSub, Nat.reduceLeDiff, Nat.reduceBEq, Int.reduceToNat, Int.reduceLE, Int.reduceLT, Int.reduceEq, Int.reduceNe, di]
  refine calls_of (c_Ints (a := [5, 5, 5, 5, -5]) (b := [5, 5, 5, 5, -5]) (by decide)) ?_; simp only [vaE, res54, ↓reduceIte, reduceCtorEq, Nat.reduceEqDiff, Nat.reduceAdd, Nat.reduceMul, Nat.reduceSub, Nat.reduceLeDiff, Nat.reduceBEq, Int.reduceToNat, Int.reduceLE, Int.reduceLT, Int.reduceEq, Int.reduceNe, di]

theorem tail_TopWaveLimit {x : Ln} {t : Tk} (hx : Few x) (hxo : LineOk x) (ht : TkOk t) (hti : t.ti ≤ 30) (hcl4 : t.cl ≤ 4) :
    run Try.prog b8k7 [] (d8.post (.bool true)) (mkS [(3, .ref 3 0), (4, .ref 4 0), (8, .imm (nI (fast (opn x) t))), (9, .imm (.int .i64 (if fast (opn x) t = [] then 12 else 0)))]
      [(3, .box [.imm (.slc 2 (x.pp.map ppI)), .imm (nI x.ar)]), (4, .box [.imm (.int .i64 t.cl), .imm (.int .i64 t.mo), .imm (.int .i64 t.ti), .imm (.int .i64 t.lo), .imm (.int .i64 t.hi)])]) := by
  simp only [b8k7, res8, b8k0, b8k1, b8k2, b8k3, b8k4, b8k5, b8k6, b8k7, b8k8, b8k9, b8k10, vaE, ↓reduceIte, reduceCtorEq, Nat.reduceEqDiff, Nat.reduceAdd, Nat.reduceMul, Nat.reduceSub, Nat.reduceLeDiff, Nat.reduceBEq, Int.reduceToNat, Int.reduceLE, Int.reduceLT, Int.reduceEq, Int.reduceNe, di]
  by_cases hfe : fast (opn x) t = []
  · simp only [hfe, vaE, ↓reduceIte, reduceCtorEq, Nat.reduceEqDiff, Nat.reduceAdd, Nat.reduceMul, Nat.reduceSub, Nat.reduceLeDiff, Nat.reduceBEq, Int.reduceToNat, Int.reduceLE, Int.reduceLT, Int.reduceEq, Int.reduceNe, di]
  simp only [hfe, vaE, ↓reduceIte, reduceCtorEq, Nat.reduceEqDiff, Nat.reduceAdd, Nat.reduceMul, Nat.reduceSub, Nat.reduceLeDiff, Nat.reduceBEq, Int.reduceToNat, Int.reduceLE, Int.reduceLT, Int.reduceEq, Int.reduceNe, di]
  obtain ⟨⟨⟨k1, k2, k3⟩, k4⟩, k5, _⟩ := fast_some ht hfe
  obtain ⟨hasc, hbd⟩ := fast_bd ht hfe
  have hmo := ht.mo
  have hcl := ht.cl
  have hti0 := ht.ti
  generalize hlaw : fast (opn x) t = law at *
  have hl2 : law.length ≤ 1000000 := by omega
  refine calls_of (r_LawErr hl2) ?_; simp only [vaE, res8, b8k0, b8k1, b8k2, b8k3, b8k4, b8k5, b8k6, b8k7, b8k8, b8k9, b8k10, ↓reduceIte, reduceCtorEq, Nat.reduceEqDiff, Nat.reduceAdd, Nat.reduceMul, Nat.reduceSub, Nat.reduceLeDiff, Nat.reduceBEq, Int.reduceToNat, Int.reduceLE, Int.reduceLT, Int.reduceEq, Int.reduceNe, di]
  simp only [k5, vaE, ↓reduceIte, reduceCtorEq, Nat.reduceEqDiff, Nat.reduceAdd, Nat.reduceMul, Nat.reduceSub, Nat.reduceLeDiff, Nat.reduceBEq, Int.reduceToNat, Int.reduceLE, Int.reduceLT, Int.reduceEq, Int.reduceNe, di]
  rw [if_neg (by omega)]
  have hr : lawRunE x law t.ti = 0 := lawRunE_zero.2 ⟨hxo, k5, by omega⟩
  have hvp := w_ValvePressures' (law := law) (t := t.ti) hx hl2
  have hhi := w_HighestOf (law := law) (t := t.ti) hx hl2
  have hlo := w_LowestOf (law := law) (t := t.ti) hx hl2
  rw [hr, show valZ x law t.ti = valveL (opn x) law t.ti.toNat from if_pos hr] at hvp
  rw [hr, show pkZ hiB x law t.ti = pkT hiB (opn x) law t.ti.toNat from if_pos hr] at hhi
  rw [hr, show pkZ loB x law t.ti = pkT loB (opn x) law t.ti.toNat from if_pos hr] at hlo
  simp only [pkI] at hhi hlo
  have hvl := valveL_length (x := opn x) (law := law) (k := t.ti.toNat)
  refine calls_of (r_CopyLine hx) ?_; simp only [vaE, res8, b8k0, b8k1, b8k2, b8k3, b8k4, b8k5, b8k6, b8k7, b8k8, b8k9, b8k10, ↓reduceIte, reduceCtorEq, Nat.reduceEqDiff, Nat.reduceAdd, Nat.reduceMul, Nat.reduceSub, Nat.reduceLeDiff, Nat.reduceBEq, Int.reduceToNat, Int.reduceLE, Int.reduceLT, Int.reduceEq, Int.reduceNe, di]
  refine calls_of (c_CopyInts (a := law) (by omega)) ?_; simp only [vaE, res8, b8k0, b8k1, b8k2, b8k3, b8k4, b8k5, b8k6, b8k7, b8k8, b8k9, b8k10, ↓reduceIte, reduceCtorEq, Nat.reduceEqDiff, Nat.reduceAdd, Nat.reduceMul, Nat.reduceSub, Nat.reduceLeDiff, Nat.reduceBEq, Int.reduceToNat, Int.reduceLE, Int.reduceLT, Int.reduceEq, Int.reduceNe, di]
  refine calls_of hvp ?_; simp only [vaE, res8, b8k0, b8k1, b8k2, b8k3, b8k4, b8k5, b8k6, b8k7, b8k8, b8k9, b8k10, ↓reduceIte, reduceCtorEq, Nat.reduceEqDiff, Nat.reduceAdd, Nat.reduceMul, Nat.reduceSub, Nat.reduceLeDiff, Nat.reduceBEq, Int.reduceToNat, Int.reduceLE, Int.reduceLT, Int.reduceEq, Int.reduceNe, di]
  rw [if_pos (by omega)]
  refine loop_keep (α := Nat) rfl (fun i => t.ti.toNat - i) (fun i => i ≤ t.ti.toNat)
    (fun i => [(3, .ref 3 0), (4, .ref 4 0), (8, .imm (nI law)), (15, .imm (nI (valveL (opn x) law t.ti.toNat))), (17, .imm (.int .i64 i))])
    (fun _ => [(3, .box [.imm (.slc 2 (x.pp.map ppI)), .imm (nI x.ar)]), (4, .box [.imm (.int .i64 t.cl), .imm (.int .i64 t.mo), .imm (.int .i64 t.ti), .imm (.int .i64 t.lo), .imm (.int .i64 t.hi)])]) 0 (Nat.zero_le _) (by simp only [vaE, ↓reduceIte, reduceCtorEq, Nat.reduceEqDiff, Nat.reduceAdd, Nat.reduceMul, Nat.reduceSub, Nat.reduceLeDiff, Nat.reduceBEq, Int.reduceToNat, Int.reduceLE, Int.reduceLT, Int.reduceEq, Int.reduceNe, di] <;> rfl) ?_
  intro i hi ih
  simp only [res8, b8k0, b8k1, b8k2, b8k3, b8k4, b8k5, b8k6, b8k7, b8k8, b8k9, b8k10, vaE, ↓reduceIte, reduceCtorEq, Nat.reduceEqDiff, Nat.reduceAdd, Nat.reduceMul, Nat.reduceSub, Nat.reduceLeDiff, Nat.reduceBEq, Int.reduceToNat, Int.reduceLE, Int.reduceLT, Int.reduceEq, Int.reduceNe, di]
  split
  · rename_i h
    have hit : i < t.ti.toNat := by omega
    have hg : (valveL (opn x) law t.ti.toNat).getD i 0 = valve (opn x) law i := valveL_get hit
    repeat (refine And.intro (by first | omega | exact all_int _ | (simp only [zeros_len, List.length_append, List.length_take, List.length_drop, List.length_set, List.length_cons, List.length_nil, List.length_map]; omega)) ?_)
    rw [hg]
    refine calls_of c_Within ?_; simp only [vaE, res8, b8k0, b8k1, b8k2, b8k3, b8k4, b8k5, b8k6, b8k7, b8k8, b8k9, b8k10, ↓reduceIte, reduceCtorEq, Nat.reduceEqDiff, Nat.reduceAdd, Nat.reduceMul, Nat.reduceSub, Nat.reduceLeDiff, Nat.reduceBEq, Int.reduceToNat, Int.reduceLE, Int.reduceLT, Int.reduceEq, Int.reduceNe, di]
    simp only [keeps_at (by omega) k1 hit, vaE, ↓reduceIte, reduceCtorEq, Nat.reduceEqDiff, Nat.reduceAdd, Nat.reduceMul, Nat.reduceSub, Nat.reduceLeDiff, Nat.reduceBEq, Int.reduceToNat, Int.reduceLE, Int.reduceLT, Int.reduceEq, Int.reduceNe, di]
    rw [wrap64 (n := (i : Int) + 1) (by omega) (by omega)]
    exact ih (i + 1) _ _ (by omega) (by omega) (by simp only [vaE, ↓reduceIte, reduceCtorEq, Nat.reduceEqDiff, Nat.reduceAdd, Nat.reduceMul, Nat.reduceSub, Nat.reduceLeDiff, Nat.reduceBEq, Int.reduceToNat, Int.reduceLE, Int.reduceLT, Int.reduceEq, Int.reduceNe, di] <;> rfl)
  · rename_i h
    refine calls_of (r_CopyLine hx) ?_; simp only [vaE, res8, b8k0, b8k1, b8k2, b8k3, b8k4, b8k5, b8k6, b8k7, b8k8, b8k9, b8k10, ↓reduceIte, reduceCtorEq, Nat.reduceEqDiff, Nat.reduceAdd, Nat.reduceMul, Nat.reduceSub, Nat.reduceLeDiff, Nat.reduceBEq, Int.reduceToNat, Int.reduceLE, Int.reduceLT, Int.reduceEq, Int.reduceNe, di]
    refine calls_of (c_CopyInts (a := law) (by omega)) ?_; simp only [vaE, res8, b8k0, b8k1, b8k2, b8k3, b8k4, b8k5, b8k6, b8k7, b8k8, b8k9, b8k10, ↓reduceIte, reduceCtorEq, Nat.reduceEqDiff, Nat.reduceAdd, Nat.reduceMul, Nat.reduceSub, Nat.reduceLeDiff, Nat.reduceBEq, Int.reduceToNat, Int.reduceLE, Int.reduceLT, Int.reduceEq, Int.reduceNe, di]
    refine calls_of hhi ?_; simp only [vaE, res8, b8k0, b8k1, b8k2, b8k3, b8k4, b8k5, b8k6, b8k7, b8k8, b8k9, b8k10, ↓reduceIte, reduceCtorEq, Nat.reduceEqDiff, Nat.reduceAdd, Nat.reduceMul, Nat.reduceSub, Nat.reduceLeDiff, Nat.reduceBEq, Int.reduceToNat, Int.reduceLE, Int.reduceLT, Int.reduceEq, Int.reduceNe, di]
    refine calls_of (r_CopyLine hx) ?_; simp only [vaE, res8, b8k0, b8k1, b8k2, b8k3, b8k4, b8k5, b8k6, b8k7, b8k8, b8k9, b8k10, ↓reduceIte, reduceCtorEq, Nat.reduceEqDiff, Nat.reduceAdd, Nat.reduceMul, Nat.reduceSub, Nat.reduceLeDiff, Nat.reduceBEq, Int.reduceToNat, Int.reduceLE, Int.reduceLT, Int.reduceEq, Int.reduceNe, di]
    refine calls_of (c_CopyInts (a := law) (by omega)) ?_; simp only [vaE, res8, b8k0, b8k1, b8k2, b8k3, b8k4, b8k5, b8k6, b8k7, b8k8, b8k9, b8k10, ↓reduceIte, reduceCtorEq, Nat.reduceEqDiff, Nat.reduceAdd, Nat.reduceMul, Nat.reduceSub, Nat.reduceLeDiff, Nat.reduceBEq, Int.reduceToNat, Int.reduceLE, Int.reduceLT, Int.reduceEq, Int.reduceNe, di]
    refine calls_of hlo ?_; simp only [vaE, res8, b8k0, b8k1, b8k2, b8k3, b8k4, b8k5, b8k6, b8k7, b8k8, b8k9, b8k10, ↓reduceIte, reduceCtorEq, Nat.reduceEqDiff, Nat.reduceAdd, Nat.reduceMul, Nat.reduceSub, Nat.reduceLeDiff, Nat.reduceBEq, Int.reduceToNat, Int.reduceLE, Int.reduceLT, Int.reduceEq, Int.reduceNe, di]
    have hle := pkT_le (x := opn x) (law := law) t.ti.toNat
    have fin : ∀ {p : Prop} [Decidable p], ¬ p → ∀ {a b : Prop}, b → if p then a else b := by
      intro p _ h a b hb; rw [if_neg h]; exact hb
    refine fin (by omega) ?_
    refine calls_of (r_IsPlain hxo) ?_; simp only [vaE, res8, b8k0, b8k1, b8k2, b8k3, b8k4, b8k5, b8k6, b8k7, b8k8, b8k9, b8k10, ↓reduceIte, reduceCtorEq, Nat.reduceEqDiff, Nat.reduceAdd, Nat.reduceMul, Nat.reduceSub, Nat.reduceLeDiff, Nat.reduceBEq, Int.reduceToNat, Int.reduceLE, Int.reduceLT, Int.reduceEq, Int.reduceNe, di]
    cases hp : plainL x
    · simp only [hp, vaE, ↓reduceIte, reduceCtorEq, Nat.reduceEqDiff, Nat.reduceAdd, Nat.reduceMul, Nat.reduceSub, Nat.reduceLeDiff, Nat.reduceBEq, Int.reduceToNat, Int.reduceLE, Int.reduceLT, Int.reduceEq, Int.reduceNe, di]
    have g1 := plain_pk (b := hiB) (law := law) (M := t.cl) hxo hp (by omega) (fun i => (hbd i).1) (fun i => (hbd i).2) (atL_mono hasc) t.ti.toNat
    have g2 := plain_pk (b := loB) (law := law) (M := t.cl) hxo hp (by omega) (fun i => (hbd i).1) (fun i => (hbd i).2) (atL_mono hasc) t.ti.toNat
    simp only [hp, vaE, ↓reduceIte, reduceCtorEq, Nat.reduceEqDiff, Nat.reduceAdd, Nat.reduceMul, Nat.reduceSub, Nat.reduceLeDiff, Nat.reduceBEq, Int.reduceToNat, Int.reduceLE, Int.reduceLT, Int.reduceEq, Int.reduceNe, di]
    rw [wrap64 (n := 2 * t.cl) (by omega) (by omega), if_pos (by omega), wrap64 (n := -2 * t.cl) (by omega) (by omega), decide_eq_true (by omega)]
theorem mid_TopWaveLimit {x : Ln} {t : Tk} (hx : Few x) (hxo : LineOk x) (ht : TkOk t) (hti : t.ti ≤ 30) (hcl4 : t.cl ≤ 4) (fl : ∀ u : Tk, TkOk u → Contract Try.prog 56 [lnI x, tkI u] (.tup [nI (fast (opn x) u), .int .i64 (if fast (opn x) u = [] then 12 else 0)])) :
    run Try.prog b8k8 [] (d8.post (.bool true)) (mkS [(3, .ref 3 0), (4, .ref 4 0), (8, .imm (nI (fast (opn x) t))), (9, .imm (.int .i64 (if fast (opn x) t = [] then 12 else 0)))]
      [(3, .box [.imm (.slc 2 (x.pp.map ppI)), .imm (nI x.ar)]), (4, .box [.imm (.int .i64 t.cl), .imm (.int .i64 t.mo), .imm (.int .i64 t.ti), .imm (.int .i64 t.lo), .imm (.int .i64 t.hi)])]) := by
  have hcl := ht.cl
  simp only [b8k8, res8, b8k8, b8k9, b8k10, vaE, ↓reduceIte, reduceCtorEq, Nat.reduceEqDiff, Nat.reduceAdd, Nat.reduceMul, Nat.reduceSub, Nat.reduceLeDiff, Nat.reduceBEq, Int.reduceToNat, Int.reduceLE, Int.reduceLT, Int.reduceEq, Int.reduceNe, di]
  refine calls_of (r_IsPlain hxo) ?_; simp only [vaE, res8, b8k8, b8k9, b8k10, ↓reduceIte, reduceCtorEq, Nat.reduceEqDiff, Nat.reduceAdd, Nat.reduceMul, Nat.reduceSub, Nat.reduceLeDiff, Nat.reduceBEq, Int.reduceToNat, Int.reduceLE, Int.reduceLT, Int.reduceEq, Int.reduceNe, di]
  cases hp : plainL x
  · simp only [hp, vaE, ↓reduceIte, reduceCtorEq, Nat.reduceEqDiff, Nat.reduceAdd, Nat.reduceMul, Nat.reduceSub, Nat.reduceLeDiff, Nat.reduceBEq, Int.reduceToNat, Int.reduceLE, Int.reduceLT, Int.reduceEq, Int.reduceNe, di]
    exact tail_TopWaveLimit hx hxo ht hti hcl4
  simp only [hp, vaE, ↓reduceIte, reduceCtorEq, Nat.reduceEqDiff, Nat.reduceAdd, Nat.reduceMul, Nat.reduceSub, Nat.reduceLeDiff, Nat.reduceBEq, Int.reduceToNat, Int.reduceLE, Int.reduceLT, Int.reduceEq, Int.reduceNe, di]
  rw [wrap64 (n := 0 - t.cl) (by omega) (by omega), Int.zero_sub]
  have h3 := fl ⟨t.cl, t.mo, t.ti, -t.cl, t.cl⟩ ⟨ht.cl, ht.mo, ht.ti, by show -1000000 ≤ -t.cl ∧ -t.cl ≤ 1000000; omega, by show -1000000 ≤ t.cl ∧ t.cl ≤ 1000000; omega, by show -t.cl ≤ t.cl; omega⟩
  rw [fast_plain hxo hp ht, if_neg (by simp)] at h3
  refine calls_of (r_CopyLine hx) ?_; simp only [vaE, res8, b8k8, b8k9, b8k10, ↓reduceIte, reduceCtorEq, Nat.reduceEqDiff, Nat.reduceAdd, Nat.reduceMul, Nat.reduceSub, Nat.reduceLeDiff, Nat.reduceBEq, Int.reduceToNat, Int.reduceLE, Int.reduceLT, Int.reduceEq, Int.reduceNe, di]
  refine calls_of h3 ?_; simp only [vaE, res8, b8k8, b8k9, b8k10, ↓reduceIte, reduceCtorEq, Nat.reduceEqDiff, Nat.reduceAdd, Nat.reduceMul, Nat.reduceSub, Nat.reduceLeDiff, Nat.reduceBEq, Int.reduceToNat, Int.reduceLE, Int.reduceLT, Int.reduceEq, Int.reduceNe, di]
  refine calls_of (c_Ints (a := [t.cl]) (b := [t.cl]) (by simp)) ?_; simp only [vaE, res8, b8k8, b8k9, b8k10, ↓reduceIte, reduceCtorEq, Nat.reduceEqDiff, Nat.reduceAdd, Nat.reduceMul, Nat.reduceSub, Nat.reduceLeDiff, Nat.reduceBEq, Int.reduceToNat, Int.reduceLE, Int.reduceLT, Int.reduceEq, Int.reduceNe, di]
  exact tail_TopWaveLimit hx hxo ht hti hcl4
theorem l_TopWaveLimit {x : Ln} {t : Tk} {w : Int} : Contract Try.prog 8 [lnI x, tkI t, .int .i64 w] (.bool true) := by
  refine contract_run Try.func8 k8 rfl ?_
  simp only [body8, b8, res8, b8k9, b8k10, vaE, ↓reduceIte, reduceCtorEq, Nat.reduceEqDiff, Nat.reduceAdd, Nat.reduceMul, Nat.reduceSub, Nat.reduceLeDiff, Nat.reduceBEq, Int.reduceToNat, Int.reduceLE, Int.reduceLT, Int.reduceEq, Int.reduceNe, di]
  refine calls_of l_waveShown ?_; simp only [vaE, res8, b8k9, b8k10, ↓reduceIte, reduceCtorEq, Nat.reduceEqDiff, Nat.reduceAdd, Nat.reduceMul, Nat.reduceSub, Nat.reduceLeDiff, Nat.reduceBEq, Int.reduceToNat, Int.reduceLE, Int.reduceLT, Int.reduceEq, Int.reduceNe, di]
  split
  rotate_left
  · trivial
  rename_i hf
  have hx : Few x := ⟨by omega, by omega⟩
  refine calls_of (r_LineErr hx) ?_; simp only [vaE, res8, b8k9, b8k10, ↓reduceIte, reduceCtorEq, Nat.reduceEqDiff, Nat.reduceAdd, Nat.reduceMul, Nat.reduceSub, Nat.reduceLeDiff, Nat.reduceBEq, Int.reduceToNat, Int.reduceLE, Int.reduceLT, Int.reduceEq, Int.reduceNe, di]
  by_cases h0 : (chkL x).2 = 0
  rotate_left
  · simp only [h0, false_and, vaE, ↓reduceIte, reduceCtorEq, Nat.reduceEqDiff, Nat.reduceAdd, Nat.reduceMul, Nat.reduceSub, Nat.reduceLeDiff, Nat.reduceBEq, Int.reduceToNat, Int.reduceLE, Int.reduceLT, Int.reduceEq, Int.reduceNe, di]
  have hxo := chkL_ok.1 h0
  simp only [h0, vaE, ↓reduceIte, reduceCtorEq, Nat.reduceEqDiff, Nat.reduceAdd, Nat.reduceMul, Nat.reduceSub, Nat.reduceLeDiff, Nat.reduceBEq, Int.reduceToNat, Int.reduceLE, Int.reduceLT, Int.reduceEq, Int.reduceNe, di]
  refine calls_of r_TaskErr ?_; simp only [vaE, res8, b8k9, b8k10, ↓reduceIte, reduceCtorEq, Nat.reduceEqDiff, Nat.reduceAdd, Nat.reduceMul, Nat.reduceSub, Nat.reduceLeDiff, Nat.reduceBEq, Int.reduceToNat, Int.reduceLE, Int.reduceLT, Int.reduceEq, Int.reduceNe, di]
  by_cases ht0 : taskE t = 0
  rotate_left
  · simp only [ht0, false_and, vaE, ↓reduceIte, reduceCtorEq, Nat.reduceEqDiff, Nat.reduceAdd, Nat.reduceMul, Nat.reduceSub, Nat.reduceLeDiff, Nat.reduceBEq, Int.reduceToNat, Int.reduceLE, Int.reduceLT, Int.reduceEq, Int.reduceNe, di]
  have ht := taskE_zero.1 ht0
  simp only [ht0, vaE, ↓reduceIte, reduceCtorEq, Nat.reduceEqDiff, Nat.reduceAdd, Nat.reduceMul, Nat.reduceSub, Nat.reduceLeDiff, Nat.reduceBEq, Int.reduceToNat, Int.reduceLE, Int.reduceLT, Int.reduceEq, Int.reduceNe, di]
  split
  rotate_left
  · trivial
  rename_i hg
  refine calls_of c_Within ?_; simp only [vaE, res8, b8k9, b8k10, ↓reduceIte, reduceCtorEq, Nat.reduceEqDiff, Nat.reduceAdd, Nat.reduceMul, Nat.reduceSub, Nat.reduceLeDiff, Nat.reduceBEq, Int.reduceToNat, Int.reduceLE, Int.reduceLT, Int.reduceEq, Int.reduceNe, di]
  by_cases hw : 0 ≤ w ∧ w ≤ 10
  rotate_left
  · simp only [hw, false_and, vaE, ↓reduceIte, reduceCtorEq, Nat.reduceEqDiff, Nat.reduceAdd, Nat.reduceMul, Nat.reduceSub, Nat.reduceLeDiff, Nat.reduceBEq, Int.reduceToNat, Int.reduceLE, Int.reduceLT, Int.reduceEq, Int.reduceNe, di]
  simp only [hw, vaE, ↓reduceIte, reduceCtorEq, Nat.reduceEqDiff, Nat.reduceAdd, Nat.reduceMul, Nat.reduceSub, Nat.reduceLeDiff, Nat.reduceBEq, Int.reduceToNat, Int.reduceLE, Int.reduceLT, Int.reduceEq, Int.reduceNe, di]
  refine calls_of c_Within ?_; simp only [vaE, res8, b8k9, b8k10, ↓reduceIte, reduceCtorEq, Nat.reduceEqDiff, Nat.reduceAdd, Nat.reduceMul, Nat.reduceSub, Nat.reduceLeDiff, Nat.reduceBEq, Int.reduceToNat, Int.reduceLE, Int.reduceLT, Int.reduceEq, Int.reduceNe, di]
  by_cases hlo : -1000 ≤ t.lo ∧ t.lo ≤ 1000
  rotate_left
  · simp only [hlo, false_and, vaE, ↓reduceIte, reduceCtorEq, Nat.reduceEqDiff, Nat.reduceAdd, Nat.reduceMul, Nat.reduceSub, Nat.reduceLeDiff, Nat.reduceBEq, Int.reduceToNat, Int.reduceLE, Int.reduceLT, Int.reduceEq, Int.reduceNe, di]
  simp only [hlo, vaE, ↓reduceIte, reduceCtorEq, Nat.reduceEqDiff, Nat.reduceAdd, Nat.reduceMul, Nat.reduceSub, Nat.reduceLeDiff, Nat.reduceBEq, Int.reduceToNat, Int.reduceLE, Int.reduceLT, Int.reduceEq, Int.reduceNe, di]
  refine calls_of c_Within ?_; simp only [vaE, res8, b8k9, b8k10, ↓reduceIte, reduceCtorEq, Nat.reduceEqDiff, Nat.reduceAdd, Nat.reduceMul, Nat.reduceSub, Nat.reduceLeDiff, Nat.reduceBEq, Int.reduceToNat, Int.reduceLE, Int.reduceLT, Int.reduceEq, Int.reduceNe, di]
  by_cases hhi : -1000 ≤ t.hi ∧ t.hi ≤ 1000
  rotate_left
  · simp only [hhi, vaE, ↓reduceIte, reduceCtorEq, Nat.reduceEqDiff, Nat.reduceAdd, Nat.reduceMul, Nat.reduceSub, Nat.reduceLeDiff, Nat.reduceBEq, Int.reduceToNat, Int.reduceLE, Int.reduceLT, Int.reduceEq, Int.reduceNe, di]
  simp only [hhi, vaE, ↓reduceIte, reduceCtorEq, Nat.reduceEqDiff, Nat.reduceAdd, Nat.reduceMul, Nat.reduceSub, Nat.reduceLeDiff, Nat.reduceBEq, Int.reduceToNat, Int.reduceLE, Int.reduceLT, Int.reduceEq, Int.reduceNe, di]
  have hle := ht.le
  rw [wrap64 (n := t.lo - w) (by omega) (by omega), wrap64 (n := t.hi + w) (by omega) (by omega)]
  have ht2 : TkOk ⟨t.cl, t.mo, t.ti, t.lo - w, t.hi + w⟩ := ⟨ht.cl, ht.mo, ht.ti, by show -1000000 ≤ t.lo - w ∧ t.lo - w ≤ 1000000; omega, by show -1000000 ≤ t.hi + w ∧ t.hi + w ≤ 1000000; omega, by show t.lo - w ≤ t.hi + w; omega⟩
  have fl : ∀ u : Tk, TkOk u → Contract Try.prog 56 [lnI x, tkI u] (.tup [nI (fast (opn x) u), .int .i64 (if fast (opn x) u = [] then 12 else 0)]) := by
    intro u hu
    have h := w_FastestLaw' (t := u) hx
    have e : fastE x u = 0 := fstE_zero.2 ⟨h0, taskE_zero.2 hu⟩
    unfold fastZ fastW at h
    rwa [if_pos e, if_pos e] at h
  have f1 := fl t ht
  have f2 := fl _ ht2
  refine calls_of (r_CopyLine hx) ?_; simp only [vaE, res8, b8k9, b8k10, ↓reduceIte, reduceCtorEq, Nat.reduceEqDiff, Nat.reduceAdd, Nat.reduceMul, Nat.reduceSub, Nat.reduceLeDiff, Nat.reduceBEq, Int.reduceToNat, Int.reduceLE, Int.reduceLT, Int.reduceEq, Int.reduceNe, di]
  refine calls_of f1 ?_; simp only [vaE, res8, b8k9, b8k10, ↓reduceIte, reduceCtorEq, Nat.reduceEqDiff, Nat.reduceAdd, Nat.reduceMul, Nat.reduceSub, Nat.reduceLeDiff, Nat.reduceBEq, Int.reduceToNat, Int.reduceLE, Int.reduceLT, Int.reduceEq, Int.reduceNe, di]
  refine calls_of (r_CopyLine hx) ?_; simp only [vaE, res8, b8k9, b8k10, ↓reduceIte, reduceCtorEq, Nat.reduceEqDiff, Nat.reduceAdd, Nat.reduceMul, Nat.reduceSub, Nat.reduceLeDiff, Nat.reduceBEq, Int.reduceToNat, Int.reduceLE, Int.reduceLT, Int.reduceEq, Int.reduceNe, di]
  refine calls_of f2 ?_; simp only [vaE, res8, b8k9, b8k10, ↓reduceIte, reduceCtorEq, Nat.reduceEqDiff, Nat.reduceAdd, Nat.reduceMul, Nat.reduceSub, Nat.reduceLeDiff, Nat.reduceBEq, Int.reduceToNat, Int.reduceLE, Int.reduceLT, Int.reduceEq, Int.reduceNe, di]
  have mid := mid_TopWaveLimit hx hxo ht (by omega) (by omega) fl
  by_cases hfe : fast (opn x) t = []
  · by_cases hfe2 : fast (opn x) ⟨t.cl, t.mo, t.ti, t.lo - w, t.hi + w⟩ = []
    · rw [hfe] at mid
      simp only [hfe, hfe2, vaE, ↓reduceIte, reduceCtorEq, Nat.reduceEqDiff, Nat.reduceAdd, Nat.reduceMul, Nat.reduceSub, Nat.reduceLeDiff, Nat.reduceBEq, Int.reduceToNat, Int.reduceLE, Int.reduceLT, Int.reduceEq, Int.reduceNe, di] at mid ⊢
      exact mid
    · rw [hfe] at mid
      simp only [hfe, hfe2, vaE, ↓reduceIte, reduceCtorEq, Nat.reduceEqDiff, Nat.reduceAdd, Nat.reduceMul, Nat.reduceSub, Nat.reduceLeDiff, Nat.reduceBEq, Int.reduceToNat, Int.reduceLE, Int.reduceLT, Int.reduceEq, Int.reduceNe, di] at mid ⊢
      exact mid
  obtain ⟨⟨⟨k1, k2, k3⟩, k4⟩, k5, _⟩ := fast_some ht hfe
  have hasc := chkW_asc.1 k5
  have hti0 := ht.ti
  have hok : okLaw (opn x) ⟨t.cl, t.mo, t.ti, t.lo - w, t.hi + w⟩ (fast (opn x) t) := ⟨keeps_wide (t := t) (by omega) rfl (by show t.lo - w ≤ t.lo; omega) (by show t.hi ≤ t.hi + w; omega) k1, k2, k3⟩
  have hfe2 : fast (opn x) ⟨t.cl, t.mo, t.ti, t.lo - w, t.hi + w⟩ ≠ [] := fun h => fast_none (by omega) hasc.2 h hok
  obtain ⟨_, _, hbest⟩ := fast_some ht2 hfe2
  have hlen := hbest _ (by omega) hasc.2 hok
  rw [if_neg hfe] at mid
  simp only [hfe, hfe2, vaE, ↓reduceIte, reduceCtorEq, Nat.reduceEqDiff, Nat.reduceAdd, Nat.reduceMul, Nat.reduceSub, Nat.reduceLeDiff, Nat.reduceBEq, Int.reduceToNat, Int.reduceLE, Int.reduceLT, Int.reduceEq, Int.reduceNe, di]
  have fin : ∀ {p : Prop} [Decidable p], ¬ p → ∀ {a b : Prop}, b → if p then a else b := by
    intro p _ h a b hb; rw [if_neg h]; exact hb
  exact fin (by omega) mid
end Go.DI


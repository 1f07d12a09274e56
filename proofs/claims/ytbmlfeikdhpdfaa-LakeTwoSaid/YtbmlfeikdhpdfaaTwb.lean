/- The statement LakeTwo, on data. No condition. -/
import Derived.Test.YtbmlfeikdhpdfaaJk
import Derived.Test.YtbmlfeikdhpdfaaJm
import Derived.Test.YtbmlfeikdhpdfaaTwa
set_option linter.unusedSimpArgs false
set_option maxRecDepth 100000
namespace Go.DI
open Go.Proofs Go.Proofs.Ytbmlfeikdhpdfaa Go.RowKit Lk

/-- Readings and a volume. -/
structure Gau where
  rs : List Rdg
  v : Int
def gaI (g : Gau) : IV := .agg [.slc 3 (g.rs.map rdI), .int .i64 g.v]

theorem allErr_of {l : List Kn} {net : List Int} {rs : List Rdg} (h : VRead l net rs) : allErr l net rs = 0 := by
  have hp := h.p
  have hq := h.q
  unfold allErr
  rw [if_pos (chkT_ok.2 h.v), if_pos (netErrP_ok.2 ⟨h.n, h.b⟩)]
  unfold rdErr
  rw [if_neg (by omega), if_neg (by omega), firstE_ok]
  intro j _ hj
  exact h.ok _ (mem_getD' (by omega))

theorem p_AgreedOf1 {l : List Kn} {net : List Int} {rs : List Rdg} {r : Rdg} (h : VRead l net rs) (hr : r ∈ rs) :
    Contract Try.prog 27 [tabI l, .slc 1 (net.map (.int .i64)), .slc 3 [rdI r]]
    (if (perm l net r).1 ≤ (perm l net r).2 then .tup [rnI (perm l net r), .int .i64 0] else .tup [rnI (0, 0), .int .i64 13]) := by
  have hv : VRead l net [r] := ⟨h.v, h.n, h.b, by simp, by simp, fun x hx => h.ok x (by simp at hx; subst hx; exact hr)⟩
  have hz := valid_len h.v
  have hn := h.n
  have := p_AgreedOf (rs := [r]) hz.2 (show net.length ≤ 1000000000000 by omega)
  rw [if_pos (allErr_of hv)] at this
  exact this

theorem p_AgreedOf2 {l : List Kn} {net : List Int} {rs : List Rdg} {r q : Rdg} (h : VRead l net rs) (hr : r ∈ rs) (hq : q ∈ rs) :
    Contract Try.prog 27 [tabI l, .slc 1 (net.map (.int .i64)), .slc 3 [rdI r, rdI q]]
    (if (meet (perm l net r) (perm l net q)).1 ≤ (meet (perm l net r) (perm l net q)).2 then .tup [rnI (meet (perm l net r) (perm l net q)), .int .i64 0] else .tup [rnI (0, 0), .int .i64 13]) := by
  have hv : VRead l net [r, q] := ⟨h.v, h.n, h.b, by simp, by simp, fun x hx => h.ok x (by simp at hx; rcases hx with rfl | rfl <;> assumption)⟩
  have hz := valid_len h.v
  have hn := h.n
  have := p_AgreedOf (rs := [r, q]) hz.2 (show net.length ≤ 1000000000000 by omega)
  rw [if_pos (allErr_of hv)] at this
  exact this

/-- One of them, or two. -/
theorem contra_cases {rs : List Rn} (h : ¬ contra rs = []) : (∃ i, contra rs = [i] ∧ i < rs.length ∧ (rn rs i).2 < (rn rs i).1) ∨
    (∃ i k, contra rs = [i, k] ∧ i < k ∧ k < rs.length ∧ (rn rs i).1 ≤ (rn rs i).2 ∧ (rn rs k).1 ≤ (rn rs k).2 ∧ (meet (rn rs i) (rn rs k)).2 < (meet (rn rs i) (rn rs k)).1) := by
  cases h1 : findN (empty1 rs) rs.length 0 with
  | some i =>
    have q := findN_some h1
    left
    refine ⟨i, contra_one h1, by omega, ?_⟩
    have := q.2.2
    unfold empty1 at this
    simpa using this
  | none =>
    cases h2 : find2 (empty2 rs) rs.length rs.length 0 with
    | none => exact absurd (contra_none h1 h2) h
    | some r =>
      obtain ⟨i, k⟩ := r
      have q := find2_some h2
      dsimp only at q
      rw [findN_none] at h1
      right
      refine ⟨i, k, contra_two (by rw [findN_none]; exact h1) h2, q.2.2.1, q.2.2.2.1, ?_, ?_, ?_⟩
      · have := h1 i (by omega) (by omega)
        unfold empty1 at this
        simp only [decide_eq_false_iff_not] at this
        omega
      · have := h1 k (by omega) (by omega)
        unfold empty1 at this
        simp only [decide_eq_false_iff_not] at this
        omega
      · have := q.2.2.2.2
        unfold empty2 at this
        simpa using this

theorem in_meets {rs : List Rn} (h : 0 < rs.length) (v : Int) : ((meets rs (rs.length - 1)).1 ≤ v ∧ v ≤ (meets rs (rs.length - 1)).2) ↔ ∀ j, j < rs.length → (rn rs j).1 ≤ v ∧ v ≤ (rn rs j).2 := by
  obtain ⟨h1, ⟨a, ha, ea⟩, ⟨b, hb, eb⟩⟩ := meets_spec rs (rs.length - 1)
  constructor
  · intro k j hj
    have := h1 j (by omega)
    omega
  · intro k
    have k1 := k a (by omega)
    have k2 := k b (by omega)
    omega

theorem clash {l : List Kn} {net : List Int} {rs : List Rdg} (hv : VRead l net rs) (h : ¬ contra (rs.map (perm l net)) = []) :
    1 ≤ (conI (rs.map (perm l net))).length ∧ (conI (rs.map (perm l net))).length ≤ 2 ∧ (∀ j, j < (conI (rs.map (perm l net))).length → 0 ≤ (conI (rs.map (perm l net))).getD j 0 ∧ (conI (rs.map (perm l net))).getD j 0 < rs.length) ∧
    (∀ j, 0 < j → j < (conI (rs.map (perm l net))).length → (conI (rs.map (perm l net))).getD (j - 1) 0 < (conI (rs.map (perm l net))).getD j 0) ∧
    (∀ j, j < (conI (rs.map (perm l net))).length → ∃ a b e : Int, (e = 13 ↔ (conI (rs.map (perm l net))).length = 1) ∧
      Contract Try.prog 27 [tabI l, .slc 1 (net.map (.int .i64)), .slc 3 [rdI (rs.getD ((conI (rs.map (perm l net))).getD j 0).toNat default)]] (.tup [.agg [.int .i64 a, .int .i64 b], .int .i64 e])) ∧
    Contract Try.prog 27 [tabI l, .slc 1 (net.map (.int .i64)), .slc 3 ((conI (rs.map (perm l net))).map (fun z => rdI (rs.getD z.toNat default)))] (.tup [rnI (0, 0), .int .i64 13]) := by
  rcases contra_cases h with ⟨i, hco, i1, i2⟩ | ⟨i, k, hco, i1, i2, i3, i4, i5⟩
  · rw [List.length_map] at i1
    rw [rn_map i1] at i2
    have hA1 := p_AgreedOf1 hv (mem_getD' (l := rs) (i := i) (d := default) i1)
    rw [if_neg (by omega)] at hA1
    rw [show conI (rs.map (perm l net)) = [(i : Int)] by unfold conI; rw [hco]; rfl]
    refine ⟨by simp, by simp, fun j hj => ?_, fun j h0 hj => ?_, fun j hj => ?_, hA1⟩
    · have : j = 0 := by simpa using hj
      subst this
      show 0 ≤ (i : Int) ∧ (i : Int) < rs.length
      omega
    · have : j = 0 := by simpa using hj
      omega
    · have : j = 0 := by simpa using hj
      subst this
      exact ⟨0, 0, 13, by simp, hA1⟩
  · rw [List.length_map] at i2
    rw [rn_map i2, rn_map (show i < rs.length by omega)] at i5
    rw [rn_map (show i < rs.length by omega)] at i3
    rw [rn_map i2] at i4
    have hm := mem_getD' (l := rs) (i := i) (d := default) (by omega)
    have hk := mem_getD' (l := rs) (i := k) (d := default) i2
    have hA1 := p_AgreedOf1 hv hm
    have hA2 := p_AgreedOf1 hv hk
    have hA3 := p_AgreedOf2 hv hm hk
    rw [if_pos i3] at hA1
    rw [if_pos i4] at hA2
    rw [if_neg (by omega)] at hA3
    rw [show conI (rs.map (perm l net)) = [(i : Int), (k : Int)] by unfold conI; rw [hco]; rfl]
    refine ⟨by simp, by simp, fun j hj => ?_, fun j h0 hj => ?_, fun j hj => ?_, hA3⟩
    · have hj : j < 2 := hj
      rcases (show j = 0 ∨ j = 1 by omega) with rfl | rfl
      · show 0 ≤ (i : Int) ∧ (i : Int) < rs.length
        omega
      · show 0 ≤ (k : Int) ∧ (k : Int) < rs.length
        omega
    · have hj : j < 2 := hj
      have : j = 1 := by omega
      subst this
      show (i : Int) < k
      omega
    · have hj : j < 2 := hj
      rcases (show j = 0 ∨ j = 1 by omega) with rfl | rfl
      · exact ⟨_, _, 0, by simp, hA1⟩
      · exact ⟨_, _, 0, by simp, hA2⟩

theorem l_LakeTwo {l : List Kn} {net : List Int} {g : Gau} : Contract Try.prog 6 [tabI l, .slc 1 (net.map (.int .i64)), gaI g] (.bool true) := by
  obtain ⟨rs, v⟩ := g
  refine contract_run Try.func6 k6 rfl ?_
  simp only [body6, b6, res6, b6k0, b6k1, b6k2, b6k3, b6k4, b6k5, b6k6, b6k7, b6k8, b6k9, b6k10, b6k11, b6k12, b6k13, b6k14, gaI, knI, tabI, pieceI, pairI, lpI, stI, flI, rdI, rnI, getD_kn, ↓reduceIte, reduceCtorEq, Nat.reduceEqDiff, Nat.reduceAdd, Nat.reduceMul, Nat.reduceSub, Nat.reduceLeDiff, Nat.reduceBEq, Int.reduceToNat, Int.reduceLE, Int.reduceLT, Int.reduceEq, Int.reduceNe, di0, di1, di2, di3, di4, di5, di6, di7, di8, di9, postX_ret, postX_normal, ex_some]
  refine calls_of l_awake ?_; simp only [knI, tabI, pieceI, pairI, lpI, stI, flI, rdI, rnI, getD_kn, res6, b6k0, b6k1, b6k2, b6k3, b6k4, b6k5, b6k6, b6k7, b6k8, b6k9, b6k10, b6k11, b6k12, b6k13, b6k14, ↓reduceIte, reduceCtorEq, Nat.reduceEqDiff, Nat.reduceAdd, Nat.reduceMul, Nat.reduceSub, Nat.reduceLeDiff, Nat.reduceBEq, Int.reduceToNat, Int.reduceLE, Int.reduceLT, Int.reduceEq, Int.reduceNe, di0, di1, di2, di3, di4, di5, di6, di7, di8, di9, postX_ret, postX_normal, ex_some]
  refine calls_of l_Few ?_; simp only [knI, tabI, pieceI, pairI, lpI, stI, flI, rdI, rnI, getD_kn, res6, b6k0, b6k1, b6k2, b6k3, b6k4, b6k5, b6k6, b6k7, b6k8, b6k9, b6k10, b6k11, b6k12, b6k13, b6k14, ↓reduceIte, reduceCtorEq, Nat.reduceEqDiff, Nat.reduceAdd, Nat.reduceMul, Nat.reduceSub, Nat.reduceLeDiff, Nat.reduceBEq, Int.reduceToNat, Int.reduceLE, Int.reduceLT, Int.reduceEq, Int.reduceNe, di0, di1, di2, di3, di4, di5, di6, di7, di8, di9, postX_ret, postX_normal, ex_some]
  split
  · rename_i h0
    have hl : l.length ≤ 1000000000000 := by omega
    have hn : net.length ≤ 1000000000000 := by omega
    refine calls_of (r_AllErr hl hn) ?_; simp only [knI, tabI, pieceI, pairI, lpI, stI, flI, rdI, rnI, getD_kn, res6, b6k0, b6k1, b6k2, b6k3, b6k4, b6k5, b6k6, b6k7, b6k8, b6k9, b6k10, b6k11, b6k12, b6k13, b6k14, ↓reduceIte, reduceCtorEq, Nat.reduceEqDiff, Nat.reduceAdd, Nat.reduceMul, Nat.reduceSub, Nat.reduceLeDiff, Nat.reduceBEq, Int.reduceToNat, Int.reduceLE, Int.reduceLT, Int.reduceEq, Int.reduceNe, di0, di1, di2, di3, di4, di5, di6, di7, di8, di9, postX_ret, postX_normal, ex_some]
    split
    · rename_i h2
      have hv := allErr_ok h2
      have hp := hv.p
      have hq := hv.q
      refine calls_of c_Within ?_; simp only [knI, tabI, pieceI, pairI, lpI, stI, flI, rdI, rnI, getD_kn, res6, b6k0, b6k1, b6k2, b6k3, b6k4, b6k5, b6k6, b6k7, b6k8, b6k9, b6k10, b6k11, b6k12, b6k13, b6k14, ↓reduceIte, reduceCtorEq, Nat.reduceEqDiff, Nat.reduceAdd, Nat.reduceMul, Nat.reduceSub, Nat.reduceLeDiff, Nat.reduceBEq, Int.reduceToNat, Int.reduceLE, Int.reduceLT, Int.reduceEq, Int.reduceNe, di0, di1, di2, di3, di4, di5, di6, di7, di8, di9, postX_ret, postX_normal, ex_some]
      split
      · rename_i h3
        have hc := r_Copy (l := l) (by omega)
        have hi := c_CopyInts (a := net) (by omega)
        have hr := r_CopyReadings (l := rs) (by omega)
        have hA := p_AgreedOf (rs := rs) hl hn
        have hB := p_Contradicting (rs := rs) hl hn
        rw [if_pos h2] at hA hB
        have he := helly (rs := rs.map (perm l net)) (by simp; omega)
        rw [List.length_map] at he
        refine calls_of hc ?_; simp only [knI, tabI, pieceI, pairI, lpI, stI, flI, rdI, rnI, getD_kn, res6, b6k0, b6k1, b6k2, b6k3, b6k4, b6k5, b6k6, b6k7, b6k8, b6k9, b6k10, b6k11, b6k12, b6k13, b6k14, ↓reduceIte, reduceCtorEq, Nat.reduceEqDiff, Nat.reduceAdd, Nat.reduceMul, Nat.reduceSub, Nat.reduceLeDiff, Nat.reduceBEq, Int.reduceToNat, Int.reduceLE, Int.reduceLT, Int.reduceEq, Int.reduceNe, di0, di1, di2, di3, di4, di5, di6, di7, di8, di9, postX_ret, postX_normal, ex_some]
        refine calls_of hi ?_; simp only [knI, tabI, pieceI, pairI, lpI, stI, flI, rdI, rnI, getD_kn, res6, b6k0, b6k1, b6k2, b6k3, b6k4, b6k5, b6k6, b6k7, b6k8, b6k9, b6k10, b6k11, b6k12, b6k13, b6k14, ↓reduceIte, reduceCtorEq, Nat.reduceEqDiff, Nat.reduceAdd, Nat.reduceMul, Nat.reduceSub, Nat.reduceLeDiff, Nat.reduceBEq, Int.reduceToNat, Int.reduceLE, Int.reduceLT, Int.reduceEq, Int.reduceNe, di0, di1, di2, di3, di4, di5, di6, di7, di8, di9, postX_ret, postX_normal, ex_some]
        refine calls_of hr ?_; simp only [knI, tabI, pieceI, pairI, lpI, stI, flI, rdI, rnI, getD_kn, res6, b6k0, b6k1, b6k2, b6k3, b6k4, b6k5, b6k6, b6k7, b6k8, b6k9, b6k10, b6k11, b6k12, b6k13, b6k14, ↓reduceIte, reduceCtorEq, Nat.reduceEqDiff, Nat.reduceAdd, Nat.reduceMul, Nat.reduceSub, Nat.reduceLeDiff, Nat.reduceBEq, Int.reduceToNat, Int.reduceLE, Int.reduceLT, Int.reduceEq, Int.reduceNe, di0, di1, di2, di3, di4, di5, di6, di7, di8, di9, postX_ret, postX_normal, ex_some]
        by_cases h4 : (meets (rs.map (perm l net)) (rs.length - 1)).1 ≤ (meets (rs.map (perm l net)) (rs.length - 1)).2
        · have h5 := he.2 h4
          rw [if_pos h4] at hA
          rw [if_pos h5, show conI (rs.map (perm l net)) = [] by unfold conI; rw [h5]; rfl] at hB
          refine calls_of hA ?_; simp only [knI, tabI, pieceI, pairI, lpI, stI, flI, rdI, rnI, getD_kn, res6, b6k0, b6k1, b6k2, b6k3, b6k4, b6k5, b6k6, b6k7, b6k8, b6k9, b6k10, b6k11, b6k12, b6k13, b6k14, ↓reduceIte, reduceCtorEq, Nat.reduceEqDiff, Nat.reduceAdd, Nat.reduceMul, Nat.reduceSub, Nat.reduceLeDiff, Nat.reduceBEq, Int.reduceToNat, Int.reduceLE, Int.reduceLT, Int.reduceEq, Int.reduceNe, di0, di1, di2, di3, di4, di5, di6, di7, di8, di9, postX_ret, postX_normal, ex_some]
          refine calls_of hc ?_; simp only [knI, tabI, pieceI, pairI, lpI, stI, flI, rdI, rnI, getD_kn, res6, b6k0, b6k1, b6k2, b6k3, b6k4, b6k5, b6k6, b6k7, b6k8, b6k9, b6k10, b6k11, b6k12, b6k13, b6k14, ↓reduceIte, reduceCtorEq, Nat.reduceEqDiff, Nat.reduceAdd, Nat.reduceMul, Nat.reduceSub, Nat.reduceLeDiff, Nat.reduceBEq, Int.reduceToNat, Int.reduceLE, Int.reduceLT, Int.reduceEq, Int.reduceNe, di0, di1, di2, di3, di4, di5, di6, di7, di8, di9, postX_ret, postX_normal, ex_some]
          refine calls_of hi ?_; simp only [knI, tabI, pieceI, pairI, lpI, stI, flI, rdI, rnI, getD_kn, res6, b6k0, b6k1, b6k2, b6k3, b6k4, b6k5, b6k6, b6k7, b6k8, b6k9, b6k10, b6k11, b6k12, b6k13, b6k14, ↓reduceIte, reduceCtorEq, Nat.reduceEqDiff, Nat.reduceAdd, Nat.reduceMul, Nat.reduceSub, Nat.reduceLeDiff, Nat.reduceBEq, Int.reduceToNat, Int.reduceLE, Int.reduceLT, Int.reduceEq, Int.reduceNe, di0, di1, di2, di3, di4, di5, di6, di7, di8, di9, postX_ret, postX_normal, ex_some]
          refine calls_of hr ?_; simp only [knI, tabI, pieceI, pairI, lpI, stI, flI, rdI, rnI, getD_kn, res6, b6k0, b6k1, b6k2, b6k3, b6k4, b6k5, b6k6, b6k7, b6k8, b6k9, b6k10, b6k11, b6k12, b6k13, b6k14, ↓reduceIte, reduceCtorEq, Nat.reduceEqDiff, Nat.reduceAdd, Nat.reduceMul, Nat.reduceSub, Nat.reduceLeDiff, Nat.reduceBEq, Int.reduceToNat, Int.reduceLE, Int.reduceLT, Int.reduceEq, Int.reduceNe, di0, di1, di2, di3, di4, di5, di6, di7, di8, di9, postX_ret, postX_normal, ex_some]
          refine calls_of hB ?_; simp only [knI, tabI, pieceI, pairI, lpI, stI, flI, rdI, rnI, getD_kn, res6, b6k0, b6k1, b6k2, b6k3, b6k4, b6k5, b6k6, b6k7, b6k8, b6k9, b6k10, b6k11, b6k12, b6k13, b6k14, ↓reduceIte, reduceCtorEq, Nat.reduceEqDiff, Nat.reduceAdd, Nat.reduceMul, Nat.reduceSub, Nat.reduceLeDiff, Nat.reduceBEq, Int.reduceToNat, Int.reduceLE, Int.reduceLT, Int.reduceEq, Int.reduceNe, di0, di1, di2, di3, di4, di5, di6, di7, di8, di9, postX_ret, postX_normal, ex_some]
          simp only [if_neg (show ¬ (meets (rs.map (perm l net)) (rs.length - 1)).2 < (meets (rs.map (perm l net)) (rs.length - 1)).1 by omega), knI, tabI, pieceI, pairI, lpI, stI, flI, rdI, rnI, getD_kn, ↓reduceIte, reduceCtorEq, Nat.reduceEqDiff, Nat.reduceAdd, Nat.reduceMul, Nat.reduceSub, Nat.reduceLeDiff, Nat.reduceBEq, Int.reduceToNat, Int.reduceLE, Int.reduceLT, Int.reduceEq, Int.reduceNe, di0, di1, di2, di3, di4, di5, di6, di7, di8, di9, postX_ret, postX_normal, ex_some]
          have hL := fun w => p_LevelAt (l := l) (v := w) (by omega)
          simp only [if_pos (chkT_ok.2 hv.v)] at hL
          refine loop_keep (α := Nat × Bool) rfl (fun x => rs.length - x.1)
            (fun x => x.1 ≤ rs.length ∧ (x.2 = true ↔ ∀ j, j < x.1 → (perm l net (rs.getD j default)).1 ≤ v ∧ v ≤ (perm l net (rs.getD j default)).2))
            (fun x => [(1, .imm (.slc 1 (net.map (.int .i64)))), (3, .ref 3 0), (5, .ref 5 0), (7, .ref 7 0), (17, .imm (.bool x.2)), (18, .imm (.int .i64 x.1))])
            (fun _ => [(3, .box [.imm (.slc 2 (l.map knI))]), (5, .box [.imm (.slc 3 (rs.map rdI)), .imm (.int .i64 v)]),
              (7, .box [.imm (.int .i64 (meets (rs.map (perm l net)) (rs.length - 1)).1), .imm (.int .i64 (meets (rs.map (perm l net)) (rs.length - 1)).2)])])
            (0, true) ⟨Nat.zero_le _, by simp⟩ (by simp only [↓reduceIte, reduceCtorEq, Nat.reduceEqDiff, Nat.reduceAdd, Nat.reduceMul, Nat.reduceSub, Nat.reduceLeDiff, Nat.reduceBEq, Int.reduceToNat, Int.reduceLE, Int.reduceLT, Int.reduceEq, Int.reduceNe, di0, di1, di2, di3, di4, di5, di6, di7, di8, di9, postX_ret, postX_normal, ex_some] <;> rfl) ?_
          rintro ⟨i, b⟩ ⟨hi1, hi2⟩ ih
          dsimp only at hi1 hi2
          simp only [res6, b6k0, b6k1, b6k2, b6k3, b6k4, b6k5, b6k6, b6k7, b6k8, b6k9, b6k10, b6k11, b6k12, b6k13, b6k14, knI, tabI, pieceI, pairI, lpI, stI, flI, rdI, rnI, getD_kn, ↓reduceIte, reduceCtorEq, Nat.reduceEqDiff, Nat.reduceAdd, Nat.reduceMul, Nat.reduceSub, Nat.reduceLeDiff, Nat.reduceBEq, Int.reduceToNat, Int.reduceLE, Int.reduceLT, Int.reduceEq, Int.reduceNe, di0, di1, di2, di3, di4, di5, di6, di7, di8, di9, postX_ret, postX_normal, ex_some]
          split
          · rename_i h6
            have hm := mem_getD' (l := rs) (i := i) (d := default) (by omega)
            obtain ⟨⟨t1, t2⟩, l1, l2, l3⟩ := rdgErr_ok (hv.ok _ hm)
            have pi := perm_iff hv.v (net := net) l1 l2 v
            have nx : (∀ j, j < i + 1 → (perm l net (rs.getD j default)).1 ≤ v ∧ v ≤ (perm l net (rs.getD j default)).2) ↔ (∀ j, j < i → (perm l net (rs.getD j default)).1 ≤ v ∧ v ≤ (perm l net (rs.getD j default)).2) ∧ ((perm l net (rs.getD i default)).1 ≤ v ∧ v ≤ (perm l net (rs.getD i default)).2) := by
              constructor
              · intro k; exact ⟨fun j hj => k j (by omega), k i (by omega)⟩
              · rintro ⟨k1, k2⟩ j hj
                by_cases e : j = i
                · subst e; exact k2
                · exact k1 j (by omega)
            have hn2 := hv.n
            refine loop_keep (α := Nat) rfl (fun k => (rs.getD i default).tick.toNat - k) (fun k => k ≤ (rs.getD i default).tick.toNat)
              (fun k => [(1, .imm (.slc 1 (net.map (.int .i64)))), (3, .ref 3 0), (5, .ref 5 0), (7, .ref 7 0), (17, .imm (.bool b)), (18, .imm (.int .i64 i)), (19, .imm (.int .i64 (v + sumTo net k))), (20, .imm (.int .i64 k))])
              (fun _ => [(3, .box [.imm (.slc 2 (l.map knI))]), (5, .box [.imm (.slc 3 (rs.map rdI)), .imm (.int .i64 v)]),
                (7, .box [.imm (.int .i64 (meets (rs.map (perm l net)) (rs.length - 1)).1), .imm (.int .i64 (meets (rs.map (perm l net)) (rs.length - 1)).2)])])
              0 (Nat.zero_le _) (by simp only [show v + sumTo net 0 = v by simp [sumTo], ↓reduceIte, reduceCtorEq, Nat.reduceEqDiff, Nat.reduceAdd, Nat.reduceMul, Nat.reduceSub, Nat.reduceLeDiff, Nat.reduceBEq, Int.reduceToNat, Int.reduceLE, Int.reduceLT, Int.reduceEq, Int.reduceNe, di0, di1, di2, di3, di4, di5, di6, di7, di8, di9, postX_ret, postX_normal, ex_some] <;> rfl) ?_
            intro k hk ih2
            have sb := sumTo_bd hv.b k
            have sb2 := sumTo_bd hv.b (k + 1)
            simp only [res6, b6k0, b6k1, b6k2, b6k3, b6k4, b6k5, b6k6, b6k7, b6k8, b6k9, b6k10, b6k11, b6k12, b6k13, b6k14, knI, tabI, pieceI, pairI, lpI, stI, flI, rdI, rnI, getD_kn, ↓reduceIte, reduceCtorEq, Nat.reduceEqDiff, Nat.reduceAdd, Nat.reduceMul, Nat.reduceSub, Nat.reduceLeDiff, Nat.reduceBEq, Int.reduceToNat, Int.reduceLE, Int.reduceLT, Int.reduceEq, Int.reduceNe, di0, di1, di2, di3, di4, di5, di6, di7, di8, di9, postX_ret, postX_normal, ex_some]
            repeat (refine And.intro (by omega) ?_)
            split
            · rename_i h7
              repeat (refine And.intro (by omega) ?_)
              rw [show v + sumTo net k + net.getD k 0 = v + sumTo net (k + 1) by show _ = v + (sumTo net k + net.getD k 0); omega, wrap64 (n := v + sumTo net (k + 1)) (by omega) (by omega), wrap64 (n := (k : Int) + 1) (by omega) (by omega)]
              exact ih2 (k + 1) _ _ (by omega) (by omega) (by simp only [↓reduceIte, reduceCtorEq, Nat.reduceEqDiff, Nat.reduceAdd, Nat.reduceMul, Nat.reduceSub, Nat.reduceLeDiff, Nat.reduceBEq, Int.reduceToNat, Int.reduceLE, Int.reduceLT, Int.reduceEq, Int.reduceNe, di0, di1, di2, di3, di4, di5, di6, di7, di8, di9, postX_ret, postX_normal, ex_some] <;> rfl)
            · rename_i h7
              have hkt : k = (rs.getD i default).tick.toNat := by omega
              rw [← hkt] at pi
              have hLw := hL (v + sumTo net k)
              have hnew : ∀ c : Bool, (c = true ↔ b = true ∧ ((perm l net (rs.getD i default)).1 ≤ v ∧ v ≤ (perm l net (rs.getD i default)).2)) → (c = true ↔ ∀ j, j < i + 1 → (perm l net (rs.getD j default)).1 ≤ v ∧ v ≤ (perm l net (rs.getD j default)).2) := by
                intro c k
                rw [k, nx, hi2]
              refine calls_of hc ?_; simp only [knI, tabI, pieceI, pairI, lpI, stI, flI, rdI, rnI, getD_kn, res6, b6k0, b6k1, b6k2, b6k3, b6k4, b6k5, b6k6, b6k7, b6k8, b6k9, b6k10, b6k11, b6k12, b6k13, b6k14, ↓reduceIte, reduceCtorEq, Nat.reduceEqDiff, Nat.reduceAdd, Nat.reduceMul, Nat.reduceSub, Nat.reduceLeDiff, Nat.reduceBEq, Int.reduceToNat, Int.reduceLE, Int.reduceLT, Int.reduceEq, Int.reduceNe, di0, di1, di2, di3, di4, di5, di6, di7, di8, di9, postX_ret, postX_normal, ex_some]
              by_cases hw : isV l (v + sumTo net k)
              · rw [if_pos hw] at hLw
                refine calls_of hLw ?_; simp only [knI, tabI, pieceI, pairI, lpI, stI, flI, rdI, rnI, getD_kn, res6, b6k0, b6k1, b6k2, b6k3, b6k4, b6k5, b6k6, b6k7, b6k8, b6k9, b6k10, b6k11, b6k12, b6k13, b6k14, ↓reduceIte, reduceCtorEq, Nat.reduceEqDiff, Nat.reduceAdd, Nat.reduceMul, Nat.reduceSub, Nat.reduceLeDiff, Nat.reduceBEq, Int.reduceToNat, Int.reduceLE, Int.reduceLT, Int.reduceEq, Int.reduceNe, di0, di1, di2, di3, di4, di5, di6, di7, di8, di9, postX_ret, postX_normal, ex_some]
                rw [wrap64 (n := (i : Int) + 1) (by omega) (by omega)]
                split
                · rename_i hb
                  repeat (refine And.intro (by omega) ?_)
                  split
                  · rename_i h8
                    repeat (refine And.intro (by omega) ?_)
                    exact ih (i + 1, decide (levHi l (v + sumTo net k) ≤ (rs.getD i default).hi)) _ _ (by dsimp only; omega) ⟨by dsimp only; omega, hnew _ (by rw [decide_eq_true_eq, pi]; exact ⟨fun q => ⟨hb, hw, h8, q⟩, fun q => q.2.2.2⟩)⟩ (by simp only [↓reduceIte, reduceCtorEq, Nat.reduceEqDiff, Nat.reduceAdd, Nat.reduceMul, Nat.reduceSub, Nat.reduceLeDiff, Nat.reduceBEq, Int.reduceToNat, Int.reduceLE, Int.reduceLT, Int.reduceEq, Int.reduceNe, di0, di1, di2, di3, di4, di5, di6, di7, di8, di9, postX_ret, postX_normal, ex_some] <;> rfl)
                  · rename_i h8
                    exact ih (i + 1, false) _ _ (by dsimp only; omega) ⟨by dsimp only; omega, hnew false (by rw [pi]; exact ⟨fun q => (by cases q), fun q => absurd q.2.2.1 h8⟩)⟩ (by simp only [↓reduceIte, reduceCtorEq, Nat.reduceEqDiff, Nat.reduceAdd, Nat.reduceMul, Nat.reduceSub, Nat.reduceLeDiff, Nat.reduceBEq, Int.reduceToNat, Int.reduceLE, Int.reduceLT, Int.reduceEq, Int.reduceNe, di0, di1, di2, di3, di4, di5, di6, di7, di8, di9, postX_ret, postX_normal, ex_some] <;> rfl)
                · rename_i hb
                  exact ih (i + 1, false) _ _ (by dsimp only; omega) ⟨by dsimp only; omega, hnew _ ⟨fun q => (by cases q), fun q => absurd q.1 hb⟩⟩ (by simp only [↓reduceIte, reduceCtorEq, Nat.reduceEqDiff, Nat.reduceAdd, Nat.reduceMul, Nat.reduceSub, Nat.reduceLeDiff, Nat.reduceBEq, Int.reduceToNat, Int.reduceLE, Int.reduceLT, Int.reduceEq, Int.reduceNe, di0, di1, di2, di3, di4, di5, di6, di7, di8, di9, postX_ret, postX_normal, ex_some] <;> rfl)
              · rw [if_neg hw] at hLw
                refine calls_of hLw ?_; simp only [knI, tabI, pieceI, pairI, lpI, stI, flI, rdI, rnI, getD_kn, res6, b6k0, b6k1, b6k2, b6k3, b6k4, b6k5, b6k6, b6k7, b6k8, b6k9, b6k10, b6k11, b6k12, b6k13, b6k14, ↓reduceIte, reduceCtorEq, Nat.reduceEqDiff, Nat.reduceAdd, Nat.reduceMul, Nat.reduceSub, Nat.reduceLeDiff, Nat.reduceBEq, Int.reduceToNat, Int.reduceLE, Int.reduceLT, Int.reduceEq, Int.reduceNe, di0, di1, di2, di3, di4, di5, di6, di7, di8, di9, postX_ret, postX_normal, ex_some]
                rw [wrap64 (n := (i : Int) + 1) (by omega) (by omega)]
                have hf := hnew false (by rw [pi]; exact ⟨fun q => (by cases q), fun q => absurd q.2.1 hw⟩)
                split
                · exact ih (i + 1, false) _ _ (by dsimp only; omega) ⟨by dsimp only; omega, hf⟩ (by simp only [↓reduceIte, reduceCtorEq, Nat.reduceEqDiff, Nat.reduceAdd, Nat.reduceMul, Nat.reduceSub, Nat.reduceLeDiff, Nat.reduceBEq, Int.reduceToNat, Int.reduceLE, Int.reduceLT, Int.reduceEq, Int.reduceNe, di0, di1, di2, di3, di4, di5, di6, di7, di8, di9, postX_ret, postX_normal, ex_some] <;> rfl)
                · exact ih (i + 1, false) _ _ (by dsimp only; omega) ⟨by dsimp only; omega, hf⟩ (by simp only [↓reduceIte, reduceCtorEq, Nat.reduceEqDiff, Nat.reduceAdd, Nat.reduceMul, Nat.reduceSub, Nat.reduceLeDiff, Nat.reduceBEq, Int.reduceToNat, Int.reduceLE, Int.reduceLT, Int.reduceEq, Int.reduceNe, di0, di1, di2, di3, di4, di5, di6, di7, di8, di9, postX_ret, postX_normal, ex_some] <;> rfl)
          · rename_i h6
            have hi3 : i = rs.length := by omega
            refine calls_of c_Within ?_; simp only [knI, tabI, pieceI, pairI, lpI, stI, flI, rdI, rnI, getD_kn, res6, b6k0, b6k1, b6k2, b6k3, b6k4, b6k5, b6k6, b6k7, b6k8, b6k9, b6k10, b6k11, b6k12, b6k13, b6k14, ↓reduceIte, reduceCtorEq, Nat.reduceEqDiff, Nat.reduceAdd, Nat.reduceMul, Nat.reduceSub, Nat.reduceLeDiff, Nat.reduceBEq, Int.reduceToNat, Int.reduceLE, Int.reduceLT, Int.reduceEq, Int.reduceNe, di0, di1, di2, di3, di4, di5, di6, di7, di8, di9, postX_ret, postX_normal, ex_some]
            have im := in_meets (rs := rs.map (perm l net)) (by simp; omega) v
            rw [List.length_map] at im
            have hb : b = decide ((meets (rs.map (perm l net)) (rs.length - 1)).1 ≤ v ∧ v ≤ (meets (rs.map (perm l net)) (rs.length - 1)).2) := by
              rw [Bool.eq_iff_iff, hi2, decide_eq_true_eq, im, hi3]
              constructor
              · intro k j hj; rw [rn_map hj]; exact k j hj
              · intro k j hj; have := k j hj; rw [rn_map hj] at this; exact this
            rw [hb]
            simp
        · have h5 : ¬ contra (rs.map (perm l net)) = [] := fun k => h4 (he.1 k)
          rw [if_neg h4] at hA
          rw [if_neg h5] at hB
          have hcl := con_len (rs := rs.map (perm l net))
          refine calls_of hA ?_; simp only [knI, tabI, pieceI, pairI, lpI, stI, flI, rdI, rnI, getD_kn, res6, b6k0, b6k1, b6k2, b6k3, b6k4, b6k5, b6k6, b6k7, b6k8, b6k9, b6k10, b6k11, b6k12, b6k13, b6k14, ↓reduceIte, reduceCtorEq, Nat.reduceEqDiff, Nat.reduceAdd, Nat.reduceMul, Nat.reduceSub, Nat.reduceLeDiff, Nat.reduceBEq, Int.reduceToNat, Int.reduceLE, Int.reduceLT, Int.reduceEq, Int.reduceNe, di0, di1, di2, di3, di4, di5, di6, di7, di8, di9, postX_ret, postX_normal, ex_some]
          refine calls_of hc ?_; simp only [knI, tabI, pieceI, pairI, lpI, stI, flI, rdI, rnI, getD_kn, res6, b6k0, b6k1, b6k2, b6k3, b6k4, b6k5, b6k6, b6k7, b6k8, b6k9, b6k10, b6k11, b6k12, b6k13, b6k14, ↓reduceIte, reduceCtorEq, Nat.reduceEqDiff, Nat.reduceAdd, Nat.reduceMul, Nat.reduceSub, Nat.reduceLeDiff, Nat.reduceBEq, Int.reduceToNat, Int.reduceLE, Int.reduceLT, Int.reduceEq, Int.reduceNe, di0, di1, di2, di3, di4, di5, di6, di7, di8, di9, postX_ret, postX_normal, ex_some]
          refine calls_of hi ?_; simp only [knI, tabI, pieceI, pairI, lpI, stI, flI, rdI, rnI, getD_kn, res6, b6k0, b6k1, b6k2, b6k3, b6k4, b6k5, b6k6, b6k7, b6k8, b6k9, b6k10, b6k11, b6k12, b6k13, b6k14, ↓reduceIte, reduceCtorEq, Nat.reduceEqDiff, Nat.reduceAdd, Nat.reduceMul, Nat.reduceSub, Nat.reduceLeDiff, Nat.reduceBEq, Int.reduceToNat, Int.reduceLE, Int.reduceLT, Int.reduceEq, Int.reduceNe, di0, di1, di2, di3, di4, di5, di6, di7, di8, di9, postX_ret, postX_normal, ex_some]
          refine calls_of hr ?_; simp only [knI, tabI, pieceI, pairI, lpI, stI, flI, rdI, rnI, getD_kn, res6, b6k0, b6k1, b6k2, b6k3, b6k4, b6k5, b6k6, b6k7, b6k8, b6k9, b6k10, b6k11, b6k12, b6k13, b6k14, ↓reduceIte, reduceCtorEq, Nat.reduceEqDiff, Nat.reduceAdd, Nat.reduceMul, Nat.reduceSub, Nat.reduceLeDiff, Nat.reduceBEq, Int.reduceToNat, Int.reduceLE, Int.reduceLT, Int.reduceEq, Int.reduceNe, di0, di1, di2, di3, di4, di5, di6, di7, di8, di9, postX_ret, postX_normal, ex_some]
          obtain ⟨q1, q2, q3, q4, q5, q6⟩ := clash hv h5
          generalize conI (rs.map (perm l net)) = ci at *
          refine calls_of hB ?_; simp only [knI, tabI, pieceI, pairI, lpI, stI, flI, rdI, rnI, getD_kn, res6, b6k0, b6k1, b6k2, b6k3, b6k4, b6k5, b6k6, b6k7, b6k8, b6k9, b6k10, b6k11, b6k12, b6k13, b6k14, ↓reduceIte, reduceCtorEq, Nat.reduceEqDiff, Nat.reduceAdd, Nat.reduceMul, Nat.reduceSub, Nat.reduceLeDiff, Nat.reduceBEq, Int.reduceToNat, Int.reduceLE, Int.reduceLT, Int.reduceEq, Int.reduceNe, di0, di1, di2, di3, di4, di5, di6, di7, di8, di9, postX_ret, postX_normal, ex_some]
          refine calls_of c_Within ?_; simp only [knI, tabI, pieceI, pairI, lpI, stI, flI, rdI, rnI, getD_kn, res6, b6k0, b6k1, b6k2, b6k3, b6k4, b6k5, b6k6, b6k7, b6k8, b6k9, b6k10, b6k11, b6k12, b6k13, b6k14, ↓reduceIte, reduceCtorEq, Nat.reduceEqDiff, Nat.reduceAdd, Nat.reduceMul, Nat.reduceSub, Nat.reduceLeDiff, Nat.reduceBEq, Int.reduceToNat, Int.reduceLE, Int.reduceLT, Int.reduceEq, Int.reduceNe, di0, di1, di2, di3, di4, di5, di6, di7, di8, di9, postX_ret, postX_normal, ex_some]
          simp only [if_pos (show 1 ≤ (ci.length : Int) ∧ (ci.length : Int) ≤ 2 by omega), knI, tabI, pieceI, pairI, lpI, stI, flI, rdI, rnI, getD_kn, ↓reduceIte, reduceCtorEq, Nat.reduceEqDiff, Nat.reduceAdd, Nat.reduceMul, Nat.reduceSub, Nat.reduceLeDiff, Nat.reduceBEq, Int.reduceToNat, Int.reduceLE, Int.reduceLT, Int.reduceEq, Int.reduceNe, di0, di1, di2, di3, di4, di5, di6, di7, di8, di9, postX_ret, postX_normal, ex_some]
          refine loop_keep (α := Nat) rfl (fun j => ci.length - j) (fun j => j ≤ ci.length)
            (fun j => [(1, .imm (.slc 1 (net.map (.int .i64)))), (3, .ref 3 0), (5, .ref 5 0), (9, .imm (.slc 1 (ci.map (.int .i64)))), (11, .own 11), (12, .imm (.int .i64 j))])
            (fun j => [(3, .box [.imm (.slc 2 (l.map knI))]), (5, .box [.imm (.slc 3 (rs.map rdI)), .imm (.int .i64 v)]), (11, .tok 3 ((ci.take j).map (fun z => rdI (rs.getD z.toNat default))))])
            0 (Nat.zero_le _) (by simp only [↓reduceIte, reduceCtorEq, Nat.reduceEqDiff, Nat.reduceAdd, Nat.reduceMul, Nat.reduceSub, Nat.reduceLeDiff, Nat.reduceBEq, Int.reduceToNat, Int.reduceLE, Int.reduceLT, Int.reduceEq, Int.reduceNe, di0, di1, di2, di3, di4, di5, di6, di7, di8, di9, postX_ret, postX_normal, ex_some] <;> rfl) ?_
          intro j hj ih
          simp only [res6, b6k0, b6k1, b6k2, b6k3, b6k4, b6k5, b6k6, b6k7, b6k8, b6k9, b6k10, b6k11, b6k12, b6k13, b6k14, knI, tabI, pieceI, pairI, lpI, stI, flI, rdI, rnI, getD_kn, ↓reduceIte, reduceCtorEq, Nat.reduceEqDiff, Nat.reduceAdd, Nat.reduceMul, Nat.reduceSub, Nat.reduceLeDiff, Nat.reduceBEq, Int.reduceToNat, Int.reduceLE, Int.reduceLT, Int.reduceEq, Int.reduceNe, di0, di1, di2, di3, di4, di5, di6, di7, di8, di9, postX_ret, postX_normal, ex_some]
          split
          · rename_i h6
            have hb := q3 j (by omega)
            obtain ⟨a, b, e, e1, hC⟩ := q5 j (by omega)
            repeat (refine And.intro (by omega) ?_)
            have w1 : IntKind.wrap .i64 ((rs.length : Int) - 1) = (rs.length : Int) - 1 := wrap64 (by omega) (by omega)
            have hee : (decide (e = 13) == decide ((ci.length : Int) = 1)) = true := by
              rw [beq_iff_eq, decide_eq_decide, e1]
              omega
            have htk := take_snoc (d := (0 : Int)) (show j < ci.length by omega)
            have htl : (ci.take j).length = j := by rw [List.length_take]; omega
            refine calls_of c_Within ?_; simp only [knI, tabI, pieceI, pairI, lpI, stI, flI, rdI, rnI, getD_kn, res6, b6k0, b6k1, b6k2, b6k3, b6k4, b6k5, b6k6, b6k7, b6k8, b6k9, b6k10, b6k11, b6k12, b6k13, b6k14, ↓reduceIte, reduceCtorEq, Nat.reduceEqDiff, Nat.reduceAdd, Nat.reduceMul, Nat.reduceSub, Nat.reduceLeDiff, Nat.reduceBEq, Int.reduceToNat, Int.reduceLE, Int.reduceLT, Int.reduceEq, Int.reduceNe, di0, di1, di2, di3, di4, di5, di6, di7, di8, di9, postX_ret, postX_normal, ex_some]
            simp only [w1, htl, if_pos (show 0 ≤ ci.getD j 0 ∧ ci.getD j 0 ≤ (rs.length : Int) - 1 by omega)]
            by_cases h7 : 0 < (j : Int)
            · have w2 : IntKind.wrap .i64 ((j : Int) - 1) = (j : Int) - 1 := wrap64 (by omega) (by omega)
              have w3 : ((j : Int) - 1).toNat = j - 1 := by omega
              have h8 := q4 j (by omega) (by omega)
              simp only [if_pos h7, w2, w3, if_neg (show ¬ ci.getD j 0 ≤ ci.getD (j - 1) 0 by omega)]
              repeat (refine And.intro (by omega) ?_)
              refine calls_of hc ?_; simp only [knI, tabI, pieceI, pairI, lpI, stI, flI, rdI, rnI, getD_kn, res6, b6k0, b6k1, b6k2, b6k3, b6k4, b6k5, b6k6, b6k7, b6k8, b6k9, b6k10, b6k11, b6k12, b6k13, b6k14, ↓reduceIte, reduceCtorEq, Nat.reduceEqDiff, Nat.reduceAdd, Nat.reduceMul, Nat.reduceSub, Nat.reduceLeDiff, Nat.reduceBEq, Int.reduceToNat, Int.reduceLE, Int.reduceLT, Int.reduceEq, Int.reduceNe, di0, di1, di2, di3, di4, di5, di6, di7, di8, di9, postX_ret, postX_normal, ex_some]
              refine calls_of hi ?_; simp only [knI, tabI, pieceI, pairI, lpI, stI, flI, rdI, rnI, getD_kn, res6, b6k0, b6k1, b6k2, b6k3, b6k4, b6k5, b6k6, b6k7, b6k8, b6k9, b6k10, b6k11, b6k12, b6k13, b6k14, ↓reduceIte, reduceCtorEq, Nat.reduceEqDiff, Nat.reduceAdd, Nat.reduceMul, Nat.reduceSub, Nat.reduceLeDiff, Nat.reduceBEq, Int.reduceToNat, Int.reduceLE, Int.reduceLT, Int.reduceEq, Int.reduceNe, di0, di1, di2, di3, di4, di5, di6, di7, di8, di9, postX_ret, postX_normal, ex_some]
              repeat (refine And.intro (by omega) ?_)
              refine calls_of hC ?_
              simp only [res6, b6k0, b6k1, b6k2, b6k3, b6k4, b6k5, b6k6, b6k7, b6k8, b6k9, b6k10, b6k11, b6k12, b6k13, b6k14, knI, tabI, pieceI, pairI, lpI, stI, flI, rdI, rnI, getD_kn, ↓reduceIte, reduceCtorEq, Nat.reduceEqDiff, Nat.reduceAdd, Nat.reduceMul, Nat.reduceSub, Nat.reduceLeDiff, Nat.reduceBEq, Int.reduceToNat, Int.reduceLE, Int.reduceLT, Int.reduceEq, Int.reduceNe, di0, di1, di2, di3, di4, di5, di6, di7, di8, di9, postX_ret, postX_normal, ex_some]
              simp only [hee, knI, tabI, pieceI, pairI, lpI, stI, flI, rdI, rnI, getD_kn, ↓reduceIte, reduceCtorEq, Nat.reduceEqDiff, Nat.reduceAdd, Nat.reduceMul, Nat.reduceSub, Nat.reduceLeDiff, Nat.reduceBEq, Int.reduceToNat, Int.reduceLE, Int.reduceLT, Int.reduceEq, Int.reduceNe, di0, di1, di2, di3, di4, di5, di6, di7, di8, di9, postX_ret, postX_normal, ex_some]
              rw [wrap64 (n := (j : Int) + 1) (by omega) (by omega)]
              refine ih (j + 1) _ _ (by omega) (by omega) ?_
              rw [htk, List.map_append]
              simp only [knI, tabI, pieceI, pairI, lpI, stI, flI, rdI, rnI, getD_kn, ↓reduceIte, reduceCtorEq, Nat.reduceEqDiff, Nat.reduceAdd, Nat.reduceMul, Nat.reduceSub, Nat.reduceLeDiff, Nat.reduceBEq, Int.reduceToNat, Int.reduceLE, Int.reduceLT, Int.reduceEq, Int.reduceNe, di0, di1, di2, di3, di4, di5, di6, di7, di8, di9, postX_ret, postX_normal, ex_some]
              rfl
            · simp only [if_neg h7]
              repeat (refine And.intro (by omega) ?_)
              refine calls_of hc ?_; simp only [knI, tabI, pieceI, pairI, lpI, stI, flI, rdI, rnI, getD_kn, res6, b6k0, b6k1, b6k2, b6k3, b6k4, b6k5, b6k6, b6k7, b6k8, b6k9, b6k10, b6k11, b6k12, b6k13, b6k14, ↓reduceIte, reduceCtorEq, Nat.reduceEqDiff, Nat.reduceAdd, Nat.reduceMul, Nat.reduceSub, Nat.reduceLeDiff, Nat.reduceBEq, Int.reduceToNat, Int.reduceLE, Int.reduceLT, Int.reduceEq, Int.reduceNe, di0, di1, di2, di3, di4, di5, di6, di7, di8, di9, postX_ret, postX_normal, ex_some]
              refine calls_of hi ?_; simp only [knI, tabI, pieceI, pairI, lpI, stI, flI, rdI, rnI, getD_kn, res6, b6k0, b6k1, b6k2, b6k3, b6k4, b6k5, b6k6, b6k7, b6k8, b6k9, b6k10, b6k11, b6k12, b6k13, b6k14, ↓reduceIte, reduceCtorEq, Nat.reduceEqDiff, Nat.reduceAdd, Nat.reduceMul, Nat.reduceSub, Nat.reduceLeDiff, Nat.reduceBEq, Int.reduceToNat, Int.reduceLE, Int.reduceLT, Int.reduceEq, Int.reduceNe, di0, di1, di2, di3, di4, di5, di6, di7, di8, di9, postX_ret, postX_normal, ex_some]
              repeat (refine And.intro (by omega) ?_)
              refine calls_of hC ?_
              simp only [res6, b6k0, b6k1, b6k2, b6k3, b6k4, b6k5, b6k6, b6k7, b6k8, b6k9, b6k10, b6k11, b6k12, b6k13, b6k14, knI, tabI, pieceI, pairI, lpI, stI, flI, rdI, rnI, getD_kn, ↓reduceIte, reduceCtorEq, Nat.reduceEqDiff, Nat.reduceAdd, Nat.reduceMul, Nat.reduceSub, Nat.reduceLeDiff, Nat.reduceBEq, Int.reduceToNat, Int.reduceLE, Int.reduceLT, Int.reduceEq, Int.reduceNe, di0, di1, di2, di3, di4, di5, di6, di7, di8, di9, postX_ret, postX_normal, ex_some]
              simp only [hee, knI, tabI, pieceI, pairI, lpI, stI, flI, rdI, rnI, getD_kn, ↓reduceIte, reduceCtorEq, Nat.reduceEqDiff, Nat.reduceAdd, Nat.reduceMul, Nat.reduceSub, Nat.reduceLeDiff, Nat.reduceBEq, Int.reduceToNat, Int.reduceLE, Int.reduceLT, Int.reduceEq, Int.reduceNe, di0, di1, di2, di3, di4, di5, di6, di7, di8, di9, postX_ret, postX_normal, ex_some]
              rw [wrap64 (n := (j : Int) + 1) (by omega) (by omega)]
              refine ih (j + 1) _ _ (by omega) (by omega) ?_
              rw [htk, List.map_append]
              simp only [knI, tabI, pieceI, pairI, lpI, stI, flI, rdI, rnI, getD_kn, ↓reduceIte, reduceCtorEq, Nat.reduceEqDiff, Nat.reduceAdd, Nat.reduceMul, Nat.reduceSub, Nat.reduceLeDiff, Nat.reduceBEq, Int.reduceToNat, Int.reduceLE, Int.reduceLT, Int.reduceEq, Int.reduceNe, di0, di1, di2, di3, di4, di5, di6, di7, di8, di9, postX_ret, postX_normal, ex_some]
              rfl
          · rename_i h6
            rw [List.take_of_length_le (by omega)]
            refine calls_of hc ?_; simp only [knI, tabI, pieceI, pairI, lpI, stI, flI, rdI, rnI, getD_kn, res6, b6k0, b6k1, b6k2, b6k3, b6k4, b6k5, b6k6, b6k7, b6k8, b6k9, b6k10, b6k11, b6k12, b6k13, b6k14, ↓reduceIte, reduceCtorEq, Nat.reduceEqDiff, Nat.reduceAdd, Nat.reduceMul, Nat.reduceSub, Nat.reduceLeDiff, Nat.reduceBEq, Int.reduceToNat, Int.reduceLE, Int.reduceLT, Int.reduceEq, Int.reduceNe, di0, di1, di2, di3, di4, di5, di6, di7, di8, di9, postX_ret, postX_normal, ex_some]
            refine calls_of hi ?_; simp only [knI, tabI, pieceI, pairI, lpI, stI, flI, rdI, rnI, getD_kn, res6, b6k0, b6k1, b6k2, b6k3, b6k4, b6k5, b6k6, b6k7, b6k8, b6k9, b6k10, b6k11, b6k12, b6k13, b6k14, ↓reduceIte, reduceCtorEq, Nat.reduceEqDiff, Nat.reduceAdd, Nat.reduceMul, Nat.reduceSub, Nat.reduceLeDiff, Nat.reduceBEq, Int.reduceToNat, Int.reduceLE, Int.reduceLT, Int.reduceEq, Int.reduceNe, di0, di1, di2, di3, di4, di5, di6, di7, di8, di9, postX_ret, postX_normal, ex_some]
            refine calls_of q6 ?_
            simp only [rnI, res6, b6k0, b6k1, b6k2, b6k3, b6k4, b6k5, b6k6, b6k7, b6k8, b6k9, b6k10, b6k11, b6k12, b6k13, b6k14, knI, tabI, pieceI, pairI, lpI, stI, flI, rdI, rnI, getD_kn, ↓reduceIte, reduceCtorEq, Nat.reduceEqDiff, Nat.reduceAdd, Nat.reduceMul, Nat.reduceSub, Nat.reduceLeDiff, Nat.reduceBEq, Int.reduceToNat, Int.reduceLE, Int.reduceLT, Int.reduceEq, Int.reduceNe, di0, di1, di2, di3, di4, di5, di6, di7, di8, di9, postX_ret, postX_normal, ex_some]
      · trivial
    · trivial
  · trivial

theorem arg_gauges {m : Nat} {xs : List IV} (h : RepF Try.prog (m + 5) 73 xs) : ∃ g : Gau, mkE Try.prog 73 xs = gaI g := by
  obtain ⟨a, b, rfl, h1, c, d, rfl, h2, rfl⟩ := repF_struct Try.underlying73 h
  obtain ⟨l, rfl⟩ := rep_readings h1
  obtain ⟨n, rfl, _⟩ := rep_int h2
  exact ⟨⟨l, n⟩, mkE_struct Try.underlying73⟩
end Go.DI


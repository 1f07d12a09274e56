/- The statement LakeKept, on data. No condition. -/
import Derived.Test.YtbmlfeikdhpdfaaJk
import Derived.Test.YtbmlfeikdhpdfaaKea
set_option linter.unusedSimpArgs false
set_option maxRecDepth 100000
namespace Go.DI
open Go.Proofs Go.RowKit Lk

theorem getD_at {α : Type} [Inhabited α] {a r : List α} {x : α} {i : Nat} (h : a.length = i) : (a ++ x :: r).getD i default = x := by
  subst h
  rw [List.getD_eq_getElem?_getD]
  simp

theorem lastS_mem {s : Sta} : ∀ {r : List Sta}, lastS s r = s ∨ lastS s r ∈ r
  | [] => Or.inl rfl
  | t :: r => by
    rcases @lastS_mem t r with h | h
    · right; simp [lastS, h]
    · right; simp [lastS, h]
theorem lastS_take {s : Sta} {r : List Sta} {n : Nat} (h0 : 0 < n) (h : n ≤ r.length) : lastS s (r.take n) = r.getD (n - 1) default := by
  have e : r.take n = r.take (n - 1) ++ [r.getD (n - 1) default] := by
    rw [show n = n - 1 + 1 by omega, List.take_succ_eq_append_getElem (by omega), List.getD_eq_getElem?_getD]
    simp [show n - 1 < r.length by omega]
  rw [e, lastS_append]

theorem l_LakeKept {p : Pair} {s : Sta} {l : List Flow} : Contract Try.prog 11 [lpI p, stI s, .slc 3 (l.map flI)] (.bool true) := by
  refine contract_run Try.func11 k11 rfl ?_
  simp only [body11, b11, res11, b11k0, b11k1, b11k2, b11k3, b11k4, b11k5, b11k6, b11k7, b11k8, b11k9, knI, tabI, pieceI, pairI, lpI, stI, flI, rdI, rnI, getD_kn, ↓reduceIte, reduceCtorEq, Nat.reduceEqDiff, Nat.reduceAdd, Nat.reduceMul, Nat.reduceSub, Nat.reduceLeDiff, Nat.reduceBEq, Int.reduceToNat, Int.reduceLE, Int.reduceLT, Int.reduceEq, Int.reduceNe, di0, di1, di2, di3, di4, di5, di6, di7, di8, di9, postX_ret, postX_normal, ex_some]
  refine calls_of l_awake ?_; simp only [knI, tabI, pieceI, pairI, lpI, stI, flI, rdI, rnI, getD_kn, res11, b11k0, b11k1, b11k2, b11k3, b11k4, b11k5, b11k6, b11k7, b11k8, b11k9, ↓reduceIte, reduceCtorEq, Nat.reduceEqDiff, Nat.reduceAdd, Nat.reduceMul, Nat.reduceSub, Nat.reduceLeDiff, Nat.reduceBEq, Int.reduceToNat, Int.reduceLE, Int.reduceLT, Int.reduceEq, Int.reduceNe, di0, di1, di2, di3, di4, di5, di6, di7, di8, di9, postX_ret, postX_normal, ex_some]
  refine calls_of l_FewPair ?_; simp only [knI, tabI, pieceI, pairI, lpI, stI, flI, rdI, rnI, getD_kn, res11, b11k0, b11k1, b11k2, b11k3, b11k4, b11k5, b11k6, b11k7, b11k8, b11k9, ↓reduceIte, reduceCtorEq, Nat.reduceEqDiff, Nat.reduceAdd, Nat.reduceMul, Nat.reduceSub, Nat.reduceLeDiff, Nat.reduceBEq, Int.reduceToNat, Int.reduceLE, Int.reduceLT, Int.reduceEq, Int.reduceNe, di0, di1, di2, di3, di4, di5, di6, di7, di8, di9, postX_ret, postX_normal, ex_some]
  split
  · rename_i h0
    have hsm : Sm p := ⟨by omega, by omega⟩
    have hl : l.length ≤ 24 := by omega
    refine calls_of (r_BothErr hsm) ?_; simp only [knI, tabI, pieceI, pairI, lpI, stI, flI, rdI, rnI, getD_kn, res11, b11k0, b11k1, b11k2, b11k3, b11k4, b11k5, b11k6, b11k7, b11k8, b11k9, ↓reduceIte, reduceCtorEq, Nat.reduceEqDiff, Nat.reduceAdd, Nat.reduceMul, Nat.reduceSub, Nat.reduceLeDiff, Nat.reduceBEq, Int.reduceToNat, Int.reduceLE, Int.reduceLT, Int.reduceEq, Int.reduceNe, di0, di1, di2, di3, di4, di5, di6, di7, di8, di9, postX_ret, postX_normal, ex_some]
    split
    · rename_i h1
      have hv := bothErr_ok.1 h1
      refine calls_of (r_ListErr (by omega)) ?_; simp only [knI, tabI, pieceI, pairI, lpI, stI, flI, rdI, rnI, getD_kn, res11, b11k0, b11k1, b11k2, b11k3, b11k4, b11k5, b11k6, b11k7, b11k8, b11k9, ↓reduceIte, reduceCtorEq, Nat.reduceEqDiff, Nat.reduceAdd, Nat.reduceMul, Nat.reduceSub, Nat.reduceLeDiff, Nat.reduceBEq, Int.reduceToNat, Int.reduceLE, Int.reduceLT, Int.reduceEq, Int.reduceNe, di0, di1, di2, di3, di4, di5, di6, di7, di8, di9, postX_ret, postX_normal, ex_some]
      split
      · rename_i h2
        have hf := listErr_ok.1 h2
        have hcp := r_CopyPair (p := p) (by omega) (by omega)
        have hcl := r_CopyList (l := l) (by omega)
        have hR := p_RunOf (s := s) (l := l) hsm (by omega)
        rw [if_pos h1, if_pos h2] at hR
        refine calls_of hcp ?_; simp only [knI, tabI, pieceI, pairI, lpI, stI, flI, rdI, rnI, getD_kn, res11, b11k0, b11k1, b11k2, b11k3, b11k4, b11k5, b11k6, b11k7, b11k8, b11k9, ↓reduceIte, reduceCtorEq, Nat.reduceEqDiff, Nat.reduceAdd, Nat.reduceMul, Nat.reduceSub, Nat.reduceLeDiff, Nat.reduceBEq, Int.reduceToNat, Int.reduceLE, Int.reduceLT, Int.reduceEq, Int.reduceNe, di0, di1, di2, di3, di4, di5, di6, di7, di8, di9, postX_ret, postX_normal, ex_some]
        refine calls_of hcl ?_; simp only [knI, tabI, pieceI, pairI, lpI, stI, flI, rdI, rnI, getD_kn, res11, b11k0, b11k1, b11k2, b11k3, b11k4, b11k5, b11k6, b11k7, b11k8, b11k9, ↓reduceIte, reduceCtorEq, Nat.reduceEqDiff, Nat.reduceAdd, Nat.reduceMul, Nat.reduceSub, Nat.reduceLeDiff, Nat.reduceBEq, Int.reduceToNat, Int.reduceLE, Int.reduceLT, Int.reduceEq, Int.reduceNe, di0, di1, di2, di3, di4, di5, di6, di7, di8, di9, postX_ret, postX_normal, ex_some]
        by_cases h3 : (runP p s l).2.2 = true
        · rw [if_pos h3] at hR
          have hlen := (runP_len (p := p) (s := s) (l := l)).2 h3
          have hsp := runP_spec hv.1 hv.2 hf.2
          have hE : 0 ≤ (runP p s l).2.1.1 ∧ (runP p s l).2.1.1 ≤ 48000000000 := by omega
          have hF : 0 ≤ (runP p s l).2.1.2 ∧ (runP p s l).2.1.2 ≤ 48000000000 := by omega
          refine calls_of hR ?_; simp only [knI, tabI, pieceI, pairI, lpI, stI, flI, rdI, rnI, getD_kn, res11, b11k0, b11k1, b11k2, b11k3, b11k4, b11k5, b11k6, b11k7, b11k8, b11k9, ↓reduceIte, reduceCtorEq, Nat.reduceEqDiff, Nat.reduceAdd, Nat.reduceMul, Nat.reduceSub, Nat.reduceLeDiff, Nat.reduceBEq, Int.reduceToNat, Int.reduceLE, Int.reduceLT, Int.reduceEq, Int.reduceNe, di0, di1, di2, di3, di4, di5, di6, di7, di8, di9, postX_ret, postX_normal, ex_some]
          simp only [hlen, knI, tabI, pieceI, pairI, lpI, stI, flI, rdI, rnI, getD_kn, ↓reduceIte, reduceCtorEq, Nat.reduceEqDiff, Nat.reduceAdd, Nat.reduceMul, Nat.reduceSub, Nat.reduceLeDiff, Nat.reduceBEq, Int.reduceToNat, Int.reduceLE, Int.reduceLT, Int.reduceEq, Int.reduceNe, di0, di1, di2, di3, di4, di5, di6, di7, di8, di9, postX_ret, postX_normal, ex_some]
          refine calls_of c_Within ?_; simp only [knI, tabI, pieceI, pairI, lpI, stI, flI, rdI, rnI, getD_kn, res11, b11k0, b11k1, b11k2, b11k3, b11k4, b11k5, b11k6, b11k7, b11k8, b11k9, ↓reduceIte, reduceCtorEq, Nat.reduceEqDiff, Nat.reduceAdd, Nat.reduceMul, Nat.reduceSub, Nat.reduceLeDiff, Nat.reduceBEq, Int.reduceToNat, Int.reduceLE, Int.reduceLT, Int.reduceEq, Int.reduceNe, di0, di1, di2, di3, di4, di5, di6, di7, di8, di9, postX_ret, postX_normal, ex_some]
          simp only [if_pos hE, knI, tabI, pieceI, pairI, lpI, stI, flI, rdI, rnI, getD_kn, ↓reduceIte, reduceCtorEq, Nat.reduceEqDiff, Nat.reduceAdd, Nat.reduceMul, Nat.reduceSub, Nat.reduceLeDiff, Nat.reduceBEq, Int.reduceToNat, Int.reduceLE, Int.reduceLT, Int.reduceEq, Int.reduceNe, di0, di1, di2, di3, di4, di5, di6, di7, di8, di9, postX_ret, postX_normal, ex_some]
          refine calls_of c_Within ?_; simp only [knI, tabI, pieceI, pairI, lpI, stI, flI, rdI, rnI, getD_kn, res11, b11k0, b11k1, b11k2, b11k3, b11k4, b11k5, b11k6, b11k7, b11k8, b11k9, ↓reduceIte, reduceCtorEq, Nat.reduceEqDiff, Nat.reduceAdd, Nat.reduceMul, Nat.reduceSub, Nat.reduceLeDiff, Nat.reduceBEq, Int.reduceToNat, Int.reduceLE, Int.reduceLT, Int.reduceEq, Int.reduceNe, di0, di1, di2, di3, di4, di5, di6, di7, di8, di9, postX_ret, postX_normal, ex_some]
          simp only [if_pos hF, knI, tabI, pieceI, pairI, lpI, stI, flI, rdI, rnI, getD_kn, ↓reduceIte, reduceCtorEq, Nat.reduceEqDiff, Nat.reduceAdd, Nat.reduceMul, Nat.reduceSub, Nat.reduceLeDiff, Nat.reduceBEq, Int.reduceToNat, Int.reduceLE, Int.reduceLT, Int.reduceEq, Int.reduceNe, di0, di1, di2, di3, di4, di5, di6, di7, di8, di9, postX_ret, postX_normal, ex_some]
          have hst := @hv.2
          refine loop_keep (α := Nat × Sta × Int × Int × Int × List Sta) rfl (fun x => l.length - x.1)
            (fun x => x.1 ≤ l.length ∧ stOk p x.2.1 ∧ x.2.2.2.2.2.length = x.1 ∧ 0 ≤ x.2.2.1 ∧ x.2.2.1 ≤ 20000000 * x.1 ∧ 0 ≤ x.2.2.2.1 ∧ x.2.2.2.1 ≤ 2000000000 * x.1 ∧ 0 ≤ x.2.2.2.2.1 ∧ x.2.2.2.2.1 ≤ 2000000000 * x.1 ∧
              x.2.1.1 + x.2.1.2 + x.2.2.2.1 + x.2.2.2.2.1 = s.1 + s.2 + x.2.2.1 ∧
              runP p s l = (x.2.2.2.2.2 ++ (runP p x.2.1 (l.drop x.1)).1, (x.2.2.2.1 + (runP p x.2.1 (l.drop x.1)).2.1.1, x.2.2.2.2.1 + (runP p x.2.1 (l.drop x.1)).2.1.2), (runP p x.2.1 (l.drop x.1)).2.2))
            (fun x => [(2, .imm (.slc 3 (l.map flI))), (3, .ref 3 0), (4, .ref 4 0), (7, .imm (.slc 2 ((runP p s l).1.map stI))), (8, .ref 8 0), (10, .ref 10 0), (11, .imm (.int .i64 x.2.2.1)), (12, .ref 12 0), (13, .imm (.int .i64 x.1))])
            (fun x => [(3, .box [.imm (.slc 2 (p.u.map knI)), .imm (.slc 2 (p.l.map knI)), .imm (.int .i64 p.rate)]), (4, .box [.imm (.int .i64 s.1), .imm (.int .i64 s.2)]), (8, .box [.imm (.int .i64 (runP p s l).2.1.1), .imm (.int .i64 (runP p s l).2.1.2)]),
              (10, .box [.imm (.int .i64 x.2.1.1), .imm (.int .i64 x.2.1.2)]), (12, .box [.imm (.int .i64 x.2.2.2.1), .imm (.int .i64 x.2.2.2.2.1)])])
            (0, s, 0, 0, 0, []) ⟨Nat.zero_le _, hv.2, rfl, by dsimp only; omega, by dsimp only; omega, by dsimp only; omega, by dsimp only; omega, by dsimp only; omega, by dsimp only; omega, by dsimp only; omega, by simp⟩ (by simp only [↓reduceIte, reduceCtorEq, Nat.reduceEqDiff, Nat.reduceAdd, Nat.reduceMul, Nat.reduceSub, Nat.reduceLeDiff, Nat.reduceBEq, Int.reduceToNat, Int.reduceLE, Int.reduceLT, Int.reduceEq, Int.reduceNe, di0, di1, di2, di3, di4, di5, di6, di7, di8, di9, postX_ret, postX_normal, ex_some] <;> rfl) ?_
          rintro ⟨i, c, N, E, F, o⟩ ⟨hi, hc, ho, hN0, hN1, hE0, hE1, hF0, hF1, hk, hr⟩ ih
          dsimp only at hi hc ho hN0 hN1 hE0 hE1 hF0 hF1 hk hr
          simp only [res11, b11k0, b11k1, b11k2, b11k3, b11k4, b11k5, b11k6, b11k7, b11k8, b11k9, knI, tabI, pieceI, pairI, lpI, stI, flI, rdI, rnI, getD_kn, ↓reduceIte, reduceCtorEq, Nat.reduceEqDiff, Nat.reduceAdd, Nat.reduceMul, Nat.reduceSub, Nat.reduceLeDiff, Nat.reduceBEq, Int.reduceToNat, Int.reduceLE, Int.reduceLT, Int.reduceEq, Int.reduceNe, di0, di1, di2, di3, di4, di5, di6, di7, di8, di9, postX_ret, postX_normal, ex_some]
          split
          · rename_i hi2
            have hx : flowOk (l.getD i default) := hf.2 _ (by
              rw [List.getD_eq_getElem?_getD]; simp [show i < l.length by omega])
            have hd := fl_getD (l := l) (i := i) (by omega)
            rw [hd] at hr
            cases hss : Lk.step p c (l.getD i default) with
            | none =>
              rw [runP_none hss] at hr
              rw [hr] at h3
              cases h3
            | some q =>
              obtain ⟨t, e, f⟩ := q
              have hs2 := step_some hv.1 hc hx hss
              rw [runP_some hss] at hr
              have hO : stepO p c (l.getD i default) = (t, (e, f), 0) := by unfold stepO stepE; rw [if_pos (bothErr_ok.2 ⟨hv.1, hc⟩), if_pos (flowErr_ok.2 hx), hss]
              have hS := p_Step (s := c) (x := l.getD i default) hsm
              rw [hO] at hS
              have hg : (runP p s l).1.getD i default = t := by rw [hr]; exact getD_at ho
              refine calls_of hcp ?_; simp only [knI, tabI, pieceI, pairI, lpI, stI, flI, rdI, rnI, getD_kn, res11, b11k0, b11k1, b11k2, b11k3, b11k4, b11k5, b11k6, b11k7, b11k8, b11k9, ↓reduceIte, reduceCtorEq, Nat.reduceEqDiff, Nat.reduceAdd, Nat.reduceMul, Nat.reduceSub, Nat.reduceLeDiff, Nat.reduceBEq, Int.reduceToNat, Int.reduceLE, Int.reduceLT, Int.reduceEq, Int.reduceNe, di0, di1, di2, di3, di4, di5, di6, di7, di8, di9, postX_ret, postX_normal, ex_some]
              repeat (refine And.intro (by omega) ?_)
              refine calls_of hS ?_
              simp only [outI, hlen, hg, res11, b11k0, b11k1, b11k2, b11k3, b11k4, b11k5, b11k6, b11k7, b11k8, b11k9, knI, tabI, pieceI, pairI, lpI, stI, flI, rdI, rnI, getD_kn, ↓reduceIte, reduceCtorEq, Nat.reduceEqDiff, Nat.reduceAdd, Nat.reduceMul, Nat.reduceSub, Nat.reduceLeDiff, Nat.reduceBEq, Int.reduceToNat, Int.reduceLE, Int.reduceLT, Int.reduceEq, Int.reduceNe, di0, di1, di2, di3, di4, di5, di6, di7, di8, di9, postX_ret, postX_normal, ex_some]
              have hSE := r_StateErr (s := t) hv.1
              rw [if_pos hs2.1] at hSE
              repeat (refine And.intro (by omega) ?_)
              refine calls_of hSE ?_; simp only [knI, tabI, pieceI, pairI, lpI, stI, flI, rdI, rnI, getD_kn, res11, b11k0, b11k1, b11k2, b11k3, b11k4, b11k5, b11k6, b11k7, b11k8, b11k9, ↓reduceIte, reduceCtorEq, Nat.reduceEqDiff, Nat.reduceAdd, Nat.reduceMul, Nat.reduceSub, Nat.reduceLeDiff, Nat.reduceBEq, Int.reduceToNat, Int.reduceLE, Int.reduceLT, Int.reduceEq, Int.reduceNe, di0, di1, di2, di3, di4, di5, di6, di7, di8, di9, postX_ret, postX_normal, ex_some]
              refine calls_of c_Within ?_; simp only [knI, tabI, pieceI, pairI, lpI, stI, flI, rdI, rnI, getD_kn, res11, b11k0, b11k1, b11k2, b11k3, b11k4, b11k5, b11k6, b11k7, b11k8, b11k9, ↓reduceIte, reduceCtorEq, Nat.reduceEqDiff, Nat.reduceAdd, Nat.reduceMul, Nat.reduceSub, Nat.reduceLeDiff, Nat.reduceBEq, Int.reduceToNat, Int.reduceLE, Int.reduceLT, Int.reduceEq, Int.reduceNe, di0, di1, di2, di3, di4, di5, di6, di7, di8, di9, postX_ret, postX_normal, ex_some]
              simp only [if_pos (show 0 ≤ e ∧ e ≤ 2000000000 by omega), knI, tabI, pieceI, pairI, lpI, stI, flI, rdI, rnI, getD_kn, ↓reduceIte, reduceCtorEq, Nat.reduceEqDiff, Nat.reduceAdd, Nat.reduceMul, Nat.reduceSub, Nat.reduceLeDiff, Nat.reduceBEq, Int.reduceToNat, Int.reduceLE, Int.reduceLT, Int.reduceEq, Int.reduceNe, di0, di1, di2, di3, di4, di5, di6, di7, di8, di9, postX_ret, postX_normal, ex_some]
              refine calls_of c_Within ?_; simp only [knI, tabI, pieceI, pairI, lpI, stI, flI, rdI, rnI, getD_kn, res11, b11k0, b11k1, b11k2, b11k3, b11k4, b11k5, b11k6, b11k7, b11k8, b11k9, ↓reduceIte, reduceCtorEq, Nat.reduceEqDiff, Nat.reduceAdd, Nat.reduceMul, Nat.reduceSub, Nat.reduceLeDiff, Nat.reduceBEq, Int.reduceToNat, Int.reduceLE, Int.reduceLT, Int.reduceEq, Int.reduceNe, di0, di1, di2, di3, di4, di5, di6, di7, di8, di9, postX_ret, postX_normal, ex_some]
              simp only [if_pos (show 0 ≤ f ∧ f ≤ 2000000000 by omega), knI, tabI, pieceI, pairI, lpI, stI, flI, rdI, rnI, getD_kn, ↓reduceIte, reduceCtorEq, Nat.reduceEqDiff, Nat.reduceAdd, Nat.reduceMul, Nat.reduceSub, Nat.reduceLeDiff, Nat.reduceBEq, Int.reduceToNat, Int.reduceLE, Int.reduceLT, Int.reduceEq, Int.reduceNe, di0, di1, di2, di3, di4, di5, di6, di7, di8, di9, postX_ret, postX_normal, ex_some]
              repeat (refine And.intro (by omega) ?_)
              have hx1 := hx.1.1
              have hx2 := hx.1.2
              have hx3 := hx.2.1.1
              have hx4 := hx.2.1.2
              rw [wrap64 (n := N + (l.getD i default).up) (by omega) (by omega), wrap64 (n := N + (l.getD i default).up + (l.getD i default).low) (by omega) (by omega), wrap64 (n := E + e) (by omega) (by omega), wrap64 (n := F + f) (by omega) (by omega), wrap64 (n := (i : Int) + 1) (by omega) (by omega)]
              refine ih (i + 1, t, N + (l.getD i default).up + (l.getD i default).low, E + e, F + f, o ++ [t]) _ _ (by dsimp only; omega) ⟨by dsimp only; omega, hs2.1, by simp [ho], by dsimp only; omega, by dsimp only; omega, by dsimp only; omega, by dsimp only; omega, by dsimp only; omega, by dsimp only; omega, by dsimp only; omega, ?_⟩ (by simp only [↓reduceIte, reduceCtorEq, Nat.reduceEqDiff, Nat.reduceAdd, Nat.reduceMul, Nat.reduceSub, Nat.reduceLeDiff, Nat.reduceBEq, Int.reduceToNat, Int.reduceLE, Int.reduceLT, Int.reduceEq, Int.reduceNe, di0, di1, di2, di3, di4, di5, di6, di7, di8, di9, postX_ret, postX_normal, ex_some] <;> rfl)
              rw [hr]
              simp only [List.append_assoc, List.cons_append, List.nil_append, Int.add_assoc]
          · rename_i hi2
            have hi3 : i = l.length := by omega
            rw [List.drop_eq_nil_of_le (by omega)] at hr
            simp only [runP, Int.add_zero, List.append_nil] at hr
            have hr1 : (runP p s l).2.1.1 = E := by rw [hr]
            have hr2 : (runP p s l).2.1.2 = F := by rw [hr]
            have bu := hv.1.u.range (i := 0) (by have := hv.1.u.two; omega)
            have hb1 := isV_bd hv.1.u hv.2.1
            have hb2 := isV_bd hv.1.l hv.2.2
            have hb3 := isV_bd hv.1.u hc.1
            have hb4 := isV_bd hv.1.l hc.2
            rw [wrap64 (n := c.1 + c.2) (by omega) (by omega), wrap64 (n := c.1 + c.2 + (runP p s l).2.1.1) (by omega) (by omega), wrap64 (n := c.1 + c.2 + (runP p s l).2.1.1 + (runP p s l).2.1.2) (by omega) (by omega), wrap64 (n := s.1 + s.2) (by omega) (by omega), wrap64 (n := s.1 + s.2 + N) (by omega) (by omega)]
            rw [if_pos ⟨⟨hr1.symm, hr2.symm⟩, by omega⟩]
            have hq : IntKind.wrap .i64 ((l.length : Int).tdiv 2) = ((l.length / 2 : Nat) : Int) := by
              rw [Int.tdiv_eq_ediv_of_nonneg (by omega), wrap64 (by omega) (by omega)]
              omega
            have hh : l.length / 2 ≤ l.length := by omega
            simp only [hq]
            generalize l.length / 2 = n at *
            obtain ⟨a1, a2, a3, a4, a5⟩ := runP_split h3 n hh
            have hA := p_RunOf (s := s) (l := l.take n) hsm (by simp; omega)
            rw [if_pos h1, if_pos (listErr_ok.2 ⟨by simp; omega, fun x hx => hf.2 x (List.mem_of_mem_take hx)⟩), if_pos a1, a2] at hA
            have hm : stOk p (lastS s ((runP p s l).1.take n)) := by
              rcases @lastS_mem s ((runP p s l).1.take n) with k | k
              · rw [k]; exact hv.2
              · exact hsp.1 _ (List.mem_of_mem_take k)
            have hB := p_RunOf (s := lastS s ((runP p s l).1.take n)) (l := l.drop n) hsm (by simp; omega)
            rw [if_pos (bothErr_ok.2 ⟨hv.1, hm⟩), if_pos (listErr_ok.2 ⟨by simp; omega, fun x hx => hf.2 x (List.mem_of_mem_drop hx)⟩), if_pos a3, a4] at hB
            have hsa := runP_spec hv.1 hv.2 (l := l.take n) (fun x hx => hf.2 x (List.mem_of_mem_take hx))
            have hsb := runP_spec hv.1 hm (l := l.drop n) (fun x hx => hf.2 x (List.mem_of_mem_drop hx))
            have hca := r_CopyList (l := l.take n) (by simp; omega)
            have hcb := r_CopyList (l := l.drop n) (by simp; omega)
            have a6 : (runP p s l).2.1.1 = _ := congrArg Prod.fst a5
            have a7 : (runP p s l).2.1.2 = _ := congrArg Prod.snd a5
            refine calls_of hcp ?_; simp only [knI, tabI, pieceI, pairI, lpI, stI, flI, rdI, rnI, getD_kn, res11, b11k0, b11k1, b11k2, b11k3, b11k4, b11k5, b11k6, b11k7, b11k8, b11k9, ↓reduceIte, reduceCtorEq, Nat.reduceEqDiff, Nat.reduceAdd, Nat.reduceMul, Nat.reduceSub, Nat.reduceLeDiff, Nat.reduceBEq, Int.reduceToNat, Int.reduceLE, Int.reduceLT, Int.reduceEq, Int.reduceNe, di0, di1, di2, di3, di4, di5, di6, di7, di8, di9, postX_ret, postX_normal, ex_some]
            repeat (refine And.intro (by omega) ?_)
            refine calls_of hca ?_; simp only [knI, tabI, pieceI, pairI, lpI, stI, flI, rdI, rnI, getD_kn, res11, b11k0, b11k1, b11k2, b11k3, b11k4, b11k5, b11k6, b11k7, b11k8, b11k9, ↓reduceIte, reduceCtorEq, Nat.reduceEqDiff, Nat.reduceAdd, Nat.reduceMul, Nat.reduceSub, Nat.reduceLeDiff, Nat.reduceBEq, Int.reduceToNat, Int.reduceLE, Int.reduceLT, Int.reduceEq, Int.reduceNe, di0, di1, di2, di3, di4, di5, di6, di7, di8, di9, postX_ret, postX_normal, ex_some]
            refine calls_of hA ?_; simp only [knI, tabI, pieceI, pairI, lpI, stI, flI, rdI, rnI, getD_kn, res11, b11k0, b11k1, b11k2, b11k3, b11k4, b11k5, b11k6, b11k7, b11k8, b11k9, ↓reduceIte, reduceCtorEq, Nat.reduceEqDiff, Nat.reduceAdd, Nat.reduceMul, Nat.reduceSub, Nat.reduceLeDiff, Nat.reduceBEq, Int.reduceToNat, Int.reduceLE, Int.reduceLT, Int.reduceEq, Int.reduceNe, di0, di1, di2, di3, di4, di5, di6, di7, di8, di9, postX_ret, postX_normal, ex_some]
            split
            · rename_i hn
              have hnn : (IntKind.wrap .i64 ((n : Int) - 1)).toNat = n - 1 := by rw [wrap64 (by omega) (by omega)]; omega
              have hlm := lastS_take (s := s) (r := (runP p s l).1) (n := n) (by omega) (by omega)
              refine ⟨by rw [wrap64 (by omega) (by omega)]; omega, by rw [wrap64 (by omega) (by omega)]; omega, ?_⟩
              rw [hnn, show kn (runP p s l).1 (n - 1) = lastS s ((runP p s l).1.take n) from hlm.symm]
              refine calls_of hcp ?_; simp only [knI, tabI, pieceI, pairI, lpI, stI, flI, rdI, rnI, getD_kn, res11, b11k0, b11k1, b11k2, b11k3, b11k4, b11k5, b11k6, b11k7, b11k8, b11k9, ↓reduceIte, reduceCtorEq, Nat.reduceEqDiff, Nat.reduceAdd, Nat.reduceMul, Nat.reduceSub, Nat.reduceLeDiff, Nat.reduceBEq, Int.reduceToNat, Int.reduceLE, Int.reduceLT, Int.reduceEq, Int.reduceNe, di0, di1, di2, di3, di4, di5, di6, di7, di8, di9, postX_ret, postX_normal, ex_some]
              repeat (refine And.intro (by omega) ?_)
              simp only [List.take_length]
              refine calls_of hcb ?_; simp only [knI, tabI, pieceI, pairI, lpI, stI, flI, rdI, rnI, getD_kn, res11, b11k0, b11k1, b11k2, b11k3, b11k4, b11k5, b11k6, b11k7, b11k8, b11k9, ↓reduceIte, reduceCtorEq, Nat.reduceEqDiff, Nat.reduceAdd, Nat.reduceMul, Nat.reduceSub, Nat.reduceLeDiff, Nat.reduceBEq, Int.reduceToNat, Int.reduceLE, Int.reduceLT, Int.reduceEq, Int.reduceNe, di0, di1, di2, di3, di4, di5, di6, di7, di8, di9, postX_ret, postX_normal, ex_some]
              refine calls_of hB ?_; simp only [knI, tabI, pieceI, pairI, lpI, stI, flI, rdI, rnI, getD_kn, res11, b11k0, b11k1, b11k2, b11k3, b11k4, b11k5, b11k6, b11k7, b11k8, b11k9, ↓reduceIte, reduceCtorEq, Nat.reduceEqDiff, Nat.reduceAdd, Nat.reduceMul, Nat.reduceSub, Nat.reduceLeDiff, Nat.reduceBEq, Int.reduceToNat, Int.reduceLE, Int.reduceLT, Int.reduceEq, Int.reduceNe, di0, di1, di2, di3, di4, di5, di6, di7, di8, di9, postX_ret, postX_normal, ex_some]
              repeat (refine And.intro (by omega) ?_)
              refine calls_of (r_SameStates (a := (runP p s l).1.take n) (b := (runP p s l).1.take n) (by simp; omega)) ?_; simp only [knI, tabI, pieceI, pairI, lpI, stI, flI, rdI, rnI, getD_kn, res11, b11k0, b11k1, b11k2, b11k3, b11k4, b11k5, b11k6, b11k7, b11k8, b11k9, ↓reduceIte, reduceCtorEq, Nat.reduceEqDiff, Nat.reduceAdd, Nat.reduceMul, Nat.reduceSub, Nat.reduceLeDiff, Nat.reduceBEq, Int.reduceToNat, Int.reduceLE, Int.reduceLT, Int.reduceEq, Int.reduceNe, di0, di1, di2, di3, di4, di5, di6, di7, di8, di9, postX_ret, postX_normal, ex_some]
              repeat (refine And.intro (by omega) ?_)
              simp only [List.take_length]
              refine calls_of (r_SameStates (a := (runP p s l).1.drop n) (b := (runP p s l).1.drop n) (by simp; omega)) ?_; simp only [knI, tabI, pieceI, pairI, lpI, stI, flI, rdI, rnI, getD_kn, res11, b11k0, b11k1, b11k2, b11k3, b11k4, b11k5, b11k6, b11k7, b11k8, b11k9, ↓reduceIte, reduceCtorEq, Nat.reduceEqDiff, Nat.reduceAdd, Nat.reduceMul, Nat.reduceSub, Nat.reduceLeDiff, Nat.reduceBEq, Int.reduceToNat, Int.reduceLE, Int.reduceLT, Int.reduceEq, Int.reduceNe, di0, di1, di2, di3, di4, di5, di6, di7, di8, di9, postX_ret, postX_normal, ex_some]
              refine calls_of c_Within ?_; simp only [knI, tabI, pieceI, pairI, lpI, stI, flI, rdI, rnI, getD_kn, res11, b11k0, b11k1, b11k2, b11k3, b11k4, b11k5, b11k6, b11k7, b11k8, b11k9, ↓reduceIte, reduceCtorEq, Nat.reduceEqDiff, Nat.reduceAdd, Nat.reduceMul, Nat.reduceSub, Nat.reduceLeDiff, Nat.reduceBEq, Int.reduceToNat, Int.reduceLE, Int.reduceLT, Int.reduceEq, Int.reduceNe, di0, di1, di2, di3, di4, di5, di6, di7, di8, di9, postX_ret, postX_normal, ex_some]
              simp only [if_pos (show 0 ≤ (runP p s (l.take n)).2.1.1 ∧ (runP p s (l.take n)).2.1.1 ≤ (runP p s l).2.1.1 by omega), knI, tabI, pieceI, pairI, lpI, stI, flI, rdI, rnI, getD_kn, ↓reduceIte, reduceCtorEq, Nat.reduceEqDiff, Nat.reduceAdd, Nat.reduceMul, Nat.reduceSub, Nat.reduceLeDiff, Nat.reduceBEq, Int.reduceToNat, Int.reduceLE, Int.reduceLT, Int.reduceEq, Int.reduceNe, di0, di1, di2, di3, di4, di5, di6, di7, di8, di9, postX_ret, postX_normal, ex_some]
              refine calls_of c_Within ?_; simp only [knI, tabI, pieceI, pairI, lpI, stI, flI, rdI, rnI, getD_kn, res11, b11k0, b11k1, b11k2, b11k3, b11k4, b11k5, b11k6, b11k7, b11k8, b11k9, ↓reduceIte, reduceCtorEq, Nat.reduceEqDiff, Nat.reduceAdd, Nat.reduceMul, Nat.reduceSub, Nat.reduceLeDiff, Nat.reduceBEq, Int.reduceToNat, Int.reduceLE, Int.reduceLT, Int.reduceEq, Int.reduceNe, di0, di1, di2, di3, di4, di5, di6, di7, di8, di9, postX_ret, postX_normal, ex_some]
              simp only [if_pos (show 0 ≤ (runP p s (l.take n)).2.1.2 ∧ (runP p s (l.take n)).2.1.2 ≤ (runP p s l).2.1.2 by omega), knI, tabI, pieceI, pairI, lpI, stI, flI, rdI, rnI, getD_kn, ↓reduceIte, reduceCtorEq, Nat.reduceEqDiff, Nat.reduceAdd, Nat.reduceMul, Nat.reduceSub, Nat.reduceLeDiff, Nat.reduceBEq, Int.reduceToNat, Int.reduceLE, Int.reduceLT, Int.reduceEq, Int.reduceNe, di0, di1, di2, di3, di4, di5, di6, di7, di8, di9, postX_ret, postX_normal, ex_some]
              dsimp only at a6 a7
              rw [wrap64 (by omega) (by omega), wrap64 (by omega) (by omega), decide_eq_true (by omega), decide_eq_true (by omega)]
              rfl
            · rename_i hn
              have hn0 : n = 0 := by omega
              have hlm : lastS s ((runP p s l).1.take n) = s := by rw [hn0]; rfl
              rw [hlm] at hB hsb a6 a7
              refine calls_of hcp ?_; simp only [knI, tabI, pieceI, pairI, lpI, stI, flI, rdI, rnI, getD_kn, res11, b11k0, b11k1, b11k2, b11k3, b11k4, b11k5, b11k6, b11k7, b11k8, b11k9, ↓reduceIte, reduceCtorEq, Nat.reduceEqDiff, Nat.reduceAdd, Nat.reduceMul, Nat.reduceSub, Nat.reduceLeDiff, Nat.reduceBEq, Int.reduceToNat, Int.reduceLE, Int.reduceLT, Int.reduceEq, Int.reduceNe, di0, di1, di2, di3, di4, di5, di6, di7, di8, di9, postX_ret, postX_normal, ex_some]
              repeat (refine And.intro (by omega) ?_)
              simp only [List.take_length]
              refine calls_of hcb ?_; simp only [knI, tabI, pieceI, pairI, lpI, stI, flI, rdI, rnI, getD_kn, res11, b11k0, b11k1, b11k2, b11k3, b11k4, b11k5, b11k6, b11k7, b11k8, b11k9, ↓reduceIte, reduceCtorEq, Nat.reduceEqDiff, Nat.reduceAdd, Nat.reduceMul, Nat.reduceSub, Nat.reduceLeDiff, Nat.reduceBEq, Int.reduceToNat, Int.reduceLE, Int.reduceLT, Int.reduceEq, Int.reduceNe, di0, di1, di2, di3, di4, di5, di6, di7, di8, di9, postX_ret, postX_normal, ex_some]
              refine calls_of hB ?_; simp only [knI, tabI, pieceI, pairI, lpI, stI, flI, rdI, rnI, getD_kn, res11, b11k0, b11k1, b11k2, b11k3, b11k4, b11k5, b11k6, b11k7, b11k8, b11k9, ↓reduceIte, reduceCtorEq, Nat.reduceEqDiff, Nat.reduceAdd, Nat.reduceMul, Nat.reduceSub, Nat.reduceLeDiff, Nat.reduceBEq, Int.reduceToNat, Int.reduceLE, Int.reduceLT, Int.reduceEq, Int.reduceNe, di0, di1, di2, di3, di4, di5, di6, di7, di8, di9, postX_ret, postX_normal, ex_some]
              repeat (refine And.intro (by omega) ?_)
              refine calls_of (r_SameStates (a := (runP p s l).1.take n) (b := (runP p s l).1.take n) (by simp; omega)) ?_; simp only [knI, tabI, pieceI, pairI, lpI, stI, flI, rdI, rnI, getD_kn, res11, b11k0, b11k1, b11k2, b11k3, b11k4, b11k5, b11k6, b11k7, b11k8, b11k9, ↓reduceIte, reduceCtorEq, Nat.reduceEqDiff, Nat.reduceAdd, Nat.reduceMul, Nat.reduceSub, Nat.reduceLeDiff, Nat.reduceBEq, Int.reduceToNat, Int.reduceLE, Int.reduceLT, Int.reduceEq, Int.reduceNe, di0, di1, di2, di3, di4, di5, di6, di7, di8, di9, postX_ret, postX_normal, ex_some]
              repeat (refine And.intro (by omega) ?_)
              simp only [List.take_length]
              refine calls_of (r_SameStates (a := (runP p s l).1.drop n) (b := (runP p s l).1.drop n) (by simp; omega)) ?_; simp only [knI, tabI, pieceI, pairI, lpI, stI, flI, rdI, rnI, getD_kn, res11, b11k0, b11k1, b11k2, b11k3, b11k4, b11k5, b11k6, b11k7, b11k8, b11k9, ↓reduceIte, reduceCtorEq, Nat.reduceEqDiff, Nat.reduceAdd, Nat.reduceMul, Nat.reduceSub, Nat.reduceLeDiff, Nat.reduceBEq, Int.reduceToNat, Int.reduceLE, Int.reduceLT, Int.reduceEq, Int.reduceNe, di0, di1, di2, di3, di4, di5, di6, di7, di8, di9, postX_ret, postX_normal, ex_some]
              refine calls_of c_Within ?_; simp only [knI, tabI, pieceI, pairI, lpI, stI, flI, rdI, rnI, getD_kn, res11, b11k0, b11k1, b11k2, b11k3, b11k4, b11k5, b11k6, b11k7, b11k8, b11k9, ↓reduceIte, reduceCtorEq, Nat.reduceEqDiff, Nat.reduceAdd, Nat.reduceMul, Nat.reduceSub, Nat.reduceLeDiff, Nat.reduceBEq, Int.reduceToNat, Int.reduceLE, Int.reduceLT, Int.reduceEq, Int.reduceNe, di0, di1, di2, di3, di4, di5, di6, di7, di8, di9, postX_ret, postX_normal, ex_some]
              simp only [if_pos (show 0 ≤ (runP p s (l.take n)).2.1.1 ∧ (runP p s (l.take n)).2.1.1 ≤ (runP p s l).2.1.1 by omega), knI, tabI, pieceI, pairI, lpI, stI, flI, rdI, rnI, getD_kn, ↓reduceIte, reduceCtorEq, Nat.reduceEqDiff, Nat.reduceAdd, Nat.reduceMul, Nat.reduceSub, Nat.reduceLeDiff, Nat.reduceBEq, Int.reduceToNat, Int.reduceLE, Int.reduceLT, Int.reduceEq, Int.reduceNe, di0, di1, di2, di3, di4, di5, di6, di7, di8, di9, postX_ret, postX_normal, ex_some]
              refine calls_of c_Within ?_; simp only [knI, tabI, pieceI, pairI, lpI, stI, flI, rdI, rnI, getD_kn, res11, b11k0, b11k1, b11k2, b11k3, b11k4, b11k5, b11k6, b11k7, b11k8, b11k9, ↓reduceIte, reduceCtorEq, Nat.reduceEqDiff, Nat.reduceAdd, Nat.reduceMul, Nat.reduceSub, Nat.reduceLeDiff, Nat.reduceBEq, Int.reduceToNat, Int.reduceLE, Int.reduceLT, Int.reduceEq, Int.reduceNe, di0, di1, di2, di3, di4, di5, di6, di7, di8, di9, postX_ret, postX_normal, ex_some]
              simp only [if_pos (show 0 ≤ (runP p s (l.take n)).2.1.2 ∧ (runP p s (l.take n)).2.1.2 ≤ (runP p s l).2.1.2 by omega), knI, tabI, pieceI, pairI, lpI, stI, flI, rdI, rnI, getD_kn, ↓reduceIte, reduceCtorEq, Nat.reduceEqDiff, Nat.reduceAdd, Nat.reduceMul, Nat.reduceSub, Nat.reduceLeDiff, Nat.reduceBEq, Int.reduceToNat, Int.reduceLE, Int.reduceLT, Int.reduceEq, Int.reduceNe, di0, di1, di2, di3, di4, di5, di6, di7, di8, di9, postX_ret, postX_normal, ex_some]
              dsimp only at a6 a7
              rw [wrap64 (by omega) (by omega), wrap64 (by omega) (by omega), decide_eq_true (by omega), decide_eq_true (by omega)]
              rfl
        · rw [if_neg h3] at hR
          refine calls_of hR ?_; simp only [knI, tabI, pieceI, pairI, lpI, stI, flI, rdI, rnI, getD_kn, res11, b11k0, b11k1, b11k2, b11k3, b11k4, b11k5, b11k6, b11k7, b11k8, b11k9, ↓reduceIte, reduceCtorEq, Nat.reduceEqDiff, Nat.reduceAdd, Nat.reduceMul, Nat.reduceSub, Nat.reduceLeDiff, Nat.reduceBEq, Int.reduceToNat, Int.reduceLE, Int.reduceLT, Int.reduceEq, Int.reduceNe, di0, di1, di2, di3, di4, di5, di6, di7, di8, di9, postX_ret, postX_normal, ex_some]
      · trivial
    · trivial
  · trivial
end Go.DI


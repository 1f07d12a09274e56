/- The statement LakeBeginnings, on data. No condition. -/
import Derived.Test.YtnkdmcalkgecfaaGreatBeh
import Derived.Test.YtnkdmcalkgecfaaGreatBei
set_option linter.unusedSimpArgs false
set_option maxRecDepth 100000
namespace Go.DI
open Go.Proofs Go.RowKit Lk

/-- A limit that is wider by a millimetre on each side. -/
def widL (l : List Kn) (x : Lim) : Lim := ⟨max (bot l).1 (x.lo - 1), min (top l).1 (x.hi + 1), min 1000000 (x.fall + 1), min 1000000 (x.rise + 1), x.win⟩
theorem widL_wider {l : List Kn} {x : Lim} (h : limOk l x) : Wider x (widL l x) := by
  obtain ⟨h1, h2, h3, h4, _⟩ := h
  unfold isL Wi at h1 h2
  unfold Wi at h3 h4
  exact ⟨by show max _ _ ≤ _; omega, by show _ ≤ min _ _; omega, by show _ ≤ min _ _; omega, by show _ ≤ min _ _; omega, rfl⟩
theorem widL_err {l : List Kn} {x : Lim} (h : limErr l x = 0) : limErr l (widL l x) = 0 := by
  obtain ⟨⟨h1, h2, h3, h4, h5⟩, h6⟩ := limErr_ok h
  unfold isL Wi at h1 h2
  unfold Wi at h3 h4 h5
  unfold limErr
  rw [if_pos (show limOk l (widL l x) from ⟨by show isL l (max _ _); unfold isL Wi; omega, by show isL l (min _ _); unfold isL Wi; omega, by show Wi (min _ _) _ _; unfold Wi; omega, by show Wi (min _ _) _ _; unfold Wi; omega, h5⟩),
    if_pos (show (widL l x).lo ≤ (widL l x).hi by show max _ _ ≤ min _ _; omega)]
theorem kn_rng {l : List Kn} (hv : Valid l) {i : Nat} (hi : i < l.length) : 0 ≤ (kn l i).1 ∧ (kn l i).1 ≤ 1000000 := by
  have := hv.ok i hi
  unfold knotErr at this
  split at this
  · omega
  · rename_i h
    have h := Classical.not_not.1 h
    exact h.1
theorem l_wider {l : List Kn} {x : Lim} (hv : Valid l) (hx : limOk l x) : Contract Tryz.prog 22 [tabI l, limI x] (limI (widL l x)) := by
  obtain ⟨h1, h2, h3, h4, h5⟩ := hx
  unfold isL Wi at h1 h2
  unfold Wi at h3 h4
  refine contract_run Tryz.func22 k22 rfl ?_
  simp only [body22, b22, res22, limI, limsI, tskI, hgtI, lkE, ↓reduceIte, reduceCtorEq, Nat.reduceEqDiff, Nat.reduceAdd, Nat.reduceMul, Nat.reduceSub, Nat.reduceLeDiff, Nat.reduceBEq, Int.reduceToNat, Int.reduceLE, Int.reduceLT, Int.reduceEq, Int.reduceNe, di]
  have hl : 0 < l.length := by have := hv.two; omega
  have hl2 : l.length ≤ 1000000 := by have := hv.ten; omega
  have b1 : 0 ≤ (bot l).1 ∧ (bot l).1 ≤ 1000000 := kn_rng hv (by omega)
  have b2 : 0 ≤ (top l).1 ∧ (top l).1 ≤ 1000000 := kn_rng hv (by omega)
  refine calls_of (r_Bottom hl) ?_; simp only [limI, limsI, tskI, hgtI, res22, lkE, ↓reduceIte, reduceCtorEq, Nat.reduceEqDiff, Nat.reduceAdd, Nat.reduceMul, Nat.reduceSub, Nat.reduceLeDiff, Nat.reduceBEq, Int.reduceToNat, Int.reduceLE, Int.reduceLT, Int.reduceEq, Int.reduceNe, di]
  refine calls_of (r_Top hl (by omega)) ?_; simp only [limI, limsI, tskI, hgtI, res22, lkE, ↓reduceIte, reduceCtorEq, Nat.reduceEqDiff, Nat.reduceAdd, Nat.reduceMul, Nat.reduceSub, Nat.reduceLeDiff, Nat.reduceBEq, Int.reduceToNat, Int.reduceLE, Int.reduceLT, Int.reduceEq, Int.reduceNe, di]
  rw [wrap64 (n := x.lo - 1) (by omega) (by omega), wrap64 (n := x.hi + 1) (by omega) (by omega), wrap64 (n := x.fall + 1) (by omega) (by omega), wrap64 (n := x.rise + 1) (by omega) (by omega)]
  rfl
theorem taskE_of {p : Pair} {s : Sta} {x : Tsk} {L : Lims} {fs : List Flow} (h : taskE p s x = 0) (hu : limErr p.u L.u = 0) (hlo : limErr p.l L.l = 0) (hn : fs.length ≤ 200) (hf : ∀ y ∈ fs, flowOk y) : taskE p s ⟨L, fs⟩ = 0 := by
  unfold taskE at h ⊢
  split at h
  · rename_i h1
    rw [if_pos h1]
    unfold taskErr limsErr
    dsimp only
    rw [if_pos hu, hlo, if_pos rfl]
    exact listErr_ok.2 ⟨hn, hf⟩
  · rename_i h1; exact absurd h h1
theorem vioO_of {p : Pair} {s : Sta} {x : Tsk} (h : taskE p s x = 0) : vioO p s x = vio p x.L [s] s x.fs := by
  unfold vioO
  rw [if_pos h]
theorem lims_err {p : Pair} {s : Sta} {x : Tsk} (h : taskE p s x = 0) : limErr p.u x.L.u = 0 ∧ limErr p.l x.L.l = 0 := by
  unfold taskE at h
  split at h
  · unfold taskErr limsErr at h
    by_cases h2 : limErr p.u x.L.u = 0
    · rw [if_pos h2] at h
      by_cases h3 : limErr p.l x.L.l = 0
      · exact ⟨h2, h3⟩
      · rw [if_neg h3] at h; exact absurd h h3
    · rw [if_neg h2, if_neg h2] at h; exact absurd h h2
  · rename_i h1; exact absurd h h1
theorem taskE_rep {p : Pair} {s : Sta} {x : Tsk} (h : taskE p s x = 0) (h0 : 0 < x.fs.length) {n : Nat} (hn : n ≤ 200) : taskE p s ⟨x.L, List.replicate n (lastF x.fs)⟩ = 0 := by
  obtain ⟨_, _, _, _, hf⟩ := taskE_ok h
  exact taskE_of h (lims_err h).1 (lims_err h).2 (by rw [List.length_replicate]; exact hn) (fun y hy => by rw [List.eq_of_mem_replicate hy]; exact hf _ (lastF_mem h0))
theorem perm_rep {p : Pair} {s : Sta} {x : Tsk} (h : taskE p s x = 0) (h0 : 0 < x.fs.length) :
    vioO p s ⟨x.L, List.replicate (permL p x.L [s] s (againL x.fs)) (lastF x.fs)⟩ = (none, 12) ∧ permL p x.L [s] s (againL x.fs) ≤ 200 ∧
    (permL p x.L [s] s (againL x.fs) < 200 → (∃ v, vioO p s ⟨x.L, List.replicate (permL p x.L [s] s (againL x.fs) + 1) (lastF x.fs)⟩ = (some v, 0)) ∨
      vioO p s ⟨x.L, List.replicate (permL p x.L [s] s (againL x.fs) + 1) (lastF x.fs)⟩ = (none, 22)) := by
  have hl : (againL x.fs).length = 200 := List.length_replicate
  have hle := permL_le (p := p) (L := x.L) (l := againL x.fs) (ss := [s]) (s := s)
  obtain ⟨c1, c2⟩ := perm_cut (p := p) (L := x.L) (l := againL x.fs) (ss := [s]) (s := s)
  rw [hl] at c2 hle
  generalize permL p x.L [s] s (againL x.fs) = n at *
  have tk : ∀ m, m ≤ 200 → (againL x.fs).take m = List.replicate m (lastF x.fs) := fun m hm => by
    unfold againL
    rw [List.take_replicate, Nat.min_eq_left hm]
  refine ⟨?_, hle, fun hlt => ?_⟩
  · rw [vioO_of (taskE_rep h h0 hle)]
    rw [tk n hle] at c1
    exact c1
  · have := c2 hlt
    rw [tk (n + 1) hlt] at this
    rw [vioO_of (taskE_rep h h0 hlt)]
    exact this
theorem tail_LakeBeginnings {p : Pair} {s : Sta} {x : Tsk} (hsm : Sm p) (h12 : p.u.length ≤ 12 ∧ p.l.length ≤ 12) (hE : taskE p s x = 0) (h0 : 0 < x.fs.length) (hl : x.fs.length ≤ 20) :
    run Tryz.prog b5k7 [] (d5.post (.bool true)) (mkS [(3, .ref 3 0), (4, .ref 4 0), (5, .ref 5 0)]
      [(3, .box [.imm (.slc 2 (p.u.map knI)), .imm (.slc 2 (p.l.map knI)), .imm (.int .i64 p.rate)]), (4, .box [.imm (.int .i64 s.1), .imm (.int .i64 s.2)]),
      (5, .box [.imm (.int .i64 x.L.u.lo), .imm (.int .i64 x.L.u.hi), .imm (.int .i64 x.L.u.fall), .imm (.int .i64 x.L.u.rise), .imm (.int .i64 x.L.u.win), .imm (.int .i64 x.L.l.lo), .imm (.int .i64 x.L.l.hi), .imm (.int .i64 x.L.l.fall), .imm (.int .i64 x.L.l.rise), .imm (.int .i64 x.L.l.win), .imm (.slc 3 (x.fs.map flI))])]) := by
  have hcp := r_CopyPair (p := p) (by omega) (by omega)
  have hct := r_CopyTask (x := x) (by omega)
  have hV := p_PermittedFor (s := s) (x := x) hsm (by omega)
  have e1 : perE p s x = 0 := by unfold perE; rw [if_pos hE, if_pos h0]
  have e2 : perO p s x = permL p x.L [s] s (againL x.fs) := by unfold perO; rw [if_pos e1]
  have hgd : x.fs.getD (x.fs.length - 1) default = lastF x.fs := rfl
  obtain ⟨k1, k2, k3⟩ := perm_rep hE h0
  rw [e1, e2] at hV
  generalize permL p x.L [s] s (againL x.fs) = n at *
  have hrl : ∀ i, (List.replicate i (lastF x.fs)).length = i := fun i => List.length_replicate
  have v1 := p_ViolationOf (s := s) (x := ⟨x.L, List.replicate n (lastF x.fs)⟩) hsm (by rw [hrl]; omega) none 12 k1
  have hcl := r_CopyList (l := List.replicate n (lastF x.fs)) (by rw [hrl]; omega)
  simp only [vio3] at v1
  simp only [b5k7, res5, b5k0, b5k1, b5k2, b5k3, b5k4, b5k5, b5k6, b5k7, b5k8, b5k9, b5k10, limI, limsI, tskI, hgtI, lkE, ↓reduceIte, reduceCtorEq, Nat.reduceEqDiff, Nat.reduceAdd, Nat.reduceMul, Nat.reduceSub, Nat.reduceLeDiff, Nat.reduceBEq, Int.reduceToNat, Int.reduceLE, Int.reduceLT, Int.reduceEq, Int.reduceNe, di]
  refine calls_of hcp ?_; simp only [limI, limsI, tskI, hgtI, res5, b5k0, b5k1, b5k2, b5k3, b5k4, b5k5, b5k6, b5k7, b5k8, b5k9, b5k10, lkE, ↓reduceIte, reduceCtorEq, Nat.reduceEqDiff, Nat.reduceAdd, Nat.reduceMul, Nat.reduceSub, Nat.reduceLeDiff, Nat.reduceBEq, Int.reduceToNat, Int.reduceLE, Int.reduceLT, Int.reduceEq, Int.reduceNe, di]
  refine calls_of hct ?_; simp only [limI, limsI, tskI, hgtI, res5, b5k0, b5k1, b5k2, b5k3, b5k4, b5k5, b5k6, b5k7, b5k8, b5k9, b5k10, lkE, ↓reduceIte, reduceCtorEq, Nat.reduceEqDiff, Nat.reduceAdd, Nat.reduceMul, Nat.reduceSub, Nat.reduceLeDiff, Nat.reduceBEq, Int.reduceToNat, Int.reduceLE, Int.reduceLT, Int.reduceEq, Int.reduceNe, di]
  refine calls_of hV ?_; simp only [limI, limsI, tskI, hgtI, res5, b5k0, b5k1, b5k2, b5k3, b5k4, b5k5, b5k6, b5k7, b5k8, b5k9, b5k10, lkE, ↓reduceIte, reduceCtorEq, Nat.reduceEqDiff, Nat.reduceAdd, Nat.reduceMul, Nat.reduceSub, Nat.reduceLeDiff, Nat.reduceBEq, Int.reduceToNat, Int.reduceLE, Int.reduceLT, Int.reduceEq, Int.reduceNe, di]
  refine calls_of c_Within ?_; simp only [limI, limsI, tskI, hgtI, res5, b5k0, b5k1, b5k2, b5k3, b5k4, b5k5, b5k6, b5k7, b5k8, b5k9, b5k10, lkE, ↓reduceIte, reduceCtorEq, Nat.reduceEqDiff, Nat.reduceAdd, Nat.reduceMul, Nat.reduceSub, Nat.reduceLeDiff, Nat.reduceBEq, Int.reduceToNat, Int.reduceLE, Int.reduceLT, Int.reduceEq, Int.reduceNe, di]
  have hin : (0 : Int) ≤ (n : Int) ∧ (n : Int) ≤ 200 := by omega
  simp only [hin, and_self, res5, b5k0, b5k1, b5k2, b5k3, b5k4, b5k5, b5k6, b5k7, b5k8, b5k9, b5k10, limI, limsI, tskI, hgtI, lkE, ↓reduceIte, reduceCtorEq, Nat.reduceEqDiff, Nat.reduceAdd, Nat.reduceMul, Nat.reduceSub, Nat.reduceLeDiff, Nat.reduceBEq, Int.reduceToNat, Int.reduceLE, Int.reduceLT, Int.reduceEq, Int.reduceNe, di]
  refine loop_keep (α := Nat) rfl (fun i => n - i) (fun i => i ≤ n)
    (fun i => [(3, .ref 3 0), (4, .ref 4 0), (5, .ref 5 0), (16, .imm (.int .i64 n)), (18, .own 18), (19, .imm (.int .i64 i))])
    (fun i => [(3, .box [.imm (.slc 2 (p.u.map knI)), .imm (.slc 2 (p.l.map knI)), .imm (.int .i64 p.rate)]), (4, .box [.imm (.int .i64 s.1), .imm (.int .i64 s.2)]),
      (5, .box [.imm (.int .i64 x.L.u.lo), .imm (.int .i64 x.L.u.hi), .imm (.int .i64 x.L.u.fall), .imm (.int .i64 x.L.u.rise), .imm (.int .i64 x.L.u.win), .imm (.int .i64 x.L.l.lo), .imm (.int .i64 x.L.l.hi), .imm (.int .i64 x.L.l.fall), .imm (.int .i64 x.L.l.rise), .imm (.int .i64 x.L.l.win), .imm (.slc 3 (x.fs.map flI))]),
      (18, .tok 3 ((List.replicate i (lastF x.fs)).map flI))]) 0 (Nat.zero_le _) (by simp only [limI, limsI, tskI, hgtI, lkE, ↓reduceIte, reduceCtorEq, Nat.reduceEqDiff, Nat.reduceAdd, Nat.reduceMul, Nat.reduceSub, Nat.reduceLeDiff, Nat.reduceBEq, Int.reduceToNat, Int.reduceLE, Int.reduceLT, Int.reduceEq, Int.reduceNe, di] <;> rfl) ?_
  intro i hi ih
  have hri := hrl i
  simp only [res5, b5k0, b5k1, b5k2, b5k3, b5k4, b5k5, b5k6, b5k7, b5k8, b5k9, b5k10, limI, limsI, tskI, hgtI, lkE, ↓reduceIte, reduceCtorEq, Nat.reduceEqDiff, Nat.reduceAdd, Nat.reduceMul, Nat.reduceSub, Nat.reduceLeDiff, Nat.reduceBEq, Int.reduceToNat, Int.reduceLE, Int.reduceLT, Int.reduceEq, Int.reduceNe, di]
  split
  · rename_i hlt0
    have hlt : i < n := by omega
    rw [wrap64 (n := (x.fs.length : Int) - 1) (by omega) (by omega)]
    repeat (refine And.intro (by omega) ?_)
    rw [wrap64 (n := (i : Int) + 1) (by omega) (by omega), show ((x.fs.length : Int) - 1).toNat = x.fs.length - 1 by omega, hgd]
    refine ih (i + 1) _ _ (by omega) (by omega) ?_
    rw [List.replicate_succ', List.map_append]
    simp only [limI, limsI, tskI, hgtI, lkE, ↓reduceIte, reduceCtorEq, Nat.reduceEqDiff, Nat.reduceAdd, Nat.reduceMul, Nat.reduceSub, Nat.reduceLeDiff, Nat.reduceBEq, Int.reduceToNat, Int.reduceLE, Int.reduceLT, Int.reduceEq, Int.reduceNe, di] <;> rfl
  · rename_i hge
    have hie : i = n := by omega
    subst hie
    clear ih
    refine calls_of hcp ?_; simp only [limI, limsI, tskI, hgtI, res5, b5k0, b5k1, b5k2, b5k3, b5k4, b5k5, b5k6, b5k7, b5k8, b5k9, b5k10, lkE, ↓reduceIte, reduceCtorEq, Nat.reduceEqDiff, Nat.reduceAdd, Nat.reduceMul, Nat.reduceSub, Nat.reduceLeDiff, Nat.reduceBEq, Int.reduceToNat, Int.reduceLE, Int.reduceLT, Int.reduceEq, Int.reduceNe, di]
    refine calls_of hcl ?_; simp only [limI, limsI, tskI, hgtI, res5, b5k0, b5k1, b5k2, b5k3, b5k4, b5k5, b5k6, b5k7, b5k8, b5k9, b5k10, lkE, ↓reduceIte, reduceCtorEq, Nat.reduceEqDiff, Nat.reduceAdd, Nat.reduceMul, Nat.reduceSub, Nat.reduceLeDiff, Nat.reduceBEq, Int.reduceToNat, Int.reduceLE, Int.reduceLT, Int.reduceEq, Int.reduceNe, di]
    refine calls_of v1 ?_; simp only [limI, limsI, tskI, hgtI, res5, b5k0, b5k1, b5k2, b5k3, b5k4, b5k5, b5k6, b5k7, b5k8, b5k9, b5k10, lkE, ↓reduceIte, reduceCtorEq, Nat.reduceEqDiff, Nat.reduceAdd, Nat.reduceMul, Nat.reduceSub, Nat.reduceLeDiff, Nat.reduceBEq, Int.reduceToNat, Int.reduceLE, Int.reduceLT, Int.reduceEq, Int.reduceNe, di]
    by_cases h200 : (i : Int) = 200
    · rw [if_pos h200]
      trivial
    · rw [if_neg h200, wrap64 (n := (x.fs.length : Int) - 1) (by omega) (by omega)]
      repeat (refine And.intro (by omega) ?_)
      rw [show ((x.fs.length : Int) - 1).toNat = x.fs.length - 1 by omega, hgd]
      have key : ∃ (v : Option Vio) (e : Int), vioO p s ⟨x.L, List.replicate (i + 1) (lastF x.fs)⟩ = (v, e) ∧ (e = 0 ∨ e = 22) := by
        rcases k3 (by omega) with ⟨v, h⟩ | h
        · exact ⟨_, _, h, .inl rfl⟩
        · exact ⟨_, _, h, .inr rfl⟩
      obtain ⟨v, e, k4, k5⟩ := key
      have v2 := p_ViolationOf (s := s) (x := ⟨x.L, List.replicate (i + 1) (lastF x.fs)⟩) hsm (by rw [hrl]; omega) v e k4
      rw [vio3_eq] at v2
      rw [show tskI ⟨x.L, List.replicate (i + 1) (lastF x.fs)⟩ = .agg [.int .i64 x.L.u.lo, .int .i64 x.L.u.hi, .int .i64 x.L.u.fall, .int .i64 x.L.u.rise, .int .i64 x.L.u.win, .int .i64 x.L.l.lo, .int .i64 x.L.l.hi, .int .i64 x.L.l.fall, .int .i64 x.L.l.rise, .int .i64 x.L.l.win, .slc 3 ((List.replicate i (lastF x.fs)).map flI ++ [flI (lastF x.fs)])] by
        unfold tskI; dsimp only; rw [List.replicate_succ', List.map_append]; rfl] at v2
      refine calls_of hcp ?_; simp only [limI, limsI, tskI, hgtI, res5, b5k0, b5k1, b5k2, b5k3, b5k4, b5k5, b5k6, b5k7, b5k8, b5k9, b5k10, lkE, ↓reduceIte, reduceCtorEq, Nat.reduceEqDiff, Nat.reduceAdd, Nat.reduceMul, Nat.reduceSub, Nat.reduceLeDiff, Nat.reduceBEq, Int.reduceToNat, Int.reduceLE, Int.reduceLT, Int.reduceEq, Int.reduceNe, di]
      refine calls_of v2 ?_; simp only [limI, limsI, tskI, hgtI, res5, b5k0, b5k1, b5k2, b5k3, b5k4, b5k5, b5k6, b5k7, b5k8, b5k9, b5k10, lkE, ↓reduceIte, reduceCtorEq, Nat.reduceEqDiff, Nat.reduceAdd, Nat.reduceMul, Nat.reduceSub, Nat.reduceLeDiff, Nat.reduceBEq, Int.reduceToNat, Int.reduceLE, Int.reduceLT, Int.reduceEq, Int.reduceNe, di]
      rcases k5 with rfl | rfl
      · rw [if_pos rfl]
        trivial
      · rw [if_neg (by decide)]
        rfl
/-- What is known of the first violation. -/
theorem beg_facts {p : Pair} {s : Sta} {x : Tsk} {v : Vio} (hE : taskE p s x = 0) (hv : vioO p s x = (some v, 0)) :
    (1 ≤ v.1 ∧ v.1 ≤ x.fs.length) ∧ (v.2.1 ≤ 1 ∧ v.2.2 ≤ 3) ∧ vioO p s ⟨x.L, x.fs.take (v.1 - 1)⟩ = (none, 12) ∧ vioO p s ⟨x.L, x.fs.take v.1⟩ = (some v, 0) ∧
    ∃ (u : Option Vio) (e : Int), vioO p s ⟨⟨widL p.u x.L.u, widL p.l x.L.l⟩, x.fs⟩ = (u, e) ∧ ((∃ w, u = some w ∧ e = 0 ∧ v.1 ≤ w.1) ∨ u = none ∧ (e = 12 ∨ e = 22)) := by
  obtain ⟨hp, hs, hL, hn, hf⟩ := taskE_ok hE
  have hle := lims_err hE
  rw [vioO_of hE] at hv
  obtain ⟨i, h1, h2, h3, h4, h5⟩ := vio_cut hv
  have h1 : v.1 = 1 + i := h1
  have tk : ∀ m, taskE p s ⟨x.L, x.fs.take m⟩ = 0 := fun m => taskE_of hE hle.1 hle.2 (by rw [List.length_take]; omega) (fun y hy => hf y (List.mem_of_mem_take hy))
  have hw : taskE p s ⟨⟨widL p.u x.L.u, widL p.l x.L.l⟩, x.fs⟩ = 0 := taskE_of hE (widL_err hle.1) (widL_err hle.2) hn hf
  refine ⟨by omega, h3, ?_, ?_, ?_⟩
  · rw [vioO_of (tk _), show v.1 - 1 = i by omega]; exact h4
  · rw [vioO_of (tk _), show v.1 = i + 1 by omega]; exact h5
  · refine ⟨_, _, vioO_of hw, ?_⟩
    dsimp only
    rcases vio_code (p := p) (L := ⟨widL p.u x.L.u, widL p.l x.L.l⟩) (l := x.fs) (ss := [s]) (s := s) with ⟨w, h⟩ | h | h
    · exact .inl ⟨w, by rw [h], by rw [h], vio_wide (widL_wider hL.1) (widL_wider hL.2) hv h⟩
    · exact .inr ⟨by rw [h], .inl (by rw [h])⟩
    · exact .inr ⟨by rw [h], .inr (by rw [h])⟩
theorem l_LakeBeginnings {p : Pair} {s : Sta} {x : Tsk} : Contract Tryz.prog 5 [lpI p, stI s, tskI x] (.bool true) := by
  refine contract_run Tryz.func5 k5 rfl ?_
  simp only [body5, b5, res5, b5k8, b5k9, b5k10, limI, limsI, tskI, hgtI, lkE, ↓reduceIte, reduceCtorEq, Nat.reduceEqDiff, Nat.reduceAdd, Nat.reduceMul, Nat.reduceSub, Nat.reduceLeDiff, Nat.reduceBEq, Int.reduceToNat, Int.reduceLE, Int.reduceLT, Int.reduceEq, Int.reduceNe, di]
  refine calls_of l_awake ?_; simp only [limI, limsI, tskI, hgtI, res5, b5k8, b5k9, b5k10, lkE, ↓reduceIte, reduceCtorEq, Nat.reduceEqDiff, Nat.reduceAdd, Nat.reduceMul, Nat.reduceSub, Nat.reduceLeDiff, Nat.reduceBEq, Int.reduceToNat, Int.reduceLE, Int.reduceLT, Int.reduceEq, Int.reduceNe, di]
  refine calls_of l_FewPair ?_; simp only [limI, limsI, tskI, hgtI, res5, b5k8, b5k9, b5k10, lkE, ↓reduceIte, reduceCtorEq, Nat.reduceEqDiff, Nat.reduceAdd, Nat.reduceMul, Nat.reduceSub, Nat.reduceLeDiff, Nat.reduceBEq, Int.reduceToNat, Int.reduceLE, Int.reduceLT, Int.reduceEq, Int.reduceNe, di]
  by_cases hf0 : p.u.length ≤ 12 ∧ p.l.length ≤ 12
  rotate_left
  · simp only [hf0, res5, b5k8, b5k9, b5k10, limI, limsI, tskI, hgtI, lkE, ↓reduceIte, reduceCtorEq, Nat.reduceEqDiff, Nat.reduceAdd, Nat.reduceMul, Nat.reduceSub, Nat.reduceLeDiff, Nat.reduceBEq, Int.reduceToNat, Int.reduceLE, Int.reduceLT, Int.reduceEq, Int.reduceNe, di]
  simp only [hf0, and_self, res5, b5k8, b5k9, b5k10, limI, limsI, tskI, hgtI, lkE, ↓reduceIte, reduceCtorEq, Nat.reduceEqDiff, Nat.reduceAdd, Nat.reduceMul, Nat.reduceSub, Nat.reduceLeDiff, Nat.reduceBEq, Int.reduceToNat, Int.reduceLE, Int.reduceLT, Int.reduceEq, Int.reduceNe, di]
  have hsm : Sm p := ⟨by omega, by omega⟩
  have hB := r_BothErr (s := s) hsm
  refine calls_of hB ?_; simp only [limI, limsI, tskI, hgtI, res5, b5k8, b5k9, b5k10, lkE, ↓reduceIte, reduceCtorEq, Nat.reduceEqDiff, Nat.reduceAdd, Nat.reduceMul, Nat.reduceSub, Nat.reduceLeDiff, Nat.reduceBEq, Int.reduceToNat, Int.reduceLE, Int.reduceLT, Int.reduceEq, Int.reduceNe, di]
  by_cases h2 : bothErr p s = 0
  rotate_left
  · simp only [h2, res5, b5k8, b5k9, b5k10, limI, limsI, tskI, hgtI, lkE, ↓reduceIte, reduceCtorEq, Nat.reduceEqDiff, Nat.reduceAdd, Nat.reduceMul, Nat.reduceSub, Nat.reduceLeDiff, Nat.reduceBEq, Int.reduceToNat, Int.reduceLE, Int.reduceLT, Int.reduceEq, Int.reduceNe, di]
    rw [if_neg (fun k => k.1)]
    trivial
  simp only [h2, res5, b5k8, b5k9, b5k10, limI, limsI, tskI, hgtI, lkE, ↓reduceIte, reduceCtorEq, Nat.reduceEqDiff, Nat.reduceAdd, Nat.reduceMul, Nat.reduceSub, Nat.reduceLeDiff, Nat.reduceBEq, Int.reduceToNat, Int.reduceLE, Int.reduceLT, Int.reduceEq, Int.reduceNe, di]
  by_cases hn : ¬ (x.fs.length : Int) = 0 ∧ ¬ 20 < (x.fs.length : Int)
  rotate_left
  · rw [if_neg (by simpa using hn)]
    trivial
  rw [if_pos (by simpa using hn)]
  have hvp := pairErr_ok.1 (show pairErr p = 0 by unfold bothErr at h2; split at h2 <;> omega)
  have hTE := r_TaskErr (x := x) hvp (by omega)
  refine calls_of hTE ?_; simp only [limI, limsI, tskI, hgtI, res5, b5k8, b5k9, b5k10, lkE, ↓reduceIte, reduceCtorEq, Nat.reduceEqDiff, Nat.reduceAdd, Nat.reduceMul, Nat.reduceSub, Nat.reduceLeDiff, Nat.reduceBEq, Int.reduceToNat, Int.reduceLE, Int.reduceLT, Int.reduceEq, Int.reduceNe, di]
  by_cases h3 : taskErr p x = 0
  rotate_left
  · simp only [h3, res5, b5k8, b5k9, b5k10, limI, limsI, tskI, hgtI, lkE, ↓reduceIte, reduceCtorEq, Nat.reduceEqDiff, Nat.reduceAdd, Nat.reduceMul, Nat.reduceSub, Nat.reduceLeDiff, Nat.reduceBEq, Int.reduceToNat, Int.reduceLE, Int.reduceLT, Int.reduceEq, Int.reduceNe, di]
  have hE : taskE p s x = 0 := by unfold taskE; rw [if_pos h2]; exact h3
  simp only [h3, res5, b5k8, b5k9, b5k10, limI, limsI, tskI, hgtI, lkE, ↓reduceIte, reduceCtorEq, Nat.reduceEqDiff, Nat.reduceAdd, Nat.reduceMul, Nat.reduceSub, Nat.reduceLeDiff, Nat.reduceBEq, Int.reduceToNat, Int.reduceLE, Int.reduceLT, Int.reduceEq, Int.reduceNe, di]
  have tl := tail_LakeBeginnings hsm hf0 hE (by omega) (by omega)
  have hcp := r_CopyPair (p := p) (by omega) (by omega)
  have hct := r_CopyTask (x := x) (by omega)
  obtain ⟨⟨v, e⟩, hve⟩ : ∃ q, vioO p s x = q := ⟨_, rfl⟩
  have hV := p_ViolationOf (s := s) (x := x) hsm (by omega) v e hve
  rw [vio3_eq] at hV
  refine calls_of hcp ?_; simp only [limI, limsI, tskI, hgtI, res5, b5k8, b5k9, b5k10, lkE, ↓reduceIte, reduceCtorEq, Nat.reduceEqDiff, Nat.reduceAdd, Nat.reduceMul, Nat.reduceSub, Nat.reduceLeDiff, Nat.reduceBEq, Int.reduceToNat, Int.reduceLE, Int.reduceLT, Int.reduceEq, Int.reduceNe, di]
  refine calls_of hct ?_; simp only [limI, limsI, tskI, hgtI, res5, b5k8, b5k9, b5k10, lkE, ↓reduceIte, reduceCtorEq, Nat.reduceEqDiff, Nat.reduceAdd, Nat.reduceMul, Nat.reduceSub, Nat.reduceLeDiff, Nat.reduceBEq, Int.reduceToNat, Int.reduceLE, Int.reduceLT, Int.reduceEq, Int.reduceNe, di]
  refine calls_of hV ?_; simp only [limI, limsI, tskI, hgtI, res5, b5k8, b5k9, b5k10, lkE, ↓reduceIte, reduceCtorEq, Nat.reduceEqDiff, Nat.reduceAdd, Nat.reduceMul, Nat.reduceSub, Nat.reduceLeDiff, Nat.reduceBEq, Int.reduceToNat, Int.reduceLE, Int.reduceLT, Int.reduceEq, Int.reduceNe, di]
  have hcode : (∃ w, v = some w ∧ e = 0) ∨ v = none ∧ (e = 12 ∨ e = 22) := by
    rw [vioO_of hE] at hve
    rcases vio_code (p := p) (L := x.L) (l := x.fs) (ss := [s]) (s := s) with ⟨w, h⟩ | h | h
    · rw [h] at hve; cases hve; exact .inl ⟨w, rfl, rfl⟩
    · rw [h] at hve; cases hve; exact .inr ⟨rfl, .inl rfl⟩
    · rw [h] at hve; cases hve; exact .inr ⟨rfl, .inr rfl⟩
  rcases hcode with ⟨w, rfl, rfl⟩ | ⟨rfl, rfl | rfl⟩
  rotate_left
  · simp only [res5, b5k8, b5k9, b5k10, limI, limsI, tskI, hgtI, lkE, ↓reduceIte, reduceCtorEq, Nat.reduceEqDiff, Nat.reduceAdd, Nat.reduceMul, Nat.reduceSub, Nat.reduceLeDiff, Nat.reduceBEq, Int.reduceToNat, Int.reduceLE, Int.reduceLT, Int.reduceEq, Int.reduceNe, di]
    exact tl
  · simp only [res5, b5k8, b5k9, b5k10, limI, limsI, tskI, hgtI, lkE, ↓reduceIte, reduceCtorEq, Nat.reduceEqDiff, Nat.reduceAdd, Nat.reduceMul, Nat.reduceSub, Nat.reduceLeDiff, Nat.reduceBEq, Int.reduceToNat, Int.reduceLE, Int.reduceLT, Int.reduceEq, Int.reduceNe, di]
    exact tl
  obtain ⟨f1, f2, f3, f4, u, e, f5, f6⟩ := beg_facts hE hve
  obtain ⟨t, a, k⟩ := w
  dsimp only at f1 f2 f3 f4 f6
  have v1 := p_ViolationOf (s := s) (x := ⟨x.L, x.fs.take (t - 1)⟩) hsm (by dsimp only; rw [List.length_take]; omega) _ _ f3
  have v2 := p_ViolationOf (s := s) (x := ⟨x.L, x.fs.take t⟩) hsm (by dsimp only; rw [List.length_take]; omega) _ _ f4
  have v3 := p_ViolationOf (s := s) (x := ⟨⟨widL p.u x.L.u, widL p.l x.L.l⟩, x.fs⟩) hsm (by dsimp only; omega) _ _ f5
  rw [vio3_eq] at v1 v2 v3
  simp only [tskI] at v1 v2 v3
  have hcl1 := r_CopyList (l := x.fs.take (t - 1)) (by rw [List.length_take]; omega)
  have hcl2 := r_CopyList (l := x.fs.take t) (by rw [List.length_take]; omega)
  have hcl3 := r_CopyList (l := x.fs) (by omega)
  have g1 : (1 : Int) ≤ (t : Int) ∧ (t : Int) ≤ (x.fs.length : Int) := by omega
  have g2 : (a : Int) ≤ 1 := by omega
  have g3 : (k : Int) ≤ 3 := by omega
  simp only [vioT] at v1 v2
  simp only [vioT, res5, b5k8, b5k9, b5k10, limI, limsI, tskI, hgtI, lkE, ↓reduceIte, reduceCtorEq, Nat.reduceEqDiff, Nat.reduceAdd, Nat.reduceMul, Nat.reduceSub, Nat.reduceLeDiff, Nat.reduceBEq, Int.reduceToNat, Int.reduceLE, Int.reduceLT, Int.reduceEq, Int.reduceNe, di]
  refine calls_of c_Within ?_; simp only [limI, limsI, tskI, hgtI, res5, b5k8, b5k9, b5k10, lkE, ↓reduceIte, reduceCtorEq, Nat.reduceEqDiff, Nat.reduceAdd, Nat.reduceMul, Nat.reduceSub, Nat.reduceLeDiff, Nat.reduceBEq, Int.reduceToNat, Int.reduceLE, Int.reduceLT, Int.reduceEq, Int.reduceNe, di]
  rw [if_pos g1]
  refine calls_of c_Within ?_; simp only [limI, limsI, tskI, hgtI, res5, b5k8, b5k9, b5k10, lkE, ↓reduceIte, reduceCtorEq, Nat.reduceEqDiff, Nat.reduceAdd, Nat.reduceMul, Nat.reduceSub, Nat.reduceLeDiff, Nat.reduceBEq, Int.reduceToNat, Int.reduceLE, Int.reduceLT, Int.reduceEq, Int.reduceNe, di]
  rw [if_pos g2]
  refine calls_of c_Within ?_; simp only [limI, limsI, tskI, hgtI, res5, b5k8, b5k9, b5k10, lkE, ↓reduceIte, reduceCtorEq, Nat.reduceEqDiff, Nat.reduceAdd, Nat.reduceMul, Nat.reduceSub, Nat.reduceLeDiff, Nat.reduceBEq, Int.reduceToNat, Int.reduceLE, Int.reduceLT, Int.reduceEq, Int.reduceNe, di]
  rw [if_pos g3]
  simp only [b5k1, res5, b5k8, b5k9, b5k10, limI, limsI, tskI, hgtI, lkE, ↓reduceIte, reduceCtorEq, Nat.reduceEqDiff, Nat.reduceAdd, Nat.reduceMul, Nat.reduceSub, Nat.reduceLeDiff, Nat.reduceBEq, Int.reduceToNat, Int.reduceLE, Int.reduceLT, Int.reduceEq, Int.reduceNe, di]
  refine calls_of hcp ?_; simp only [limI, limsI, tskI, hgtI, res5, b5k8, b5k9, b5k10, lkE, ↓reduceIte, reduceCtorEq, Nat.reduceEqDiff, Nat.reduceAdd, Nat.reduceMul, Nat.reduceSub, Nat.reduceLeDiff, Nat.reduceBEq, Int.reduceToNat, Int.reduceLE, Int.reduceLT, Int.reduceEq, Int.reduceNe, di]
  rw [wrap64 (n := (t : Int) - 1) (by omega) (by omega), show ((t : Int) - 1).toNat = t - 1 by omega]
  refine ⟨by omega, by omega, ?_⟩
  refine calls_of hcl1 ?_; simp only [limI, limsI, tskI, hgtI, res5, b5k8, b5k9, b5k10, lkE, ↓reduceIte, reduceCtorEq, Nat.reduceEqDiff, Nat.reduceAdd, Nat.reduceMul, Nat.reduceSub, Nat.reduceLeDiff, Nat.reduceBEq, Int.reduceToNat, Int.reduceLE, Int.reduceLT, Int.reduceEq, Int.reduceNe, di]
  refine calls_of v1 ?_; simp only [limI, limsI, tskI, hgtI, res5, b5k8, b5k9, b5k10, lkE, ↓reduceIte, reduceCtorEq, Nat.reduceEqDiff, Nat.reduceAdd, Nat.reduceMul, Nat.reduceSub, Nat.reduceLeDiff, Nat.reduceBEq, Int.reduceToNat, Int.reduceLE, Int.reduceLT, Int.reduceEq, Int.reduceNe, di]
  refine calls_of hcp ?_; simp only [limI, limsI, tskI, hgtI, res5, b5k8, b5k9, b5k10, lkE, ↓reduceIte, reduceCtorEq, Nat.reduceEqDiff, Nat.reduceAdd, Nat.reduceMul, Nat.reduceSub, Nat.reduceLeDiff, Nat.reduceBEq, Int.reduceToNat, Int.reduceLE, Int.reduceLT, Int.reduceEq, Int.reduceNe, di]
  repeat (refine And.intro (by omega) ?_)
  refine calls_of hcl2 ?_; simp only [limI, limsI, tskI, hgtI, res5, b5k8, b5k9, b5k10, lkE, ↓reduceIte, reduceCtorEq, Nat.reduceEqDiff, Nat.reduceAdd, Nat.reduceMul, Nat.reduceSub, Nat.reduceLeDiff, Nat.reduceBEq, Int.reduceToNat, Int.reduceLE, Int.reduceLT, Int.reduceEq, Int.reduceNe, di]
  refine calls_of v2 ?_; simp only [limI, limsI, tskI, hgtI, res5, b5k8, b5k9, b5k10, lkE, ↓reduceIte, reduceCtorEq, Nat.reduceEqDiff, Nat.reduceAdd, Nat.reduceMul, Nat.reduceSub, Nat.reduceLeDiff, Nat.reduceBEq, Int.reduceToNat, Int.reduceLE, Int.reduceLT, Int.reduceEq, Int.reduceNe, di]
  have hL := (taskE_ok hE).2.2.1
  have w1 := l_wider hvp.u hL.1
  have w2 := l_wider hvp.l hL.2
  simp only [tabI, limI] at w1 w2
  simp only [b5k0, res5, b5k8, b5k9, b5k10, limI, limsI, tskI, hgtI, lkE, ↓reduceIte, reduceCtorEq, Nat.reduceEqDiff, Nat.reduceAdd, Nat.reduceMul, Nat.reduceSub, Nat.reduceLeDiff, Nat.reduceBEq, Int.reduceToNat, Int.reduceLE, Int.reduceLT, Int.reduceEq, Int.reduceNe, di]
  refine calls_of w1 ?_; simp only [limI, limsI, tskI, hgtI, res5, b5k8, b5k9, b5k10, lkE, ↓reduceIte, reduceCtorEq, Nat.reduceEqDiff, Nat.reduceAdd, Nat.reduceMul, Nat.reduceSub, Nat.reduceLeDiff, Nat.reduceBEq, Int.reduceToNat, Int.reduceLE, Int.reduceLT, Int.reduceEq, Int.reduceNe, di]
  refine calls_of w2 ?_; simp only [limI, limsI, tskI, hgtI, res5, b5k8, b5k9, b5k10, lkE, ↓reduceIte, reduceCtorEq, Nat.reduceEqDiff, Nat.reduceAdd, Nat.reduceMul, Nat.reduceSub, Nat.reduceLeDiff, Nat.reduceBEq, Int.reduceToNat, Int.reduceLE, Int.reduceLT, Int.reduceEq, Int.reduceNe, di]
  refine calls_of hcp ?_; simp only [limI, limsI, tskI, hgtI, res5, b5k8, b5k9, b5k10, lkE, ↓reduceIte, reduceCtorEq, Nat.reduceEqDiff, Nat.reduceAdd, Nat.reduceMul, Nat.reduceSub, Nat.reduceLeDiff, Nat.reduceBEq, Int.reduceToNat, Int.reduceLE, Int.reduceLT, Int.reduceEq, Int.reduceNe, di]
  refine calls_of hcl3 ?_; simp only [limI, limsI, tskI, hgtI, res5, b5k8, b5k9, b5k10, lkE, ↓reduceIte, reduceCtorEq, Nat.reduceEqDiff, Nat.reduceAdd, Nat.reduceMul, Nat.reduceSub, Nat.reduceLeDiff, Nat.reduceBEq, Int.reduceToNat, Int.reduceLE, Int.reduceLT, Int.reduceEq, Int.reduceNe, di]
  refine calls_of v3 ?_; simp only [limI, limsI, tskI, hgtI, res5, b5k8, b5k9, b5k10, lkE, ↓reduceIte, reduceCtorEq, Nat.reduceEqDiff, Nat.reduceAdd, Nat.reduceMul, Nat.reduceSub, Nat.reduceLeDiff, Nat.reduceBEq, Int.reduceToNat, Int.reduceLE, Int.reduceLT, Int.reduceEq, Int.reduceNe, di]
  rcases f6 with ⟨w, rfl, rfl, hw⟩ | ⟨rfl, hc⟩
  · have hlt : ¬ (vioT (some w)).1 < (t : Int) := by show ¬ ((w.1 : Int) < (t : Int)); omega
    rw [if_pos rfl, if_pos ⟨hlt, by decide⟩]
    exact tl
  · rw [if_neg (by omega), if_neg (by omega)]
    exact tl
end Go.DI


/- Contracts: the fastest law. No condition. -/
import Derived.Test.YtaphhpphfffnfaaGreatDoorWsj
set_option linter.unusedSimpArgs false
set_option maxRecDepth 100000
namespace Go.DI
open Go.Proofs Go.RowKit

/-- The variable that holds what is found (nothing yet: nil). -/
def outC : List Int → DV
 | [] => .nils 1
 | n :: l => .imm (nI (n :: l))

theorem keep_outC {l : List Int} {ids : List Nat} : DV.keep ids (outC l) = outC l := by cases l <;> rfl
theorem b_fast1 {x : Ow} {t : Tk} {law : List Int} (hx : OwOk x) (hl : law.length ≤ 1000000) (h0 : law ≠ []) (ht : 1 ≤ t.ti ∧ t.ti ≤ 200) :
  BC Tryz.prog 189 [.imm (nI law), .pim (owI x), .pim (tkI t), .ref 1008 0] (lookR [(1008, .box [.nils 1])]) fun r R' =>
   (keeps x t law = true ∧ r = .imm (.bool false) ∧ R' = lookR [(1008, .box [outC law])]) ∨ (keeps x t law = false ∧ r = .imm (.bool true) ∧ R' = lookR [(1008, .box [.nils 1])]) := by
 obtain ⟨n, l, rfl⟩ : ∃ n l, law = n :: l := by
  cases law with
  | nil => exact absurd rfl h0
  | cons n l => exact ⟨n, l, rfl⟩
 refine bc_run Tryz.func189 k189 rfl rfl ?_
 simp only [body189, b189, res189, b189k0, outC, vaE, ↓reduceIte, reduceCtorEq, Nat.reduceEqDiff, Nat.reduceAdd, Nat.reduceMul, Nat.reduceSub, Nat.reduceLeDiff, Nat.reduceBEq, Int.reduceToNat, Int.reduceLE, Int.reduceLT, Int.reduceEq, Int.reduceNe, di]
 refine calls_of (w_beyond (x := x) (law := n :: l) (t := t) hx hl ht) ?_; simp only [vaE, res189, b189k0, ↓reduceIte, reduceCtorEq, Nat.reduceEqDiff, Nat.reduceAdd, Nat.reduceMul, Nat.reduceSub, Nat.reduceLeDiff, Nat.reduceBEq, Int.reduceToNat, Int.reduceLE, Int.reduceLT, Int.reduceEq, Int.reduceNe, di]
 unfold keeps
 split
 ·rename_i h
  rw [outD_one res189, getD_tmp]
  exact ⟨_, rfl, rfl, .inl ⟨by simp [h], rfl⟩⟩
 ·rename_i h
  rw [outD_one res189, getD_tmp]
  exact ⟨_, rfl, rfl, .inr ⟨by simp [h], rfl⟩⟩

def yieldV (x : Ow) (t : Tk) : DV := .fn 189 [] [.pim (owI x), .pim (tkI t), .ref 1008 0]
def foundQ (x : Ow) (t : Tk) (ls : List (List Int)) (r : DV) (R' : Nat → Option Res) : Prop :=
 (∃ l, ls.find? (keeps x t) = some l ∧ r = .imm (.bool false) ∧ R' = lookR [(1008, .box [outC l])]) ∨ (ls.find? (keeps x t) = none ∧ r = .imm (.bool true) ∧ R' = lookR [(1008, .box [.nils 1])])

theorem b_laws {x : Ow} {t : Tk} (hx : OwOk x) (ht : 1 ≤ t.ti ∧ t.ti ≤ 200) {g : Int} (hg : 0 ≤ g ∧ g ≤ 1000) : ∀ (m : Nat) (law : List Int), law.length + m ≤ 1000 → (∀ n ∈ law, 0 ≤ n ∧ n ≤ g) →
  BC Tryz.prog 188 [.imm (nI law), .imm (.int .i64 ((m : Int) + 1)), .imm (.int .i64 g), yieldV x t] (lookR [(1008, .box [.nils 1])]) (foundQ x t (lawsL g m law))
 | 0, law, hm, hb => by
  have one : ∀ r R', ((keeps x t (law ++ [g]) = true ∧ r = DV.imm (.bool false) ∧ R' = lookR [(1008, .box [outC (law ++ [g])])]) ∨ (keeps x t (law ++ [g]) = false ∧ r = .imm (.bool true) ∧ R' = lookR [(1008, .box [.nils 1])])) → foundQ x t (lawsL g 0 law) r R' := by
   intro r R' h
   unfold foundQ lawsL
   rcases h with ⟨hk, h1, h2⟩ | ⟨hk, h1, h2⟩
   ·exact .inl ⟨_, by simp [hk], h1, h2⟩
   ·exact .inr ⟨by simp [hk], h1, h2⟩
  refine bc_run Tryz.func188 k188 rfl rfl ?_
  simp only [body188, b188, res188, b188k0, b188k1, b188k2, b188k3, yieldV, vaE, ↓reduceIte, reduceCtorEq, Nat.reduceEqDiff, Nat.reduceAdd, Nat.reduceMul, Nat.reduceSub, Nat.reduceLeDiff, Nat.reduceBEq, Int.reduceToNat, Int.reduceLE, Int.reduceLT, Int.reduceEq, Int.reduceNe, di]
  rw [if_pos (by omega)]
  refine do_lend rfl (by rw [restr_look]; exact b_Clone (l := law) (by omega)) rfl rfl ?_
  rintro r R' (⟨rfl, rfl, rfl⟩ | ⟨rfl, rfl⟩)
  ·refine ⟨_, rfl, rfl, ?_⟩
   simp only [res188, b188k0, b188k1, b188k2, b188k3, List.nil_append, vaE, ↓reduceIte, reduceCtorEq, Nat.reduceEqDiff, Nat.reduceAdd, Nat.reduceMul, Nat.reduceSub, Nat.reduceLeDiff, Nat.reduceBEq, Int.reduceToNat, Int.reduceLE, Int.reduceLT, Int.reduceEq, Int.reduceNe, di]
   repeat (refine And.intro (by first | omega | exact all_int _ | (simp only [zeros_len, List.length_append, List.length_take, List.length_drop, List.length_set, List.length_cons, List.length_nil, List.length_map]; omega)) ?_)
   refine do_lend rfl (by rw [restr_look]; exact b_fast1 (x := x) (t := t) (law := [g]) hx (by simp) (by simp) ht) rfl rfl ?_
   rintro r R' h
   have hq := one r R' h
   rcases h with ⟨hk, rfl, rfl⟩ | ⟨hk, rfl, rfl⟩
   ·refine ⟨_, rfl, rfl, ?_⟩
    simp only [res188, b188k0, b188k1, b188k2, b188k3, keep_outC, vaE, ↓reduceIte, reduceCtorEq, Nat.reduceEqDiff, Nat.reduceAdd, Nat.reduceMul, Nat.reduceSub, Nat.reduceLeDiff, Nat.reduceBEq, Int.reduceToNat, Int.reduceLE, Int.reduceLT, Int.reduceEq, Int.reduceNe, di]
    rw [outD_one res188, getD_tmp]
    exact ⟨_, rfl, rfl, hq⟩
   ·refine ⟨_, rfl, rfl, ?_⟩
    simp only [res188, b188k0, b188k1, b188k2, b188k3, keep_outC, vaE, ↓reduceIte, reduceCtorEq, Nat.reduceEqDiff, Nat.reduceAdd, Nat.reduceMul, Nat.reduceSub, Nat.reduceLeDiff, Nat.reduceBEq, Int.reduceToNat, Int.reduceLE, Int.reduceLT, Int.reduceEq, Int.reduceNe, di]
    rw [outD_one res188, getD_tmp]
    exact ⟨_, rfl, rfl, hq⟩
  ·refine ⟨_, rfl, rfl, ?_⟩
   simp only [res188, b188k0, b188k1, b188k2, b188k3, vaE, ↓reduceIte, reduceCtorEq, Nat.reduceEqDiff, Nat.reduceAdd, Nat.reduceMul, Nat.reduceSub, Nat.reduceLeDiff, Nat.reduceBEq, Int.reduceToNat, Int.reduceLE, Int.reduceLT, Int.reduceEq, Int.reduceNe, di]
   repeat (refine And.intro (by first | omega | exact all_int _ | (simp only [zeros_len, List.length_append, List.length_take, List.length_drop, List.length_set, List.length_cons, List.length_nil, List.length_map]; omega)) ?_)
   refine do_lend rfl (by rw [restr_look]; exact b_fast1 (x := x) (t := t) (law := law ++ [g]) hx (by simp; omega) (by simp) ht) rfl rfl ?_
   rintro r R' h
   have hq := one r R' h
   rcases h with ⟨hk, rfl, rfl⟩ | ⟨hk, rfl, rfl⟩
   ·refine ⟨_, rfl, rfl, ?_⟩
    simp only [res188, b188k0, b188k1, b188k2, b188k3, keep_outC, vaE, ↓reduceIte, reduceCtorEq, Nat.reduceEqDiff, Nat.reduceAdd, Nat.reduceMul, Nat.reduceSub, Nat.reduceLeDiff, Nat.reduceBEq, Int.reduceToNat, Int.reduceLE, Int.reduceLT, Int.reduceEq, Int.reduceNe, di]
    rw [outD_one res188, getD_tmp]
    exact ⟨_, rfl, rfl, hq⟩
   ·refine ⟨_, rfl, rfl, ?_⟩
    simp only [res188, b188k0, b188k1, b188k2, b188k3, keep_outC, vaE, ↓reduceIte, reduceCtorEq, Nat.reduceEqDiff, Nat.reduceAdd, Nat.reduceMul, Nat.reduceSub, Nat.reduceLeDiff, Nat.reduceBEq, Int.reduceToNat, Int.reduceLE, Int.reduceLT, Int.reduceEq, Int.reduceNe, di]
    rw [outD_one res188, getD_tmp]
    exact ⟨_, rfl, rfl, hq⟩
 | m + 1, law, hm, hb => by
  have ha := atL_bd hg.1 hb law.length
  refine bc_run Tryz.func188 k188 rfl rfl ?_
  simp only [body188, b188, res188, b188k0, b188k1, b188k2, b188k3, yieldV, vaE, ↓reduceIte, reduceCtorEq, Nat.reduceEqDiff, Nat.reduceAdd, Nat.reduceMul, Nat.reduceSub, Nat.reduceLeDiff, Nat.reduceBEq, Int.reduceToNat, Int.reduceLE, Int.reduceLT, Int.reduceEq, Int.reduceNe, di]
  rw [if_neg (by omega)]
  refine calls_of (w_at (law := law) (t := law.length) (by omega) (by omega)) ?_; simp only [vaE, res188, b188k0, b188k1, b188k2, b188k3, ↓reduceIte, reduceCtorEq, Nat.reduceEqDiff, Nat.reduceAdd, Nat.reduceMul, Nat.reduceSub, Nat.reduceLeDiff, Nat.reduceBEq, Int.reduceToNat, Int.reduceLE, Int.reduceLT, Int.reduceEq, Int.reduceNe, di]
  refine loop_keep (α := Int) rfl (fun n => (g + 1 - n).toNat) (fun n => 0 ≤ n ∧ n ≤ 1001 ∧ (lawsL g (m + 1) law).find? (keeps x t) = (lawsR g m law n).find? (keeps x t))
   (fun n => [(0, .imm (nI law)), (1, .imm (.int .i64 ((m + 1 : Nat) + 1))), (2, .imm (.int .i64 g)), (3, yieldV x t), (9, .imm (.int .i64 n))])
   (fun _ => [(1008, .box [.nils 1])]) (atL law law.length) ⟨ha.1, by omega, rfl⟩ (by simp only [yieldV, vaE, ↓reduceIte, reduceCtorEq, Nat.reduceEqDiff, Nat.reduceAdd, Nat.reduceMul, Nat.reduceSub, Nat.reduceLeDiff, Nat.reduceBEq, Int.reduceToNat, Int.reduceLE, Int.reduceLT, Int.reduceEq, Int.reduceNe, di] <;> rfl) ?_
  rintro n ⟨hn0, hn1, hf⟩ ih
  simp only [res188, b188k0, b188k1, b188k2, b188k3, yieldV, vaE, ↓reduceIte, reduceCtorEq, Nat.reduceEqDiff, Nat.reduceAdd, Nat.reduceMul, Nat.reduceSub, Nat.reduceLeDiff, Nat.reduceBEq, Int.reduceToNat, Int.reduceLE, Int.reduceLT, Int.reduceEq, Int.reduceNe, di]
  split
  rotate_left
  ·rename_i h
   rw [lawsR_end h] at hf
   rw [outD_one res188, getD_tmp]
   exact ⟨_, rfl, rfl, .inr ⟨by rw [hf]; rfl, rfl, rfl⟩⟩
  rename_i h
  rw [lawsR_step h, List.find?_append] at hf
  have hrec := b_laws (x := x) (t := t) hx ht hg m (law ++ [n]) (by simp; omega) (by
   intro e he
   rcases List.mem_append.1 he with he | he
   ·exact hb e he
   ·rw [List.mem_singleton] at he; omega)
  refine do_lend rfl (by rw [restr_look]; exact b_Clone (l := law) (by omega)) rfl rfl ?_
  rintro r R' (⟨rfl, rfl, rfl⟩ | ⟨rfl, rfl⟩)
  ·refine ⟨_, rfl, rfl, ?_⟩
   simp only [res188, b188k0, b188k1, b188k2, b188k3, List.nil_append, vaE, ↓reduceIte, reduceCtorEq, Nat.reduceEqDiff, Nat.reduceAdd, Nat.reduceMul, Nat.reduceSub, Nat.reduceLeDiff, Nat.reduceBEq, Int.reduceToNat, Int.reduceLE, Int.reduceLT, Int.reduceEq, Int.reduceNe, di]
   repeat (refine And.intro (by first | omega | exact all_int _ | (simp only [zeros_len, List.length_append, List.length_take, List.length_drop, List.length_set, List.length_cons, List.length_nil, List.length_map]; omega)) ?_)
   rw [wrap64 (n := ((m + 1 : Nat) : Int) + 1 - 1) (by omega) (by omega), show ((m + 1 : Nat) : Int) + 1 - 1 = (m : Int) + 1 by omega]
   refine do_lend rfl (by rw [restr_look]; exact hrec) rfl rfl ?_
   rintro r R' (⟨l, hl, rfl, rfl⟩ | ⟨hl, rfl, rfl⟩)
   ·refine ⟨_, rfl, rfl, ?_⟩
    simp only [res188, b188k0, b188k1, b188k2, b188k3, keep_outC, vaE, ↓reduceIte, reduceCtorEq, Nat.reduceEqDiff, Nat.reduceAdd, Nat.reduceMul, Nat.reduceSub, Nat.reduceLeDiff, Nat.reduceBEq, Int.reduceToNat, Int.reduceLE, Int.reduceLT, Int.reduceEq, Int.reduceNe, di]
    rw [outD_one res188, getD_tmp]
    exact ⟨_, rfl, rfl, .inl ⟨l, by rw [hf, hl]; rfl, rfl, rfl⟩⟩
   ·refine ⟨_, rfl, rfl, ?_⟩
    simp only [res188, b188k0, b188k1, b188k2, b188k3, vaE, ↓reduceIte, reduceCtorEq, Nat.reduceEqDiff, Nat.reduceAdd, Nat.reduceMul, Nat.reduceSub, Nat.reduceLeDiff, Nat.reduceBEq, Int.reduceToNat, Int.reduceLE, Int.reduceLT, Int.reduceEq, Int.reduceNe, di]
    rw [wrap64 (by omega) (by omega)]
    refine ih (n + 1) _ _ (by omega) ⟨by omega, by omega, by rw [hf, hl]; rfl⟩ (by simp only [yieldV, vaE, ↓reduceIte, reduceCtorEq, Nat.reduceEqDiff, Nat.reduceAdd, Nat.reduceMul, Nat.reduceSub, Nat.reduceLeDiff, Nat.reduceBEq, Int.reduceToNat, Int.reduceLE, Int.reduceLT, Int.reduceEq, Int.reduceNe, di] <;> rfl)
  ·refine ⟨_, rfl, rfl, ?_⟩
   simp only [res188, b188k0, b188k1, b188k2, b188k3, vaE, ↓reduceIte, reduceCtorEq, Nat.reduceEqDiff, Nat.reduceAdd, Nat.reduceMul, Nat.reduceSub, Nat.reduceLeDiff, Nat.reduceBEq, Int.reduceToNat, Int.reduceLE, Int.reduceLT, Int.reduceEq, Int.reduceNe, di]
   repeat (refine And.intro (by first | omega | exact all_int _ | (simp only [zeros_len, List.length_append, List.length_take, List.length_drop, List.length_set, List.length_cons, List.length_nil, List.length_map]; omega)) ?_)
   rw [wrap64 (n := ((m + 1 : Nat) : Int) + 1 - 1) (by omega) (by omega), show ((m + 1 : Nat) : Int) + 1 - 1 = (m : Int) + 1 by omega]
   refine do_lend rfl (by rw [restr_look]; exact hrec) rfl rfl ?_
   rintro r R' (⟨l, hl, rfl, rfl⟩ | ⟨hl, rfl, rfl⟩)
   ·refine ⟨_, rfl, rfl, ?_⟩
    simp only [res188, b188k0, b188k1, b188k2, b188k3, keep_outC, vaE, ↓reduceIte, reduceCtorEq, Nat.reduceEqDiff, Nat.reduceAdd, Nat.reduceMul, Nat.reduceSub, Nat.reduceLeDiff, Nat.reduceBEq, Int.reduceToNat, Int.reduceLE, Int.reduceLT, Int.reduceEq, Int.reduceNe, di]
    rw [outD_one res188, getD_tmp]
    exact ⟨_, rfl, rfl, .inl ⟨l, by rw [hf, hl]; rfl, rfl, rfl⟩⟩
   ·refine ⟨_, rfl, rfl, ?_⟩
    simp only [res188, b188k0, b188k1, b188k2, b188k3, vaE, ↓reduceIte, reduceCtorEq, Nat.reduceEqDiff, Nat.reduceAdd, Nat.reduceMul, Nat.reduceSub, Nat.reduceLeDiff, Nat.reduceBEq, Int.reduceToNat, Int.reduceLE, Int.reduceLT, Int.reduceEq, Int.reduceNe, di]
    rw [wrap64 (by omega) (by omega)]
    refine ih (n + 1) _ _ (by omega) ⟨by omega, by omega, by rw [hf, hl]; rfl⟩ (by simp only [yieldV, vaE, ↓reduceIte, reduceCtorEq, Nat.reduceEqDiff, Nat.reduceAdd, Nat.reduceMul, Nat.reduceSub, Nat.reduceLeDiff, Nat.reduceBEq, Int.reduceToNat, Int.reduceLE, Int.reduceLT, Int.reduceEq, Int.reduceNe, di] <;> rfl)

theorem lawsL_ne {g : Int} : ∀ {m : Nat} {law l : List Int}, l ∈ lawsL g m law → l ≠ []
 | 0, law, l, h => by simp [lawsL] at h; rw [h]; simp
 | m + 1, law, l, h => by
  unfold lawsL at h
  obtain ⟨i, _, h⟩ := List.mem_flatMap.1 h
  exact lawsL_ne h

theorem w_FastestLaw {x : Ln} {t : Tk} (hx : Few x) : Contract Tryz.prog 91 [lnI x, tkI t] (if fastE x t = 0 then .tup [nI (fast (opn x) t), .int .i64 (if fast (opn x) t = [] then 12 else 0)] else .tup [nI [], .int .i64 (fastE x t)]) := by
 refine contract_run Tryz.func91 k91 rfl ?_
 simp only [body91, b91, res91, b91k0, b91k1, b91k2, vaE, ↓reduceIte, reduceCtorEq, Nat.reduceEqDiff, Nat.reduceAdd, Nat.reduceMul, Nat.reduceSub, Nat.reduceLeDiff, Nat.reduceBEq, Int.reduceToNat, Int.reduceLE, Int.reduceLT, Int.reduceEq, Int.reduceNe, di]
 refine calls_of (w_open' hx) ?_; simp only [vaE, res91, b91k0, b91k1, b91k2, ↓reduceIte, reduceCtorEq, Nat.reduceEqDiff, Nat.reduceAdd, Nat.reduceMul, Nat.reduceSub, Nat.reduceLeDiff, Nat.reduceBEq, Int.reduceToNat, Int.reduceLE, Int.reduceLT, Int.reduceEq, Int.reduceNe, di]
 refine calls_of (w_taskErr (t := t)) ?_; simp only [vaE, res91, b91k0, b91k1, b91k2, ↓reduceIte, reduceCtorEq, Nat.reduceEqDiff, Nat.reduceAdd, Nat.reduceMul, Nat.reduceSub, Nat.reduceLeDiff, Nat.reduceBEq, Int.reduceToNat, Int.reduceLE, Int.reduceLT, Int.reduceEq, Int.reduceNe, di]
 refine calls_of (w_first (l := [(chkL x).2, taskE t]) (by simp)) ?_; simp only [vaE, res91, b91k0, b91k1, b91k2, ↓reduceIte, reduceCtorEq, Nat.reduceEqDiff, Nat.reduceAdd, Nat.reduceMul, Nat.reduceSub, Nat.reduceLeDiff, Nat.reduceBEq, Int.reduceToNat, Int.reduceLE, Int.reduceLT, Int.reduceEq, Int.reduceNe, di]
 rw [firstNZ_two]
 show (if fastE x t = 0 then _ else _)
 split
 rotate_left
 ·rfl
 rename_i h0
 have hz := fstE_zero.1 h0
 have hok := chkL_ok.1 hz.1
 have htk := taskE_zero.1 hz.2
 have hox : opnE x = opn x := by unfold opnE; rw [if_pos (chkL_ok.2 hok)]
 have how := opn_ok hok
 rw [hox]
 refine run_ren rfl (by first | decide | rfl) (by first | decide | rfl) (by first | decide | rfl) ?_
 simp only [vaE, ↓reduceIte, reduceCtorEq, Nat.reduceEqDiff, Nat.reduceAdd, Nat.reduceMul, Nat.reduceSub, Nat.reduceLeDiff, Nat.reduceBEq, Int.reduceToNat, Int.reduceLE, Int.reduceLT, Int.reduceEq, Int.reduceNe, di]
 have hmo := htk.mo
 refine loop_keep (α := Nat × List Int) rfl (fun q => t.mo.toNat - q.1) (fun q => q.1 ≤ t.mo.toNat ∧ ((q.2 = [] ∧ fast (opn x) t = fastL (opn x) t q.1 (t.mo.toNat - q.1)) ∨ (q.2 ≠ [] ∧ fast (opn x) t = q.2)))
  (fun q => [(3, .pim (tkI t)), (6, .pim (owI (opn x))), (8, .ref 1008 0), (9, .imm (.int .i64 ((q.1 : Int) + 1)))]) (fun q => [(1008, .box [outC q.2])]) (0, []) ⟨Nat.zero_le _, .inl ⟨rfl, rfl⟩⟩ (by simp only [outC, vaE, ↓reduceIte, reduceCtorEq, Nat.reduceEqDiff, Nat.reduceAdd, Nat.reduceMul, Nat.reduceSub, Nat.reduceLeDiff, Nat.reduceBEq, Int.reduceToNat, Int.reduceLE, Int.reduceLT, Int.reduceEq, Int.reduceNe, di] <;> rfl) ?_
 rintro ⟨c, o⟩ ⟨hc, ho⟩ ih
 dsimp only at hc ho ⊢
 rcases ho with ⟨rfl, hf⟩ | ⟨hne, hf⟩
 rotate_left
 ·obtain ⟨n, l, rfl⟩ : ∃ n l, o = n :: l := by
   cases o with
   | nil => exact absurd rfl hne
   | cons n l => exact ⟨n, l, rfl⟩
  simp only [res91, b91k0, b91k1, b91k2, outC, vaE, ↓reduceIte, reduceCtorEq, Nat.reduceEqDiff, Nat.reduceAdd, Nat.reduceMul, Nat.reduceSub, Nat.reduceLeDiff, Nat.reduceBEq, Int.reduceToNat, Int.reduceLE, Int.reduceLT, Int.reduceEq, Int.reduceNe, di]
  have hif : (if (n :: l) = [] then (12 : Int) else 0) = 0 := by simp
  rw [hf, hif]
  split
  ·refine calls_of w_unless ?_; simp only [vaE, res91, b91k0, b91k1, b91k2, ↓reduceIte, reduceCtorEq, Nat.reduceEqDiff, Nat.reduceAdd, Nat.reduceMul, Nat.reduceSub, Nat.reduceLeDiff, Nat.reduceBEq, Int.reduceToNat, Int.reduceLE, Int.reduceLT, Int.reduceEq, Int.reduceNe, di]
  ·refine calls_of w_unless ?_; simp only [vaE, res91, b91k0, b91k1, b91k2, ↓reduceIte, reduceCtorEq, Nat.reduceEqDiff, Nat.reduceAdd, Nat.reduceMul, Nat.reduceSub, Nat.reduceLeDiff, Nat.reduceBEq, Int.reduceToNat, Int.reduceLE, Int.reduceLT, Int.reduceEq, Int.reduceNe, di]
 simp only [res91, b91k0, b91k1, b91k2, outC, vaE, ↓reduceIte, reduceCtorEq, Nat.reduceEqDiff, Nat.reduceAdd, Nat.reduceMul, Nat.reduceSub, Nat.reduceLeDiff, Nat.reduceBEq, Int.reduceToNat, Int.reduceLE, Int.reduceLT, Int.reduceEq, Int.reduceNe, di]
 split
 rotate_left
 ·rename_i h
  have hcm : t.mo.toNat - c = 0 := by omega
  rw [hcm] at hf
  refine calls_of w_unless ?_; simp only [vaE, res91, b91k0, b91k1, b91k2, ↓reduceIte, reduceCtorEq, Nat.reduceEqDiff, Nat.reduceAdd, Nat.reduceMul, Nat.reduceSub, Nat.reduceLeDiff, Nat.reduceBEq, Int.reduceToNat, Int.reduceLE, Int.reduceLT, Int.reduceEq, Int.reduceNe, di]
  rw [hf]
  rfl
 rename_i h
 have hlt : c < t.mo.toNat := by omega
 rw [show t.mo.toNat - c = (t.mo.toNat - (c + 1)) + 1 by omega] at hf
 unfold fastL at hf
 have hb := b_laws (x := opn x) (t := t) how htk.ti (g := t.cl) (by have := htk.cl; omega) c [] (by simp; omega) (by simp)
 refine do_lend rfl (by rw [restr_look]; exact hb) rfl rfl ?_
 rintro r R' (⟨l, hl, rfl, rfl⟩ | ⟨hl, rfl, rfl⟩)
 ·refine ⟨_, rfl, rfl, ?_⟩
  simp only [res91, b91k0, b91k1, b91k2, keep_outC, vaE, ↓reduceIte, reduceCtorEq, Nat.reduceEqDiff, Nat.reduceAdd, Nat.reduceMul, Nat.reduceSub, Nat.reduceLeDiff, Nat.reduceBEq, Int.reduceToNat, Int.reduceLE, Int.reduceLT, Int.reduceEq, Int.reduceNe, di]
  rw [wrap64 (by omega) (by omega)]
  rw [hl] at hf
  exact ih (c + 1, l) _ _ (by dsimp only; omega) ⟨by dsimp only; omega, .inr ⟨lawsL_ne (List.mem_of_find?_eq_some hl), hf⟩⟩ (by simp only [keep_outC, vaE, ↓reduceIte, reduceCtorEq, Nat.reduceEqDiff, Nat.reduceAdd, Nat.reduceMul, Nat.reduceSub, Nat.reduceLeDiff, Nat.reduceBEq, Int.reduceToNat, Int.reduceLE, Int.reduceLT, Int.reduceEq, Int.reduceNe, di] <;> rfl)
 ·refine ⟨_, rfl, rfl, ?_⟩
  simp only [res91, b91k0, b91k1, b91k2, vaE, ↓reduceIte, reduceCtorEq, Nat.reduceEqDiff, Nat.reduceAdd, Nat.reduceMul, Nat.reduceSub, Nat.reduceLeDiff, Nat.reduceBEq, Int.reduceToNat, Int.reduceLE, Int.reduceLT, Int.reduceEq, Int.reduceNe, di]
  rw [wrap64 (by omega) (by omega)]
  rw [hl] at hf
  exact ih (c + 1, []) _ _ (by dsimp only; omega) ⟨by dsimp only; omega, .inl ⟨rfl, hf⟩⟩ (by simp only [outC, vaE, ↓reduceIte, reduceCtorEq, Nat.reduceEqDiff, Nat.reduceAdd, Nat.reduceMul, Nat.reduceSub, Nat.reduceLeDiff, Nat.reduceBEq, Int.reduceToNat, Int.reduceLE, Int.reduceLT, Int.reduceEq, Int.reduceNe, di] <;> rfl)
end Go.DI


/- Numbers of any size, ratios. No condition. -/
import Derived.Test.YtdpfjbghiahbeaaKfGr
/- Contracts: wide numbers added, subtracted, compared, multiplied. No condition. -/
set_option linter.unusedSimpArgs false
namespace Go.DI.Wd
open Go.Proofs Go.RowKit

/-- Has it few digits? -/
def Few (z : Int) : Prop := (digs z.natAbs).length ≤ 100000

theorem few_of {z : Int} (k : Nat) (hk : k ≤ 100000) (h : z.natAbs < 1000000000 ^ k) : Few z := Nat.le_trans (digs_length_le k _ h) hk

theorem c_WideSign {z : Int} : Contract Try.prog 159 [wide z] (.int .i64 z.sign) := by
  unfold wide
  refine contract_run Try.func159 k159 rfl ?_
  simp only [body159, b159, res159, ↓reduceIte, reduceCtorEq, Nat.reduceEqDiff, Nat.reduceAdd, Nat.reduceMul, Nat.reduceSub, Nat.reduceLeDiff, Nat.reduceBEq, Int.reduceToNat, Int.reduceLE, Int.reduceLT, Int.reduceEq, Int.reduceNe, di0, di1, di2, di3, di4, di5, di6, di7, di8, di9, postX_ret, postX_normal, ex_some]

theorem sign_bd (z : Int) : -1 ≤ z.sign ∧ z.sign ≤ 1 := by
  rcases Int.lt_trichotomy z 0 with h | h | h
  · rw [Int.sign_eq_neg_one_of_neg h]; omega
  · subst h; simp
  · rw [Int.sign_eq_one_of_pos h]; omega

theorem c_WideNeg {z : Int} : Contract Try.prog 160 [wide z] (wide (-z)) := by
  unfold wide
  refine contract_run Try.func160 k160 rfl ?_
  have := sign_bd z
  simp only [body160, b160, res160, ↓reduceIte, reduceCtorEq, Nat.reduceEqDiff, Nat.reduceAdd, Nat.reduceMul, Nat.reduceSub, Nat.reduceLeDiff, Nat.reduceBEq, Int.reduceToNat, Int.reduceLE, Int.reduceLT, Int.reduceEq, Int.reduceNe, di0, di1, di2, di3, di4, di5, di6, di7, di8, di9, postX_ret, postX_normal, ex_some]
  rw [wrap64 (by omega) (by omega), Int.sign_neg, Int.natAbs_neg]
  congr 5
  omega

theorem sign_cases (z : Int) : z.sign = 0 ∧ z = 0 ∨ z.sign = 1 ∧ 0 < z ∧ (z.natAbs : Int) = z ∨ z.sign = -1 ∧ z < 0 ∧ (z.natAbs : Int) = -z := by
  rcases Int.lt_trichotomy z 0 with h | h | h
  · exact .inr (.inr ⟨Int.sign_eq_neg_one_of_neg h, h, by omega⟩)
  · subst h; exact .inl ⟨rfl, rfl⟩
  · exact .inr (.inl ⟨Int.sign_eq_one_of_pos h, h, by omega⟩)

theorem c_WideAdd {x y : Int} (hx : Few x) (hy : Few y) : Contract Try.prog 167 [wide x, wide y] (wide (x + y)) := by
  unfold Few at hx hy
  have sx := sign_cases x
  have sy := sign_cases y
  have vx := val_digs x.natAbs
  have vy := val_digs y.natAbs
  unfold wide
  refine contract_run Try.func167 k167 rfl ?_
  simp only [body167, b167, res167, b167k0, b167k1, b167k2, b167k3, b167k4, ↓reduceIte, reduceCtorEq, Nat.reduceEqDiff, Nat.reduceAdd, Nat.reduceMul, Nat.reduceSub, Nat.reduceLeDiff, Nat.reduceBEq, Int.reduceToNat, Int.reduceLE, Int.reduceLT, Int.reduceEq, Int.reduceNe, di0, di1, di2, di3, di4, di5, di6, di7, di8, di9, postX_ret, postX_normal, ex_some]
  split
  · rename_i h
    have : x = 0 := by omega
    subst this; simp
  · rename_i h
    split
    · rename_i h2
      have : y = 0 := by omega
      subst this; simp
    · rename_i h2
      split
      · rename_i h3
        obtain ⟨r, ⟨l, rfl, hwf, hval, hlen⟩, hc⟩ := c_addDigits (wf_digs x.natAbs) (wf_digs y.natAbs) (by omega) (by omega)
        refine calls_of hc ?_
        simp only [res167, b167k0, b167k1, b167k2, b167k3, b167k4, ↓reduceIte, reduceCtorEq, Nat.reduceEqDiff, Nat.reduceAdd, Nat.reduceMul, Nat.reduceSub, Nat.reduceLeDiff, Nat.reduceBEq, Int.reduceToNat, Int.reduceLE, Int.reduceLT, Int.reduceEq, Int.reduceNe, di0, di1, di2, di3, di4, di5, di6, di7, di8, di9, postX_ret, postX_normal, ex_some]
        refine calls_of (c_wideOf (by omega) hwf (by omega) (by omega)) ?_
        have e : x.sign * val l = x + y := by
          rw [hval, vx, vy]
          rcases sx with k | k | k
          · omega
          · rw [k.1]; omega
          · rw [k.1]; omega
        rw [e]
        simp only [res167, b167k0, b167k1, b167k2, b167k3, b167k4, wide, ↓reduceIte, reduceCtorEq, Nat.reduceEqDiff, Nat.reduceAdd, Nat.reduceMul, Nat.reduceSub, Nat.reduceLeDiff, Nat.reduceBEq, Int.reduceToNat, Int.reduceLE, Int.reduceLT, Int.reduceEq, Int.reduceNe, di0, di1, di2, di3, di4, di5, di6, di7, di8, di9, postX_ret, postX_normal, ex_some]
      · rename_i h3
        refine calls_of (c_cmpDigits (by omega)) ?_
        simp only [res167, b167k0, b167k1, b167k2, b167k3, b167k4, ↓reduceIte, reduceCtorEq, Nat.reduceEqDiff, Nat.reduceAdd, Nat.reduceMul, Nat.reduceSub, Nat.reduceLeDiff, Nat.reduceBEq, Int.reduceToNat, Int.reduceLE, Int.reduceLT, Int.reduceEq, Int.reduceNe, di0, di1, di2, di3, di4, di5, di6, di7, di8, di9, postX_ret, postX_normal, ex_some]
        have sd := sign_cases ((x.natAbs : Int) - y.natAbs)
        split
        · rename_i h4
          have : x + y = 0 := by omega
          rw [this]; simp [digs_zero]
        · rename_i h4
          split
          · rename_i h5
            refine calls_of (c_subDigits (wf_digs x.natAbs) (wf_digs y.natAbs) (by omega) (by omega)) ?_
            simp only [res167, b167k0, b167k1, b167k2, b167k3, b167k4, ↓reduceIte, reduceCtorEq, Nat.reduceEqDiff, Nat.reduceAdd, Nat.reduceMul, Nat.reduceSub, Nat.reduceLeDiff, Nat.reduceBEq, Int.reduceToNat, Int.reduceLE, Int.reduceLT, Int.reduceEq, Int.reduceNe, di0, di1, di2, di3, di4, di5, di6, di7, di8, di9, postX_ret, postX_normal, ex_some]
            refine calls_of (c_wideOf (l := digs (val (digs x.natAbs) - val (digs y.natAbs)).toNat) (Nat.le_trans (digs_mono (m := x.natAbs) (by omega)) (by omega)) (wf_digs _) (by omega) (by omega)) ?_
            have e : x.sign * val (digs (val (digs x.natAbs) - val (digs y.natAbs)).toNat) = x + y := by
              rw [val_digs, vx, vy]
              rcases sx with k | k | k
              · omega
              · rw [k.1]; omega
              · rw [k.1]; omega
            rw [e]
            simp only [res167, b167k0, b167k1, b167k2, b167k3, b167k4, wide, ↓reduceIte, reduceCtorEq, Nat.reduceEqDiff, Nat.reduceAdd, Nat.reduceMul, Nat.reduceSub, Nat.reduceLeDiff, Nat.reduceBEq, Int.reduceToNat, Int.reduceLE, Int.reduceLT, Int.reduceEq, Int.reduceNe, di0, di1, di2, di3, di4, di5, di6, di7, di8, di9, postX_ret, postX_normal, ex_some]
          · rename_i h5
            refine calls_of (c_subDigits (wf_digs y.natAbs) (wf_digs x.natAbs) (by omega) (by omega)) ?_
            simp only [res167, b167k0, b167k1, b167k2, b167k3, b167k4, ↓reduceIte, reduceCtorEq, Nat.reduceEqDiff, Nat.reduceAdd, Nat.reduceMul, Nat.reduceSub, Nat.reduceLeDiff, Nat.reduceBEq, Int.reduceToNat, Int.reduceLE, Int.reduceLT, Int.reduceEq, Int.reduceNe, di0, di1, di2, di3, di4, di5, di6, di7, di8, di9, postX_ret, postX_normal, ex_some]
            refine calls_of (c_wideOf (l := digs (val (digs y.natAbs) - val (digs x.natAbs)).toNat) (Nat.le_trans (digs_mono (m := y.natAbs) (by omega)) (by omega)) (wf_digs _) (by omega) (by omega)) ?_
            have e : y.sign * val (digs (val (digs y.natAbs) - val (digs x.natAbs)).toNat) = x + y := by
              rw [val_digs, vx, vy]
              rcases sy with k | k | k
              · omega
              · rw [k.1]; omega
              · rw [k.1]; omega
            rw [e]
            simp only [res167, b167k0, b167k1, b167k2, b167k3, b167k4, wide, ↓reduceIte, reduceCtorEq, Nat.reduceEqDiff, Nat.reduceAdd, Nat.reduceMul, Nat.reduceSub, Nat.reduceLeDiff, Nat.reduceBEq, Int.reduceToNat, Int.reduceLE, Int.reduceLT, Int.reduceEq, Int.reduceNe, di0, di1, di2, di3, di4, di5, di6, di7, di8, di9, postX_ret, postX_normal, ex_some]

theorem few_neg {z : Int} (h : Few z) : Few (-z) := by unfold Few at *; rwa [Int.natAbs_neg]

theorem c_WideSub {x y : Int} (hx : Few x) (hy : Few y) : Contract Try.prog 157 [wide x, wide y] (wide (x - y)) := by
  refine contract_run Try.func157 k157 rfl ?_
  simp only [wide, body157, b157, res157, ↓reduceIte, reduceCtorEq, Nat.reduceEqDiff, Nat.reduceAdd, Nat.reduceMul, Nat.reduceSub, Nat.reduceLeDiff, Nat.reduceBEq, Int.reduceToNat, Int.reduceLE, Int.reduceLT, Int.reduceEq, Int.reduceNe, di0, di1, di2, di3, di4, di5, di6, di7, di8, di9, postX_ret, postX_normal, ex_some]
  refine calls_of c_WideNeg ?_
  simp only [wide, res157, ↓reduceIte, reduceCtorEq, Nat.reduceEqDiff, Nat.reduceAdd, Nat.reduceMul, Nat.reduceSub, Nat.reduceLeDiff, Nat.reduceBEq, Int.reduceToNat, Int.reduceLE, Int.reduceLT, Int.reduceEq, Int.reduceNe, di0, di1, di2, di3, di4, di5, di6, di7, di8, di9, postX_ret, postX_normal, ex_some]
  refine calls_of (c_WideAdd hx (few_neg hy)) ?_
  simp only [wide, res157, ↓reduceIte, reduceCtorEq, Nat.reduceEqDiff, Nat.reduceAdd, Nat.reduceMul, Nat.reduceSub, Nat.reduceLeDiff, Nat.reduceBEq, Int.reduceToNat, Int.reduceLE, Int.reduceLT, Int.reduceEq, Int.reduceNe, di0, di1, di2, di3, di4, di5, di6, di7, di8, di9, postX_ret, postX_normal, ex_some]
  rfl

theorem c_WideCmp {x y : Int} (hx : Few x) (hy : Few y) : Contract Try.prog 128 [wide x, wide y] (.int .i64 (x - y).sign) := by
  refine contract_run Try.func128 k128 rfl ?_
  simp only [wide, body128, b128, res128, ↓reduceIte, reduceCtorEq, Nat.reduceEqDiff, Nat.reduceAdd, Nat.reduceMul, Nat.reduceSub, Nat.reduceLeDiff, Nat.reduceBEq, Int.reduceToNat, Int.reduceLE, Int.reduceLT, Int.reduceEq, Int.reduceNe, di0, di1, di2, di3, di4, di5, di6, di7, di8, di9, postX_ret, postX_normal, ex_some]
  refine calls_of (c_WideSub hx hy) ?_
  simp only [wide, res128, ↓reduceIte, reduceCtorEq, Nat.reduceEqDiff, Nat.reduceAdd, Nat.reduceMul, Nat.reduceSub, Nat.reduceLeDiff, Nat.reduceBEq, Int.reduceToNat, Int.reduceLE, Int.reduceLT, Int.reduceEq, Int.reduceNe, di0, di1, di2, di3, di4, di5, di6, di7, di8, di9, postX_ret, postX_normal, ex_some]
end Go.DI.Wd

/- Contracts: wide numbers multiplied. No condition. -/
set_option linter.unusedSimpArgs false
namespace Go.DI.Wd
open Go.Proofs Go.RowKit

theorem val_set : ∀ (l : List Int) (j : Nat) (x : Int), j < l.length → val (l.set j x) = val l + (x - l.getD j 0) * 1000000000 ^ j
  | [], j, x, h => by simp at h
  | d :: l, 0, x, _ => by
    simp [List.set, val]; omega
  | d :: l, j + 1, x, h => by
    have ih := val_set l j x (by simpa using h)
    have e : (d :: l).getD (j + 1) 0 = l.getD j 0 := by simp [List.getD_eq_getElem?_getD]
    rw [e]
    simp only [List.set_cons_succ, val, ih, Int.pow_succ]
    rw [Int.mul_add, Int.add_assoc]
    congr 2
    rw [Int.mul_comm 1000000000, Int.mul_assoc]

theorem WF.set {l : List Int} (h : WF l) {j : Nat} {x : Int} (h1 : 0 ≤ x) (h2 : x < 1000000000) : WF (l.set j x) := by
  intro d hd
  rcases List.mem_or_eq_of_mem_set hd with k | k
  · exact h d k
  · subst k; exact ⟨h1, h2⟩

/-- A digit at a place is at most the number by the place's weight. -/
theorem digit_le {l : List Int} (h : WF l) {j : Nat} (hj : j < l.length) : l.getD j 0 * 1000000000 ^ j ≤ val l := by
  have := val_set l j 0 hj
  have h2 := val_nonneg (h.set (j := j) (x := 0) (by omega) (by omega))
  have e : (0 - l.getD j 0) * 1000000000 ^ j = -(l.getD j 0 * 1000000000 ^ j) := by rw [Int.zero_sub, Int.neg_mul]
  rw [e] at this
  omega

theorem take_succ_val (l : List Int) (i : Nat) (h : i < l.length) : val (l.take (i + 1)) = val (l.take i) + l.getD i 0 * 1000000000 ^ i := by
  have e : l.take (i + 1) = l.take i ++ [l.getD i 0] := by
    rw [List.take_succ_eq_append_getElem h, List.getD_eq_getElem?_getD]
    simp [h]
  rw [e, val_append, List.length_take, Nat.min_eq_left (by omega)]
  simp only [val, Int.mul_zero, Int.add_zero]
  rw [Int.mul_comm]

theorem val_replicate : ∀ n, val (List.replicate n 0) = 0
  | 0 => rfl
  | n + 1 => by simp [List.replicate_succ, val, val_replicate n]

theorem c_WideMul {x y : Int} (hx : Few x) (hy : Few y) : Contract Try.prog 129 [wide x, wide y] (wide (x * y)) := by
  unfold Few at hx hy
  have sx := sign_cases x
  have sy := sign_cases y
  have vx := val_digs x.natAbs
  have vy := val_digs y.natAbs
  have wx := wf_digs x.natAbs
  have wy := wf_digs y.natAbs
  refine contract_run Try.func129 k129 rfl ?_
  simp only [wide, body129, b129, res129, b129k0, b129k1, b129k2, b129k3, b129k4, ↓reduceIte, reduceCtorEq, Nat.reduceEqDiff, Nat.reduceAdd, Nat.reduceMul, Nat.reduceSub, Nat.reduceLeDiff, Nat.reduceBEq, Int.reduceToNat, Int.reduceLE, Int.reduceLT, Int.reduceEq, Int.reduceNe, di0, di1, di2, di3, di4, di5, di6, di7, di8, di9, postX_ret, postX_normal, ex_some]
  generalize digs x.natAbs = a at *
  generalize digs y.natAbs = b at *
  have w1 : IntKind.wrap .i64 ((a.length : Int) + b.length) = a.length + b.length := wrap64 (by omega) (by omega)
  have w2 : IntKind.wrap .i64 ((a.length : Int) + b.length + 1) = a.length + b.length + 1 := wrap64 (by omega) (by omega)
  rw [w1, w2]
  refine ⟨by omega, by omega, by omega, ?_⟩
  have e3 : ((a.length : Int) + b.length + 1).toNat = a.length + b.length + 1 := by omega
  rw [e3]
  refine loop_keep (α := Nat × List Int) rfl (fun s => a.length - s.1)
    (fun s => s.1 ≤ a.length ∧ s.2.length = a.length + b.length + 1 ∧ WF s.2 ∧ val s.2 = val (a.take s.1) * val b)
    (fun s => [(2, .ref 2 0), (3, .ref 3 0), (4, .ref 4 0), (5, .vec 18 0 (a.length + b.length + 1)), (6, .imm (.int .i64 s.1))])
    (fun s => [(2, .box [.imm (.int .i64 x.sign), .imm (.slc 1 (a.map (.int .i64)))]), (3, .box [.imm (.int .i64 y.sign), .imm (.slc 1 (b.map (.int .i64)))]), (4, .box [.imm (.int .i64 0), .imm (.slc 1 [])]), (18, .arr (s.2.map (.int .i64)))])
    (0, List.replicate (a.length + b.length + 1) 0) ⟨Nat.zero_le _, by simp, ?_, by simp [val, val_replicate]⟩ (by simp only [↓reduceIte, reduceCtorEq, Nat.reduceEqDiff, Nat.reduceAdd, Nat.reduceMul, Nat.reduceSub, Nat.reduceLeDiff, Nat.reduceBEq, Int.reduceToNat, Int.reduceLE, Int.reduceLT, Int.reduceEq, Int.reduceNe, di0, di1, di2, di3, di4, di5, di6, di7, di8, di9, postX_ret, postX_normal, ex_some]) ?_
  · intro d hd; rw [List.mem_replicate] at hd; omega
  rintro ⟨i, o⟩ ⟨hi, ho, hwo, hv⟩ ih
  dsimp only at hi ho hwo hv
  simp only [res129, b129k0, b129k1, b129k2, b129k3, b129k4, ↓reduceIte, reduceCtorEq, Nat.reduceEqDiff, Nat.reduceAdd, Nat.reduceMul, Nat.reduceSub, Nat.reduceLeDiff, Nat.reduceBEq, Int.reduceToNat, Int.reduceLE, Int.reduceLT, Int.reduceEq, Int.reduceNe, di0, di1, di2, di3, di4, di5, di6, di7, di8, di9, postX_ret, postX_normal, ex_some]
  split
  · rename_i h
    have hai := wx.getD i
    have hV := take_succ_val a i (by omega)
    refine loop_keep (α := Nat × List Int × Int) rfl (fun s => b.length - s.1)
      (fun s => s.1 ≤ b.length ∧ s.2.1.length = a.length + b.length + 1 ∧ WF s.2.1 ∧ 0 ≤ s.2.2 ∧ s.2.2 < 1000000000 ∧
        val s.2.1 + s.2.2 * 1000000000 ^ (i + s.1) = val (a.take i) * val b + a.getD i 0 * 1000000000 ^ i * val (b.take s.1))
      (fun s => [(2, .ref 2 0), (3, .ref 3 0), (4, .ref 4 0), (5, .vec 18 0 (a.length + b.length + 1)), (6, .imm (.int .i64 i)), (7, .imm (.int .i64 s.2.2)), (8, .imm (.int .i64 s.1))])
      (fun s => [(2, .box [.imm (.int .i64 x.sign), .imm (.slc 1 (a.map (.int .i64)))]), (3, .box [.imm (.int .i64 y.sign), .imm (.slc 1 (b.map (.int .i64)))]), (4, .box [.imm (.int .i64 0), .imm (.slc 1 [])]), (18, .arr (s.2.1.map (.int .i64)))])
      (0, o, 0) ⟨Nat.zero_le _, ho, hwo, by dsimp only; omega, by dsimp only; omega, by simp [val, hv]⟩ (by simp only [↓reduceIte, reduceCtorEq, Nat.reduceEqDiff, Nat.reduceAdd, Nat.reduceMul, Nat.reduceSub, Nat.reduceLeDiff, Nat.reduceBEq, Int.reduceToNat, Int.reduceLE, Int.reduceLT, Int.reduceEq, Int.reduceNe, di0, di1, di2, di3, di4, di5, di6, di7, di8, di9, postX_ret, postX_normal, ex_some]) ?_
    rintro ⟨k, o', c⟩ ⟨hk, ho', hwo', hc0, hc1, hv'⟩ ih2
    dsimp only at hk ho' hwo' hc0 hc1 hv'
    simp only [res129, b129k0, b129k1, b129k2, b129k3, b129k4, ↓reduceIte, reduceCtorEq, Nat.reduceEqDiff, Nat.reduceAdd, Nat.reduceMul, Nat.reduceSub, Nat.reduceLeDiff, Nat.reduceBEq, Int.reduceToNat, Int.reduceLE, Int.reduceLT, Int.reduceEq, Int.reduceNe, di0, di1, di2, di3, di4, di5, di6, di7, di8, di9, postX_ret, postX_normal, ex_some]
    split
    · rename_i h2
      have hb := wy.getD k
      have ho1 := hwo'.getD (i + k)
      have hqr0 : 0 ≤ a.getD i 0 * b.getD k 0 := Int.mul_nonneg hai.1 hb.1
      have hqr1 : a.getD i 0 * b.getD k 0 ≤ 999999999 * 999999999 := Int.mul_le_mul (by omega) (by omega) hb.1 (by omega)
      have hV2 := take_succ_val b k (by omega)
      have hset := val_set o' (i + k) ((o'.getD (i + k) 0 + a.getD i 0 * b.getD k 0 + c) % 1000000000) (by omega)
      have w3 : IntKind.wrap .i64 ((i : Int) + k) = ((i + k : Nat) : Int) := by rw [wrap64 (by omega) (by omega)]; rfl
      simp only [w3, i_toNat, Nat.zero_add]
      generalize hp : o'.getD (i + k) 0 = p at *
      generalize hq : a.getD i 0 = q at *
      generalize hr : b.getD k 0 = r at *
      rw [wrap64 (n := q * r) (by omega) (by omega), wrap64 (n := p + q * r) (by omega) (by omega), wrap64 (n := p + q * r + c) (by omega) (by omega), (tdm (s := p + q * r + c) (by omega)).1, (tdm (s := p + q * r + c) (by omega)).2,
        wrap64 (n := (p + q * r + c) / 1000000000) (by omega) (by omega), wrap64 (n := (k : Int) + 1) (by omega) (by omega)]
      refine ⟨by omega, by omega, by omega, by omega, by omega, by omega, by omega, by omega, ?_⟩
      refine ih2 (k + 1, o'.set (i + k) ((p + q * r + c) % 1000000000), (p + q * r + c) / 1000000000) _ _ (by dsimp only; omega) ⟨by dsimp only; omega, by simp [ho'], hwo'.set (by omega) (by omega), by dsimp only; omega, by dsimp only; omega, ?_⟩ (by simp only [↓reduceIte, reduceCtorEq, Nat.reduceEqDiff, Nat.reduceAdd, Nat.reduceMul, Nat.reduceSub, Nat.reduceLeDiff, Nat.reduceBEq, Int.reduceToNat, Int.reduceLE, Int.reduceLT, Int.reduceEq, Int.reduceNe, di0, di1, di2, di3, di4, di5, di6, di7, di8, di9, postX_ret, postX_normal, ex_some]; rfl)
      dsimp only
      generalize hW : (1000000000 : Int) ^ (i + k) = W at *
      have ep : (1000000000 : Int) ^ (i + (k + 1)) = W * 1000000000 := by rw [← hW, ← Nat.add_assoc, Int.pow_succ]
      rw [hset, hV2, ep, Int.mul_add]
      have e1 : (p + q * r + c) / 1000000000 * (W * 1000000000) = ((p + q * r + c) / 1000000000 * 1000000000) * W := by
        rw [Int.mul_comm W, Int.mul_assoc]
      have e2 : q * 1000000000 ^ i * (r * 1000000000 ^ k) = (q * r) * W := by
        rw [← hW, Int.pow_add, Int.mul_assoc, Int.mul_assoc, ← Int.mul_assoc (1000000000 ^ i) r, Int.mul_comm (1000000000 ^ i) r, Int.mul_assoc r]
      have e4 : ((p + q * r + c) % 1000000000 - p) * W + ((p + q * r + c) / 1000000000 * 1000000000) * W = (q * r) * W + c * W := by
        rw [← Int.add_mul, ← Int.add_mul]
        congr 1
        omega
      omega
    · rename_i h2
      have hk : k = b.length := by omega
      subst hk
      have w3 : IntKind.wrap .i64 ((i : Int) + b.length) = ((i + b.length : Nat) : Int) := by rw [wrap64 (by omega) (by omega)]; rfl
      simp only [w3, i_toNat, Nat.zero_add]
      have ho1 := hwo'.getD (i + b.length)
      have hset := val_set o' (i + b.length) (o'.getD (i + b.length) 0 + c) (by omega)
      have hdl := digit_le hwo' (j := i + b.length) (by omega)
      have hall : val (a.take i) * val b + a.getD i 0 * 1000000000 ^ i * val (b.take b.length) = val (a.take (i + 1)) * val b := by
        rw [List.take_length, hV, Int.add_mul]
      rw [hall] at hv'
      have hlt : val (a.take (i + 1)) * val b < 1000000000 ^ (i + 1) * 1000000000 ^ b.length := by
        have l1 := val_lt (wx.take (i + 1))
        rw [List.length_take, Nat.min_eq_left (by omega)] at l1
        have l2 := val_lt wy
        have l3 := val_nonneg (wx.take (i + 1))
        have l4 := val_nonneg wy
        have l5 := Int.mul_le_mul_of_nonneg_left (Int.le_of_lt l2) l3
        have l6 := Int.mul_lt_mul_of_pos_right l1 (show (0 : Int) < 1000000000 ^ b.length from Int.pow_pos (by omega))
        omega
      generalize hp : o'.getD (i + b.length) 0 = p at *
      have hlim : p + c < 1000000000 := by
        rw [← Int.pow_add, show i + 1 + b.length = i + b.length + 1 by omega, Int.pow_succ] at hlt
        have hW : (0 : Int) < 1000000000 ^ (i + b.length) := Int.pow_pos (by omega)
        generalize (1000000000 : Int) ^ (i + b.length) = W at *
        have e1 : (p + c) * W < 1000000000 * W := by
          rw [Int.add_mul, Int.mul_comm 1000000000 W]; omega
        exact Int.lt_of_mul_lt_mul_right e1 (Int.le_of_lt hW)
      rw [wrap64 (n := p + c) (by omega) (by omega), wrap64 (n := (i : Int) + 1) (by omega) (by omega)]
      refine ⟨by omega, by omega, by omega, by omega, by omega, by omega, ?_⟩
      refine ih (i + 1, o'.set (i + b.length) (p + c)) _ _ (by dsimp only; omega) ⟨by dsimp only; omega, by simp [ho'], hwo'.set (by omega) (by omega), ?_⟩ (by simp only [↓reduceIte, reduceCtorEq, Nat.reduceEqDiff, Nat.reduceAdd, Nat.reduceMul, Nat.reduceSub, Nat.reduceLeDiff, Nat.reduceBEq, Int.reduceToNat, Int.reduceLE, Int.reduceLT, Int.reduceEq, Int.reduceNe, di0, di1, di2, di3, di4, di5, di6, di7, di8, di9, postX_ret, postX_normal, ex_some]; rfl)
      dsimp only
      rw [hset, ← hv', show p + c - p = c by omega]
  · rename_i h
    have hi : i = a.length := by omega
    subst hi
    rw [List.take_length] at hv
    simp only [res129, b129k0, b129k1, b129k2, b129k3, b129k4, ↓reduceIte, reduceCtorEq, Nat.reduceEqDiff, Nat.reduceAdd, Nat.reduceMul, Nat.reduceSub, Nat.reduceLeDiff, Nat.reduceBEq, Int.reduceToNat, Int.reduceLE, Int.reduceLT, Int.reduceEq, Int.reduceNe, di0, di1, di2, di3, di4, di5, di6, di7, di8, di9, postX_ret, postX_normal, ex_some, Nat.zero_add, ← ho, Nat.le_refl, List.take_length]
    have hs1 := sign_bd x
    have hs2 := sign_bd y
    have hxy : x.sign * y.sign = (x * y).sign := (Int.sign_mul x y).symm
    have hs3 := sign_bd (x * y)
    rw [wrap64 (n := x.sign * y.sign) (by omega) (by omega)]
    have hz : x.sign * y.sign = 0 → val o = 0 := by
      intro hz
      rw [hv, vx, vy]
      rcases Int.mul_eq_zero.1 hz with k | k
      · have : x = 0 := by omega
        subst this; simp
      · have : y = 0 := by omega
        subst this; simp
    refine calls_of (c_wideOf (by omega) hwo (by omega) hz) ?_
    have e : x.sign * y.sign * val o = x * y := by
      rw [hv, vx, vy]
      have h1 : x.sign * x.natAbs = x := by
        rcases sx with k | k | k
        · rw [k.1]; omega
        · rw [k.1]; omega
        · rw [k.1]; omega
      have h2 : y.sign * y.natAbs = y := by
        rcases sy with k | k | k
        · rw [k.1]; omega
        · rw [k.1]; omega
        · rw [k.1]; omega
      rw [Int.mul_assoc, ← Int.mul_assoc y.sign, Int.mul_comm y.sign, Int.mul_assoc, ← Int.mul_assoc, h1, h2]
    rw [e]
    simp only [res129, b129k0, b129k1, b129k2, b129k3, b129k4, wide, ↓reduceIte, reduceCtorEq, Nat.reduceEqDiff, Nat.reduceAdd, Nat.reduceMul, Nat.reduceSub, Nat.reduceLeDiff, Nat.reduceBEq, Int.reduceToNat, Int.reduceLE, Int.reduceLT, Int.reduceEq, Int.reduceNe, di0, di1, di2, di3, di4, di5, di6, di7, di8, di9, postX_ret, postX_normal, ex_some]
end Go.DI.Wd

/- Contracts: wide numbers divided. No condition. -/
set_option linter.unusedSimpArgs false
namespace Go.DI.Wd
open Go.Proofs Go.RowKit

theorem natpow_lt {n k : Nat} (h : (n : Int) < 1000000000 ^ k) : n < 1000000000 ^ k := by
  have e : ((1000000000 ^ k : Nat) : Int) = (1000000000 : Int) ^ k := by rw [Int.natCast_pow]; rfl
  rw [← e] at h
  exact Int.ofNat_lt.1 h
theorem digs_lt (n : Nat) : n < 1000000000 ^ (digs n).length := by
  have h := val_lt (wf_digs n)
  rw [val_digs] at h
  exact natpow_lt h
theorem digs_mul_le (m n : Nat) : (digs (m * n)).length ≤ (digs m).length + (digs n).length := by
  apply digs_length_le
  rw [Nat.pow_add]
  exact Nat.mul_lt_mul'' (digs_lt m) (digs_lt n)

theorem c_WideFloor {x y : Int} (hx : Few x) (hy : Few y) (h0 : 0 < y) : Contract Try.prog 162 [wide x, wide y] (wide (x / y)) := by
  unfold Few at hx hy
  have sx := sign_cases x
  have vx := val_digs x.natAbs
  have wx := wf_digs x.natAbs
  refine contract_run Try.func162 k162 rfl ?_
  simp only [wide, body162, b162, res162, b162k0, b162k1, b162k2, b162k3, b162k4, b162k5, b162k6, ↓reduceIte, reduceCtorEq, Nat.reduceEqDiff, Nat.reduceAdd, Nat.reduceMul, Nat.reduceSub, Nat.reduceLeDiff, Nat.reduceBEq, Int.reduceToNat, Int.reduceLE, Int.reduceLT, Int.reduceEq, Int.reduceNe, di0, di1, di2, di3, di4, di5, di6, di7, di8, di9, postX_ret, postX_normal, ex_some]
  split
  · rename_i h
    have : x = 0 := by omega
    subst this; simp [digs_zero]
  · rename_i h
    generalize ha : digs x.natAbs = a at *
    refine ⟨by omega, by omega, ?_⟩
    rw [wrap64 (n := (a.length : Int) - 1) (by omega) (by omega)]
    refine loop_keep (α := Nat × List Int × Nat) rfl (fun s => s.1)
      (fun s => s.1 ≤ a.length ∧ s.2.1.length = a.length ∧ WF s.2.1 ∧ (s.2.2 : Int) < y ∧ val (a.drop s.1) = val (s.2.1.drop s.1) * y + s.2.2)
      (fun s => [(2, .ref 2 0), (3, .ref 3 0), (4, .ref 4 0), (5, .vec 19 0 a.length), (6, .imm (.slc 1 ((digs s.2.2).map (.int .i64)))), (7, .imm (.int .i64 ((s.1 : Int) - 1)))])
      (fun s => [(2, .box [.imm (.int .i64 x.sign), .imm (.slc 1 (a.map (.int .i64)))]), (3, .box [.imm (.int .i64 y.sign), .imm (.slc 1 ((digs y.natAbs).map (.int .i64)))]), (4, .box [.imm (.int .i64 0), .imm (.slc 1 [])]), (19, .arr (s.2.1.map (.int .i64)))])
      (a.length, List.replicate a.length 0, 0) ⟨Nat.le_refl _, by simp, ?_, by simpa using h0, by simp [val]⟩ (by simp only [↓reduceIte, reduceCtorEq, Nat.reduceEqDiff, Nat.reduceAdd, Nat.reduceMul, Nat.reduceSub, Nat.reduceLeDiff, Nat.reduceBEq, Int.reduceToNat, Int.reduceLE, Int.reduceLT, Int.reduceEq, Int.reduceNe, di0, di1, di2, di3, di4, di5, di6, di7, di8, di9, postX_ret, postX_normal, ex_some, digs_zero]) ?_
    · intro d hd; rw [List.mem_replicate] at hd; omega
    rintro ⟨n, q, L⟩ ⟨hn, hq, hwq, hL, hv⟩ ih
    dsimp only at hn hq hwq hL hv
    cases n with
    | zero =>
      have e0 : ((0 : Nat) : Int) - 1 = -1 := rfl
      simp only [res162, b162k0, b162k1, b162k2, b162k3, b162k4, b162k5, b162k6, ↓reduceIte, reduceCtorEq, Nat.reduceEqDiff, Nat.reduceAdd, Nat.reduceMul, Nat.reduceSub, Nat.reduceLeDiff, Nat.reduceBEq, Int.reduceToNat, Int.reduceLE, Int.reduceLT, Int.reduceEq, Int.reduceNe, di0, di1, di2, di3, di4, di5, di6, di7, di8, di9, postX_ret, postX_normal, ex_some, e0]
      rw [if_neg (by omega)]
      simp only [List.drop_zero] at hv
      have hq0 := val_nonneg hwq
      have ex : (x.natAbs : Int) = val q * y + L := by rw [← vx, hv]
      simp only [res162, b162k0, b162k1, b162k2, b162k3, b162k4, b162k5, b162k6, ↓reduceIte, reduceCtorEq, Nat.reduceEqDiff, Nat.reduceAdd, Nat.reduceMul, Nat.reduceSub, Nat.reduceLeDiff, Nat.reduceBEq, Int.reduceToNat, Int.reduceLE, Int.reduceLT, Int.reduceEq, Int.reduceNe, di0, di1, di2, di3, di4, di5, di6, di7, di8, di9, postX_ret, postX_normal, ex_some, Nat.zero_add, ← hq, Nat.le_refl, List.take_length]
      have hqL : val q = 0 ∨ 0 < val q := by omega
      refine calls_of (c_wideOf (s := x.sign) (l := q) (by omega) hwq (by have := sign_bd x; omega) (by intro z; omega)) ?_
      simp only [res162, b162k0, b162k1, b162k2, b162k3, b162k4, b162k5, b162k6, wide, ↓reduceIte, reduceCtorEq, Nat.reduceEqDiff, Nat.reduceAdd, Nat.reduceMul, Nat.reduceSub, Nat.reduceLeDiff, Nat.reduceBEq, Int.reduceToNat, Int.reduceLE, Int.reduceLT, Int.reduceEq, Int.reduceNe, di0, di1, di2, di3, di4, di5, di6, di7, di8, di9, postX_ret, postX_normal, ex_some]
      have hLd : digs L = [] ↔ L = 0 := digs_nil
      split
      · rename_i h1
        have hx0 : x < 0 := by omega
        have hxs : x.sign = -1 := Int.sign_eq_neg_one_of_neg hx0
        have hL0 : L ≠ 0 := by intro z; have h2 := h1.2; rw [hLd.2 z] at h2; simp at h2
        refine calls_of (c_WideOf (by omega) (by omega)) ?_
        simp only [res162, b162k0, b162k1, b162k2, b162k3, b162k4, b162k5, b162k6, ↓reduceIte, reduceCtorEq, Nat.reduceEqDiff, Nat.reduceAdd, Nat.reduceMul, Nat.reduceSub, Nat.reduceLeDiff, Nat.reduceBEq, Int.reduceToNat, Int.reduceLE, Int.reduceLT, Int.reduceEq, Int.reduceNe, di0, di1, di2, di3, di4, di5, di6, di7, di8, di9, postX_ret, postX_normal, ex_some]
        have hfew : Few (x.sign * val q) := by
          unfold Few
          rw [hxs]
          have h6 := val_lt hwq
          have h5 : ((val q).toNat : Int) = val q := Int.toNat_of_nonneg hq0
          rw [← h5] at h6
          have := digs_length_le q.length (val q).toNat (natpow_lt h6)
          rw [show (-1 * val q).natAbs = (val q).toNat by omega]
          omega
        refine calls_of (c_WideSub hfew (few_of (z := 1) 1 (by omega) (by decide))) ?_
        simp only [res162, b162k0, b162k1, b162k2, b162k3, b162k4, b162k5, b162k6, wide, ↓reduceIte, reduceCtorEq, Nat.reduceEqDiff, Nat.reduceAdd, Nat.reduceMul, Nat.reduceSub, Nat.reduceLeDiff, Nat.reduceBEq, Int.reduceToNat, Int.reduceLE, Int.reduceLT, Int.reduceEq, Int.reduceNe, di0, di1, di2, di3, di4, di5, di6, di7, di8, di9, postX_ret, postX_normal, ex_some]
        have e : x.sign * val q - 1 = x / y := by
          rw [hxs]
          symm
          have e1 : x = y * (-1 * val q - 1) + (y - L) := by grind
          rw [e1, Int.mul_add_ediv_left _ _ (by omega), Int.ediv_eq_zero_of_lt (by omega) (by omega)]
          omega
        rw [e]
      · rename_i h1
        have e : x.sign * val q = x / y := by
          symm
          rcases Int.lt_or_le x 0 with hx0 | hx0
          · have hxs : x.sign = -1 := Int.sign_eq_neg_one_of_neg hx0
            have hL0 : L = 0 := by
              apply hLd.1
              apply List.eq_nil_of_length_eq_zero
              omega
            rw [hxs]
            have e1 : x = y * (-1 * val q) := by grind
            rw [e1, Int.mul_ediv_cancel_left _ (by omega)]
          · have hxs : x.sign = 1 := by omega
            rw [hxs]
            have e1 : x = y * (1 * val q) + L := by grind
            rw [e1, Int.mul_add_ediv_left _ _ (by omega), Int.ediv_eq_zero_of_lt (by omega) (by omega)]
            omega
        rw [e]
    | succ m =>
      have e1 : ((m + 1 : Nat) : Int) - 1 = m := by omega
      have hlL : (digs L).length ≤ (digs y.natAbs).length := digs_mono (by omega)
      have ham := wx.getD m
      have hdm := val_drop a m
      simp only [res162, b162k0, b162k1, b162k2, b162k3, b162k4, b162k5, b162k6, ↓reduceIte, reduceCtorEq, Nat.reduceEqDiff, Nat.reduceAdd, Nat.reduceMul, Nat.reduceSub, Nat.reduceLeDiff, Nat.reduceBEq, Int.reduceToNat, Int.reduceLE, Int.reduceLT, Int.reduceEq, Int.reduceNe, di0, di1, di2, di3, di4, di5, di6, di7, di8, di9, postX_ret, postX_normal, ex_some, e1]
      refine ⟨by omega, by omega, by omega, ?_⟩
      refine calls_of (c_trimmed (l := a.getD m 0 :: digs L) (by simp; omega)) ?_
      have hT : trim (a.getD m 0 :: digs L) = digs (a.getD m 0 + 1000000000 * L).toNat := by
        rw [trim_digs (WF.cons ham.1 ham.2 (wf_digs L))]
        simp only [val, val_digs]
      rw [hT]
      simp only [res162, b162k0, b162k1, b162k2, b162k3, b162k4, b162k5, b162k6, ↓reduceIte, reduceCtorEq, Nat.reduceEqDiff, Nat.reduceAdd, Nat.reduceMul, Nat.reduceSub, Nat.reduceLeDiff, Nat.reduceBEq, Int.reduceToNat, Int.reduceLE, Int.reduceLT, Int.reduceEq, Int.reduceNe, di0, di1, di2, di3, di4, di5, di6, di7, di8, di9, postX_ret, postX_normal, ex_some]
      have hT0 : 0 ≤ a.getD m 0 + 1000000000 * L := by omega
      have hTy : a.getD m 0 + 1000000000 * L < y * 1000000000 := by omega
      generalize hTT : a.getD m 0 + 1000000000 * (L : Int) = T at *
      have hTn : (T.toNat : Int) = T := Int.toNat_of_nonneg hT0
      have hfy : Few y := hy
      have hwy : Contract Try.prog 158 [.int .i64 1, .slc 1 ((digs y.natAbs).map (.int .i64))] (wide y) := by
        have := c_wideOf (s := 1) (l := digs y.natAbs) (by omega) (wf_digs _) (by decide) (by intro h; cases h)
        rw [val_digs, show (1 : Int) * (y.natAbs : Int) = y by omega] at this
        exact this
      have hfT : (digs T.toNat).length ≤ 100001 := by
        have := trimLen_le (a.getD m 0 :: digs L) (a.getD m 0 :: digs L).length
        have h2 : (trim (a.getD m 0 :: digs L)).length ≤ (a.getD m 0 :: digs L).length := by unfold trim; rw [List.length_take]; omega
        rw [hT] at h2
        simp at h2
        omega
      refine loop_keep (α := Int × Int) rfl (fun s => (s.2 - s.1).toNat)
        (fun s => 0 ≤ s.1 ∧ s.1 ≤ s.2 ∧ s.2 ≤ 999999999 ∧ y * s.1 ≤ T ∧ T < y * (s.2 + 1))
        (fun s => [(2, .ref 2 0), (3, .ref 3 0), (4, .ref 4 0), (5, .vec 19 0 a.length), (6, .imm (.slc 1 ((digs T.toNat).map (.int .i64)))), (7, .imm (.int .i64 m)), (8, .imm (.int .i64 s.1)), (9, .imm (.int .i64 s.2))])
        (fun s => [(2, .box [.imm (.int .i64 x.sign), .imm (.slc 1 (a.map (.int .i64)))]), (3, .box [.imm (.int .i64 y.sign), .imm (.slc 1 ((digs y.natAbs).map (.int .i64)))]), (4, .box [.imm (.int .i64 0), .imm (.slc 1 [])]), (19, .arr (q.map (.int .i64)))])
        (0, 999999999) ⟨by dsimp only; omega, by dsimp only; omega, by dsimp only; omega, by simpa using hT0, by simpa using hTy⟩ (by simp only [↓reduceIte, reduceCtorEq, Nat.reduceEqDiff, Nat.reduceAdd, Nat.reduceMul, Nat.reduceSub, Nat.reduceLeDiff, Nat.reduceBEq, Int.reduceToNat, Int.reduceLE, Int.reduceLT, Int.reduceEq, Int.reduceNe, di0, di1, di2, di3, di4, di5, di6, di7, di8, di9, postX_ret, postX_normal, ex_some]) ?_
      rintro ⟨lo, hi⟩ ⟨i1, i2, i3, i4, i5⟩ ih2
      dsimp only at i1 i2 i3 i4 i5
      simp only [res162, b162k0, b162k1, b162k2, b162k3, b162k4, b162k5, b162k6, ↓reduceIte, reduceCtorEq, Nat.reduceEqDiff, Nat.reduceAdd, Nat.reduceMul, Nat.reduceSub, Nat.reduceLeDiff, Nat.reduceBEq, Int.reduceToNat, Int.reduceLE, Int.reduceLT, Int.reduceEq, Int.reduceNe, di0, di1, di2, di3, di4, di5, di6, di7, di8, di9, postX_ret, postX_normal, ex_some]
      rw [wrap64 (n := lo + hi) (by omega) (by omega), wrap64 (n := lo + hi + 1) (by omega) (by omega), Int.tdiv_eq_ediv_of_nonneg (show 0 ≤ lo + hi + 1 by omega), wrap64 (n := (lo + hi + 1) / 2) (by omega) (by omega)]
      split
      · rename_i hlt
        generalize hmd : (lo + hi + 1) / 2 = md
        refine calls_of hwy ?_
        simp only [res162, b162k0, b162k1, b162k2, b162k3, b162k4, b162k5, b162k6, ↓reduceIte, reduceCtorEq, Nat.reduceEqDiff, Nat.reduceAdd, Nat.reduceMul, Nat.reduceSub, Nat.reduceLeDiff, Nat.reduceBEq, Int.reduceToNat, Int.reduceLE, Int.reduceLT, Int.reduceEq, Int.reduceNe, di0, di1, di2, di3, di4, di5, di6, di7, di8, di9, postX_ret, postX_normal, ex_some]
        refine calls_of (c_WideOf (by omega) (by omega)) ?_
        simp only [res162, b162k0, b162k1, b162k2, b162k3, b162k4, b162k5, b162k6, ↓reduceIte, reduceCtorEq, Nat.reduceEqDiff, Nat.reduceAdd, Nat.reduceMul, Nat.reduceSub, Nat.reduceLeDiff, Nat.reduceBEq, Int.reduceToNat, Int.reduceLE, Int.reduceLT, Int.reduceEq, Int.reduceNe, di0, di1, di2, di3, di4, di5, di6, di7, di8, di9, postX_ret, postX_normal, ex_some]
        refine calls_of (c_WideMul hfy (few_of 2 (by omega) (by omega))) ?_
        simp only [res162, b162k0, b162k1, b162k2, b162k3, b162k4, b162k5, b162k6, wide, ↓reduceIte, reduceCtorEq, Nat.reduceEqDiff, Nat.reduceAdd, Nat.reduceMul, Nat.reduceSub, Nat.reduceLeDiff, Nat.reduceBEq, Int.reduceToNat, Int.reduceLE, Int.reduceLT, Int.reduceEq, Int.reduceNe, di0, di1, di2, di3, di4, di5, di6, di7, di8, di9, postX_ret, postX_normal, ex_some]
        have hp0 : 0 ≤ y * md := Int.mul_nonneg (by omega) (by omega)
        have hpy : y * md ≤ y * 999999999 := Int.mul_le_mul_of_nonneg_left (by omega) (by omega)
        refine calls_of (c_cmpDigits (by
          rw [Int.natAbs_mul]
          have := digs_mul_le y.natAbs md.natAbs
          have := digs_length_le 1 md.natAbs (by omega)
          omega)) ?_
        have sg := sign_cases (((y * md).natAbs : Int) - T.toNat)
        simp only [res162, b162k0, b162k1, b162k2, b162k3, b162k4, b162k5, b162k6, ↓reduceIte, reduceCtorEq, Nat.reduceEqDiff, Nat.reduceAdd, Nat.reduceMul, Nat.reduceSub, Nat.reduceLeDiff, Nat.reduceBEq, Int.reduceToNat, Int.reduceLE, Int.reduceLT, Int.reduceEq, Int.reduceNe, di0, di1, di2, di3, di4, di5, di6, di7, di8, di9, postX_ret, postX_normal, ex_some]
        split
        · rename_i hc
          refine ih2 (md, hi) _ _ (by dsimp only; omega) ⟨by dsimp only; omega, by dsimp only; omega, i3, by dsimp only; omega, i5⟩ (by simp only [↓reduceIte, reduceCtorEq, Nat.reduceEqDiff, Nat.reduceAdd, Nat.reduceMul, Nat.reduceSub, Nat.reduceLeDiff, Nat.reduceBEq, Int.reduceToNat, Int.reduceLE, Int.reduceLT, Int.reduceEq, Int.reduceNe, di0, di1, di2, di3, di4, di5, di6, di7, di8, di9, postX_ret, postX_normal, ex_some])
        · rename_i hc
          rw [wrap64 (n := md - 1) (by omega) (by omega)]
          refine ih2 (lo, md - 1) _ _ (by dsimp only; omega) ⟨i1, by dsimp only; omega, by dsimp only; omega, i4, ?_⟩ (by simp only [↓reduceIte, reduceCtorEq, Nat.reduceEqDiff, Nat.reduceAdd, Nat.reduceMul, Nat.reduceSub, Nat.reduceLeDiff, Nat.reduceBEq, Int.reduceToNat, Int.reduceLE, Int.reduceLT, Int.reduceEq, Int.reduceNe, di0, di1, di2, di3, di4, di5, di6, di7, di8, di9, postX_ret, postX_normal, ex_some])
          dsimp only
          rw [show md - 1 + 1 = md by omega]
          omega
      · rename_i hge
        have hlh : lo = hi := by omega
        subst hlh
        have hp0 : 0 ≤ y * lo := Int.mul_nonneg (by omega) i1
        repeat (refine And.intro (by omega) ?_)
        refine calls_of hwy ?_
        simp only [res162, b162k0, b162k1, b162k2, b162k3, b162k4, b162k5, b162k6, ↓reduceIte, reduceCtorEq, Nat.reduceEqDiff, Nat.reduceAdd, Nat.reduceMul, Nat.reduceSub, Nat.reduceLeDiff, Nat.reduceBEq, Int.reduceToNat, Int.reduceLE, Int.reduceLT, Int.reduceEq, Int.reduceNe, di0, di1, di2, di3, di4, di5, di6, di7, di8, di9, postX_ret, postX_normal, ex_some]
        refine calls_of (c_WideOf (by omega) (by omega)) ?_
        simp only [res162, b162k0, b162k1, b162k2, b162k3, b162k4, b162k5, b162k6, ↓reduceIte, reduceCtorEq, Nat.reduceEqDiff, Nat.reduceAdd, Nat.reduceMul, Nat.reduceSub, Nat.reduceLeDiff, Nat.reduceBEq, Int.reduceToNat, Int.reduceLE, Int.reduceLT, Int.reduceEq, Int.reduceNe, di0, di1, di2, di3, di4, di5, di6, di7, di8, di9, postX_ret, postX_normal, ex_some]
        refine calls_of (c_WideMul hfy (few_of 2 (by omega) (by omega))) ?_
        simp only [res162, b162k0, b162k1, b162k2, b162k3, b162k4, b162k5, b162k6, wide, ↓reduceIte, reduceCtorEq, Nat.reduceEqDiff, Nat.reduceAdd, Nat.reduceMul, Nat.reduceSub, Nat.reduceLeDiff, Nat.reduceBEq, Int.reduceToNat, Int.reduceLE, Int.reduceLT, Int.reduceEq, Int.reduceNe, di0, di1, di2, di3, di4, di5, di6, di7, di8, di9, postX_ret, postX_normal, ex_some]
        refine calls_of (c_subDigits (wf_digs _) (wf_digs _) (by omega) (by rw [val_digs, val_digs]; omega)) ?_
        simp only [res162, b162k0, b162k1, b162k2, b162k3, b162k4, b162k5, b162k6, ↓reduceIte, reduceCtorEq, Nat.reduceEqDiff, Nat.reduceAdd, Nat.reduceMul, Nat.reduceSub, Nat.reduceLeDiff, Nat.reduceBEq, Int.reduceToNat, Int.reduceLE, Int.reduceLT, Int.reduceEq, Int.reduceNe, di0, di1, di2, di3, di4, di5, di6, di7, di8, di9, postX_ret, postX_normal, ex_some]
        rw [wrap64 (n := (m : Int) - 1) (by omega) (by omega), val_digs, val_digs]
        have eT : ((T.toNat : Int) - (y * lo).natAbs).toNat = (T - y * lo).toNat := by congr 1; omega
        rw [eT, Nat.zero_add]
        have hy5 : y * (lo + 1) = y * lo + y := by grind
        refine ih (m, q.set m lo, (T - y * lo).toNat) _ _ (by dsimp only; omega) ⟨by dsimp only; omega, by simp [hq], hwq.set (by omega) (by omega), by dsimp only; omega, ?_⟩ (by simp only [↓reduceIte, reduceCtorEq, Nat.reduceEqDiff, Nat.reduceAdd, Nat.reduceMul, Nat.reduceSub, Nat.reduceLeDiff, Nat.reduceBEq, Int.reduceToNat, Int.reduceLE, Int.reduceLT, Int.reduceEq, Int.reduceNe, di0, di1, di2, di3, di4, di5, di6, di7, di8, di9, postX_ret, postX_normal, ex_some])
        dsimp only
        have hs1 : (q.set m lo).getD m 0 = lo := by
          rw [List.getD_eq_getElem?_getD, List.getElem?_set_self (by omega)]; rfl
        have hs2 : (q.set m lo).drop (m + 1) = q.drop (m + 1) := List.drop_set_of_lt (by omega)
        rw [hdm, val_drop (q.set m lo) m, hs1, hs2, hv]
        have hTz : ((T - y * lo).toNat : Int) = T - y * lo := Int.toNat_of_nonneg (by omega)
        rw [hTz, ← hTT]
        grind
end Go.DI.Wd

/- Contracts: the greatest common divisor of wide numbers; ratios. No condition. -/
set_option linter.unusedSimpArgs false
namespace Go.DI.Wd
open Go.Proofs Go.RowKit

/-- A fraction as the program has it. -/
def ratio (q : Rat) : IV := .agg [.int .i64 q.num.sign, .slc 1 ((digs q.num.natAbs).map (.int .i64)), .int .i64 (q.den : Int).sign, .slc 1 ((digs (q.den : Int).natAbs).map (.int .i64))]

theorem c_wideSize {z : Int} : Contract Try.prog 169 [wide z] (wide z.natAbs) := by
  have sz := sign_cases z
  refine contract_run Try.func169 k169 rfl ?_
  simp only [wide, body169, b169, res169, b169k0, ↓reduceIte, reduceCtorEq, Nat.reduceEqDiff, Nat.reduceAdd, Nat.reduceMul, Nat.reduceSub, Nat.reduceLeDiff, Nat.reduceBEq, Int.reduceToNat, Int.reduceLE, Int.reduceLT, Int.reduceEq, Int.reduceNe, di0, di1, di2, di3, di4, di5, di6, di7, di8, di9, postX_ret, postX_normal, ex_some]
  split
  · rename_i h
    refine calls_of c_WideNeg ?_
    have e : -z = (z.natAbs : Int) := by omega
    rw [e]
    simp only [wide, res169, b169k0, ↓reduceIte, reduceCtorEq, Nat.reduceEqDiff, Nat.reduceAdd, Nat.reduceMul, Nat.reduceSub, Nat.reduceLeDiff, Nat.reduceBEq, Int.reduceToNat, Int.reduceLE, Int.reduceLT, Int.reduceEq, Int.reduceNe, di0, di1, di2, di3, di4, di5, di6, di7, di8, di9, postX_ret, postX_normal, ex_some]
  · rename_i h
    have e : z = (z.natAbs : Int) := by omega
    generalize z.natAbs = n at *
    subst e
    rfl

theorem few_le {x y : Int} (h : x.natAbs ≤ y.natAbs) (hy : Few y) : Few x := Nat.le_trans (digs_mono h) hy

theorem c_wideGcd {x y : Int} (hx : Few x) (hy : Few y) : Contract Try.prog 161 [wide x, wide y] (wide (Int.gcd x y : Int)) := by
  refine contract_run Try.func161 k161 rfl ?_
  simp only [wide, body161, b161, res161, b161k0, b161k1, ↓reduceIte, reduceCtorEq, Nat.reduceEqDiff, Nat.reduceAdd, Nat.reduceMul, Nat.reduceSub, Nat.reduceLeDiff, Nat.reduceBEq, Int.reduceToNat, Int.reduceLE, Int.reduceLT, Int.reduceEq, Int.reduceNe, di0, di1, di2, di3, di4, di5, di6, di7, di8, di9, postX_ret, postX_normal, ex_some]
  refine calls_of c_wideSize ?_; simp only [wide, ratio, res161, b161k0, b161k1, ↓reduceIte, reduceCtorEq, Nat.reduceEqDiff, Nat.reduceAdd, Nat.reduceMul, Nat.reduceSub, Nat.reduceLeDiff, Nat.reduceBEq, Int.reduceToNat, Int.reduceLE, Int.reduceLT, Int.reduceEq, Int.reduceNe, di0, di1, di2, di3, di4, di5, di6, di7, di8, di9, postX_ret, postX_normal, ex_some]
  refine calls_of c_wideSize ?_; simp only [wide, ratio, res161, b161k0, b161k1, ↓reduceIte, reduceCtorEq, Nat.reduceEqDiff, Nat.reduceAdd, Nat.reduceMul, Nat.reduceSub, Nat.reduceLeDiff, Nat.reduceBEq, Int.reduceToNat, Int.reduceLE, Int.reduceLT, Int.reduceEq, Int.reduceNe, di0, di1, di2, di3, di4, di5, di6, di7, di8, di9, postX_ret, postX_normal, ex_some]
  refine loop_keep (α := Nat × Nat) rfl (fun s => s.2)
    (fun s => Few s.1 ∧ Few s.2 ∧ Nat.gcd s.1 s.2 = Int.gcd x y)
    (fun s => [(2, .ref 2 0), (3, .ref 3 0), (4, .ref 4 0)])
    (fun s => [(2, .box [.imm (.int .i64 (s.1 : Int).sign), .imm (.slc 1 ((digs (s.1 : Int).natAbs).map (.int .i64)))]), (3, .box [.imm (.int .i64 (s.2 : Int).sign), .imm (.slc 1 ((digs (s.2 : Int).natAbs).map (.int .i64)))]), (4, .box [.imm (.int .i64 0), .imm (.slc 1 [])])])
    (x.natAbs, y.natAbs) ⟨hx, hy, rfl⟩ (by simp only [↓reduceIte, reduceCtorEq, Nat.reduceEqDiff, Nat.reduceAdd, Nat.reduceMul, Nat.reduceSub, Nat.reduceLeDiff, Nat.reduceBEq, Int.reduceToNat, Int.reduceLE, Int.reduceLT, Int.reduceEq, Int.reduceNe, di0, di1, di2, di3, di4, di5, di6, di7, di8, di9, postX_ret, postX_normal, ex_some]) ?_
  rintro ⟨a, b⟩ ⟨ha, hb, hg⟩ ih
  dsimp only at ha hb hg
  have sb := sign_cases (b : Int)
  simp only [res161, b161k0, b161k1, ↓reduceIte, reduceCtorEq, Nat.reduceEqDiff, Nat.reduceAdd, Nat.reduceMul, Nat.reduceSub, Nat.reduceLeDiff, Nat.reduceBEq, Int.reduceToNat, Int.reduceLE, Int.reduceLT, Int.reduceEq, Int.reduceNe, di0, di1, di2, di3, di4, di5, di6, di7, di8, di9, postX_ret, postX_normal, ex_some]
  refine calls_of c_WideSign ?_; simp only [wide, ratio, res161, b161k0, b161k1, ↓reduceIte, reduceCtorEq, Nat.reduceEqDiff, Nat.reduceAdd, Nat.reduceMul, Nat.reduceSub, Nat.reduceLeDiff, Nat.reduceBEq, Int.reduceToNat, Int.reduceLE, Int.reduceLT, Int.reduceEq, Int.reduceNe, di0, di1, di2, di3, di4, di5, di6, di7, di8, di9, postX_ret, postX_normal, ex_some]
  split
  · rename_i h
    have hb0 : b = 0 := by omega
    subst hb0
    rw [← hg]
    simp
  · rename_i h
    have hb0 : 0 < (b : Int) := by omega
    have hd : ((a : Int) / b).natAbs ≤ (a : Int).natAbs := by
      have := Int.ediv_le_self (b : Int) (show 0 ≤ (a : Int) by omega)
      have := Int.ediv_nonneg (show 0 ≤ (a : Int) by omega) (show 0 ≤ (b : Int) by omega)
      omega
    have hd2 : (a : Int) / b * b ≤ a := Int.ediv_mul_le _ (by omega)
    have hd3 : 0 ≤ (a : Int) / b * b := Int.mul_nonneg (Int.ediv_nonneg (by omega) (by omega)) (by omega)
    refine calls_of (c_WideFloor ha hb hb0) ?_; simp only [wide, ratio, res161, b161k0, b161k1, ↓reduceIte, reduceCtorEq, Nat.reduceEqDiff, Nat.reduceAdd, Nat.reduceMul, Nat.reduceSub, Nat.reduceLeDiff, Nat.reduceBEq, Int.reduceToNat, Int.reduceLE, Int.reduceLT, Int.reduceEq, Int.reduceNe, di0, di1, di2, di3, di4, di5, di6, di7, di8, di9, postX_ret, postX_normal, ex_some]
    refine calls_of (c_WideMul (few_le hd ha) hb) ?_; simp only [wide, ratio, res161, b161k0, b161k1, ↓reduceIte, reduceCtorEq, Nat.reduceEqDiff, Nat.reduceAdd, Nat.reduceMul, Nat.reduceSub, Nat.reduceLeDiff, Nat.reduceBEq, Int.reduceToNat, Int.reduceLE, Int.reduceLT, Int.reduceEq, Int.reduceNe, di0, di1, di2, di3, di4, di5, di6, di7, di8, di9, postX_ret, postX_normal, ex_some]
    refine calls_of (c_WideSub ha (few_le (by omega) ha)) ?_; simp only [wide, ratio, res161, b161k0, b161k1, ↓reduceIte, reduceCtorEq, Nat.reduceEqDiff, Nat.reduceAdd, Nat.reduceMul, Nat.reduceSub, Nat.reduceLeDiff, Nat.reduceBEq, Int.reduceToNat, Int.reduceLE, Int.reduceLT, Int.reduceEq, Int.reduceNe, di0, di1, di2, di3, di4, di5, di6, di7, di8, di9, postX_ret, postX_normal, ex_some]
    have e : (a : Int) - a / b * b = ((a % b : Nat) : Int) := by
      have := Int.ediv_mul_add_emod (a : Int) b
      omega
    rw [e]
    have hlt : a % b < b := Nat.mod_lt _ (by omega)
    refine ih (b, a % b) _ _ hlt ⟨hb, few_le (by dsimp only; omega) hb, ?_⟩ (by simp only [↓reduceIte, reduceCtorEq, Nat.reduceEqDiff, Nat.reduceAdd, Nat.reduceMul, Nat.reduceSub, Nat.reduceLeDiff, Nat.reduceBEq, Int.reduceToNat, Int.reduceLE, Int.reduceLT, Int.reduceEq, Int.reduceNe, di0, di1, di2, di3, di4, di5, di6, di7, di8, di9, postX_ret, postX_normal, ex_some])
    dsimp only
    rw [← hg, Nat.gcd_comm, ← Nat.gcd_rec, Nat.gcd_comm]

theorem div_gcd (n d : Int) (h : d ≠ 0) : 0 < (Int.gcd n d : Int) := by
  have := Int.gcd_pos_of_ne_zero_right n h
  omega

/-- The parts of a quotient. -/
theorem divInt_parts {n d : Int} (h : 0 < d) : (Rat.divInt n d).num = n / (Int.gcd n d : Int) ∧ ((Rat.divInt n d).den : Int) = d / (Int.gcd n d : Int) := by
  rw [Rat.num_divInt, Rat.den_divInt, if_neg (by omega), Int.sign_eq_one_of_pos h, Int.one_mul, Int.gcd_comm d n]
  refine ⟨rfl, ?_⟩
  rw [Int.natCast_ediv]
  congr 1
  omega

theorem few_one : Few 1 := few_of 1 (by omega) (by decide)

theorem ediv_natAbs_le (n g : Int) (hg : 0 < g) (hd : g ∣ n) : (n / g).natAbs ≤ n.natAbs := by
  obtain ⟨k, rfl⟩ := hd
  rw [Int.mul_ediv_cancel_left _ (by omega), Int.natAbs_mul]
  exact Nat.le_mul_of_pos_left _ (by omega)

theorem c_RatioMake {n d : Int} (hn : Few n) (hd : Few d) (h0 : d ≠ 0) : Contract Try.prog 131 [wide n, wide d] (ratio (Rat.divInt n d)) := by
  have sd := sign_cases d
  have key : ∀ (n d : Int), Few n → Few d → 0 < d →
      run Try.prog b131k1 [] (d131.post (ratio (Rat.divInt n d))) (mkS [(2, .ref 2 0), (3, .ref 3 0), (4, .ref 4 0)]
      [(2, .box [.imm (.int .i64 n.sign), .imm (.slc 1 ((digs n.natAbs).map (.int .i64)))]), (3, .box [.imm (.int .i64 d.sign), .imm (.slc 1 ((digs d.natAbs).map (.int .i64)))]), (4, .box [.imm (.int .i64 0), .imm (.slc 1 []), .imm (.int .i64 0), .imm (.slc 1 [])])]) := by
    intro n d hn hd h0
    simp only [res131, b131k0, b131k1, ↓reduceIte, reduceCtorEq, Nat.reduceEqDiff, Nat.reduceAdd, Nat.reduceMul, Nat.reduceSub, Nat.reduceLeDiff, Nat.reduceBEq, Int.reduceToNat, Int.reduceLE, Int.reduceLT, Int.reduceEq, Int.reduceNe, di0, di1, di2, di3, di4, di5, di6, di7, di8, di9, postX_ret, postX_normal, ex_some]
    refine calls_of (c_wideGcd hn hd) ?_; simp only [wide, ratio, res131, b131k0, b131k1, ↓reduceIte, reduceCtorEq, Nat.reduceEqDiff, Nat.reduceAdd, Nat.reduceMul, Nat.reduceSub, Nat.reduceLeDiff, Nat.reduceBEq, Int.reduceToNat, Int.reduceLE, Int.reduceLT, Int.reduceEq, Int.reduceNe, di0, di1, di2, di3, di4, di5, di6, di7, di8, di9, postX_ret, postX_normal, ex_some]
    refine calls_of (c_WideOf (by omega) (by omega)) ?_; simp only [wide, ratio, res131, b131k0, b131k1, ↓reduceIte, reduceCtorEq, Nat.reduceEqDiff, Nat.reduceAdd, Nat.reduceMul, Nat.reduceSub, Nat.reduceLeDiff, Nat.reduceBEq, Int.reduceToNat, Int.reduceLE, Int.reduceLT, Int.reduceEq, Int.reduceNe, di0, di1, di2, di3, di4, di5, di6, di7, di8, di9, postX_ret, postX_normal, ex_some]
    have hg0 := div_gcd n d (by omega)
    have hgn : (Int.gcd n d : Int) ∣ n := Int.gcd_dvd_left n d
    have hgd : (Int.gcd n d : Int) ∣ d := Int.gcd_dvd_right n d
    obtain ⟨p1, p2⟩ := divInt_parts (n := n) h0
    rw [p1, p2]
    generalize (Int.gcd n d : Int) = g at *
    have hgf : Few g := few_le (by have := Int.le_of_dvd h0 hgd; omega) hd
    refine calls_of (c_WideCmp hgf few_one) ?_; simp only [wide, ratio, res131, b131k0, b131k1, ↓reduceIte, reduceCtorEq, Nat.reduceEqDiff, Nat.reduceAdd, Nat.reduceMul, Nat.reduceSub, Nat.reduceLeDiff, Nat.reduceBEq, Int.reduceToNat, Int.reduceLE, Int.reduceLT, Int.reduceEq, Int.reduceNe, di0, di1, di2, di3, di4, di5, di6, di7, di8, di9, postX_ret, postX_normal, ex_some]
    have sg := sign_cases (g - 1)
    split
    · rename_i h1
      have : g = 1 := by omega
      subst this
      simp only [Int.ediv_one]
    · rename_i h1
      refine calls_of (c_WideFloor hn hgf hg0) ?_; simp only [wide, ratio, res131, b131k0, b131k1, ↓reduceIte, reduceCtorEq, Nat.reduceEqDiff, Nat.reduceAdd, Nat.reduceMul, Nat.reduceSub, Nat.reduceLeDiff, Nat.reduceBEq, Int.reduceToNat, Int.reduceLE, Int.reduceLT, Int.reduceEq, Int.reduceNe, di0, di1, di2, di3, di4, di5, di6, di7, di8, di9, postX_ret, postX_normal, ex_some]
      refine calls_of (c_WideFloor hd hgf hg0) ?_; simp only [wide, ratio, res131, b131k0, b131k1, ↓reduceIte, reduceCtorEq, Nat.reduceEqDiff, Nat.reduceAdd, Nat.reduceMul, Nat.reduceSub, Nat.reduceLeDiff, Nat.reduceBEq, Int.reduceToNat, Int.reduceLE, Int.reduceLT, Int.reduceEq, Int.reduceNe, di0, di1, di2, di3, di4, di5, di6, di7, di8, di9, postX_ret, postX_normal, ex_some]
  refine contract_run Try.func131 k131 rfl ?_
  simp only [wide, body131, b131, res131, ↓reduceIte, reduceCtorEq, Nat.reduceEqDiff, Nat.reduceAdd, Nat.reduceMul, Nat.reduceSub, Nat.reduceLeDiff, Nat.reduceBEq, Int.reduceToNat, Int.reduceLE, Int.reduceLT, Int.reduceEq, Int.reduceNe, di0, di1, di2, di3, di4, di5, di6, di7, di8, di9, postX_ret, postX_normal, ex_some]
  refine calls_of c_WideSign ?_; simp only [wide, ratio, res131, ↓reduceIte, reduceCtorEq, Nat.reduceEqDiff, Nat.reduceAdd, Nat.reduceMul, Nat.reduceSub, Nat.reduceLeDiff, Nat.reduceBEq, Int.reduceToNat, Int.reduceLE, Int.reduceLT, Int.reduceEq, Int.reduceNe, di0, di1, di2, di3, di4, di5, di6, di7, di8, di9, postX_ret, postX_normal, ex_some]
  split
  · rename_i h
    refine calls_of c_WideNeg ?_; simp only [wide, ratio, res131, ↓reduceIte, reduceCtorEq, Nat.reduceEqDiff, Nat.reduceAdd, Nat.reduceMul, Nat.reduceSub, Nat.reduceLeDiff, Nat.reduceBEq, Int.reduceToNat, Int.reduceLE, Int.reduceLT, Int.reduceEq, Int.reduceNe, di0, di1, di2, di3, di4, di5, di6, di7, di8, di9, postX_ret, postX_normal, ex_some]
    refine calls_of c_WideNeg ?_; simp only [wide, ratio, res131, ↓reduceIte, reduceCtorEq, Nat.reduceEqDiff, Nat.reduceAdd, Nat.reduceMul, Nat.reduceSub, Nat.reduceLeDiff, Nat.reduceBEq, Int.reduceToNat, Int.reduceLE, Int.reduceLT, Int.reduceEq, Int.reduceNe, di0, di1, di2, di3, di4, di5, di6, di7, di8, di9, postX_ret, postX_normal, ex_some]
    have := key (-n) (-d) (few_neg hn) (few_neg hd) (by omega)
    rw [Rat.neg_divInt_neg] at this
    exact this
  · rename_i h
    exact key n d hn hd (by omega)

theorem c_RatioOf {n d : Int} (n1 : -9223372036854775807 ≤ n) (n2 : n ≤ 9223372036854775807) (d1 : -9223372036854775807 ≤ d) (d2 : d ≤ 9223372036854775807) (h0 : d ≠ 0) :
    Contract Try.prog 130 [.int .i64 n, .int .i64 d] (ratio (Rat.divInt n d)) := by
  refine contract_run Try.func130 k130 rfl ?_
  simp only [body130, b130, res130, ↓reduceIte, reduceCtorEq, Nat.reduceEqDiff, Nat.reduceAdd, Nat.reduceMul, Nat.reduceSub, Nat.reduceLeDiff, Nat.reduceBEq, Int.reduceToNat, Int.reduceLE, Int.reduceLT, Int.reduceEq, Int.reduceNe, di0, di1, di2, di3, di4, di5, di6, di7, di8, di9, postX_ret, postX_normal, ex_some]
  refine calls_of (c_WideOf n1 n2) ?_; simp only [res130, ↓reduceIte, reduceCtorEq, Nat.reduceEqDiff, Nat.reduceAdd, Nat.reduceMul, Nat.reduceSub, Nat.reduceLeDiff, Nat.reduceBEq, Int.reduceToNat, Int.reduceLE, Int.reduceLT, Int.reduceEq, Int.reduceNe, di0, di1, di2, di3, di4, di5, di6, di7, di8, di9, postX_ret, postX_normal, ex_some]
  refine calls_of (c_WideOf d1 d2) ?_; simp only [res130, ↓reduceIte, reduceCtorEq, Nat.reduceEqDiff, Nat.reduceAdd, Nat.reduceMul, Nat.reduceSub, Nat.reduceLeDiff, Nat.reduceBEq, Int.reduceToNat, Int.reduceLE, Int.reduceLT, Int.reduceEq, Int.reduceNe, di0, di1, di2, di3, di4, di5, di6, di7, di8, di9, postX_ret, postX_normal, ex_some]
  refine calls_of (c_RatioMake (few_of 3 (by omega) (by omega)) (few_of 3 (by omega) (by omega)) h0) ?_; simp only [wide, ratio, res130, ↓reduceIte, reduceCtorEq, Nat.reduceEqDiff, Nat.reduceAdd, Nat.reduceMul, Nat.reduceSub, Nat.reduceLeDiff, Nat.reduceBEq, Int.reduceToNat, Int.reduceLE, Int.reduceLT, Int.reduceEq, Int.reduceNe, di0, di1, di2, di3, di4, di5, di6, di7, di8, di9, postX_ret, postX_normal, ex_some]

theorem c_RatioInt {n : Int} (n1 : -9223372036854775807 ≤ n) (n2 : n ≤ 9223372036854775807) : Contract Try.prog 74 [.int .i64 n] (ratio (n : Rat)) := by
  refine contract_run Try.func74 k74 rfl ?_
  simp only [body74, b74, res74, ↓reduceIte, reduceCtorEq, Nat.reduceEqDiff, Nat.reduceAdd, Nat.reduceMul, Nat.reduceSub, Nat.reduceLeDiff, Nat.reduceBEq, Int.reduceToNat, Int.reduceLE, Int.reduceLT, Int.reduceEq, Int.reduceNe, di0, di1, di2, di3, di4, di5, di6, di7, di8, di9, postX_ret, postX_normal, ex_some]
  refine calls_of (c_WideOf n1 n2) ?_; simp only [wide, ratio, res74, ↓reduceIte, reduceCtorEq, Nat.reduceEqDiff, Nat.reduceAdd, Nat.reduceMul, Nat.reduceSub, Nat.reduceLeDiff, Nat.reduceBEq, Int.reduceToNat, Int.reduceLE, Int.reduceLT, Int.reduceEq, Int.reduceNe, di0, di1, di2, di3, di4, di5, di6, di7, di8, di9, postX_ret, postX_normal, ex_some]
  refine calls_of (c_WideOf (by omega) (by omega)) ?_; simp only [wide, ratio, res74, ↓reduceIte, reduceCtorEq, Nat.reduceEqDiff, Nat.reduceAdd, Nat.reduceMul, Nat.reduceSub, Nat.reduceLeDiff, Nat.reduceBEq, Int.reduceToNat, Int.reduceLE, Int.reduceLT, Int.reduceEq, Int.reduceNe, di0, di1, di2, di3, di4, di5, di6, di7, di8, di9, postX_ret, postX_normal, ex_some]
  rfl

/-- Have its parts few digits? -/
def Fw (k : Nat) (q : Rat) : Prop := q.num.natAbs < 1000000000 ^ k ∧ q.den < 1000000000 ^ k

theorem Fw.num {k : Nat} {q : Rat} (h : Fw k q) (hk : k ≤ 100000) : Few q.num := few_of k hk h.1
theorem Fw.den {k : Nat} {q : Rat} (h : Fw k q) (hk : k ≤ 100000) : Few (q.den : Int) := few_of k hk h.2
theorem Fw.le {k m : Nat} {q : Rat} (h : Fw k q) (hk : k ≤ m) : Fw m q := by
  have := Nat.pow_le_pow_right (show 1000000000 > 0 by omega) hk
  exact ⟨Nat.lt_of_lt_of_le h.1 this, Nat.lt_of_lt_of_le h.2 this⟩

theorem fw_divInt {k : Nat} {n d : Int} (h1 : n.natAbs < 1000000000 ^ k) (h2 : d.natAbs < 1000000000 ^ k) (h0 : d ≠ 0) : Fw k (Rat.divInt n d) := by
  have key : ∀ (n d : Int), n.natAbs < 1000000000 ^ k → d.natAbs < 1000000000 ^ k → 0 < d → Fw k (Rat.divInt n d) := by
    intro n d h1 h2 h0
    obtain ⟨p1, p2⟩ := divInt_parts (n := n) h0
    have hg0 := div_gcd n d (by omega)
    have a1 := ediv_natAbs_le n _ hg0 (Int.gcd_dvd_left n d)
    have a2 := ediv_natAbs_le d _ hg0 (Int.gcd_dvd_right n d)
    exact ⟨by rw [p1]; omega, by omega⟩
  rcases Int.lt_or_lt_of_ne h0 with h | h
  · have := key (-n) (-d) (by omega) (by omega) (by omega)
    rwa [Rat.neg_divInt_neg] at this
  · exact key n d h1 h2 h

theorem fw_int {k : Nat} {n : Int} (h1 : n.natAbs < 1000000000 ^ k) (hk : 0 < k) : Fw k (n : Rat) := by
  refine ⟨h1, ?_⟩
  rw [Rat.den_intCast]
  exact Nat.one_lt_pow (by omega) (by omega)

theorem pow_mul_lt {a b i j : Nat} (h1 : a < 1000000000 ^ i) (h2 : b < 1000000000 ^ j) : a * b < 1000000000 ^ (i + j) := by
  rw [Nat.pow_add]; exact Nat.mul_lt_mul'' h1 h2

theorem den_pos (q : Rat) : (0 : Int) < q.den := by have := q.den_pos; omega

theorem mul_parts (p q : Rat) : Rat.divInt (p.num * q.num) ((p.den : Int) * q.den) = p * q := by
  rw [Rat.mul_def', ← Rat.divInt_ofNat, Int.natCast_mul]
theorem few_mul {i j : Nat} {a b : Int} (h1 : a.natAbs < 1000000000 ^ i) (h2 : b.natAbs < 1000000000 ^ j) (h : i + j ≤ 100000) : Few (a * b) := by
  apply few_of (i + j) h
  rw [Int.natAbs_mul]
  exact pow_mul_lt h1 h2
theorem c_RatioMul {p q : Rat} {i j : Nat} (hp : Fw i p) (hq : Fw j q) (h : i + j ≤ 90000) : Contract Try.prog 73 [ratio p, ratio q] (ratio (p * q)) := by
  have dp := den_pos p
  have dq := den_pos q
  refine contract_run Try.func73 k73 rfl ?_
  simp only [ratio, body73, b73, res73, ↓reduceIte, reduceCtorEq, Nat.reduceEqDiff, Nat.reduceAdd, Nat.reduceMul, Nat.reduceSub, Nat.reduceLeDiff, Nat.reduceBEq, Int.reduceToNat, Int.reduceLE, Int.reduceLT, Int.reduceEq, Int.reduceNe, di0, di1, di2, di3, di4, di5, di6, di7, di8, di9, postX_ret, postX_normal, ex_some]
  refine calls_of (c_WideMul (hp.num (by omega)) (hq.num (by omega))) ?_; simp only [wide, ratio, res73, ↓reduceIte, reduceCtorEq, Nat.reduceEqDiff, Nat.reduceAdd, Nat.reduceMul, Nat.reduceSub, Nat.reduceLeDiff, Nat.reduceBEq, Int.reduceToNat, Int.reduceLE, Int.reduceLT, Int.reduceEq, Int.reduceNe, di0, di1, di2, di3, di4, di5, di6, di7, di8, di9, postX_ret, postX_normal, ex_some]
  refine calls_of (c_WideMul (hp.den (by omega)) (hq.den (by omega))) ?_; simp only [wide, ratio, res73, ↓reduceIte, reduceCtorEq, Nat.reduceEqDiff, Nat.reduceAdd, Nat.reduceMul, Nat.reduceSub, Nat.reduceLeDiff, Nat.reduceBEq, Int.reduceToNat, Int.reduceLE, Int.reduceLT, Int.reduceEq, Int.reduceNe, di0, di1, di2, di3, di4, di5, di6, di7, di8, di9, postX_ret, postX_normal, ex_some]
  refine calls_of (c_RatioMake (n := p.num * q.num) (d := (p.den : Int) * q.den) (few_mul hp.1 hq.1 (by omega)) (few_mul (a := (p.den : Int)) (b := (q.den : Int)) hp.2 hq.2 (by omega)) (Int.ne_of_gt (Int.mul_pos dp dq))) ?_; simp only [wide, ratio, res73, ↓reduceIte, reduceCtorEq, Nat.reduceEqDiff, Nat.reduceAdd, Nat.reduceMul, Nat.reduceSub, Nat.reduceLeDiff, Nat.reduceBEq, Int.reduceToNat, Int.reduceLE, Int.reduceLT, Int.reduceEq, Int.reduceNe, di0, di1, di2, di3, di4, di5, di6, di7, di8, di9, postX_ret, postX_normal, ex_some]
  rw [mul_parts]

/-- -1, 0 or 1. -/
def cmpR (p q : Rat) : Int := (p.num * q.den - q.num * p.den).sign
theorem c_RatioCmp {p q : Rat} {i j : Nat} (hp : Fw i p) (hq : Fw j q) (h : i + j ≤ 90000) : Contract Try.prog 71 [ratio p, ratio q] (.int .i64 (cmpR p q)) := by
  have k1 : (p.num * q.den).natAbs < 1000000000 ^ (i + j) := by rw [Int.natAbs_mul]; exact pow_mul_lt hp.1 hq.2
  have k2 : (q.num * p.den).natAbs < 1000000000 ^ (i + j) := by rw [Int.natAbs_mul, Nat.add_comm i j]; exact pow_mul_lt hq.1 hp.2
  refine contract_run Try.func71 k71 rfl ?_
  simp only [ratio, body71, b71, res71, ↓reduceIte, reduceCtorEq, Nat.reduceEqDiff, Nat.reduceAdd, Nat.reduceMul, Nat.reduceSub, Nat.reduceLeDiff, Nat.reduceBEq, Int.reduceToNat, Int.reduceLE, Int.reduceLT, Int.reduceEq, Int.reduceNe, di0, di1, di2, di3, di4, di5, di6, di7, di8, di9, postX_ret, postX_normal, ex_some]
  refine calls_of (c_WideMul (hp.num (by omega)) (hq.den (by omega))) ?_; simp only [wide, ratio, res71, ↓reduceIte, reduceCtorEq, Nat.reduceEqDiff, Nat.reduceAdd, Nat.reduceMul, Nat.reduceSub, Nat.reduceLeDiff, Nat.reduceBEq, Int.reduceToNat, Int.reduceLE, Int.reduceLT, Int.reduceEq, Int.reduceNe, di0, di1, di2, di3, di4, di5, di6, di7, di8, di9, postX_ret, postX_normal, ex_some]
  refine calls_of (c_WideMul (hq.num (by omega)) (hp.den (by omega))) ?_; simp only [wide, ratio, res71, ↓reduceIte, reduceCtorEq, Nat.reduceEqDiff, Nat.reduceAdd, Nat.reduceMul, Nat.reduceSub, Nat.reduceLeDiff, Nat.reduceBEq, Int.reduceToNat, Int.reduceLE, Int.reduceLT, Int.reduceEq, Int.reduceNe, di0, di1, di2, di3, di4, di5, di6, di7, di8, di9, postX_ret, postX_normal, ex_some]
  refine calls_of (c_WideCmp (few_of _ (by omega) k1) (few_of _ (by omega) k2)) ?_; simp only [wide, ratio, res71, ↓reduceIte, reduceCtorEq, Nat.reduceEqDiff, Nat.reduceAdd, Nat.reduceMul, Nat.reduceSub, Nat.reduceLeDiff, Nat.reduceBEq, Int.reduceToNat, Int.reduceLE, Int.reduceLT, Int.reduceEq, Int.reduceNe, di0, di1, di2, di3, di4, di5, di6, di7, di8, di9, postX_ret, postX_normal, ex_some]
  rfl

end Go.DI.Wd

/- Contracts: whole numbers: divisors, fractions, slices. No condition. -/
set_option linter.unusedSimpArgs false
namespace Go.DI.Wd
open Go.Proofs Go.RowKit

theorem c_Gcd {a b : Int} (a1 : -9223372036854775807 ≤ a) (a2 : a ≤ 9223372036854775807) (b1 : -9223372036854775807 ≤ b) (b2 : b ≤ 9223372036854775807) :
    Contract Try.prog 127 [.int .i64 a, .int .i64 b] (.int .i64 (Int.gcd a b)) := by
  refine contract_run Try.func127 k127 rfl ?_
  simp only [body127, b127, res127, b127k0, b127k1, ↓reduceIte, reduceCtorEq, Nat.reduceEqDiff, Nat.reduceAdd, Nat.reduceMul, Nat.reduceSub, Nat.reduceLeDiff, Nat.reduceBEq, Int.reduceToNat, Int.reduceLE, Int.reduceLT, Int.reduceEq, Int.reduceNe, di0, di1, di2, di3, di4, di5, di6, di7, di8, di9, postX_ret, postX_normal, ex_some]
  refine loop_keep (α := Int × Int) rfl (fun s => s.2.natAbs)
    (fun s => s.1.natAbs ≤ 9223372036854775807 ∧ s.2.natAbs ≤ 9223372036854775807 ∧ Int.gcd s.1 s.2 = Int.gcd a b)
    (fun s => [(0, .imm (.int .i64 s.1)), (1, .imm (.int .i64 s.2))]) (fun _ => []) (a, b) ⟨by dsimp only; omega, by dsimp only; omega, rfl⟩ (by simp only [↓reduceIte, reduceCtorEq, Nat.reduceEqDiff, Nat.reduceAdd, Nat.reduceMul, Nat.reduceSub, Nat.reduceLeDiff, Nat.reduceBEq, Int.reduceToNat, Int.reduceLE, Int.reduceLT, Int.reduceEq, Int.reduceNe, di0, di1, di2, di3, di4, di5, di6, di7, di8, di9, postX_ret, postX_normal, ex_some]) ?_
  rintro ⟨x, y⟩ ⟨hx, hy, hg⟩ ih
  dsimp only at hx hy hg
  simp only [res127, b127k0, b127k1, ↓reduceIte, reduceCtorEq, Nat.reduceEqDiff, Nat.reduceAdd, Nat.reduceMul, Nat.reduceSub, Nat.reduceLeDiff, Nat.reduceBEq, Int.reduceToNat, Int.reduceLE, Int.reduceLT, Int.reduceEq, Int.reduceNe, di0, di1, di2, di3, di4, di5, di6, di7, di8, di9, postX_ret, postX_normal, ex_some]
  split
  · rename_i h
    subst h
    refine calls_of (c_Size (by omega) (by omega)) ?_; simp only [res127, b127k0, b127k1, ↓reduceIte, reduceCtorEq, Nat.reduceEqDiff, Nat.reduceAdd, Nat.reduceMul, Nat.reduceSub, Nat.reduceLeDiff, Nat.reduceBEq, Int.reduceToNat, Int.reduceLE, Int.reduceLT, Int.reduceEq, Int.reduceNe, di0, di1, di2, di3, di4, di5, di6, di7, di8, di9, postX_ret, postX_normal, ex_some]
    rw [← hg, Int.gcd_zero_right]
  · rename_i h
    have hm : (x.tmod y).natAbs = x.natAbs % y.natAbs := Int.natAbs_tmod x y
    have hlt : x.natAbs % y.natAbs < y.natAbs := Nat.mod_lt _ (by omega)
    refine ⟨h, ih (y, x.tmod y) _ _ (by dsimp only; omega) ⟨hy, by dsimp only; omega, ?_⟩ (by simp only [↓reduceIte, reduceCtorEq, Nat.reduceEqDiff, Nat.reduceAdd, Nat.reduceMul, Nat.reduceSub, Nat.reduceLeDiff, Nat.reduceBEq, Int.reduceToNat, Int.reduceLE, Int.reduceLT, Int.reduceEq, Int.reduceNe, di0, di1, di2, di3, di4, di5, di6, di7, di8, di9, postX_ret, postX_normal, ex_some])⟩
    dsimp only
    rw [← hg]
    unfold Int.gcd
    rw [hm, Nat.gcd_comm, ← Nat.gcd_rec, Nat.gcd_comm]

theorem c_Lowest {n d : Int} (n1 : -9223372036854775807 ≤ n) (n2 : n ≤ 9223372036854775807) (d1 : 0 < d) (d2 : d ≤ 9223372036854775807) :
    Contract Try.prog 126 [.int .i64 n, .int .i64 d] (.agg [.int .i64 (n / (Int.gcd n d : Int)), .int .i64 (d / (Int.gcd n d : Int))]) := by
  refine contract_run Try.func126 k126 rfl ?_
  simp only [body126, b126, res126, b126k0, ↓reduceIte, reduceCtorEq, Nat.reduceEqDiff, Nat.reduceAdd, Nat.reduceMul, Nat.reduceSub, Nat.reduceLeDiff, Nat.reduceBEq, Int.reduceToNat, Int.reduceLE, Int.reduceLT, Int.reduceEq, Int.reduceNe, di0, di1, di2, di3, di4, di5, di6, di7, di8, di9, postX_ret, postX_normal, ex_some]
  refine calls_of (c_Gcd (by omega) (by omega) (by omega) (by omega)) ?_; simp only [res126, b126k0, ↓reduceIte, reduceCtorEq, Nat.reduceEqDiff, Nat.reduceAdd, Nat.reduceMul, Nat.reduceSub, Nat.reduceLeDiff, Nat.reduceBEq, Int.reduceToNat, Int.reduceLE, Int.reduceLT, Int.reduceEq, Int.reduceNe, di0, di1, di2, di3, di4, di5, di6, di7, di8, di9, postX_ret, postX_normal, ex_some]
  have hg0 := div_gcd n d (by omega)
  have hgn : (Int.gcd n d : Int) ∣ n := Int.gcd_dvd_left n d
  have hgd : (Int.gcd n d : Int) ∣ d := Int.gcd_dvd_right n d
  rw [if_neg (by omega)]
  generalize (Int.gcd n d : Int) = g at *
  have a1 := ediv_natAbs_le n g hg0 hgn
  have a2 := ediv_natAbs_le d g hg0 hgd
  have e1 : n.tdiv g = n / g := Int.tdiv_eq_ediv_of_dvd hgn
  have e2 : d.tdiv g = d / g := Int.tdiv_eq_ediv_of_dvd hgd
  rw [e1, e2, wrap64 (by omega) (by omega), wrap64 (by omega) (by omega)]
  repeat (refine And.intro (by omega) ?_)
  first | rfl | trace_state

theorem c_IsLowest {n d : Int} (n1 : -9223372036854775807 ≤ n) (n2 : n ≤ 9223372036854775807) (d1 : -9223372036854775807 ≤ d) (d2 : d ≤ 9223372036854775807) :
    Contract Try.prog 69 [.agg [.int .i64 n, .int .i64 d]] (.bool (decide (0 < d ∧ (Int.gcd n d : Int) = 1))) := by
  refine contract_run Try.func69 k69 rfl ?_
  simp only [body69, b69, res69, ↓reduceIte, reduceCtorEq, Nat.reduceEqDiff, Nat.reduceAdd, Nat.reduceMul, Nat.reduceSub, Nat.reduceLeDiff, Nat.reduceBEq, Int.reduceToNat, Int.reduceLE, Int.reduceLT, Int.reduceEq, Int.reduceNe, di0, di1, di2, di3, di4, di5, di6, di7, di8, di9, postX_ret, postX_normal, ex_some]
  split
  · rename_i h
    refine calls_of (c_Gcd (by omega) (by omega) (by omega) (by omega)) ?_; simp only [res69, ↓reduceIte, reduceCtorEq, Nat.reduceEqDiff, Nat.reduceAdd, Nat.reduceMul, Nat.reduceSub, Nat.reduceLeDiff, Nat.reduceBEq, Int.reduceToNat, Int.reduceLE, Int.reduceLT, Int.reduceEq, Int.reduceNe, di0, di1, di2, di3, di4, di5, di6, di7, di8, di9, postX_ret, postX_normal, ex_some]
    simp [h]
  · rename_i h
    simp [h]

theorem c_IsSmall {n d : Int} : Contract Try.prog 70 [.agg [.int .i64 n, .int .i64 d]] (.bool (decide ((-1000000000 ≤ n ∧ n ≤ 1000000000) ∧ (1 ≤ d ∧ d ≤ 1000000000)))) := by
  refine contract_run Try.func70 k70 rfl ?_
  simp only [body70, b70, res70, ↓reduceIte, reduceCtorEq, Nat.reduceEqDiff, Nat.reduceAdd, Nat.reduceMul, Nat.reduceSub, Nat.reduceLeDiff, Nat.reduceBEq, Int.reduceToNat, Int.reduceLE, Int.reduceLT, Int.reduceEq, Int.reduceNe, di0, di1, di2, di3, di4, di5, di6, di7, di8, di9, postX_ret, postX_normal, ex_some]
  refine calls_of c_Within ?_; simp only [res70, ↓reduceIte, reduceCtorEq, Nat.reduceEqDiff, Nat.reduceAdd, Nat.reduceMul, Nat.reduceSub, Nat.reduceLeDiff, Nat.reduceBEq, Int.reduceToNat, Int.reduceLE, Int.reduceLT, Int.reduceEq, Int.reduceNe, di0, di1, di2, di3, di4, di5, di6, di7, di8, di9, postX_ret, postX_normal, ex_some]
  split
  · rename_i h
    refine calls_of c_Within ?_; simp only [res70, ↓reduceIte, reduceCtorEq, Nat.reduceEqDiff, Nat.reduceAdd, Nat.reduceMul, Nat.reduceSub, Nat.reduceLeDiff, Nat.reduceBEq, Int.reduceToNat, Int.reduceLE, Int.reduceLT, Int.reduceEq, Int.reduceNe, di0, di1, di2, di3, di4, di5, di6, di7, di8, di9, postX_ret, postX_normal, ex_some]
    simp [h]
  · rename_i h
    simp [h]

theorem eq_of_getD {α : Type} (d : α) : ∀ {a b : List α}, a.length = b.length → (∀ i, i < a.length → a.getD i d = b.getD i d) → a = b
  | [], [], _, _ => rfl
  | [], _ :: _, h, _ => by cases h
  | _ :: _, [], h, _ => by cases h
  | x :: a, y :: b, h, k => by
    have h0 : x = y := by simpa using k 0 (by simp)
    rw [h0, eq_of_getD d (a := a) (b := b) (by simpa using h) (fun i hi => by have := k (i + 1) (by simpa using hi); simpa using this)]

theorem c_Ints {a b : List Int} (ha : a.length ≤ 1000000000000) : Contract Try.prog 46 [.slc 1 (a.map (.int .i64)), .slc 1 (b.map (.int .i64))] (.bool (decide (a = b))) := by
  refine contract_run Try.func46 k46 rfl ?_
  simp only [body46, b46, res46, b46k0, b46k1, b46k2, b46k3, ↓reduceIte, reduceCtorEq, Nat.reduceEqDiff, Nat.reduceAdd, Nat.reduceMul, Nat.reduceSub, Nat.reduceLeDiff, Nat.reduceBEq, Int.reduceToNat, Int.reduceLE, Int.reduceLT, Int.reduceEq, Int.reduceNe, di0, di1, di2, di3, di4, di5, di6, di7, di8, di9, postX_ret, postX_normal, ex_some]
  split
  · rename_i hl
    have hl : a.length = b.length := by omega
    refine loop_keep (α := Nat) rfl (fun i => a.length - i) (fun i => i ≤ a.length ∧ ∀ j, j < i → a.getD j 0 = b.getD j 0)
      (fun i => [(0, .imm (.slc 1 (a.map (.int .i64)))), (1, .imm (.slc 1 (b.map (.int .i64)))), (5, .imm (.int .i64 i))]) (fun _ => []) 0 ⟨Nat.zero_le _, fun j hj => by omega⟩ (by simp only [↓reduceIte, reduceCtorEq, Nat.reduceEqDiff, Nat.reduceAdd, Nat.reduceMul, Nat.reduceSub, Nat.reduceLeDiff, Nat.reduceBEq, Int.reduceToNat, Int.reduceLE, Int.reduceLT, Int.reduceEq, Int.reduceNe, di0, di1, di2, di3, di4, di5, di6, di7, di8, di9, postX_ret, postX_normal, ex_some] <;> rfl) ?_
    intro i ⟨hi, he⟩ ih
    simp only [res46, b46k0, b46k1, b46k2, b46k3, ↓reduceIte, reduceCtorEq, Nat.reduceEqDiff, Nat.reduceAdd, Nat.reduceMul, Nat.reduceSub, Nat.reduceLeDiff, Nat.reduceBEq, Int.reduceToNat, Int.reduceLE, Int.reduceLT, Int.reduceEq, Int.reduceNe, di0, di1, di2, di3, di4, di5, di6, di7, di8, di9, postX_ret, postX_normal, ex_some]
    split
    · rename_i h
      repeat (refine And.intro (by omega) ?_)
      split
      · rename_i h2
        rw [wrap64 (by omega) (by omega)]
        refine ih (i + 1) _ _ (by omega) ⟨by omega, fun j hj => ?_⟩ (by simp only [↓reduceIte, reduceCtorEq, Nat.reduceEqDiff, Nat.reduceAdd, Nat.reduceMul, Nat.reduceSub, Nat.reduceLeDiff, Nat.reduceBEq, Int.reduceToNat, Int.reduceLE, Int.reduceLT, Int.reduceEq, Int.reduceNe, di0, di1, di2, di3, di4, di5, di6, di7, di8, di9, postX_ret, postX_normal, ex_some] <;> rfl)
        by_cases e : j = i
        · subst e; exact h2
        · exact he j (by omega)
      · rename_i h2
        have : ¬ a = b := fun k => h2 (by rw [k])
        rw [decide_eq_false this]
    · rename_i h
      have : a = b := eq_of_getD 0 hl (fun j hj => he j (by omega))
      rw [decide_eq_true this]
  · rename_i hl
    have : ¬ a = b := fun k => hl (by rw [k])
    rw [decide_eq_false this]

end Go.DI.Wd


/- Contracts: tables and flows as strings, in the reference. No condition. -/
import Derived.Test.YtaphhpphfffnfaaGreatDoorLfzg
set_option linter.unusedSimpArgs false
set_option maxRecDepth 100000
namespace Go.DI
open Go.Proofs Go.RowKit Go.Lib Lk

theorem lim_big {n : Nat} (h : n ≤ 1000000000000) : n ≤ maxLen := by
  have : maxLen = 9223372036854775807 := rfl
  omega
def rowsTo (rows : List (List Int)) (i : Nat) : ByteArray := bs (Lib.join ((rows.take i).map rowW) [59])
theorem join_snoc (c : UInt8) (y : List UInt8) : ∀ (l : List (List UInt8)), l ≠ [] → Lib.join (l ++ [y]) [c] = Lib.join l [c] ++ c :: y
  | [], h => absurd rfl h
  | [x], _ => by simp [Lib.join, List.intercalate]
  | x :: z :: l, _ => by
    rw [List.cons_append, List.cons_append, join_cons, join_cons, ← List.cons_append, join_snoc c y (z :: l) (by simp), List.append_assoc, List.cons_append]
theorem rowsTo_succ {rows : List (List Int)} {i : Nat} (h : i < rows.length) : rowsTo rows (i + 1) = (if i = 0 then bs [] else rowsTo rows i ++ bs [59]) ++ bs (rowW (rows.getD i default)) := by
  unfold rowsTo
  rw [take_snoc (d := default) h, List.map_append]
  by_cases h0 : i = 0
  · subst h0
    rw [if_pos rfl]
    simp [Lib.join, List.intercalate, bs_append]
  · have hne : (rows.take i).map rowW ≠ [] := by
      intro e
      have := congrArg List.length e
      rw [List.length_map, List.length_take, List.length_nil] at this
      omega
    rw [if_neg h0, show List.map rowW [rows.getD i default] = [rowW (rows.getD i default)] from rfl, join_snoc _ _ _ hne, bs_append, bs_append, List.append_assoc]
    rfl
theorem rowsTo_len {rows : List (List Int)} (h : RowsB rows) (i : Nat) : (rowsTo rows i).size ≤ 67000 := by
  have := join_len (c := 59) (B := 66) (l := (rows.take i).map rowW) (fun w hw => by
    obtain ⟨r, hr, rfl⟩ := List.mem_map.1 hw
    exact rowW_len (h.row r (List.mem_of_mem_take hr)))
  have h2 := h.len
  have h3 := List.length_take_le' i rows
  rw [List.length_map] at this
  unfold rowsTo
  rw [bs_size]
  omega
theorem rowW_three (a b c : Int) : rowW [a, b, c] = itoa a ++ 32 :: (itoa b ++ 32 :: itoa c) := by
  unfold rowW
  simp [Lib.join, List.intercalate]
theorem row_three (q : ByteArray) (a b c : Int) : q ++ itoaB a ++ ⟨#[32]⟩ ++ itoaB b ++ ⟨#[32]⟩ ++ itoaB c = q ++ bs (rowW [a, b, c]) := by
  rw [← bs_data q, itoaB_bs, itoaB_bs, itoaB_bs, show (⟨#[32]⟩ : ByteArray) = bs [32] from rfl, bs_append, bs_append, bs_append, bs_append, bs_append, bs_append, rowW_three]
  congr 1
  simp
theorem flR_at {l : List Flow} {i : Nat} (h : i < l.length) : (l.map flR).getD i default = flR (l.getD i default) := by
  rw [List.getD_eq_getElem?_getD, List.getD_eq_getElem?_getD, List.getElem?_map, List.getElem?_eq_getElem h]
  rfl
theorem r_FormatFlows {l : List Flow} (h : FlB l) (hl : l.length ≤ 1000) : Contract Tryz.prog 39 [.slc 3 (l.map flI)] (.str (fmtF l)) := by
  have hr := fl_rows h hl
  have dec := fun {n : Int} (h : In64 n) => c_Decimal h.1 h.2
  refine contract_run Tryz.func39 k39 rfl ?_
  simp only [body39, b39, res39, b39k0, b39k1, b39k2, b39k3, lkE, ↓reduceIte, reduceCtorEq, Nat.reduceEqDiff, Nat.reduceAdd, Nat.reduceMul, Nat.reduceSub, Nat.reduceLeDiff, Nat.reduceBEq, Int.reduceToNat, Int.reduceLE, Int.reduceLT, Int.reduceEq, Int.reduceNe, di]
  refine loop_keep (α := Nat) rfl (fun i => l.length - i) (fun i => i ≤ l.length)
    (fun i => [(0, .imm (.slc 3 (l.map flI))), (3, .imm (.str (rowsTo (l.map flR) i))), (4, .imm (.int .i64 i))])
    (fun _ => []) 0 (Nat.zero_le _) (by simp only [lkE, ↓reduceIte, reduceCtorEq, Nat.reduceEqDiff, Nat.reduceAdd, Nat.reduceMul, Nat.reduceSub, Nat.reduceLeDiff, Nat.reduceBEq, Int.reduceToNat, Int.reduceLE, Int.reduceLT, Int.reduceEq, Int.reduceNe, di] <;> rfl) ?_
  intro i hi ih
  simp only [res39, b39k0, b39k1, b39k2, b39k3, lkE, ↓reduceIte, reduceCtorEq, Nat.reduceEqDiff, Nat.reduceAdd, Nat.reduceMul, Nat.reduceSub, Nat.reduceLeDiff, Nat.reduceBEq, Int.reduceToNat, Int.reduceLE, Int.reduceLT, Int.reduceEq, Int.reduceNe, di]
  split
  · rename_i hlt0
    have hlt : i < l.length := by omega
    have hz := rowsTo_len hr i
    have hs := rowsTo_succ (rows := l.map flR) (i := i) (by rw [List.length_map]; exact hlt)
    rw [flR_at hlt, show flR (l.getD i default) = [(l.getD i default).up, (l.getD i default).low, (l.getD i default).ex] from rfl] at hs
    have hb := h (l.getD i default) (by rw [List.getD_eq_getElem?_getD, List.getElem?_eq_getElem hlt]; exact List.getElem_mem hlt)
    have ih' := fun S R => ih (i + 1) S R (by omega) (by omega)
    have l1 := itoa_len hb.1
    have l2 := itoa_len hb.2.1
    have l3 := itoa_len hb.2.2
    have z1 : ByteArray.size ⟨#[32]⟩ = 1 := rfl
    have z2 : ByteArray.size ⟨#[59]⟩ = 1 := rfl
    by_cases h0 : i = 0
    · rw [if_pos h0] at hs
      rw [if_neg (by omega)]
      have hq : rowsTo (l.map flR) i = bs [] := by rw [h0]; rfl
      refine ⟨hlt0, ?_⟩
      refine calls_of (dec hb.1) ?_; simp only [lkE, res39, b39k0, b39k1, b39k2, b39k3, ↓reduceIte, reduceCtorEq, Nat.reduceEqDiff, Nat.reduceAdd, Nat.reduceMul, Nat.reduceSub, Nat.reduceLeDiff, Nat.reduceBEq, Int.reduceToNat, Int.reduceLE, Int.reduceLT, Int.reduceEq, Int.reduceNe, di]
      refine ⟨lim_big (by simp only [itoaB_bs, size_append, bs_size, z1, z2]; omega), lim_big (by simp only [itoaB_bs, size_append, bs_size, z1, z2]; omega), hlt0, ?_⟩
      refine calls_of (dec hb.2.1) ?_; simp only [lkE, res39, b39k0, b39k1, b39k2, b39k3, ↓reduceIte, reduceCtorEq, Nat.reduceEqDiff, Nat.reduceAdd, Nat.reduceMul, Nat.reduceSub, Nat.reduceLeDiff, Nat.reduceBEq, Int.reduceToNat, Int.reduceLE, Int.reduceLT, Int.reduceEq, Int.reduceNe, di]
      refine ⟨lim_big (by simp only [itoaB_bs, size_append, bs_size, z1, z2]; omega), lim_big (by simp only [itoaB_bs, size_append, bs_size, z1, z2]; omega), hlt0, ?_⟩
      refine calls_of (dec hb.2.2) ?_; simp only [lkE, res39, b39k0, b39k1, b39k2, b39k3, ↓reduceIte, reduceCtorEq, Nat.reduceEqDiff, Nat.reduceAdd, Nat.reduceMul, Nat.reduceSub, Nat.reduceLeDiff, Nat.reduceBEq, Int.reduceToNat, Int.reduceLE, Int.reduceLT, Int.reduceEq, Int.reduceNe, di]
      refine ⟨lim_big (by simp only [itoaB_bs, size_append, bs_size, z1, z2]; omega), ?_⟩
      rw [row_three, hq, wrapS (n := (i : Int) + 1) (by omega) (by omega)]
      refine ih' _ _ ?_
      rw [hs]
      simp only [lkE, ↓reduceIte, reduceCtorEq, Nat.reduceEqDiff, Nat.reduceAdd, Nat.reduceMul, Nat.reduceSub, Nat.reduceLeDiff, Nat.reduceBEq, Int.reduceToNat, Int.reduceLE, Int.reduceLT, Int.reduceEq, Int.reduceNe, di] <;> rfl
    · rw [if_neg h0] at hs
      rw [if_pos (by omega)]
      refine ⟨lim_big (by simp only [itoaB_bs, size_append, bs_size, z1, z2]; omega), hlt0, ?_⟩
      refine calls_of (dec hb.1) ?_; simp only [lkE, res39, b39k0, b39k1, b39k2, b39k3, ↓reduceIte, reduceCtorEq, Nat.reduceEqDiff, Nat.reduceAdd, Nat.reduceMul, Nat.reduceSub, Nat.reduceLeDiff, Nat.reduceBEq, Int.reduceToNat, Int.reduceLE, Int.reduceLT, Int.reduceEq, Int.reduceNe, di]
      refine ⟨lim_big (by simp only [itoaB_bs, size_append, bs_size, z1, z2]; omega), lim_big (by simp only [itoaB_bs, size_append, bs_size, z1, z2]; omega), hlt0, ?_⟩
      refine calls_of (dec hb.2.1) ?_; simp only [lkE, res39, b39k0, b39k1, b39k2, b39k3, ↓reduceIte, reduceCtorEq, Nat.reduceEqDiff, Nat.reduceAdd, Nat.reduceMul, Nat.reduceSub, Nat.reduceLeDiff, Nat.reduceBEq, Int.reduceToNat, Int.reduceLE, Int.reduceLT, Int.reduceEq, Int.reduceNe, di]
      refine ⟨lim_big (by simp only [itoaB_bs, size_append, bs_size, z1, z2]; omega), lim_big (by simp only [itoaB_bs, size_append, bs_size, z1, z2]; omega), hlt0, ?_⟩
      refine calls_of (dec hb.2.2) ?_; simp only [lkE, res39, b39k0, b39k1, b39k2, b39k3, ↓reduceIte, reduceCtorEq, Nat.reduceEqDiff, Nat.reduceAdd, Nat.reduceMul, Nat.reduceSub, Nat.reduceLeDiff, Nat.reduceBEq, Int.reduceToNat, Int.reduceLE, Int.reduceLT, Int.reduceEq, Int.reduceNe, di]
      refine ⟨lim_big (by simp only [itoaB_bs, size_append, bs_size, z1, z2]; omega), ?_⟩
      rw [row_three, wrapS (n := (i : Int) + 1) (by omega) (by omega)]
      refine ih' _ _ ?_
      rw [hs]
      simp only [lkE, ↓reduceIte, reduceCtorEq, Nat.reduceEqDiff, Nat.reduceAdd, Nat.reduceMul, Nat.reduceSub, Nat.reduceLeDiff, Nat.reduceBEq, Int.reduceToNat, Int.reduceLE, Int.reduceLT, Int.reduceEq, Int.reduceNe, di] <;> rfl
  · rename_i hge
    obtain rfl : i = l.length := by omega
    have e : rowsTo (l.map flR) l.length = fmtF l := by
      unfold rowsTo fmtF fmtRows
      rw [List.take_of_length_le (by rw [List.length_map]; exact Nat.le_refl _)]
    rw [e]
theorem r_SameList {a b : List Flow} (ha : a.length ≤ 1000000000000) : Contract Tryz.prog 40 [.slc 3 (a.map flI), .slc 3 (b.map flI)] (.bool (decide (a = b))) := by
  refine contract_run Tryz.func40 k40 rfl ?_
  simp only [body40, b40, res40, b40k0, b40k1, b40k2, b40k3, lkE, ↓reduceIte, reduceCtorEq, Nat.reduceEqDiff, Nat.reduceAdd, Nat.reduceMul, Nat.reduceSub, Nat.reduceLeDiff, Nat.reduceBEq, Int.reduceToNat, Int.reduceLE, Int.reduceLT, Int.reduceEq, Int.reduceNe, di]
  split
  · rename_i hl
    have hl : a.length = b.length := by omega
    refine loop_keep (α := Nat) rfl (fun i => a.length - i) (fun i => i ≤ a.length ∧ ∀ j, j < i → a.getD j default = b.getD j default)
      (fun i => [(0, .imm (.slc 3 (a.map flI))), (1, .imm (.slc 3 (b.map flI))), (5, .imm (.int .i64 i))]) (fun _ => []) 0 ⟨Nat.zero_le _, fun j hj => by omega⟩ (by simp only [lkE, ↓reduceIte, reduceCtorEq, Nat.reduceEqDiff, Nat.reduceAdd, Nat.reduceMul, Nat.reduceSub, Nat.reduceLeDiff, Nat.reduceBEq, Int.reduceToNat, Int.reduceLE, Int.reduceLT, Int.reduceEq, Int.reduceNe, di] <;> rfl) ?_
    intro i ⟨hi, he⟩ ih
    simp only [res40, b40k0, b40k1, b40k2, b40k3, lkE, ↓reduceIte, reduceCtorEq, Nat.reduceEqDiff, Nat.reduceAdd, Nat.reduceMul, Nat.reduceSub, Nat.reduceLeDiff, Nat.reduceBEq, Int.reduceToNat, Int.reduceLE, Int.reduceLT, Int.reduceEq, Int.reduceNe, di]
    split
    · rename_i h
      repeat (refine And.intro (by omega) ?_)
      split
      · rename_i h2
        have : ¬ a = b := fun k => by subst k; simp at h2
        rw [decide_eq_false this]
      · rename_i h2
        have h3 : a.getD i default = b.getD i default := by
          simp only [Bool.not_eq_false, Bool.and_eq_true, decide_eq_true_eq] at h2
          generalize a.getD i default = x at h2 ⊢
          generalize b.getD i default = y at h2 ⊢
          cases x; cases y
          simp only [Flow.mk.injEq]
          exact h2
        rw [wrapS (by omega) (by omega)]
        refine ih (i + 1) _ _ (by omega) ⟨by omega, fun j hj => ?_⟩ (by simp only [lkE, ↓reduceIte, reduceCtorEq, Nat.reduceEqDiff, Nat.reduceAdd, Nat.reduceMul, Nat.reduceSub, Nat.reduceLeDiff, Nat.reduceBEq, Int.reduceToNat, Int.reduceLE, Int.reduceLT, Int.reduceEq, Int.reduceNe, di] <;> rfl)
        by_cases e : j = i
        · subst e; exact h3
        · exact he j (by omega)
    · rename_i h
      have : a = b := eq_of_getD default hl (fun j hj => he j (by omega))
      rw [decide_eq_true this]
  · rename_i hl
    have : ¬ a = b := fun k => hl (by rw [k])
    rw [decide_eq_false this]
theorem wordN_pos {k : Nat} {K : Int} (hK : (k : Int) = K) {x : ByteArray} : (wordN k false x).isSome = true ↔ (numO x K).isSome = true ∧ ¬ (numO x K).getD 0 < 0 := by
  subst hK
  unfold wordN
  cases numO x k with
  | none => simp
  | some v =>
    by_cases h : v < 0
    · simp [h]
    · simp [h]
theorem wordN_any {k : Nat} {K : Int} (hK : (k : Int) = K) {x : ByteArray} : (wordN k true x).isSome = true ↔ (numO x K).isSome = true := by
  subst hK
  unfold wordN
  cases numO x k with
  | none => simp
  | some v => simp
theorem row_three_ok {a b d p : ByteArray} (hw : cutS 32 p = [a, b, d]) : rowOk 3 8 (sgF 2) p = (((wordN 8 false a).isSome && (wordN 8 false b).isSome) && (wordN 8 true d).isSome) := by
  unfold rowOk
  rw [hw]
  simp only [wordsOk, show sgF 2 0 = false from rfl, show sgF 2 1 = false from rfl, show sgF 2 2 = true from rfl]
  rfl
theorem r_ParseFlows {s : ByteArray} (hs : s.size ≤ 1000000) : Contract Tryz.prog 38 [.str s] (.tup [.slc 3 ((parseFl s).1.map flI), .int .i64 (parseFl s).2]) := by
  refine contract_run Tryz.func38 k38 rfl ?_
  simp only [body38, b38, res38, b38k0, b38k1, b38k2, b38k3, b38k4, b38k5, b38k6, b38k7, lkE, ↓reduceIte, reduceCtorEq, Nat.reduceEqDiff, Nat.reduceAdd, Nat.reduceMul, Nat.reduceSub, Nat.reduceLeDiff, Nat.reduceBEq, Int.reduceToNat, Int.reduceLE, Int.reduceLT, Int.reduceEq, Int.reduceNe, di]
  unfold parseFl
  by_cases h : 60000 < s.size
  · rw [if_pos (show (60000 : Int) < (s.size : Int) by omega), if_pos h]
    rfl
  rw [if_neg (show ¬ (60000 : Int) < (s.size : Int) by omega), if_neg h]
  by_cases h0 : s = ⟨#[]⟩
  · rw [if_pos (str_beq.2 h0), if_pos h0]
    rfl
  rw [if_neg (fun e => h0 (str_beq.1 e)), if_neg h0]
  have hsz := fun i => cutS_size (c := 59) (s := s) (i := i)
  have hln := cutS_len (c := 59) (s := s)
  have hbad : ∀ {i}, i < (cutS 59 s).length → rowOk 3 8 (sgF 2) ((cutS 59 s).getD i default) = false → flwR (parseRows 3 8 (sgF 2) s) = ([], 7) := fun hi hr => by
    unfold parseRows
    rw [rowsOk_no hr _ hi]; rfl
  have hgood : rowsOk 3 8 (sgF 2) (cutS 59 s) (cutS 59 s).length = true → parseRows 3 8 (sgF 2) s = some (rowsV 3 8 (cutS 59 s) (cutS 59 s).length) := fun hr => by
    unfold parseRows
    rw [if_pos hr]
  have cc := c_CutS (s := s) (c := 59) (by omega)
  rw [show ((59 : UInt8).toNat : Int) = 59 from rfl] at cc
  refine calls_of cc ?_; simp only [lkE, res38, b38k0, b38k1, b38k2, b38k3, b38k4, b38k5, b38k6, b38k7, ↓reduceIte, reduceCtorEq, Nat.reduceEqDiff, Nat.reduceAdd, Nat.reduceMul, Nat.reduceSub, Nat.reduceLeDiff, Nat.reduceBEq, Int.reduceToNat, Int.reduceLE, Int.reduceLT, Int.reduceEq, Int.reduceNe, di]
  generalize parseRows 3 8 (sgF 2) s = R at hbad hgood ⊢
  generalize cutS 59 s = ps at hsz hln hbad hgood ⊢
  simp only [strsI, List.length_map, lkE, ↓reduceIte, reduceCtorEq, Nat.reduceEqDiff, Nat.reduceAdd, Nat.reduceMul, Nat.reduceSub, Nat.reduceLeDiff, Nat.reduceBEq, Int.reduceToNat, Int.reduceLE, Int.reduceLT, Int.reduceEq, Int.reduceNe, di]
  refine loop_keep (α := Nat) rfl (fun i => ps.length - i) (fun i => i ≤ ps.length ∧ rowsOk 3 8 (sgF 2) ps i = true)
    (fun i => [(4, .own 4), (5, .imm (.slc 1 (ps.map fun s => .str s))), (6, .imm (.int .i64 i))])
    (fun i => [(4, .tok 3 (((rowsV 3 8 ps i).map flOf).map flI))]) 0 ⟨Nat.zero_le _, rfl⟩ (by simp only [lkE, ↓reduceIte, reduceCtorEq, Nat.reduceEqDiff, Nat.reduceAdd, Nat.reduceMul, Nat.reduceSub, Nat.reduceLeDiff, Nat.reduceBEq, Int.reduceToNat, Int.reduceLE, Int.reduceLT, Int.reduceEq, Int.reduceNe, di] <;> rfl) ?_
  rintro i ⟨hi, hall⟩ ih
  simp only [res38, b38k0, b38k1, b38k2, b38k3, b38k4, b38k5, b38k6, b38k7, List.length_map, lkE, ↓reduceIte, reduceCtorEq, Nat.reduceEqDiff, Nat.reduceAdd, Nat.reduceMul, Nat.reduceSub, Nat.reduceLeDiff, Nat.reduceBEq, Int.reduceToNat, Int.reduceLE, Int.reduceLT, Int.reduceEq, Int.reduceNe, di]
  split
  · rename_i hlt0
    have hlt : i < ps.length := by omega
    refine ⟨hlt0, ?_⟩
    have hx := hsz i
    have hb := hbad hlt
    have hst : rowsOk 3 8 (sgF 2) ps (i + 1) = (rowsOk 3 8 (sgF 2) ps i && rowOk 3 8 (sgF 2) (ps.getD i default)) := rfl
    have hrv : rowsV 3 8 ps (i + 1) = rowsV 3 8 ps i ++ [wordsV 8 (cutS 32 (ps.getD i default)) 3] := rowsV_succ
    have hrl := rowsV_len (n := 3) (k := 8) (ps := ps) (i := i)
    have ih' := fun S R => ih (i + 1) S R (by omega)
    rw [hall, Bool.true_and] at hst
    generalize ps.getD i default = x at hx hb hst hrv ⊢
    have cx := c_CutS (s := x) (c := 32) (by omega)
    rw [show ((32 : UInt8).toNat : Int) = 32 from rfl] at cx
    refine calls_of cx ?_; simp only [lkE, res38, b38k0, b38k1, b38k2, b38k3, b38k4, b38k5, b38k6, b38k7, ↓reduceIte, reduceCtorEq, Nat.reduceEqDiff, Nat.reduceAdd, Nat.reduceMul, Nat.reduceSub, Nat.reduceLeDiff, Nat.reduceBEq, Int.reduceToNat, Int.reduceLE, Int.reduceLT, Int.reduceEq, Int.reduceNe, di]
    have hwz := fun j => cutS_size (c := 32) (s := x) (i := j)
    have hro : rowOk 3 8 (sgF 2) x = (decide ((cutS 32 x).length = 3) && wordsOk 8 (sgF 2) (cutS 32 x) 3) := rfl
    have hr2 := fun a b d hw => row_three_ok (a := a) (b := b) (d := d) (p := x) hw
    generalize cutS 32 x = w at hwz hro hr2 hrv ⊢
    simp only [strsI, List.length_map, lkE, ↓reduceIte, reduceCtorEq, Nat.reduceEqDiff, Nat.reduceAdd, Nat.reduceMul, Nat.reduceSub, Nat.reduceLeDiff, Nat.reduceBEq, Int.reduceToNat, Int.reduceLE, Int.reduceLT, Int.reduceEq, Int.reduceNe, di]
    by_cases hl : w.length = 3
    rotate_left
    · rw [decide_eq_false hl, Bool.false_and] at hro
      rw [if_neg (by omega), hb hro]
      rfl
    rw [if_pos (by omega)]
    obtain ⟨a, b, d, rfl⟩ : ∃ a b d, w = [a, b, d] := by
      match w, hl with
      | [a, b, d], _ => exact ⟨a, b, d, rfl⟩
    have hr2 := hr2 a b d rfl
    have ha : a.size ≤ x.size := hwz 0
    have hb' : b.size ≤ x.size := hwz 1
    have hd' : d.size ≤ x.size := hwz 2
    have hwv : wordsV 8 [a, b, d] 3 = [(numO a 8).getD 0, (numO b 8).getD 0, (numO d 8).getD 0] := rfl
    rw [hwv] at hrv
    have key : rowOk 3 8 (sgF 2) x = true ↔ (numO a 8).isSome = true ∧ (numO b 8).isSome = true ∧ (numO d 8).isSome = true ∧ ¬ (numO a 8).getD 0 < 0 ∧ ¬ (numO b 8).getD 0 < 0 := by
      rw [hr2, Bool.and_eq_true, Bool.and_eq_true, wordN_pos (K := 8) rfl, wordN_pos (K := 8) rfl, wordN_any (K := 8) rfl]
      exact ⟨fun h => ⟨h.1.1.1, h.1.2.1, h.2, h.1.1.2, h.1.2.2⟩, fun h => ⟨⟨⟨h.1, h.2.2.2.1⟩, h.2.1, h.2.2.2.2⟩, h.2.2.1⟩⟩
    simp only [List.map, List.length, lkE, ↓reduceIte, reduceCtorEq, Nat.reduceEqDiff, Nat.reduceAdd, Nat.reduceMul, Nat.reduceSub, Nat.reduceLeDiff, Nat.reduceBEq, Int.reduceToNat, Int.reduceLE, Int.reduceLT, Int.reduceEq, Int.reduceNe, di]
    refine ⟨by decide, ?_⟩
    rw [show [a, b, d].getD 0 default = a from rfl]
    refine calls_of (c_Number (s := a) (k := 8) (by decide) (by omega)) ?_; simp only [lkE, res38, b38k0, b38k1, b38k2, b38k3, b38k4, b38k5, b38k6, b38k7, ↓reduceIte, reduceCtorEq, Nat.reduceEqDiff, Nat.reduceAdd, Nat.reduceMul, Nat.reduceSub, Nat.reduceLeDiff, Nat.reduceBEq, Int.reduceToNat, Int.reduceLE, Int.reduceLT, Int.reduceEq, Int.reduceNe, di]
    refine ⟨by decide, ?_⟩
    rw [show [IV.str a, IV.str b, IV.str d].getD 1 IV.nilp = IV.str b from rfl]
    simp only [res38, b38k0, b38k1, b38k2, b38k3, b38k4, b38k5, b38k6, b38k7, lkE, ↓reduceIte, reduceCtorEq, Nat.reduceEqDiff, Nat.reduceAdd, Nat.reduceMul, Nat.reduceSub, Nat.reduceLeDiff, Nat.reduceBEq, Int.reduceToNat, Int.reduceLE, Int.reduceLT, Int.reduceEq, Int.reduceNe, di]
    refine calls_of (c_Number (s := b) (k := 8) (by decide) (by omega)) ?_; simp only [lkE, res38, b38k0, b38k1, b38k2, b38k3, b38k4, b38k5, b38k6, b38k7, ↓reduceIte, reduceCtorEq, Nat.reduceEqDiff, Nat.reduceAdd, Nat.reduceMul, Nat.reduceSub, Nat.reduceLeDiff, Nat.reduceBEq, Int.reduceToNat, Int.reduceLE, Int.reduceLT, Int.reduceEq, Int.reduceNe, di]
    refine ⟨by decide, ?_⟩
    rw [show [IV.str a, IV.str b, IV.str d].getD 2 IV.nilp = IV.str d from rfl]
    simp only [res38, b38k0, b38k1, b38k2, b38k3, b38k4, b38k5, b38k6, b38k7, lkE, ↓reduceIte, reduceCtorEq, Nat.reduceEqDiff, Nat.reduceAdd, Nat.reduceMul, Nat.reduceSub, Nat.reduceLeDiff, Nat.reduceBEq, Int.reduceToNat, Int.reduceLE, Int.reduceLT, Int.reduceEq, Int.reduceNe, di]
    refine calls_of (c_Number (s := d) (k := 8) (by decide) (by omega)) ?_; simp only [lkE, res38, b38k0, b38k1, b38k2, b38k3, b38k4, b38k5, b38k6, b38k7, ↓reduceIte, reduceCtorEq, Nat.reduceEqDiff, Nat.reduceAdd, Nat.reduceMul, Nat.reduceSub, Nat.reduceLeDiff, Nat.reduceBEq, Int.reduceToNat, Int.reduceLE, Int.reduceLT, Int.reduceEq, Int.reduceNe, di]
    by_cases hc : (numO a 8).isSome = true ∧ (numO b 8).isSome = true ∧ (numO d 8).isSome = true ∧ ¬ (numO a 8).getD 0 < 0 ∧ ¬ (numO b 8).getD 0 < 0
    · rw [if_pos hc]
      rw [key.2 hc] at hst
      refine ⟨by omega, by omega, ?_⟩
      rw [wrapS (n := (i : Int) + 1) (by omega) (by omega)]
      refine ih' _ _ ⟨by omega, hst⟩ ?_
      rw [hrv, List.map_append, List.map_append]
      simp only [lkE, ↓reduceIte, reduceCtorEq, Nat.reduceEqDiff, Nat.reduceAdd, Nat.reduceMul, Nat.reduceSub, Nat.reduceLeDiff, Nat.reduceBEq, Int.reduceToNat, Int.reduceLE, Int.reduceLT, Int.reduceEq, Int.reduceNe, di] <;> rfl
    · rw [if_neg hc, hb (Bool.eq_false_iff.2 fun e => hc (key.1 e))]
      rfl
  · rename_i hge
    obtain rfl : i = ps.length := by omega
    rw [hgood hall]
    have e : ∀ rows, flwR (some rows) = if listErr (rows.map flOf) = 0 then (rows.map flOf, 0) else ([], listErr (rows.map flOf)) := fun _ => rfl
    rw [e]
    refine calls_of (r_ListErr (l := (rowsV 3 8 ps ps.length).map flOf) (by rw [List.length_map, rowsV_len]; omega)) ?_; simp only [lkE, res38, b38k0, b38k1, b38k2, b38k3, b38k4, b38k5, b38k6, b38k7, ↓reduceIte, reduceCtorEq, Nat.reduceEqDiff, Nat.reduceAdd, Nat.reduceMul, Nat.reduceSub, Nat.reduceLeDiff, Nat.reduceBEq, Int.reduceToNat, Int.reduceLE, Int.reduceLT, Int.reduceEq, Int.reduceNe, di]
    split <;> rfl
end Go.DI


/- Contracts: tables and flows as strings, in the reference. No condition. -/
import Derived.Test.YtaphhpphfffnfaaGreatDoorLtzg
set_option linter.unusedSimpArgs false
set_option maxRecDepth 100000
namespace Go.DI
open Go.Proofs Go.RowKit Go.Lib Lk

theorem lim_big {n : Nat} (h : n ≤ 1000000000000) : n ≤ maxLen := by
  have : maxLen = 9223372036854775807 := rfl
  omega
def rowsTo (rows : List (List Int)) (i : Nat) : ByteArray := bs (Lib.join ((rows.take i).map rowW) [59])
theorem join_snoc (c : UInt8) (y : List UInt8) : ∀ (l : List (List UInt8)), l ≠ [] → Lib.join (l ++ [y]) [c] = Lib.join l [c] ++ c :: y
  | [], h => absurd rfl h
  | [x], _ => by simp [Lib.join, List.intercalate]
  | x :: z :: l, _ => by
    rw [List.cons_append, List.cons_append, join_cons, join_cons, ← List.cons_append, join_snoc c y (z :: l) (by simp), List.append_assoc, List.cons_append]
theorem rowsTo_succ {rows : List (List Int)} {i : Nat} (h : i < rows.length) : rowsTo rows (i + 1) = (if i = 0 then bs [] else rowsTo rows i ++ bs [59]) ++ bs (rowW (rows.getD i default)) := by
  unfold rowsTo
  rw [take_snoc (d := default) h, List.map_append]
  by_cases h0 : i = 0
  · subst h0
    rw [if_pos rfl]
    simp [Lib.join, List.intercalate, bs_append]
  · have hne : (rows.take i).map rowW ≠ [] := by
      intro e
      have := congrArg List.length e
      rw [List.length_map, List.length_take, List.length_nil] at this
      omega
    rw [if_neg h0, show List.map rowW [rows.getD i default] = [rowW (rows.getD i default)] from rfl, join_snoc _ _ _ hne, bs_append, bs_append, List.append_assoc]
    rfl
theorem rowsTo_len {rows : List (List Int)} (h : RowsB rows) (i : Nat) : (rowsTo rows i).size ≤ 67000 := by
  have := join_len (c := 59) (B := 66) (l := (rows.take i).map rowW) (fun w hw => by
    obtain ⟨r, hr, rfl⟩ := List.mem_map.1 hw
    exact rowW_len (h.row r (List.mem_of_mem_take hr)))
  have h2 := h.len
  have h3 := List.length_take_le' i rows
  rw [List.length_map] at this
  unfold rowsTo
  rw [bs_size]
  omega
theorem rowW_two (a b : Int) : rowW [a, b] = itoa a ++ 32 :: itoa b := by
  unfold rowW
  simp [Lib.join, List.intercalate]
theorem row_two (q : ByteArray) (a b : Int) : q ++ itoaB a ++ ⟨#[32]⟩ ++ itoaB b = q ++ bs (rowW [a, b]) := by
  rw [← bs_data q, itoaB_bs, itoaB_bs, show (⟨#[32]⟩ : ByteArray) = bs [32] from rfl, bs_append, bs_append, bs_append, bs_append, rowW_two]
  congr 1
  simp
theorem knR_at {l : List Kn} {i : Nat} (h : i < l.length) : (l.map knR).getD i default = [(kn l i).1, (kn l i).2] := by
  show _ = [(l.getD i default).1, (l.getD i default).2]
  rw [List.getD_eq_getElem?_getD, List.getD_eq_getElem?_getD, List.getElem?_map, List.getElem?_eq_getElem h]
  rfl
theorem r_FormatTable {l : List Kn} (h : KnB l) (hl : l.length ≤ 1000) : Contract Tryz.prog 31 [tabI l] (.str (fmtT l)) := by
  have hr := kn_rows h hl
  have dec := fun {n : Int} (h : In64 n) => c_Decimal h.1 h.2
  refine contract_run Tryz.func31 k31 rfl ?_
  simp only [body31, b31, res31, b31k0, b31k1, b31k2, b31k3, lkE, ↓reduceIte, reduceCtorEq, Nat.reduceEqDiff, Nat.reduceAdd, Nat.reduceMul, Nat.reduceSub, Nat.reduceLeDiff, Nat.reduceBEq, Int.reduceToNat, Int.reduceLE, Int.reduceLT, Int.reduceEq, Int.reduceNe, di]
  refine loop_keep (α := Nat) rfl (fun i => l.length - i) (fun i => i ≤ l.length)
    (fun i => [(1, .ref 1 0), (3, .imm (.str (rowsTo (l.map knR) i))), (4, .imm (.int .i64 i))])
    (fun _ => [(1, .box [.imm (.slc 2 (l.map knI))])]) 0 (Nat.zero_le _) (by simp only [lkE, ↓reduceIte, reduceCtorEq, Nat.reduceEqDiff, Nat.reduceAdd, Nat.reduceMul, Nat.reduceSub, Nat.reduceLeDiff, Nat.reduceBEq, Int.reduceToNat, Int.reduceLE, Int.reduceLT, Int.reduceEq, Int.reduceNe, di] <;> rfl) ?_
  intro i hi ih
  simp only [res31, b31k0, b31k1, b31k2, b31k3, lkE, ↓reduceIte, reduceCtorEq, Nat.reduceEqDiff, Nat.reduceAdd, Nat.reduceMul, Nat.reduceSub, Nat.reduceLeDiff, Nat.reduceBEq, Int.reduceToNat, Int.reduceLE, Int.reduceLT, Int.reduceEq, Int.reduceNe, di]
  split
  · rename_i hlt0
    have hlt : i < l.length := by omega
    have hz := rowsTo_len hr i
    have hs := rowsTo_succ (rows := l.map knR) (i := i) (by rw [List.length_map]; exact hlt)
    rw [knR_at hlt] at hs
    have hb : In64 (kn l i).1 ∧ In64 (kn l i).2 := h _ (by
      show l.getD i default ∈ l
      rw [List.getD_eq_getElem?_getD, List.getElem?_eq_getElem hlt]; exact List.getElem_mem hlt)
    have ih' := fun S R => ih (i + 1) S R (by omega) (by omega)
    have l1 := itoa_len hb.1
    have l2 := itoa_len hb.2
    have z1 : ByteArray.size ⟨#[32]⟩ = 1 := rfl
    have z2 : ByteArray.size ⟨#[59]⟩ = 1 := rfl
    by_cases h0 : i = 0
    · rw [if_pos h0] at hs
      rw [if_neg (by omega)]
      have hq : rowsTo (l.map knR) i = bs [] := by rw [h0]; rfl
      refine ⟨hlt0, ?_⟩
      refine calls_of (dec hb.1) ?_; simp only [lkE, res31, b31k0, b31k1, b31k2, b31k3, ↓reduceIte, reduceCtorEq, Nat.reduceEqDiff, Nat.reduceAdd, Nat.reduceMul, Nat.reduceSub, Nat.reduceLeDiff, Nat.reduceBEq, Int.reduceToNat, Int.reduceLE, Int.reduceLT, Int.reduceEq, Int.reduceNe, di]
      refine ⟨lim_big (by simp only [itoaB_bs, size_append, bs_size, z1, z2]; omega), lim_big (by simp only [itoaB_bs, size_append, bs_size, z1, z2]; omega), hlt0, ?_⟩
      refine calls_of (dec hb.2) ?_; simp only [lkE, res31, b31k0, b31k1, b31k2, b31k3, ↓reduceIte, reduceCtorEq, Nat.reduceEqDiff, Nat.reduceAdd, Nat.reduceMul, Nat.reduceSub, Nat.reduceLeDiff, Nat.reduceBEq, Int.reduceToNat, Int.reduceLE, Int.reduceLT, Int.reduceEq, Int.reduceNe, di]
      refine ⟨lim_big (by simp only [itoaB_bs, size_append, bs_size, z1, z2]; omega), ?_⟩
      rw [row_two, hq, wrapS (n := (i : Int) + 1) (by omega) (by omega)]
      refine ih' _ _ ?_
      rw [hs]
      simp only [lkE, ↓reduceIte, reduceCtorEq, Nat.reduceEqDiff, Nat.reduceAdd, Nat.reduceMul, Nat.reduceSub, Nat.reduceLeDiff, Nat.reduceBEq, Int.reduceToNat, Int.reduceLE, Int.reduceLT, Int.reduceEq, Int.reduceNe, di] <;> rfl
    · rw [if_neg h0] at hs
      rw [if_pos (by omega)]
      refine ⟨lim_big (by simp only [itoaB_bs, size_append, bs_size, z1, z2]; omega), hlt0, ?_⟩
      refine calls_of (dec hb.1) ?_; simp only [lkE, res31, b31k0, b31k1, b31k2, b31k3, ↓reduceIte, reduceCtorEq, Nat.reduceEqDiff, Nat.reduceAdd, Nat.reduceMul, Nat.reduceSub, Nat.reduceLeDiff, Nat.reduceBEq, Int.reduceToNat, Int.reduceLE, Int.reduceLT, Int.reduceEq, Int.reduceNe, di]
      refine ⟨lim_big (by simp only [itoaB_bs, size_append, bs_size, z1, z2]; omega), lim_big (by simp only [itoaB_bs, size_append, bs_size, z1, z2]; omega), hlt0, ?_⟩
      refine calls_of (dec hb.2) ?_; simp only [lkE, res31, b31k0, b31k1, b31k2, b31k3, ↓reduceIte, reduceCtorEq, Nat.reduceEqDiff, Nat.reduceAdd, Nat.reduceMul, Nat.reduceSub, Nat.reduceLeDiff, Nat.reduceBEq, Int.reduceToNat, Int.reduceLE, Int.reduceLT, Int.reduceEq, Int.reduceNe, di]
      refine ⟨lim_big (by simp only [itoaB_bs, size_append, bs_size, z1, z2]; omega), ?_⟩
      rw [row_two, wrapS (n := (i : Int) + 1) (by omega) (by omega)]
      refine ih' _ _ ?_
      rw [hs]
      simp only [lkE, ↓reduceIte, reduceCtorEq, Nat.reduceEqDiff, Nat.reduceAdd, Nat.reduceMul, Nat.reduceSub, Nat.reduceLeDiff, Nat.reduceBEq, Int.reduceToNat, Int.reduceLE, Int.reduceLT, Int.reduceEq, Int.reduceNe, di] <;> rfl
  · rename_i hge
    obtain rfl : i = l.length := by omega
    have e : rowsTo (l.map knR) l.length = fmtT l := by
      unfold rowsTo fmtT fmtRows
      rw [List.take_of_length_le (by rw [List.length_map]; exact Nat.le_refl _)]
    rw [e]
theorem r_Same {a b : List Kn} (ha : a.length ≤ 1000000000000) : Contract Tryz.prog 32 [tabI a, tabI b] (.bool (decide (a = b))) := by
  refine contract_run Tryz.func32 k32 rfl ?_
  simp only [body32, b32, res32, b32k0, b32k1, b32k2, b32k3, lkE, ↓reduceIte, reduceCtorEq, Nat.reduceEqDiff, Nat.reduceAdd, Nat.reduceMul, Nat.reduceSub, Nat.reduceLeDiff, Nat.reduceBEq, Int.reduceToNat, Int.reduceLE, Int.reduceLT, Int.reduceEq, Int.reduceNe, di]
  split
  · rename_i hl
    have hl : a.length = b.length := by omega
    refine loop_keep (α := Nat) rfl (fun i => a.length - i) (fun i => i ≤ a.length ∧ ∀ j, j < i → a.getD j default = b.getD j default)
      (fun i => [(2, .ref 2 0), (3, .ref 3 0), (5, .imm (.int .i64 i))]) (fun _ => [(2, .box [.imm (.slc 2 (a.map knI))]), (3, .box [.imm (.slc 2 (b.map knI))])]) 0 ⟨Nat.zero_le _, fun j hj => by omega⟩ (by simp only [lkE, ↓reduceIte, reduceCtorEq, Nat.reduceEqDiff, Nat.reduceAdd, Nat.reduceMul, Nat.reduceSub, Nat.reduceLeDiff, Nat.reduceBEq, Int.reduceToNat, Int.reduceLE, Int.reduceLT, Int.reduceEq, Int.reduceNe, di] <;> rfl) ?_
    intro i ⟨hi, he⟩ ih
    simp only [res32, b32k0, b32k1, b32k2, b32k3, lkE, ↓reduceIte, reduceCtorEq, Nat.reduceEqDiff, Nat.reduceAdd, Nat.reduceMul, Nat.reduceSub, Nat.reduceLeDiff, Nat.reduceBEq, Int.reduceToNat, Int.reduceLE, Int.reduceLT, Int.reduceEq, Int.reduceNe, di]
    split
    · rename_i h
      repeat (refine And.intro (by omega) ?_)
      split
      · rename_i h2
        have : ¬ a = b := fun k => by subst k; simp at h2
        rw [decide_eq_false this]
      · rename_i h2
        have h3 : kn a i = kn b i := by
          simp only [Bool.not_eq_false, Bool.and_eq_true, decide_eq_true_eq] at h2
          exact Prod.ext h2.1 h2.2
        rw [wrapS (by omega) (by omega)]
        refine ih (i + 1) _ _ (by omega) ⟨by omega, fun j hj => ?_⟩ (by simp only [lkE, ↓reduceIte, reduceCtorEq, Nat.reduceEqDiff, Nat.reduceAdd, Nat.reduceMul, Nat.reduceSub, Nat.reduceLeDiff, Nat.reduceBEq, Int.reduceToNat, Int.reduceLE, Int.reduceLT, Int.reduceEq, Int.reduceNe, di] <;> rfl)
        by_cases e : j = i
        · subst e; exact h3
        · exact he j (by omega)
    · rename_i h
      have : a = b := eq_of_getD default hl (fun j hj => he j (by omega))
      rw [decide_eq_true this]
  · rename_i hl
    have : ¬ a = b := fun k => hl (by rw [k])
    rw [decide_eq_false this]
theorem sg_none (i : Nat) : sgF (-1) i = false := decide_eq_false (by omega)
theorem wordN_pos {k : Nat} {K : Int} (hK : (k : Int) = K) {x : ByteArray} : (wordN k false x).isSome = true ↔ (numO x K).isSome = true ∧ ¬ (numO x K).getD 0 < 0 := by
  subst hK
  unfold wordN
  cases numO x k with
  | none => simp
  | some v =>
    by_cases h : v < 0
    · simp [h]
    · simp [h]
theorem row_two_ok {a b p : ByteArray} (hw : cutS 32 p = [a, b]) : rowOk 2 10 (sgF (-1)) p = ((wordN 10 false a).isSome && (wordN 10 false b).isSome) := by
  unfold rowOk
  rw [hw]
  simp only [wordsOk, sg_none]
  rfl
theorem r_ParseTable {s : ByteArray} (hs : s.size ≤ 1000000) : Contract Tryz.prog 30 [.str s] (.tup [tabI (parseTab s).1, .int .i64 (parseTab s).2]) := by
  refine contract_run Tryz.func30 k30 rfl ?_
  simp only [body30, b30, res30, b30k0, b30k1, b30k2, b30k3, b30k4, b30k5, b30k6, lkE, ↓reduceIte, reduceCtorEq, Nat.reduceEqDiff, Nat.reduceAdd, Nat.reduceMul, Nat.reduceSub, Nat.reduceLeDiff, Nat.reduceBEq, Int.reduceToNat, Int.reduceLE, Int.reduceLT, Int.reduceEq, Int.reduceNe, di]
  unfold parseTab
  by_cases h : 60000 < s.size
  · rw [if_pos (show (60000 : Int) < (s.size : Int) by omega), if_pos h]
    rfl
  rw [if_neg (show ¬ (60000 : Int) < (s.size : Int) by omega), if_neg h]
  have hsz := fun i => cutS_size (c := 59) (s := s) (i := i)
  have hln := cutS_len (c := 59) (s := s)
  have hbad : ∀ {i}, i < (cutS 59 s).length → rowOk 2 10 (sgF (-1)) ((cutS 59 s).getD i default) = false → tabR (parseRows 2 10 (sgF (-1)) s) = ([], 7) := fun hi hr => by
    unfold parseRows
    rw [rowsOk_no hr _ hi]; rfl
  have hgood : rowsOk 2 10 (sgF (-1)) (cutS 59 s) (cutS 59 s).length = true → parseRows 2 10 (sgF (-1)) s = some (rowsV 2 10 (cutS 59 s) (cutS 59 s).length) := fun hr => by
    unfold parseRows
    rw [if_pos hr]
  have cc := c_CutS (s := s) (c := 59) (by omega)
  rw [show ((59 : UInt8).toNat : Int) = 59 from rfl] at cc
  refine calls_of cc ?_; simp only [lkE, res30, b30k0, b30k1, b30k2, b30k3, b30k4, b30k5, b30k6, ↓reduceIte, reduceCtorEq, Nat.reduceEqDiff, Nat.reduceAdd, Nat.reduceMul, Nat.reduceSub, Nat.reduceLeDiff, Nat.reduceBEq, Int.reduceToNat, Int.reduceLE, Int.reduceLT, Int.reduceEq, Int.reduceNe, di]
  generalize parseRows 2 10 (sgF (-1)) s = R at hbad hgood ⊢
  generalize cutS 59 s = ps at hsz hln hbad hgood ⊢
  simp only [strsI, List.length_map, lkE, ↓reduceIte, reduceCtorEq, Nat.reduceEqDiff, Nat.reduceAdd, Nat.reduceMul, Nat.reduceSub, Nat.reduceLeDiff, Nat.reduceBEq, Int.reduceToNat, Int.reduceLE, Int.reduceLT, Int.reduceEq, Int.reduceNe, di]
  refine loop_keep (α := Nat) rfl (fun i => ps.length - i) (fun i => i ≤ ps.length ∧ rowsOk 2 10 (sgF (-1)) ps i = true)
    (fun i => [(2, .ref 2 0), (4, .ref 4 0), (5, .ref 5 0), (6, .imm (.slc 1 (ps.map fun s => .str s))), (7, .imm (.int .i64 i))])
    (fun i => [(2, .box [.imm (.slc 2 [])]), (4, .box [.imm (.slc 2 [])]), (5, .box [.own 1005]), (1005, .tok 2 (((rowsV 2 10 ps i).map knOf).map knI))]) 0 ⟨Nat.zero_le _, rfl⟩ (by simp only [lkE, ↓reduceIte, reduceCtorEq, Nat.reduceEqDiff, Nat.reduceAdd, Nat.reduceMul, Nat.reduceSub, Nat.reduceLeDiff, Nat.reduceBEq, Int.reduceToNat, Int.reduceLE, Int.reduceLT, Int.reduceEq, Int.reduceNe, di] <;> rfl) ?_
  rintro i ⟨hi, hall⟩ ih
  simp only [res30, b30k0, b30k1, b30k2, b30k3, b30k4, b30k5, b30k6, List.length_map, lkE, ↓reduceIte, reduceCtorEq, Nat.reduceEqDiff, Nat.reduceAdd, Nat.reduceMul, Nat.reduceSub, Nat.reduceLeDiff, Nat.reduceBEq, Int.reduceToNat, Int.reduceLE, Int.reduceLT, Int.reduceEq, Int.reduceNe, di]
  split
  · rename_i hlt0
    have hlt : i < ps.length := by omega
    refine ⟨hlt0, ?_⟩
    have hx := hsz i
    have hb := hbad hlt
    have hst : rowsOk 2 10 (sgF (-1)) ps (i + 1) = (rowsOk 2 10 (sgF (-1)) ps i && rowOk 2 10 (sgF (-1)) (ps.getD i default)) := rfl
    have hrv : rowsV 2 10 ps (i + 1) = rowsV 2 10 ps i ++ [wordsV 10 (cutS 32 (ps.getD i default)) 2] := rowsV_succ
    have hrl := rowsV_len (n := 2) (k := 10) (ps := ps) (i := i)
    have ih' := fun S R => ih (i + 1) S R (by omega)
    rw [hall, Bool.true_and] at hst
    generalize ps.getD i default = x at hx hb hst hrv ⊢
    have cx := c_CutS (s := x) (c := 32) (by omega)
    rw [show ((32 : UInt8).toNat : Int) = 32 from rfl] at cx
    refine calls_of cx ?_; simp only [lkE, res30, b30k0, b30k1, b30k2, b30k3, b30k4, b30k5, b30k6, ↓reduceIte, reduceCtorEq, Nat.reduceEqDiff, Nat.reduceAdd, Nat.reduceMul, Nat.reduceSub, Nat.reduceLeDiff, Nat.reduceBEq, Int.reduceToNat, Int.reduceLE, Int.reduceLT, Int.reduceEq, Int.reduceNe, di]
    have hwz := fun j => cutS_size (c := 32) (s := x) (i := j)
    have hro : rowOk 2 10 (sgF (-1)) x = (decide ((cutS 32 x).length = 2) && wordsOk 10 (sgF (-1)) (cutS 32 x) 2) := rfl
    have hr2 := fun a b hw => row_two_ok (a := a) (b := b) (p := x) hw
    generalize cutS 32 x = w at hwz hro hr2 hrv ⊢
    simp only [strsI, List.length_map, lkE, ↓reduceIte, reduceCtorEq, Nat.reduceEqDiff, Nat.reduceAdd, Nat.reduceMul, Nat.reduceSub, Nat.reduceLeDiff, Nat.reduceBEq, Int.reduceToNat, Int.reduceLE, Int.reduceLT, Int.reduceEq, Int.reduceNe, di]
    by_cases hl : w.length = 2
    rotate_left
    · rw [decide_eq_false hl, Bool.false_and] at hro
      rw [if_neg (by omega), hb hro]
      rfl
    rw [if_pos (by omega)]
    obtain ⟨a, b, rfl⟩ : ∃ a b, w = [a, b] := by
      match w, hl with
      | [a, b], _ => exact ⟨a, b, rfl⟩
    have hr2 := hr2 a b rfl
    have ha : a.size ≤ x.size := hwz 0
    have hb' : b.size ≤ x.size := hwz 1
    have hwv : wordsV 10 [a, b] 2 = [(numO a 10).getD 0, (numO b 10).getD 0] := rfl
    rw [hwv] at hrv
    have key : rowOk 2 10 (sgF (-1)) x = true ↔ (numO a 10).isSome = true ∧ (numO b 10).isSome = true ∧ ¬ (numO a 10).getD 0 < 0 ∧ ¬ (numO b 10).getD 0 < 0 := by
      rw [hr2, Bool.and_eq_true, wordN_pos (K := 10) rfl, wordN_pos (K := 10) rfl]
      exact ⟨fun h => ⟨h.1.1, h.2.1, h.1.2, h.2.2⟩, fun h => ⟨⟨h.1, h.2.2.1⟩, h.2.1, h.2.2.2⟩⟩
    simp only [List.map, List.length, lkE, ↓reduceIte, reduceCtorEq, Nat.reduceEqDiff, Nat.reduceAdd, Nat.reduceMul, Nat.reduceSub, Nat.reduceLeDiff, Nat.reduceBEq, Int.reduceToNat, Int.reduceLE, Int.reduceLT, Int.reduceEq, Int.reduceNe, di]
    refine ⟨by decide, ?_⟩
    rw [show [a, b].getD 0 default = a from rfl]
    refine calls_of (c_Number (s := a) (k := 10) (by decide) (by omega)) ?_; simp only [lkE, res30, b30k0, b30k1, b30k2, b30k3, b30k4, b30k5, b30k6, ↓reduceIte, reduceCtorEq, Nat.reduceEqDiff, Nat.reduceAdd, Nat.reduceMul, Nat.reduceSub, Nat.reduceLeDiff, Nat.reduceBEq, Int.reduceToNat, Int.reduceLE, Int.reduceLT, Int.reduceEq, Int.reduceNe, di]
    refine ⟨by decide, ?_⟩
    rw [show [IV.str a, IV.str b].getD 1 IV.nilp = IV.str b from rfl]
    simp only [res30, b30k0, b30k1, b30k2, b30k3, b30k4, b30k5, b30k6, lkE, ↓reduceIte, reduceCtorEq, Nat.reduceEqDiff, Nat.reduceAdd, Nat.reduceMul, Nat.reduceSub, Nat.reduceLeDiff, Nat.reduceBEq, Int.reduceToNat, Int.reduceLE, Int.reduceLT, Int.reduceEq, Int.reduceNe, di]
    refine calls_of (c_Number (s := b) (k := 10) (by decide) (by omega)) ?_; simp only [lkE, res30, b30k0, b30k1, b30k2, b30k3, b30k4, b30k5, b30k6, ↓reduceIte, reduceCtorEq, Nat.reduceEqDiff, Nat.reduceAdd, Nat.reduceMul, Nat.reduceSub, Nat.reduceLeDiff, Nat.reduceBEq, Int.reduceToNat, Int.reduceLE, Int.reduceLT, Int.reduceEq, Int.reduceNe, di]
    by_cases hc : (numO a 10).isSome = true ∧ (numO b 10).isSome = true ∧ ¬ (numO a 10).getD 0 < 0 ∧ ¬ (numO b 10).getD 0 < 0
    · rw [if_pos hc]
      rw [key.2 hc] at hst
      refine ⟨by omega, by omega, ?_⟩
      rw [wrapS (n := (i : Int) + 1) (by omega) (by omega)]
      refine ih' _ _ ⟨by omega, hst⟩ ?_
      rw [hrv, List.map_append, List.map_append]
      simp only [lkE, ↓reduceIte, reduceCtorEq, Nat.reduceEqDiff, Nat.reduceAdd, Nat.reduceMul, Nat.reduceSub, Nat.reduceLeDiff, Nat.reduceBEq, Int.reduceToNat, Int.reduceLE, Int.reduceLT, Int.reduceEq, Int.reduceNe, di] <;> rfl
    · rw [if_neg hc, hb (Bool.eq_false_iff.2 fun e => hc (key.1 e))]
      rfl
  · rename_i hge
    obtain rfl : i = ps.length := by omega
    rw [hgood hall]
    have e : ∀ rows, tabR (some rows) = if (chkT (rows.map knOf)).2 = 0 then (rows.map knOf, 0) else ([], (chkT (rows.map knOf)).2) := fun _ => rfl
    rw [e]
    refine calls_of (r_TableErr (l := (rowsV 2 10 ps ps.length).map knOf) (by rw [List.length_map, rowsV_len]; omega)) ?_; simp only [lkE, res30, b30k0, b30k1, b30k2, b30k3, b30k4, b30k5, b30k6, ↓reduceIte, reduceCtorEq, Nat.reduceEqDiff, Nat.reduceAdd, Nat.reduceMul, Nat.reduceSub, Nat.reduceLeDiff, Nat.reduceBEq, Int.reduceToNat, Int.reduceLE, Int.reduceLT, Int.reduceEq, Int.reduceNe, di]
    split <;> rfl
end Go.DI


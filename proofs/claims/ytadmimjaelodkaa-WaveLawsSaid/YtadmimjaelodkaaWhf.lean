/- The statement WaveTicks, as a contract; states and ticks in the reference. No condition. -/
import Derived.Test.YtadmimjaelodkaaWhe
set_option linter.unusedSimpArgs false
set_option maxRecDepth 100000
namespace Go.DI
open Go.Proofs Go.RowKit

/-- The pipe of each cell. -/
def ofL : Nat → List Pp → List Int
  | _, [] => []
  | k, p :: r => List.replicate p.1.toNat (k : Int) ++ ofL (k + 1) r
theorem ofL_length : ∀ (l : List Pp) (k : Nat), (∀ p ∈ l, 1 ≤ p.1 ∧ p.1 ≤ 6) → ((ofL k l).length : Int) = cellsN l
  | [], _, _ => rfl
  | p :: r, k, h => by
    have h1 := h p (by simp)
    have h2 := ofL_length r (k + 1) fun q hq => h q (by simp [hq])
    simp only [ofL, List.length_append, List.length_replicate, cellsN]
    omega
/-- … from a pipe's cell on. -/
theorem ofL_append : ∀ (l m : List Pp) (k : Nat), ofL k (l ++ m) = ofL k l ++ ofL (k + l.length) m
  | [], m, k => by simp [ofL]
  | p :: r, m, k => by
    simp only [List.cons_append, ofL, ofL_append r m (k + 1), List.length_cons, List.append_assoc]
    rw [show k + 1 + r.length = k + (r.length + 1) by omega]
theorem r_Of {x : Ln} (hx : LineOk x) : Contract Try.prog 97 [lnI x] (nI (ofL 0 x.pp)) := by
  have hl := hx.len
  refine contract_run Try.func97 k97 rfl ?_
  simp only [body97, b97, res97, b97k0, b97k1, b97k2, b97k3, vaE, ↓reduceIte, reduceCtorEq, Nat.reduceEqDiff, Nat.reduceAdd, Nat.reduceMul, Nat.reduceSub, Nat.reduceLeDiff, Nat.reduceBEq, Int.reduceToNat, Int.reduceLE, Int.reduceLT, Int.reduceEq, Int.reduceNe, di]
  refine loop_keep (α := Nat) rfl (fun k => x.pp.length - k) (fun k => k ≤ x.pp.length)
    (fun k => [(1, .ref 1 0), (3, .own 3), (4, .imm (.int .i64 k))]) (fun k => [(1, .box [.imm (.slc 2 (x.pp.map ppI)), .imm (nI x.ar)]), (3, .tok 1 ((ofL 0 (x.pp.take k)).map (.int .i64)))]) 0 (Nat.zero_le _) (by simp only [vaE, ↓reduceIte, reduceCtorEq, Nat.reduceEqDiff, Nat.reduceAdd, Nat.reduceMul, Nat.reduceSub, Nat.reduceLeDiff, Nat.reduceBEq, Int.reduceToNat, Int.reduceLE, Int.reduceLT, Int.reduceEq, Int.reduceNe, di] <;> rfl) ?_
  intro k hk ih
  have hb1 := ofL_length (x.pp.take k) 0 fun p hp => (hx.pip p (List.mem_of_mem_take hp)).1
  have hb2 := cellsN_bd (x.pp.take k) fun p hp => (hx.pip p (List.mem_of_mem_take hp)).1
  have hb3 := List.length_take (i := k) (l := x.pp)
  simp only [res97, b97k0, b97k1, b97k2, b97k3, vaE, ↓reduceIte, reduceCtorEq, Nat.reduceEqDiff, Nat.reduceAdd, Nat.reduceMul, Nat.reduceSub, Nat.reduceLeDiff, Nat.reduceBEq, Int.reduceToNat, Int.reduceLE, Int.reduceLT, Int.reduceEq, Int.reduceNe, di]
  split
  · rename_i h
    have hlt : k < x.pp.length := by omega
    have hp := hx.pip _ (getD_mem (d := default) hlt)
    refine loop_keep (α := Nat) rfl (fun n => (x.pp.getD k default).1.toNat - n) (fun n => (n : Int) ≤ (x.pp.getD k default).1)
      (fun n => [(1, .ref 1 0), (3, .own 3), (4, .imm (.int .i64 k)), (5, .imm (.int .i64 n))]) (fun n => [(1, .box [.imm (.slc 2 (x.pp.map ppI)), .imm (nI x.ar)]), (3, .tok 1 ((ofL 0 (x.pp.take k) ++ List.replicate n (k : Int)).map (.int .i64)))]) 0 (by omega) (by simp only [List.replicate_zero, List.append_nil, vaE, ↓reduceIte, reduceCtorEq, Nat.reduceEqDiff, Nat.reduceAdd, Nat.reduceMul, Nat.reduceSub, Nat.reduceLeDiff, Nat.reduceBEq, Int.reduceToNat, Int.reduceLE, Int.reduceLT, Int.reduceEq, Int.reduceNe, di] <;> rfl) ?_
    intro n hn ih2
    simp only [res97, b97k0, b97k1, b97k2, b97k3, vaE, ↓reduceIte, reduceCtorEq, Nat.reduceEqDiff, Nat.reduceAdd, Nat.reduceMul, Nat.reduceSub, Nat.reduceLeDiff, Nat.reduceBEq, Int.reduceToNat, Int.reduceLE, Int.reduceLT, Int.reduceEq, Int.reduceNe, di]
    repeat (refine And.intro (by first | omega | exact all_int _ | (simp only [zeros_len, List.length_append, List.length_take, List.length_drop, List.length_set, List.length_cons, List.length_nil, List.length_map]; omega)) ?_)
    split
    · rename_i h2
      refine And.intro ?_ (And.intro ?_ ?_)
      · simp only [List.length_append, List.length_replicate]; omega
      · simp only [List.length_append, List.length_replicate]; omega
      rw [wrap64 (by omega) (by omega)]
      refine ih2 (n + 1) _ _ (by omega) (by omega) ?_
      rw [List.replicate_succ', ← List.append_assoc]
      simp only [vaE, ↓reduceIte, reduceCtorEq, Nat.reduceEqDiff, Nat.reduceAdd, Nat.reduceMul, Nat.reduceSub, Nat.reduceLeDiff, Nat.reduceBEq, Int.reduceToNat, Int.reduceLE, Int.reduceLT, Int.reduceEq, Int.reduceNe, di] <;> rfl
    · rename_i h2
      have hne : (n : Int) = (x.pp.getD k default).1 := by omega
      rw [wrap64 (by omega) (by omega)]
      refine ih (k + 1) _ _ (by omega) (by omega) ?_
      have e : x.pp.take (k + 1) = x.pp.take k ++ [x.pp.getD k default] := by
        rw [List.take_succ_eq_append_getElem hlt]
        simp [List.getD_eq_getElem?_getD, hlt]
      rw [e, ofL_append, hb3, Nat.min_eq_left (by omega), Nat.zero_add]
      simp only [ofL, List.append_nil]
      rw [← hne, Int.toNat_natCast]
      simp only [vaE, ↓reduceIte, reduceCtorEq, Nat.reduceEqDiff, Nat.reduceAdd, Nat.reduceMul, Nat.reduceSub, Nat.reduceLeDiff, Nat.reduceBEq, Int.reduceToNat, Int.reduceLE, Int.reduceLT, Int.reduceEq, Int.reduceNe, di] <;> rfl
  · rename_i h
    have : k = x.pp.length := by omega
    subst this
    rw [List.take_length]
theorem r_Cells {x : Ln} (hx : LineOk x) : Contract Try.prog 40 [lnI x] (.int .i64 (opn x).n) := by
  have h := ofL_length x.pp 0 fun p hp => (hx.pip p hp).1
  refine contract_run Try.func40 k40 rfl ?_
  simp only [body40, b40, res40, vaE, ↓reduceIte, reduceCtorEq, Nat.reduceEqDiff, Nat.reduceAdd, Nat.reduceMul, Nat.reduceSub, Nat.reduceLeDiff, Nat.reduceBEq, Int.reduceToNat, Int.reduceLE, Int.reduceLT, Int.reduceEq, Int.reduceNe, di]
  refine calls_of (r_Of hx) ?_; simp only [vaE, res40, ↓reduceIte, reduceCtorEq, Nat.reduceEqDiff, Nat.reduceAdd, Nat.reduceMul, Nat.reduceSub, Nat.reduceLeDiff, Nat.reduceBEq, Int.reduceToNat, Int.reduceLE, Int.reduceLT, Int.reduceEq, Int.reduceNe, di]
  rw [h]
  rfl
theorem r_Rest {x : Ln} (hx : LineOk x) : Contract Try.prog 94 [lnI x] (wsI (restS (opn x))) := by
  have hnb := (opn_ok hx).nb
  have hl := hx.len; have ha := hx.ars
  refine contract_run Try.func94 k94 rfl ?_
  simp only [body94, b94, res94, vaE, ↓reduceIte, reduceCtorEq, Nat.reduceEqDiff, Nat.reduceAdd, Nat.reduceMul, Nat.reduceSub, Nat.reduceLeDiff, Nat.reduceBEq, Int.reduceToNat, Int.reduceLE, Int.reduceLT, Int.reduceEq, Int.reduceNe, di]
  refine calls_of (r_Cells hx) ?_; simp only [vaE, res94, ↓reduceIte, reduceCtorEq, Nat.reduceEqDiff, Nat.reduceAdd, Nat.reduceMul, Nat.reduceSub, Nat.reduceLeDiff, Nat.reduceBEq, Int.reduceToNat, Int.reduceLE, Int.reduceLT, Int.reduceEq, Int.reduceNe, di]
  repeat (refine And.intro (by omega) ?_)
  simp only [nz, nz1, restS, ↓reduceIte, reduceCtorEq, Nat.reduceEqDiff, Nat.reduceAdd, Nat.reduceMul, Nat.reduceSub, Nat.reduceLeDiff, Nat.reduceBEq, Int.reduceToNat, Int.reduceLE, Int.reduceLT, Int.reduceEq, Int.reduceNe, di]
  rfl
theorem rb_Rest {x : Ln} (hx : LineOk x) : BC Try.prog 94 [.imm (lnI x)] (lookR []) fun r R' =>
    r = .agg [.vec 1000 0 (opn x).n.toNat, .vec 1001 0 (opn x).n.toNat, .vec 1002 0 x.ar.length] ∧ R' = lookR [(1000, .arr ((zeros (opn x).n.toNat).map (.int .i64))), (1001, .arr ((zeros (opn x).n.toNat).map (.int .i64))), (1002, .arr ((zeros x.ar.length).map (.int .i64)))] := by
  have hnb := (opn_ok hx).nb
  have hl := hx.len; have ha := hx.ars
  refine bc_run Try.func94 k1094 rfl rfl ?_
  simp only [body1094, b1094, res1094, vaE, ↓reduceIte, reduceCtorEq, Nat.reduceEqDiff, Nat.reduceAdd, Nat.reduceMul, Nat.reduceSub, Nat.reduceLeDiff, Nat.reduceBEq, Int.reduceToNat, Int.reduceLE, Int.reduceLT, Int.reduceEq, Int.reduceNe, di]
  refine calls_of (r_Cells hx) ?_; simp only [vaE, res1094, ↓reduceIte, reduceCtorEq, Nat.reduceEqDiff, Nat.reduceAdd, Nat.reduceMul, Nat.reduceSub, Nat.reduceLeDiff, Nat.reduceBEq, Int.reduceToNat, Int.reduceLE, Int.reduceLT, Int.reduceEq, Int.reduceNe, di]
  repeat (refine And.intro (by omega) ?_)
  refine run_ren rfl (by first | decide | rfl) (by first | decide | rfl) (by first | decide | rfl) ?_
  simp only [↓reduceIte, reduceCtorEq, Nat.reduceEqDiff, Nat.reduceAdd, Nat.reduceMul, Nat.reduceSub, Nat.reduceLeDiff, Nat.reduceBEq, Int.reduceToNat, Int.reduceLE, Int.reduceLT, Int.reduceEq, Int.reduceNe, di]
  refine run_ren rfl (by first | decide | rfl) (by first | decide | rfl) (by first | decide | rfl) ?_
  simp only [↓reduceIte, reduceCtorEq, Nat.reduceEqDiff, Nat.reduceAdd, Nat.reduceMul, Nat.reduceSub, Nat.reduceLeDiff, Nat.reduceBEq, Int.reduceToNat, Int.reduceLE, Int.reduceLT, Int.reduceEq, Int.reduceNe, di]
  refine run_ren rfl (by first | decide | rfl) (by first | decide | rfl) (by first | decide | rfl) ?_
  simp only [↓reduceIte, reduceCtorEq, Nat.reduceEqDiff, Nat.reduceAdd, Nat.reduceMul, Nat.reduceSub, Nat.reduceLeDiff, Nat.reduceBEq, Int.reduceToNat, Int.reduceLE, Int.reduceLT, Int.reduceEq, Int.reduceNe, di]
  rw [outD_one res1094]
  exact ⟨.agg [.vec 1000 0 (opn x).n.toNat, .vec 1001 0 (opn x).n.toNat, .vec 1002 0 x.ar.length], rfl, rfl, rfl, rfl⟩

/-- The waves towards the valve, and towards the lake, of which the first i ones are moved. -/
def mvF (F : List Int) (n i : Nat) : List Int := (0 :: F.take i) ++ zeros (n - 1 - i)
def mvB (B : List Int) (n i : Nat) : List Int := (B.drop 1).take i ++ zeros (n - i)
theorem mvF_len {F : List Int} {n i : Nat} (h : F.length = n) (hi : i + 1 ≤ n) : (mvF F n i).length = n := by
  simp only [mvF, List.length_append, List.length_cons, List.length_take, zeros_len]; omega
theorem mvB_len {B : List Int} {n i : Nat} (h : B.length = n) (hi : i + 1 ≤ n) : (mvB B n i).length = n := by
  simp only [mvB, List.length_append, List.length_drop, List.length_take, zeros_len]; omega
theorem zeros_succ {k : Nat} : zeros (k + 1) = 0 :: zeros k := List.replicate_succ
theorem take_succ_getD {l : List Int} {i : Nat} (h : i < l.length) : l.take (i + 1) = l.take i ++ [l.getD i 0] := by
  rw [List.take_succ_eq_append_getElem h]
  simp [List.getD_eq_getElem?_getD, h]
theorem mvF_step {F : List Int} {n i : Nat} (h : F.length = n) (hi : i + 1 < n) : (mvF F n i).set (i + 1) (F.getD i 0) = mvF F n (i + 1) := by
  unfold mvF
  rw [List.set_append_right _ _ (by simp only [List.length_cons, List.length_take]; omega), show n - 1 - i = (n - 1 - (i + 1)) + 1 by omega, zeros_succ]
  rw [show i + 1 - (0 :: F.take i).length = 0 by simp only [List.length_cons, List.length_take]; omega]
  rw [List.set_cons_zero, take_succ_getD (l := F) (by omega)]
  simp
theorem mvB_step {B : List Int} {n i : Nat} (h : B.length = n) (hi : i + 1 < n) : (mvB B n i).set i (B.getD (i + 1) 0) = mvB B n (i + 1) := by
  unfold mvB
  rw [List.set_append_right _ _ (by simp only [List.length_drop, List.length_take]; omega), show n - i = (n - (i + 1)) + 1 by omega, zeros_succ]
  rw [show i - ((B.drop 1).take i).length = 0 by simp only [List.length_drop, List.length_take]; omega]
  rw [List.set_cons_zero, List.take_succ_eq_append_getElem (by rw [List.length_drop]; omega)]
  simp [List.getD_eq_getElem?_getD, show 1 + i < B.length by omega, show i + 1 < B.length by omega, Nat.add_comm]
theorem mvF_end {F : List Int} {n : Nat} {v : Int} : (mvF F n (n - 1)).set 0 v = v :: F.take (n - 1) := by
  unfold mvF
  rw [Nat.sub_self]
  simp [zeros]
theorem mvB_end {B : List Int} {n : Nat} {v : Int} (h : B.length = n) (hn : 1 ≤ n) : (mvB B n (n - 1)).set (n - 1) v = B.drop 1 ++ [v] := by
  unfold mvB
  rw [List.take_of_length_le (by rw [List.length_drop]; omega), List.set_append_right _ _ (by rw [List.length_drop]; omega), List.length_drop, h, Nat.sub_self, show n - (n - 1) = 0 + 1 by omega, zeros_succ]
  rfl

theorem r_Stepped {x : Ln} {s : Ws} {c : Int} (hx : LineOk x) (hs : Sh (opn x) s) : Contract Try.prog 29 [lnI x, wsI s, .int .i64 c] (wsI (stp (opn x) s c)) := by
  have how := opn_ok hx
  have hnb := how.nb
  have hl := hx.len; have ha := hx.ars
  have hF := hs.f; have hB := hs.b; have hL := hs.l
  have hbe := how.bel
  have harl : (opn x).ar.length = x.ar.length := rfl
  refine contract_run Try.func29 k29 rfl ?_
  simp only [body29, b29, res29, b29k0, b29k1, b29k2, b29k3, vaE, ↓reduceIte, reduceCtorEq, Nat.reduceEqDiff, Nat.reduceAdd, Nat.reduceMul, Nat.reduceSub, Nat.reduceLeDiff, Nat.reduceBEq, Int.reduceToNat, Int.reduceLE, Int.reduceLT, Int.reduceEq, Int.reduceNe, di]
  refine calls_of (r_Cells hx) ?_; simp only [vaE, res29, b29k0, b29k1, b29k2, b29k3, ↓reduceIte, reduceCtorEq, Nat.reduceEqDiff, Nat.reduceAdd, Nat.reduceMul, Nat.reduceSub, Nat.reduceLeDiff, Nat.reduceBEq, Int.reduceToNat, Int.reduceLE, Int.reduceLT, Int.reduceEq, Int.reduceNe, di]
  refine do_lend rfl (by rw [restr_look]; exact rb_Rest hx) rfl rfl ?_
  rintro q R' ⟨rfl, rfl⟩
  refine ⟨_, rfl, rfl, ?_⟩
  simp only [res29, b29k0, b29k1, b29k2, b29k3, vaE, ↓reduceIte, reduceCtorEq, Nat.reduceEqDiff, Nat.reduceAdd, Nat.reduceMul, Nat.reduceSub, Nat.reduceLeDiff, Nat.reduceBEq, Int.reduceToNat, Int.reduceLE, Int.reduceLT, Int.reduceEq, Int.reduceNe, di]
  obtain ⟨n, hn⟩ : ∃ n : Nat, (opn x).n = n := ⟨(opn x).n.toNat, by omega⟩
  have hFn : s.F.length = n := by omega
  have hBn : s.B.length = n := by omega
  rw [hn] at hnb
  have hmB : mvB s.B n 0 = zeros n := by simp [mvB]
  have hmF : mvF s.F n 0 = zeros n := by
    unfold mvF
    rw [List.take_zero, show zeros n = 0 :: zeros (n - 1) by rw [← zeros_succ]; congr 1; omega]
    rfl
  rw [hn]
  simp only [Int.toNat_natCast]
  refine loop_keep (α := Nat) rfl (fun i => n - i) (fun i => i + 1 ≤ n)
    (fun i => [(2, .imm (.int .i64 c)), (3, .ref 3 0), (4, .ref 4 0), (6, .ref 6 0), (7, .imm (.int .i64 n)), (8, .ref 8 0), (9, .imm (.int .i64 i))])
    (fun i => [(3, .box [.imm (.slc 2 (x.pp.map ppI)), .imm (nI x.ar)]), (4, .box [.imm (nI s.F), .imm (nI s.B), .imm (nI s.L)]),
      (6, .box [.imm (.slc 1 []), .imm (.slc 1 []), .imm (.slc 1 [])]), (8, .box [.vec 1000 0 n, .vec 1001 0 n, .vec 1002 0 x.ar.length]),
      (1000, .arr ((mvF s.F n i).map (.int .i64))), (1001, .arr ((mvB s.B n i).map (.int .i64))), (1002, .arr ((zeros x.ar.length).map (.int .i64)))])
    0 (by omega) (by rw [hmB, hmF]; simp only [vaE, ↓reduceIte, reduceCtorEq, Nat.reduceEqDiff, Nat.reduceAdd, Nat.reduceMul, Nat.reduceSub, Nat.reduceLeDiff, Nat.reduceBEq, Int.reduceToNat, Int.reduceLE, Int.reduceLT, Int.reduceEq, Int.reduceNe, di] <;> rfl) ?_
  intro i hi ih
  have l1 := mvF_len hFn hi
  have l2 := mvB_len hBn hi
  simp only [res29, b29k0, b29k1, b29k2, b29k3, vaE, ↓reduceIte, reduceCtorEq, Nat.reduceEqDiff, Nat.reduceAdd, Nat.reduceMul, Nat.reduceSub, Nat.reduceLeDiff, Nat.reduceBEq, Int.reduceToNat, Int.reduceLE, Int.reduceLT, Int.reduceEq, Int.reduceNe, di]
  rw [wrap64 (n := (i : Int) + 1) (by omega) (by omega)]
  split
  · rename_i h
    have hlt : i + 1 < n := by omega
    rw [show ((i : Int) + 1).toNat = i + 1 by omega]
    repeat (refine And.intro (by first | omega | exact all_int _ | (simp only [zeros_len, List.length_append, List.length_take, List.length_drop, List.length_set, List.length_cons, List.length_nil, List.length_map]; omega)) ?_)
    simp only [Nat.zero_add]
    refine ih (i + 1) _ _ (by omega) (by omega) ?_
    rw [← mvF_step hFn hlt, ← mvB_step hBn hlt]
    simp only [vaE, ↓reduceIte, reduceCtorEq, Nat.reduceEqDiff, Nat.reduceAdd, Nat.reduceMul, Nat.reduceSub, Nat.reduceLeDiff, Nat.reduceBEq, Int.reduceToNat, Int.reduceLE, Int.reduceLT, Int.reduceEq, Int.reduceNe, di] <;> rfl
  rename_i h
  have hie : i = n - 1 := by omega
  clear ih
  repeat (refine And.intro (by first | omega | exact all_int _ | (simp only [zeros_len, List.length_append, List.length_take, List.length_drop, List.length_set, List.length_cons, List.length_nil, List.length_map]; omega)) ?_)
  rw [wrap64 (n := (n : Int) - 1) (by omega) (by omega), show ((n : Int) - 1).toNat = n - 1 by omega]
  repeat (refine And.intro (by first | omega | exact all_int _ | (simp only [zeros_len, List.length_append, List.length_take, List.length_drop, List.length_set, List.length_cons, List.length_nil, List.length_map]; omega)) ?_)
  subst hie
  simp only [Nat.zero_add]
  rw [mvF_end, mvB_end hBn (by omega)]
  have hbs : baseS (opn x) s c = ⟨W6 (0 - s.B.getD 0 0) :: s.F.take (n - 1), s.B.drop 1 ++ [W6 (s.F.getD (n - 1) 0 + c)], zeros x.ar.length⟩ := by
    unfold baseS
    rw [hn, Int.toNat_natCast]
    rfl
  refine loop_keep (α := Nat) rfl (fun j => x.ar.length - j) (fun j => j ≤ x.ar.length)
    (fun j => [(3, .ref 3 0), (4, .ref 4 0), (6, .ref 6 0), (8, .ref 8 0), (10, .imm (.int .i64 (cellsN (x.pp.take j)))), (11, .imm (.int .i64 j))])
    (fun j => [(3, .box [.imm (.slc 2 (x.pp.map ppI)), .imm (nI x.ar)]), (4, .box [.imm (nI s.F), .imm (nI s.B), .imm (nI s.L)]),
      (6, .box [.imm (.slc 1 []), .imm (.slc 1 []), .imm (.slc 1 [])]), (8, .box [.vec 1000 0 n, .vec 1001 0 n, .vec 1002 0 x.ar.length]),
      (1000, .arr ((jncs (opn x) s j (baseS (opn x) s c)).F.map (.int .i64))), (1001, .arr ((jncs (opn x) s j (baseS (opn x) s c)).B.map (.int .i64))), (1002, .arr ((jncs (opn x) s j (baseS (opn x) s c)).L.map (.int .i64)))])
    0 (Nat.zero_le _) (by simp only [jncs, hbs, List.take_zero, cellsN, vaE, ↓reduceIte, reduceCtorEq, Nat.reduceEqDiff, Nat.reduceAdd, Nat.reduceMul, Nat.reduceSub, Nat.reduceLeDiff, Nat.reduceBEq, Int.reduceToNat, Int.reduceLE, Int.reduceLT, Int.reduceEq, Int.reduceNe, di] <;> rfl) ?_
  intro j hj ih
  have ho := sh_jncs (s := s) (k := j) (sh_base (c := c) hs (by omega))
  have h1 := ho.f; have h2 := ho.b; have h3 := ho.l
  have hcb := cellsN_bd (x.pp.take j) fun p hp => (hx.pip p (List.mem_of_mem_take hp)).1
  have hcl := List.length_take (i := j) (l := x.pp)
  simp only [res29, b29k0, b29k1, b29k2, b29k3, vaE, ↓reduceIte, reduceCtorEq, Nat.reduceEqDiff, Nat.reduceAdd, Nat.reduceMul, Nat.reduceSub, Nat.reduceLeDiff, Nat.reduceBEq, Int.reduceToNat, Int.reduceLE, Int.reduceLT, Int.reduceEq, Int.reduceNe, di]
  rw [wrap64 (n := (j : Int) + 1) (by omega) (by omega)]
  split
  · rename_i hlt0
    have hlt : j < x.ar.length := by omega
    have hat := how.at (j := j) hlt
    have hbj : (opn x).be.getD (j + 1) 0 = cellsN (x.pp.take j) + (x.pp.getD j default).1 := by
      show (begL 0 x.pp).getD (j + 1) 0 = _
      rw [begL_getD _ _ _ (by omega), cellsN_step (by omega)]
      omega
    have hp1 := hx.pip _ (getD_mem (l := x.pp) (d := default) (show j < x.pp.length by omega))
    have hp2 := hx.pip _ (getD_mem (l := x.pp) (d := default) (show j + 1 < x.pp.length by omega))
    have hA := hx.are _ (getD_mem (l := x.ar) (d := 0) hlt)
    rw [wrap64 (n := cellsN (x.pp.take j) + (x.pp.getD j default).1) (by omega) (by omega), ← hbj, wrap64 (n := (opn x).be.getD (j + 1) 0 - 1) (by omega) (by omega), show ((opn x).be.getD (j + 1) 0 - 1).toNat = ((opn x).be.getD (j + 1) 0).toNat - 1 by omega, show ((j : Int) + 1).toNat = j + 1 by omega]
    repeat (refine And.intro (by first | omega | exact all_int _ | (simp only [zeros_len, List.length_append, List.length_take, List.length_drop, List.length_set, List.length_cons, List.length_nil, List.length_map]; omega)) ?_)
    refine And.intro ?_ ?_
    · rw [wrap64 (n := (x.pp.getD j default).snd + (x.pp.getD (j + 1) default).snd) (by omega) (by omega), wrap64 (by omega) (by omega)]
      omega
    repeat (refine And.intro (by first | omega | exact all_int _ | (simp only [zeros_len, List.length_append, List.length_take, List.length_drop, List.length_set, List.length_cons, List.length_nil, List.length_map]; omega)) ?_)
    simp only [Nat.zero_add]
    refine ih (j + 1) _ _ (by omega) (by omega) ?_
    rw [show cellsN (x.pp.take (j + 1)) = (opn x).be.getD (j + 1) 0 by rw [hbj, cellsN_step (by omega)]]
    simp only [vaE, ↓reduceIte, reduceCtorEq, Nat.reduceEqDiff, Nat.reduceAdd, Nat.reduceMul, Nat.reduceSub, Nat.reduceLeDiff, Nat.reduceBEq, Int.reduceToNat, Int.reduceLE, Int.reduceLT, Int.reduceEq, Int.reduceNe, di] <;> rfl
  · rename_i h
    have : j = x.ar.length := by omega
    subst this
    rw [if_pos (by omega), if_pos (by omega), if_pos (by omega), List.take_of_length_le (by omega), List.take_of_length_le (by omega), List.take_of_length_le (by omega)]
    rfl

end Go.DI


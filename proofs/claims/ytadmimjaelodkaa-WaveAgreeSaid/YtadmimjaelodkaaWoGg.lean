/- Contracts of what lines and states must be, and of runs. No condition. -/
import Derived.Test.YtadmimjaelodkaaWoGf
/- Contracts: what lines and states must be. No condition. -/
set_option linter.unusedSimpArgs false
set_option maxRecDepth 100000
namespace Go.DI
open Go.Proofs Go.RowKit

theorem w_IndexInt {g : FuncId} {caps : List IV} {p : Int → Bool} {l : List Int} (hl : l.length ≤ 1000000000) (hp : ∀ x ∈ l, Contract Try.prog g ((IV.int .i64) x :: caps) (.bool (p x))) :
  Contract Try.prog 116 [.slc 1 (l.map (IV.int .i64)), .func g [] caps] (.int .i64 (idxF p l)) := by
 refine contract_run Try.func116 k116 rfl ?_
 simp only [body116, b116, res116, b116k0, b116k1, b116k2, ↓reduceIte, reduceCtorEq, Nat.reduceEqDiff, Nat.reduceAdd, Nat.reduceMul, Nat.reduceSub, Nat.reduceLeDiff, Nat.reduceBEq, Int.reduceToNat, Int.reduceLE, Int.reduceLT, Int.reduceEq, Int.reduceNe, di]
 refine loop_keep (α := Nat) rfl (fun i => l.length - i) (fun i => Seek p l i)
  (fun i => [(0, .imm (.slc 1 (l.map (IV.int .i64)))), (1, .imm (.func g [] caps)), (7, .imm (.int .i64 l.length)), (8, .imm (.int .i64 i))]) (fun _ => []) 0 seek_zero (by simp only [↓reduceIte, reduceCtorEq, Nat.reduceEqDiff, Nat.reduceAdd, Nat.reduceMul, Nat.reduceSub, Nat.reduceLeDiff, Nat.reduceBEq, Int.reduceToNat, Int.reduceLE, Int.reduceLT, Int.reduceEq, Int.reduceNe, di, List.length_map] <;> rfl) ?_
 intro i hk ih
 have hi := hk.1
 simp only [res116, b116k0, b116k1, b116k2, ↓reduceIte, reduceCtorEq, Nat.reduceEqDiff, Nat.reduceAdd, Nat.reduceMul, Nat.reduceSub, Nat.reduceLeDiff, Nat.reduceBEq, Int.reduceToNat, Int.reduceLE, Int.reduceLT, Int.reduceEq, Int.reduceNe, di]
 split
 ·rename_i h
  have hlt : i < l.length := by omega
  have hc := hp _ (getD_mem (d := 0) hlt)
  repeat (refine And.intro (by omega) ?_)
  refine calls_of hc ?_; simp only [res116, b116k0, b116k1, b116k2, ↓reduceIte, reduceCtorEq, Nat.reduceEqDiff, Nat.reduceAdd, Nat.reduceMul, Nat.reduceSub, Nat.reduceLeDiff, Nat.reduceBEq, Int.reduceToNat, Int.reduceLE, Int.reduceLT, Int.reduceEq, Int.reduceNe, di]
  split
  ·rename_i h2
   rw [seek_hit hk hlt h2]
  ·rename_i h2
   rw [wrap64 (by omega) (by omega)]
   exact ih (i + 1) _ _ (by omega) (seek_step hk hlt (by simpa using h2)) (by simp only [↓reduceIte, reduceCtorEq, Nat.reduceEqDiff, Nat.reduceAdd, Nat.reduceMul, Nat.reduceSub, Nat.reduceLeDiff, Nat.reduceBEq, Int.reduceToNat, Int.reduceLE, Int.reduceLT, Int.reduceEq, Int.reduceNe, di] <;> rfl)
 ·rename_i h
  have : i = l.length := by omega
  subst this
  rw [seek_end hk]
theorem w_badA {n : Int} : Contract Try.prog 117 [.int .i64 n] (.bool (badA n)) := by
 refine contract_run Try.func117 k117 rfl ?_
 simp only [body117, b117, res117, ↓reduceIte, reduceCtorEq, Nat.reduceEqDiff, Nat.reduceAdd, Nat.reduceMul, Nat.reduceSub, Nat.reduceLeDiff, Nat.reduceBEq, Int.reduceToNat, Int.reduceLE, Int.reduceLT, Int.reduceEq, Int.reduceNe, di]
 refine calls_of w_within ?_; simp only [res117, ↓reduceIte, reduceCtorEq, Nat.reduceEqDiff, Nat.reduceAdd, Nat.reduceMul, Nat.reduceSub, Nat.reduceLeDiff, Nat.reduceBEq, Int.reduceToNat, Int.reduceLE, Int.reduceLT, Int.reduceEq, Int.reduceNe, di]
 rfl

def Few (x : Ln) : Prop := x.pp.length ≤ 1000000 ∧ x.ar.length ≤ 1000000
theorem w_CheckLine {x : Ln} (hx : Few x) : Contract Try.prog 59 [lnI x] (e2I (chkL x)) := by
 obtain ⟨hx1, hx2⟩ := hx
 refine contract_run Try.func59 k59 rfl ?_
 simp only [body59, b59, res59, b59k0, b59k1, b59k2, b59k3, b59k4, vaE, ↓reduceIte, reduceCtorEq, Nat.reduceEqDiff, Nat.reduceAdd, Nat.reduceMul, Nat.reduceSub, Nat.reduceLeDiff, Nat.reduceBEq, Int.reduceToNat, Int.reduceLE, Int.reduceLT, Int.reduceEq, Int.reduceNe, di]
 refine calls_of w_unless ?_; simp only [vaE, res59, b59k0, b59k1, b59k2, b59k3, b59k4, ↓reduceIte, reduceCtorEq, Nat.reduceEqDiff, Nat.reduceAdd, Nat.reduceMul, Nat.reduceSub, Nat.reduceLeDiff, Nat.reduceBEq, Int.reduceToNat, Int.reduceLE, Int.reduceLT, Int.reduceEq, Int.reduceNe, di]
 refine calls_of w_unless ?_; simp only [vaE, res59, b59k0, b59k1, b59k2, b59k3, b59k4, ↓reduceIte, reduceCtorEq, Nat.reduceEqDiff, Nat.reduceAdd, Nat.reduceMul, Nat.reduceSub, Nat.reduceLeDiff, Nat.reduceBEq, Int.reduceToNat, Int.reduceLE, Int.reduceLT, Int.reduceEq, Int.reduceNe, di]
 rw [wrap64 (n := (x.pp.length : Int) - 1) (by omega) (by omega)]
 refine calls_of w_unless ?_; simp only [vaE, res59, b59k0, b59k1, b59k2, b59k3, b59k4, ↓reduceIte, reduceCtorEq, Nat.reduceEqDiff, Nat.reduceAdd, Nat.reduceMul, Nat.reduceSub, Nat.reduceLeDiff, Nat.reduceBEq, Int.reduceToNat, Int.reduceLE, Int.reduceLT, Int.reduceEq, Int.reduceNe, di]
 refine calls_of (w_first (l := [if 0 < (x.pp.length : Int) then 0 else 10, if (x.pp.length : Int) ≤ 4 then 0 else 8, if (x.ar.length : Int) = (x.pp.length : Int) - 1 then 0 else 10]) (by simp)) ?_; simp only [vaE, res59, b59k0, b59k1, b59k2, b59k3, b59k4, ↓reduceIte, reduceCtorEq, Nat.reduceEqDiff, Nat.reduceAdd, Nat.reduceMul, Nat.reduceSub, Nat.reduceLeDiff, Nat.reduceBEq, Int.reduceToNat, Int.reduceLE, Int.reduceLT, Int.reduceEq, Int.reduceNe, di]
 show (if lenE x = 0 then _ else _)
 split
 rotate_left
 ·rename_i h
  unfold chkL
  rw [if_pos h]
  rfl
 rename_i h0
 refine loop_keep (α := Nat) rfl (fun i => x.pp.length - i) (fun i => Seek badP x.pp i)
  (fun i => [(1, .ref 1 0), (33, .imm (.slc 2 (x.pp.map ppI))), (34, .imm (.int .i64 x.pp.length)), (35, .imm (.int .i64 i))]) (fun _ => [(1, .box [.imm (.slc 2 (x.pp.map ppI)), .imm (nI x.ar)])]) 0 seek_zero (by simp only [vaE, ↓reduceIte, reduceCtorEq, Nat.reduceEqDiff, Nat.reduceAdd, Nat.reduceMul, Nat.reduceSub, Nat.reduceLeDiff, Nat.reduceBEq, Int.reduceToNat, Int.reduceLE, Int.reduceLT, Int.reduceEq, Int.reduceNe, di] <;> rfl) ?_
 intro i hk ih
 have hi := hk.1
 simp only [res59, b59k0, b59k1, b59k2, b59k3, b59k4, vaE, ↓reduceIte, reduceCtorEq, Nat.reduceEqDiff, Nat.reduceAdd, Nat.reduceMul, Nat.reduceSub, Nat.reduceLeDiff, Nat.reduceBEq, Int.reduceToNat, Int.reduceLE, Int.reduceLT, Int.reduceEq, Int.reduceNe, di]
 split
 ·rename_i h
  have hlt : i < x.pp.length := by omega
  repeat (refine And.intro (by omega) ?_)
  refine calls_of w_within ?_; simp only [vaE, res59, b59k0, b59k1, b59k2, b59k3, b59k4, ↓reduceIte, reduceCtorEq, Nat.reduceEqDiff, Nat.reduceAdd, Nat.reduceMul, Nat.reduceSub, Nat.reduceLeDiff, Nat.reduceBEq, Int.reduceToNat, Int.reduceLE, Int.reduceLT, Int.reduceEq, Int.reduceNe, di]
  have hbad : badP (x.pp.getD i default) = true → chkL x = ((i : Int), 2) := by
   intro hb
   have hit := seek_hit hk hlt hb
   unfold chkL
   rw [if_neg (fun k => k h0), hit, if_pos (by omega)]
  split
  rotate_left
  ·rename_i h1
   rw [hbad (badP_true fun k => h1 k.1)]
  rename_i h1
  refine calls_of w_within ?_; simp only [vaE, res59, b59k0, b59k1, b59k2, b59k3, b59k4, ↓reduceIte, reduceCtorEq, Nat.reduceEqDiff, Nat.reduceAdd, Nat.reduceMul, Nat.reduceSub, Nat.reduceLeDiff, Nat.reduceBEq, Int.reduceToNat, Int.reduceLE, Int.reduceLT, Int.reduceEq, Int.reduceNe, di]
  split
  rotate_left
  ·rename_i h2
   rw [hbad (badP_true fun k => h2 k.2)]
  rename_i h2
  rw [wrap64 (by omega) (by omega)]
  exact ih (i + 1) _ _ (by omega) (seek_step hk hlt (badP_false.2 ⟨h1, h2⟩)) (by simp only [vaE, ↓reduceIte, reduceCtorEq, Nat.reduceEqDiff, Nat.reduceAdd, Nat.reduceMul, Nat.reduceSub, Nat.reduceLeDiff, Nat.reduceBEq, Int.reduceToNat, Int.reduceLE, Int.reduceLT, Int.reduceEq, Int.reduceNe, di] <;> rfl)
 ·rename_i h
  have : i = x.pp.length := by omega
  subst this
  have hno := seek_end hk
  refine calls_of (w_IndexInt (p := badA) (by omega) fun n _ => w_badA) ?_; simp only [res59, b59k0, b59k1, b59k2, b59k3, b59k4, vaE, ↓reduceIte, reduceCtorEq, Nat.reduceEqDiff, Nat.reduceAdd, Nat.reduceMul, Nat.reduceSub, Nat.reduceLeDiff, Nat.reduceBEq, Int.reduceToNat, Int.reduceLE, Int.reduceLT, Int.reduceEq, Int.reduceNe, di]
  have e : chkL x = if 0 ≤ idxF badA x.ar then (idxF badA x.ar, 2) else (0, 0) := by
   unfold chkL
   rw [if_neg (fun k => k h0), if_neg (fun k => k hno)]
  rw [e]
  split <;> rfl

theorem w_open {x : Ln} (hx : Few x) : Contract Try.prog 103 [lnI x] (if (chkL x).2 = 0 then .tup [owI (opn x), .int .i64 0] else .tup [owI ⟨[], [], [], 0⟩, .int .i64 (chkL x).2]) := by
 refine contract_run Try.func103 k103 rfl ?_
 simp only [body103, b103, res103, b103k0, b103k1, b103k2, vaE, ↓reduceIte, reduceCtorEq, Nat.reduceEqDiff, Nat.reduceAdd, Nat.reduceMul, Nat.reduceSub, Nat.reduceLeDiff, Nat.reduceBEq, Int.reduceToNat, Int.reduceLE, Int.reduceLT, Int.reduceEq, Int.reduceNe, di]
 refine calls_of (w_CheckLine hx) ?_; simp only [vaE, res103, b103k0, b103k1, b103k2, ↓reduceIte, reduceCtorEq, Nat.reduceEqDiff, Nat.reduceAdd, Nat.reduceMul, Nat.reduceSub, Nat.reduceLeDiff, Nat.reduceBEq, Int.reduceToNat, Int.reduceLE, Int.reduceLT, Int.reduceEq, Int.reduceNe, di]
 split
 rotate_left
 ·rename_i h
  rfl
 rename_i h0
 have hok := chkL_ok.1 h0
 have hl := hok.len
 refine loop_keep (α := Nat) rfl (fun i => x.pp.length - i) (fun i => i ≤ x.pp.length)
  (fun i => [(2, .ref 2 0), (6, .ref 6 0), (21, .imm (.slc 2 (x.pp.map ppI))), (22, .imm (.int .i64 x.pp.length)), (23, .imm (.int .i64 i))])
  (fun i => [(2, .box [.imm (.slc 2 []), .imm (.slc 1 []), .imm (.slc 1 []), .imm (.int .i64 0)]), (6, .box [.imm (.slc 2 (x.pp.map ppI)), .imm (nI x.ar), .own 1006, .imm (.int .i64 (cellsN (x.pp.take i)))]), (1006, .tok 1 (((begL 0 x.pp).take i).map (.int .i64)))]) 0 (Nat.zero_le _) (by simp only [vaE, ↓reduceIte, reduceCtorEq, Nat.reduceEqDiff, Nat.reduceAdd, Nat.reduceMul, Nat.reduceSub, Nat.reduceLeDiff, Nat.reduceBEq, Int.reduceToNat, Int.reduceLE, Int.reduceLT, Int.reduceEq, Int.reduceNe, di] <;> rfl) ?_
 intro i hi ih
 have hb := begL_length x.pp 0
 have hc := cellsN_bd (x.pp.take i) fun p hp => (hok.pip p (List.mem_of_mem_take hp)).1
 have hct := List.length_take (i := i) (l := x.pp)
 simp only [res103, b103k0, b103k1, b103k2, vaE, ↓reduceIte, reduceCtorEq, Nat.reduceEqDiff, Nat.reduceAdd, Nat.reduceMul, Nat.reduceSub, Nat.reduceLeDiff, Nat.reduceBEq, Int.reduceToNat, Int.reduceLE, Int.reduceLT, Int.reduceEq, Int.reduceNe, di]
 split
 ·rename_i h
  have hlt : i < x.pp.length := by omega
  have hp := hok.pip _ (getD_mem (d := default) hlt)
  repeat (refine And.intro (by first | omega | exact all_int _ | (simp only [zeros_len, List.length_append, List.length_take, List.length_drop, List.length_set, List.length_cons, List.length_nil, List.length_map]; omega)) ?_)
  rw [wrap64 (n := cellsN (x.pp.take i) + (x.pp.getD i default).fst) (by omega) (by omega), wrap64 (n := (i : Int) + 1) (by omega) (by omega)]
  refine ih (i + 1) _ _ (by omega) (by omega) ?_
  rw [← begL_step hlt, cellsN_step hlt]
  simp only [vaE, ↓reduceIte, reduceCtorEq, Nat.reduceEqDiff, Nat.reduceAdd, Nat.reduceMul, Nat.reduceSub, Nat.reduceLeDiff, Nat.reduceBEq, Int.reduceToNat, Int.reduceLE, Int.reduceLT, Int.reduceEq, Int.reduceNe, di] <;> rfl
 ·rename_i h
  have : i = x.pp.length := by omega
  subst this
  rw [List.take_of_length_le (l := begL 0 x.pp) (by omega), List.take_length]
  rfl

theorem w_sz {n : Int} : Contract Try.prog 127 [.int .i64 n, .int .i64 1000000] (.bool (szOk n)) := w_isSized (by omega)
def FewS (s : Ws) : Prop := s.F.length ≤ 1000000 ∧ s.B.length ≤ 1000000 ∧ s.L.length ≤ 1000000
theorem w_stateErr {x : Ow} {s : Ws} (hs : FewS s) : Contract Try.prog 125 [owI x, wsI s] (e2I (chkS x s)) := by
 obtain ⟨hs1, hs2, hs3⟩ := hs
 refine contract_run Try.func125 k125 rfl ?_
 simp only [body125, b125, res125, b125k0, b125k1, b125k2, b125k3, b125k4, b125k5, b125k6, vaE, ↓reduceIte, reduceCtorEq, Nat.reduceEqDiff, Nat.reduceAdd, Nat.reduceMul, Nat.reduceSub, Nat.reduceLeDiff, Nat.reduceBEq, Int.reduceToNat, Int.reduceLE, Int.reduceLT, Int.reduceEq, Int.reduceNe, di]
 split
 rotate_left
 ·rename_i h
  unfold chkS
  rw [if_pos (fun k => h ⟨k.1, k.2.1, by omega⟩)]
 rename_i h0
 obtain ⟨e1, e2, e3⟩ := h0
 have hz : (s.F.zip s.B).length = s.F.length := by rw [List.length_zip]; omega
 have hd : ∀ i, i < s.F.length → (s.F.zip s.B).getD i default = (s.F.getD i 0, s.B.getD i 0) := by
  intro i hi
  simp only [List.getD_eq_getElem?_getD]
  rw [List.getElem?_eq_getElem (by omega), List.getElem?_eq_getElem hi, List.getElem?_eq_getElem (show i < s.B.length by omega)]
  simp
 refine loop_keep (α := Nat) rfl (fun i => s.F.length - i) (fun i => Seek badS (s.F.zip s.B) i)
  (fun i => [(3, .ref 3 0), (35, .imm (nI s.F)), (36, .imm (.int .i64 s.F.length)), (37, .imm (.int .i64 i))]) (fun _ => [(3, .box [.imm (nI s.F), .imm (nI s.B), .imm (nI s.L)])]) 0 seek_zero (by simp only [vaE, ↓reduceIte, reduceCtorEq, Nat.reduceEqDiff, Nat.reduceAdd, Nat.reduceMul, Nat.reduceSub, Nat.reduceLeDiff, Nat.reduceBEq, Int.reduceToNat, Int.reduceLE, Int.reduceLT, Int.reduceEq, Int.reduceNe, di] <;> rfl) ?_
 intro i hk ih
 have hi := hk.1
 simp only [res125, b125k0, b125k1, b125k2, b125k3, b125k4, b125k5, b125k6, vaE, ↓reduceIte, reduceCtorEq, Nat.reduceEqDiff, Nat.reduceAdd, Nat.reduceMul, Nat.reduceSub, Nat.reduceLeDiff, Nat.reduceBEq, Int.reduceToNat, Int.reduceLE, Int.reduceLT, Int.reduceEq, Int.reduceNe, di]
 split
 ·rename_i h
  have hlt : i < s.F.length := by omega
  have hbad : badS (s.F.getD i 0, s.B.getD i 0) = true → chkS x s = ((i : Int), 2) := by
   intro hb
   have hit := seek_hit hk (by omega) (by rw [hd i hlt]; exact hb)
   unfold chkS
   rw [if_neg (fun k => k ⟨e1, e2, by omega⟩), hit, if_pos (by omega)]
  repeat (refine And.intro (by omega) ?_)
  refine calls_of w_sz ?_; simp only [vaE, res125, b125k0, b125k1, b125k2, b125k3, b125k4, b125k5, b125k6, ↓reduceIte, reduceCtorEq, Nat.reduceEqDiff, Nat.reduceAdd, Nat.reduceMul, Nat.reduceSub, Nat.reduceLeDiff, Nat.reduceBEq, Int.reduceToNat, Int.reduceLE, Int.reduceLT, Int.reduceEq, Int.reduceNe, di]
  by_cases h1 : szOk (s.F.getD i 0) = true
  rotate_left
  ·simp only [h1, vaE, ↓reduceIte, reduceCtorEq, Nat.reduceEqDiff, Nat.reduceAdd, Nat.reduceMul, Nat.reduceSub, Nat.reduceLeDiff, Nat.reduceBEq, Int.reduceToNat, Int.reduceLE, Int.reduceLT, Int.reduceEq, Int.reduceNe, di]
   rw [hbad (badS_l h1)]
  simp only [h1, vaE, ↓reduceIte, reduceCtorEq, Nat.reduceEqDiff, Nat.reduceAdd, Nat.reduceMul, Nat.reduceSub, Nat.reduceLeDiff, Nat.reduceBEq, Int.reduceToNat, Int.reduceLE, Int.reduceLT, Int.reduceEq, Int.reduceNe, di]
  repeat (refine And.intro (by omega) ?_)
  refine calls_of w_sz ?_; simp only [vaE, res125, b125k0, b125k1, b125k2, b125k3, b125k4, b125k5, b125k6, ↓reduceIte, reduceCtorEq, Nat.reduceEqDiff, Nat.reduceAdd, Nat.reduceMul, Nat.reduceSub, Nat.reduceLeDiff, Nat.reduceBEq, Int.reduceToNat, Int.reduceLE, Int.reduceLT, Int.reduceEq, Int.reduceNe, di]
  by_cases h2 : szOk (s.B.getD i 0) = true
  rotate_left
  ·simp only [h2, vaE, ↓reduceIte, reduceCtorEq, Nat.reduceEqDiff, Nat.reduceAdd, Nat.reduceMul, Nat.reduceSub, Nat.reduceLeDiff, Nat.reduceBEq, Int.reduceToNat, Int.reduceLE, Int.reduceLT, Int.reduceEq, Int.reduceNe, di]
   rw [hbad (badS_r h2)]
  simp only [h2, vaE, ↓reduceIte, reduceCtorEq, Nat.reduceEqDiff, Nat.reduceAdd, Nat.reduceMul, Nat.reduceSub, Nat.reduceLeDiff, Nat.reduceBEq, Int.reduceToNat, Int.reduceLE, Int.reduceLT, Int.reduceEq, Int.reduceNe, di]
  rw [wrap64 (by omega) (by omega)]
  exact ih (i + 1) _ _ (by omega) (seek_step hk (by omega) (by rw [hd i hlt]; exact badS_no h1 h2)) (by simp only [vaE, ↓reduceIte, reduceCtorEq, Nat.reduceEqDiff, Nat.reduceAdd, Nat.reduceMul, Nat.reduceSub, Nat.reduceLeDiff, Nat.reduceBEq, Int.reduceToNat, Int.reduceLE, Int.reduceLT, Int.reduceEq, Int.reduceNe, di] <;> rfl)
 ·rename_i h
  have : i = s.F.length := by omega
  subst this
  have hno : idxF badS (s.F.zip s.B) = -1 := seek_end (by rw [hz]; exact hk)
  have he : chkS x s = if idxF (fun n => !szOk n) s.L ≠ -1 then (idxF (fun n => !szOk n) s.L, 2) else (0, 0) := by
   unfold chkS
   rw [if_neg (fun k => k ⟨e1, e2, by omega⟩), if_neg (fun k => k hno)]
  rw [he]
  clear ih hk
  refine loop_keep (α := Nat) rfl (fun i => s.L.length - i) (fun i => Seek (fun n => !szOk n) s.L i)
   (fun i => [(57, .imm (nI s.L)), (58, .imm (.int .i64 s.L.length)), (59, .imm (.int .i64 i))]) (fun _ => []) 0 seek_zero (by simp only [vaE, ↓reduceIte, reduceCtorEq, Nat.reduceEqDiff, Nat.reduceAdd, Nat.reduceMul, Nat.reduceSub, Nat.reduceLeDiff, Nat.reduceBEq, Int.reduceToNat, Int.reduceLE, Int.reduceLT, Int.reduceEq, Int.reduceNe, di] <;> rfl) ?_
  intro i hk ih
  have hi := hk.1
  simp only [res125, b125k0, b125k1, b125k2, b125k3, b125k4, b125k5, b125k6, vaE, ↓reduceIte, reduceCtorEq, Nat.reduceEqDiff, Nat.reduceAdd, Nat.reduceMul, Nat.reduceSub, Nat.reduceLeDiff, Nat.reduceBEq, Int.reduceToNat, Int.reduceLE, Int.reduceLT, Int.reduceEq, Int.reduceNe, di]
  split
  ·rename_i h
   have hlt : i < s.L.length := by omega
   repeat (refine And.intro (by omega) ?_)
   refine calls_of w_sz ?_; simp only [vaE, res125, b125k0, b125k1, b125k2, b125k3, b125k4, b125k5, b125k6, ↓reduceIte, reduceCtorEq, Nat.reduceEqDiff, Nat.reduceAdd, Nat.reduceMul, Nat.reduceSub, Nat.reduceLeDiff, Nat.reduceBEq, Int.reduceToNat, Int.reduceLE, Int.reduceLT, Int.reduceEq, Int.reduceNe, di]
   by_cases h1 : szOk (s.L.getD i 0) = true
   ·simp only [h1, vaE, ↓reduceIte, reduceCtorEq, Nat.reduceEqDiff, Nat.reduceAdd, Nat.reduceMul, Nat.reduceSub, Nat.reduceLeDiff, Nat.reduceBEq, Int.reduceToNat, Int.reduceLE, Int.reduceLT, Int.reduceEq, Int.reduceNe, di]
    rw [wrap64 (by omega) (by omega)]
    exact ih (i + 1) _ _ (by omega) (seek_step hk (by omega) (by show (!szOk (s.L.getD i 0)) = false; rw [h1]; rfl)) (by simp only [vaE, ↓reduceIte, reduceCtorEq, Nat.reduceEqDiff, Nat.reduceAdd, Nat.reduceMul, Nat.reduceSub, Nat.reduceLeDiff, Nat.reduceBEq, Int.reduceToNat, Int.reduceLE, Int.reduceLT, Int.reduceEq, Int.reduceNe, di] <;> rfl)
   ·simp only [h1, vaE, ↓reduceIte, reduceCtorEq, Nat.reduceEqDiff, Nat.reduceAdd, Nat.reduceMul, Nat.reduceSub, Nat.reduceLeDiff, Nat.reduceBEq, Int.reduceToNat, Int.reduceLE, Int.reduceLT, Int.reduceEq, Int.reduceNe, di]
    rw [seek_hit hk hlt (by show (!szOk (s.L.getD i 0)) = true; simp only [h1]; rfl), if_pos (by omega)]
  ·rename_i h
   have : i = s.L.length := by omega
   subst this
   rw [seek_end hk]
   rfl

theorem w_openState {x : Ln} {s : Ws} (hx : Few x) (hs : FewS s) : Contract Try.prog 88 [lnI x, wsI s] (.tup [owI (opnE x), .int .i64 (stE x s)]) := by
 refine contract_run Try.func88 k88 rfl ?_
 simp only [body88, b88, res88, b88k0, vaE, ↓reduceIte, reduceCtorEq, Nat.reduceEqDiff, Nat.reduceAdd, Nat.reduceMul, Nat.reduceSub, Nat.reduceLeDiff, Nat.reduceBEq, Int.reduceToNat, Int.reduceLE, Int.reduceLT, Int.reduceEq, Int.reduceNe, di]
 have ho := w_open hx
 unfold stE opnE
 by_cases h0 : (chkL x).2 = 0
 ·rw [if_pos h0] at ho ⊢
  rw [if_pos h0]
  refine calls_of ho ?_; simp only [vaE, res88, b88k0, ↓reduceIte, reduceCtorEq, Nat.reduceEqDiff, Nat.reduceAdd, Nat.reduceMul, Nat.reduceSub, Nat.reduceLeDiff, Nat.reduceBEq, Int.reduceToNat, Int.reduceLE, Int.reduceLT, Int.reduceEq, Int.reduceNe, di]
  refine calls_of (w_stateErr (x := opn x) hs) ?_; simp only [vaE, res88, b88k0, ↓reduceIte, reduceCtorEq, Nat.reduceEqDiff, Nat.reduceAdd, Nat.reduceMul, Nat.reduceSub, Nat.reduceLeDiff, Nat.reduceBEq, Int.reduceToNat, Int.reduceLE, Int.reduceLT, Int.reduceEq, Int.reduceNe, di]
 ·rw [if_neg h0] at ho ⊢
  rw [if_neg h0]
  refine calls_of ho ?_; simp only [vaE, res88, b88k0, ↓reduceIte, reduceCtorEq, Nat.reduceEqDiff, Nat.reduceAdd, Nat.reduceMul, Nat.reduceSub, Nat.reduceLeDiff, Nat.reduceBEq, Int.reduceToNat, Int.reduceLE, Int.reduceLT, Int.reduceEq, Int.reduceNe, di]
  simp only [h0, vaE, ↓reduceIte, reduceCtorEq, Nat.reduceEqDiff, Nat.reduceAdd, Nat.reduceMul, Nat.reduceSub, Nat.reduceLeDiff, Nat.reduceBEq, Int.reduceToNat, Int.reduceLE, Int.reduceLT, Int.reduceEq, Int.reduceNe, di]

theorem w_closedErr {n : Int} : Contract Try.prog 91 [.int .i64 n] (.int .i64 (closeE n)) := by
 refine contract_run Try.func91 k91 rfl ?_
 simp only [body91, b91, res91, ↓reduceIte, reduceCtorEq, Nat.reduceEqDiff, Nat.reduceAdd, Nat.reduceMul, Nat.reduceSub, Nat.reduceLeDiff, Nat.reduceBEq, Int.reduceToNat, Int.reduceLE, Int.reduceLT, Int.reduceEq, Int.reduceNe, di]
 refine calls_of (w_isSized (by omega)) ?_; simp only [res91, ↓reduceIte, reduceCtorEq, Nat.reduceEqDiff, Nat.reduceAdd, Nat.reduceMul, Nat.reduceSub, Nat.reduceLeDiff, Nat.reduceBEq, Int.reduceToNat, Int.reduceLE, Int.reduceLT, Int.reduceEq, Int.reduceNe, di]
 refine calls_of w_unless ?_; simp only [res91, ↓reduceIte, reduceCtorEq, Nat.reduceEqDiff, Nat.reduceAdd, Nat.reduceMul, Nat.reduceSub, Nat.reduceLeDiff, Nat.reduceBEq, Int.reduceToNat, Int.reduceLE, Int.reduceLT, Int.reduceEq, Int.reduceNe, di]
 unfold closeE
 simp
theorem w_ticksErr {n : Int} : Contract Try.prog 147 [.int .i64 n] (.int .i64 (ticksE n)) := by
 refine contract_run Try.func147 k147 rfl ?_
 simp only [body147, b147, res147, ↓reduceIte, reduceCtorEq, Nat.reduceEqDiff, Nat.reduceAdd, Nat.reduceMul, Nat.reduceSub, Nat.reduceLeDiff, Nat.reduceBEq, Int.reduceToNat, Int.reduceLE, Int.reduceLT, Int.reduceEq, Int.reduceNe, di]
 refine calls_of w_within ?_; simp only [res147, ↓reduceIte, reduceCtorEq, Nat.reduceEqDiff, Nat.reduceAdd, Nat.reduceMul, Nat.reduceSub, Nat.reduceLeDiff, Nat.reduceBEq, Int.reduceToNat, Int.reduceLE, Int.reduceLT, Int.reduceEq, Int.reduceNe, di]
 refine calls_of w_unless ?_; simp only [res147, ↓reduceIte, reduceCtorEq, Nat.reduceEqDiff, Nat.reduceAdd, Nat.reduceMul, Nat.reduceSub, Nat.reduceLeDiff, Nat.reduceBEq, Int.reduceToNat, Int.reduceLE, Int.reduceLT, Int.reduceEq, Int.reduceNe, di]
 unfold ticksE
 simp
theorem w_at {law : List Int} {t : Nat} (h : law.length ≤ 1000000) (ht : t ≤ 1000000) : Contract Try.prog 149 [nI law, .int .i64 t] (.int .i64 (atL law t)) := by
 refine contract_run Try.func149 k149 rfl ?_
 simp only [body149, b149, res149, b149k0, vaE, ↓reduceIte, reduceCtorEq, Nat.reduceEqDiff, Nat.reduceAdd, Nat.reduceMul, Nat.reduceSub, Nat.reduceLeDiff, Nat.reduceBEq, Int.reduceToNat, Int.reduceLE, Int.reduceLT, Int.reduceEq, Int.reduceNe, di]
 split
 ·rename_i h0
  have : law = [] := List.length_eq_zero_iff.1 (by omega)
  subst this
  rfl
 ·rename_i h0
  rw [wrap64 (by omega) (by omega)]
  refine ⟨by omega, by omega, ?_⟩
  rw [show (min (t : Int) ((law.length : Int) - 1)).toNat = min t (law.length - 1) by omega]
  rfl
end Go.DI

/- Contracts: laws and runs of waves. No condition. -/
set_option linter.unusedSimpArgs false
set_option maxRecDepth 100000
namespace Go.DI
open Go.Proofs Go.RowKit

theorem w_CheckLaw {law : List Int} (hl : law.length ≤ 1000000) : Contract Try.prog 66 [nI law] (e2I (chkW law)) := by
 refine contract_run Try.func66 k66 rfl ?_
 simp only [body66, b66, res66, b66k0, b66k1, b66k2, b66k3, b66k4, vaE, ↓reduceIte, reduceCtorEq, Nat.reduceEqDiff, Nat.reduceAdd, Nat.reduceMul, Nat.reduceSub, Nat.reduceLeDiff, Nat.reduceBEq, Int.reduceToNat, Int.reduceLE, Int.reduceLT, Int.reduceEq, Int.reduceNe, di]
 unfold chkW
 split
 ·rfl
 rename_i h
 refine loop_keep (α := Nat × Int) rfl (fun q => law.length - q.1) (fun q => q.1 ≤ law.length ∧ lawScan q.1 q.2 (law.drop q.1) = lawScan 0 0 law)
  (fun q => [(4, .imm (.int .i64 q.2)), (11, .imm (nI law)), (12, .imm (.int .i64 law.length)), (13, .imm (.int .i64 q.1))]) (fun _ => []) (0, 0) ⟨Nat.zero_le _, rfl⟩ (by simp only [vaE, ↓reduceIte, reduceCtorEq, Nat.reduceEqDiff, Nat.reduceAdd, Nat.reduceMul, Nat.reduceSub, Nat.reduceLeDiff, Nat.reduceBEq, Int.reduceToNat, Int.reduceLE, Int.reduceLT, Int.reduceEq, Int.reduceNe, di] <;> rfl) ?_
 rintro ⟨i, la⟩ ⟨hi, he⟩ ih
 dsimp only at hi he ⊢
 simp only [res66, b66k0, b66k1, b66k2, b66k3, b66k4, vaE, ↓reduceIte, reduceCtorEq, Nat.reduceEqDiff, Nat.reduceAdd, Nat.reduceMul, Nat.reduceSub, Nat.reduceLeDiff, Nat.reduceBEq, Int.reduceToNat, Int.reduceLE, Int.reduceLT, Int.reduceEq, Int.reduceNe, di]
 split
 ·rename_i h
  have hlt : i < law.length := by omega
  rw [getD_drop hlt] at he
  rw [lawScan_cons] at he
  generalize law.getD i 0 = n at he ⊢
  repeat (refine And.intro (by omega) ?_)
  refine calls_of w_within ?_; simp only [vaE, res66, b66k0, b66k1, b66k2, b66k3, b66k4, ↓reduceIte, reduceCtorEq, Nat.reduceEqDiff, Nat.reduceAdd, Nat.reduceMul, Nat.reduceSub, Nat.reduceLeDiff, Nat.reduceBEq, Int.reduceToNat, Int.reduceLE, Int.reduceLT, Int.reduceEq, Int.reduceNe, di]
  refine calls_of w_unless ?_; simp only [vaE, res66, b66k0, b66k1, b66k2, b66k3, b66k4, ↓reduceIte, reduceCtorEq, Nat.reduceEqDiff, Nat.reduceAdd, Nat.reduceMul, Nat.reduceSub, Nat.reduceLeDiff, Nat.reduceBEq, Int.reduceToNat, Int.reduceLE, Int.reduceLT, Int.reduceEq, Int.reduceNe, di]
  refine calls_of w_unless ?_; simp only [vaE, res66, b66k0, b66k1, b66k2, b66k3, b66k4, ↓reduceIte, reduceCtorEq, Nat.reduceEqDiff, Nat.reduceAdd, Nat.reduceMul, Nat.reduceSub, Nat.reduceLeDiff, Nat.reduceBEq, Int.reduceToNat, Int.reduceLE, Int.reduceLT, Int.reduceEq, Int.reduceNe, di]
  refine calls_of (w_first (l := [if 0 ≤ n ∧ n ≤ 1000 then 0 else 2, if la ≤ n then 0 else 9]) (by simp)) ?_; simp only [vaE, res66, b66k0, b66k1, b66k2, b66k3, b66k4, ↓reduceIte, reduceCtorEq, Nat.reduceEqDiff, Nat.reduceAdd, Nat.reduceMul, Nat.reduceSub, Nat.reduceLeDiff, Nat.reduceBEq, Int.reduceToNat, Int.reduceLE, Int.reduceLT, Int.reduceEq, Int.reduceNe, di]
  rw [firstNZ_two]
  generalize fstE (if 0 ≤ n ∧ n ≤ 1000 then 0 else 2) (if la ≤ n then 0 else 9) = e at he ⊢
  split
  ·rename_i h2
   rw [if_pos h2] at he
   rw [wrap64 (by omega) (by omega)]
   exact ih (i + 1, n) _ _ (by dsimp only; omega) ⟨by dsimp only; omega, he⟩ (by simp only [vaE, ↓reduceIte, reduceCtorEq, Nat.reduceEqDiff, Nat.reduceAdd, Nat.reduceMul, Nat.reduceSub, Nat.reduceLeDiff, Nat.reduceBEq, Int.reduceToNat, Int.reduceLE, Int.reduceLT, Int.reduceEq, Int.reduceNe, di] <;> rfl)
  ·rename_i h2
   rw [if_neg h2] at he
   rw [← he]
 ·rename_i h
  have : i = law.length := by omega
  subst this
  rw [List.drop_length] at he
  rw [← he]
  rfl
theorem w_lawErr {law : List Int} (hl : law.length ≤ 1000000) : Contract Try.prog 122 [nI law] (.int .i64 (chkW law).2) := by
 refine contract_run Try.func122 k122 rfl ?_
 simp only [body122, b122, res122, vaE, ↓reduceIte, reduceCtorEq, Nat.reduceEqDiff, Nat.reduceAdd, Nat.reduceMul, Nat.reduceSub, Nat.reduceLeDiff, Nat.reduceBEq, Int.reduceToNat, Int.reduceLE, Int.reduceLT, Int.reduceEq, Int.reduceNe, di]
 refine calls_of (w_CheckLaw hl) ?_; simp only [vaE, res122, ↓reduceIte, reduceCtorEq, Nat.reduceEqDiff, Nat.reduceAdd, Nat.reduceMul, Nat.reduceSub, Nat.reduceLeDiff, Nat.reduceBEq, Int.reduceToNat, Int.reduceLE, Int.reduceLT, Int.reduceEq, Int.reduceNe, di]
theorem w_open' {x : Ln} (hx : Few x) : Contract Try.prog 103 [lnI x] (.tup [owI (opnE x), .int .i64 (chkL x).2]) := by
 have h := w_open hx
 unfold opnE
 split at h
 ·rename_i h0; rw [if_pos h0, h0]; exact h
 ·rename_i h0; rw [if_neg h0]; exact h
theorem w_openRun {x : Ln} {law : List Int} {t : Int} (hx : Few x) (hl : law.length ≤ 1000000) : Contract Try.prog 95 [lnI x, nI law, .int .i64 t] (.tup [owI (opnE x), .int .i64 (lawRunE x law t)]) := by
 refine contract_run Try.func95 k95 rfl ?_
 simp only [body95, b95, res95, vaE, ↓reduceIte, reduceCtorEq, Nat.reduceEqDiff, Nat.reduceAdd, Nat.reduceMul, Nat.reduceSub, Nat.reduceLeDiff, Nat.reduceBEq, Int.reduceToNat, Int.reduceLE, Int.reduceLT, Int.reduceEq, Int.reduceNe, di]
 refine calls_of (w_open' hx) ?_; simp only [vaE, res95, ↓reduceIte, reduceCtorEq, Nat.reduceEqDiff, Nat.reduceAdd, Nat.reduceMul, Nat.reduceSub, Nat.reduceLeDiff, Nat.reduceBEq, Int.reduceToNat, Int.reduceLE, Int.reduceLT, Int.reduceEq, Int.reduceNe, di]
 refine calls_of (w_lawErr hl) ?_; simp only [vaE, res95, ↓reduceIte, reduceCtorEq, Nat.reduceEqDiff, Nat.reduceAdd, Nat.reduceMul, Nat.reduceSub, Nat.reduceLeDiff, Nat.reduceBEq, Int.reduceToNat, Int.reduceLE, Int.reduceLT, Int.reduceEq, Int.reduceNe, di]
 refine calls_of w_ticksErr ?_; simp only [vaE, res95, ↓reduceIte, reduceCtorEq, Nat.reduceEqDiff, Nat.reduceAdd, Nat.reduceMul, Nat.reduceSub, Nat.reduceLeDiff, Nat.reduceBEq, Int.reduceToNat, Int.reduceLE, Int.reduceLT, Int.reduceEq, Int.reduceNe, di]
 refine calls_of (w_first (l := [(chkL x).2, (chkW law).2, ticksE t]) (by simp)) ?_; simp only [vaE, res95, ↓reduceIte, reduceCtorEq, Nat.reduceEqDiff, Nat.reduceAdd, Nat.reduceMul, Nat.reduceSub, Nat.reduceLeDiff, Nat.reduceBEq, Int.reduceToNat, Int.reduceLE, Int.reduceLT, Int.reduceEq, Int.reduceNe, di]
 rfl
theorem w_taskErr {t : Tk} : Contract Try.prog 108 [tkI t] (.int .i64 (taskE t)) := by
 refine contract_run Try.func108 k108 rfl ?_
 simp only [body108, b108, res108, vaE, ↓reduceIte, reduceCtorEq, Nat.reduceEqDiff, Nat.reduceAdd, Nat.reduceMul, Nat.reduceSub, Nat.reduceLeDiff, Nat.reduceBEq, Int.reduceToNat, Int.reduceLE, Int.reduceLT, Int.reduceEq, Int.reduceNe, di]
 have hsz : ∀ n, Contract Try.prog 127 [.int .i64 n, .int .i64 1000000] (.bool (decide (-1000000 ≤ n ∧ n ≤ 1000000))) := fun n => w_isSized (by omega)
 unfold taskE
 refine calls_of w_within ?_; simp only [vaE, res108, ↓reduceIte, reduceCtorEq, Nat.reduceEqDiff, Nat.reduceAdd, Nat.reduceMul, Nat.reduceSub, Nat.reduceLeDiff, Nat.reduceBEq, Int.reduceToNat, Int.reduceLE, Int.reduceLT, Int.reduceEq, Int.reduceNe, di]
 by_cases h1 : 0 ≤ t.cl ∧ t.cl ≤ 5
 ·rw [if_pos h1]
  simp only [h1, vaE, ↓reduceIte, reduceCtorEq, Nat.reduceEqDiff, Nat.reduceAdd, Nat.reduceMul, Nat.reduceSub, Nat.reduceLeDiff, Nat.reduceBEq, Int.reduceToNat, Int.reduceLE, Int.reduceLT, Int.reduceEq, Int.reduceNe, di]
  refine calls_of w_within ?_; simp only [vaE, res108, ↓reduceIte, reduceCtorEq, Nat.reduceEqDiff, Nat.reduceAdd, Nat.reduceMul, Nat.reduceSub, Nat.reduceLeDiff, Nat.reduceBEq, Int.reduceToNat, Int.reduceLE, Int.reduceLT, Int.reduceEq, Int.reduceNe, di]
  refine calls_of w_unless ?_; simp only [vaE, res108, ↓reduceIte, reduceCtorEq, Nat.reduceEqDiff, Nat.reduceAdd, Nat.reduceMul, Nat.reduceSub, Nat.reduceLeDiff, Nat.reduceBEq, Int.reduceToNat, Int.reduceLE, Int.reduceLT, Int.reduceEq, Int.reduceNe, di]
  refine calls_of w_ticksErr ?_; simp only [vaE, res108, ↓reduceIte, reduceCtorEq, Nat.reduceEqDiff, Nat.reduceAdd, Nat.reduceMul, Nat.reduceSub, Nat.reduceLeDiff, Nat.reduceBEq, Int.reduceToNat, Int.reduceLE, Int.reduceLT, Int.reduceEq, Int.reduceNe, di]
  refine calls_of (hsz t.lo) ?_; simp only [vaE, res108, ↓reduceIte, reduceCtorEq, Nat.reduceEqDiff, Nat.reduceAdd, Nat.reduceMul, Nat.reduceSub, Nat.reduceLeDiff, Nat.reduceBEq, Int.reduceToNat, Int.reduceLE, Int.reduceLT, Int.reduceEq, Int.reduceNe, di]
  by_cases h2 : -1000000 ≤ t.lo ∧ t.lo ≤ 1000000
  ·rw [if_pos h2]
   simp only [h2, vaE, ↓reduceIte, reduceCtorEq, Nat.reduceEqDiff, Nat.reduceAdd, Nat.reduceMul, Nat.reduceSub, Nat.reduceLeDiff, Nat.reduceBEq, Int.reduceToNat, Int.reduceLE, Int.reduceLT, Int.reduceEq, Int.reduceNe, di]
   refine calls_of (hsz t.hi) ?_; simp only [vaE, res108, ↓reduceIte, reduceCtorEq, Nat.reduceEqDiff, Nat.reduceAdd, Nat.reduceMul, Nat.reduceSub, Nat.reduceLeDiff, Nat.reduceBEq, Int.reduceToNat, Int.reduceLE, Int.reduceLT, Int.reduceEq, Int.reduceNe, di]
   refine calls_of w_unless ?_; simp only [vaE, res108, ↓reduceIte, reduceCtorEq, Nat.reduceEqDiff, Nat.reduceAdd, Nat.reduceMul, Nat.reduceSub, Nat.reduceLeDiff, Nat.reduceBEq, Int.reduceToNat, Int.reduceLE, Int.reduceLT, Int.reduceEq, Int.reduceNe, di]
   refine calls_of w_unless ?_; simp only [vaE, res108, ↓reduceIte, reduceCtorEq, Nat.reduceEqDiff, Nat.reduceAdd, Nat.reduceMul, Nat.reduceSub, Nat.reduceLeDiff, Nat.reduceBEq, Int.reduceToNat, Int.reduceLE, Int.reduceLT, Int.reduceEq, Int.reduceNe, di]
   refine calls_of (w_first (l := [if 1 ≤ t.mo ∧ t.mo ≤ 7 then 0 else 2, ticksE t.ti, if -1000000 ≤ t.hi ∧ t.hi ≤ 1000000 then 0 else 2, if t.lo ≤ t.hi then 0 else 9]) (by simp)) ?_; simp only [vaE, res108, ↓reduceIte, reduceCtorEq, Nat.reduceEqDiff, Nat.reduceAdd, Nat.reduceMul, Nat.reduceSub, Nat.reduceLeDiff, Nat.reduceBEq, Int.reduceToNat, Int.reduceLE, Int.reduceLT, Int.reduceEq, Int.reduceNe, di]
  ·rw [if_neg h2]
   simp only [h2, false_and, vaE, ↓reduceIte, reduceCtorEq, Nat.reduceEqDiff, Nat.reduceAdd, Nat.reduceMul, Nat.reduceSub, Nat.reduceLeDiff, Nat.reduceBEq, Int.reduceToNat, Int.reduceLE, Int.reduceLT, Int.reduceEq, Int.reduceNe, di]
   refine calls_of w_unless ?_; simp only [vaE, res108, ↓reduceIte, reduceCtorEq, Nat.reduceEqDiff, Nat.reduceAdd, Nat.reduceMul, Nat.reduceSub, Nat.reduceLeDiff, Nat.reduceBEq, Int.reduceToNat, Int.reduceLE, Int.reduceLT, Int.reduceEq, Int.reduceNe, di]
   refine calls_of w_unless ?_; simp only [vaE, res108, ↓reduceIte, reduceCtorEq, Nat.reduceEqDiff, Nat.reduceAdd, Nat.reduceMul, Nat.reduceSub, Nat.reduceLeDiff, Nat.reduceBEq, Int.reduceToNat, Int.reduceLE, Int.reduceLT, Int.reduceEq, Int.reduceNe, di]
   refine calls_of (w_first (l := [if 1 ≤ t.mo ∧ t.mo ≤ 7 then 0 else 2, ticksE t.ti, 2, if t.lo ≤ t.hi then 0 else 9]) (by simp)) ?_; simp only [vaE, res108, ↓reduceIte, reduceCtorEq, Nat.reduceEqDiff, Nat.reduceAdd, Nat.reduceMul, Nat.reduceSub, Nat.reduceLeDiff, Nat.reduceBEq, Int.reduceToNat, Int.reduceLE, Int.reduceLT, Int.reduceEq, Int.reduceNe, di]
 ·rw [if_neg h1]
  simp only [h1, false_and, vaE, ↓reduceIte, reduceCtorEq, Nat.reduceEqDiff, Nat.reduceAdd, Nat.reduceMul, Nat.reduceSub, Nat.reduceLeDiff, Nat.reduceBEq, Int.reduceToNat, Int.reduceLE, Int.reduceLT, Int.reduceEq, Int.reduceNe, di]
  refine calls_of w_unless ?_; simp only [vaE, res108, ↓reduceIte, reduceCtorEq, Nat.reduceEqDiff, Nat.reduceAdd, Nat.reduceMul, Nat.reduceSub, Nat.reduceLeDiff, Nat.reduceBEq, Int.reduceToNat, Int.reduceLE, Int.reduceLT, Int.reduceEq, Int.reduceNe, di]
  refine calls_of w_ticksErr ?_; simp only [vaE, res108, ↓reduceIte, reduceCtorEq, Nat.reduceEqDiff, Nat.reduceAdd, Nat.reduceMul, Nat.reduceSub, Nat.reduceLeDiff, Nat.reduceBEq, Int.reduceToNat, Int.reduceLE, Int.reduceLT, Int.reduceEq, Int.reduceNe, di]
  refine calls_of (hsz t.lo) ?_; simp only [vaE, res108, ↓reduceIte, reduceCtorEq, Nat.reduceEqDiff, Nat.reduceAdd, Nat.reduceMul, Nat.reduceSub, Nat.reduceLeDiff, Nat.reduceBEq, Int.reduceToNat, Int.reduceLE, Int.reduceLT, Int.reduceEq, Int.reduceNe, di]
  by_cases h2 : -1000000 ≤ t.lo ∧ t.lo ≤ 1000000
  ·rw [if_pos h2]
   simp only [h2, vaE, ↓reduceIte, reduceCtorEq, Nat.reduceEqDiff, Nat.reduceAdd, Nat.reduceMul, Nat.reduceSub, Nat.reduceLeDiff, Nat.reduceBEq, Int.reduceToNat, Int.reduceLE, Int.reduceLT, Int.reduceEq, Int.reduceNe, di]
   refine calls_of (hsz t.hi) ?_; simp only [vaE, res108, ↓reduceIte, reduceCtorEq, Nat.reduceEqDiff, Nat.reduceAdd, Nat.reduceMul, Nat.reduceSub, Nat.reduceLeDiff, Nat.reduceBEq, Int.reduceToNat, Int.reduceLE, Int.reduceLT, Int.reduceEq, Int.reduceNe, di]
   refine calls_of w_unless ?_; simp only [vaE, res108, ↓reduceIte, reduceCtorEq, Nat.reduceEqDiff, Nat.reduceAdd, Nat.reduceMul, Nat.reduceSub, Nat.reduceLeDiff, Nat.reduceBEq, Int.reduceToNat, Int.reduceLE, Int.reduceLT, Int.reduceEq, Int.reduceNe, di]
   refine calls_of w_unless ?_; simp only [vaE, res108, ↓reduceIte, reduceCtorEq, Nat.reduceEqDiff, Nat.reduceAdd, Nat.reduceMul, Nat.reduceSub, Nat.reduceLeDiff, Nat.reduceBEq, Int.reduceToNat, Int.reduceLE, Int.reduceLT, Int.reduceEq, Int.reduceNe, di]
   refine calls_of (w_first (l := [2, ticksE t.ti, if -1000000 ≤ t.hi ∧ t.hi ≤ 1000000 then 0 else 2, if t.lo ≤ t.hi then 0 else 9]) (by simp)) ?_; simp only [vaE, res108, ↓reduceIte, reduceCtorEq, Nat.reduceEqDiff, Nat.reduceAdd, Nat.reduceMul, Nat.reduceSub, Nat.reduceLeDiff, Nat.reduceBEq, Int.reduceToNat, Int.reduceLE, Int.reduceLT, Int.reduceEq, Int.reduceNe, di]
  ·rw [if_neg h2]
   simp only [h2, false_and, vaE, ↓reduceIte, reduceCtorEq, Nat.reduceEqDiff, Nat.reduceAdd, Nat.reduceMul, Nat.reduceSub, Nat.reduceLeDiff, Nat.reduceBEq, Int.reduceToNat, Int.reduceLE, Int.reduceLT, Int.reduceEq, Int.reduceNe, di]
   refine calls_of w_unless ?_; simp only [vaE, res108, ↓reduceIte, reduceCtorEq, Nat.reduceEqDiff, Nat.reduceAdd, Nat.reduceMul, Nat.reduceSub, Nat.reduceLeDiff, Nat.reduceBEq, Int.reduceToNat, Int.reduceLE, Int.reduceLT, Int.reduceEq, Int.reduceNe, di]
   refine calls_of w_unless ?_; simp only [vaE, res108, ↓reduceIte, reduceCtorEq, Nat.reduceEqDiff, Nat.reduceAdd, Nat.reduceMul, Nat.reduceSub, Nat.reduceLeDiff, Nat.reduceBEq, Int.reduceToNat, Int.reduceLE, Int.reduceLT, Int.reduceEq, Int.reduceNe, di]
   refine calls_of (w_first (l := [2, ticksE t.ti, 2, if t.lo ≤ t.hi then 0 else 9]) (by simp)) ?_; simp only [vaE, res108, ↓reduceIte, reduceCtorEq, Nat.reduceEqDiff, Nat.reduceAdd, Nat.reduceMul, Nat.reduceSub, Nat.reduceLeDiff, Nat.reduceBEq, Int.reduceToNat, Int.reduceLE, Int.reduceLT, Int.reduceEq, Int.reduceNe, di]
theorem w_Clone {l : List Int} (hl : l.length ≤ 1000000000) : Contract Try.prog 92 [nI l] (nI l) := by
 refine contract_run Try.func92 k92 rfl ?_
 simp only [body92, b92, res92, b92k0, vaE, ↓reduceIte, reduceCtorEq, Nat.reduceEqDiff, Nat.reduceAdd, Nat.reduceMul, Nat.reduceSub, Nat.reduceLeDiff, Nat.reduceBEq, Int.reduceToNat, Int.reduceLE, Int.reduceLT, Int.reduceEq, Int.reduceNe, di]
 exact ⟨fun h => by rw [h], by omega, by omega⟩
theorem b_Clone {l : List Int} (hl : l.length ≤ 1000000000) : BC Try.prog 92 [.imm (.slc 1 (l.map (IV.int .i64)))] (lookR []) fun r R' => (l = [] ∧ r = .cap0 1 [] ∧ R' = lookR []) ∨ (r = .own 1000 ∧ R' = lookR [(1000, .tok 1 (l.map (IV.int .i64)))]) := by
 refine bc_run Try.func92 k1092 rfl rfl ?_
 simp only [body1092, b1092, res1092, b1092k0, ↓reduceIte, reduceCtorEq, Nat.reduceEqDiff, Nat.reduceAdd, Nat.reduceMul, Nat.reduceSub, Nat.reduceLeDiff, Nat.reduceBEq, Int.reduceToNat, Int.reduceLE, Int.reduceLT, Int.reduceEq, Int.reduceNe, di]
 refine ⟨fun h => ?_, by omega, by omega, ?_⟩
 ·rw [outD_one res1092, getD_tmp]
  exact ⟨_, rfl, rfl, .inl ⟨by simpa using h, rfl⟩⟩
 ·refine run_ren rfl (by first | decide | rfl) (by first | decide | rfl) (by first | decide | rfl) ?_
  simp only [↓reduceIte, reduceCtorEq, Nat.reduceEqDiff, Nat.reduceAdd, Nat.reduceMul, Nat.reduceSub, Nat.reduceLeDiff, Nat.reduceBEq, Int.reduceToNat, Int.reduceLE, Int.reduceLT, Int.reduceEq, Int.reduceNe, di]
  rw [outD_one res1092, getD_tmp]
  exact ⟨_, rfl, rfl, .inr rfl⟩
theorem w_RunOf {x : Ln} {s : Ws} {cl : List Int} (hx : Few x) (hs : FewS s) (hc : cl.length ≤ 1000000) : Contract Try.prog 21 [lnI x, wsI s, nI cl] (if runE x s cl = 0 then .tup [wsI (runS (opn x) s cl), .int .i64 0] else .tup [wsI ⟨[], [], []⟩, .int .i64 (runE x s cl)]) := by
 refine contract_run Try.func21 k21 rfl ?_
 simp only [body21, b21, res21, b21k0, b21k1, b21k2, b21k3, b21k4, vaE, ↓reduceIte, reduceCtorEq, Nat.reduceEqDiff, Nat.reduceAdd, Nat.reduceMul, Nat.reduceSub, Nat.reduceLeDiff, Nat.reduceBEq, Int.reduceToNat, Int.reduceLE, Int.reduceLT, Int.reduceEq, Int.reduceNe, di]
 refine calls_of (w_openState hx hs) ?_; simp only [vaE, res21, b21k0, b21k1, b21k2, b21k3, b21k4, ↓reduceIte, reduceCtorEq, Nat.reduceEqDiff, Nat.reduceAdd, Nat.reduceMul, Nat.reduceSub, Nat.reduceLeDiff, Nat.reduceBEq, Int.reduceToNat, Int.reduceLE, Int.reduceLT, Int.reduceEq, Int.reduceNe, di]
 refine calls_of w_unless ?_; simp only [vaE, res21, b21k0, b21k1, b21k2, b21k3, b21k4, ↓reduceIte, reduceCtorEq, Nat.reduceEqDiff, Nat.reduceAdd, Nat.reduceMul, Nat.reduceSub, Nat.reduceLeDiff, Nat.reduceBEq, Int.reduceToNat, Int.reduceLE, Int.reduceLT, Int.reduceEq, Int.reduceNe, di]
 refine calls_of (w_first (l := [stE x s, if (cl.length : Int) ≤ 200 then 0 else 8]) (by simp)) ?_; simp only [vaE, res21, b21k0, b21k1, b21k2, b21k3, b21k4, ↓reduceIte, reduceCtorEq, Nat.reduceEqDiff, Nat.reduceAdd, Nat.reduceMul, Nat.reduceSub, Nat.reduceLeDiff, Nat.reduceBEq, Int.reduceToNat, Int.reduceLE, Int.reduceLT, Int.reduceEq, Int.reduceNe, di]
 refine loop_keep (α := Nat × Int) rfl (fun q => cl.length - q.1) (fun q => q.1 ≤ cl.length ∧ (cl.drop q.1).foldl (fun e n => fstE e (closeE n)) q.2 = runE x s cl)
  (fun q => [(2, .imm (nI cl)), (4, .ref 4 0), (6, .ref 6 0), (8, .ref 8 0), (9, .imm (.int .i64 q.2)), (28, .imm (nI cl)), (29, .imm (.int .i64 cl.length)), (30, .imm (.int .i64 q.1))])
  (fun _ => [(4, .box [.imm (nI s.F), .imm (nI s.B), .imm (nI s.L)]), (6, .box [.imm (.slc 1 []), .imm (.slc 1 []), .imm (.slc 1 [])]), (8, .box [.imm (.slc 2 ((opnE x).pp.map ppI)), .imm (nI (opnE x).ar), .imm (nI (opnE x).be), .imm (.int .i64 (opnE x).n)])])
  (0, fstE (stE x s) (if (cl.length : Int) ≤ 200 then 0 else 8)) ⟨Nat.zero_le _, rfl⟩ (by rw [firstNZ_two]; simp only [vaE, ↓reduceIte, reduceCtorEq, Nat.reduceEqDiff, Nat.reduceAdd, Nat.reduceMul, Nat.reduceSub, Nat.reduceLeDiff, Nat.reduceBEq, Int.reduceToNat, Int.reduceLE, Int.reduceLT, Int.reduceEq, Int.reduceNe, di] <;> rfl) ?_
 rintro ⟨i, e⟩ ⟨hi, he⟩ ih
 dsimp only at hi he ⊢
 simp only [res21, b21k0, b21k1, b21k2, b21k3, b21k4, vaE, ↓reduceIte, reduceCtorEq, Nat.reduceEqDiff, Nat.reduceAdd, Nat.reduceMul, Nat.reduceSub, Nat.reduceLeDiff, Nat.reduceBEq, Int.reduceToNat, Int.reduceLE, Int.reduceLT, Int.reduceEq, Int.reduceNe, di]
 split
 ·rename_i h
  have hlt : i < cl.length := by omega
  rw [getD_drop hlt, List.foldl_cons] at he
  repeat (refine And.intro (by omega) ?_)
  refine calls_of w_closedErr ?_; simp only [vaE, res21, b21k0, b21k1, b21k2, b21k3, b21k4, ↓reduceIte, reduceCtorEq, Nat.reduceEqDiff, Nat.reduceAdd, Nat.reduceMul, Nat.reduceSub, Nat.reduceLeDiff, Nat.reduceBEq, Int.reduceToNat, Int.reduceLE, Int.reduceLT, Int.reduceEq, Int.reduceNe, di]
  refine calls_of (w_first (l := [e, closeE (cl.getD i 0)]) (by simp)) ?_; simp only [vaE, res21, b21k0, b21k1, b21k2, b21k3, b21k4, ↓reduceIte, reduceCtorEq, Nat.reduceEqDiff, Nat.reduceAdd, Nat.reduceMul, Nat.reduceSub, Nat.reduceLeDiff, Nat.reduceBEq, Int.reduceToNat, Int.reduceLE, Int.reduceLT, Int.reduceEq, Int.reduceNe, di]
  rw [wrap64 (by omega) (by omega), firstNZ_two]
  exact ih (i + 1, _) _ _ (by dsimp only; omega) ⟨by dsimp only; omega, he⟩ (by simp only [vaE, ↓reduceIte, reduceCtorEq, Nat.reduceEqDiff, Nat.reduceAdd, Nat.reduceMul, Nat.reduceSub, Nat.reduceLeDiff, Nat.reduceBEq, Int.reduceToNat, Int.reduceLE, Int.reduceLT, Int.reduceEq, Int.reduceNe, di] <;> rfl)
 rename_i h
 have : i = cl.length := by omega
 subst this
 rw [List.drop_length] at he
 have he : e = runE x s cl := he
 subst he
 clear ih
 split
 rotate_left
 ·rfl
 rename_i h0
 have hz := runE_zero.1 h0
 have hok := stE_zero.1 hz.1.1
 have hox : opnE x = opn x := by unfold opnE; rw [if_pos (chkL_ok.2 hok.1)]
 have how := opn_ok hok.1
 rw [hox]
 refine calls_of (w_Clone (l := s.F) (by have := hs.1; omega)) ?_; simp only [vaE, res21, b21k0, b21k1, b21k2, b21k3, b21k4, ↓reduceIte, reduceCtorEq, Nat.reduceEqDiff, Nat.reduceAdd, Nat.reduceMul, Nat.reduceSub, Nat.reduceLeDiff, Nat.reduceBEq, Int.reduceToNat, Int.reduceLE, Int.reduceLT, Int.reduceEq, Int.reduceNe, di]
 refine calls_of (w_Clone (l := s.B) (by have := hs.2.1; omega)) ?_; simp only [vaE, res21, b21k0, b21k1, b21k2, b21k3, b21k4, ↓reduceIte, reduceCtorEq, Nat.reduceEqDiff, Nat.reduceAdd, Nat.reduceMul, Nat.reduceSub, Nat.reduceLeDiff, Nat.reduceBEq, Int.reduceToNat, Int.reduceLE, Int.reduceLT, Int.reduceEq, Int.reduceNe, di]
 refine calls_of (w_Clone (l := s.L) (by have := hs.2.2; omega)) ?_; simp only [vaE, res21, b21k0, b21k1, b21k2, b21k3, b21k4, ↓reduceIte, reduceCtorEq, Nat.reduceEqDiff, Nat.reduceAdd, Nat.reduceMul, Nat.reduceSub, Nat.reduceLeDiff, Nat.reduceBEq, Int.reduceToNat, Int.reduceLE, Int.reduceLT, Int.reduceEq, Int.reduceNe, di]
 refine loop_keep (α := Nat × Ws) rfl (fun q => cl.length - q.1) (fun q => q.1 ≤ cl.length ∧ runS (opn x) q.2 (cl.drop q.1) = runS (opn x) s cl ∧ Sh (opn x) q.2)
  (fun q => [(6, .ref 6 0), (8, .ref 8 0), (12, .ref 12 0), (54, .imm (nI cl)), (55, .imm (.int .i64 cl.length)), (56, .imm (.int .i64 q.1))])
  (fun q => [(6, .box [.imm (.slc 1 []), .imm (.slc 1 []), .imm (.slc 1 [])]), (8, .box [.imm (.slc 2 ((opn x).pp.map ppI)), .imm (nI (opn x).ar), .imm (nI (opn x).be), .imm (.int .i64 (opn x).n)]), (12, .box [.imm (nI q.2.F), .imm (nI q.2.B), .imm (nI q.2.L)])])
  (0, s) ⟨Nat.zero_le _, rfl, hok.2.sh⟩ (by simp only [vaE, ↓reduceIte, reduceCtorEq, Nat.reduceEqDiff, Nat.reduceAdd, Nat.reduceMul, Nat.reduceSub, Nat.reduceLeDiff, Nat.reduceBEq, Int.reduceToNat, Int.reduceLE, Int.reduceLT, Int.reduceEq, Int.reduceNe, di] <;> rfl) ?_
 rintro ⟨i, s'⟩ ⟨hi, hr, hsh⟩ ih
 dsimp only at hi hr hsh ⊢
 simp only [res21, b21k0, b21k1, b21k2, b21k3, b21k4, vaE, ↓reduceIte, reduceCtorEq, Nat.reduceEqDiff, Nat.reduceAdd, Nat.reduceMul, Nat.reduceSub, Nat.reduceLeDiff, Nat.reduceBEq, Int.reduceToNat, Int.reduceLE, Int.reduceLT, Int.reduceEq, Int.reduceNe, di]
 split
 ·rename_i h
  have hlt : i < cl.length := by omega
  rw [getD_drop hlt] at hr
  repeat (refine And.intro (by omega) ?_)
  refine calls_of (w_stepped (s := s') (c := cl.getD i 0) how hsh) ?_; simp only [vaE, res21, b21k0, b21k1, b21k2, b21k3, b21k4, ↓reduceIte, reduceCtorEq, Nat.reduceEqDiff, Nat.reduceAdd, Nat.reduceMul, Nat.reduceSub, Nat.reduceLeDiff, Nat.reduceBEq, Int.reduceToNat, Int.reduceLE, Int.reduceLT, Int.reduceEq, Int.reduceNe, di]
  rw [wrap64 (by omega) (by omega)]
  exact ih (i + 1, stp (opn x) s' (cl.getD i 0)) _ _ (by dsimp only; omega) ⟨by dsimp only; omega, hr, sh_stp hsh how.nb.1⟩ (by simp only [vaE, ↓reduceIte, reduceCtorEq, Nat.reduceEqDiff, Nat.reduceAdd, Nat.reduceMul, Nat.reduceSub, Nat.reduceLeDiff, Nat.reduceBEq, Int.reduceToNat, Int.reduceLE, Int.reduceLT, Int.reduceEq, Int.reduceNe, di] <;> rfl)
 ·rename_i h
  have : i = cl.length := by omega
  subst this
  rw [List.drop_length] at hr
  have hr : s' = runS (opn x) s cl := hr
  subst hr
  rfl
theorem w_Stepped {x : Ln} {s : Ws} {c : Int} (hx : Few x) (hs : FewS s) : Contract Try.prog 25 [lnI x, wsI s, .int .i64 c] (if runE x s [c] = 0 then .tup [wsI (stp (opn x) s c), .int .i64 0] else .tup [wsI ⟨[], [], []⟩, .int .i64 (runE x s [c])]) := by
 refine contract_run Try.func25 k25 rfl ?_
 simp only [body25, b25, res25, vaE, ↓reduceIte, reduceCtorEq, Nat.reduceEqDiff, Nat.reduceAdd, Nat.reduceMul, Nat.reduceSub, Nat.reduceLeDiff, Nat.reduceBEq, Int.reduceToNat, Int.reduceLE, Int.reduceLT, Int.reduceEq, Int.reduceNe, di]
 have ho := w_RunOf (cl := [c]) hx hs (by simp)
 by_cases h0 : runE x s [c] = 0
 ·rw [if_pos h0] at ho ⊢
  refine calls_of ho ?_; simp only [vaE, res25, ↓reduceIte, reduceCtorEq, Nat.reduceEqDiff, Nat.reduceAdd, Nat.reduceMul, Nat.reduceSub, Nat.reduceLeDiff, Nat.reduceBEq, Int.reduceToNat, Int.reduceLE, Int.reduceLT, Int.reduceEq, Int.reduceNe, di]
  rfl
 ·rw [if_neg h0] at ho ⊢
  refine calls_of ho ?_; simp only [vaE, res25, ↓reduceIte, reduceCtorEq, Nat.reduceEqDiff, Nat.reduceAdd, Nat.reduceMul, Nat.reduceSub, Nat.reduceLeDiff, Nat.reduceBEq, Int.reduceToNat, Int.reduceLE, Int.reduceLT, Int.reduceEq, Int.reduceNe, di]
end Go.DI


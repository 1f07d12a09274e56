/- Contracts of covers. No condition. -/
import Derived.Test.YtdpfjbghiahbeaaKgGn
/- The reference's functions of covers, as data. No condition. -/
namespace Go.DI
open Go.Proofs Go.RowKit
/-- guidevane/guidevaneref04.CoverErr -/
def b76k0 : DCode :=
 (.seq
  (.region [⟨(some 2), .mov, [.c (.int .i64 0)], none, []⟩] false)
  .ret)
def b76k1 : DCode :=
 (.seq
  (.seq
   (.region [⟨(some 28), (.faddr 5 true 2), [.t 1], none, []⟩,
     ⟨(some 29), (.faddr 0 false 1), [.t 28], none, [0]⟩,
     ⟨(some 30), (.load false 1), [.t 29], none, [1]⟩,
     ⟨(some 31), (.faddr 5 true 2), [.t 1], none, []⟩,
     ⟨(some 32), (.faddr 1 false 1), [.t 31], none, [3]⟩,
     ⟨(some 33), (.load false 1), [.t 32], none, [4]⟩,
     ⟨(some 34), (.bin .gtr), [.t 30, .t 33], none, [2, 5]⟩] false)
   (.cond (.t 34)
    (.seq
     (.region [⟨(some 2), .mov, [.c (.int .i64 9)], none, []⟩] false)
     .ret)
    .skip))
  (.keep [] [] b76k0))
def b76k2 : DCode :=
 (.seq
  (.seq
   (.region [⟨(some 10), (.faddr 4 false 1), [.t 1], none, []⟩,
     ⟨(some 11), (.load false 1), [.t 10], none, [0]⟩,
     ⟨(some 12), .call, [.f 27, .t 11, .c (.int .i64 1), .c (.int .i64 8)], none, [1]⟩,
     ⟨(some 13), (.un .not), [.t 12], none, [2]⟩,
     ⟨(some 14), .mov, [.t 13], none, [3, 2]⟩,
     ⟨(some 15), (.faddr 5 true 2), [.t 1], (some (14, false)), [4]⟩,
     ⟨(some 16), (.faddr 0 false 1), [.t 15], (some (14, false)), [5, 4]⟩,
     ⟨(some 17), (.load false 1), [.t 16], (some (14, false)), [6, 4]⟩,
     ⟨(some 18), .call, [.f 27, .t 17, .c (.int .i64 (-100000)), .c (.int .i64 100000)], (some (14, false)), [7, 4, 4]⟩,
     ⟨(some 19), (.un .not), [.t 18], (some (14, false)), [8, 4]⟩,
     ⟨(some 20), .pick, [.t 14, .c (.bool true), .t 19], none, [4, 9]⟩,
     ⟨(some 21), .mov, [.t 20], none, [10, 8]⟩,
     ⟨(some 22), (.faddr 5 true 2), [.t 1], (some (21, false)), [11]⟩,
     ⟨(some 23), (.faddr 1 false 1), [.t 22], (some (21, false)), [12, 11]⟩,
     ⟨(some 24), (.load false 1), [.t 23], (some (21, false)), [13, 11]⟩,
     ⟨(some 25), .call, [.f 27, .t 24, .c (.int .i64 (-100000)), .c (.int .i64 100000)], (some (21, false)), [14, 11, 11]⟩,
     ⟨(some 26), (.un .not), [.t 25], (some (21, false)), [15, 11]⟩,
     ⟨(some 27), .pick, [.t 21, .c (.bool true), .t 26], none, [11, 16]⟩] false)
   (.cond (.t 27)
    (.seq
     (.region [⟨(some 2), .mov, [.c (.int .i64 2)], none, []⟩] false)
     .ret)
    .skip))
  (.keep [1] [1] b76k1))
def b76 : DCode :=
 (.seq
  (.region [⟨(some 1), .box, [.t 0], none, []⟩,
    ⟨(some 2), .mov, [.c (.int .i64 0)], none, []⟩] false)
  (.seq
   (.seq
    (.region [⟨(some 4), (.faddr 0 true 4), [.t 1], none, []⟩,
      ⟨(some 5), (.load true 4), [.t 4], none, [0]⟩,
      ⟨(some 6), .call, [.f 24, .t 5], none, [1]⟩,
      ⟨(some 3), .mov, [.t 6], none, [2, 2, 0, 1, 2]⟩] false)
    (.seq
     (.region [⟨(some 7), .mov, [.t 3], none, []⟩,
       ⟨(some 8), (.bin .neq), [.t 7, .c (.int .i64 0)], none, [0]⟩] false)
     (.cond (.t 8)
      (.seq
       (.region [⟨(some 9), .mov, [.t 3], none, []⟩,
         ⟨(some 2), .mov, [.t 9], none, [0, 0]⟩] false)
       .ret)
      .skip)))
   (.keep [1] [1] b76k2)))
def d76 : DFn := ⟨1, 35, [.tmp 2], b76⟩
theorem body76 : d76.body = b76 := rfl
theorem res76 : d76.res = [.tmp 2] := rfl
theorem k76 : chkFn Try.prog Try.f76 d76 = true := by kernel_rfl

/-- guidevane/guidevaneref04.BoxesErr -/
def b59k0 : DCode :=
 (.region [⟨(some 15), .mov, [.t 3], none, []⟩,
   ⟨(some 16), (.bin .add), [.t 15, .c (.int .i64 1)], none, [0]⟩,
   ⟨(some 3), .mov, [.t 16], none, [1, 0, 1]⟩] false)
def b59k1 : DCode :=
 (.seq
  (.block 1
   (.seq
    (.region [⟨(some 17), .movv, [.t 0], none, []⟩,
      ⟨(some 18), .mov, [.t 3], none, []⟩,
      ⟨(some 19), (.iaddr 4), [.t 17, .t 18], none, [0, 1]⟩,
      ⟨(some 20), (.load true 4), [.t 19], none, [2]⟩,
      ⟨(some 21), .call, [.f 24, .t 20], none, [3]⟩,
      ⟨(some 4), .mov, [.t 21], none, [4, 4, 0, 1, 2, 3, 4]⟩] false)
    (.seq
     (.region [⟨(some 22), .mov, [.t 4], none, []⟩,
       ⟨(some 23), (.bin .neq), [.t 22, .c (.int .i64 0)], none, [0]⟩] false)
     (.cond (.t 23)
      (.seq
       (.region [⟨(some 24), .mov, [.t 4], none, []⟩,
         ⟨(some 2), .mov, [.t 24], none, [0, 0]⟩] false)
       .ret)
      .skip))))
  (.keep [0, 3] [] b59k0))
def b59l0 : DCode := .keep [0, 3] []
  (.seq
   (.seq
    (.region [⟨(some 11), .mov, [.t 3], none, []⟩,
      ⟨(some 12), .movv, [.t 0], none, []⟩,
      ⟨(some 13), .len, [.t 12], none, [1]⟩,
      ⟨(some 14), (.bin .lss), [.t 11, .t 13], none, [0, 2]⟩] false)
    (.cond (.t 14)
     .skip
     (.exit 0)))
   (.keep [0, 3] [] b59k1))
def b59k2 : DCode :=
 (.seq
  (.region [⟨(some 2), .mov, [.c (.int .i64 0)], none, []⟩] false)
  .ret)
def b59k3 : DCode :=
 (.seq
  (.seq
   (.region [⟨(some 3), .mov, [.c (.int .i64 0)], none, []⟩] false)
   (.block 0
    (.loop b59l0)))
  (.keep [] [] b59k2))
def b59k4 : DCode :=
 (.seq
  (.seq
   (.region [⟨(some 8), .movv, [.t 0], none, []⟩,
     ⟨(some 9), .len, [.t 8], none, [0]⟩,
     ⟨(some 10), (.bin .gtr), [.t 9, .c (.int .i64 64)], none, [1]⟩] false)
   (.cond (.t 10)
    (.seq
     (.region [⟨(some 2), .mov, [.c (.int .i64 8)], none, []⟩] false)
     .ret)
    .skip))
  (.keep [0] [] b59k3))
def b59 : DCode :=
 (.seq
  (.region [⟨(some 2), .mov, [.c (.int .i64 0)], none, []⟩] false)
  (.seq
   (.seq
    (.region [⟨(some 5), .movv, [.t 0], none, []⟩,
      ⟨(some 6), .len, [.t 5], none, [0]⟩,
      ⟨(some 7), (.bin .eql), [.t 6, .c (.int .i64 0)], none, [1]⟩] false)
    (.cond (.t 7)
     (.seq
      (.region [⟨(some 2), .mov, [.c (.int .i64 10)], none, []⟩] false)
      .ret)
     .skip))
   (.keep [0] [] b59k4)))
def d59 : DFn := ⟨1, 25, [.tmp 2], b59⟩
theorem body59 : d59.body = b59 := rfl
theorem res59 : d59.res = [.tmp 2] := rfl
theorem k59 : chkFn Try.prog Try.f59 d59 = true := by kernel_rfl

/-- guidevane/guidevaneref04.CopyBoxes -/
def b61 : DCode :=
 (.seq
  (.region [⟨(some 2), .mov, [.c (.slc 4 [])], none, []⟩] false)
  (.seq
   (.region [⟨(some 3), (.bsl 4), [], none, []⟩,
     ⟨(some 4), .movv, [.t 0], none, []⟩,
     ⟨(some 5), (.append 4 32 false), [.t 3, .t 4], none, [0, 1]⟩,
     ⟨(some 2), .movv, [.t 5], none, [2, 2, 0, 1, 2]⟩] false)
   .ret))
def d61 : DFn := ⟨1, 6, [.tmp 2], b61⟩
theorem body61 : d61.body = b61 := rfl
theorem res61 : d61.res = [.tmp 2] := rfl
theorem k61 : chkFn Try.prog Try.f61 d61 = true := by kernel_rfl

/-- guidevane/guidevaneref04.Count -/
def b80 : DCode :=
 (.seq
  (.region [⟨(some 1), .box, [.t 0], none, []⟩,
    ⟨(some 2), .mov, [.c (.int .i64 0)], none, []⟩] false)
  (.seq
   (.region [⟨(some 3), (.faddr 0 true 2), [.t 1], none, []⟩,
     ⟨(some 4), (.faddr 1 false 1), [.t 3], none, [0]⟩,
     ⟨(some 5), (.load false 1), [.t 4], none, [1]⟩,
     ⟨(some 6), (.faddr 0 true 2), [.t 1], none, []⟩,
     ⟨(some 7), (.faddr 0 false 1), [.t 6], none, [3]⟩,
     ⟨(some 8), (.load false 1), [.t 7], none, [4]⟩,
     ⟨(some 9), (.bin .sub), [.t 5, .t 8], none, [2, 5]⟩,
     ⟨(some 10), (.bin .add), [.t 9, .c (.int .i64 1)], none, [6]⟩,
     ⟨(some 11), (.faddr 2 true 2), [.t 1], none, []⟩,
     ⟨(some 12), (.faddr 1 false 1), [.t 11], none, [8]⟩,
     ⟨(some 13), (.load false 1), [.t 12], none, [9]⟩,
     ⟨(some 14), (.faddr 2 true 2), [.t 1], none, []⟩,
     ⟨(some 15), (.faddr 0 false 1), [.t 14], none, [11]⟩,
     ⟨(some 16), (.load false 1), [.t 15], none, [12]⟩,
     ⟨(some 17), (.bin .sub), [.t 13, .t 16], none, [10, 13]⟩,
     ⟨(some 18), (.bin .add), [.t 17, .c (.int .i64 1)], none, [14]⟩,
     ⟨(some 19), (.bin .mul), [.t 10, .t 18], none, [7, 15]⟩,
     ⟨(some 2), .mov, [.t 19], none, [16, 0, 1, 2, 3, 4, 5, 6, 7, 8, 9, 10, 11, 12, 13, 14, 15, 16]⟩] false)
   .ret))
def d80 : DFn := ⟨1, 20, [.tmp 2], b80⟩
theorem body80 : d80.body = b80 := rfl
theorem res80 : d80.res = [.tmp 2] := rfl
theorem k80 : chkFn Try.prog Try.f80 d80 = true := by kernel_rfl

end Go.DI

/- Contracts: covers of boxes, of the program and of the reference. No condition. -/
set_option linter.unusedSimpArgs false
set_option maxRecDepth 20000
namespace Go.DI
open Go.Proofs Go.RowKit Sg

/-- A part of a range. -/
def divP (lo hi c : Int) (i : Nat) : Int × Int := (lo + ((i : Int) * (hi - lo + 1)) / c, lo + (((i : Int) + 1) * (hi - lo + 1)) / c - 1)
def oneD (x : Int × Int) : List (Int × Int) := if x.1 ≤ x.2 then [x] else []
def divR (lo hi c : Int) (i : Nat) : List (Int × Int) := ((List.range c.toNat).drop i).flatMap fun (j : Nat) => oneD (divP lo hi c j)
def divL (lo hi c : Int) : List (Int × Int) := divR lo hi c 0
theorem divR_step {lo hi c : Int} {i : Nat} (h : i < c.toNat) : divR lo hi c i = oneD (divP lo hi c i) ++ divR lo hi c (i + 1) := by
  unfold divR
  rw [List.drop_eq_getElem_cons (by simpa using h), List.flatMap_cons, List.getElem_range]
theorem divR_end {lo hi c : Int} {i : Nat} (h : c.toNat ≤ i) : divR lo hi c i = [] := by
  unfold divR
  rw [List.drop_of_length_le (by simpa using h)]
  rfl
theorem divR_length {lo hi c : Int} {i : Nat} : (divR lo hi c i).length ≤ c.toNat := by
  unfold divR
  have := length_flat (l := (List.range c.toNat).drop i) (m := 1) (g := fun (j : Nat) => oneD (divP lo hi c j)) fun x _ => by unfold oneD; split <;> simp
  rw [List.length_drop, List.length_range] at this
  omega

structure DivOk (lo hi c : Int) : Prop where
  a1 : -100000 ≤ lo
  a2 : lo ≤ hi
  a3 : hi ≤ 100000
  a4 : 1 ≤ c ∧ c ≤ 8

theorem div_bd {lo hi c : Int} (h : DivOk lo hi c) {i : Nat} (hi8 : (i : Int) ≤ 8) : (0 ≤ (i : Int) * (hi - lo + 1) ∧ (i : Int) * (hi - lo + 1) ≤ 1600008) ∧ 0 ≤ ((i : Int) * (hi - lo + 1)) / c ∧ ((i : Int) * (hi - lo + 1)) / c ≤ 1600008 := by
  have h1 := h.a1; have h2 := h.a2; have h3 := h.a3; have h4 := h.a4
  have a : 0 ≤ (i : Int) * (hi - lo + 1) := Int.mul_nonneg (by omega) (by omega)
  have b : (i : Int) * (hi - lo + 1) ≤ 8 * 200001 := Int.mul_le_mul hi8 (by omega) (by omega) (by omega)
  refine ⟨⟨a, by omega⟩, Int.ediv_nonneg a (by omega), ?_⟩
  have := Int.ediv_le_self c a
  omega

theorem s_divided {lo hi c : Int} : Contract Try.prog 163 [stI lo hi, .int .i64 c] (.func 172 [] [.ptr (stI lo hi), .ptr (.agg [.int .i64 c])]) := by
  refine contract_run Try.func163 k163 rfl ?_
  simp only [body163, b163, res163, ruI, ssI, sbI, spI, swI, scI, stI, srI, saI, snI, ↓reduceIte, reduceCtorEq, Nat.reduceEqDiff, Nat.reduceAdd, Nat.reduceMul, Nat.reduceSub, Nat.reduceLeDiff, Nat.reduceBEq, Int.reduceToNat, Int.reduceLE, Int.reduceLT, Int.reduceEq, Int.reduceNe, di0, di1, di2, di3, di4, di5, di6, di7, di8, di9, postX_ret, postX_normal, ex_some]

theorem it_divided {lo hi c : Int} (hd : DivOk lo hi c) (l : Nat) :
    BC Try.prog 172 [.yld l, .imm (.ptr (stI lo hi)), .imm (.ptr (.agg [.int .i64 c]))] (lookR [(0, .seq l (false, some ((divL lo hi c).map fun x => [stI x.1 x.2])))]) fun _ R' => seqOver l false R' := by
  have h1 := hd.a1; have h2 := hd.a2; have h3 := hd.a3; have h4 := hd.a4
  refine bc_run Try.func172 k172 rfl rfl ?_
  simp only [body172, b172, res172, b172k0, b172k1, ruI, ssI, sbI, spI, swI, scI, stI, srI, saI, snI, ↓reduceIte, reduceCtorEq, Nat.reduceEqDiff, Nat.reduceAdd, Nat.reduceMul, Nat.reduceSub, Nat.reduceLeDiff, Nat.reduceBEq, Int.reduceToNat, Int.reduceLE, Int.reduceLT, Int.reduceEq, Int.reduceNe, di0, di1, di2, di3, di4, di5, di6, di7, di8, di9, postX_ret, postX_normal, ex_some]
  rw [show IntKind.wrap .i64 (hi - lo) = hi - lo from wrap64 (by omega) (by omega)]
  rw [show IntKind.wrap .i64 (hi - lo + 1) = hi - lo + 1 from wrap64 (by omega) (by omega)]
  refine loop_keep (α := Nat) rfl (fun i => c.toNat - i) (fun i => i ≤ c.toNat)
    (fun i => [(0, .yld l), (1, .imm (.ptr (stI lo hi))), (2, .imm (.ptr (.agg [.int .i64 c]))), (4, .imm (.int .i64 (hi - lo + 1))), (13, .imm (.int .i64 c)), (14, .imm (.int .i64 i))])
    (fun i => [(0, .seq l (false, some ((divR lo hi c i).map fun x => [stI x.1 x.2])))]) 0 (Nat.zero_le _) (by simp only [ruI, ssI, sbI, spI, swI, scI, stI, srI, saI, snI, ↓reduceIte, reduceCtorEq, Nat.reduceEqDiff, Nat.reduceAdd, Nat.reduceMul, Nat.reduceSub, Nat.reduceLeDiff, Nat.reduceBEq, Int.reduceToNat, Int.reduceLE, Int.reduceLT, Int.reduceEq, Int.reduceNe, di0, di1, di2, di3, di4, di5, di6, di7, di8, di9, postX_ret, postX_normal, ex_some] <;> rfl) ?_
  intro i hi8 ih
  simp only [res172, b172k0, b172k1, ruI, ssI, sbI, spI, swI, scI, stI, srI, saI, snI, ↓reduceIte, reduceCtorEq, Nat.reduceEqDiff, Nat.reduceAdd, Nat.reduceMul, Nat.reduceSub, Nat.reduceLeDiff, Nat.reduceBEq, Int.reduceToNat, Int.reduceLE, Int.reduceLT, Int.reduceEq, Int.reduceNe, di0, di1, di2, di3, di4, di5, di6, di7, di8, di9, postX_ret, postX_normal, ex_some]
  split
  case isFalse h =>
    rw [outD_nil res172]
    refine ⟨_, rfl, rfl, .inl ⟨rfl, ?_⟩⟩
    rw [divR_end (by omega)]
    rfl
  rename_i h
  have b1 := div_bd hd (i := i) (by omega)
  have b2 := div_bd hd (i := i + 1) (by omega)
  push_cast at b2
  rw [show IntKind.wrap .i64 ((i : Int) * (hi - lo + 1)) = (i : Int) * (hi - lo + 1) from wrap64 (by omega) (by omega)]
  rw [show IntKind.wrap .i64 ((i : Int) + 1) = (i : Int) + 1 from wrap64 (by omega) (by omega)]
  rw [show IntKind.wrap .i64 (((i : Int) + 1) * (hi - lo + 1)) = ((i : Int) + 1) * (hi - lo + 1) from wrap64 (by omega) (by omega)]
  rw [Int.tdiv_eq_ediv_of_nonneg b1.1.1, Int.tdiv_eq_ediv_of_nonneg b2.1.1]
  rw [divR_step (by omega)]
  unfold oneD divP
  dsimp only
  generalize ((i : Int) * (hi - lo + 1)) / c = q1 at b1 ⊢
  generalize (((i : Int) + 1) * (hi - lo + 1)) / c = q2 at b2 ⊢
  simp only [show IntKind.wrap .i64 (q1) = q1 from wrap64 (by omega) (by omega)]
  simp only [show IntKind.wrap .i64 (q2) = q2 from wrap64 (by omega) (by omega)]
  simp only [show IntKind.wrap .i64 (lo + q1) = lo + q1 from wrap64 (by omega) (by omega)]
  simp only [show IntKind.wrap .i64 (lo + q2) = lo + q2 from wrap64 (by omega) (by omega)]
  simp only [show IntKind.wrap .i64 (lo + q2 - 1) = lo + q2 - 1 from wrap64 (by omega) (by omega)]
  repeat (refine And.intro (by omega) ?_)
  by_cases hq : lo + q1 ≤ lo + q2 - 1
  · simp only [hq, ruI, ssI, sbI, spI, swI, scI, stI, srI, saI, snI, ↓reduceIte, reduceCtorEq, Nat.reduceEqDiff, Nat.reduceAdd, Nat.reduceMul, Nat.reduceSub, Nat.reduceLeDiff, Nat.reduceBEq, Int.reduceToNat, Int.reduceLE, Int.reduceLT, Int.reduceEq, Int.reduceNe, di0, di1, di2, di3, di4, di5, di6, di7, di8, di9, postX_ret, postX_normal, ex_some]
    refine do_yield rfl rfl rfl (fun _ => ?_) ?_
    · simp only [res172, b172k0, b172k1, ruI, ssI, sbI, spI, swI, scI, stI, srI, saI, snI, ↓reduceIte, reduceCtorEq, Nat.reduceEqDiff, Nat.reduceAdd, Nat.reduceMul, Nat.reduceSub, Nat.reduceLeDiff, Nat.reduceBEq, Int.reduceToNat, Int.reduceLE, Int.reduceLT, Int.reduceEq, Int.reduceNe, di0, di1, di2, di3, di4, di5, di6, di7, di8, di9, postX_ret, postX_normal, ex_some]
      simp only [show IntKind.wrap .i64 ((i : Int) + 1) = (i : Int) + 1 from wrap64 (by omega) (by omega)]
      refine ih (i + 1) _ _ (by omega) (by omega) (by simp only [List.nil_append, ruI, ssI, sbI, spI, swI, scI, stI, srI, saI, snI, ↓reduceIte, reduceCtorEq, Nat.reduceEqDiff, Nat.reduceAdd, Nat.reduceMul, Nat.reduceSub, Nat.reduceLeDiff, Nat.reduceBEq, Int.reduceToNat, Int.reduceLE, Int.reduceLT, Int.reduceEq, Int.reduceNe, di0, di1, di2, di3, di4, di5, di6, di7, di8, di9, postX_ret, postX_normal, ex_some] <;> rfl)
    · simp only [res172, b172k0, b172k1, ruI, ssI, sbI, spI, swI, scI, stI, srI, saI, snI, ↓reduceIte, reduceCtorEq, Nat.reduceEqDiff, Nat.reduceAdd, Nat.reduceMul, Nat.reduceSub, Nat.reduceLeDiff, Nat.reduceBEq, Int.reduceToNat, Int.reduceLE, Int.reduceLT, Int.reduceEq, Int.reduceNe, di0, di1, di2, di3, di4, di5, di6, di7, di8, di9, postX_ret, postX_normal, ex_some]
      rw [outD_nil res172]
      exact ⟨_, rfl, rfl, .inr rfl⟩
  · simp only [hq, ruI, ssI, sbI, spI, swI, scI, stI, srI, saI, snI, ↓reduceIte, reduceCtorEq, Nat.reduceEqDiff, Nat.reduceAdd, Nat.reduceMul, Nat.reduceSub, Nat.reduceLeDiff, Nat.reduceBEq, Int.reduceToNat, Int.reduceLE, Int.reduceLT, Int.reduceEq, Int.reduceNe, di0, di1, di2, di3, di4, di5, di6, di7, di8, di9, postX_ret, postX_normal, ex_some]
    refine ih (i + 1) _ _ (by omega) (by omega) (by simp only [List.nil_append, ruI, ssI, sbI, spI, swI, scI, stI, srI, saI, snI, ↓reduceIte, reduceCtorEq, Nat.reduceEqDiff, Nat.reduceAdd, Nat.reduceMul, Nat.reduceSub, Nat.reduceLeDiff, Nat.reduceBEq, Int.reduceToNat, Int.reduceLE, Int.reduceLT, Int.reduceEq, Int.reduceNe, di0, di1, di2, di3, di4, di5, di6, di7, di8, di9, postX_ret, postX_normal, ex_some] <;> rfl)
    
def bxOf (x y : Int × Int) : Bx := ⟨x.1, x.2, y.1, y.2⟩
/-- The boxes of a cover. -/
def coverL (v : Cv) : List Bx := (divL v.b.ll v.b.lh v.parts).flatMap fun x => (divL v.b.fl v.b.fh v.parts).map fun y => bxOf x y

def coverE (v : Cv) : Int := fstE (boxErr v.b) (fstE (if Wi v.parts 1 8 ∧ Wi v.lo (-100000) 100000 ∧ Wi v.hi (-100000) 100000 then 0 else 2) (if v.lo ≤ v.hi then 0 else 9))
theorem coverE_zero {v : Cv} : coverE v = 0 ↔ boxErr v.b = 0 ∧ (1 ≤ v.parts ∧ v.parts ≤ 8) ∧ (-100000 ≤ v.lo ∧ v.lo ≤ 100000) ∧ (-100000 ≤ v.hi ∧ v.hi ≤ 100000) ∧ v.lo ≤ v.hi := by
  unfold coverE
  rw [fstE_zero, fstE_zero]
  by_cases h1 : Wi v.parts 1 8 ∧ Wi v.lo (-100000) 100000 ∧ Wi v.hi (-100000) 100000
  · rw [if_pos h1]
    unfold Wi at h1
    by_cases h2 : v.lo ≤ v.hi
    · rw [if_pos h2]; simp [h1, h2]
    · rw [if_neg h2]; simp [h2]
  · rw [if_neg h1]
    unfold Wi at h1
    constructor
    · intro h; exact absurd h.2.1 (by decide)
    · intro h; exact (h1 ⟨h.2.1, h.2.2.1, h.2.2.2.1⟩).elim

theorem s_coverErr {v : Cv} : Contract Try.prog 133 [scI v] (.int .i64 (coverE v)) := by
  have sb := s_boxErr (b := v.b)
  refine contract_run Try.func133 k133 rfl ?_
  simp only [body133, b133, res133, ruI, ssI, sbI, spI, swI, scI, stI, srI, saI, snI, ↓reduceIte, reduceCtorEq, Nat.reduceEqDiff, Nat.reduceAdd, Nat.reduceMul, Nat.reduceSub, Nat.reduceLeDiff, Nat.reduceBEq, Int.reduceToNat, Int.reduceLE, Int.reduceLT, Int.reduceEq, Int.reduceNe, di0, di1, di2, di3, di4, di5, di6, di7, di8, di9, postX_ret, postX_normal, ex_some]
  refine calls_of sb ?_; simp only [ruI, ssI, sbI, spI, swI, scI, stI, srI, saI, snI, res133, ↓reduceIte, reduceCtorEq, Nat.reduceEqDiff, Nat.reduceAdd, Nat.reduceMul, Nat.reduceSub, Nat.reduceLeDiff, Nat.reduceBEq, Int.reduceToNat, Int.reduceLE, Int.reduceLT, Int.reduceEq, Int.reduceNe, di0, di1, di2, di3, di4, di5, di6, di7, di8, di9, postX_ret, postX_normal, ex_some]
  refine calls_of s_within ?_; simp only [ruI, ssI, sbI, spI, swI, scI, stI, srI, saI, snI, res133, ↓reduceIte, reduceCtorEq, Nat.reduceEqDiff, Nat.reduceAdd, Nat.reduceMul, Nat.reduceSub, Nat.reduceLeDiff, Nat.reduceBEq, Int.reduceToNat, Int.reduceLE, Int.reduceLT, Int.reduceEq, Int.reduceNe, di0, di1, di2, di3, di4, di5, di6, di7, di8, di9, postX_ret, postX_normal, ex_some]
  unfold coverE
  by_cases w1 : Wi v.parts 1 8
  case neg =>
    simp only [w1, ruI, ssI, sbI, spI, swI, scI, stI, srI, saI, snI, ↓reduceIte, reduceCtorEq, Nat.reduceEqDiff, Nat.reduceAdd, Nat.reduceMul, Nat.reduceSub, Nat.reduceLeDiff, Nat.reduceBEq, Int.reduceToNat, Int.reduceLE, Int.reduceLT, Int.reduceEq, Int.reduceNe, di0, di1, di2, di3, di4, di5, di6, di7, di8, di9, postX_ret, postX_normal, ex_some]
    refine calls_of s_unless ?_; simp only [ruI, ssI, sbI, spI, swI, scI, stI, srI, saI, snI, res133, ↓reduceIte, reduceCtorEq, Nat.reduceEqDiff, Nat.reduceAdd, Nat.reduceMul, Nat.reduceSub, Nat.reduceLeDiff, Nat.reduceBEq, Int.reduceToNat, Int.reduceLE, Int.reduceLT, Int.reduceEq, Int.reduceNe, di0, di1, di2, di3, di4, di5, di6, di7, di8, di9, postX_ret, postX_normal, ex_some]
    refine calls_of s_unless ?_; simp only [ruI, ssI, sbI, spI, swI, scI, stI, srI, saI, snI, res133, ↓reduceIte, reduceCtorEq, Nat.reduceEqDiff, Nat.reduceAdd, Nat.reduceMul, Nat.reduceSub, Nat.reduceLeDiff, Nat.reduceBEq, Int.reduceToNat, Int.reduceLE, Int.reduceLT, Int.reduceEq, Int.reduceNe, di0, di1, di2, di3, di4, di5, di6, di7, di8, di9, postX_ret, postX_normal, ex_some]
    refine calls_of (s_first (l := [boxErr v.b, 2, if v.lo ≤ v.hi then 0 else 9]) (by simp)) ?_; simp only [ruI, ssI, sbI, spI, swI, scI, stI, srI, saI, snI, res133, ↓reduceIte, reduceCtorEq, Nat.reduceEqDiff, Nat.reduceAdd, Nat.reduceMul, Nat.reduceSub, Nat.reduceLeDiff, Nat.reduceBEq, Int.reduceToNat, Int.reduceLE, Int.reduceLT, Int.reduceEq, Int.reduceNe, di0, di1, di2, di3, di4, di5, di6, di7, di8, di9, postX_ret, postX_normal, ex_some]
    rw [firstNZ_three]
    simp
  simp only [w1, ruI, ssI, sbI, spI, swI, scI, stI, srI, saI, snI, ↓reduceIte, reduceCtorEq, Nat.reduceEqDiff, Nat.reduceAdd, Nat.reduceMul, Nat.reduceSub, Nat.reduceLeDiff, Nat.reduceBEq, Int.reduceToNat, Int.reduceLE, Int.reduceLT, Int.reduceEq, Int.reduceNe, di0, di1, di2, di3, di4, di5, di6, di7, di8, di9, postX_ret, postX_normal, ex_some]
  refine calls_of s_isLevel ?_; simp only [ruI, ssI, sbI, spI, swI, scI, stI, srI, saI, snI, res133, ↓reduceIte, reduceCtorEq, Nat.reduceEqDiff, Nat.reduceAdd, Nat.reduceMul, Nat.reduceSub, Nat.reduceLeDiff, Nat.reduceBEq, Int.reduceToNat, Int.reduceLE, Int.reduceLT, Int.reduceEq, Int.reduceNe, di0, di1, di2, di3, di4, di5, di6, di7, di8, di9, postX_ret, postX_normal, ex_some]
  by_cases w2 : Wi v.lo (-100000) 100000
  case neg =>
    simp only [w2, ruI, ssI, sbI, spI, swI, scI, stI, srI, saI, snI, ↓reduceIte, reduceCtorEq, Nat.reduceEqDiff, Nat.reduceAdd, Nat.reduceMul, Nat.reduceSub, Nat.reduceLeDiff, Nat.reduceBEq, Int.reduceToNat, Int.reduceLE, Int.reduceLT, Int.reduceEq, Int.reduceNe, di0, di1, di2, di3, di4, di5, di6, di7, di8, di9, postX_ret, postX_normal, ex_some]
    refine calls_of s_unless ?_; simp only [ruI, ssI, sbI, spI, swI, scI, stI, srI, saI, snI, res133, ↓reduceIte, reduceCtorEq, Nat.reduceEqDiff, Nat.reduceAdd, Nat.reduceMul, Nat.reduceSub, Nat.reduceLeDiff, Nat.reduceBEq, Int.reduceToNat, Int.reduceLE, Int.reduceLT, Int.reduceEq, Int.reduceNe, di0, di1, di2, di3, di4, di5, di6, di7, di8, di9, postX_ret, postX_normal, ex_some]
    refine calls_of s_unless ?_; simp only [ruI, ssI, sbI, spI, swI, scI, stI, srI, saI, snI, res133, ↓reduceIte, reduceCtorEq, Nat.reduceEqDiff, Nat.reduceAdd, Nat.reduceMul, Nat.reduceSub, Nat.reduceLeDiff, Nat.reduceBEq, Int.reduceToNat, Int.reduceLE, Int.reduceLT, Int.reduceEq, Int.reduceNe, di0, di1, di2, di3, di4, di5, di6, di7, di8, di9, postX_ret, postX_normal, ex_some]
    refine calls_of (s_first (l := [boxErr v.b, 2, if v.lo ≤ v.hi then 0 else 9]) (by simp)) ?_; simp only [ruI, ssI, sbI, spI, swI, scI, stI, srI, saI, snI, res133, ↓reduceIte, reduceCtorEq, Nat.reduceEqDiff, Nat.reduceAdd, Nat.reduceMul, Nat.reduceSub, Nat.reduceLeDiff, Nat.reduceBEq, Int.reduceToNat, Int.reduceLE, Int.reduceLT, Int.reduceEq, Int.reduceNe, di0, di1, di2, di3, di4, di5, di6, di7, di8, di9, postX_ret, postX_normal, ex_some]
    rw [firstNZ_three]
    simp
  simp only [w2, ruI, ssI, sbI, spI, swI, scI, stI, srI, saI, snI, ↓reduceIte, reduceCtorEq, Nat.reduceEqDiff, Nat.reduceAdd, Nat.reduceMul, Nat.reduceSub, Nat.reduceLeDiff, Nat.reduceBEq, Int.reduceToNat, Int.reduceLE, Int.reduceLT, Int.reduceEq, Int.reduceNe, di0, di1, di2, di3, di4, di5, di6, di7, di8, di9, postX_ret, postX_normal, ex_some]
  refine calls_of s_isLevel ?_; simp only [ruI, ssI, sbI, spI, swI, scI, stI, srI, saI, snI, res133, ↓reduceIte, reduceCtorEq, Nat.reduceEqDiff, Nat.reduceAdd, Nat.reduceMul, Nat.reduceSub, Nat.reduceLeDiff, Nat.reduceBEq, Int.reduceToNat, Int.reduceLE, Int.reduceLT, Int.reduceEq, Int.reduceNe, di0, di1, di2, di3, di4, di5, di6, di7, di8, di9, postX_ret, postX_normal, ex_some]
  refine calls_of s_unless ?_; simp only [ruI, ssI, sbI, spI, swI, scI, stI, srI, saI, snI, res133, ↓reduceIte, reduceCtorEq, Nat.reduceEqDiff, Nat.reduceAdd, Nat.reduceMul, Nat.reduceSub, Nat.reduceLeDiff, Nat.reduceBEq, Int.reduceToNat, Int.reduceLE, Int.reduceLT, Int.reduceEq, Int.reduceNe, di0, di1, di2, di3, di4, di5, di6, di7, di8, di9, postX_ret, postX_normal, ex_some]
  refine calls_of s_unless ?_; simp only [ruI, ssI, sbI, spI, swI, scI, stI, srI, saI, snI, res133, ↓reduceIte, reduceCtorEq, Nat.reduceEqDiff, Nat.reduceAdd, Nat.reduceMul, Nat.reduceSub, Nat.reduceLeDiff, Nat.reduceBEq, Int.reduceToNat, Int.reduceLE, Int.reduceLT, Int.reduceEq, Int.reduceNe, di0, di1, di2, di3, di4, di5, di6, di7, di8, di9, postX_ret, postX_normal, ex_some]
  refine calls_of (s_first (l := [boxErr v.b, if Wi v.hi (-100000) 100000 then 0 else 2, if v.lo ≤ v.hi then 0 else 9]) (by simp)) ?_; simp only [ruI, ssI, sbI, spI, swI, scI, stI, srI, saI, snI, res133, ↓reduceIte, reduceCtorEq, Nat.reduceEqDiff, Nat.reduceAdd, Nat.reduceMul, Nat.reduceSub, Nat.reduceLeDiff, Nat.reduceBEq, Int.reduceToNat, Int.reduceLE, Int.reduceLT, Int.reduceEq, Int.reduceNe, di0, di1, di2, di3, di4, di5, di6, di7, di8, di9, postX_ret, postX_normal, ex_some]
  rw [firstNZ_three]

def covG (v : Cv) (L : List Bx) : List (Nat × Res) :=
  [(1, .box [.imm (.int .i64 v.b.ll), .imm (.int .i64 v.b.lh), .imm (.int .i64 v.b.fl), .imm (.int .i64 v.b.fh), .imm (.int .i64 v.parts), .imm (.int .i64 v.lo), .imm (.int .i64 v.hi)]), (3, .box [.own 1003]), (1003, .tok 4 (L.map sbI))]

def covH (v : Cv) (q : Int × Int) (L : List Bx) : List (Nat × Res) :=
  [(1, .box [.imm (.int .i64 v.b.ll), .imm (.int .i64 v.b.lh), .imm (.int .i64 v.b.fl), .imm (.int .i64 v.b.fh), .imm (.int .i64 v.parts), .imm (.int .i64 v.lo), .imm (.int .i64 v.hi)]), (3, .box [.own 1003]), (4, .box [.imm (.int .i64 q.1), .imm (.int .i64 q.2)]), (1003, .tok 4 (L.map sbI))]

theorem s_cover {v : Cv} (hv : coverE v = 0) : Contract Try.prog 134 [scI v] (.slc 4 ((coverL v).map sbI)) := by
  obtain ⟨hb, hp, -⟩ := coverE_zero.1 hv
  rw [boxErr_zero] at hb
  have d1 : DivOk v.b.ll v.b.lh v.parts := ⟨by omega, by omega, by omega, hp⟩
  have d2 : DivOk v.b.fl v.b.fh v.parts := ⟨by omega, by omega, by omega, hp⟩
  have n1 : (divL v.b.ll v.b.lh v.parts).length ≤ 8 := by
    have := divR_length (lo := v.b.ll) (hi := v.b.lh) (c := v.parts) (i := 0)
    unfold divL
    omega
  have n2 : (divL v.b.fl v.b.fh v.parts).length ≤ 8 := by
    have := divR_length (lo := v.b.fl) (hi := v.b.fh) (c := v.parts) (i := 0)
    unfold divL
    omega
  have i1 := it_divided d1
  have i2 := it_divided d2
  have hcov : coverL v = (divL v.b.ll v.b.lh v.parts).flatMap fun x => (divL v.b.fl v.b.fh v.parts).map fun y => bxOf x y := rfl
  rw [hcov]
  generalize divL v.b.ll v.b.lh v.parts = X at i1 n1 ⊢
  generalize divL v.b.fl v.b.fh v.parts = Y at i2 n2 ⊢
  refine contract_run Try.func134 k134 rfl ?_
  simp only [body134, b134, res134, b134k0, ruI, ssI, sbI, spI, swI, scI, stI, srI, saI, snI, ↓reduceIte, reduceCtorEq, Nat.reduceEqDiff, Nat.reduceAdd, Nat.reduceMul, Nat.reduceSub, Nat.reduceLeDiff, Nat.reduceBEq, Int.reduceToNat, Int.reduceLE, Int.reduceLT, Int.reduceEq, Int.reduceNe, di0, di1, di2, di3, di4, di5, di6, di7, di8, di9, postX_ret, postX_normal, ex_some]
  refine calls_of (s_divided (lo := v.b.ll) (hi := v.b.lh) (c := v.parts)) ?_; simp only [ruI, ssI, sbI, spI, swI, scI, stI, srI, saI, snI, res134, b134k0, ↓reduceIte, reduceCtorEq, Nat.reduceEqDiff, Nat.reduceAdd, Nat.reduceMul, Nat.reduceSub, Nat.reduceLeDiff, Nat.reduceBEq, Int.reduceToNat, Int.reduceLE, Int.reduceLT, Int.reduceEq, Int.reduceNe, di0, di1, di2, di3, di4, di5, di6, di7, di8, di9, postX_ret, postX_normal, ex_some]
  have hflat : ∀ n, ((X.take n).flatMap fun x => Y.map fun y => bxOf x y).length ≤ 64 := by
    intro n
    have h1 := length_flat (l := X.take n) (m := 8) (g := fun x => Y.map fun y => bxOf x y) fun x _ => by rw [List.length_map]; exact n2
    have h2 : (X.take n).length ≤ 8 := by rw [List.length_take]; omega
    omega
  refine range_plain (gf := 172) (first := []) (caps := [.ptr (stI v.b.ll v.b.lh), .ptr (.agg [.int .i64 v.parts])]) (X.map fun (x : Int × Int) => [stI x.1 x.2]) false rfl rfl i1 (by intro x hx; obtain ⟨q, _, rfl⟩ := List.mem_map.1 hx; rfl) rfl (fun n (y : Nat) => y = n)
    (fun y => covG v ((X.take y).flatMap fun x => Y.map fun y => bxOf x y)) 0 rfl (by rw [keepRes_look]; simp only [covG, ruI, ssI, sbI, spI, swI, scI, stI, srI, saI, snI, ↓reduceIte, reduceCtorEq, Nat.reduceEqDiff, Nat.reduceAdd, Nat.reduceMul, Nat.reduceSub, Nat.reduceLeDiff, Nat.reduceBEq, Int.reduceToNat, Int.reduceLE, Int.reduceLT, Int.reduceEq, Int.reduceNe, di0, di1, di2, di3, di4, di5, di6, di7, di8, di9, postX_ret, postX_normal, ex_some] <;> rfl) ?_ ?_
  · rintro n x y hx rfl
    simp only [List.getElem?_map, Option.map_eq_some_iff] at hx
    obtain ⟨q, hq, rfl⟩ := hx
    have hl64 := hflat y
    have htake : (X.take (y + 1)).flatMap (fun x => Y.map fun y => bxOf x y) = ((X.take y).flatMap fun x => Y.map fun y => bxOf x y) ++ Y.map fun y => bxOf q y := by
      rw [List.take_add_one, hq]
      simp
    generalize ((X.take y).flatMap fun x => Y.map fun y => bxOf x y) = L at hl64 htake
    simp only [b134a0, b134r0, b134a1, b134r1, covG, ruI, ssI, sbI, spI, swI, scI, stI, srI, saI, snI, ↓reduceIte, reduceCtorEq, Nat.reduceEqDiff, Nat.reduceAdd, Nat.reduceMul, Nat.reduceSub, Nat.reduceLeDiff, Nat.reduceBEq, Int.reduceToNat, Int.reduceLE, Int.reduceLT, Int.reduceEq, Int.reduceNe, di0, di1, di2, di3, di4, di5, di6, di7, di8, di9, postX_ret, postX_normal, ex_some]
    refine calls_of (s_divided (lo := v.b.fl) (hi := v.b.fh) (c := v.parts)) ?_; simp only [ruI, ssI, sbI, spI, swI, scI, stI, srI, saI, snI, res134, b134k0, ↓reduceIte, reduceCtorEq, Nat.reduceEqDiff, Nat.reduceAdd, Nat.reduceMul, Nat.reduceSub, Nat.reduceLeDiff, Nat.reduceBEq, Int.reduceToNat, Int.reduceLE, Int.reduceLT, Int.reduceEq, Int.reduceNe, di0, di1, di2, di3, di4, di5, di6, di7, di8, di9, postX_ret, postX_normal, ex_some]
    refine range_plain (gf := 172) (first := []) (caps := [.ptr (stI v.b.fl v.b.fh), .ptr (.agg [.int .i64 v.parts])]) (Y.map fun (x : Int × Int) => [stI x.1 x.2]) false rfl rfl i2 (by intro x hx; obtain ⟨q, _, rfl⟩ := List.mem_map.1 hx; rfl) rfl (fun n (z : Nat) => z = n)
      (fun z => covH v q (L ++ (Y.take z).map fun y => bxOf q y)) 0 rfl (by rw [keepRes_look]; simp only [covH, List.take_zero, List.map_nil, List.append_nil, ruI, ssI, sbI, spI, swI, scI, stI, srI, saI, snI, ↓reduceIte, reduceCtorEq, Nat.reduceEqDiff, Nat.reduceAdd, Nat.reduceMul, Nat.reduceSub, Nat.reduceLeDiff, Nat.reduceBEq, Int.reduceToNat, Int.reduceLE, Int.reduceLT, Int.reduceEq, Int.reduceNe, di0, di1, di2, di3, di4, di5, di6, di7, di8, di9, postX_ret, postX_normal, ex_some] <;> rfl) ?_ ?_
    · rintro m w z hw rfl
      simp only [List.getElem?_map, Option.map_eq_some_iff] at hw
      obtain ⟨u, hu, rfl⟩ := hw
      have hlt := (List.getElem?_eq_some_iff.1 hu).1
      have hlen2 : (L ++ (Y.take z).map fun y => bxOf q y).length ≤ 72 := by
        rw [List.length_append, List.length_map, List.length_take]
        omega
      have htake2 : (L ++ (Y.take (z + 1)).map fun y => bxOf q y) = (L ++ (Y.take z).map fun y => bxOf q y) ++ [bxOf q u] := by
        rw [List.take_add_one, hu]
        simp
      generalize (L ++ (Y.take z).map fun y => bxOf q y) = L2 at hlen2 htake2
      simp only [b134a0, b134r0, b134a1, b134r1, covH, ruI, ssI, sbI, spI, swI, scI, stI, srI, saI, snI, ↓reduceIte, reduceCtorEq, Nat.reduceEqDiff, Nat.reduceAdd, Nat.reduceMul, Nat.reduceSub, Nat.reduceLeDiff, Nat.reduceBEq, Int.reduceToNat, Int.reduceLE, Int.reduceLT, Int.reduceEq, Int.reduceNe, di0, di1, di2, di3, di4, di5, di6, di7, di8, di9, postX_ret, postX_normal, ex_some]
      refine ⟨by omega, by omega, z + 1, rfl, ?_⟩
      rw [htake2, List.map_append]
      rfl
    · rintro z _ rfl
      rw [List.length_map, List.take_length, ← htake]
      simp only [b134a0, b134r0, b134a1, b134r1, res134, b134k0, covH, ruI, ssI, sbI, spI, swI, scI, stI, srI, saI, snI, ↓reduceIte, reduceCtorEq, Nat.reduceEqDiff, Nat.reduceAdd, Nat.reduceMul, Nat.reduceSub, Nat.reduceLeDiff, Nat.reduceBEq, Int.reduceToNat, Int.reduceLE, Int.reduceLT, Int.reduceEq, Int.reduceNe, di0, di1, di2, di3, di4, di5, di6, di7, di8, di9, postX_ret, postX_normal, ex_some]
      exact ⟨y + 1, rfl, rfl⟩
  · rintro y _ rfl
    rw [List.length_map, List.take_length]
    simp only [res134, b134k0, covG, ruI, ssI, sbI, spI, swI, scI, stI, srI, saI, snI, ↓reduceIte, reduceCtorEq, Nat.reduceEqDiff, Nat.reduceAdd, Nat.reduceMul, Nat.reduceSub, Nat.reduceLeDiff, Nat.reduceBEq, Int.reduceToNat, Int.reduceLE, Int.reduceLT, Int.reduceEq, Int.reduceNe, di0, di1, di2, di3, di4, di5, di6, di7, di8, di9, postX_ret, postX_normal, ex_some]
end Go.DI

/- Contracts: states that boxes do not cover, of the program and of the reference. No condition. -/
set_option linter.unusedSimpArgs false
set_option maxRecDepth 20000
namespace Go.DI
open Go.Proofs Go.RowKit Sg

theorem s_CoverOf {r : Ru} {v : Cv} : Contract Try.prog 79 [ruI r, scI v] (if fstE (rulesErr r) (coverE v) = 0 then .tup [.slc 4 ((coverL v).map sbI), .int .i64 0] else .tup [.slc 4 [], .int .i64 (fstE (rulesErr r) (coverE v))]) := by
  refine contract_run Try.func79 k79 rfl ?_
  simp only [body79, b79, res79, b79k0, ruI, ssI, sbI, spI, swI, scI, stI, srI, saI, snI, ↓reduceIte, reduceCtorEq, Nat.reduceEqDiff, Nat.reduceAdd, Nat.reduceMul, Nat.reduceSub, Nat.reduceLeDiff, Nat.reduceBEq, Int.reduceToNat, Int.reduceLE, Int.reduceLT, Int.reduceEq, Int.reduceNe, di0, di1, di2, di3, di4, di5, di6, di7, di8, di9, postX_ret, postX_normal, ex_some]
  refine calls_of s_CheckRules ?_; simp only [ruI, ssI, sbI, spI, swI, scI, stI, srI, saI, snI, res79, b79k0, ↓reduceIte, reduceCtorEq, Nat.reduceEqDiff, Nat.reduceAdd, Nat.reduceMul, Nat.reduceSub, Nat.reduceLeDiff, Nat.reduceBEq, Int.reduceToNat, Int.reduceLE, Int.reduceLT, Int.reduceEq, Int.reduceNe, di0, di1, di2, di3, di4, di5, di6, di7, di8, di9, postX_ret, postX_normal, ex_some]
  refine calls_of s_coverErr ?_; simp only [ruI, ssI, sbI, spI, swI, scI, stI, srI, saI, snI, res79, b79k0, ↓reduceIte, reduceCtorEq, Nat.reduceEqDiff, Nat.reduceAdd, Nat.reduceMul, Nat.reduceSub, Nat.reduceLeDiff, Nat.reduceBEq, Int.reduceToNat, Int.reduceLE, Int.reduceLT, Int.reduceEq, Int.reduceNe, di0, di1, di2, di3, di4, di5, di6, di7, di8, di9, postX_ret, postX_normal, ex_some]
  refine calls_of (s_first (l := [rulesErr r, coverE v]) (by simp)) ?_; simp only [ruI, ssI, sbI, spI, swI, scI, stI, srI, saI, snI, res79, b79k0, ↓reduceIte, reduceCtorEq, Nat.reduceEqDiff, Nat.reduceAdd, Nat.reduceMul, Nat.reduceSub, Nat.reduceLeDiff, Nat.reduceBEq, Int.reduceToNat, Int.reduceLE, Int.reduceLT, Int.reduceEq, Int.reduceNe, di0, di1, di2, di3, di4, di5, di6, di7, di8, di9, postX_ret, postX_normal, ex_some]
  rw [firstNZ_two]
  by_cases h : fstE (rulesErr r) (coverE v) = 0
  · simp only [h, ruI, ssI, sbI, spI, swI, scI, stI, srI, saI, snI, ↓reduceIte, reduceCtorEq, Nat.reduceEqDiff, Nat.reduceAdd, Nat.reduceMul, Nat.reduceSub, Nat.reduceLeDiff, Nat.reduceBEq, Int.reduceToNat, Int.reduceLE, Int.reduceLT, Int.reduceEq, Int.reduceNe, di0, di1, di2, di3, di4, di5, di6, di7, di8, di9, postX_ret, postX_normal, ex_some]
    rw [fstE_zero] at h
    refine calls_of (s_cover h.2) ?_; simp only [ruI, ssI, sbI, spI, swI, scI, stI, srI, saI, snI, res79, b79k0, ↓reduceIte, reduceCtorEq, Nat.reduceEqDiff, Nat.reduceAdd, Nat.reduceMul, Nat.reduceSub, Nat.reduceLeDiff, Nat.reduceBEq, Int.reduceToNat, Int.reduceLE, Int.reduceLT, Int.reduceEq, Int.reduceNe, di0, di1, di2, di3, di4, di5, di6, di7, di8, di9, postX_ret, postX_normal, ex_some]
  · simp only [h, ruI, ssI, sbI, spI, swI, scI, stI, srI, saI, snI, ↓reduceIte, reduceCtorEq, Nat.reduceEqDiff, Nat.reduceAdd, Nat.reduceMul, Nat.reduceSub, Nat.reduceLeDiff, Nat.reduceBEq, Int.reduceToNat, Int.reduceLE, Int.reduceLT, Int.reduceEq, Int.reduceNe, di0, di1, di2, di3, di4, di5, di6, di7, di8, di9, postX_ret, postX_normal, ex_some]

theorem fstE_assoc {a b c : Int} : fstE a (fstE b c) = fstE (fstE a b) c := by
  unfold fstE
  by_cases h : a = 0
  · rw [if_pos h, if_pos h]
  · rw [if_neg h, if_neg h, if_neg h]

def inB (b : Bx) (s : Sta) : Bool := decide (Wi s.L b.ll b.lh ∧ Wi s.F b.fl b.fh)
def covd (bs : List Bx) (s : Sta) : Bool := bs.any fun b => inB b s
def flowsF (L : Int) : Int → Nat → List Sta
  | _, 0 => []
  | F, n + 1 => ⟨L, F⟩ :: flowsF L (F + 1) n
def levelsF (fl : Int) (nf : Nat) : Int → Nat → List Sta
  | _, 0 => []
  | L, n + 1 => flowsF L fl nf ++ levelsF fl nf (L + 1) n
def statesB (b : Bx) : List Sta := levelsF b.fl (b.fh - b.fl + 1).toNat b.ll (b.lh - b.ll + 1).toNat
/-- The first state that no box covers. -/
def uncP (b : Bx) (bs : List Bx) : Option Sta := (statesB b).find? fun s => !covd bs s

theorem s_lies {s : Sta} {b : Bx} : Contract Try.prog 137 [ssI s, sbI b] (.bool (inB b s)) := by
  refine contract_run Try.func137 k137 rfl ?_
  simp only [body137, b137, res137, ruI, ssI, sbI, spI, swI, scI, stI, srI, saI, snI, ↓reduceIte, reduceCtorEq, Nat.reduceEqDiff, Nat.reduceAdd, Nat.reduceMul, Nat.reduceSub, Nat.reduceLeDiff, Nat.reduceBEq, Int.reduceToNat, Int.reduceLE, Int.reduceLT, Int.reduceEq, Int.reduceNe, di0, di1, di2, di3, di4, di5, di6, di7, di8, di9, postX_ret, postX_normal, ex_some]
  refine calls_of s_within ?_; simp only [ruI, ssI, sbI, spI, swI, scI, stI, srI, saI, snI, res137, ↓reduceIte, reduceCtorEq, Nat.reduceEqDiff, Nat.reduceAdd, Nat.reduceMul, Nat.reduceSub, Nat.reduceLeDiff, Nat.reduceBEq, Int.reduceToNat, Int.reduceLE, Int.reduceLT, Int.reduceEq, Int.reduceNe, di0, di1, di2, di3, di4, di5, di6, di7, di8, di9, postX_ret, postX_normal, ex_some]
  unfold inB
  by_cases h1 : Wi s.L b.ll b.lh
  · simp only [h1, ruI, ssI, sbI, spI, swI, scI, stI, srI, saI, snI, ↓reduceIte, reduceCtorEq, Nat.reduceEqDiff, Nat.reduceAdd, Nat.reduceMul, Nat.reduceSub, Nat.reduceLeDiff, Nat.reduceBEq, Int.reduceToNat, Int.reduceLE, Int.reduceLT, Int.reduceEq, Int.reduceNe, di0, di1, di2, di3, di4, di5, di6, di7, di8, di9, postX_ret, postX_normal, ex_some]
    refine calls_of s_within ?_; simp only [ruI, ssI, sbI, spI, swI, scI, stI, srI, saI, snI, res137, ↓reduceIte, reduceCtorEq, Nat.reduceEqDiff, Nat.reduceAdd, Nat.reduceMul, Nat.reduceSub, Nat.reduceLeDiff, Nat.reduceBEq, Int.reduceToNat, Int.reduceLE, Int.reduceLT, Int.reduceEq, Int.reduceNe, di0, di1, di2, di3, di4, di5, di6, di7, di8, di9, postX_ret, postX_normal, ex_some]
  · simp only [h1, ruI, ssI, sbI, spI, swI, scI, stI, srI, saI, snI, ↓reduceIte, reduceCtorEq, Nat.reduceEqDiff, Nat.reduceAdd, Nat.reduceMul, Nat.reduceSub, Nat.reduceLeDiff, Nat.reduceBEq, Int.reduceToNat, Int.reduceLE, Int.reduceLT, Int.reduceEq, Int.reduceNe, di0, di1, di2, di3, di4, di5, di6, di7, di8, di9, postX_ret, postX_normal, ex_some]
    simp

theorem s_Covers1 {s : Sta} {b : Bx} : Contract Try.prog 136 [sbI b, .ptr (ssI s)] (.bool (inB b s)) := by
  refine contract_run Try.func136 k136 rfl ?_
  simp only [body136, b136, res136, ruI, ssI, sbI, spI, swI, scI, stI, srI, saI, snI, ↓reduceIte, reduceCtorEq, Nat.reduceEqDiff, Nat.reduceAdd, Nat.reduceMul, Nat.reduceSub, Nat.reduceLeDiff, Nat.reduceBEq, Int.reduceToNat, Int.reduceLE, Int.reduceLT, Int.reduceEq, Int.reduceNe, di0, di1, di2, di3, di4, di5, di6, di7, di8, di9, postX_ret, postX_normal, ex_some]
  refine calls_of (s_lies (s := s) (b := b)) ?_; simp only [ruI, ssI, sbI, spI, swI, scI, stI, srI, saI, snI, res136, ↓reduceIte, reduceCtorEq, Nat.reduceEqDiff, Nat.reduceAdd, Nat.reduceMul, Nat.reduceSub, Nat.reduceLeDiff, Nat.reduceBEq, Int.reduceToNat, Int.reduceLE, Int.reduceLT, Int.reduceEq, Int.reduceNe, di0, di1, di2, di3, di4, di5, di6, di7, di8, di9, postX_ret, postX_normal, ex_some]

def countB (b : Bx) : Int := (b.lh - b.ll + 1) * (b.fh - b.fl + 1)
theorem count_bd {b : Bx} (h : boxErr b = 0) : 0 ≤ countB b ∧ countB b ≤ 400202001 := by
  rw [boxErr_zero] at h
  unfold countB
  refine ⟨Int.mul_nonneg (by omega) (by omega), ?_⟩
  have : (b.lh - b.ll + 1) * (b.fh - b.fl + 1) ≤ 200001 * 2001 := Int.mul_le_mul (by omega) (by omega) (by omega) (by omega)
  omega

def covAE (r : Ru) (b : Bx) (bs : List Bx) : Int := fstE (fstE (rulesErr r) (boxErr b)) (fstE (boxesE bs) (if 4000 < countB b then 8 else 0))
def uncS : Option Sta → Sta | none => ⟨0, 0⟩ | some s => s
def uncE : Option Sta → Int | none => 0 | some _ => 14

theorem s_CoversAll {r : Ru} {b : Bx} {bs : List Bx} (hn : bs.length ≤ 1000000000) : Contract Try.prog 81 [ruI r, sbI b, .slc 4 (bs.map sbI)]
    (if covAE r b bs = 0 then .tup [ssI (uncS (uncP b bs)), .int .i64 (uncE (uncP b bs))] else .tup [ssI ⟨0, 0⟩, .int .i64 (covAE r b bs)]) := by
  refine contract_run Try.func81 k81 rfl ?_
  simp only [body81, b81, res81, b81k0, b81k1, b81k2, b81k3, b81k4, b81k5, b81k6, ruI, ssI, sbI, spI, swI, scI, stI, srI, saI, snI, ↓reduceIte, reduceCtorEq, Nat.reduceEqDiff, Nat.reduceAdd, Nat.reduceMul, Nat.reduceSub, Nat.reduceLeDiff, Nat.reduceBEq, Int.reduceToNat, Int.reduceLE, Int.reduceLT, Int.reduceEq, Int.reduceNe, di0, di1, di2, di3, di4, di5, di6, di7, di8, di9, postX_ret, postX_normal, ex_some]
  refine calls_of s_CheckBox ?_; simp only [ruI, ssI, sbI, spI, swI, scI, stI, srI, saI, snI, res81, b81k0, b81k1, b81k2, b81k3, b81k4, b81k5, b81k6, ↓reduceIte, reduceCtorEq, Nat.reduceEqDiff, Nat.reduceAdd, Nat.reduceMul, Nat.reduceSub, Nat.reduceLeDiff, Nat.reduceBEq, Int.reduceToNat, Int.reduceLE, Int.reduceLT, Int.reduceEq, Int.reduceNe, di0, di1, di2, di3, di4, di5, di6, di7, di8, di9, postX_ret, postX_normal, ex_some]
  refine calls_of (s_boxesErr hn) ?_; simp only [ruI, ssI, sbI, spI, swI, scI, stI, srI, saI, snI, res81, b81k0, b81k1, b81k2, b81k3, b81k4, b81k5, b81k6, ↓reduceIte, reduceCtorEq, Nat.reduceEqDiff, Nat.reduceAdd, Nat.reduceMul, Nat.reduceSub, Nat.reduceLeDiff, Nat.reduceBEq, Int.reduceToNat, Int.reduceLE, Int.reduceLT, Int.reduceEq, Int.reduceNe, di0, di1, di2, di3, di4, di5, di6, di7, di8, di9, postX_ret, postX_normal, ex_some]
  refine calls_of (s_first (l := [fstE (rulesErr r) (boxErr b), boxesE bs]) (by simp)) ?_; simp only [ruI, ssI, sbI, spI, swI, scI, stI, srI, saI, snI, res81, b81k0, b81k1, b81k2, b81k3, b81k4, b81k5, b81k6, ↓reduceIte, reduceCtorEq, Nat.reduceEqDiff, Nat.reduceAdd, Nat.reduceMul, Nat.reduceSub, Nat.reduceLeDiff, Nat.reduceBEq, Int.reduceToNat, Int.reduceLE, Int.reduceLT, Int.reduceEq, Int.reduceNe, di0, di1, di2, di3, di4, di5, di6, di7, di8, di9, postX_ret, postX_normal, ex_some]
  rw [firstNZ_two]
  have hE : covAE r b bs = if fstE (fstE (rulesErr r) (boxErr b)) (boxesE bs) = 0 then (if 4000 < countB b then 8 else 0) else fstE (fstE (rulesErr r) (boxErr b)) (boxesE bs) := by
    unfold covAE
    rw [fstE_assoc]
    rfl
  rw [hE]
  by_cases h : fstE (fstE (rulesErr r) (boxErr b)) (boxesE bs) = 0
  case neg => simp only [h, ruI, ssI, sbI, spI, swI, scI, stI, srI, saI, snI, ↓reduceIte, reduceCtorEq, Nat.reduceEqDiff, Nat.reduceAdd, Nat.reduceMul, Nat.reduceSub, Nat.reduceLeDiff, Nat.reduceBEq, Int.reduceToNat, Int.reduceLE, Int.reduceLT, Int.reduceEq, Int.reduceNe, di0, di1, di2, di3, di4, di5, di6, di7, di8, di9, postX_ret, postX_normal, ex_some]
  simp only [h, ruI, ssI, sbI, spI, swI, scI, stI, srI, saI, snI, ↓reduceIte, reduceCtorEq, Nat.reduceEqDiff, Nat.reduceAdd, Nat.reduceMul, Nat.reduceSub, Nat.reduceLeDiff, Nat.reduceBEq, Int.reduceToNat, Int.reduceLE, Int.reduceLT, Int.reduceEq, Int.reduceNe, di0, di1, di2, di3, di4, di5, di6, di7, di8, di9, postX_ret, postX_normal, ex_some]
  rw [fstE_zero, fstE_zero] at h
  have hc := count_bd h.1.2
  have hb := boxErr_zero.1 h.1.2
  rw [show IntKind.wrap .i64 (b.lh - b.ll) = b.lh - b.ll from wrap64 (by omega) (by omega)]
  rw [show IntKind.wrap .i64 (b.lh - b.ll + 1) = b.lh - b.ll + 1 from wrap64 (by omega) (by omega)]
  rw [show IntKind.wrap .i64 (b.fh - b.fl) = b.fh - b.fl from wrap64 (by omega) (by omega)]
  rw [show IntKind.wrap .i64 (b.fh - b.fl + 1) = b.fh - b.fl + 1 from wrap64 (by omega) (by omega)]
  rw [show (b.lh - b.ll + 1) * (b.fh - b.fl + 1) = countB b from rfl]
  rw [show IntKind.wrap .i64 (countB b) = countB b from wrap64 (by omega) (by omega)]
  by_cases h4 : 4000 < countB b
  · simp only [h4, ruI, ssI, sbI, spI, swI, scI, stI, srI, saI, snI, ↓reduceIte, reduceCtorEq, Nat.reduceEqDiff, Nat.reduceAdd, Nat.reduceMul, Nat.reduceSub, Nat.reduceLeDiff, Nat.reduceBEq, Int.reduceToNat, Int.reduceLE, Int.reduceLT, Int.reduceEq, Int.reduceNe, di0, di1, di2, di3, di4, di5, di6, di7, di8, di9, postX_ret, postX_normal, ex_some]
  simp only [h4, ruI, ssI, sbI, spI, swI, scI, stI, srI, saI, snI, ↓reduceIte, reduceCtorEq, Nat.reduceEqDiff, Nat.reduceAdd, Nat.reduceMul, Nat.reduceSub, Nat.reduceLeDiff, Nat.reduceBEq, Int.reduceToNat, Int.reduceLE, Int.reduceLT, Int.reduceEq, Int.reduceNe, di0, di1, di2, di3, di4, di5, di6, di7, di8, di9, postX_ret, postX_normal, ex_some]
  refine loop_keep (α := Int) rfl (fun L => (b.lh + 1 - L).toNat) (fun L => (b.ll ≤ L ∧ L ≤ b.lh + 1) ∧ uncP b bs = (levelsF b.fl (b.fh - b.fl + 1).toNat L (b.lh + 1 - L).toNat).find? fun s => !covd bs s)
    (fun L => [(2, .imm (.slc 4 (bs.map sbI))), (4, .ref 4 0), (6, .ref 6 0), (9, .imm (.int .i64 L))])
    (fun _ => [(4, .box [.imm (.int .i64 b.ll), .imm (.int .i64 b.lh), .imm (.int .i64 b.fl), .imm (.int .i64 b.fh)]), (6, .box [.imm (.int .i64 0), .imm (.int .i64 0)])]) b.ll ⟨⟨by omega, by omega⟩, by unfold uncP statesB; congr 2; omega⟩ (by simp only [ruI, ssI, sbI, spI, swI, scI, stI, srI, saI, snI, ↓reduceIte, reduceCtorEq, Nat.reduceEqDiff, Nat.reduceAdd, Nat.reduceMul, Nat.reduceSub, Nat.reduceLeDiff, Nat.reduceBEq, Int.reduceToNat, Int.reduceLE, Int.reduceLT, Int.reduceEq, Int.reduceNe, di0, di1, di2, di3, di4, di5, di6, di7, di8, di9, postX_ret, postX_normal, ex_some] <;> rfl) ?_
  rintro L ⟨hL, he⟩ ih
  simp only [res81, b81k0, b81k1, b81k2, b81k3, b81k4, b81k5, b81k6, ruI, ssI, sbI, spI, swI, scI, stI, srI, saI, snI, ↓reduceIte, reduceCtorEq, Nat.reduceEqDiff, Nat.reduceAdd, Nat.reduceMul, Nat.reduceSub, Nat.reduceLeDiff, Nat.reduceBEq, Int.reduceToNat, Int.reduceLE, Int.reduceLT, Int.reduceEq, Int.reduceNe, di0, di1, di2, di3, di4, di5, di6, di7, di8, di9, postX_ret, postX_normal, ex_some]
  split
  case isFalse h5 =>
    rw [show (b.lh + 1 - L).toNat = 0 by omega] at he
    simp only [levelsF, List.find?_nil] at he
    rw [he]
    rfl
  rename_i h5
  rw [show (b.lh + 1 - L).toNat = (b.lh + 1 - (L + 1)).toNat + 1 by omega] at he
  simp only [levelsF] at he
  refine loop_keep (α := Int) rfl (fun F => (b.fh + 1 - F).toNat) (fun F => (b.fl ≤ F ∧ F ≤ b.fh + 1) ∧ uncP b bs = (flowsF L F (b.fh + 1 - F).toNat ++ levelsF b.fl (b.fh - b.fl + 1).toNat (L + 1) (b.lh + 1 - (L + 1)).toNat).find? fun s => !covd bs s)
    (fun F => [(2, .imm (.slc 4 (bs.map sbI))), (4, .ref 4 0), (6, .ref 6 0), (9, .imm (.int .i64 L)), (10, .imm (.int .i64 F))])
    (fun _ => [(4, .box [.imm (.int .i64 b.ll), .imm (.int .i64 b.lh), .imm (.int .i64 b.fl), .imm (.int .i64 b.fh)]), (6, .box [.imm (.int .i64 0), .imm (.int .i64 0)])]) b.fl ⟨⟨by omega, by omega⟩, by rw [he]; congr 3; omega⟩ (by simp only [ruI, ssI, sbI, spI, swI, scI, stI, srI, saI, snI, ↓reduceIte, reduceCtorEq, Nat.reduceEqDiff, Nat.reduceAdd, Nat.reduceMul, Nat.reduceSub, Nat.reduceLeDiff, Nat.reduceBEq, Int.reduceToNat, Int.reduceLE, Int.reduceLT, Int.reduceEq, Int.reduceNe, di0, di1, di2, di3, di4, di5, di6, di7, di8, di9, postX_ret, postX_normal, ex_some] <;> rfl) ?_
  rintro F ⟨hF, he2⟩ ih2
  simp only [res81, b81k0, b81k1, b81k2, b81k3, b81k4, b81k5, b81k6, ruI, ssI, sbI, spI, swI, scI, stI, srI, saI, snI, ↓reduceIte, reduceCtorEq, Nat.reduceEqDiff, Nat.reduceAdd, Nat.reduceMul, Nat.reduceSub, Nat.reduceLeDiff, Nat.reduceBEq, Int.reduceToNat, Int.reduceLE, Int.reduceLT, Int.reduceEq, Int.reduceNe, di0, di1, di2, di3, di4, di5, di6, di7, di8, di9, postX_ret, postX_normal, ex_some]
  split
  case isFalse h6 =>
    rw [show (b.fh + 1 - F).toNat = 0 by omega] at he2
    simp only [flowsF, List.nil_append] at he2
    rw [wrap64 (by omega) (by omega)]
    exact ih (L + 1) _ _ (by omega) ⟨⟨by omega, by omega⟩, he2⟩ (by simp only [ruI, ssI, sbI, spI, swI, scI, stI, srI, saI, snI, ↓reduceIte, reduceCtorEq, Nat.reduceEqDiff, Nat.reduceAdd, Nat.reduceMul, Nat.reduceSub, Nat.reduceLeDiff, Nat.reduceBEq, Int.reduceToNat, Int.reduceLE, Int.reduceLT, Int.reduceEq, Int.reduceNe, di0, di1, di2, di3, di4, di5, di6, di7, di8, di9, postX_ret, postX_normal, ex_some] <;> rfl)
  rename_i h6
  rw [show (b.fh + 1 - F).toNat = (b.fh + 1 - (F + 1)).toNat + 1 by omega] at he2
  simp only [flowsF, List.cons_append, List.find?_cons] at he2
  have hcon := s_ContainsBx (g := 136) (caps := [.ptr (ssI ⟨L, F⟩)]) (p := fun x => inB x ⟨L, F⟩) (l := bs) hn fun x _ => s_Covers1
  refine calls_of hcon ?_; simp only [ruI, ssI, sbI, spI, swI, scI, stI, srI, saI, snI, res81, b81k0, b81k1, b81k2, b81k3, b81k4, b81k5, b81k6, ↓reduceIte, reduceCtorEq, Nat.reduceEqDiff, Nat.reduceAdd, Nat.reduceMul, Nat.reduceSub, Nat.reduceLeDiff, Nat.reduceBEq, Int.reduceToNat, Int.reduceLE, Int.reduceLT, Int.reduceEq, Int.reduceNe, di0, di1, di2, di3, di4, di5, di6, di7, di8, di9, postX_ret, postX_normal, ex_some]
  rw [show (bs.any fun x => inB x ⟨L, F⟩) = covd bs ⟨L, F⟩ from rfl]
  cases hcv : covd bs ⟨L, F⟩
  · rw [hcv] at he2
    simp only [Bool.not_false] at he2
    rw [he2]
    simp only [uncS, uncE, ruI, ssI, sbI, spI, swI, scI, stI, srI, saI, snI, ↓reduceIte, reduceCtorEq, Nat.reduceEqDiff, Nat.reduceAdd, Nat.reduceMul, Nat.reduceSub, Nat.reduceLeDiff, Nat.reduceBEq, Int.reduceToNat, Int.reduceLE, Int.reduceLT, Int.reduceEq, Int.reduceNe, di0, di1, di2, di3, di4, di5, di6, di7, di8, di9, postX_ret, postX_normal, ex_some]
  · rw [hcv] at he2
    simp only [Bool.not_true] at he2
    simp only [ruI, ssI, sbI, spI, swI, scI, stI, srI, saI, snI, ↓reduceIte, reduceCtorEq, Nat.reduceEqDiff, Nat.reduceAdd, Nat.reduceMul, Nat.reduceSub, Nat.reduceLeDiff, Nat.reduceBEq, Int.reduceToNat, Int.reduceLE, Int.reduceLT, Int.reduceEq, Int.reduceNe, di0, di1, di2, di3, di4, di5, di6, di7, di8, di9, postX_ret, postX_normal, ex_some]
    rw [wrap64 (by omega) (by omega)]
    exact ih2 (F + 1) _ _ (by omega) ⟨⟨by omega, by omega⟩, he2⟩ (by simp only [ruI, ssI, sbI, spI, swI, scI, stI, srI, saI, snI, ↓reduceIte, reduceCtorEq, Nat.reduceEqDiff, Nat.reduceAdd, Nat.reduceMul, Nat.reduceSub, Nat.reduceLeDiff, Nat.reduceBEq, Int.reduceToNat, Int.reduceLE, Int.reduceLT, Int.reduceEq, Int.reduceNe, di0, di1, di2, di3, di4, di5, di6, di7, di8, di9, postX_ret, postX_normal, ex_some] <;> rfl)
end Go.DI

/- Contracts: the reference's covers; the statement SurgeCovers. No condition. -/
set_option linter.unusedSimpArgs false
set_option maxRecDepth 20000
namespace Go.DI
open Go.Proofs Go.RowKit Sg

theorem r_BoxErrS {b : Bx} : Contract Try.prog 24 [sbI b] (.int .i64 (boxErr b)) := r_BoxErr

theorem r_CoverErr {v : Cv} : Contract Try.prog 76 [scI v] (.int .i64 (coverE v)) := by
  have rb := r_BoxErrS (b := v.b)
  refine contract_run Try.func76 k76 rfl ?_
  simp only [body76, b76, res76, b76k0, b76k1, b76k2, ruI, ssI, sbI, spI, swI, scI, stI, srI, saI, snI, ↓reduceIte, reduceCtorEq, Nat.reduceEqDiff, Nat.reduceAdd, Nat.reduceMul, Nat.reduceSub, Nat.reduceLeDiff, Nat.reduceBEq, Int.reduceToNat, Int.reduceLE, Int.reduceLT, Int.reduceEq, Int.reduceNe, di0, di1, di2, di3, di4, di5, di6, di7, di8, di9, postX_ret, postX_normal, ex_some]
  refine calls_of rb ?_; simp only [ruI, ssI, sbI, spI, swI, scI, stI, srI, saI, snI, res76, b76k0, b76k1, b76k2, ↓reduceIte, reduceCtorEq, Nat.reduceEqDiff, Nat.reduceAdd, Nat.reduceMul, Nat.reduceSub, Nat.reduceLeDiff, Nat.reduceBEq, Int.reduceToNat, Int.reduceLE, Int.reduceLT, Int.reduceEq, Int.reduceNe, di0, di1, di2, di3, di4, di5, di6, di7, di8, di9, postX_ret, postX_normal, ex_some]
  unfold coverE
  by_cases h1 : boxErr v.b = 0
  case neg =>
    unfold fstE
    simp only [h1, ruI, ssI, sbI, spI, swI, scI, stI, srI, saI, snI, ↓reduceIte, reduceCtorEq, Nat.reduceEqDiff, Nat.reduceAdd, Nat.reduceMul, Nat.reduceSub, Nat.reduceLeDiff, Nat.reduceBEq, Int.reduceToNat, Int.reduceLE, Int.reduceLT, Int.reduceEq, Int.reduceNe, di0, di1, di2, di3, di4, di5, di6, di7, di8, di9, postX_ret, postX_normal, ex_some]
  rw [show fstE (boxErr v.b) _ = _ from if_pos h1]
  simp only [h1, ruI, ssI, sbI, spI, swI, scI, stI, srI, saI, snI, ↓reduceIte, reduceCtorEq, Nat.reduceEqDiff, Nat.reduceAdd, Nat.reduceMul, Nat.reduceSub, Nat.reduceLeDiff, Nat.reduceBEq, Int.reduceToNat, Int.reduceLE, Int.reduceLT, Int.reduceEq, Int.reduceNe, di0, di1, di2, di3, di4, di5, di6, di7, di8, di9, postX_ret, postX_normal, ex_some]
  refine calls_of c_Wi ?_; simp only [ruI, ssI, sbI, spI, swI, scI, stI, srI, saI, snI, res76, b76k0, b76k1, b76k2, ↓reduceIte, reduceCtorEq, Nat.reduceEqDiff, Nat.reduceAdd, Nat.reduceMul, Nat.reduceSub, Nat.reduceLeDiff, Nat.reduceBEq, Int.reduceToNat, Int.reduceLE, Int.reduceLT, Int.reduceEq, Int.reduceNe, di0, di1, di2, di3, di4, di5, di6, di7, di8, di9, postX_ret, postX_normal, ex_some]
  by_cases w1 : Wi v.parts 1 8
  case neg =>
    simp only [w1, ruI, ssI, sbI, spI, swI, scI, stI, srI, saI, snI, ↓reduceIte, reduceCtorEq, Nat.reduceEqDiff, Nat.reduceAdd, Nat.reduceMul, Nat.reduceSub, Nat.reduceLeDiff, Nat.reduceBEq, Int.reduceToNat, Int.reduceLE, Int.reduceLT, Int.reduceEq, Int.reduceNe, di0, di1, di2, di3, di4, di5, di6, di7, di8, di9, postX_ret, postX_normal, ex_some]
    unfold fstE
    simp
  simp only [w1, ruI, ssI, sbI, spI, swI, scI, stI, srI, saI, snI, ↓reduceIte, reduceCtorEq, Nat.reduceEqDiff, Nat.reduceAdd, Nat.reduceMul, Nat.reduceSub, Nat.reduceLeDiff, Nat.reduceBEq, Int.reduceToNat, Int.reduceLE, Int.reduceLT, Int.reduceEq, Int.reduceNe, di0, di1, di2, di3, di4, di5, di6, di7, di8, di9, postX_ret, postX_normal, ex_some]
  refine calls_of c_Wi ?_; simp only [ruI, ssI, sbI, spI, swI, scI, stI, srI, saI, snI, res76, b76k0, b76k1, b76k2, ↓reduceIte, reduceCtorEq, Nat.reduceEqDiff, Nat.reduceAdd, Nat.reduceMul, Nat.reduceSub, Nat.reduceLeDiff, Nat.reduceBEq, Int.reduceToNat, Int.reduceLE, Int.reduceLT, Int.reduceEq, Int.reduceNe, di0, di1, di2, di3, di4, di5, di6, di7, di8, di9, postX_ret, postX_normal, ex_some]
  by_cases w2 : Wi v.lo (-100000) 100000
  case neg =>
    simp only [w2, ruI, ssI, sbI, spI, swI, scI, stI, srI, saI, snI, ↓reduceIte, reduceCtorEq, Nat.reduceEqDiff, Nat.reduceAdd, Nat.reduceMul, Nat.reduceSub, Nat.reduceLeDiff, Nat.reduceBEq, Int.reduceToNat, Int.reduceLE, Int.reduceLT, Int.reduceEq, Int.reduceNe, di0, di1, di2, di3, di4, di5, di6, di7, di8, di9, postX_ret, postX_normal, ex_some]
    unfold fstE
    simp
  simp only [w2, ruI, ssI, sbI, spI, swI, scI, stI, srI, saI, snI, ↓reduceIte, reduceCtorEq, Nat.reduceEqDiff, Nat.reduceAdd, Nat.reduceMul, Nat.reduceSub, Nat.reduceLeDiff, Nat.reduceBEq, Int.reduceToNat, Int.reduceLE, Int.reduceLT, Int.reduceEq, Int.reduceNe, di0, di1, di2, di3, di4, di5, di6, di7, di8, di9, postX_ret, postX_normal, ex_some]
  refine calls_of c_Wi ?_; simp only [ruI, ssI, sbI, spI, swI, scI, stI, srI, saI, snI, res76, b76k0, b76k1, b76k2, ↓reduceIte, reduceCtorEq, Nat.reduceEqDiff, Nat.reduceAdd, Nat.reduceMul, Nat.reduceSub, Nat.reduceLeDiff, Nat.reduceBEq, Int.reduceToNat, Int.reduceLE, Int.reduceLT, Int.reduceEq, Int.reduceNe, di0, di1, di2, di3, di4, di5, di6, di7, di8, di9, postX_ret, postX_normal, ex_some]
  by_cases w3 : Wi v.hi (-100000) 100000
  case neg =>
    simp only [w3, ruI, ssI, sbI, spI, swI, scI, stI, srI, saI, snI, ↓reduceIte, reduceCtorEq, Nat.reduceEqDiff, Nat.reduceAdd, Nat.reduceMul, Nat.reduceSub, Nat.reduceLeDiff, Nat.reduceBEq, Int.reduceToNat, Int.reduceLE, Int.reduceLT, Int.reduceEq, Int.reduceNe, di0, di1, di2, di3, di4, di5, di6, di7, di8, di9, postX_ret, postX_normal, ex_some]
    unfold fstE
    simp
  simp only [w3, ruI, ssI, sbI, spI, swI, scI, stI, srI, saI, snI, ↓reduceIte, reduceCtorEq, Nat.reduceEqDiff, Nat.reduceAdd, Nat.reduceMul, Nat.reduceSub, Nat.reduceLeDiff, Nat.reduceBEq, Int.reduceToNat, Int.reduceLE, Int.reduceLT, Int.reduceEq, Int.reduceNe, di0, di1, di2, di3, di4, di5, di6, di7, di8, di9, postX_ret, postX_normal, ex_some]
  unfold fstE
  by_cases w4 : v.hi < v.lo
  · rw [if_pos w4, if_neg (show ¬ v.lo ≤ v.hi by omega)]
    simp
  · rw [if_neg w4, if_pos (show v.lo ≤ v.hi by omega)]
    simp

theorem r_BoxesErr {bs : List Bx} (hn : bs.length ≤ 1000000000) : Contract Try.prog 59 [.slc 4 (bs.map sbI)] (.int .i64 (boxesE bs)) := by
  refine contract_run Try.func59 k59 rfl ?_
  simp only [body59, b59, res59, b59k0, b59k1, b59k2, b59k3, b59k4, ruI, ssI, sbI, spI, swI, scI, stI, srI, saI, snI, ↓reduceIte, reduceCtorEq, Nat.reduceEqDiff, Nat.reduceAdd, Nat.reduceMul, Nat.reduceSub, Nat.reduceLeDiff, Nat.reduceBEq, Int.reduceToNat, Int.reduceLE, Int.reduceLT, Int.reduceEq, Int.reduceNe, di0, di1, di2, di3, di4, di5, di6, di7, di8, di9, postX_ret, postX_normal, ex_some]
  unfold boxesE fstE
  by_cases h1 : bs.length = 0
  · rw [if_pos (by omega), if_neg (show ¬ 0 < bs.length by omega)]
    rfl
  rw [if_neg (by omega), if_pos (show 0 < bs.length by omega), if_pos rfl]
  by_cases h2 : bs.length ≤ 64
  case neg =>
    rw [if_pos (by omega), if_neg h2]
    rfl
  rw [if_neg (by omega), if_pos h2, if_pos rfl]
  refine loop_keep (α := Nat) rfl (fun i => bs.length - i) (fun i => i ≤ bs.length ∧ scanB bs = scanB (bs.drop i))
    (fun i => [(0, .imm (.slc 4 (bs.map sbI))), (3, .imm (.int .i64 i))]) (fun _ => []) 0 ⟨Nat.zero_le _, rfl⟩ (by simp only [ruI, ssI, sbI, spI, swI, scI, stI, srI, saI, snI, ↓reduceIte, reduceCtorEq, Nat.reduceEqDiff, Nat.reduceAdd, Nat.reduceMul, Nat.reduceSub, Nat.reduceLeDiff, Nat.reduceBEq, Int.reduceToNat, Int.reduceLE, Int.reduceLT, Int.reduceEq, Int.reduceNe, di0, di1, di2, di3, di4, di5, di6, di7, di8, di9, postX_ret, postX_normal, ex_some] <;> rfl) ?_
  intro i ⟨hi, hs⟩ ih
  simp only [res59, b59k0, b59k1, b59k2, b59k3, b59k4, ruI, ssI, sbI, spI, swI, scI, stI, srI, saI, snI, ↓reduceIte, reduceCtorEq, Nat.reduceEqDiff, Nat.reduceAdd, Nat.reduceMul, Nat.reduceSub, Nat.reduceLeDiff, Nat.reduceBEq, Int.reduceToNat, Int.reduceLE, Int.reduceLT, Int.reduceEq, Int.reduceNe, di0, di1, di2, di3, di4, di5, di6, di7, di8, di9, postX_ret, postX_normal, ex_some]
  split
  case isFalse h =>
    rw [List.drop_of_length_le (by omega)] at hs
    rw [hs]
    rfl
  rename_i h
  have hlt : i < bs.length := by omega
  have hd : bs.drop i = bs.getD i default :: bs.drop (i + 1) := by
    rw [List.drop_eq_getElem_cons hlt, List.getD_eq_getElem?_getD]
    simp [hlt]
  rw [hd] at hs
  generalize bs.getD i default = b at hs
  repeat (refine And.intro (by omega) ?_)
  refine calls_of (r_BoxErrS (b := b)) ?_
  simp only [res59, b59k0, b59k1, b59k2, b59k3, b59k4, ruI, ssI, sbI, spI, swI, scI, stI, srI, saI, snI, ↓reduceIte, reduceCtorEq, Nat.reduceEqDiff, Nat.reduceAdd, Nat.reduceMul, Nat.reduceSub, Nat.reduceLeDiff, Nat.reduceBEq, Int.reduceToNat, Int.reduceLE, Int.reduceLT, Int.reduceEq, Int.reduceNe, di0, di1, di2, di3, di4, di5, di6, di7, di8, di9, postX_ret, postX_normal, ex_some]
  rw [show scanB (b :: bs.drop (i + 1)) = if boxErr b = 0 then scanB (bs.drop (i + 1)) else boxErr b from rfl] at hs
  by_cases h3 : boxErr b = 0
  · rw [if_pos h3] at hs
    simp only [h3, ruI, ssI, sbI, spI, swI, scI, stI, srI, saI, snI, ↓reduceIte, reduceCtorEq, Nat.reduceEqDiff, Nat.reduceAdd, Nat.reduceMul, Nat.reduceSub, Nat.reduceLeDiff, Nat.reduceBEq, Int.reduceToNat, Int.reduceLE, Int.reduceLT, Int.reduceEq, Int.reduceNe, di0, di1, di2, di3, di4, di5, di6, di7, di8, di9, postX_ret, postX_normal, ex_some]
    rw [wrap64 (by omega) (by omega)]
    exact ih (i + 1) _ _ (by omega) ⟨by omega, hs⟩ (by simp only [ruI, ssI, sbI, spI, swI, scI, stI, srI, saI, snI, ↓reduceIte, reduceCtorEq, Nat.reduceEqDiff, Nat.reduceAdd, Nat.reduceMul, Nat.reduceSub, Nat.reduceLeDiff, Nat.reduceBEq, Int.reduceToNat, Int.reduceLE, Int.reduceLT, Int.reduceEq, Int.reduceNe, di0, di1, di2, di3, di4, di5, di6, di7, di8, di9, postX_ret, postX_normal, ex_some] <;> rfl)
  · rw [if_neg h3] at hs
    simp only [h3, ruI, ssI, sbI, spI, swI, scI, stI, srI, saI, snI, ↓reduceIte, reduceCtorEq, Nat.reduceEqDiff, Nat.reduceAdd, Nat.reduceMul, Nat.reduceSub, Nat.reduceLeDiff, Nat.reduceBEq, Int.reduceToNat, Int.reduceLE, Int.reduceLT, Int.reduceEq, Int.reduceNe, di0, di1, di2, di3, di4, di5, di6, di7, di8, di9, postX_ret, postX_normal, ex_some]
    rw [hs]

theorem r_CopyBoxes {l : List Bx} (hl : l.length ≤ 1000000000) : Contract Try.prog 61 [.slc 4 (l.map sbI)] (.slc 4 (l.map sbI)) := by
  refine contract_run Try.func61 k61 rfl ?_
  simp only [body61, b61, res61, ruI, ssI, sbI, spI, swI, scI, stI, srI, saI, snI, ↓reduceIte, reduceCtorEq, Nat.reduceEqDiff, Nat.reduceAdd, Nat.reduceMul, Nat.reduceSub, Nat.reduceLeDiff, Nat.reduceBEq, Int.reduceToNat, Int.reduceLE, Int.reduceLT, Int.reduceEq, Int.reduceNe, di0, di1, di2, di3, di4, di5, di6, di7, di8, di9, postX_ret, postX_normal, ex_some]
  omega

theorem r_Count {b : Bx} (h : boxErr b = 0) : Contract Try.prog 80 [sbI b] (.int .i64 (countB b)) := by
  have hc := count_bd h
  have hb := boxErr_zero.1 h
  refine contract_run Try.func80 k80 rfl ?_
  simp only [body80, b80, res80, ruI, ssI, sbI, spI, swI, scI, stI, srI, saI, snI, ↓reduceIte, reduceCtorEq, Nat.reduceEqDiff, Nat.reduceAdd, Nat.reduceMul, Nat.reduceSub, Nat.reduceLeDiff, Nat.reduceBEq, Int.reduceToNat, Int.reduceLE, Int.reduceLT, Int.reduceEq, Int.reduceNe, di0, di1, di2, di3, di4, di5, di6, di7, di8, di9, postX_ret, postX_normal, ex_some]
  simp only [show IntKind.wrap .i64 (b.lh - b.ll) = b.lh - b.ll from wrap64 (by omega) (by omega)]
  simp only [show IntKind.wrap .i64 (b.lh - b.ll + 1) = b.lh - b.ll + 1 from wrap64 (by omega) (by omega)]
  simp only [show IntKind.wrap .i64 (b.fh - b.fl) = b.fh - b.fl from wrap64 (by omega) (by omega)]
  simp only [show IntKind.wrap .i64 (b.fh - b.fl + 1) = b.fh - b.fl + 1 from wrap64 (by omega) (by omega)]
  rw [show (b.lh - b.ll + 1) * (b.fh - b.fl + 1) = countB b from rfl]
  simp only [show IntKind.wrap .i64 (countB b) = countB b from wrap64 (by omega) (by omega)]

theorem inB_eq {b : Bx} {s : Sta} : inB b s = decide (InB b s) := by
  unfold inB
  rw [decide_eq_decide]
  unfold InB Wi
  omega

def scCells (v : Cv) : List DV := [.imm (.int .i64 v.b.ll), .imm (.int .i64 v.b.lh), .imm (.int .i64 v.b.fl), .imm (.int .i64 v.b.fh), .imm (.int .i64 v.parts), .imm (.int .i64 v.lo), .imm (.int .i64 v.hi)]
end Go.DI


/- Contracts of the reference: runs. No condition. -/
import Derived.Test.YtdpfjbghiahbeaaKsGj
import Derived.Test.YtdpfjbghiahbeaaKsGk
/- The reference's functions of runs, and the law of runs, as data. No condition. -/
namespace Go.DI
open Go.Proofs Go.RowKit
/-- guidevane/guidevanebase.CopyInts -/
def b43 : DCode :=
 (.seq
  (.region [⟨(some 2), .mov, [.c (.slc 1 [])], none, []⟩] false)
  (.seq
   (.region [⟨(some 3), (.bsl 1), [], none, []⟩,
     ⟨(some 4), .movv, [.t 0], none, []⟩,
     ⟨(some 5), (.append 1 8 false), [.t 3, .t 4], none, [0, 1]⟩,
     ⟨(some 2), .movv, [.t 5], none, [2, 2, 0, 1, 2]⟩] false)
   .ret))
def d43 : DFn := ⟨1, 6, [.tmp 2], b43⟩
theorem body43 : d43.body = b43 := rfl
theorem res43 : d43.res = [.tmp 2] := rfl
theorem k43 : chkFn Try.prog Try.f43 d43 = true := by kernel_rfl

/-- guidevane/guidevaneref04.BoxStep -/
def b56k0 : DCode :=
 (.seq
  (.region [⟨(some 94), (.faddr 0 true 2), [.t 7], none, []⟩,
    ⟨(some 95), (.faddr 0 false 1), [.t 94], none, [0]⟩,
    ⟨(some 96), (.load false 1), [.t 95], none, [1]⟩,
    ⟨(some 97), .mov, [.t 10], none, []⟩,
    ⟨(some 98), (.mm false), [.t 96, .t 97], none, [2, 3]⟩,
    ⟨(some 99), (.faddr 0 true 2), [.t 7], none, []⟩,
    ⟨(some 100), (.faddr 1 false 1), [.t 99], none, [5]⟩,
    ⟨(some 101), (.load false 1), [.t 100], none, [6]⟩,
    ⟨(some 102), .mov, [.t 11], none, []⟩,
    ⟨(some 103), (.mm true), [.t 101, .t 102], none, [7, 8]⟩,
    ⟨(some 104), (.build [(.imm (.int .i64 0)), (.imm (.int .i64 0))] [(0, 1), (1, 1)]), [.t 98, .t 103], none, [4, 9]⟩,
    ⟨(some 105), (.faddr 0 true 2), [.t 7], none, [0, 1, 2, 3, 4, 5, 6, 7, 8, 9, 10]⟩,
    ⟨none, (.store 2), [.t 105, .t 104], none, [11, 10, 0, 1, 2, 3, 4, 5, 6, 7, 8, 9, 10]⟩] false)
  (.region [⟨(some 106), (.faddr 2 true 2), [.t 7], none, []⟩,
    ⟨(some 107), (.faddr 0 false 1), [.t 106], none, [0]⟩,
    ⟨(some 108), (.load false 1), [.t 107], none, [1]⟩,
    ⟨(some 109), .mov, [.t 12], none, []⟩,
    ⟨(some 110), (.mm false), [.t 108, .t 109], none, [2, 3]⟩,
    ⟨(some 111), (.faddr 2 true 2), [.t 7], none, []⟩,
    ⟨(some 112), (.faddr 1 false 1), [.t 111], none, [5]⟩,
    ⟨(some 113), (.load false 1), [.t 112], none, [6]⟩,
    ⟨(some 114), .mov, [.t 13], none, []⟩,
    ⟨(some 115), (.mm true), [.t 113, .t 114], none, [7, 8]⟩,
    ⟨(some 116), (.build [(.imm (.int .i64 0)), (.imm (.int .i64 0))] [(0, 1), (1, 1)]), [.t 110, .t 115], none, [4, 9]⟩,
    ⟨(some 117), (.faddr 2 true 2), [.t 7], none, [0, 1, 2, 3, 4, 5, 6, 7, 8, 9, 10]⟩,
    ⟨none, (.store 2), [.t 117, .t 116], none, [11, 10, 0, 1, 2, 3, 4, 5, 6, 7, 8, 9, 10]⟩] false))
def b56k1 : DCode :=
 (.region [⟨(some 23), .mov, [.t 9], none, []⟩,
   ⟨(some 24), (.bin .add), [.t 23, .c (.int .i64 1)], none, [0]⟩,
   ⟨(some 9), .mov, [.t 24], none, [1, 0, 1]⟩] false)
def b56k2 : DCode :=
 (.seq
  (.block 1
   (.seq
    (.region [⟨(some 25), (.load true 5), [.t 3], none, []⟩,
      ⟨(some 26), (.faddr 0 true 2), [.t 4], none, []⟩,
      ⟨(some 27), (.faddr 0 false 1), [.t 26], none, [1]⟩,
      ⟨(some 28), (.load false 1), [.t 27], none, [2]⟩,
      ⟨(some 29), (.faddr 2 true 2), [.t 4], none, []⟩,
      ⟨(some 30), (.faddr 0 false 1), [.t 29], none, [4]⟩,
      ⟨(some 31), (.load false 1), [.t 30], none, [5]⟩,
      ⟨(some 32), (.build [(.imm (.int .i64 0)), (.imm (.int .i64 0))] [(0, 1), (1, 1)]), [.t 28, .t 31], none, [3, 6]⟩,
      ⟨(some 33), .mov, [.t 2], none, []⟩,
      ⟨(some 34), .movv, [.t 8], none, []⟩,
      ⟨(some 35), .mov, [.t 9], none, []⟩,
      ⟨(some 36), (.iaddr 1), [.t 34, .t 35], none, [9, 10]⟩,
      ⟨(some 37), (.load false 1), [.t 36], none, [11]⟩,
      ⟨(some 38), .call, [.f 23, .t 25, .t 32, .t 33, .t 37], none, [0, 7, 8, 12]⟩,
      ⟨(some 39), (.field 0 false 1), [.t 38], none, [13]⟩,
      ⟨(some 10), .mov, [.t 39], none, [14, 13, 0, 1, 2, 3, 4, 5, 6, 7, 8, 9, 10, 11, 12, 13, 14]⟩] true)
    (.seq
     (.region [⟨(some 40), (.load true 5), [.t 3], none, []⟩,
       ⟨(some 41), (.faddr 0 true 2), [.t 4], none, []⟩,
       ⟨(some 42), (.faddr 1 false 1), [.t 41], none, [1]⟩,
       ⟨(some 43), (.load false 1), [.t 42], none, [2]⟩,
       ⟨(some 44), (.faddr 2 true 2), [.t 4], none, []⟩,
       ⟨(some 45), (.faddr 1 false 1), [.t 44], none, [4]⟩,
       ⟨(some 46), (.load false 1), [.t 45], none, [5]⟩,
       ⟨(some 47), (.build [(.imm (.int .i64 0)), (.imm (.int .i64 0))] [(0, 1), (1, 1)]), [.t 43, .t 46], none, [3, 6]⟩,
       ⟨(some 48), .mov, [.t 2], none, []⟩,
       ⟨(some 49), .movv, [.t 8], none, []⟩,
       ⟨(some 50), .mov, [.t 9], none, []⟩,
       ⟨(some 51), (.iaddr 1), [.t 49, .t 50], none, [9, 10]⟩,
       ⟨(some 52), (.load false 1), [.t 51], none, [11]⟩,
       ⟨(some 53), .call, [.f 23, .t 40, .t 47, .t 48, .t 52], none, [0, 7, 8, 12]⟩,
       ⟨(some 54), (.field 0 false 1), [.t 53], none, [13]⟩,
       ⟨(some 11), .mov, [.t 54], none, [14, 13, 0, 1, 2, 3, 4, 5, 6, 7, 8, 9, 10, 11, 12, 13, 14]⟩] true)
     (.seq
      (.region [⟨(some 55), (.load true 5), [.t 3], none, []⟩,
        ⟨(some 56), (.faddr 0 true 2), [.t 4], none, []⟩,
        ⟨(some 57), (.faddr 1 false 1), [.t 56], none, [1]⟩,
        ⟨(some 58), (.load false 1), [.t 57], none, [2]⟩,
        ⟨(some 59), (.faddr 2 true 2), [.t 4], none, []⟩,
        ⟨(some 60), (.faddr 0 false 1), [.t 59], none, [4]⟩,
        ⟨(some 61), (.load false 1), [.t 60], none, [5]⟩,
        ⟨(some 62), (.build [(.imm (.int .i64 0)), (.imm (.int .i64 0))] [(0, 1), (1, 1)]), [.t 58, .t 61], none, [3, 6]⟩,
        ⟨(some 63), .mov, [.t 2], none, []⟩,
        ⟨(some 64), .movv, [.t 8], none, []⟩,
        ⟨(some 65), .mov, [.t 9], none, []⟩,
        ⟨(some 66), (.iaddr 1), [.t 64, .t 65], none, [9, 10]⟩,
        ⟨(some 67), (.load false 1), [.t 66], none, [11]⟩,
        ⟨(some 68), .call, [.f 23, .t 55, .t 62, .t 63, .t 67], none, [0, 7, 8, 12]⟩,
        ⟨(some 69), (.field 1 false 1), [.t 68], none, [13]⟩,
        ⟨(some 12), .mov, [.t 69], none, [14, 13, 0, 1, 2, 3, 4, 5, 6, 7, 8, 9, 10, 11, 12, 13, 14]⟩] true)
      (.seq
       (.region [⟨(some 70), (.load true 5), [.t 3], none, []⟩,
         ⟨(some 71), (.faddr 0 true 2), [.t 4], none, []⟩,
         ⟨(some 72), (.faddr 0 false 1), [.t 71], none, [1]⟩,
         ⟨(some 73), (.load false 1), [.t 72], none, [2]⟩,
         ⟨(some 74), (.faddr 2 true 2), [.t 4], none, []⟩,
         ⟨(some 75), (.faddr 1 false 1), [.t 74], none, [4]⟩,
         ⟨(some 76), (.load false 1), [.t 75], none, [5]⟩,
         ⟨(some 77), (.build [(.imm (.int .i64 0)), (.imm (.int .i64 0))] [(0, 1), (1, 1)]), [.t 73, .t 76], none, [3, 6]⟩,
         ⟨(some 78), .mov, [.t 2], none, []⟩,
         ⟨(some 79), .movv, [.t 8], none, []⟩,
         ⟨(some 80), .mov, [.t 9], none, []⟩,
         ⟨(some 81), (.iaddr 1), [.t 79, .t 80], none, [9, 10]⟩,
         ⟨(some 82), (.load false 1), [.t 81], none, [11]⟩,
         ⟨(some 83), .call, [.f 23, .t 70, .t 77, .t 78, .t 82], none, [0, 7, 8, 12]⟩,
         ⟨(some 84), (.field 1 false 1), [.t 83], none, [13]⟩,
         ⟨(some 13), .mov, [.t 84], none, [14, 13, 0, 1, 2, 3, 4, 5, 6, 7, 8, 9, 10, 11, 12, 13, 14]⟩] true)
       (.seq
        (.seq
         (.region [⟨(some 85), .mov, [.t 9], none, []⟩,
           ⟨(some 86), (.bin .eql), [.t 85, .c (.int .i64 0)], none, [0]⟩] false)
         (.cond (.t 86)
          (.region [⟨(some 87), .mov, [.t 10], none, []⟩,
            ⟨(some 88), .mov, [.t 11], none, []⟩,
            ⟨(some 89), (.build [(.imm (.int .i64 0)), (.imm (.int .i64 0))] [(0, 1), (1, 1)]), [.t 87, .t 88], none, [0, 1]⟩,
            ⟨(some 90), .mov, [.t 12], none, []⟩,
            ⟨(some 91), .mov, [.t 13], none, []⟩,
            ⟨(some 92), (.build [(.imm (.int .i64 0)), (.imm (.int .i64 0))] [(0, 1), (1, 1)]), [.t 90, .t 91], none, [3, 4]⟩,
            ⟨(some 93), (.build [(.imm (.int .i64 0)), (.imm (.int .i64 0)), (.imm (.int .i64 0)), (.imm (.int .i64 0))] [(0, 2), (2, 2)]), [.t 89, .t 92], none, [2, 5]⟩,
            ⟨none, (.store 4), [.t 7, .t 93], none, [6, 0, 1, 2, 3, 4, 5, 6]⟩] false)
          .skip))
        (.keep [2, 3, 4, 6, 7, 8, 9, 10, 11, 12, 13] [3, 4, 6, 7] b56k0)))))))
  (.keep [2, 3, 4, 6, 7, 8, 9] [3, 4, 6, 7] b56k1))
def b56l0 : DCode := .keep [2, 3, 4, 6, 7, 8, 9] [3, 4, 6, 7]
  (.seq
   (.seq
    (.region [⟨(some 21), .mov, [.t 9], none, []⟩,
      ⟨(some 22), (.bin .lss), [.t 21, .c (.int .i64 2)], none, [0]⟩] false)
    (.cond (.t 22)
     .skip
     (.exit 0)))
   (.keep [2, 3, 4, 6, 7, 8, 9] [3, 4, 6, 7] b56k2))
def b56k3 : DCode :=
 (.seq
  (.region [⟨(some 118), (.load true 4), [.t 7], none, []⟩,
    ⟨none, (.store 4), [.t 6, .t 118], none, [0, 0]⟩] false)
  .ret)
def b56 : DCode :=
 (.seq
  (.region [⟨(some 3), .box, [.t 0], none, []⟩,
    ⟨(some 4), .box, [.t 1], none, []⟩,
    ⟨(some 6), (.alloc [(.imm (.int .i64 0)), (.imm (.int .i64 0)), (.imm (.int .i64 0)), (.imm (.int .i64 0))]), [], none, []⟩] false)
  (.seq
   (.region [⟨(some 7), (.alloc [(.imm (.int .i64 0)), (.imm (.int .i64 0)), (.imm (.int .i64 0)), (.imm (.int .i64 0))]), [], none, []⟩] false)
   (.seq
    (.region [⟨(some 14), (.faddr 2 true 2), [.t 3], none, []⟩,
      ⟨(some 15), (.faddr 0 false 1), [.t 14], none, [0]⟩,
      ⟨(some 16), (.load false 1), [.t 15], none, [1]⟩,
      ⟨(some 17), (.faddr 2 true 2), [.t 3], none, []⟩,
      ⟨(some 18), (.faddr 1 false 1), [.t 17], none, [3]⟩,
      ⟨(some 19), (.load false 1), [.t 18], none, [4]⟩,
      ⟨(some 20), (.bsl 1), [.t 16, .t 19], none, [2, 5]⟩,
      ⟨(some 8), .movv, [.t 20], none, [6, 0, 1, 2, 3, 4, 5, 6]⟩] false)
    (.seq
     (.seq
      (.region [⟨(some 9), .mov, [.c (.int .i64 0)], none, []⟩] false)
      (.block 0
       (.loop b56l0)))
     (.keep [6, 7] [6, 7] b56k3)))))
def d56 : DFn := ⟨3, 119, [.cell 6 true 4], b56⟩
theorem body56 : d56.body = b56 := rfl
theorem res56 : d56.res = [.cell 6 true 4] := rfl
theorem k56 : chkFn Try.prog Try.f56 d56 = true := by kernel_rfl

/-- guidevane/guidevaneref04.BoxRun -/
def b58k0 : DCode :=
 (.seq
  (.block 1
   (.seq
    (.region [⟨(some 15), (.load true 5), [.t 3], none, []⟩,
      ⟨(some 16), (.load true 4), [.t 4], none, []⟩,
      ⟨(some 17), .movv, [.t 2], none, []⟩,
      ⟨(some 18), .mov, [.t 8], none, []⟩,
      ⟨(some 19), (.iaddr 1), [.t 17, .t 18], none, [2, 3]⟩,
      ⟨(some 20), (.load false 1), [.t 19], none, [4]⟩,
      ⟨(some 21), .call, [.f 56, .t 15, .t 16, .t 20], none, [0, 1, 5]⟩,
      ⟨none, (.store 4), [.t 4, .t 21], none, [6, 6, 0, 1, 2, 3, 4, 5, 6]⟩] true)
    (.region [⟨(some 22), .mov, [.t 7], none, []⟩,
      ⟨(some 23), (.load true 4), [.t 4], none, []⟩,
      ⟨(some 24), (.bsl 4), [.t 23], none, [1]⟩,
      ⟨(some 25), (.append 4 32 false), [.t 22, .t 24], none, [0, 2]⟩,
      ⟨(some 7), .mov, [.t 25], none, [3, 3, 0, 1, 2, 3]⟩] false)))
  (.region [⟨(some 13), .mov, [.t 8], none, []⟩,
    ⟨(some 14), (.bin .add), [.t 13, .c (.int .i64 1)], none, [0]⟩,
    ⟨(some 8), .mov, [.t 14], none, [1, 0, 1]⟩] false))
def b58l0 : DCode := .keep [2, 3, 4, 7, 8] [3, 4, 7, 25]
  (.seq
   (.seq
    (.region [⟨(some 9), .mov, [.t 8], none, []⟩,
      ⟨(some 10), .movv, [.t 2], none, []⟩,
      ⟨(some 11), .len, [.t 10], none, [1]⟩,
      ⟨(some 12), (.bin .lss), [.t 9, .t 11], none, [0, 2]⟩] false)
    (.cond (.t 12)
     .skip
     (.exit 0)))
   (.keep [2, 3, 4, 7, 8] [3, 4, 7, 25] b58k0))
def b58k1 : DCode :=
 (.seq
  (.region [⟨(some 26), .movv, [.t 7], none, []⟩,
    ⟨(some 6), .movv, [.t 26], none, [0, 0]⟩] false)
  .ret)
def b58 : DCode :=
 (.seq
  (.region [⟨(some 3), .box, [.t 0], none, []⟩,
    ⟨(some 4), .box, [.t 1], none, []⟩,
    ⟨(some 6), .mov, [.c (.slc 4 [])], none, []⟩] false)
  (.seq
   (.region [⟨(some 7), (.ntok 4), [.c (.slc 4 [])], none, []⟩] false)
   (.seq
    (.seq
     (.region [⟨(some 8), .mov, [.c (.int .i64 0)], none, []⟩] false)
     (.block 0
      (.loop b58l0)))
    (.keep [7] [7, 25] b58k1))))
def d58 : DFn := ⟨3, 27, [.tmp 6], b58⟩
theorem body58 : d58.body = b58 := rfl
theorem res58 : d58.res = [.tmp 6] := rfl
theorem k58 : chkFn Try.prog Try.f58 d58 = true := by kernel_rfl

end Go.DI

/- Contracts: the reference's runs. No condition. -/
set_option linter.unusedSimpArgs false
namespace Go.DI
open Go.Proofs Go.RowKit Sg

theorem c_CopyInts {a : List Int} (ha : a.length ≤ 1000000000000) : Contract Try.prog 43 [.slc 1 (a.map (.int .i64))] (.slc 1 (a.map (.int .i64))) := by
  refine contract_run Try.func43 k43 rfl ?_
  simp only [body43, b43, res43, ↓reduceIte, reduceCtorEq, Nat.reduceEqDiff, Nat.reduceAdd, Nat.reduceMul, Nat.reduceSub, Nat.reduceLeDiff, Nat.reduceBEq, Int.reduceToNat, Int.reduceLE, Int.reduceLT, Int.reduceEq, Int.reduceNe, di0, di1, di2, di3, di4, di5, di6, di7, di8, di9, postX_ret, postX_normal, ex_some]
  omega

theorem run_round {P : Program} {k : List KF} {Q : Ex → St → Prop} {st : St} {live ids : List Nat} {a c : DCode} (hc : c = .keep live ids a) (h : run P a (.again c :: k) Q (st.keep live ids)) : run P (.loop c) k Q st := by
  subst hc
  exact run_loop h
theorem r_BoxStep {r : Ru} {b : Bx} {load : Int} (hr : Sg.Good r) (h1 : -1000000000 ≤ b.ll ∧ b.ll ≤ 1000000000) (h1' : -1000000000 ≤ b.lh ∧ b.lh ≤ 1000000000) (h2 : -1000 ≤ b.fl ∧ b.fl ≤ 1000) (h2' : -1000 ≤ b.fh ∧ b.fh ≤ 1000) (h3 : 0 ≤ load ∧ load ≤ 1000) :
    Contract Try.prog 56 [ruI r, sbI b, .int .i64 load] (sbI (bstp r b load)) := by
  have k1 := hr.lo; have k2 := hr.le; have k3 := hr.hi
  have c : ∀ (L F k : Int), (-1000000000 ≤ L ∧ L ≤ 1000000000) → (-1000 ≤ F ∧ F ≤ 1000) → (0 ≤ k ∧ k ≤ 100) → Contract Try.prog 23 [ruI r, ssI ⟨L, F⟩, .int .i64 load, .int .i64 k] (ssI (stp r ⟨L, F⟩ load k)) :=
    fun L F k hL hF hk => r_Step hr ⟨hL, hF, h3, hk⟩
  refine contract_run Try.func56 k56 rfl ?_
  simp only [body56, b56, res56, b56k0, b56k1, b56k2, b56k3, ruI, ssI, sbI, spI, swI, scI, stI, srI, saI, snI, ↓reduceIte, reduceCtorEq, Nat.reduceEqDiff, Nat.reduceAdd, Nat.reduceMul, Nat.reduceSub, Nat.reduceLeDiff, Nat.reduceBEq, Int.reduceToNat, Int.reduceLE, Int.reduceLT, Int.reduceEq, Int.reduceNe, di0, di1, di2, di3, di4, di5, di6, di7, di8, di9, postX_ret, postX_normal, ex_some]
  refine run_round rfl ?_
  simp only [res56, b56k0, b56k1, b56k2, b56k3, List.getD_cons_zero, List.getD_cons_succ, ruI, ssI, sbI, spI, swI, scI, stI, srI, saI, snI, ↓reduceIte, reduceCtorEq, Nat.reduceEqDiff, Nat.reduceAdd, Nat.reduceMul, Nat.reduceSub, Nat.reduceLeDiff, Nat.reduceBEq, Int.reduceToNat, Int.reduceLE, Int.reduceLT, Int.reduceEq, Int.reduceNe, di0, di1, di2, di3, di4, di5, di6, di7, di8, di9, postX_ret, postX_normal, ex_some]
  repeat (refine And.intro (by omega) ?_)
  try simp only [List.getD_cons_zero, List.getD_cons_succ, ruI, ssI, sbI, spI, swI, scI, stI, srI, saI, snI, ↓reduceIte, reduceCtorEq, Nat.reduceEqDiff, Nat.reduceAdd, Nat.reduceMul, Nat.reduceSub, Nat.reduceLeDiff, Nat.reduceBEq, Int.reduceToNat, Int.reduceLE, Int.reduceLT, Int.reduceEq, Int.reduceNe, di0, di1, di2, di3, di4, di5, di6, di7, di8, di9, postX_ret, postX_normal, ex_some]
  refine calls_of (c b.ll b.fl r.lo h1 h2 (by omega)) ?_; simp only [ruI, ssI, sbI, spI, swI, scI, stI, srI, saI, snI, res56, b56k0, b56k1, b56k2, b56k3, ↓reduceIte, reduceCtorEq, Nat.reduceEqDiff, Nat.reduceAdd, Nat.reduceMul, Nat.reduceSub, Nat.reduceLeDiff, Nat.reduceBEq, Int.reduceToNat, Int.reduceLE, Int.reduceLT, Int.reduceEq, Int.reduceNe, di0, di1, di2, di3, di4, di5, di6, di7, di8, di9, postX_ret, postX_normal, ex_some]
  repeat (refine And.intro (by omega) ?_)
  try simp only [List.getD_cons_zero, List.getD_cons_succ, ruI, ssI, sbI, spI, swI, scI, stI, srI, saI, snI, ↓reduceIte, reduceCtorEq, Nat.reduceEqDiff, Nat.reduceAdd, Nat.reduceMul, Nat.reduceSub, Nat.reduceLeDiff, Nat.reduceBEq, Int.reduceToNat, Int.reduceLE, Int.reduceLT, Int.reduceEq, Int.reduceNe, di0, di1, di2, di3, di4, di5, di6, di7, di8, di9, postX_ret, postX_normal, ex_some]
  refine calls_of (c b.lh b.fh r.lo h1' h2' (by omega)) ?_; simp only [ruI, ssI, sbI, spI, swI, scI, stI, srI, saI, snI, res56, b56k0, b56k1, b56k2, b56k3, ↓reduceIte, reduceCtorEq, Nat.reduceEqDiff, Nat.reduceAdd, Nat.reduceMul, Nat.reduceSub, Nat.reduceLeDiff, Nat.reduceBEq, Int.reduceToNat, Int.reduceLE, Int.reduceLT, Int.reduceEq, Int.reduceNe, di0, di1, di2, di3, di4, di5, di6, di7, di8, di9, postX_ret, postX_normal, ex_some]
  repeat (refine And.intro (by omega) ?_)
  try simp only [List.getD_cons_zero, List.getD_cons_succ, ruI, ssI, sbI, spI, swI, scI, stI, srI, saI, snI, ↓reduceIte, reduceCtorEq, Nat.reduceEqDiff, Nat.reduceAdd, Nat.reduceMul, Nat.reduceSub, Nat.reduceLeDiff, Nat.reduceBEq, Int.reduceToNat, Int.reduceLE, Int.reduceLT, Int.reduceEq, Int.reduceNe, di0, di1, di2, di3, di4, di5, di6, di7, di8, di9, postX_ret, postX_normal, ex_some]
  refine calls_of (c b.lh b.fl r.lo h1' h2 (by omega)) ?_; simp only [ruI, ssI, sbI, spI, swI, scI, stI, srI, saI, snI, res56, b56k0, b56k1, b56k2, b56k3, ↓reduceIte, reduceCtorEq, Nat.reduceEqDiff, Nat.reduceAdd, Nat.reduceMul, Nat.reduceSub, Nat.reduceLeDiff, Nat.reduceBEq, Int.reduceToNat, Int.reduceLE, Int.reduceLT, Int.reduceEq, Int.reduceNe, di0, di1, di2, di3, di4, di5, di6, di7, di8, di9, postX_ret, postX_normal, ex_some]
  repeat (refine And.intro (by omega) ?_)
  try simp only [List.getD_cons_zero, List.getD_cons_succ, ruI, ssI, sbI, spI, swI, scI, stI, srI, saI, snI, ↓reduceIte, reduceCtorEq, Nat.reduceEqDiff, Nat.reduceAdd, Nat.reduceMul, Nat.reduceSub, Nat.reduceLeDiff, Nat.reduceBEq, Int.reduceToNat, Int.reduceLE, Int.reduceLT, Int.reduceEq, Int.reduceNe, di0, di1, di2, di3, di4, di5, di6, di7, di8, di9, postX_ret, postX_normal, ex_some]
  refine calls_of (c b.ll b.fh r.lo h1 h2' (by omega)) ?_; simp only [ruI, ssI, sbI, spI, swI, scI, stI, srI, saI, snI, res56, b56k0, b56k1, b56k2, b56k3, ↓reduceIte, reduceCtorEq, Nat.reduceEqDiff, Nat.reduceAdd, Nat.reduceMul, Nat.reduceSub, Nat.reduceLeDiff, Nat.reduceBEq, Int.reduceToNat, Int.reduceLE, Int.reduceLT, Int.reduceEq, Int.reduceNe, di0, di1, di2, di3, di4, di5, di6, di7, di8, di9, postX_ret, postX_normal, ex_some]
  simp only [show IntKind.wrap .i64 (0 + 1) = 1 from rfl]
  refine run_round rfl ?_
  simp only [res56, b56k0, b56k1, b56k2, b56k3, List.getD_cons_zero, List.getD_cons_succ, ruI, ssI, sbI, spI, swI, scI, stI, srI, saI, snI, ↓reduceIte, reduceCtorEq, Nat.reduceEqDiff, Nat.reduceAdd, Nat.reduceMul, Nat.reduceSub, Nat.reduceLeDiff, Nat.reduceBEq, Int.reduceToNat, Int.reduceLE, Int.reduceLT, Int.reduceEq, Int.reduceNe, di0, di1, di2, di3, di4, di5, di6, di7, di8, di9, postX_ret, postX_normal, ex_some]
  repeat (refine And.intro (by omega) ?_)
  try simp only [List.getD_cons_zero, List.getD_cons_succ, ruI, ssI, sbI, spI, swI, scI, stI, srI, saI, snI, ↓reduceIte, reduceCtorEq, Nat.reduceEqDiff, Nat.reduceAdd, Nat.reduceMul, Nat.reduceSub, Nat.reduceLeDiff, Nat.reduceBEq, Int.reduceToNat, Int.reduceLE, Int.reduceLT, Int.reduceEq, Int.reduceNe, di0, di1, di2, di3, di4, di5, di6, di7, di8, di9, postX_ret, postX_normal, ex_some]
  refine calls_of (c b.ll b.fl r.hi h1 h2 (by omega)) ?_; simp only [ruI, ssI, sbI, spI, swI, scI, stI, srI, saI, snI, res56, b56k0, b56k1, b56k2, b56k3, ↓reduceIte, reduceCtorEq, Nat.reduceEqDiff, Nat.reduceAdd, Nat.reduceMul, Nat.reduceSub, Nat.reduceLeDiff, Nat.reduceBEq, Int.reduceToNat, Int.reduceLE, Int.reduceLT, Int.reduceEq, Int.reduceNe, di0, di1, di2, di3, di4, di5, di6, di7, di8, di9, postX_ret, postX_normal, ex_some]
  repeat (refine And.intro (by omega) ?_)
  try simp only [List.getD_cons_zero, List.getD_cons_succ, ruI, ssI, sbI, spI, swI, scI, stI, srI, saI, snI, ↓reduceIte, reduceCtorEq, Nat.reduceEqDiff, Nat.reduceAdd, Nat.reduceMul, Nat.reduceSub, Nat.reduceLeDiff, Nat.reduceBEq, Int.reduceToNat, Int.reduceLE, Int.reduceLT, Int.reduceEq, Int.reduceNe, di0, di1, di2, di3, di4, di5, di6, di7, di8, di9, postX_ret, postX_normal, ex_some]
  refine calls_of (c b.lh b.fh r.hi h1' h2' (by omega)) ?_; simp only [ruI, ssI, sbI, spI, swI, scI, stI, srI, saI, snI, res56, b56k0, b56k1, b56k2, b56k3, ↓reduceIte, reduceCtorEq, Nat.reduceEqDiff, Nat.reduceAdd, Nat.reduceMul, Nat.reduceSub, Nat.reduceLeDiff, Nat.reduceBEq, Int.reduceToNat, Int.reduceLE, Int.reduceLT, Int.reduceEq, Int.reduceNe, di0, di1, di2, di3, di4, di5, di6, di7, di8, di9, postX_ret, postX_normal, ex_some]
  repeat (refine And.intro (by omega) ?_)
  try simp only [List.getD_cons_zero, List.getD_cons_succ, ruI, ssI, sbI, spI, swI, scI, stI, srI, saI, snI, ↓reduceIte, reduceCtorEq, Nat.reduceEqDiff, Nat.reduceAdd, Nat.reduceMul, Nat.reduceSub, Nat.reduceLeDiff, Nat.reduceBEq, Int.reduceToNat, Int.reduceLE, Int.reduceLT, Int.reduceEq, Int.reduceNe, di0, di1, di2, di3, di4, di5, di6, di7, di8, di9, postX_ret, postX_normal, ex_some]
  refine calls_of (c b.lh b.fl r.hi h1' h2 (by omega)) ?_; simp only [ruI, ssI, sbI, spI, swI, scI, stI, srI, saI, snI, res56, b56k0, b56k1, b56k2, b56k3, ↓reduceIte, reduceCtorEq, Nat.reduceEqDiff, Nat.reduceAdd, Nat.reduceMul, Nat.reduceSub, Nat.reduceLeDiff, Nat.reduceBEq, Int.reduceToNat, Int.reduceLE, Int.reduceLT, Int.reduceEq, Int.reduceNe, di0, di1, di2, di3, di4, di5, di6, di7, di8, di9, postX_ret, postX_normal, ex_some]
  repeat (refine And.intro (by omega) ?_)
  try simp only [List.getD_cons_zero, List.getD_cons_succ, ruI, ssI, sbI, spI, swI, scI, stI, srI, saI, snI, ↓reduceIte, reduceCtorEq, Nat.reduceEqDiff, Nat.reduceAdd, Nat.reduceMul, Nat.reduceSub, Nat.reduceLeDiff, Nat.reduceBEq, Int.reduceToNat, Int.reduceLE, Int.reduceLT, Int.reduceEq, Int.reduceNe, di0, di1, di2, di3, di4, di5, di6, di7, di8, di9, postX_ret, postX_normal, ex_some]
  refine calls_of (c b.ll b.fh r.hi h1 h2' (by omega)) ?_; simp only [ruI, ssI, sbI, spI, swI, scI, stI, srI, saI, snI, res56, b56k0, b56k1, b56k2, b56k3, ↓reduceIte, reduceCtorEq, Nat.reduceEqDiff, Nat.reduceAdd, Nat.reduceMul, Nat.reduceSub, Nat.reduceLeDiff, Nat.reduceBEq, Int.reduceToNat, Int.reduceLE, Int.reduceLT, Int.reduceEq, Int.reduceNe, di0, di1, di2, di3, di4, di5, di6, di7, di8, di9, postX_ret, postX_normal, ex_some]
  simp only [show IntKind.wrap .i64 (1 + 1) = 2 from rfl]
  refine run_round rfl ?_
  simp only [res56, b56k0, b56k1, b56k2, b56k3, Int.min_self, Int.max_self, bstp, ruI, ssI, sbI, spI, swI, scI, stI, srI, saI, snI, ↓reduceIte, reduceCtorEq, Nat.reduceEqDiff, Nat.reduceAdd, Nat.reduceMul, Nat.reduceSub, Nat.reduceLeDiff, Nat.reduceBEq, Int.reduceToNat, Int.reduceLE, Int.reduceLT, Int.reduceEq, Int.reduceNe, di0, di1, di2, di3, di4, di5, di6, di7, di8, di9, postX_ret, postX_normal, ex_some]
  try rfl

theorem r_BoxRun {r : Ru} {b : Bx} {ls : List Int} (hr : Sg.Good r) (hs : (-1000000 ≤ b.ll ∧ b.ll ≤ 1000000) ∧ (-1000000 ≤ b.lh ∧ b.lh ≤ 1000000) ∧ (-1000 ≤ b.fl ∧ b.fl ≤ 1000) ∧ -1000 ≤ b.fh ∧ b.fh ≤ 1000) (hl : Loads ls) :
    Contract Try.prog 58 [ruI r, sbI b, snI ls] (.slc 4 ((brunL r b ls).map sbI)) := by
  have hl1 := hl.1
  refine contract_run Try.func58 k58 rfl ?_
  simp only [body58, b58, res58, b58k0, b58k1, ruI, ssI, sbI, spI, swI, scI, stI, srI, saI, snI, ↓reduceIte, reduceCtorEq, Nat.reduceEqDiff, Nat.reduceAdd, Nat.reduceMul, Nat.reduceSub, Nat.reduceLeDiff, Nat.reduceBEq, Int.reduceToNat, Int.reduceLE, Int.reduceLT, Int.reduceEq, Int.reduceNe, di0, di1, di2, di3, di4, di5, di6, di7, di8, di9, postX_ret, postX_normal, ex_some]
  refine loop_keep (α := Nat × Bx × List Bx) rfl (fun q => ls.length - q.1) (fun q => q.1 ≤ ls.length ∧ ((-(1000000 + 2000 * (q.1 : Int)) ≤ q.2.1.ll ∧ q.2.1.ll ≤ 1000000 + 2000 * (q.1 : Int)) ∧ (-(1000000 + 2000 * (q.1 : Int)) ≤ q.2.1.lh ∧ q.2.1.lh ≤ 1000000 + 2000 * (q.1 : Int)) ∧ (-1000 ≤ q.2.1.fl ∧ q.2.1.fl ≤ 1000) ∧ -1000 ≤ q.2.1.fh ∧ q.2.1.fh ≤ 1000) ∧ q.2.2.length = q.1 ∧ q.2.2 ++ brunL r q.2.1 (ls.drop q.1) = brunL r b ls)
    (fun q => [(2, .imm (snI ls)), (3, .ref 3 0), (4, .ref 4 0), (7, .own 7), (8, .imm (.int .i64 q.1))])
    (fun q => [(3, .box [.imm (.int .i64 r.I), .imm (.int .i64 r.A), .imm (.int .i64 r.lo), .imm (.int .i64 r.hi), .imm (.int .i64 r.T)]), (4, .box [.imm (.int .i64 q.2.1.ll), .imm (.int .i64 q.2.1.lh), .imm (.int .i64 q.2.1.fl), .imm (.int .i64 q.2.1.fh)]), (7, .tok 4 (q.2.2.map sbI))])
    (0, b, []) ⟨Nat.zero_le _, by simpa using hs, rfl, rfl⟩ (by simp only [ruI, ssI, sbI, spI, swI, scI, stI, srI, saI, snI, ↓reduceIte, reduceCtorEq, Nat.reduceEqDiff, Nat.reduceAdd, Nat.reduceMul, Nat.reduceSub, Nat.reduceLeDiff, Nat.reduceBEq, Int.reduceToNat, Int.reduceLE, Int.reduceLT, Int.reduceEq, Int.reduceNe, di0, di1, di2, di3, di4, di5, di6, di7, di8, di9, postX_ret, postX_normal, ex_some] <;> rfl) ?_
  rintro ⟨i, s1, out⟩ ⟨hi, hb1, hlen, he⟩ ih
  dsimp only at hi hb1 hlen he ⊢
  simp only [res58, b58k0, b58k1, ruI, ssI, sbI, spI, swI, scI, stI, srI, saI, snI, ↓reduceIte, reduceCtorEq, Nat.reduceEqDiff, Nat.reduceAdd, Nat.reduceMul, Nat.reduceSub, Nat.reduceLeDiff, Nat.reduceBEq, Int.reduceToNat, Int.reduceLE, Int.reduceLT, Int.reduceEq, Int.reduceNe, di0, di1, di2, di3, di4, di5, di6, di7, di8, di9, postX_ret, postX_normal, ex_some]
  split
  case isFalse h =>
    have : i = ls.length := by omega
    subst this
    rw [List.drop_length] at he
    simp only [brunL, List.append_nil] at he
    rw [he]
  rename_i h
  have hlt : i < ls.length := by omega
  rw [getD_drop hlt] at he
  have hld := hl.2 _ (getD_mem hlt)
  generalize ls.getD i 0 = load at he hld
  have hb3 := bstp_bd (b := s1) (load := load) (m := 1000000 + 2000 * (i : Int)) hr hb1.1 hb1.2.1 hld
  repeat (refine And.intro (by omega) ?_)
  refine calls_of (r_BoxStep (b := s1) (load := load) hr (by omega) (by omega) (by omega) (by omega) hld) ?_; simp only [ruI, ssI, sbI, spI, swI, scI, stI, srI, saI, snI, res58, b58k0, b58k1, ↓reduceIte, reduceCtorEq, Nat.reduceEqDiff, Nat.reduceAdd, Nat.reduceMul, Nat.reduceSub, Nat.reduceLeDiff, Nat.reduceBEq, Int.reduceToNat, Int.reduceLE, Int.reduceLT, Int.reduceEq, Int.reduceNe, di0, di1, di2, di3, di4, di5, di6, di7, di8, di9, postX_ret, postX_normal, ex_some]
  repeat (refine And.intro (by omega) ?_)
  rw [wrap64 (by omega) (by omega)]
  refine ih (i + 1, bstp r s1 load, out ++ [bstp r s1 load]) _ _ (by dsimp only; omega) ⟨by dsimp only; omega, by dsimp only; omega, by simp [hlen], ?_⟩ (by simp only [ruI, ssI, sbI, spI, swI, scI, stI, srI, saI, snI, ↓reduceIte, reduceCtorEq, Nat.reduceEqDiff, Nat.reduceAdd, Nat.reduceMul, Nat.reduceSub, Nat.reduceLeDiff, Nat.reduceBEq, Int.reduceToNat, Int.reduceLE, Int.reduceLT, Int.reduceEq, Int.reduceNe, di0, di1, di2, di3, di4, di5, di6, di7, di8, di9, postX_ret, postX_normal, ex_some, List.map_append] <;> rfl)
  dsimp only
  rw [← he]
  simp [brunL]
end Go.DI


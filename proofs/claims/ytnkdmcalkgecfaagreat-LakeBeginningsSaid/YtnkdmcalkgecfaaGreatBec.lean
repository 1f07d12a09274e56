/- Contract: slices.Repeat of one flow, 200 times. No condition. -/
import Derived.Test.YtnkdmcalkgecfaaGreatBea
import Derived.Test.YtnkdmcalkgecfaaGreatBeb
import Derived.Test.YtnkdmcalkgecfaaGreatBeGo
set_option linter.unusedSimpArgs false
namespace Go.DI
open Go.Proofs Go.RowKit Lk

theorem c_Mul64 : Contract Tryz.prog 102 [.int .u64 1, .int .u64 200] (.tup [.int .u64 0, .int .u64 200]) := by
  refine contract_run Tryz.func102 k102 rfl ?_
  have a1 : pxI (.bit .and) [.int .u64 1, .int .u64 4294967295] = some (.int .u64 1) := rfl
  have a2 : pxI (.bit .and) [.int .u64 200, .int .u64 4294967295] = some (.int .u64 200) := rfl
  have a0 : pxI (.bit .and) [.int .u64 0, .int .u64 4294967295] = some (.int .u64 0) := rfl
  have s1 : pxI (.sh .shr) [.int .u64 1, .int .u64 32] = some (.int .u64 0) := rfl
  have s2 : pxI (.sh .shr) [.int .u64 200, .int .u64 32] = some (.int .u64 0) := rfl
  have s0 : pxI (.sh .shr) [.int .u64 0, .int .u64 32] = some (.int .u64 0) := rfl
  have w2 : IntKind.u64.wrap 200 = 200 := rfl
  have w0 : IntKind.u64.wrap 0 = 0 := rfl
  simp only [body102, b102, res102, optK, a1, a2, a0, s1, s2, s0, w2, w0, Int.reduceMul, Int.reduceAdd, Int.one_mul, Int.zero_mul, Int.mul_zero, Int.add_zero, limI, limsI, tskI, hgtI, lkE, ↓reduceIte, reduceCtorEq, Nat.reduceEqDiff, Nat.reduceAdd, Nat.reduceMul, Nat.reduceSub, Nat.reduceLeDiff, Nat.reduceBEq, Int.reduceToNat, Int.reduceLE, Int.reduceLT, Int.reduceEq, Int.reduceNe, di]
theorem c_Mul : Contract Tryz.prog 74 [.int .u64 1, .int .u64 200] (.tup [.int .u64 0, .int .u64 200]) := by
  refine contract_run Tryz.func74 k74 rfl ?_
  simp only [body74, b74, res74, b74k0, limI, limsI, tskI, hgtI, lkE, ↓reduceIte, reduceCtorEq, Nat.reduceEqDiff, Nat.reduceAdd, Nat.reduceMul, Nat.reduceSub, Nat.reduceLeDiff, Nat.reduceBEq, Int.reduceToNat, Int.reduceLE, Int.reduceLT, Int.reduceEq, Int.reduceNe, di]
  refine calls_of c_Mul64 ?_; simp only [limI, limsI, tskI, hgtI, res74, b74k0, lkE, ↓reduceIte, reduceCtorEq, Nat.reduceEqDiff, Nat.reduceAdd, Nat.reduceMul, Nat.reduceSub, Nat.reduceLeDiff, Nat.reduceBEq, Int.reduceToNat, Int.reduceLE, Int.reduceLT, Int.reduceEq, Int.reduceNe, di]
theorem p_Repeat {x : Flow} : Contract Tryz.prog 44 [.slc 3 [flI x], .int .i64 200] (.slc 3 ((List.replicate 200 x).map flI)) := by
  refine ⟨⟨_, _, Tryz.func44, rfl, by kernel_rfl⟩, fun w S vs hst hl hrd => ?_⟩
  match vs, hl with
  | [v0, v1], _ =>
    have r0 := hrd 0 _ _ rfl rfl
    have r1 := hrd 1 _ _ rfl rfl
    cases r1
    cases r0 with
    | slc _ _ b o cap c hc hs hz hr ha =>
      have hx : ∀ i, i < 3 → S b (o + i) ∧ w.cell? ⟨b, o + i, none⟩ = some (c i) := fun i hi => hs i hi
      have hM : Calls Tryz.prog 74 #[.int .u64 1, .int .u64 200] w fun e w' => e = .returned (.tuple #[.int .u64 0, .int .u64 200]) ∧ Below w.heap.size w w' := by
        have := c_Mul.2 w (fun _ _ => False) [.int .u64 1, .int .u64 200] (fun _ _ h => h.elim) rfl (by
          intro i d v h1 h2
          match i with
          | 0 => cases h1; cases h2; exact .int _ _
          | 1 => cases h1; cases h2; exact .int _ _
          | i + 2 => simp at h1)
        refine this.mono ?_
        rintro e w' ⟨v, S', rfl, hb, _, _, _, hr⟩
        refine ⟨?_, hb⟩
        cases hr with
        | tup _ us hul hur =>
          match us, hul with
          | [u0, u1], _ =>
            have k0 := hur 0 _ _ rfl rfl
            have k1 := hur 1 _ _ rfl rfl
            cases k0; cases k1; rfl
      have hcell : ∀ j y, (flI x).cells[j]? = some y → Rd w S y (c j) ∧ (c j).oneCell' = true := fun j y hy => by
        have h1 := hr 0 (flI x) j y rfl hy
        have h2 := ha 0 (flI x) j y rfl hy
        rw [Nat.zero_mul, Nat.zero_add] at h1 h2
        exact ⟨h1, h2⟩
      have h1 : ∀ i, i < 3 → (c i).oneCell' = true := fun i hi => by
        rcases (show i = 0 ∨ i = 1 ∨ i = 2 by omega) with rfl | rfl | rfl
        · exact (hcell 0 _ rfl).2
        · exact (hcell 1 _ rfl).2
        · exact (hcell 2 _ rfl).2
      have hbw : b < w.heap.size := hst _ _ (hx 0 (by decide)).1
      have hW := rep_walk w b o cap (fun i => c (i % 3)) hbw (fun i hi => by rw [Nat.mod_eq_of_lt hi]; exact (hx i hi).2) (fun i => h1 _ (Nat.mod_lt _ (by decide))) hM
      refine hW.mono ?_
      rintro e w' ⟨N, rfl, F⟩
      have hin : ∀ b o, S b o → b < w.heap.size := hst
      have hE : Ext w S w' (fun q t => S q t ∨ (q = N ∧ t < 600)) := ⟨fun _ _ h => .inl h, fun q t h => F.below.cell (p := ⟨q, t, none⟩) (hst _ _ h)⟩
      refine ⟨_, fun q t => S q t ∨ (q = N ∧ t < 600), rfl, F.below, fun _ _ h => .inl h, fun q t h => ?_, fun q t h => ?_, ?_⟩
      · rcases h with h | ⟨rfl, _⟩
        · exact .inl h
        · exact .inr F.le
      · rcases h with h | ⟨rfl, _⟩
        · exact Nat.lt_of_lt_of_le (hst _ _ h) F.below.size
        · exact F.lt
      · have hlen : ((List.replicate 200 x).map flI).length = 200 := by rw [List.length_map, List.length_replicate]
        have hget : ∀ (i : Nat) (e : IV), ((List.replicate 200 x).map flI)[i]? = some e → i < 200 ∧ e = flI x := fun i e he => by
          rw [List.map_replicate, List.getElem?_replicate] at he
          split at he
          · rename_i hlt; cases he; exact ⟨hlt, rfl⟩
          · cases he
        have := Rd.slc (w := w') (S := fun q t => S q t ∨ (q = N ∧ t < 600)) 3 ((List.replicate 200 x).map flI) N 0 200 (fun j => c (j % 3)) (Nat.le_of_eq hlen) (fun i hi => by
            rw [hlen] at hi
            rw [Nat.zero_add]
            refine ⟨.inr ⟨rfl, by omega⟩, ?_⟩
            rw [F.at' i (by omega)]
            show some (c (i % 3 % 3)) = _
            rw [Nat.mod_mod])
          (fun i e he => by rw [(hget i e he).2]; rfl)
          (fun i e j y he hy => by
            obtain ⟨_, rfl⟩ := hget i e he
            have hj : j < 3 := (List.getElem?_eq_some_iff.1 hy).1
            rw [show (i * 3 + j) % 3 = j by omega]
            exact (hcell j y hy).1.mono hE)
          (fun i e j y he hy => by
            obtain ⟨_, rfl⟩ := hget i e he
            have hj : j < 3 := (List.getElem?_eq_some_iff.1 hy).1
            rw [show (i * 3 + j) % 3 = j by omega]
            exact (hcell j y hy).2)
        rw [hlen] at this
        exact this
end Go.DI


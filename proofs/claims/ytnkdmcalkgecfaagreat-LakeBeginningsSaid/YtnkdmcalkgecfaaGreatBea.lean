/- Contract: slices.Repeat of one flow. No condition. -/
import Derived.Test.YtnkdmcalkgecfaaGreatPeGe
import Derived.Test.YtnkdmcalkgecfaaGreatProg
import Derived.Test.YtnkdmcalkgecfaaGreatBeGg
import Derived.KernelRfl
import Derived.WalkKit
import Derived.Laws.IdiomCopy
import Derived.Laws.MakeOwn
import Derived.Lib.SlBuf
import Derived.Deep.LoopGhost
import Derived.StillTailTactics
import Derived.RegionTactic
import Derived.BigRegion
import Derived.OwnWalk
set_option linter.unusedSimpArgs false
namespace Go.DI
open Go.Proofs Go.RowKit

section
variable {P : Program}
/-- A copy between slices of parts of three cells. -/
theorem run_copy3 (w : World) (dT sT ty elem : TypeId) (b o dLen dCap : Nat) (a : Addr) (sLen sCap : Nat) (cs : List Value)
    (hu : P.underlying dT = some (.slice elem)) (hs : (P.info? elem).map (·.size) = some 3) (hn : cs.length = Nat.min sLen dLen * 3)
    (hsrc : ∀ j v, cs[j]? = some v → w.cell? (a.add j) = some v) (hc : ∀ j, j < cs.length → (w.cell? ⟨b, o + j, none⟩).isSome = true) (hf : ∀ j, j < cs.length → w.frozen? ⟨b, o + j, none⟩ = false) (h1 : ∀ v ∈ cs, v.oneCell' = true) :
    (Builtin.copy_ #[dT, sT] ty #[.slice (some ⟨b, o, none⟩) dLen dCap, .slice (some a) sLen sCap]).run P w = .ok (goInt (Nat.min sLen dLen)) (w.setCells b o cs) := by
  have hl := run_loadCells_list (P := P) w a cs hsrc
  have hst := run_storeCells_cells (P := P) b o cs 0 w (by simpa using hc) (by simpa using hf) h1
  cases hq : P.info? elem with
  | none => simp [hq] at hs
  | some i =>
    have hi : i.size = 3 := by simpa [hq] using hs
    have e : Nat.min sLen dLen * 3 = cs.length := hn.symm
    simp [Builtin.copy_, run_underlying hu, Builtin.lenOf, Builtin.firstCells, sizeOf, typeInfo, hq, hi, e, hl, hst]
end
/-- A new row of parts of three cells is filled from the front: the first n parts are all alike. -/
structure Fil (w : World) (N : Nat) (c : Nat → Value) (n : Nat) (wr : World) : Prop where
  below : Below w.heap.size w wr
  le : w.heap.size ≤ N
  lt : N < wr.heap.size
  has : ∀ j, j < 600 → (wr.cell? ⟨N, j, none⟩).isSome = true ∧ wr.frozen? ⟨N, j, none⟩ = false
  at' : ∀ j, j < 3 * n → wr.cell? ⟨N, j, none⟩ = some (c (j % 3))
theorem setCells_below {b B : Nat} (hb : B ≤ b) : ∀ (vs : List Value) (o : Nat) (a w : World), Below B a w → Below B a (w.setCells b o vs)
  | [], _, _, _, h => h
  | v :: r, o, a, _, h => setCells_below hb r (o + 1) a _ (h.setCell (p := ⟨b, o, none⟩) hb v)
theorem setCells_size (b : Nat) : ∀ (vs : List Value) (o : Nat) (w : World), (w.setCells b o vs).heap.size = w.heap.size
  | [], _, _ => rfl
  | v :: r, o, _ => by rw [World.setCells, setCells_size b r (o + 1)]; simp [World.setCell]
/-- The cells of k parts. -/
def partsL (c : Nat → Value) (k : Nat) : List Value := (List.range (k * 3)).map fun j => c (j % 3)
theorem partsL_len {c : Nat → Value} {k : Nat} : (partsL c k).length = k * 3 := by simp [partsL]
theorem partsL_get {c : Nat → Value} {k j : Nat} {v : Value} (h : (partsL c k)[j]? = some v) : j < k * 3 ∧ v = c (j % 3) := by
  unfold partsL at h
  rw [List.getElem?_map, Option.map_eq_some_iff] at h
  obtain ⟨x, hx, rfl⟩ := h
  obtain ⟨h1, h2⟩ := List.getElem?_eq_some_iff.1 hx
  simp at h1 h2
  subst h2
  exact ⟨h1, rfl⟩
theorem Fil.more {w : World} {N : Nat} {c : Nat → Value} {n k : Nat} {wr : World} (h : Fil w N c n wr) (hk : n + k ≤ 200) : Fil w N c (n + k) (wr.setCells N (n * 3) (partsL c k)) := by
  have hl := partsL_len (c := c) (k := k)
  refine ⟨setCells_below h.le _ _ _ _ h.below, h.le, by rw [setCells_size]; exact h.lt, fun j hj => ⟨?_, ?_⟩, fun j hj => ?_⟩
  · by_cases hin : n * 3 ≤ j ∧ j < n * 3 + k * 3
    · have := World.cell?_setCells_in N (partsL c k) (n * 3) wr (fun i hi => (h.has (n * 3 + i) (by omega)).1) (j - n * 3) (by omega)
      rw [show n * 3 + (j - n * 3) = j by omega] at this
      rw [this]; rfl
    · rw [World.cell?_setCells_out N _ _ _ _ (fun _ _ => by show j < _ ∨ _ ≤ j; omega)]
      exact (h.has j hj).1
  · rw [World.frozen?_setCells]; exact (h.has j hj).2
  · by_cases hin : n * 3 ≤ j
    · have := World.cell?_setCells_in N (partsL c k) (n * 3) wr (fun i hi => (h.has (n * 3 + i) (by omega)).1) (j - n * 3) (by omega)
      rw [show n * 3 + (j - n * 3) = j by omega] at this
      rw [this]
      obtain ⟨_, e⟩ := partsL_get (List.getElem?_eq_getElem (l := partsL c k) (i := j - n * 3) (by omega))
      rw [e, show (j - n * 3) % 3 = j % 3 by omega]
    · rw [World.cell?_setCells_out N _ _ _ _ (fun _ _ => by show j < _ ∨ _ ≤ j; omega)]
      exact h.at' j (by omega)
theorem fil_start {w w' : World} {c : Nat → Value} {cs : Array Value} {e : TypeId} (hb : Below w.heap.size w w') (hs : cs.size = 600) : Fil w w'.heap.size c 0 (w'.alloc (.cells cs e)) := by
  have hg : (w'.alloc (.cells cs e)).heap[w'.heap.size]? = some (.cells cs e) := by show (w'.heap.push _)[w'.heap.size]? = _; simp
  refine ⟨hb.alloc hb.size _, hb.size, (Array.getElem?_eq_some_iff.1 hg).1, fun j hj => ⟨?_, ?_⟩, fun j hj => by omega⟩
  · unfold World.cell?; rw [hg]; simp [hs, hj]
  · unfold World.frozen?; rw [hg]; simp
theorem Fil.drew {w : World} {N : Nat} {c : Nat → Value} {n : Nat} {wr : World} (h : Fil w N c n wr) : Fil w N c n wr.drew := ⟨h.below.drew, h.le, h.lt, h.has, h.at'⟩
theorem rep_copy1 {P : Program} {w w' : World} {b o cap : Nat} {c : Nat → Value} {cs : Array Value} {e dT ty : TypeId} (hu : P.underlying dT = some (.slice e)) (hs : (P.info? e).map (·.size) = some 3)
    (hb : Below w.heap.size w w') (hbw : b < w.heap.size) (hc : ∀ i, i < 3 → w.cell? ⟨b, o + i, none⟩ = some (c i)) (h1 : ∀ i, (c i).oneCell' = true) (h6 : cs.size = 600) :
    ∃ W1, (Builtin.copy_ #[dT, dT] ty #[.slice (some ⟨w'.heap.size, 0, none⟩) 200 200, .slice (some ⟨b, o, none⟩) 1 cap]).run P (w'.alloc (.cells cs e)) = .ok (.int .i64 1) W1 ∧ Aside (Fil w w'.heap.size c 1 W1) := by
  have F0 := fil_start (c := c) (e := e) hb h6
  have hl : (partsL c 1).length = 3 := partsL_len
  refine ⟨_, run_copy3 (P := P) _ dT dT ty e w'.heap.size 0 200 200 ⟨b, o, none⟩ 1 cap (partsL c 1) hu hs (by rw [hl]; rfl) (fun j v hj => ?_) (fun j hj => ?_) (fun j hj => ?_) (fun v hv => ?_), ?_⟩
  · obtain ⟨h2, rfl⟩ := partsL_get hj
    have e1 : (⟨b, o, none⟩ : Addr).add j = ⟨b, o + j, none⟩ := by unfold Addr.add; split <;> simp_all
    rw [e1, F0.below.cell (p := ⟨b, o + j, none⟩) hbw, hc j (by omega), show j % 3 = j by omega]
  · rw [Nat.zero_add]; exact (F0.has j (by omega)).1
  · rw [Nat.zero_add]; exact (F0.has j (by omega)).2
  · obtain ⟨j, hj⟩ := List.getElem?_of_mem hv
    obtain ⟨_, rfl⟩ := partsL_get hj
    exact h1 _
  · have := F0.more (k := 1) (by decide)
    exact this
theorem rep_copy2 {P : Program} {w : World} {N n : Nat} {c : Nat → Value} {wr : World} {e dT ty : TypeId} (hu : P.underlying dT = some (.slice e)) (hs : (P.info? e).map (·.size) = some 3)
    (F : Fil w N c n wr) (h1 : ∀ i, (c i).oneCell' = true) (hn : n < 200) :
    ∃ W2, (Builtin.copy_ #[dT, dT] ty #[.slice (some ⟨N, n * 3, none⟩) (200 - n) (200 - n), .slice (some ⟨N, 0, none⟩) n 200]).run P wr = .ok (.int .i64 (Nat.min n (200 - n) : Nat)) W2 ∧ Aside (Fil w N c (n + Nat.min n (200 - n)) W2) := by
  have hm : Nat.min n (200 - n) ≤ n ∧ Nat.min n (200 - n) ≤ 200 - n := ⟨Nat.min_le_left _ _, Nat.min_le_right _ _⟩
  generalize hk : Nat.min n (200 - n) = k at *
  have hl : (partsL c k).length = k * 3 := partsL_len
  have hr := run_copy3 (P := P) wr dT dT ty e N (n * 3) (200 - n) (200 - n) ⟨N, 0, none⟩ n 200 (partsL c k) hu hs (by rw [hl, hk]) (fun j v hj => by
      obtain ⟨h2, rfl⟩ := partsL_get hj
      have e1 : (⟨N, 0, none⟩ : Addr).add j = ⟨N, j, none⟩ := by unfold Addr.add; split <;> simp_all
      rw [e1]
      exact F.at' j (by omega))
    (fun j hj => (F.has _ (by omega)).1) (fun j hj => (F.has _ (by omega)).2) (fun v hv => by
      obtain ⟨j, hj⟩ := List.getElem?_of_mem hv
      obtain ⟨_, rfl⟩ := partsL_get hj
      exact h1 _)
  rw [hk] at hr
  exact ⟨_, hr, F.more (by omega)⟩
theorem slice_hi {P : Program} {W : World} {t e : TypeId} (ht : P.underlying t = some (.slice e)) (hz : ∀ w, (Go.sizeOf e).run P w = .ok 3 w) (N n : Nat) (h0 : 1 ≤ n) (hn : n < 200) :
    (Instr.slice t (.slice (some ⟨N, 0, none⟩) 200 200) (some (.int .i64 (n : Int))) none none).run P W = .ok (.slice (some ⟨N, n * 3, none⟩) (200 - n) (200 - n)) W := by
  have ht' : P.underlying t = some (.slice (P.elem t)) := by simp [Program.elem, ht]
  have he : P.elem t = e := by simp [Program.elem, ht]
  rw [run_slice_l W t _ _ _ ht' .i64 _ (by omega) (by omega), he, hz]
  simp only [Result.andThen, sliced, Addr.add, Int.toNat_natCast]
  have h1 : ¬ (200 - n = 0) := by omega
  have h2 : ¬ n * 3 = 0 := by omega
  have h3 : ¬ 200 = n := by omega
  simp [h1, h2, h3]
theorem slice_lo {P : Program} {W : World} {t e : TypeId} (ht : P.underlying t = some (.slice e)) (hz : ∀ w, (Go.sizeOf e).run P w = .ok 3 w) (N n : Nat) (hn : n < 200) :
    (Instr.slice t (.slice (some ⟨N, 0, none⟩) 200 200) none (some (.int .i64 (n : Int))) none).run P W = .ok (.slice (some ⟨N, 0, none⟩) n 200) W := by
  have ht' : P.underlying t = some (.slice (P.elem t)) := by simp [Program.elem, ht]
  have he : P.elem t = e := by simp [Program.elem, ht]
  rw [run_slice_h W t _ _ _ ht' .i64 _ (by omega) (by omega), he, hz]
  simp [Result.andThen, sliced, Addr.add]
end Go.DI
namespace Go.Proofs
open Go.RowKit Go.DI Go.Lib
set_option maxHeartbeats 4000000 in
set_option maxRecDepth 100000 in
theorem rep_walk (w : World) (b o cap : Nat) (c : Nat → Value) (hbw : b < w.heap.size) (hc : ∀ i, i < 3 → w.cell? ⟨b, o + i, none⟩ = some (c i)) (h1 : ∀ i, (c i).oneCell' = true)
    (hM : Calls Tryz.prog 74 #[.int .u64 1, .int .u64 200] w fun e w' => e = .returned (.tuple #[.int .u64 0, .int .u64 200]) ∧ Below w.heap.size w w') :
    Calls Tryz.prog 44 #[.slice (some ⟨b, o, none⟩) 1 cap, .int .i64 200] w fun e w' => ∃ N, e = .returned (.slice (some ⟨N, 0, none⟩) 200 200) ∧ Fil w N c 200 w' := by
  have hu := Tryz.underlying35
  have hinfo : (Tryz.prog.info? 63).map (fun i => (i.zero, i.size, i.bytes)) = some (some (.agg #[.int .i64 0, .int .i64 0, .int .i64 0]), 3, 24) := by kernel_rfl
  obtain ⟨i0, hi, hz0, hz1, hz2⟩ := info_parts hinfo
  have hs3 : (Tryz.prog.info? 63).map (·.size) = some 3 := by rw [hi]; simp [hz1]
  have hsz : ∀ w, (Go.sizeOf 63).run Tryz.prog w = .ok 3 w := fun w => by simp [Go.sizeOf, typeInfo, hi, hz1]
  have hmk : ∀ W : World, (Instr.makeSlice 35 (.int .i64 200) (.int .i64 200)).run Tryz.prog W = .ok (.slice (some ⟨W.heap.size, 0, none⟩) 200 200) (W.alloc (.cells (madeCells #[.int .i64 0, .int .i64 0, .int .i64 0] 600) 63)) := fun W => by
    have := run_make (P := Tryz.prog) W 35 63 i0 _ hu hi hz0 .i64 .i64 200 200 (by decide) (by decide) (by rw [hz2]; decide) (by decide)
    rw [hz1] at this
    exact this
  go_enter Tryz.func44, Tryz.ntmps44
  go_wp2_with (go_at_call 74; refine hM.mono ?_; rintro e w' ⟨rfl, hb⟩)
  obtain ⟨W1, hr1, F1⟩ := rep_copy1 (P := Tryz.prog) (ty := 3) (cap := cap) (cs := madeCells #[.int .i64 0, .int .i64 0, .int .i64 0] 600) hu hs3 hb hbw hc h1 (size_madeCells _ _)
  rw [hr1]
  go_wp2
  go_loopg [8] 199 (fun g s8 wr => ∃ n : Nat, 1 ≤ n ∧ n ≤ 200 ∧ g = 200 - n ∧ s8 = .int .i64 n ∧ Aside (Fil w w'.heap.size c n wr))
  case atStart => exact ⟨1, by omega, by omega, rfl, rfl, F1⟩
  case round =>
    obtain ⟨n, hn1, hn2, rfl, rfl, F⟩ := hrel
    by_cases hlt : n < 200
    · have hltz : (n : Int) < 200 := by omega
      have hsl1 := fun W => slice_hi (P := Tryz.prog) (W := W) hu hsz w'.heap.size n hn1 hlt
      have hsl2 := fun W => slice_lo (P := Tryz.prog) (W := W) hu hsz w'.heap.size n hlt
      obtain ⟨W2, hr2, F2⟩ := rep_copy2 (P := Tryz.prog) (ty := 3) hu hs3 F.out.drew h1 hlt
      go_wp2
      go_region
      have hm : Nat.min n (200 - n) ≤ 200 - n ∧ 1 ≤ Nat.min n (200 - n) := ⟨Nat.min_le_right _ _, Nat.le_min.2 ⟨hn1, by omega⟩⟩
      clear hr2
      generalize Nat.min n (200 - n) = k at *
      have hw : Go.RowKit.wrap64 ((n : Int) + (k : Int)) = ((n + k : Nat) : Int) := by
        have := IntKind.wrap_i64 ((n : Int) + (k : Int))
        unfold Go.RowKit.wrap64
        omega
      rw [hw]
      go_wp2
      go_roundg (200 - (n + k))
      case measure => omega
      case rel => exact ⟨n + k, by omega, by omega, rfl, rfl, F2⟩
    · have hge : ¬ (n : Int) < 200 := by omega
      obtain rfl : n = 200 := by omega
      go_wp2
      go_ret
      exact ⟨_, rfl, F.out⟩
end Go.Proofs


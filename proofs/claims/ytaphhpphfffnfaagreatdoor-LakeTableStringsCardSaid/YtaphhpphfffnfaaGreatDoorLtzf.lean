/- What the parameters' types of the statements about the strings of lakes hold, as data. No condition. -/
import Derived.Test.YtaphhpphfffnfaaGreatDoorLtGl
import Derived.Test.YtaphhpphfffnfaaGreatDoorLtze
set_option maxRecDepth 100000
namespace Go.DI
open Go.Proofs Go.Proofs.YtaphhpphfffnfaaGreatDoor Go.RowKit Lk

theorem rep_int {m : Nat} {xs : List IV} (h : RepF Tryz.prog (m + 1) 3 xs) : ∃ n : Int, xs = [.int .i64 n] ∧ In64 n := repF_int Tryz.underlying3 h
theorem arg_string {m : Nat} {xs : List IV} (h : RepF Tryz.prog (m + 1) 9 xs) : ∃ s : ByteArray, mkE Tryz.prog 9 xs = .str s := by
  obtain ⟨s, rfl⟩ := repF_string Tryz.underlying9 h
  exact ⟨s, mkE_one Tryz.underlying9 (fun _ k => by cases k)⟩
theorem arg_knotB {m : Nat} (xs : List IV) (h : RepF Tryz.prog (m + 2) 213 xs) : ∃ k : {k : Kn // In64 k.1 ∧ In64 k.2}, mkE Tryz.prog 213 xs = knI k.1 := by
  obtain ⟨a, b, rfl, h1, c, d, rfl, h2, rfl⟩ := repF_struct Tryz.underlying213 h
  obtain ⟨x, rfl, b1⟩ := rep_int h1
  obtain ⟨y, rfl, b2⟩ := rep_int h2
  exact ⟨⟨(x, y), b1, b2⟩, mkE_struct Tryz.underlying213⟩
theorem cells_knot : Tryz.prog.cellsOf 213 = 2 := by kernel_rfl
theorem rep_tableB {m : Nat} {xs : List IV} (h : RepF Tryz.prog (m + 4) 51 xs) : ∃ l : List Kn, xs = [.slc 2 (l.map knI)] ∧ KnB l := by
  obtain ⟨a, b, rfl, h1, rfl⟩ := repF_struct Tryz.underlying51 h
  obtain ⟨l, e⟩ := repF_slice (f := fun k : {k : Kn // In64 k.1 ∧ In64 k.2} => knI k.1) Tryz.underlying49 cells_knot arg_knotB h1
  refine ⟨l.map (·.1), by rw [e, List.map_map]; rfl, fun p hp => ?_⟩
  obtain ⟨x, _, rfl⟩ := List.mem_map.1 hp
  exact x.2
theorem arg_tableB {m : Nat} {xs : List IV} (h : RepF Tryz.prog (m + 4) 51 xs) : ∃ l : List Kn, mkE Tryz.prog 51 xs = tabI l ∧ KnB l := by
  obtain ⟨l, rfl, hb⟩ := rep_tableB h
  exact ⟨l, mkE_struct Tryz.underlying51, hb⟩
end Go.DI


/- What the parameters' types of the statements about the strings of lakes hold, as data. No condition. -/
import Derived.Test.YtaphhpphfffnfaaGreatDoorLfGl
import Derived.Test.YtaphhpphfffnfaaGreatDoorLfze
set_option maxRecDepth 100000
namespace Go.DI
open Go.Proofs Go.Proofs.YtaphhpphfffnfaaGreatDoor Go.RowKit Lk

theorem rep_int {m : Nat} {xs : List IV} (h : RepF Tryz.prog (m + 1) 3 xs) : ∃ n : Int, xs = [.int .i64 n] ∧ In64 n := repF_int Tryz.underlying3 h
theorem arg_string {m : Nat} {xs : List IV} (h : RepF Tryz.prog (m + 1) 9 xs) : ∃ s : ByteArray, mkE Tryz.prog 9 xs = .str s := by
  obtain ⟨s, rfl⟩ := repF_string Tryz.underlying9 h
  exact ⟨s, mkE_one Tryz.underlying9 (fun _ k => by cases k)⟩
theorem arg_flowB {m : Nat} (xs : List IV) (h : RepF Tryz.prog (m + 2) 87 xs) : ∃ x : {x : Flow // In64 x.up ∧ In64 x.low ∧ In64 x.ex}, mkE Tryz.prog 87 xs = flI x.1 := by
  obtain ⟨a, b, rfl, h1, c, d, rfl, h2, e, f, rfl, h3, rfl⟩ := repF_struct Tryz.underlying87 h
  obtain ⟨x, rfl, b1⟩ := rep_int h1
  obtain ⟨y, rfl, b2⟩ := rep_int h2
  obtain ⟨z, rfl, b3⟩ := rep_int h3
  exact ⟨⟨⟨x, y, z⟩, b1, b2, b3⟩, mkE_struct Tryz.underlying87⟩
theorem cells_flow : Tryz.prog.cellsOf 87 = 3 := by kernel_rfl
theorem arg_flowsB {m : Nat} {xs : List IV} (h : RepF Tryz.prog (m + 3) 62 xs) : ∃ l : List Flow, mkE Tryz.prog 62 xs = .slc 3 (l.map flI) ∧ FlB l := by
  obtain ⟨l, rfl⟩ := repF_slice (f := fun x : {x : Flow // In64 x.up ∧ In64 x.low ∧ In64 x.ex} => flI x.1) Tryz.underlying62 cells_flow arg_flowB h
  refine ⟨l.map (·.1), ?_, fun p hp => ?_⟩
  · rw [mkE_one Tryz.underlying62 (fun _ k => by cases k), List.map_map]
    rfl
  · obtain ⟨x, _, rfl⟩ := List.mem_map.1 hp
    exact x.2
end Go.DI


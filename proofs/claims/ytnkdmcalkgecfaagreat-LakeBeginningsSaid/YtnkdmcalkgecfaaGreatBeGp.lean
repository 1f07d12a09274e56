/- What the parameters hold. No condition. -/
import Derived.Test.YtnkdmcalkgecfaaGreatBeGm
import Derived.Test.YtnkdmcalkgecfaaGreatBeGn
/- What the parameters' types of the statements about limits hold, as data. No condition. -/
set_option maxRecDepth 100000
namespace Go.DI
open Go.Proofs Go.Proofs.YtnkdmcalkgecfaaGreat Go.RowKit Lk

theorem rep_rg {m : Nat} {xs : List IV} (h : RepF Tryz.prog (m + 2) 30 xs) : ∃ a b : Int, xs = [.int .i64 a, .int .i64 b] := by
  obtain ⟨a, b, rfl, h1, c, d, rfl, h2, rfl⟩ := repF_struct Tryz.underlying30 h
  obtain ⟨x, rfl, _⟩ := rep_int h1
  obtain ⟨y, rfl, _⟩ := rep_int h2
  exact ⟨x, y, rfl⟩
theorem rep_lim {m : Nat} {xs : List IV} (h : RepF Tryz.prog (m + 3) 32 xs) : ∃ x : Lim, xs = [.int .i64 x.lo, .int .i64 x.hi, .int .i64 x.fall, .int .i64 x.rise, .int .i64 x.win] := by
  obtain ⟨a, b, rfl, h1, c, d, rfl, h2, e, f, rfl, h3, g, i, rfl, h4, rfl⟩ := repF_struct Tryz.underlying32 h
  obtain ⟨x, y, rfl⟩ := rep_rg h1
  obtain ⟨u, rfl, _⟩ := rep_int h2
  obtain ⟨v, rfl, _⟩ := rep_int h3
  obtain ⟨w, rfl, _⟩ := rep_int h4
  exact ⟨⟨x, y, u, v, w⟩, rfl⟩
theorem rep_lims {m : Nat} {xs : List IV} (h : RepF Tryz.prog (m + 4) 34 xs) :
    ∃ L : Lims, xs = [.int .i64 L.u.lo, .int .i64 L.u.hi, .int .i64 L.u.fall, .int .i64 L.u.rise, .int .i64 L.u.win, .int .i64 L.l.lo, .int .i64 L.l.hi, .int .i64 L.l.fall, .int .i64 L.l.rise, .int .i64 L.l.win] := by
  obtain ⟨a, b, rfl, h1, c, d, rfl, h2, rfl⟩ := repF_struct Tryz.underlying34 h
  obtain ⟨x, rfl⟩ := rep_lim h1
  obtain ⟨y, rfl⟩ := rep_lim h2
  exact ⟨⟨x, y⟩, rfl⟩
theorem rep_flows {m : Nat} {xs : List IV} (h : RepF Tryz.prog (m + 3) 35 xs) : ∃ l : List Flow, xs = [.slc 3 (l.map flI)] :=
  repF_slice Tryz.underlying35 cells_flow arg_flow h
theorem arg_task {m : Nat} {xs : List IV} (h : RepF Tryz.prog (m + 5) 37 xs) : ∃ x : Tsk, mkE Tryz.prog 37 xs = tskI x := by
  obtain ⟨a, b, rfl, h1, c, d, rfl, h2, rfl⟩ := repF_struct Tryz.underlying37 h
  obtain ⟨L, rfl⟩ := rep_lims h1
  obtain ⟨fs, rfl⟩ := rep_flows h2
  exact ⟨⟨L, fs⟩, mkE_struct Tryz.underlying37⟩
end Go.DI


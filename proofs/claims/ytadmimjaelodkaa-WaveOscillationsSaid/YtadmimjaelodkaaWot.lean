/- What the parameters' types of the statements about oscillations hold, as data. No condition. -/
import Derived.Test.YtadmimjaelodkaaWoGl
import Derived.Test.YtadmimjaelodkaaWos
set_option maxRecDepth 100000
namespace Go.DI
open Go.Proofs Go.Proofs.Ytadmimjaelodkaa Go.RowKit

theorem cells_gauss : Try.prog.cellsOf 58 = 2 := by kernel_rfl
theorem rep_gausses {m : Nat} {xs : List IV} (h : RepF Try.prog (m + 3) 76 xs) : ∃ l : List Ga, xs = [.slc 2 (l.map gI)] :=
 repF_slice (f := gI) Try.underlying76 cells_gauss (fun ys h => by
  obtain ⟨a, b, e⟩ := arg_gauss h
  exact ⟨(a, b), e⟩) h
theorem rep_steady {m : Nat} {xs : List IV} (h : RepF Try.prog (m + 4) 112 xs) : ∃ s : Sty, xs = [.int .i64 s.q, .slc 2 (s.F.map gI), .slc 2 (s.B.map gI), .slc 2 (s.L.map gI), .int .i64 s.c.1, .int .i64 s.c.2] := by
 obtain ⟨a, b, rfl, h1, c, d, rfl, h2, e, f, rfl, h3, g, k, rfl, h4, u, v, rfl, h5, rfl⟩ := repF_struct Try.underlying112 h
 obtain ⟨q, rfl, _⟩ := rep_int h1
 obtain ⟨x, rfl⟩ := rep_gausses h2
 obtain ⟨y, rfl⟩ := rep_gausses h3
 obtain ⟨z, rfl⟩ := rep_gausses h4
 obtain ⟨i, j, rfl⟩ := rep_gauss h5
 exact ⟨⟨q, x, y, z, (i, j)⟩, rfl⟩
theorem arg_at {m : Nat} {xs : List IV} (h : RepF Try.prog (m + 5) 114 xs) : ∃ (s : Sty) (t : Int), mkE Try.prog 114 xs = atI s t := by
 obtain ⟨a, b, rfl, h1, c, d, rfl, h2, rfl⟩ := repF_struct Try.underlying114 h
 obtain ⟨s, rfl⟩ := rep_steady h1
 obtain ⟨t, rfl, _⟩ := rep_int h2
 exact ⟨s, t, mkE_struct Try.underlying114⟩
end Go.DI


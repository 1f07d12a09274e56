/- What the parameters' types of the statements about sums hold, as data. No condition. -/
import Derived.Test.YtadmimjaelodkaaSmGl
set_option maxRecDepth 100000
namespace Go.DI
open Go.Proofs Go.Proofs.Ytadmimjaelodkaa Go.RowKit

theorem arg_wtwo {m : Nat} {xs : List IV} (h : RepF Try.prog (m + 4) 46 xs) : ∃ s t : Ws, mkE Try.prog 46 xs = .agg [nI s.F, nI s.B, nI s.L, nI t.F, nI t.B, nI t.L] := by
  obtain ⟨a, b, rfl, h1, c, d, rfl, h2, rfl⟩ := repF_array Try.underlying46 h
  obtain ⟨s, rfl⟩ := rep_wstate h1
  obtain ⟨t, rfl⟩ := rep_wstate h2
  exact ⟨s, t, mkE_array Try.underlying46⟩
theorem arg_itwo {m : Nat} {xs : List IV} (h : RepF Try.prog (m + 3) 47 xs) : ∃ s t : List Int, mkE Try.prog 47 xs = .agg [nI s, nI t] := by
  obtain ⟨a, b, rfl, h1, c, d, rfl, h2, rfl⟩ := repF_array Try.underlying47 h
  obtain ⟨s, rfl⟩ := rep_ints h1
  obtain ⟨t, rfl⟩ := rep_ints h2
  exact ⟨s, t, mkE_array Try.underlying47⟩
end Go.DI


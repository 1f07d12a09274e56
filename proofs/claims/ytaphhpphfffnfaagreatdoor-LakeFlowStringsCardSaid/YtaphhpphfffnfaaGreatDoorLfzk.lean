/- The statement LakeTableStrings: what it computes. No condition. -/
import Derived.Test.YtaphhpphfffnfaaGreatDoorLfzh
import Derived.Test.YtaphhpphfffnfaaGreatDoorLfzj
set_option linter.unusedSimpArgs false
set_option maxRecDepth 100000
namespace Go.DI
open Go.Proofs Go.RowKit Go.Lib Lk

theorem fmtRows_size {rows : List (List Int)} (h : RowsB rows) (hl : rows.length ≤ 800) : (fmtRows rows).size ≤ 60000 := by
  have := join_len (c := 59) (B := 66) (l := rows.map rowW) (fun w hw => by
    obtain ⟨r, hr, rfl⟩ := List.mem_map.1 hw
    exact rowW_len (h.row r hr))
  rw [List.length_map] at this
  unfold fmtRows
  rw [bs_size]
  omega
theorem fl_rt (l : List Flow) : (l.map flR).map flOf = l := by
  rw [List.map_map]
  conv => rhs; rw [← List.map_id l]
  rfl
end Go.DI


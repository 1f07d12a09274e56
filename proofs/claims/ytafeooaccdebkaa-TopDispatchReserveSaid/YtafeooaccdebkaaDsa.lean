/- The statement TopDispatchReserve: a plan that holds a reserve, activated at any hour for as long as is promised, keeps the volume within its limits all the time; powers that follow without reaching the ramp miss nothing and are never over; the value of holding a reserve is at most that of the best plan, and a shorter hold is worth at least as much. No condition. -/
import Derived.Test.YtafeooaccdebkaaDsGj
import Derived.HandedShaped
set_option maxRecDepth 100000
namespace Go.Proofs.Ytafeooaccdebkaa
open Go.ChangeShapes Go.WideShapes Go.ChangeAt Go.RowKit Go.DI
theorem topDispatchReserve_data (vs:List IV) (h:Typed Try.prog 8 Try.f3.params.toList vs):Contract Try.prog 3 vs (.bool true):=by
 rw [Try.params3] at h
 obtain ⟨x1,b1,rfl,h1,x2,b2,rfl,h2,x3,b3,rfl,h3,rfl⟩:=h
 obtain ⟨lo,hi,ms,e1⟩:=arg_plant (m:=4) h1
 obtain ⟨vol,mode,worth,hs,e2⟩:=arg_task (m:=4) h2
 obtain ⟨x,n,l,e3,hn⟩:=arg_call (m:=5) h3
 rw [e1,e2,e3]
 exact l_TopDispatchReserve (w:=⟨lo,hi,ms,vol,mode,worth,hs⟩) hn
theorem topDispatchReserve_lifted (os:Os) (started:os.Started) (H:Type) (enc:TypeId × Value→H) :
  ReturnsInHanded {} Try.checked os 3 .any (Rows.topDispatchReserveSpec.pre6 enc Try.prog Try.f3 Rows.topDispatchReserveRow.domain false) (Rows.topDispatchReserveSpec.post enc Try.prog Try.f3 false true false false):=by
 refine returnsInHanded_of_change_shaped (C:=Try.checked) Try.own started (by kernel_rfl) Try.func3
  (ChangeSpec.witness6 (enc:=enc) (C:=Try.checked) false ⟨#[], #[.agg #[.int .i64 0,.int .i64 0,.slice none 0 0],.agg #[.int .i64 0,.int .i64 0,.int .i64 0,.slice none 0 0],.agg #[.int .i64 0,.int .i64 0,.int .i64 0,.slice none 0 0]],[]⟩ 8 (by kernel_rfl) (by kernel_rfl) (by kernel_rfl) (by kernel_rfl)) ?_
 intro W base args ds gs before hval hW _ _ hsh _
 refine law_calls (m:=8) Try.laidOut (bt:=4) (by kernel_rfl) Try.underlying4 rfl (by kernel_rfl) ?_ topDispatchReserve_data hval hW (seat_lay hsh)
 intro ds' hd
 rw [Try.params3] at hd
 match ds',hd with
 | [d1,d2,d3],_=>exact ⟨rfl,rfl,rfl⟩
theorem topDispatchReserve_holds:Rows.TopDispatchReserveSaid :=
 OpenClaim.holds_of_wide 3 Try.f3 rfl rfl rfl rfl rfl rfl rfl ⟨rfl,rfl,rfl,rfl,rfl⟩ rfl rfl rfl rfl rfl (by kernel_rfl) Try.func3 (by kernel_rfl)
  (of_decide_eq_true (by kernel_rfl)) (by unfold Func.isWrapper; first | (rw [if_pos (by decide +kernel)]; kernel_rfl) | (rw [if_neg (by decide +kernel)]; exact ⟨rfl,rfl⟩))
  (fun os started H enc _=>topDispatchReserve_lifted os started H enc)
#print axioms topDispatchReserve_holds
end Go.Proofs.Ytafeooaccdebkaa


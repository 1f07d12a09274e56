/- What the parameters' types of the statements about the strings of lines hold, as data. No condition. -/
import Derived.Test.YtaphhpphfffnfaaGreatDoorTaGl
import Derived.Test.YtaphhpphfffnfaaGreatDoorTas
set_option maxRecDepth 100000
namespace Go.DI
open Go.Proofs Go.Proofs.YtaphhpphfffnfaaGreatDoor Go.RowKit
theorem rep_int {m:Nat} {xs:List IV} (h:RepF Tryz.prog (m+1) 3 xs):∃ n:Int,xs=[.int .i64 n]∧In64 n:=repF_int Tryz.underlying3 h
theorem arg_int {m:Nat} {xs:List IV} (h:RepF Tryz.prog (m+1) 3 xs):∃ n:Int,mkE Tryz.prog 3 xs = .int .i64 n∧In64 n:=by
 obtain ⟨n,rfl,hb⟩:=rep_int h
 exact ⟨n,mkE_one Tryz.underlying3 (fun _ k=>by cases k),hb⟩
theorem cells_of_int:Tryz.prog.cellsOf 3=1:=by kernel_rfl
theorem rep_intsB {m:Nat} {xs:List IV} (h:RepF Tryz.prog (m+2) 23 xs):∃ l:List Int,xs=[nI l]∧∀ n ∈ l,In64 n:=by
 obtain ⟨l,e⟩:=repF_slice (f:=fun x:{n:Int // In64 n}=>IV.int .i64 x.1) Tryz.underlying23 cells_of_int (fun ys h=>by
  obtain ⟨n,e,hb⟩:=arg_int h
  exact ⟨⟨n,hb⟩,e⟩) h
 refine ⟨l.map (·.1),by rw [e]; unfold nI; rw [List.map_map]; rfl,fun n hn => ?_⟩
 obtain ⟨x,_,rfl⟩:=List.mem_map.1 hn
 exact x.2
theorem arg_pipeB {m:Nat} (xs:List IV) (h:RepF Tryz.prog (m+2) 120 xs):∃ p:{p:Pp // In64 p.1∧In64 p.2},mkE Tryz.prog 120 xs=ppI p.1:=by
 obtain ⟨a,b,rfl,h1,c,d,rfl,h2,rfl⟩:=repF_struct Tryz.underlying120 h
 obtain ⟨x,rfl,b1⟩:=rep_int h1
 obtain ⟨y,rfl,b2⟩:=rep_int h2
 exact ⟨⟨(x,y),b1,b2⟩,mkE_struct Tryz.underlying120⟩
theorem cells_pipe:Tryz.prog.cellsOf 120=2:=by kernel_rfl
theorem rep_pipesB {m:Nat} {xs:List IV} (h:RepF Tryz.prog (m+3) 22 xs):∃ l:List Pp,xs=[.slc 2 (l.map ppI)]∧∀ p ∈ l,In64 p.1∧In64 p.2:=by
 obtain ⟨l,e⟩:=repF_slice (f:=fun p:{p:Pp // In64 p.1∧In64 p.2}=>ppI p.1) Tryz.underlying22 cells_pipe (fun ys h=>arg_pipeB ys h) h
 refine ⟨l.map (·.1),by rw [e,List.map_map]; rfl,fun p hp => ?_⟩
 obtain ⟨x,_,rfl⟩:=List.mem_map.1 hp
 exact x.2
theorem arg_lineB {m:Nat} {xs:List IV} (h:RepF Tryz.prog (m+4) 25 xs):∃ x:Ln,mkE Tryz.prog 25 xs=lnI x∧LnB x:=by
 obtain ⟨a,b,rfl,h1,c,d,rfl,h2,rfl⟩:=repF_struct Tryz.underlying25 h
 obtain ⟨x,rfl,b1⟩:=rep_pipesB h1
 obtain ⟨y,rfl,b2⟩:=rep_intsB h2
 exact ⟨⟨x,y⟩,mkE_struct Tryz.underlying25,⟨b1,b2⟩⟩
theorem arg_gauss {m:Nat} {xs:List IV} (h:RepF Tryz.prog (m+2) 101 xs):∃ a b:Int,mkE Tryz.prog 101 xs = .agg [.int .i64 a,.int .i64 b]:=by
 obtain ⟨a,b,rfl,h1,c,d,rfl,h2,rfl⟩:=repF_struct Tryz.underlying101 h
 obtain ⟨x,rfl,_⟩:=rep_int h1
 obtain ⟨y,rfl,_⟩:=rep_int h2
 exact ⟨x,y,mkE_struct Tryz.underlying101⟩
end Go.DI


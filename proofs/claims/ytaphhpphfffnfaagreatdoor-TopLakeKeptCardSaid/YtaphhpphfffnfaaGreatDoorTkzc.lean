/- What the parameters' types of the statements about the strings of lakes hold, as data. No condition. -/
import Derived.Test.YtaphhpphfffnfaaGreatDoorTkGl
import Derived.Test.YtaphhpphfffnfaaGreatDoorTkzb
set_option maxRecDepth 100000
namespace Go.DI
open Go.Proofs Go.Proofs.YtaphhpphfffnfaaGreatDoor Go.RowKit Lk
theorem rep_int {m:Nat} {xs:List IV} (h:RepF Tryz.prog (m+1) 3 xs):∃ n:Int,xs=[.int .i64 n]∧In64 n:=repF_int Tryz.underlying3 h
theorem arg_knotB {m:Nat} (xs:List IV) (h:RepF Tryz.prog (m+2) 213 xs):∃ k:{k:Kn // In64 k.1∧In64 k.2},mkE Tryz.prog 213 xs=knI k.1:=by
 obtain ⟨a,b,rfl,h1,c,d,rfl,h2,rfl⟩:=repF_struct Tryz.underlying213 h
 obtain ⟨x,rfl,b1⟩:=rep_int h1
 obtain ⟨y,rfl,b2⟩:=rep_int h2
 exact ⟨⟨(x,y),b1,b2⟩,mkE_struct Tryz.underlying213⟩
theorem cells_knot:Tryz.prog.cellsOf 213=2:=by kernel_rfl
theorem rep_tableB {m:Nat} {xs:List IV} (h:RepF Tryz.prog (m+4) 51 xs):∃ l:List Kn,xs=[.slc 2 (l.map knI)]∧KnB l:=by
 obtain ⟨a,b,rfl,h1,rfl⟩:=repF_struct Tryz.underlying51 h
 obtain ⟨l,e⟩:=repF_slice (f:=fun k:{k:Kn // In64 k.1∧In64 k.2}=>knI k.1) Tryz.underlying49 cells_knot arg_knotB h1
 refine ⟨l.map (·.1),by rw [e,List.map_map]; rfl,fun p hp => ?_⟩
 obtain ⟨x,_,rfl⟩:=List.mem_map.1 hp
 exact x.2
theorem arg_flowB {m:Nat} (xs:List IV) (h:RepF Tryz.prog (m+2) 87 xs):∃ x:{x:Flow // In64 x.up∧In64 x.low∧In64 x.ex},mkE Tryz.prog 87 xs=flI x.1:=by
 obtain ⟨a,b,rfl,h1,c,d,rfl,h2,e,f,rfl,h3,rfl⟩:=repF_struct Tryz.underlying87 h
 obtain ⟨x,rfl,b1⟩:=rep_int h1
 obtain ⟨y,rfl,b2⟩:=rep_int h2
 obtain ⟨z,rfl,b3⟩:=rep_int h3
 exact ⟨⟨⟨x,y,z⟩,b1,b2,b3⟩,mkE_struct Tryz.underlying87⟩
theorem cells_flow:Tryz.prog.cellsOf 87=3:=by kernel_rfl
theorem arg_flowsB {m:Nat} {xs:List IV} (h:RepF Tryz.prog (m+3) 62 xs):∃ l:List Flow,mkE Tryz.prog 62 xs = .slc 3 (l.map flI)∧FlB l:=by
 obtain ⟨l,rfl⟩:=repF_slice (f:=fun x:{x:Flow // In64 x.up∧In64 x.low∧In64 x.ex}=>flI x.1) Tryz.underlying62 cells_flow arg_flowB h
 refine ⟨l.map (·.1),?_,fun p hp => ?_⟩
 ·rw [mkE_one Tryz.underlying62 (fun _ k=>by cases k),List.map_map]
  rfl
 ·obtain ⟨x,_,rfl⟩:=List.mem_map.1 hp
  exact x.2
theorem arg_pairB {m:Nat} {xs:List IV} (h:RepF Tryz.prog (m+5) 74 xs):∃ p:Pair,mkE Tryz.prog 74 xs=lpI p∧KnB p.u:=by
 obtain ⟨a,b,rfl,h1,c,d,rfl,h2,e,f,rfl,h3,rfl⟩:=repF_struct Tryz.underlying74 h
 obtain ⟨u,rfl,hb⟩:=rep_tableB h1
 obtain ⟨l,rfl,_⟩:=rep_tableB h2
 obtain ⟨n,rfl,_⟩:=rep_int h3
 exact ⟨⟨u,l,n⟩,mkE_struct Tryz.underlying74,hb⟩
theorem arg_state {m:Nat} {xs:List IV} (h:RepF Tryz.prog (m+2) 76 xs):∃ s:Sta,mkE Tryz.prog 76 xs=stI s:=by
 obtain ⟨a,b,rfl,h1,c,d,rfl,h2,rfl⟩:=repF_struct Tryz.underlying76 h
 obtain ⟨x,rfl,_⟩:=rep_int h1
 obtain ⟨y,rfl,_⟩:=rep_int h2
 exact ⟨(x,y),mkE_struct Tryz.underlying76⟩
end Go.DI


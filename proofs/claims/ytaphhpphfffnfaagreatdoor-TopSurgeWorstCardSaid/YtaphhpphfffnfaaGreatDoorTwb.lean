/- What the parameters' types of the statement TopSurgeWorst hold, as data. No condition. -/
import Derived.Test.YtaphhpphfffnfaaGreatDoorTwa
set_option maxRecDepth 100000
namespace Go.DI
open Go.Proofs Go.Proofs.YtaphhpphfffnfaaGreatDoor Go.RowKit Sg
theorem arg_int {m:Nat} {xs:List IV} (h:RepF Tryz.prog (m+1) 3 xs):∃ n:Int,mkE Tryz.prog 3 xs = .int .i64 n∧In64 n:=by
 obtain ⟨n,rfl,hb⟩:=rep_int h
 exact ⟨n,mkE_one Tryz.underlying3 (fun _ k=>by cases k),hb⟩
theorem cells_of_int:Tryz.prog.cellsOf 3=1:=by kernel_rfl
theorem rep_intsB {m:Nat} {xs:List IV} (h:RepF Tryz.prog (m+2) 23 xs):∃ l:List Int,xs=[snI l]∧∀ n ∈ l,In64 n:=by
 obtain ⟨l,e⟩:=repF_slice (f:=fun x:{n:Int // In64 n}=>IV.int .i64 x.1) Tryz.underlying23 cells_of_int (fun ys h=>by
  obtain ⟨n,e,hb⟩:=arg_int h
  exact ⟨⟨n,hb⟩,e⟩) h
 refine ⟨l.map (·.1),by rw [e]; unfold snI; rw [List.map_map]; rfl,fun n hn => ?_⟩
 obtain ⟨x,_,rfl⟩:=List.mem_map.1 hn
 exact x.2
theorem arg_plan {m:Nat} {xs:List IV} (h:RepF Tryz.prog (m+3) 128 xs):∃ p:Pl,mkE Tryz.prog 128 xs=spI p:=by
 obtain ⟨a,b,rfl,h1,c,d,rfl,h2,e,f,rfl,h3,g,k,rfl,h4,rfl⟩:=repF_struct Tryz.underlying128 h
 obtain ⟨x,rfl,_⟩:=rep_int h1
 obtain ⟨y,rfl,_⟩:=rep_intsB h2
 obtain ⟨z,rfl,_⟩:=rep_int h3
 obtain ⟨v,rfl,_⟩:=rep_int h4
 exact ⟨⟨x,y,z,v⟩,mkE_struct Tryz.underlying128⟩
theorem rep_boxD {m:Nat} {xs:List IV} (h:RepF Tryz.prog (m+3) 130 xs):∃ b:Bx,xs=[.int .i64 b.ll,.int .i64 b.lh,.int .i64 b.fl,.int .i64 b.fh]:=by
 obtain ⟨a,b,rfl,h1,c,d,rfl,h2,rfl⟩:=repF_struct Tryz.underlying130 h
 obtain ⟨x,y,rfl,_⟩:=rep_range h1
 obtain ⟨z,w,rfl,_⟩:=rep_range h2
 exact ⟨⟨x,y,z,w⟩,rfl⟩
theorem rep_coverD {m:Nat} {xs:List IV} (h:RepF Tryz.prog (m+4) 132 xs):∃ c:Cv,xs=[.int .i64 c.b.ll,.int .i64 c.b.lh,.int .i64 c.b.fl,.int .i64 c.b.fh,.int .i64 c.parts,.int .i64 c.lo,.int .i64 c.hi]:=by
 obtain ⟨a,b,rfl,h1,c,d,rfl,h2,e,f,rfl,h3,rfl⟩:=repF_struct Tryz.underlying132 h
 obtain ⟨x,rfl⟩:=rep_boxD h1
 obtain ⟨y,rfl,_⟩:=rep_int h2
 obtain ⟨z,w,rfl,_⟩:=rep_range h3
 exact ⟨⟨x,y,z,w⟩,rfl⟩
theorem arg_day {m:Nat} {xs:List IV} (h:RepF Tryz.prog (m+5) 134 xs):∃ (v:Cv) (C:List Int),mkE Tryz.prog 134 xs = .agg [.int .i64 v.b.ll,.int .i64 v.b.lh,.int .i64 v.b.fl,.int .i64 v.b.fh,.int .i64 v.parts,.int .i64 v.lo,.int .i64 v.hi,snI C]∧∀ n ∈ C,In64 n:=by
 obtain ⟨a,b,rfl,h1,c,d,rfl,h2,rfl⟩:=repF_struct Tryz.underlying134 h
 obtain ⟨v,rfl⟩:=rep_coverD h1
 obtain ⟨C,rfl,hC⟩:=rep_intsB h2
 exact ⟨v,C,mkE_struct Tryz.underlying134,hC⟩
end Go.DI


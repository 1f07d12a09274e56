/- What the parameters' types of the statements about strings hold, as data. No condition. -/
import Derived.Test.YtaphhpphfffnfaaGreatDoorTwGl
import Derived.Test.YtaphhpphfffnfaaGreatDoorTwGk
set_option maxRecDepth 100000
namespace Go.DI
open Go.Proofs Go.Proofs.YtaphhpphfffnfaaGreatDoor Go.RowKit Sg
theorem rep_int {m:Nat} {xs:List IV} (h:RepF Tryz.prog (m+1) 3 xs):∃ n:Int,xs=[.int .i64 n]∧In64 n:=repF_int Tryz.underlying3 h
theorem rep_range {m:Nat} {xs:List IV} (h:RepF Tryz.prog (m+2) 39 xs):∃ a b:Int,xs=[.int .i64 a,.int .i64 b]∧In64 a∧In64 b:=by
 obtain ⟨a,b,rfl,h1,c,d,rfl,h2,rfl⟩:=repF_struct Tryz.underlying39 h
 obtain ⟨x,rfl,bx⟩:=rep_int h1
 obtain ⟨y,rfl,bY⟩:=rep_int h2
 exact ⟨x,y,rfl,bx,bY⟩
theorem arg_rulesB {m:Nat} {xs:List IV} (h:RepF Tryz.prog (m+3) 41 xs):∃ r:Ru,mkE Tryz.prog 41 xs=ruI r∧RuB r:=by
 obtain ⟨a,b,rfl,h1,c,d,rfl,h2,e,f,rfl,h3,g,k,rfl,h4,rfl⟩:=repF_struct Tryz.underlying41 h
 obtain ⟨x,rfl,b1⟩:=rep_int h1
 obtain ⟨y,rfl,b2⟩:=rep_int h2
 obtain ⟨z,w,rfl,b3,b4⟩:=rep_range h3
 obtain ⟨v,rfl,b5⟩:=rep_int h4
 exact ⟨⟨x,y,z,w,v⟩,mkE_struct Tryz.underlying41,⟨b1,b2,b3,b4,b5⟩⟩
end Go.DI


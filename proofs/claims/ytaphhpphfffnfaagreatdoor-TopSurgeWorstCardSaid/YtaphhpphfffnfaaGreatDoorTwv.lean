/- The statement SurgeBounds, as a contract. No condition. -/
import Derived.Test.YtaphhpphfffnfaaGreatDoorTwu
set_option linter.unusedSimpArgs false
set_option maxRecDepth 20000
namespace Go.DI
open Go.Proofs Go.RowKit Sg
def ruC (r:Ru):List DV:=[.imm (.int .i64 r.I),.imm (.int .i64 r.A),.imm (.int .i64 r.lo),.imm (.int .i64 r.hi),.imm (.int .i64 r.T)]
def spC (p:Pl):List DV:=[.imm (.int .i64 p.load),.imm (snI p.ch),.imm (.int .i64 p.wait),.imm (.int .i64 p.ticks)]
end Go.DI


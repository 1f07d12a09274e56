/- The functions of TopLakeKept, as data. No condition. -/
import Derived.Test.YtaphhpphfffnfaaGreatDoorTkGe
import Derived.Test.YtaphhpphfffnfaaGreatDoorProg
import Derived.KernelRfl
namespace Go.DI
open Go.Proofs Go.RowKit
def b1053:DCode :=
 (.seq
 (.region [⟨some 2,.mov,[.z 3],none,[]⟩] false)
 (.seq
 (.region [⟨some 3,(.bsl 3),[],none,[]⟩,
 ⟨some 4,.movv,[.t 0],none,[]⟩,
 ⟨some 5,(.append 3 24 false),[.t 3,.t 4],none,[0,1]⟩,
 ⟨some 2,.mov,[.t 5],none,[2,2,0,1,2]⟩] false)
 (.ren 5 1000
 .ret)))
def d1053:DFn:=⟨1,6,[.tmp 2],b1053⟩
theorem body1053:d1053.body=b1053:=rfl
theorem res1053:d1053.res=[.tmp 2]:=rfl
theorem k1053:chkFnB Tryz.prog Tryz.f53 d1053 [] [1000]=true:=by kernel_rfl
def b42:DCode :=
 (.seq
 (.region [⟨some 0,.mov,[.c (.bool false)],none,[]⟩] false)
 (.seq
 (.region [⟨some 7,.call,[.f 114],none,[]⟩,
 ⟨some 8,(.build [(.imm (.int .i64 0)),(.imm (.int .i64 0))] [(0,1),(1,1)]),[.c (.int .i64 2950),.c (.int .i64 500)],none,[]⟩,
 ⟨some 9,(.build [(.imm (.int .i64 0)),(.imm (.int .i64 0)),(.imm (.int .i64 0))] [(2,1)]),[.c (.int .i64 200)],none,[]⟩,
 ⟨some 10,.call,[.f 113,.t 7,.t 8,.t 9],none,[0,1,2,0]⟩,
 ⟨some 6,.mov,[.t 10],none,[3]⟩,
 ⟨some 11,(.ext 0),[.t 6],none,[4]⟩,
 ⟨some 12,(.ext 1),[.t 6],none,[4]⟩,
 ⟨some 13,(.ext 2),[.t 6],none,[4]⟩,
 ⟨some 1,(.alloc [(.imm (.int .i64 0)),(.imm (.int .i64 0))]),[],none,[]⟩,
 ⟨some 2,(.alloc [(.imm (.int .i64 0)),(.imm (.int .i64 0))]),[],none,[]⟩,
 ⟨none,(.store 2),[.t 1,.t 11],none,[8,5,3,0,1,2,3,4,5,8,9]⟩,
 ⟨none,(.store 2),[.t 2,.t 12],none,[9,6,10,0,1,2,3,4,5,6,8,9,10]⟩,
 ⟨some 3,.mov,[.t 13],none,[7,11,0,1,2,3,4,5,6,7,8,9,10,11]⟩] false)
 (.seq
 (.region [⟨some 15,.call,[.f 112],none,[]⟩,
 ⟨some 16,.call,[.f 49,.t 15,.c (.int .i64 1501)],none,[0,0]⟩,
 ⟨some 14,.mov,[.t 16],none,[1]⟩,
 ⟨some 17,(.ext 0),[.t 14],none,[2]⟩,
 ⟨some 18,(.ext 1),[.t 14],none,[2]⟩,
 ⟨some 4,(.alloc [(.imm (.int .i64 0)),(.imm (.int .i64 0))]),[],none,[]⟩,
 ⟨none,(.store 2),[.t 4,.t 17],none,[5,3,1,0,1,2,3,5]⟩,
 ⟨some 5,.mov,[.t 18],none,[4,6,0,1,2,3,4,5,6]⟩] false)
 (.seq
 (.region [⟨some 19,.mov,[.t 3],none,[]⟩,
 ⟨some 20,(.bin .eql),[.t 19,.c (.int .i64 0)],none,[0]⟩,
 ⟨some 21,.mov,[.t 20],none,[1]⟩,
 ⟨some 22,(.load true 2),[.t 1],(some (21,true)),[2]⟩,
 ⟨some 23,(.build [(.imm (.int .i64 0)),(.imm (.int .i64 0))] [(0,1),(1,1)]),[.c (.int .i64 3000),.c (.int .i64 295)],(some (21,true)),[2]⟩,
 ⟨some 24,(.eqs [false,false] false),[.t 22,.t 23],(some (21,true)),[3,4,2]⟩,
 ⟨some 25,.pick,[.t 21,.t 24,.c (.bool false)],none,[2,5]⟩,
 ⟨some 26,.mov,[.t 25],none,[6,2]⟩,
 ⟨some 27,(.load true 2),[.t 2],(some (26,true)),[7]⟩,
 ⟨some 28,(.build [(.imm (.int .i64 0)),(.imm (.int .i64 0))] [(0,1),(1,1)]),[.c (.int .i64 15),.c (.int .i64 140)],(some (26,true)),[7]⟩,
 ⟨some 29,(.eqs [false,false] false),[.t 27,.t 28],(some (26,true)),[8,9,7]⟩,
 ⟨some 30,.pick,[.t 26,.t 29,.c (.bool false)],none,[7,10]⟩,
 ⟨some 31,.mov,[.t 30],none,[11,7]⟩,
 ⟨some 32,.mov,[.t 5],(some (31,true)),[12]⟩,
 ⟨some 33,(.bin .eql),[.t 32,.c (.int .i64 0)],(some (31,true)),[13,12]⟩,
 ⟨some 34,.pick,[.t 31,.t 33,.c (.bool false)],none,[12,14]⟩,
 ⟨some 35,.mov,[.t 34],none,[15,12]⟩,
 ⟨some 36,(.load true 2),[.t 4],(some (35,true)),[16]⟩,
 ⟨some 37,(.build [(.imm (.int .i64 0)),(.imm (.int .i64 0))] [(0,1),(1,1)]),[.c (.int .i64 125),.c (.int .i64 126)],(some (35,true)),[16]⟩,
 ⟨some 38,(.eqs [false,false] false),[.t 36,.t 37],(some (35,true)),[17,18,16]⟩,
 ⟨some 39,.pick,[.t 35,.t 38,.c (.bool false)],none,[16,19]⟩,
 ⟨some 0,.mov,[.t 39],none,[20,16,0,1,2,3,4,5,6,7,8,9,10,11,12,13,14,15,16,17,18,19,20]⟩] false)
 .ret))))
def d42:DFn:=⟨0,40,[.tmp 0],b42⟩
theorem body42:d42.body=b42:=rfl
theorem res42:d42.res=[.tmp 0]:=rfl
theorem k42:chkFn Tryz.prog Tryz.f42 d42=true:=by kernel_rfl
def b7k0:DCode :=
 (.seq
 (.region [⟨some 137,.mov,[.t 13],none,[]⟩,
 ⟨some 138,.movv,[.t 2],none,[]⟩,
 ⟨some 139,.mov,[.t 15],none,[]⟩,
 ⟨some 140,(.iaddr 3),[.t 138,.t 139],none,[1,2]⟩,
 ⟨some 141,(.faddr 0 false 1),[.t 140],none,[3]⟩,
 ⟨some 142,(.load false 1),[.t 141],none,[4]⟩,
 ⟨some 143,(.bin .add),[.t 137,.t 142],none,[0,5]⟩,
 ⟨some 144,.movv,[.t 2],none,[]⟩,
 ⟨some 145,.mov,[.t 15],none,[]⟩,
 ⟨some 146,(.iaddr 3),[.t 144,.t 145],none,[7,8]⟩,
 ⟨some 147,(.faddr 1 false 1),[.t 146],none,[9]⟩,
 ⟨some 148,(.load false 1),[.t 147],none,[10]⟩,
 ⟨some 149,(.bin .add),[.t 143,.t 148],none,[6,11]⟩,
 ⟨some 13,.mov,[.t 149],none,[12,0,1,2,3,4,5,6,7,8,9,10,11,12]⟩] true)
 (.region [⟨some 150,.mov,[.t 14],none,[]⟩,
 ⟨some 151,.movv,[.t 2],none,[]⟩,
 ⟨some 152,.mov,[.t 15],none,[]⟩,
 ⟨some 153,(.iaddr 3),[.t 151,.t 152],none,[1,2]⟩,
 ⟨some 154,(.faddr 0 false 1),[.t 153],none,[3]⟩,
 ⟨some 155,(.load false 1),[.t 154],none,[4]⟩,
 ⟨some 156,.movv,[.t 2],none,[]⟩,
 ⟨some 157,.mov,[.t 15],none,[]⟩,
 ⟨some 158,(.iaddr 3),[.t 156,.t 157],none,[6,7]⟩,
 ⟨some 159,(.faddr 2 false 1),[.t 158],none,[8]⟩,
 ⟨some 160,(.load false 1),[.t 159],none,[9]⟩,
 ⟨some 161,(.bin .add),[.t 155,.t 160],none,[5,10]⟩,
 ⟨some 162,(.bsl 1),[.t 161],none,[11]⟩,
 ⟨some 163,(.append 1 8 false),[.t 150,.t 162],none,[0,12]⟩,
 ⟨some 14,.mov,[.t 163],none,[13,13,0,1,2,3,4,5,6,7,8,9,10,11,12,13]⟩] true))
def b7k1:DCode :=
 (.region [⟨some 122,.mov,[.t 15],none,[]⟩,
 ⟨some 123,(.bin .add),[.t 122,.c (.int .i64 1)],none,[0]⟩,
 ⟨some 15,.mov,[.t 123],none,[1,0,1]⟩] false)
def b7k2:DCode :=
 (.seq
 (.block 1
 (.seq
 (.seq
 (.region [⟨some 124,.movv,[.t 2],none,[]⟩,
 ⟨some 125,.mov,[.t 15],none,[]⟩,
 ⟨some 126,(.iaddr 3),[.t 124,.t 125],none,[0,1]⟩,
 ⟨some 127,(.faddr 0 false 1),[.t 126],none,[2]⟩,
 ⟨some 128,(.load false 1),[.t 127],none,[3]⟩,
 ⟨some 129,.movv,[.t 2],none,[]⟩,
 ⟨some 130,.mov,[.t 15],none,[]⟩,
 ⟨some 131,(.iaddr 3),[.t 129,.t 130],none,[5,6]⟩,
 ⟨some 132,(.faddr 2 false 1),[.t 131],none,[7]⟩,
 ⟨some 133,(.load false 1),[.t 132],none,[8]⟩,
 ⟨some 134,(.bin .add),[.t 128,.t 133],none,[4,9]⟩,
 ⟨some 135,.call,[.f 47,.t 134,.c (.int .i64 (-10000000)),.c (.int .i64 10000000)],none,[10]⟩,
 ⟨some 136,(.un .not),[.t 135],none,[11]⟩] true)
 (.cond (.t 136)
 (.seq
 (.region [⟨some 6,.mov,[.c (.bool true)],none,[]⟩] false)
 .ret)
 .skip))
 (.keep [2,3,4,7,11,12,13,14,15] [3,4,7,12,14,163] b7k0)))
 (.keep [2,3,4,7,11,12,13,14,15] [3,4,7,12,14,163] b7k1))
def b7l0:DCode:=.keep [2,3,4,7,11,12,13,14,15] [3,4,7,12,14,163]
 (.seq
 (.seq
 (.region [⟨some 118,.mov,[.t 15],none,[]⟩,
 ⟨some 119,.movv,[.t 2],none,[]⟩,
 ⟨some 120,.len,[.t 119],none,[1]⟩,
 ⟨some 121,(.bin .lss),[.t 118,.t 120],none,[0,2]⟩] false)
 (.cond (.t 121)
 .skip
 (.exit 0)))
 (.keep [2,3,4,7,11,12,13,14,15] [3,4,7,12,14,163] b7k2))
def b7k3:DCode :=
 (.region [⟨some 232,.mov,[.t 17],none,[]⟩,
 ⟨some 233,.mov,[.t 19],none,[]⟩,
 ⟨some 234,(.load true 2),[.t 20],none,[]⟩,
 ⟨some 235,(.build [(.imm (.int .i64 0)),(.imm (.int .i64 0)),(.imm (.int .i64 0))] [(0,1),(1,2)]),[.t 233,.t 234],none,[1,2]⟩,
 ⟨some 236,(.bsl 3),[.t 235],none,[3]⟩,
 ⟨some 237,(.append 3 24 false),[.t 232,.t 236],none,[0,4]⟩,
 ⟨some 17,.mov,[.t 237],none,[5,5,0,1,2,3,4,5]⟩] false)
def b7k4:DCode :=
 (.region [⟨some 203,.mov,[.t 19],none,[]⟩,
 ⟨some 204,(.bin .add),[.t 203,.c (.int .i64 1)],none,[0]⟩,
 ⟨some 19,.mov,[.t 204],none,[1,0,1]⟩] false)
def b7k5:DCode :=
 (.seq
 (.block 3
 (.seq
 (.region [⟨some 206,(.load true 1),[.t 7],none,[]⟩,
 ⟨some 207,.call,[.f 28,.t 206],none,[0]⟩,
 ⟨some 208,.movv,[.t 18],none,[]⟩,
 ⟨some 209,.mov,[.t 19],none,[]⟩,
 ⟨some 210,(.iaddr 2),[.t 208,.t 209],none,[2,3]⟩,
 ⟨some 211,(.faddr 0 false 1),[.t 210],none,[4]⟩,
 ⟨some 212,(.load false 1),[.t 211],none,[5]⟩,
 ⟨some 213,.call,[.f 49,.t 207,.t 212],none,[1,6,1]⟩,
 ⟨some 205,.mov,[.t 213],none,[7]⟩,
 ⟨some 214,(.ext 0),[.t 205],none,[8]⟩,
 ⟨some 215,(.ext 1),[.t 205],none,[8]⟩,
 ⟨some 20,(.alloc [(.imm (.int .i64 0)),(.imm (.int .i64 0))]),[],none,[]⟩,
 ⟨none,(.store 2),[.t 20,.t 214],none,[11,9,7,0,1,2,3,4,5,6,7,8,9,11]⟩,
 ⟨some 21,.mov,[.t 215],none,[10,12,0,1,2,3,4,5,6,7,8,9,10,11,12]⟩] true)
 (.seq
 (.seq
 (.region [⟨some 216,.mov,[.t 21],none,[]⟩,
 ⟨some 217,(.bin .neq),[.t 216,.c (.int .i64 0)],none,[0]⟩,
 ⟨some 218,.mov,[.t 217],none,[1]⟩,
 ⟨some 219,(.load true 1),[.t 7],(some (218,false)),[2]⟩,
 ⟨some 220,(.faddr 0 false 1),[.t 20],(some (218,false)),[2]⟩,
 ⟨some 221,(.load false 1),[.t 220],(some (218,false)),[4,2]⟩,
 ⟨some 222,.call,[.f 50,.t 219,.t 221],(some (218,false)),[3,5,2,2]⟩,
 ⟨some 223,(.un .not),[.t 222],(some (218,false)),[6,2]⟩,
 ⟨some 224,.pick,[.t 218,.c (.bool true),.t 223],none,[2,7]⟩,
 ⟨some 225,.mov,[.t 224],none,[8,6]⟩,
 ⟨some 226,(.load true 1),[.t 7],(some (225,false)),[9]⟩,
 ⟨some 227,(.faddr 1 false 1),[.t 20],(some (225,false)),[9]⟩,
 ⟨some 228,(.load false 1),[.t 227],(some (225,false)),[11,9]⟩,
 ⟨some 229,.call,[.f 50,.t 226,.t 228],(some (225,false)),[10,12,9,9]⟩,
 ⟨some 230,(.un .not),[.t 229],(some (225,false)),[13,9]⟩,
 ⟨some 231,.pick,[.t 225,.c (.bool true),.t 230],none,[9,14]⟩] false)
 (.cond (.t 231)
 (.seq
 (.region [⟨some 6,.mov,[.c (.bool false)],none,[]⟩] false)
 .ret)
 .skip))
 (.keep [4,7,14,17,18,19,20] [4,7,14,17,20,163,198,237] b7k3))))
 (.keep [4,7,14,17,18,19] [4,7,14,17,163,198,237] b7k4))
def b7l1:DCode:=.keep [4,7,14,17,18,19] [4,7,14,17,163,198,237]
 (.seq
 (.seq
 (.region [⟨some 199,.mov,[.t 19],none,[]⟩,
 ⟨some 200,.movv,[.t 18],none,[]⟩,
 ⟨some 201,.len,[.t 200],none,[1]⟩,
 ⟨some 202,(.bin .lss),[.t 199,.t 201],none,[0,2]⟩] false)
 (.cond (.t 202)
 .skip
 (.exit 2)))
 (.keep [4,7,14,17,18,19] [4,7,14,17,163,198,237] b7k5))
def b7k6:DCode :=
 (.seq
 (.region [⟨some 270,.movv,[.t 17],none,[]⟩,
 ⟨some 271,(.callb []),[.f 53,.t 270],none,[0]⟩,
 ⟨some 272,.mov,[.t 24],none,[]⟩,
 ⟨some 273,.mov,[.t 24],none,[]⟩,
 ⟨some 274,(.build [(.imm (.int .i64 0)),(.imm (.int .i64 0))] [(0,1),(1,1)]),[.t 272,.t 273],none,[2,3]⟩,
 ⟨some 275,(.build [(.imm (.int .i64 0)),(.imm (.int .i64 0)),(.imm (.int .i64 0))] [(1,2)]),[.t 274],none,[4]⟩,
 ⟨some 276,(.bsl 3),[.t 275],none,[5]⟩,
 ⟨some 277,(.append 3 24 false),[.t 271,.t 276],none,[1,6,1]⟩,
 ⟨some 25,.movv,[.t 277],none,[7,7,0,1,2,3,4,5,6,7]⟩] false)
 (.seq
 (.freeze [1000]
 (.region [⟨some 279,(.load true 1),[.t 7],none,[]⟩,
 ⟨some 280,.call,[.f 28,.t 279],none,[0]⟩,
 ⟨some 281,.movv,[.t 14],none,[]⟩,
 ⟨some 282,.call,[.f 52,.t 281],none,[2,1]⟩,
 ⟨some 283,.movv,[.t 25],none,[]⟩,
 ⟨some 284,.call,[.f 54,.t 280,.t 282,.t 283],none,[1,3,4,3]⟩,
 ⟨some 278,.mov,[.t 284],none,[5]⟩,
 ⟨some 285,(.ext 0),[.t 278],none,[6]⟩,
 ⟨some 286,(.ext 1),[.t 278],none,[6]⟩,
 ⟨some 26,.movv,[.t 285],none,[7,5,0,1,2,3,4,5,6,7]⟩,
 ⟨some 27,.mov,[.t 286],none,[8,9,0,1,2,3,4,5,6,7,8,9]⟩] false))
 (.seq
 (.region [⟨some 287,.mov,[.t 27],none,[]⟩,
 ⟨some 288,(.bin .eql),[.t 287,.c (.int .i64 0)],none,[0]⟩,
 ⟨some 289,.mov,[.t 288],none,[1]⟩,
 ⟨some 290,.movv,[.t 26],(some (289,true)),[2]⟩,
 ⟨some 291,.len,[.t 290],(some (289,true)),[3,2]⟩,
 ⟨some 292,.call,[.f 47,.t 291,.c (.int .i64 1),.c (.int .i64 2)],(some (289,true)),[4,2,2]⟩,
 ⟨some 293,.pick,[.t 289,.t 292,.c (.bool false)],none,[2,5]⟩,
 ⟨some 6,.mov,[.t 293],none,[6,5,0,1,2,3,4,5,6]⟩] false)
 .ret)))
def b7k7:DCode :=
 (.seq
 (.region [⟨some 260,.movv,[.t 17],none,[]⟩,
 ⟨some 261,(.iaddr 3),[.t 260,.c (.int .i64 0)],none,[0]⟩,
 ⟨some 262,(.faddr 1 true 2),[.t 261],none,[1]⟩,
 ⟨some 263,(.faddr 1 false 1),[.t 262],none,[2]⟩,
 ⟨some 264,(.load false 1),[.t 263],none,[3]⟩,
 ⟨some 265,(.bin .add),[.t 264,.c (.int .i64 1)],none,[4]⟩,
 ⟨some 24,.mov,[.t 265],none,[5,0,1,2,3,4,5]⟩] false)
 (.seq
 (.seq
 (.region [⟨some 266,(.load true 1),[.t 7],none,[]⟩,
 ⟨some 267,.mov,[.t 24],none,[]⟩,
 ⟨some 268,.call,[.f 50,.t 266,.t 267],none,[0,1]⟩,
 ⟨some 269,(.un .not),[.t 268],none,[2]⟩] false)
 (.cond (.t 269)
 (.seq
 (.region [⟨some 6,.mov,[.c (.bool true)],none,[]⟩] false)
 .ret)
 .skip))
 (.keep [7,14,17,24] [7,14,17,163,237] b7k6)))
def b7k8:DCode :=
 (.seq
 (.region [⟨some 239,(.load true 1),[.t 7],none,[]⟩,
 ⟨some 240,.call,[.f 28,.t 239],none,[0]⟩,
 ⟨some 241,.movv,[.t 14],none,[]⟩,
 ⟨some 242,.call,[.f 52,.t 241],none,[2,1]⟩,
 ⟨some 243,.movv,[.t 17],none,[]⟩,
 ⟨some 244,.call,[.f 53,.t 243],none,[4,3]⟩,
 ⟨some 245,.call,[.f 51,.t 240,.t 242,.t 244],none,[1,3,5,5]⟩,
 ⟨some 238,.mov,[.t 245],none,[6]⟩,
 ⟨some 246,(.ext 0),[.t 238],none,[7]⟩,
 ⟨some 247,(.ext 1),[.t 238],none,[7]⟩,
 ⟨some 22,(.alloc [(.imm (.int .i64 0)),(.imm (.int .i64 0))]),[],none,[]⟩,
 ⟨none,(.store 2),[.t 22,.t 246],none,[10,8,6,0,1,2,3,4,5,6,7,8,10]⟩,
 ⟨some 23,.mov,[.t 247],none,[9,11,0,1,2,3,4,5,6,7,8,9,10,11]⟩] false)
 (.seq
 (.seq
 (.region [⟨some 248,.mov,[.t 23],none,[]⟩,
 ⟨some 249,(.bin .neq),[.t 248,.c (.int .i64 0)],none,[0]⟩,
 ⟨some 250,.mov,[.t 249],none,[1]⟩,
 ⟨some 251,(.faddr 0 false 1),[.t 4],(some (250,false)),[2]⟩,
 ⟨some 252,(.load false 1),[.t 251],(some (250,false)),[3,2]⟩,
 ⟨some 253,(.faddr 0 false 1),[.t 22],(some (250,false)),[2]⟩,
 ⟨some 254,(.load false 1),[.t 253],(some (250,false)),[5,2]⟩,
 ⟨some 255,(.faddr 1 false 1),[.t 22],(some (250,false)),[2]⟩,
 ⟨some 256,(.load false 1),[.t 255],(some (250,false)),[7,2]⟩,
 ⟨some 257,.call,[.f 47,.t 252,.t 254,.t 256],(some (250,false)),[4,6,8,2,2]⟩,
 ⟨some 258,(.un .not),[.t 257],(some (250,false)),[9,2]⟩,
 ⟨some 259,.pick,[.t 250,.c (.bool true),.t 258],none,[2,10]⟩] false)
 (.cond (.t 259)
 (.seq
 (.region [⟨some 6,.mov,[.c (.bool false)],none,[]⟩] false)
 .ret)
 .skip))
 (.keep [7,14,17] [7,14,17,163,237] b7k7)))
def b7k9:DCode :=
 (.seq
 (.region [⟨some 17,(.ntok 3),[.c (.slc 3 [])],none,[]⟩] false)
 (.seq
 (.region [⟨some 195,(.load true 2),[.t 4],none,[]⟩,
 ⟨some 196,(.bsl 2),[.t 195],none,[0]⟩,
 ⟨some 197,.movv,[.t 11],none,[]⟩,
 ⟨some 198,(.append 2 16 false),[.t 196,.t 197],none,[1,2]⟩,
 ⟨some 18,.movv,[.t 198],none,[3,3,0,1,2,3]⟩] false)
 (.seq
 (.seq
 (.region [⟨some 19,.mov,[.c (.int .i64 0)],none,[]⟩] false)
 (.block 2
 (.loop b7l1)))
 (.keep [4,7,14,17] [4,7,14,17,163,237] b7k8))))
def b7k10:DCode :=
 (.seq
 (.seq
 (.region [⟨some 192,(.faddr 1 false 1),[.t 12],none,[]⟩,
 ⟨some 193,(.load false 1),[.t 192],none,[0]⟩,
 ⟨some 194,(.bin .gtr),[.t 193,.c (.int .i64 0)],none,[1]⟩] false)
 (.cond (.t 194)
 (.seq
 (.region [⟨some 6,.mov,[.c (.bool true)],none,[]⟩] false)
 .ret)
 .skip))
 (.keep [4,7,11,14] [4,7,14,163] b7k9))
def b7k11:DCode :=
 (.seq
 (.region [⟨some 164,.movv,[.t 11],none,[]⟩,
 ⟨some 165,.movv,[.t 11],none,[]⟩,
 ⟨some 166,.len,[.t 165],none,[1]⟩,
 ⟨some 167,(.bin .sub),[.t 166,.c (.int .i64 1)],none,[2]⟩,
 ⟨some 168,(.iaddr 2),[.t 164,.t 167],none,[0,3]⟩,
 ⟨some 169,(.load true 2),[.t 168],none,[4]⟩,
 ⟨some 16,(.alloc [(.imm (.int .i64 0)),(.imm (.int .i64 0))]),[],none,[]⟩,
 ⟨none,(.store 2),[.t 16,.t 169],none,[6,5,0,1,2,3,4,5,6]⟩] false)
 (.seq
 (.seq
 (.region [⟨some 170,(.load true 3),[.t 3],none,[]⟩,
 ⟨some 171,(.load true 2),[.t 16],none,[]⟩,
 ⟨some 172,.call,[.f 48,.t 170,.t 171],none,[0,1]⟩,
 ⟨some 173,(.bin .neq),[.t 172,.c (.int .i64 0)],none,[2]⟩,
 ⟨some 174,.mov,[.t 173],none,[3,2]⟩,
 ⟨some 175,(.faddr 0 false 1),[.t 16],(some (174,false)),[4]⟩,
 ⟨some 176,(.load false 1),[.t 175],(some (174,false)),[5,4]⟩,
 ⟨some 177,(.faddr 1 false 1),[.t 16],(some (174,false)),[4]⟩,
 ⟨some 178,(.load false 1),[.t 177],(some (174,false)),[7,4]⟩,
 ⟨some 179,(.bin .add),[.t 176,.t 178],(some (174,false)),[6,8,4]⟩,
 ⟨some 180,(.faddr 1 false 1),[.t 12],(some (174,false)),[4]⟩,
 ⟨some 181,(.load false 1),[.t 180],(some (174,false)),[10,4]⟩,
 ⟨some 182,(.bin .add),[.t 179,.t 181],(some (174,false)),[9,11,4]⟩,
 ⟨some 183,(.faddr 0 false 1),[.t 4],(some (174,false)),[4]⟩,
 ⟨some 184,(.load false 1),[.t 183],(some (174,false)),[13,4]⟩,
 ⟨some 185,(.faddr 1 false 1),[.t 4],(some (174,false)),[4]⟩,
 ⟨some 186,(.load false 1),[.t 185],(some (174,false)),[15,4]⟩,
 ⟨some 187,(.bin .add),[.t 184,.t 186],(some (174,false)),[14,16,4]⟩,
 ⟨some 188,.mov,[.t 13],(some (174,false)),[4]⟩,
 ⟨some 189,(.bin .add),[.t 187,.t 188],(some (174,false)),[17,18,4]⟩,
 ⟨some 190,(.bin .neq),[.t 182,.t 189],(some (174,false)),[12,19,4]⟩,
 ⟨some 191,.pick,[.t 174,.c (.bool true),.t 190],none,[4,20]⟩] false)
 (.cond (.t 191)
 (.seq
 (.region [⟨some 6,.mov,[.c (.bool false)],none,[]⟩] false)
 .ret)
 .skip))
 (.keep [4,7,11,12,14] [4,7,12,14,163] b7k10)))
def b7k12:DCode :=
 (.seq
 (.region [⟨some 13,.mov,[.c (.int .i64 0)],none,[]⟩] false)
 (.seq
 (.region [⟨some 14,(.ntok 1),[.c (.slc 1 [])],none,[]⟩] false)
 (.seq
 (.seq
 (.region [⟨some 15,.mov,[.c (.int .i64 0)],none,[]⟩] false)
 (.block 0
 (.loop b7l0)))
 (.keep [3,4,7,11,12,13,14] [3,4,7,12,14,163] b7k11))))
def b7k13:DCode :=
 (.seq
 (.seq
 (.region [⟨some 102,.movv,[.t 11],none,[]⟩,
 ⟨some 103,.len,[.t 102],none,[0]⟩,
 ⟨some 104,.movv,[.t 2],none,[]⟩,
 ⟨some 105,.len,[.t 104],none,[2]⟩,
 ⟨some 106,(.bin .neq),[.t 103,.t 105],none,[1,3]⟩,
 ⟨some 107,.mov,[.t 106],none,[4]⟩,
 ⟨some 108,(.faddr 0 false 1),[.t 12],(some (107,false)),[5]⟩,
 ⟨some 109,(.load false 1),[.t 108],(some (107,false)),[6,5]⟩,
 ⟨some 110,(.bin .neq),[.t 109,.c (.int .i64 0)],(some (107,false)),[7,5]⟩,
 ⟨some 111,.pick,[.t 107,.c (.bool true),.t 110],none,[5,8]⟩,
 ⟨some 112,.mov,[.t 111],none,[9,5]⟩,
 ⟨some 113,(.faddr 1 false 1),[.t 12],(some (112,false)),[10]⟩,
 ⟨some 114,(.load false 1),[.t 113],(some (112,false)),[11,10]⟩,
 ⟨some 115,.call,[.f 47,.t 114,.c (.int .i64 0),.c (.int .i64 16000000000)],(some (112,false)),[12,10,10]⟩,
 ⟨some 116,(.un .not),[.t 115],(some (112,false)),[13,10]⟩,
 ⟨some 117,.pick,[.t 112,.c (.bool true),.t 116],none,[10,14]⟩] false)
 (.cond (.t 117)
 (.seq
 (.region [⟨some 6,.mov,[.c (.bool false)],none,[]⟩] false)
 .ret)
 .skip))
 (.keep [2,3,4,7,11,12] [3,4,7,12] b7k12))
def b7k14:DCode :=
 (.seq
 (.region [⟨some 90,(.load true 3),[.t 3],none,[]⟩,
 ⟨some 91,.call,[.f 46,.t 90],none,[0]⟩,
 ⟨some 92,(.load true 2),[.t 4],none,[]⟩,
 ⟨some 93,.movv,[.t 9],none,[]⟩,
 ⟨some 94,.call,[.f 45,.t 91,.t 92,.t 93],none,[1,2,3,1]⟩,
 ⟨some 89,.mov,[.t 94],none,[4]⟩,
 ⟨some 95,(.ext 0),[.t 89],none,[5]⟩,
 ⟨some 96,(.ext 1),[.t 89],none,[5]⟩,
 ⟨some 97,(.ext 2),[.t 89],none,[5]⟩,
 ⟨some 12,(.alloc [(.imm (.int .i64 0)),(.imm (.int .i64 0))]),[],none,[]⟩,
 ⟨some 11,.movv,[.t 95],none,[6,4,0,1,2,3,4,5,6,9]⟩,
 ⟨none,(.store 2),[.t 12,.t 96],none,[9,7,10,0,1,2,3,4,5,6,7,9,10]⟩,
 ⟨some 8,.mov,[.t 97],none,[8,11,0,1,2,3,4,5,6,7,8,9,10,11]⟩] true)
 (.seq
 (.seq
 (.region [⟨some 98,.mov,[.t 8],none,[]⟩,
 ⟨some 99,(.bin .neq),[.t 98,.c (.int .i64 0)],none,[0]⟩] false)
 (.cond (.t 99)
 (.seq
 (.region [⟨some 100,.mov,[.t 8],none,[]⟩,
 ⟨some 101,(.bin .eql),[.t 100,.c (.int .i64 22)],none,[0]⟩,
 ⟨some 6,.mov,[.t 101],none,[1,0,1]⟩] false)
 .ret)
 .skip))
 (.keep [2,3,4,7,11,12] [3,4,7,12] b7k13)))
def b7k15:DCode :=
 (.seq
 (.region [⟨some 54,(.faddr 2 false 1),[.t 3],none,[]⟩,
 ⟨none,(.store 1),[.t 54,.c (.int .i64 0)],none,[0]⟩] false)
 (.seq
 (.region [⟨some 56,(.faddr 0 true 1),[.t 3],none,[]⟩,
 ⟨some 57,(.load true 1),[.t 56],none,[0]⟩,
 ⟨some 58,.call,[.f 28,.t 57],none,[1]⟩,
 ⟨some 59,.call,[.f 27,.t 58],none,[2,2]⟩,
 ⟨some 60,.call,[.f 29,.t 59],none,[3,3]⟩,
 ⟨some 55,.mov,[.t 60],none,[4]⟩,
 ⟨some 61,(.ext 0),[.t 55],none,[5]⟩,
 ⟨some 62,(.ext 1),[.t 55],none,[5]⟩,
 ⟨some 7,(.alloc [(.imm (.slc 2 []))]),[],none,[]⟩,
 ⟨none,(.store 1),[.t 7,.t 61],none,[8,6,4,0,1,2,3,4,5,6,8]⟩,
 ⟨some 8,.mov,[.t 62],none,[7,9,0,1,2,3,4,5,6,7,8,9]⟩] false)
 (.seq
 (.region [⟨some 64,.movv,[.t 2],none,[]⟩,
 ⟨some 65,.call,[.f 36,.t 64],none,[0]⟩,
 ⟨some 66,.call,[.f 35,.t 65],none,[1,1]⟩,
 ⟨some 67,.call,[.f 37,.t 66],none,[2,2]⟩,
 ⟨some 63,.mov,[.t 67],none,[3]⟩,
 ⟨some 68,(.ext 0),[.t 63],none,[4]⟩,
 ⟨some 69,(.ext 1),[.t 63],none,[4]⟩,
 ⟨some 9,.movv,[.t 68],none,[5,3,0,1,2,3,4,5]⟩,
 ⟨some 10,.mov,[.t 69],none,[6,7,0,1,2,3,4,5,6,7]⟩] false)
 (.seq
 (.seq
 (.region [⟨some 70,.mov,[.t 8],none,[]⟩,
 ⟨some 71,(.bin .neq),[.t 70,.c (.int .i64 0)],none,[0]⟩,
 ⟨some 72,.mov,[.t 71],none,[1]⟩,
 ⟨some 73,.mov,[.t 10],(some (72,false)),[2]⟩,
 ⟨some 74,(.bin .neq),[.t 73,.c (.int .i64 0)],(some (72,false)),[3,2]⟩,
 ⟨some 75,.pick,[.t 72,.c (.bool true),.t 74],none,[2,4]⟩,
 ⟨some 76,.mov,[.t 75],none,[5,2]⟩,
 ⟨some 77,(.load true 1),[.t 7],(some (76,false)),[6]⟩,
 ⟨some 78,(.faddr 0 true 1),[.t 3],(some (76,false)),[6]⟩,
 ⟨some 79,(.load true 1),[.t 78],(some (76,false)),[8,6]⟩,
 ⟨some 80,.call,[.f 32,.t 77,.t 79],(some (76,false)),[7,9,6,6]⟩,
 ⟨some 81,(.un .not),[.t 80],(some (76,false)),[10,6]⟩,
 ⟨some 82,.pick,[.t 76,.c (.bool true),.t 81],none,[6,11]⟩,
 ⟨some 83,.mov,[.t 82],none,[12,10]⟩,
 ⟨some 84,.movv,[.t 9],(some (83,false)),[13]⟩,
 ⟨some 85,.movv,[.t 2],(some (83,false)),[13]⟩,
 ⟨some 86,.call,[.f 40,.t 84,.t 85],(some (83,false)),[14,15,13,13]⟩,
 ⟨some 87,(.un .not),[.t 86],(some (83,false)),[16,13]⟩,
 ⟨some 88,.pick,[.t 83,.c (.bool true),.t 87],none,[13,17]⟩] false)
 (.cond (.t 88)
 (.seq
 (.region [⟨some 6,.mov,[.c (.bool false)],none,[]⟩] false)
 .ret)
 .skip))
 (.keep [2,3,4,7,9] [3,4,7] b7k14)))))
def b7k16:DCode :=
 (.seq
 (.seq
 (.region [⟨some 30,(.load true 3),[.t 3],none,[]⟩,
 ⟨some 31,.call,[.f 43,.t 30],none,[0]⟩,
 ⟨some 32,(.un .not),[.t 31],none,[1]⟩,
 ⟨some 33,.mov,[.t 32],none,[2,1]⟩,
 ⟨some 34,.movv,[.t 2],(some (33,false)),[3]⟩,
 ⟨some 35,.len,[.t 34],(some (33,false)),[4,3]⟩,
 ⟨some 36,(.bin .eql),[.t 35,.c (.int .i64 0)],(some (33,false)),[5,3]⟩,
 ⟨some 37,.pick,[.t 33,.c (.bool true),.t 36],none,[3,6]⟩,
 ⟨some 38,.mov,[.t 37],none,[7,3]⟩,
 ⟨some 39,.movv,[.t 2],(some (38,false)),[8]⟩,
 ⟨some 40,.len,[.t 39],(some (38,false)),[9,8]⟩,
 ⟨some 41,(.bin .gtr),[.t 40,.c (.int .i64 8)],(some (38,false)),[10,8]⟩,
 ⟨some 42,.pick,[.t 38,.c (.bool true),.t 41],none,[8,11]⟩,
 ⟨some 43,.mov,[.t 42],none,[12,8]⟩,
 ⟨some 44,(.load true 3),[.t 3],(some (43,false)),[13]⟩,
 ⟨some 45,(.load true 2),[.t 4],(some (43,false)),[13]⟩,
 ⟨some 46,.call,[.f 44,.t 44,.t 45],(some (43,false)),[14,15,13,13]⟩,
 ⟨some 47,(.bin .neq),[.t 46,.c (.int .i64 0)],(some (43,false)),[16,13]⟩,
 ⟨some 48,.pick,[.t 43,.c (.bool true),.t 47],none,[13,17]⟩,
 ⟨some 49,.mov,[.t 48],none,[18,16]⟩,
 ⟨some 50,.movv,[.t 2],(some (49,false)),[19]⟩,
 ⟨some 51,.call,[.f 41,.t 50],(some (49,false)),[20,19,19]⟩,
 ⟨some 52,(.bin .neq),[.t 51,.c (.int .i64 0)],(some (49,false)),[21,19]⟩,
 ⟨some 53,.pick,[.t 49,.c (.bool true),.t 52],none,[19,22]⟩] false)
 (.cond (.t 53)
 (.seq
 (.region [⟨some 6,.mov,[.c (.bool true)],none,[]⟩] false)
 .ret)
 .skip))
 (.keep [2,3,4] [3,4] b7k15))
def b7:DCode :=
 (.seq
 (.region [⟨some 3,.box,[.t 0],none,[]⟩,
 ⟨some 4,.box,[.t 1],none,[]⟩,
 ⟨some 6,.mov,[.c (.bool false)],none,[]⟩] false)
 (.seq
 (.seq
 (.region [⟨some 28,.call,[.f 42],none,[]⟩,
 ⟨some 29,(.un .not),[.t 28],none,[0]⟩] false)
 (.cond (.t 29)
 (.seq
 (.region [⟨some 6,.mov,[.c (.bool false)],none,[]⟩] false)
 .ret)
 .skip))
 (.keep [2,3,4] [3,4] b7k16)))
def d7:DFn:=⟨3,294,[.tmp 6],b7⟩
theorem body7:d7.body=b7:=rfl
theorem res7:d7.res=[.tmp 6]:=rfl
theorem k7:chkFn Tryz.prog Tryz.f7 d7=true:=by kernel_rfl
end Go.DI


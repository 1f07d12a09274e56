/- The functions of TopWavesAgree, as data. No condition. -/
import Derived.Test.YtaphhpphfffnfaaGreatDoorTaGe
import Derived.Test.YtaphhpphfffnfaaGreatDoorProg
import Derived.KernelRfl
namespace Go.DI
open Go.Proofs Go.RowKit
def b55:DCode :=
 (.seq
 (.region [⟨some 0,.mov,[.c (.bool false)],none,[]⟩] false)
 (.seq
 (.region [⟨some 6,.call,[.f 89],none,[]⟩,
 ⟨some 7,(.bsl 1),[.c (.int .i64 5)],none,[]⟩,
 ⟨some 8,.call,[.f 88,.t 6,.t 7,.c (.int .i64 5)],none,[0,1,0]⟩,
 ⟨some 5,.mov,[.t 8],none,[2]⟩,
 ⟨some 9,(.ext 0),[.t 5],none,[3]⟩,
 ⟨some 10,(.ext 1),[.t 5],none,[3]⟩,
 ⟨some 1,.movv,[.t 9],none,[4,2,0,1,2,3,4]⟩,
 ⟨some 2,.mov,[.t 10],none,[5,6,0,1,2,3,4,5,6]⟩] false)
 (.seq
 (.region [⟨some 12,.call,[.f 90],none,[]⟩,
 ⟨some 13,.call,[.f 65,.t 12,.c (.int .i64 1)],none,[0,0]⟩,
 ⟨some 11,.mov,[.t 13],none,[1]⟩,
 ⟨some 14,(.ext 0),[.t 11],none,[2]⟩,
 ⟨some 15,(.ext 1),[.t 11],none,[2]⟩,
 ⟨some 3,(.alloc [(.imm (.int .i64 0)),(.imm (.int .i64 0)),(.imm (.int .i64 0)),(.imm (.int .i64 0))]),[],none,[]⟩,
 ⟨none,(.store 4),[.t 3,.t 14],none,[5,3,1,0,1,2,3,5]⟩,
 ⟨some 4,.mov,[.t 15],none,[4,6,0,1,2,3,4,5,6]⟩] false)
 (.seq
 (.region [⟨some 16,.mov,[.t 2],none,[]⟩,
 ⟨some 17,(.bin .eql),[.t 16,.c (.int .i64 0)],none,[0]⟩,
 ⟨some 18,.mov,[.t 17],none,[1]⟩,
 ⟨some 19,.movv,[.t 1],(some (18,true)),[2]⟩,
 ⟨some 20,(.bsl 1),[.c (.int .i64 5),.c (.int .i64 5),.c (.int .i64 5),.c (.int .i64 5),.c (.int .i64 (-5))],(some (18,true)),[2]⟩,
 ⟨some 21,.call,[.f 93,.t 19,.t 20],(some (18,true)),[3,4,2,2]⟩,
 ⟨some 22,.pick,[.t 18,.t 21,.c (.bool false)],none,[2,5]⟩,
 ⟨some 23,.mov,[.t 22],none,[6,5]⟩,
 ⟨some 24,.mov,[.t 4],(some (23,true)),[7]⟩,
 ⟨some 25,(.bin .eql),[.t 24,.c (.int .i64 0)],(some (23,true)),[8,7]⟩,
 ⟨some 26,.pick,[.t 23,.t 25,.c (.bool false)],none,[7,9]⟩,
 ⟨some 27,.mov,[.t 26],none,[10,7]⟩,
 ⟨some 28,(.load true 4),[.t 3],(some (27,true)),[11]⟩,
 ⟨some 29,(.build [(.imm (.int .i64 0)),(.imm (.int .i64 0))] [(0,1),(1,1)]),[.c (.int .i64 (-2)),.c (.int .i64 (-2))],(some (27,true)),[11]⟩,
 ⟨some 30,(.build [(.imm (.int .i64 0)),(.imm (.int .i64 0))] [(0,1)]),[.c (.int .i64 9)],(some (27,true)),[11]⟩,
 ⟨some 31,(.build [(.imm (.int .i64 0)),(.imm (.int .i64 0)),(.imm (.int .i64 0)),(.imm (.int .i64 0))] [(0,2),(2,2)]),[.t 29,.t 30],(some (27,true)),[13,14,11]⟩,
 ⟨some 32,(.eqs [false,false,false,false] false),[.t 28,.t 31],(some (27,true)),[12,15,11]⟩,
 ⟨some 33,.pick,[.t 27,.t 32,.c (.bool false)],none,[11,16]⟩,
 ⟨some 0,.mov,[.t 33],none,[17,11,0,1,2,3,4,5,6,7,8,9,10,11,12,13,14,15,16,17]⟩] false)
 .ret))))
def d55:DFn:=⟨0,34,[.tmp 0],b55⟩
theorem body55:d55.body=b55:=rfl
theorem res55:d55.res=[.tmp 0]:=rfl
theorem k55:chkFn Tryz.prog Tryz.f55 d55=true:=by kernel_rfl
def b8k0:DCode :=
 (.region [⟨some 128,.mov,[.t 12],none,[]⟩,
 ⟨some 129,(.bin .add),[.t 128,.c (.int .i64 1)],none,[0]⟩,
 ⟨some 12,.mov,[.t 129],none,[1,0,1]⟩] false)
def b8k1:DCode :=
 (.seq
 (.block 1
 (.seq
 (.region [⟨some 130,.movv,[.t 11],none,[]⟩,
 ⟨some 131,.mov,[.t 12],none,[]⟩,
 ⟨some 132,(.iaddr 2),[.t 130,.t 131],none,[0,1]⟩,
 ⟨some 133,(.faddr 0 false 1),[.t 132],none,[2]⟩,
 ⟨some 134,(.load false 1),[.t 133],none,[3]⟩,
 ⟨some 135,.call,[.f 47,.t 134,.c (.int .i64 (-100000)),.c (.int .i64 100000)],none,[4]⟩,
 ⟨some 136,(.un .not),[.t 135],none,[5]⟩,
 ⟨some 137,.mov,[.t 136],none,[6,5]⟩,
 ⟨some 138,.movv,[.t 11],(some (137,false)),[7]⟩,
 ⟨some 139,.mov,[.t 12],(some (137,false)),[7]⟩,
 ⟨some 140,(.iaddr 2),[.t 138,.t 139],(some (137,false)),[8,9,7]⟩,
 ⟨some 141,(.faddr 1 false 1),[.t 140],(some (137,false)),[10,7]⟩,
 ⟨some 142,(.load false 1),[.t 141],(some (137,false)),[11,7]⟩,
 ⟨some 143,.call,[.f 47,.t 142,.c (.int .i64 (-100000)),.c (.int .i64 100000)],(some (137,false)),[12,7,7]⟩,
 ⟨some 144,(.un .not),[.t 143],(some (137,false)),[13,7]⟩,
 ⟨some 145,.pick,[.t 137,.c (.bool true),.t 144],none,[7,14]⟩] false)
 (.cond (.t 145)
 (.seq
 (.region [⟨some 6,.mov,[.c (.bool true)],none,[]⟩] false)
 .ret)
 .skip)))
 (.keep [1,3,9,11,12] [3,9] b8k0))
def b8l0:DCode:=.keep [1,3,9,11,12] [3,9]
 (.seq
 (.seq
 (.region [⟨some 124,.mov,[.t 12],none,[]⟩,
 ⟨some 125,.movv,[.t 11],none,[]⟩,
 ⟨some 126,.len,[.t 125],none,[1]⟩,
 ⟨some 127,(.bin .lss),[.t 124,.t 126],none,[0,2]⟩] false)
 (.cond (.t 127)
 .skip
 (.exit 0)))
 (.keep [1,3,9,11,12] [3,9] b8k1))
def b8k2:DCode :=
 (.seq
 (.region [⟨some 216,(.faddr 0 false 1),[.t 17],none,[]⟩,
 ⟨some 217,(.load false 1),[.t 216],none,[0]⟩,
 ⟨some 218,.mov,[.t 13],none,[]⟩,
 ⟨some 219,(.iaddr 1),[.t 217,.t 218],none,[1,2]⟩,
 ⟨some 220,(.load false 1),[.t 219],none,[3]⟩,
 ⟨some 221,(.faddr 1 false 1),[.t 23],none,[]⟩,
 ⟨some 222,(.load false 1),[.t 221],none,[5]⟩,
 ⟨some 223,.mov,[.t 13],none,[]⟩,
 ⟨some 224,(.iaddr 1),[.t 222,.t 223],none,[6,7]⟩,
 ⟨some 225,(.load false 1),[.t 224],none,[8]⟩,
 ⟨some 25,.mov,[.t 220],none,[4,0,1,2,3,4]⟩,
 ⟨some 26,.mov,[.t 225],none,[9,10,0,1,2,3,4,5,6,7,8,9,10]⟩] true)
 (.seq
 (.region [⟨some 226,.mov,[.t 16],none,[]⟩,
 ⟨some 227,.mov,[.t 16],none,[]⟩,
 ⟨some 228,.mov,[.t 25],none,[]⟩,
 ⟨some 229,.mov,[.t 26],none,[]⟩,
 ⟨some 230,(.bin .add),[.t 228,.t 229],none,[2,3]⟩,
 ⟨some 231,(.faddr 0 false 1),[.t 3],none,[]⟩,
 ⟨some 232,(.loadf false 1 [3]),[.t 231],none,[5]⟩,
 ⟨some 233,(.faddr 0 false 1),[.t 3],none,[]⟩,
 ⟨some 234,(.loadf false 1 [3]),[.t 233],none,[7]⟩,
 ⟨some 235,.len,[.t 234],none,[8]⟩,
 ⟨some 236,(.bin .sub),[.t 235,.c (.int .i64 1)],none,[9]⟩,
 ⟨some 237,(.iaddr 2),[.t 232,.t 236],none,[6,10]⟩,
 ⟨some 238,(.faddrp 1 false 1),[.t 237],none,[11]⟩,
 ⟨some 239,(.loadf false 1 []),[.t 238],none,[12]⟩,
 ⟨some 240,.mov,[.t 25],none,[]⟩,
 ⟨some 241,.mov,[.t 26],none,[]⟩,
 ⟨some 242,(.bin .sub),[.t 240,.t 241],none,[14,15]⟩,
 ⟨some 243,(.bin .mul),[.t 239,.t 242],none,[13,16]⟩,
 ⟨some 244,(.iarr 4 1 false),[.t 14,.t 226],none,[0,0,2,3,4]⟩,
 ⟨none,(.storef 1 [14]),[.t 244,.t 230],none,[18,4,0,2,3,4]⟩,
 ⟨some 245,(.iarr 4 1 false),[.t 15,.t 227],none,[1,0,1,2,3,4,5,6,7,8,9,10,11,12,13,14,15,16,17,18,19]⟩,
 ⟨none,(.storef 1 [15]),[.t 245,.t 243],none,[20,17,19,0,1,2,3,4,5,6,7,8,9,10,11,12,13,14,15,16,17,18,19]⟩] true)
 (.seq
 (.region [⟨some 246,.mov,[.t 16],none,[]⟩,
 ⟨some 247,(.iarr 4 1 false),[.t 15,.t 246],none,[0]⟩,
 ⟨some 248,(.load false 1),[.t 247],none,[1]⟩,
 ⟨some 249,(.faddr 0 false 1),[.t 3],none,[]⟩,
 ⟨some 250,(.load false 1),[.t 249],none,[3]⟩,
 ⟨some 251,(.faddr 0 false 1),[.t 3],none,[]⟩,
 ⟨some 252,(.load false 1),[.t 251],none,[5]⟩,
 ⟨some 253,.len,[.t 252],none,[6]⟩,
 ⟨some 254,(.bin .sub),[.t 253,.c (.int .i64 1)],none,[7]⟩,
 ⟨some 255,(.iaddr 2),[.t 250,.t 254],none,[4,8]⟩,
 ⟨some 256,(.faddr 1 false 1),[.t 255],none,[9]⟩,
 ⟨some 257,(.load false 1),[.t 256],none,[10]⟩,
 ⟨some 258,(.un .neg),[.t 257],none,[11]⟩,
 ⟨some 259,.mov,[.t 21],none,[]⟩,
 ⟨some 260,(.bin .mul),[.t 258,.t 259],none,[12,13]⟩,
 ⟨some 261,(.bin .neq),[.t 248,.t 260],none,[2,14]⟩] true)
 (.cond (.t 261)
 (.seq
 (.region [⟨some 6,.mov,[.c (.bool false)],none,[]⟩] false)
 .ret)
 .skip))))
def b8k3:DCode :=
 (.seq
 (.region [⟨some 200,(.load true 2),[.t 3],none,[]⟩,
 ⟨some 201,.call,[.f 13,.t 200],none,[0]⟩,
 ⟨some 202,(.load true 3),[.t 17],none,[]⟩,
 ⟨some 203,.call,[.f 64,.t 202],none,[2,1]⟩,
 ⟨some 204,.mov,[.t 21],none,[]⟩,
 ⟨some 205,.call,[.f 63,.t 201,.t 203,.t 204],none,[1,3,4,3]⟩,
 ⟨some 199,.mov,[.t 205],none,[5]⟩,
 ⟨some 206,(.ext 0),[.t 199],none,[6]⟩,
 ⟨some 207,(.ext 1),[.t 199],none,[6]⟩,
 ⟨some 23,(.alloc [(.imm (.slc 1 [])),(.imm (.slc 1 [])),(.imm (.slc 1 []))]),[],none,[]⟩,
 ⟨none,(.store 3),[.t 23,.t 206],none,[9,7,5,0,1,2,3,4,5,6,7,9]⟩,
 ⟨some 24,.mov,[.t 207],none,[8,10,0,1,2,3,4,5,6,7,8,9,10]⟩] true)
 (.seq
 (.seq
 (.region [⟨some 208,.mov,[.t 24],none,[]⟩,
 ⟨some 209,(.bin .neq),[.t 208,.c (.int .i64 0)],none,[0]⟩,
 ⟨some 210,.mov,[.t 209],none,[1]⟩,
 ⟨some 211,(.load true 2),[.t 3],(some (210,false)),[2]⟩,
 ⟨some 212,(.load true 3),[.t 23],(some (210,false)),[2]⟩,
 ⟨some 213,.call,[.f 62,.t 211,.t 212],(some (210,false)),[3,4,2,2]⟩,
 ⟨some 214,(.bin .neq),[.t 213,.c (.int .i64 0)],(some (210,false)),[5,2]⟩,
 ⟨some 215,.pick,[.t 210,.c (.bool true),.t 214],none,[2,6]⟩] false)
 (.cond (.t 215)
 (.seq
 (.region [⟨some 6,.mov,[.c (.bool false)],none,[]⟩] false)
 .ret)
 .skip))
 (.keep [1,3,9,13,14,15,16,17,21,23] [3,9,14,15,17,23] b8k2)))
def b8k4:DCode :=
 (.region [⟨some 164,.mov,[.t 16],none,[]⟩,
 ⟨some 165,(.bin .add),[.t 164,.c (.int .i64 1)],none,[0]⟩,
 ⟨some 16,.mov,[.t 165],none,[1,0,1]⟩] false)
def b8k5:DCode :=
 (.seq
 (.block 3
 (.seq
 (.region [⟨some 167,(.load true 2),[.t 3],none,[]⟩,
 ⟨some 168,.call,[.f 13,.t 167],none,[0]⟩,
 ⟨some 169,(.load true 6),[.t 9],none,[]⟩,
 ⟨some 170,.call,[.f 61,.t 169],none,[2,1]⟩,
 ⟨some 171,.mov,[.t 16],none,[]⟩,
 ⟨some 172,(.bin .add),[.t 171,.c (.int .i64 3)],none,[4]⟩,
 ⟨some 173,.call,[.f 60,.t 168,.t 170,.t 172],none,[1,3,5,3]⟩,
 ⟨some 166,.mov,[.t 173],none,[6]⟩,
 ⟨some 174,(.ext 0),[.t 166],none,[7]⟩,
 ⟨some 175,(.ext 1),[.t 166],none,[7]⟩,
 ⟨some 176,(.ext 2),[.t 166],none,[7]⟩,
 ⟨some 17,(.alloc [(.imm (.slc 1 [])),(.imm (.slc 1 [])),(.imm (.slc 1 []))]),[],none,[]⟩,
 ⟨none,(.store 3),[.t 17,.t 174],none,[11,8,6,0,1,2,3,4,5,6,7,8,11]⟩,
 ⟨some 18,.mov,[.t 175],none,[9,12,0,1,2,3,4,5,6,7,8,9,11,12]⟩,
 ⟨some 19,.mov,[.t 176],none,[10,13,0,1,2,3,4,5,6,7,8,9,10,11,12,13]⟩] true)
 (.seq
 (.region [⟨some 178,(.load true 2),[.t 3],none,[]⟩,
 ⟨some 179,.call,[.f 13,.t 178],none,[0]⟩,
 ⟨some 180,(.load true 6),[.t 9],none,[]⟩,
 ⟨some 181,.call,[.f 61,.t 180],none,[2,1]⟩,
 ⟨some 182,.mov,[.t 16],none,[]⟩,
 ⟨some 183,.call,[.f 60,.t 179,.t 181,.t 182],none,[1,3,4,3]⟩,
 ⟨some 177,.mov,[.t 183],none,[5]⟩,
 ⟨some 184,(.ext 0),[.t 177],none,[6]⟩,
 ⟨some 185,(.ext 1),[.t 177],none,[6]⟩,
 ⟨some 186,(.ext 2),[.t 177],none,[6]⟩,
 ⟨some 20,(.alloc [(.imm (.slc 1 [])),(.imm (.slc 1 [])),(.imm (.slc 1 []))]),[],none,[]⟩,
 ⟨none,(.store 3),[.t 20,.t 184],none,[10,7,5,0,1,2,3,4,5,6,7,10]⟩,
 ⟨some 21,.mov,[.t 185],none,[8,11,0,1,2,3,4,5,6,7,8,10,11]⟩,
 ⟨some 22,.mov,[.t 186],none,[9,12,0,1,2,3,4,5,6,7,8,9,10,11,12]⟩] true)
 (.seq
 (.seq
 (.region [⟨some 187,.mov,[.t 19],none,[]⟩,
 ⟨some 188,(.bin .neq),[.t 187,.c (.int .i64 0)],none,[0]⟩,
 ⟨some 189,.mov,[.t 188],none,[1]⟩,
 ⟨some 190,.mov,[.t 22],(some (189,false)),[2]⟩,
 ⟨some 191,(.bin .neq),[.t 190,.c (.int .i64 0)],(some (189,false)),[3,2]⟩,
 ⟨some 192,.pick,[.t 189,.c (.bool true),.t 191],none,[2,4]⟩,
 ⟨some 193,.mov,[.t 192],none,[5,2]⟩,
 ⟨some 194,(.load true 2),[.t 3],(some (193,false)),[6]⟩,
 ⟨some 195,(.load true 3),[.t 17],(some (193,false)),[6]⟩,
 ⟨some 196,.call,[.f 62,.t 194,.t 195],(some (193,false)),[7,8,6,6]⟩,
 ⟨some 197,(.bin .neq),[.t 196,.c (.int .i64 0)],(some (193,false)),[9,6]⟩,
 ⟨some 198,.pick,[.t 193,.c (.bool true),.t 197],none,[6,10]⟩] false)
 (.cond (.t 198)
 (.seq
 (.region [⟨some 6,.mov,[.c (.bool false)],none,[]⟩] false)
 .ret)
 .skip))
 (.keep [1,3,9,13,14,15,16,17,21] [3,9,14,15,17] b8k3)))))
 (.keep [1,3,9,13,14,15,16] [3,9,14,15] b8k4))
def b8l1:DCode:=.keep [1,3,9,13,14,15,16] [3,9,14,15]
 (.seq
 (.seq
 (.region [⟨some 162,.mov,[.t 16],none,[]⟩,
 ⟨some 163,(.bin .lss),[.t 162,.c (.int .i64 4)],none,[0]⟩] false)
 (.cond (.t 163)
 .skip
 (.exit 2)))
 (.keep [1,3,9,13,14,15,16] [3,9,14,15] b8k5))
def b8k6:DCode :=
 (.seq
 (.region [⟨some 344,.mov,[.t 1],none,[]⟩,
 ⟨some 345,(.bin .rem),[.t 344,.c (.int .i64 2)],none,[0]⟩,
 ⟨some 346,(.bin .eql),[.t 345,.c (.int .i64 1)],none,[1]⟩,
 ⟨some 347,.mov,[.t 346],none,[2]⟩,
 ⟨some 348,(.load true 2),[.t 30],(some (347,true)),[3]⟩,
 ⟨some 349,(.faddr 2 true 2),[.t 27],(some (347,true)),[3]⟩,
 ⟨some 350,(.load true 2),[.t 349],(some (347,true)),[5,3]⟩,
 ⟨some 351,.call,[.f 66,.t 348,.t 350],(some (347,true)),[4,6,3,3]⟩,
 ⟨some 352,(.load true 2),[.t 31],(some (347,true)),[3]⟩,
 ⟨some 353,(.faddr 0 true 2),[.t 27],(some (347,true)),[3]⟩,
 ⟨some 354,(.load true 2),[.t 353],(some (347,true)),[9,3]⟩,
 ⟨some 355,.call,[.f 66,.t 352,.t 354],(some (347,true)),[8,10,7,3]⟩,
 ⟨some 356,(.eqs [false,false] true),[.t 351,.t 355],(some (347,true)),[7,11,3]⟩,
 ⟨some 357,.pick,[.t 347,.t 356,.c (.bool false)],none,[3,12]⟩] true)
 (.cond (.t 357)
 (.seq
 (.region [⟨some 6,.mov,[.c (.bool false)],none,[]⟩] false)
 .ret)
 .skip))
def b8k7:DCode :=
 (.seq
 (.seq
 (.region [⟨some 330,.mov,[.t 1],none,[]⟩,
 ⟨some 331,(.bin .eql),[.t 330,.c (.int .i64 3)],none,[0]⟩] false)
 (.cond (.t 331)
 (.region [⟨some 332,.mov,[.t 29],none,[]⟩,
 ⟨some 333,(.bin .add),[.t 332,.c (.int .i64 1)],none,[0]⟩,
 ⟨some 334,(.bin .rem),[.t 333,.c (.int .i64 4)],none,[1]⟩,
 ⟨some 335,(.iarr 4 1 false),[.t 14,.t 334],none,[2]⟩,
 ⟨some 336,(.loadf false 1 [14]),[.t 335],none,[3]⟩,
 ⟨some 337,.mov,[.t 29],none,[]⟩,
 ⟨some 338,(.bin .add),[.t 337,.c (.int .i64 1)],none,[5]⟩,
 ⟨some 339,(.bin .rem),[.t 338,.c (.int .i64 4)],none,[6]⟩,
 ⟨some 340,(.iarr 4 1 false),[.t 15,.t 339],none,[7]⟩,
 ⟨some 341,(.loadf false 1 [15]),[.t 340],none,[8]⟩,
 ⟨some 342,(.faddr 1 false 1),[.t 30],none,[0,1,2,3,4]⟩,
 ⟨none,(.storef 1 [30]),[.t 342,.t 336],none,[10,4,0,1,2,3,4]⟩,
 ⟨some 343,(.faddr 1 false 1),[.t 31],none,[0,1,2,3,4,5,6,7,8,9,10,11]⟩,
 ⟨none,(.storef 1 [31]),[.t 343,.t 341],none,[12,9,11,0,1,2,3,4,5,6,7,8,9,10,11]⟩] true)
 .skip))
 (.keep [1,14,15,27,29,30,31] [14,15,27,30,31] b8k6))
def b8k8:DCode :=
 (.region [⟨some 306,.mov,[.t 29],none,[]⟩,
 ⟨some 307,(.bin .add),[.t 306,.c (.int .i64 1)],none,[0]⟩,
 ⟨some 29,.mov,[.t 307],none,[1,0,1]⟩] false)
def b8k9:DCode :=
 (.seq
 (.block 5
 (.seq
 (.region [⟨some 308,.mov,[.t 29],none,[]⟩,
 ⟨some 309,(.iarr 4 1 false),[.t 14,.t 308],none,[0]⟩,
 ⟨some 310,(.loadf false 1 [14]),[.t 309],none,[1]⟩,
 ⟨some 311,(.build [(.imm (.int .i64 0)),(.imm (.int .i64 0))] [(0,1)]),[.t 310],none,[2]⟩,
 ⟨some 312,.mov,[.t 29],none,[]⟩,
 ⟨some 313,(.iarr 4 1 false),[.t 15,.t 312],none,[4]⟩,
 ⟨some 314,(.loadf false 1 [15]),[.t 313],none,[5]⟩,
 ⟨some 315,(.build [(.imm (.int .i64 0)),(.imm (.int .i64 0))] [(0,1)]),[.t 314],none,[6]⟩,
 ⟨some 30,(.alloc [(.imm (.int .i64 0)),(.imm (.int .i64 0))]),[],none,[]⟩,
 ⟨some 31,(.alloc [(.imm (.int .i64 0)),(.imm (.int .i64 0))]),[],none,[]⟩,
 ⟨none,(.storef 2 [30]),[.t 30,.t 311],none,[8,3,0,1,2,3,8,9]⟩,
 ⟨none,(.storef 2 [31]),[.t 31,.t 315],none,[9,7,10,0,1,2,3,4,5,6,7,8,9,10]⟩] true)
 (.seq
 (.seq
 (.region [⟨some 316,.mov,[.t 1],none,[]⟩,
 ⟨some 317,(.bin .eql),[.t 316,.c (.int .i64 1)],none,[0]⟩] false)
 (.cond (.t 317)
 (.region [⟨some 318,.mov,[.t 29],none,[]⟩,
 ⟨some 319,(.bin .add),[.t 318,.c (.int .i64 3)],none,[0]⟩,
 ⟨some 320,(.bin .rem),[.t 319,.c (.int .i64 4)],none,[1]⟩,
 ⟨some 321,(.iarr 4 1 false),[.t 14,.t 320],none,[2]⟩,
 ⟨some 322,(.loadf false 1 [14]),[.t 321],none,[3]⟩,
 ⟨some 323,.mov,[.t 29],none,[]⟩,
 ⟨some 324,(.bin .add),[.t 323,.c (.int .i64 3)],none,[5]⟩,
 ⟨some 325,(.bin .rem),[.t 324,.c (.int .i64 4)],none,[6]⟩,
 ⟨some 326,(.iarr 4 1 false),[.t 15,.t 325],none,[7]⟩,
 ⟨some 327,(.loadf false 1 [15]),[.t 326],none,[8]⟩,
 ⟨some 328,(.faddr 1 false 1),[.t 30],none,[0,1,2,3,4]⟩,
 ⟨none,(.storef 1 [30]),[.t 328,.t 322],none,[10,4,0,1,2,3,4]⟩,
 ⟨some 329,(.faddr 1 false 1),[.t 31],none,[0,1,2,3,4,5,6,7,8,9,10,11]⟩,
 ⟨none,(.storef 1 [31]),[.t 329,.t 327],none,[12,9,11,0,1,2,3,4,5,6,7,8,9,10,11]⟩] true)
 .skip))
 (.keep [1,14,15,27,29,30,31] [14,15,27,30,31] b8k7))))
 (.keep [1,14,15,27,29] [14,15,27] b8k8))
def b8l2:DCode:=.keep [1,14,15,27,29] [14,15,27]
 (.seq
 (.seq
 (.region [⟨some 304,.mov,[.t 29],none,[]⟩,
 ⟨some 305,(.bin .lss),[.t 304,.c (.int .i64 4)],none,[0]⟩] false)
 (.cond (.t 305)
 .skip
 (.exit 4)))
 (.keep [1,14,15,27,29] [14,15,27] b8k9))
def b8k10:DCode :=
 (.seq
 (.region [⟨some 6,.mov,[.c (.bool true)],none,[]⟩] false)
 .ret)
def b8k11:DCode :=
 (.seq
 (.seq
 (.region [⟨some 29,.mov,[.c (.int .i64 0)],none,[]⟩] false)
 (.block 4
 (.loop b8l2)))
 (.keep [] [] b8k10))
def b8k12:DCode :=
 (.seq
 (.seq
 (.region [⟨some 278,(.faddr 0 true 2),[.t 27],none,[]⟩,
 ⟨some 279,(.faddr 0 false 1),[.t 278],none,[0]⟩,
 ⟨some 280,(.load false 1),[.t 279],none,[1]⟩,
 ⟨some 281,.call,[.f 47,.t 280,.c (.int .i64 (-1073741824)),.c (.int .i64 1073741824)],none,[2]⟩,
 ⟨some 282,(.un .not),[.t 281],none,[3]⟩,
 ⟨some 283,.mov,[.t 282],none,[4,3]⟩,
 ⟨some 284,(.faddr 0 true 2),[.t 27],(some (283,false)),[5]⟩,
 ⟨some 285,(.faddr 1 false 1),[.t 284],(some (283,false)),[6,5]⟩,
 ⟨some 286,(.load false 1),[.t 285],(some (283,false)),[7,5]⟩,
 ⟨some 287,.call,[.f 47,.t 286,.c (.int .i64 (-1073741824)),.c (.int .i64 1073741824)],(some (283,false)),[8,5,5]⟩,
 ⟨some 288,(.un .not),[.t 287],(some (283,false)),[9,5]⟩,
 ⟨some 289,.pick,[.t 283,.c (.bool true),.t 288],none,[5,10]⟩,
 ⟨some 290,.mov,[.t 289],none,[11,9]⟩,
 ⟨some 291,(.faddr 2 true 2),[.t 27],(some (290,false)),[12]⟩,
 ⟨some 292,(.faddr 0 false 1),[.t 291],(some (290,false)),[13,12]⟩,
 ⟨some 293,(.load false 1),[.t 292],(some (290,false)),[14,12]⟩,
 ⟨some 294,.call,[.f 47,.t 293,.c (.int .i64 (-1073741824)),.c (.int .i64 1073741824)],(some (290,false)),[15,12,12]⟩,
 ⟨some 295,(.un .not),[.t 294],(some (290,false)),[16,12]⟩,
 ⟨some 296,.pick,[.t 290,.c (.bool true),.t 295],none,[12,17]⟩,
 ⟨some 297,.mov,[.t 296],none,[18,16]⟩,
 ⟨some 298,(.faddr 2 true 2),[.t 27],(some (297,false)),[19]⟩,
 ⟨some 299,(.faddr 1 false 1),[.t 298],(some (297,false)),[20,19]⟩,
 ⟨some 300,(.load false 1),[.t 299],(some (297,false)),[21,19]⟩,
 ⟨some 301,.call,[.f 47,.t 300,.c (.int .i64 (-1073741824)),.c (.int .i64 1073741824)],(some (297,false)),[22,19,19]⟩,
 ⟨some 302,(.un .not),[.t 301],(some (297,false)),[23,19]⟩,
 ⟨some 303,.pick,[.t 297,.c (.bool true),.t 302],none,[19,24]⟩] false)
 (.cond (.t 303)
 (.seq
 (.region [⟨some 6,.mov,[.c (.bool false)],none,[]⟩] false)
 .ret)
 .skip))
 (.keep [1,14,15,27] [14,15,27] b8k11))
def b8k13:DCode :=
 (.seq
 (.region [⟨some 263,(.load true 2),[.t 3],none,[]⟩,
 ⟨some 264,.call,[.f 13,.t 263],none,[0]⟩,
 ⟨some 265,.mov,[.t 1],none,[]⟩,
 ⟨some 266,.call,[.f 65,.t 264,.t 265],none,[1,2,1]⟩,
 ⟨some 262,.mov,[.t 266],none,[3]⟩,
 ⟨some 267,(.ext 0),[.t 262],none,[4]⟩,
 ⟨some 268,(.ext 1),[.t 262],none,[4]⟩,
 ⟨some 27,(.alloc [(.imm (.int .i64 0)),(.imm (.int .i64 0)),(.imm (.int .i64 0)),(.imm (.int .i64 0))]),[],none,[]⟩,
 ⟨none,(.store 4),[.t 27,.t 267],none,[7,5,3,0,1,2,3,4,5,7]⟩,
 ⟨some 28,.mov,[.t 268],none,[6,8,0,1,2,3,4,5,6,7,8]⟩] false)
 (.seq
 (.seq
 (.region [⟨some 269,.mov,[.t 28],none,[]⟩,
 ⟨some 270,(.bin .neq),[.t 269,.c (.int .i64 0)],none,[0]⟩] false)
 (.cond (.t 270)
 (.seq
 (.region [⟨some 271,.mov,[.t 28],none,[]⟩,
 ⟨some 272,(.bin .eql),[.t 271,.c (.int .i64 21)],none,[0]⟩,
 ⟨some 273,.mov,[.t 272],none,[1]⟩,
 ⟨some 274,(.load true 4),[.t 15],(some (273,true)),[2]⟩,
 ⟨some 275,(.build [(.imm (.int .i64 0)),(.imm (.int .i64 0)),(.imm (.int .i64 0)),(.imm (.int .i64 0))] []),[],(some (273,true)),[2]⟩,
 ⟨some 276,(.eqs [false,false,false,false] false),[.t 274,.t 275],(some (273,true)),[3,4,2]⟩,
 ⟨some 277,.pick,[.t 273,.t 276,.c (.bool false)],none,[2,5]⟩,
 ⟨some 6,.mov,[.t 277],none,[6,2,0,1,2,3,4,5,6]⟩] false)
 .ret)
 .skip))
 (.keep [1,14,15,27] [14,15,27] b8k12)))
def b8k14:DCode :=
 (.seq
 (.region [⟨some 158,(.faddr 1 false 1),[.t 9],none,[]⟩,
 ⟨some 159,(.load false 1),[.t 158],none,[0]⟩,
 ⟨some 160,.len,[.t 159],none,[1]⟩,
 ⟨some 161,(.bin .sub),[.t 160,.c (.int .i64 1)],none,[2]⟩,
 ⟨some 13,.mov,[.t 161],none,[3,0,1,2,3]⟩] false)
 (.seq
 (.region [⟨some 14,(.alloc [(.imm (.int .i64 0)),(.imm (.int .i64 0)),(.imm (.int .i64 0)),(.imm (.int .i64 0))]),[],none,[]⟩,
 ⟨some 15,(.alloc [(.imm (.int .i64 0)),(.imm (.int .i64 0)),(.imm (.int .i64 0)),(.imm (.int .i64 0))]),[],none,[]⟩] false)
 (.seq
 (.seq
 (.region [⟨some 16,.mov,[.c (.int .i64 0)],none,[]⟩] false)
 (.block 2
 (.loop b8l1)))
 (.keep [1,3,14,15] [3,14,15] b8k13))))
def b8k15:DCode :=
 (.seq
 (.seq
 (.region [⟨some 146,(.faddr 4 true 2),[.t 9],none,[]⟩,
 ⟨some 147,(.faddr 0 false 1),[.t 146],none,[0]⟩,
 ⟨some 148,(.load false 1),[.t 147],none,[1]⟩,
 ⟨some 149,.call,[.f 47,.t 148,.c (.int .i64 (-1000)),.c (.int .i64 1000)],none,[2]⟩,
 ⟨some 150,(.un .not),[.t 149],none,[3]⟩,
 ⟨some 151,.mov,[.t 150],none,[4,3]⟩,
 ⟨some 152,(.faddr 4 true 2),[.t 9],(some (151,false)),[5]⟩,
 ⟨some 153,(.faddr 1 false 1),[.t 152],(some (151,false)),[6,5]⟩,
 ⟨some 154,(.load false 1),[.t 153],(some (151,false)),[7,5]⟩,
 ⟨some 155,.call,[.f 47,.t 154,.c (.int .i64 (-1000)),.c (.int .i64 1000)],(some (151,false)),[8,5,5]⟩,
 ⟨some 156,(.un .not),[.t 155],(some (151,false)),[9,5]⟩,
 ⟨some 157,.pick,[.t 151,.c (.bool true),.t 156],none,[5,10]⟩] false)
 (.cond (.t 157)
 (.seq
 (.region [⟨some 6,.mov,[.c (.bool true)],none,[]⟩] false)
 .ret)
 .skip))
 (.keep [1,3,9] [3,9] b8k14))
def b8k16:DCode :=
 (.seq
 (.region [⟨some 110,(.bsl 2),[],none,[]⟩,
 ⟨some 111,(.faddr 1 false 1),[.t 9],none,[]⟩,
 ⟨some 112,(.load false 1),[.t 111],none,[1]⟩,
 ⟨some 113,(.append 2 16 false),[.t 110,.t 112],none,[0,2]⟩,
 ⟨some 114,(.faddr 2 false 1),[.t 9],none,[]⟩,
 ⟨some 115,(.load false 1),[.t 114],none,[4]⟩,
 ⟨some 116,(.append 2 16 false),[.t 113,.t 115],none,[3,5,3]⟩,
 ⟨some 117,(.faddr 3 false 1),[.t 9],none,[]⟩,
 ⟨some 118,(.load false 1),[.t 117],none,[7]⟩,
 ⟨some 119,(.append 2 16 false),[.t 116,.t 118],none,[6,8,6]⟩,
 ⟨some 120,(.faddr 4 true 2),[.t 9],none,[]⟩,
 ⟨some 121,(.load true 2),[.t 120],none,[10]⟩,
 ⟨some 122,(.bsl 2),[.t 121],none,[11]⟩,
 ⟨some 123,(.append 2 16 false),[.t 119,.t 122],none,[9,12,9]⟩,
 ⟨some 11,.movv,[.t 123],none,[13,13,0,1,2,3,4,5,6,7,8,9,10,11,12,13]⟩] true)
 (.seq
 (.seq
 (.region [⟨some 12,.mov,[.c (.int .i64 0)],none,[]⟩] false)
 (.block 0
 (.loop b8l0)))
 (.keep [1,3,9] [3,9] b8k15)))
def b8k17:DCode :=
 (.seq
 (.region [⟨some 75,(.load true 2),[.t 3],none,[]⟩,
 ⟨some 76,.call,[.f 13,.t 75],none,[0]⟩,
 ⟨some 77,.mov,[.t 1],none,[]⟩,
 ⟨some 78,(.load true 2),[.t 5],none,[]⟩,
 ⟨some 79,.call,[.f 58,.t 76,.t 77,.t 78],none,[1,2,3,1]⟩,
 ⟨some 74,.mov,[.t 79],none,[4]⟩,
 ⟨some 80,(.ext 0),[.t 74],none,[5]⟩,
 ⟨some 81,(.ext 1),[.t 74],none,[5]⟩,
 ⟨some 9,(.alloc [(.imm (.int .i64 0)),(.imm (.slc 2 [])),(.imm (.slc 2 [])),(.imm (.slc 2 [])),(.imm (.int .i64 0)),(.imm (.int .i64 0))]),[],none,[]⟩,
 ⟨none,(.store 6),[.t 9,.t 80],none,[8,6,4,0,1,2,3,4,5,6,8]⟩,
 ⟨some 10,.mov,[.t 81],none,[7,9,0,1,2,3,4,5,6,7,8,9]⟩] true)
 (.seq
 (.seq
 (.region [⟨some 82,.mov,[.t 10],none,[]⟩,
 ⟨some 83,(.bin .neq),[.t 82,.c (.int .i64 0)],none,[0]⟩,
 ⟨some 84,.mov,[.t 83],none,[1]⟩,
 ⟨some 85,(.faddr 1 false 1),[.t 9],(some (84,false)),[2]⟩,
 ⟨some 86,(.load false 1),[.t 85],(some (84,false)),[3,2]⟩,
 ⟨some 87,.len,[.t 86],(some (84,false)),[4,2]⟩,
 ⟨some 88,(.load true 2),[.t 3],(some (84,false)),[2]⟩,
 ⟨some 89,.call,[.f 59,.t 88],(some (84,false)),[6,2,2]⟩,
 ⟨some 90,(.bin .neq),[.t 87,.t 89],(some (84,false)),[5,7,2]⟩,
 ⟨some 91,.pick,[.t 84,.c (.bool true),.t 90],none,[2,8]⟩,
 ⟨some 92,.mov,[.t 91],none,[9,7]⟩,
 ⟨some 93,(.faddr 2 false 1),[.t 9],(some (92,false)),[10]⟩,
 ⟨some 94,(.load false 1),[.t 93],(some (92,false)),[11,10]⟩,
 ⟨some 95,.len,[.t 94],(some (92,false)),[12,10]⟩,
 ⟨some 96,(.faddr 1 false 1),[.t 9],(some (92,false)),[10]⟩,
 ⟨some 97,(.load false 1),[.t 96],(some (92,false)),[14,10]⟩,
 ⟨some 98,.len,[.t 97],(some (92,false)),[15,10]⟩,
 ⟨some 99,(.bin .neq),[.t 95,.t 98],(some (92,false)),[13,16,10]⟩,
 ⟨some 100,.pick,[.t 92,.c (.bool true),.t 99],none,[10,17]⟩,
 ⟨some 101,.mov,[.t 100],none,[18,10]⟩,
 ⟨some 102,(.faddr 3 false 1),[.t 9],(some (101,false)),[19]⟩,
 ⟨some 103,(.load false 1),[.t 102],(some (101,false)),[20,19]⟩,
 ⟨some 104,.len,[.t 103],(some (101,false)),[21,19]⟩,
 ⟨some 105,(.faddr 1 false 1),[.t 3],(some (101,false)),[19]⟩,
 ⟨some 106,(.load false 1),[.t 105],(some (101,false)),[23,19]⟩,
 ⟨some 107,.len,[.t 106],(some (101,false)),[24,19]⟩,
 ⟨some 108,(.bin .neq),[.t 104,.t 107],(some (101,false)),[22,25,19]⟩,
 ⟨some 109,.pick,[.t 101,.c (.bool true),.t 108],none,[19,26]⟩] true)
 (.cond (.t 109)
 (.seq
 (.region [⟨some 6,.mov,[.c (.bool false)],none,[]⟩] false)
 .ret)
 .skip))
 (.keep [1,3,9] [3,9] b8k16)))
def b8k18:DCode :=
 (.seq
 (.region [⟨some 60,(.load true 2),[.t 3],none,[]⟩,
 ⟨some 61,.call,[.f 13,.t 60],none,[0]⟩,
 ⟨some 62,.call,[.f 12,.t 61],none,[1,1]⟩,
 ⟨some 63,.call,[.f 14,.t 62],none,[2,2]⟩,
 ⟨some 59,.mov,[.t 63],none,[3]⟩,
 ⟨some 64,(.ext 0),[.t 59],none,[4]⟩,
 ⟨some 65,(.ext 1),[.t 59],none,[4]⟩,
 ⟨some 7,(.alloc [(.imm (.slc 2 [])),(.imm (.slc 1 []))]),[],none,[]⟩,
 ⟨none,(.store 2),[.t 7,.t 64],none,[7,5,3,0,1,2,3,4,5,7]⟩,
 ⟨some 8,.mov,[.t 65],none,[6,8,0,1,2,3,4,5,6,7,8]⟩] false)
 (.seq
 (.seq
 (.region [⟨some 66,.mov,[.t 8],none,[]⟩,
 ⟨some 67,(.bin .neq),[.t 66,.c (.int .i64 0)],none,[0]⟩,
 ⟨some 68,.mov,[.t 67],none,[1]⟩,
 ⟨some 69,(.load true 2),[.t 3],(some (68,false)),[2]⟩,
 ⟨some 70,(.load true 2),[.t 7],(some (68,false)),[2]⟩,
 ⟨some 71,.call,[.f 17,.t 69,.t 70],(some (68,false)),[3,4,2,2]⟩,
 ⟨some 72,(.un .not),[.t 71],(some (68,false)),[5,2]⟩,
 ⟨some 73,.pick,[.t 68,.c (.bool true),.t 72],none,[2,6]⟩] false)
 (.cond (.t 73)
 (.seq
 (.region [⟨some 6,.mov,[.c (.bool false)],none,[]⟩] false)
 .ret)
 .skip))
 (.keep [1,3,5] [3,5] b8k17)))
def b8k19:DCode :=
 (.seq
 (.seq
 (.region [⟨some 34,(.faddr 0 false 1),[.t 3],none,[]⟩,
 ⟨some 35,(.load false 1),[.t 34],none,[0]⟩,
 ⟨some 36,.len,[.t 35],none,[1]⟩,
 ⟨some 37,(.bin .gtr),[.t 36,.c (.int .i64 4)],none,[2]⟩,
 ⟨some 38,.mov,[.t 37],none,[3]⟩,
 ⟨some 39,(.faddr 1 false 1),[.t 3],(some (38,false)),[4]⟩,
 ⟨some 40,(.load false 1),[.t 39],(some (38,false)),[5,4]⟩,
 ⟨some 41,.len,[.t 40],(some (38,false)),[6,4]⟩,
 ⟨some 42,(.bin .gtr),[.t 41,.c (.int .i64 4)],(some (38,false)),[7,4]⟩,
 ⟨some 43,.pick,[.t 38,.c (.bool true),.t 42],none,[4,8]⟩,
 ⟨some 44,.mov,[.t 43],none,[9,4]⟩,
 ⟨some 45,(.load true 2),[.t 3],(some (44,false)),[10]⟩,
 ⟨some 46,.call,[.f 18,.t 45],(some (44,false)),[11,10,10]⟩,
 ⟨some 47,(.bin .neq),[.t 46,.c (.int .i64 0)],(some (44,false)),[12,10]⟩,
 ⟨some 48,.pick,[.t 44,.c (.bool true),.t 47],none,[10,13]⟩,
 ⟨some 49,.mov,[.t 48],none,[14,12]⟩,
 ⟨some 50,.mov,[.t 1],(some (49,false)),[15]⟩,
 ⟨some 51,.call,[.f 56,.t 50],(some (49,false)),[16,15,15]⟩,
 ⟨some 52,(.bin .neq),[.t 51,.c (.int .i64 0)],(some (49,false)),[17,15]⟩,
 ⟨some 53,.pick,[.t 49,.c (.bool true),.t 52],none,[15,18]⟩,
 ⟨some 54,.mov,[.t 53],none,[19,17]⟩,
 ⟨some 55,(.load true 2),[.t 5],(some (54,false)),[20]⟩,
 ⟨some 56,.call,[.f 57,.t 55],(some (54,false)),[21,20,20]⟩,
 ⟨some 57,(.bin .neq),[.t 56,.c (.int .i64 0)],(some (54,false)),[22,20]⟩,
 ⟨some 58,.pick,[.t 54,.c (.bool true),.t 57],none,[20,23]⟩] false)
 (.cond (.t 58)
 (.seq
 (.region [⟨some 6,.mov,[.c (.bool true)],none,[]⟩] false)
 .ret)
 .skip))
 (.keep [1,3,5] [3,5] b8k18))
def b8:DCode :=
 (.seq
 (.region [⟨some 3,.box,[.t 0],none,[]⟩,
 ⟨some 5,.box,[.t 2],none,[]⟩,
 ⟨some 6,.mov,[.c (.bool false)],none,[]⟩] false)
 (.seq
 (.seq
 (.region [⟨some 32,.call,[.f 55],none,[]⟩,
 ⟨some 33,(.un .not),[.t 32],none,[0]⟩] false)
 (.cond (.t 33)
 (.seq
 (.region [⟨some 6,.mov,[.c (.bool false)],none,[]⟩] false)
 .ret)
 .skip))
 (.keep [1,3,5] [3,5] b8k19)))
def d8:DFn:=⟨3,358,[.tmp 6],b8⟩
theorem body8:d8.body=b8:=rfl
theorem res8:d8.res=[.tmp 6]:=rfl
theorem k8:chkFn Tryz.prog Tryz.f8 d8=true:=by kernel_rfl
end Go.DI


/- The library's contracts at this program; numbers and cuts of the statements' base. No condition. -/
import Derived.Shelf.LaysM
import Derived.Shelf.LaysC
import Derived.Shelf.Strings.OnBuilder
import Derived.Shelf.Strings.SplitShaped
import Derived.Shelf.Strings.Shaped
import Derived.Shelf.Strings.Prefix
import Derived.Shelf.Strconv.AtoiAll
import Derived.Shelf.Strconv.ErrVarAll
import Derived.Shelf.Strconv.Itoa3
import Derived.Test.YtaphhpphfffnfaaGreatDoorProg
import Derived.Test.YtaphhpphfffnfaaGreatDoorTwGf
/- The library's functions that are called, at this program: laid by the kit's shelf. No condition. -/
namespace Go.Proofs
open Go.Shelf
def Tryz.lays156_ren:Go.Shelf.Ren:=⟨fun | 156=>96 | 165=>193 | 166=>194 | 169=>195 | 240=>257 | 241=>258 | 276=>296 | 277=>297 | n=>n,fun | 31=>180 | 9=>9 | 3=>3 | 4=>4 | 0=>0 | 20=>20 | 72=>315 | 76=>202 | 70=>312 | 37=>313 | 75=>201 | 127=>366 | 164=>396 | 5=>5 | 80=>317 | n=>n,fun | n=>n⟩
theorem Tryz.lays156:Go.Proofs.Lays.n156 Tryz.prog Tryz.lays156_ren:={
 mixed:=by kernel_rfl
 f156:=Tryz.func96.trans (congrArg some (by kernel_rfl))
 f165:=Tryz.func193.trans (congrArg some (by kernel_rfl))
 f166:=Tryz.func194.trans (congrArg some (by kernel_rfl))
 f169:=Tryz.func195.trans (congrArg some (by kernel_rfl))
 f240:=Tryz.func257.trans (congrArg some (by kernel_rfl))
 f241:=Tryz.func258.trans (congrArg some (by kernel_rfl))
 f276:=Tryz.func296.trans (congrArg some (by kernel_rfl))
 f277:=Tryz.func297.trans (congrArg some (by kernel_rfl))
 t0:=Tryz.underlying0
 a0:=Tryz.isAgg0
 z0:=Tryz.sizeOf0
 v0:=Tryz.zeroValue0
 t3:=Tryz.underlying3
 a3:=Tryz.isAgg3
 z3:=Tryz.sizeOf3
 v3:=Tryz.zeroValue3
 t4:=Tryz.underlying4
 a4:=Tryz.isAgg4
 z4:=Tryz.sizeOf4
 v4:=Tryz.zeroValue4
 t9:=Tryz.underlying9
 a9:=Tryz.isAgg9
 z9:=Tryz.sizeOf9
 v9:=Tryz.zeroValue9
 t20:=Tryz.underlying20
 a20:=Tryz.isAgg20
 z20:=Tryz.sizeOf20
 v20:=Tryz.zeroValue20
 t31:=Tryz.underlying180
 a31:=Tryz.isAgg180
 z31:=Tryz.sizeOf180
 v31:=Tryz.zeroValue180
 t37:=Tryz.underlying313
 a37:=Tryz.isAgg313
 z37:=Tryz.sizeOf313
 v37:=Tryz.zeroValue313
 t70:=Tryz.underlying312
 a70:=Tryz.isAgg312
 z70:=Tryz.sizeOf312
 v70:=Tryz.zeroValue312
 t72:=Tryz.underlying315
 a72:=Tryz.isAgg315
 z72:=Tryz.sizeOf315
 v72:=Tryz.zeroValue315
 t75:=Tryz.underlying201
 a75:=Tryz.isAgg201
 z75:=Tryz.sizeOf201
 v75:=Tryz.zeroValue201
 t76:=Tryz.underlying202
 a76:=Tryz.isAgg202
 z76:=Tryz.sizeOf202
 v76:=Tryz.zeroValue202
 t127:=Tryz.underlying366
 a127:=Tryz.isAgg366
 z127:=Tryz.sizeOf366
 v127:=Tryz.zeroValue366
 t164:=Tryz.underlying396
 a164:=Tryz.isAgg396
 z164:=Tryz.sizeOf396
 v164:=Tryz.zeroValue396 }
theorem Tryz.Builder_Extra_156:Builder.Extra Tryz.prog Tryz.lays156_ren:={
 sizeBuilder:=by kernel_rfl
 liesBuilder:=by kernel_rfl
 t5:=Tryz.underlying5
 a5:=Tryz.isAgg5
 z5:=Tryz.sizeOf5
 v5:=Tryz.zeroValue5
 infoByte:=by kernel_rfl
 cellsByte:=by kernel_rfl
 sizeByte:=by kernel_rfl
 neB5:=by decide }
def Tryz.laysM171_ren:Go.Shelf.Ren:=⟨fun | 171=>95 | 243=>192 | 246=>256 | 283=>292 | 284=>293 | 285=>294 | 286=>295 | 129=>315 | 317=>314 | 318=>316 | 319=>317 | 320=>318 | 337=>330 | 338=>331 | n=>n,fun | 3=>3 | 9=>9 | 2=>2 | 4=>4 | 171=>390 | 0=>0 | 53=>391 | 37=>313 | 5=>5 | 173=>394 | 212=>416 | 51=>417 | 20=>20 | 213=>418 | 46=>403 | 232=>436 | 233=>437 | n=>n,fun | 17=>3 | 18=>6 | 19=>7 | n=>n⟩
theorem Tryz.laysM171:Go.Proofs.LaysM.n171 Tryz.prog Tryz.laysM171_ren:={
 mixed:=by kernel_rfl
 f129:=Tryz.func315.trans (congrArg some (by kernel_rfl))
 f171:=Tryz.func95.trans (congrArg some (by kernel_rfl))
 f243:=Tryz.func192.trans (congrArg some (by kernel_rfl))
 f246:=Tryz.func256.trans (congrArg some (by kernel_rfl))
 f283:=Tryz.func292.trans (congrArg some (by kernel_rfl))
 f284:=Tryz.func293.trans (congrArg some (by kernel_rfl))
 f285:=Tryz.func294.trans (congrArg some (by kernel_rfl))
 f286:=Tryz.func295.trans (congrArg some (by kernel_rfl))
 f317:=Tryz.func314.trans (congrArg some (by kernel_rfl))
 f318:=Tryz.func316.trans (congrArg some (by kernel_rfl))
 f319:=Tryz.func317.trans (congrArg some (by kernel_rfl))
 f320:=Tryz.func318.trans (congrArg some (by kernel_rfl))
 f337:=Tryz.func330.trans (congrArg some (by kernel_rfl))
 f338:=Tryz.func331.trans (congrArg some (by kernel_rfl))
 t0:=Tryz.underlying0
 a0:=Tryz.isAgg0
 z0:=Tryz.sizeOf0
 v0:=Tryz.zeroValue0
 t2:=Tryz.underlying2
 a2:=Tryz.isAgg2
 z2:=Tryz.sizeOf2
 v2:=Tryz.zeroValue2
 t3:=Tryz.underlying3
 a3:=Tryz.isAgg3
 z3:=Tryz.sizeOf3
 v3:=Tryz.zeroValue3
 t4:=Tryz.underlying4
 a4:=Tryz.isAgg4
 z4:=Tryz.sizeOf4
 v4:=Tryz.zeroValue4
 t5:=Tryz.underlying5
 a5:=Tryz.isAgg5
 z5:=Tryz.sizeOf5
 v5:=Tryz.zeroValue5
 t9:=Tryz.underlying9
 a9:=Tryz.isAgg9
 z9:=Tryz.sizeOf9
 v9:=Tryz.zeroValue9
 t20:=Tryz.underlying20
 a20:=Tryz.isAgg20
 z20:=Tryz.sizeOf20
 v20:=Tryz.zeroValue20
 t37:=Tryz.underlying313
 a37:=Tryz.isAgg313
 z37:=Tryz.sizeOf313
 v37:=Tryz.zeroValue313
 t46:=Tryz.underlying403
 a46:=Tryz.isAgg403
 z46:=Tryz.sizeOf403
 v46:=Tryz.zeroValue403
 t51:=Tryz.underlying417
 a51:=Tryz.isAgg417
 z51:=Tryz.sizeOf417
 v51:=Tryz.zeroValue417
 t53:=Tryz.underlying391
 a53:=Tryz.isAgg391
 z53:=Tryz.sizeOf391
 v53:=Tryz.zeroValue391
 t171:=Tryz.underlying390
 a171:=Tryz.isAgg390
 z171:=Tryz.sizeOf390
 v171:=Tryz.zeroValue390
 t173:=Tryz.underlying394
 a173:=Tryz.isAgg394
 z173:=Tryz.sizeOf394
 v173:=Tryz.zeroValue394
 t212:=Tryz.underlying416
 a212:=Tryz.isAgg416
 z212:=Tryz.sizeOf416
 v212:=Tryz.zeroValue416
 t213:=Tryz.underlying418
 a213:=Tryz.isAgg418
 z213:=Tryz.sizeOf418
 t232:=Tryz.underlying436
 a232:=Tryz.isAgg436
 z232:=Tryz.sizeOf436
 v232:=Tryz.zeroValue436
 t233:=Tryz.underlying437
 a233:=Tryz.isAgg437
 z233:=Tryz.sizeOf437
 v233:=Tryz.zeroValue437
 g17:=by kernel_rfl
 g18:=by kernel_rfl
 g19:=by kernel_rfl
 i0:=by kernel_rfl
 i2:=by kernel_rfl
 i3:=by kernel_rfl
 i4:=by kernel_rfl
 i5:=by kernel_rfl
 i9:=by kernel_rfl
 i20:=by kernel_rfl
 i37:=by kernel_rfl
 i46:=by kernel_rfl
 i51:=by kernel_rfl
 i53:=by kernel_rfl
 i171:=by kernel_rfl
 i173:=by kernel_rfl
 i212:=by kernel_rfl
 i232:=by kernel_rfl
 i233:=by kernel_rfl
 m17:=by kernel_rfl
 m18:=by kernel_rfl
 m19:=by kernel_rfl }
def Tryz.laysC172_ren:Go.Shelf.Ren:=⟨fun | 172=>109 | 244=>203 | 245=>204 | 247=>264 | 279=>265 | 280=>266 | 281=>267 | 282=>268 | 287=>305 | 316=>306 | 171=>95 | 205=>307 | 321=>322 | 322=>323 | 243=>192 | 246=>256 | 283=>292 | 284=>293 | 285=>294 | 286=>295 | 129=>315 | 317=>314 | 318=>316 | 319=>317 | 320=>318 | 337=>330 | 338=>331 | n=>n,fun | 9=>9 | 3=>3 | 75=>201 | 76=>202 | 4=>4 | 5=>5 | 167=>371 | 37=>313 | 0=>0 | 85=>372 | 2=>2 | 168=>374 | 53=>391 | 175=>404 | 46=>403 | 210=>408 | 127=>366 | 145=>426 | 143=>424 | 21=>21 | 171=>390 | 173=>394 | 212=>416 | 51=>417 | 20=>20 | 213=>418 | 232=>436 | 233=>437 | 80=>317 | n=>n,fun | 15=>1 | 16=>2 | 17=>3 | 18=>6 | 19=>7 | n=>n⟩
theorem Tryz.laysC172:Go.Proofs.LaysC.n172 Tryz.prog Tryz.laysC172_ren:={
 mixed:=by kernel_rfl
 f129:=Tryz.func315.trans (congrArg some (by kernel_rfl))
 f171:=Tryz.func95.trans (congrArg some (by kernel_rfl))
 f172:=Tryz.func109.trans (congrArg some (by kernel_rfl))
 f205:=Tryz.func307.trans (congrArg some (by kernel_rfl))
 f243:=Tryz.func192.trans (congrArg some (by kernel_rfl))
 f244:=Tryz.func203.trans (congrArg some (by kernel_rfl))
 f245:=Tryz.func204.trans (congrArg some (by kernel_rfl))
 f246:=Tryz.func256.trans (congrArg some (by kernel_rfl))
 f247:=Tryz.func264.trans (congrArg some (by kernel_rfl))
 f279:=Tryz.func265.trans (congrArg some (by kernel_rfl))
 f280:=Tryz.func266.trans (congrArg some (by kernel_rfl))
 f281:=Tryz.func267.trans (congrArg some (by kernel_rfl))
 f282:=Tryz.func268.trans (congrArg some (by kernel_rfl))
 f283:=Tryz.func292.trans (congrArg some (by kernel_rfl))
 f284:=Tryz.func293.trans (congrArg some (by kernel_rfl))
 f285:=Tryz.func294.trans (congrArg some (by kernel_rfl))
 f286:=Tryz.func295.trans (congrArg some (by kernel_rfl))
 f287:=Tryz.func305.trans (congrArg some (by kernel_rfl))
 f316:=Tryz.func306.trans (congrArg some (by kernel_rfl))
 f317:=Tryz.func314.trans (congrArg some (by kernel_rfl))
 f318:=Tryz.func316.trans (congrArg some (by kernel_rfl))
 f319:=Tryz.func317.trans (congrArg some (by kernel_rfl))
 f320:=Tryz.func318.trans (congrArg some (by kernel_rfl))
 f321:=Tryz.func322.trans (congrArg some (by kernel_rfl))
 f322:=Tryz.func323.trans (congrArg some (by kernel_rfl))
 f337:=Tryz.func330.trans (congrArg some (by kernel_rfl))
 f338:=Tryz.func331.trans (congrArg some (by kernel_rfl))
 t0:=Tryz.underlying0
 a0:=Tryz.isAgg0
 z0:=Tryz.sizeOf0
 v0:=Tryz.zeroValue0
 t2:=Tryz.underlying2
 a2:=Tryz.isAgg2
 z2:=Tryz.sizeOf2
 v2:=Tryz.zeroValue2
 t3:=Tryz.underlying3
 a3:=Tryz.isAgg3
 z3:=Tryz.sizeOf3
 v3:=Tryz.zeroValue3
 t4:=Tryz.underlying4
 a4:=Tryz.isAgg4
 z4:=Tryz.sizeOf4
 v4:=Tryz.zeroValue4
 t5:=Tryz.underlying5
 a5:=Tryz.isAgg5
 z5:=Tryz.sizeOf5
 v5:=Tryz.zeroValue5
 t9:=Tryz.underlying9
 a9:=Tryz.isAgg9
 z9:=Tryz.sizeOf9
 v9:=Tryz.zeroValue9
 t20:=Tryz.underlying20
 a20:=Tryz.isAgg20
 z20:=Tryz.sizeOf20
 v20:=Tryz.zeroValue20
 t21:=Tryz.underlying21
 a21:=Tryz.isAgg21
 z21:=Tryz.sizeOf21
 v21:=Tryz.zeroValue21
 t37:=Tryz.underlying313
 a37:=Tryz.isAgg313
 z37:=Tryz.sizeOf313
 v37:=Tryz.zeroValue313
 t46:=Tryz.underlying403
 a46:=Tryz.isAgg403
 z46:=Tryz.sizeOf403
 v46:=Tryz.zeroValue403
 t51:=Tryz.underlying417
 a51:=Tryz.isAgg417
 z51:=Tryz.sizeOf417
 v51:=Tryz.zeroValue417
 t53:=Tryz.underlying391
 a53:=Tryz.isAgg391
 z53:=Tryz.sizeOf391
 v53:=Tryz.zeroValue391
 t75:=Tryz.underlying201
 a75:=Tryz.isAgg201
 z75:=Tryz.sizeOf201
 v75:=Tryz.zeroValue201
 t76:=Tryz.underlying202
 a76:=Tryz.isAgg202
 z76:=Tryz.sizeOf202
 v76:=Tryz.zeroValue202
 t85:=Tryz.underlying372
 a85:=Tryz.isAgg372
 z85:=Tryz.sizeOf372
 v85:=Tryz.zeroValue372
 t127:=Tryz.underlying366
 a127:=Tryz.isAgg366
 z127:=Tryz.sizeOf366
 v127:=Tryz.zeroValue366
 t143:=Tryz.underlying424
 a143:=Tryz.isAgg424
 z143:=Tryz.sizeOf424
 v143:=Tryz.zeroValue424
 t145:=Tryz.underlying426
 a145:=Tryz.isAgg426
 z145:=Tryz.sizeOf426
 v145:=Tryz.zeroValue426
 t167:=Tryz.underlying371
 a167:=Tryz.isAgg371
 z167:=Tryz.sizeOf371
 v167:=Tryz.zeroValue371
 t168:=Tryz.underlying374
 a168:=Tryz.isAgg374
 z168:=Tryz.sizeOf374
 v168:=Tryz.zeroValue374
 t171:=Tryz.underlying390
 a171:=Tryz.isAgg390
 z171:=Tryz.sizeOf390
 v171:=Tryz.zeroValue390
 t173:=Tryz.underlying394
 a173:=Tryz.isAgg394
 z173:=Tryz.sizeOf394
 v173:=Tryz.zeroValue394
 t175:=Tryz.underlying404
 a175:=Tryz.isAgg404
 z175:=Tryz.sizeOf404
 v175:=Tryz.zeroValue404
 t210:=Tryz.underlying408
 a210:=Tryz.isAgg408
 z210:=Tryz.sizeOf408
 v210:=Tryz.zeroValue408
 t212:=Tryz.underlying416
 a212:=Tryz.isAgg416
 z212:=Tryz.sizeOf416
 v212:=Tryz.zeroValue416
 t213:=Tryz.underlying418
 a213:=Tryz.isAgg418
 z213:=Tryz.sizeOf418
 t232:=Tryz.underlying436
 a232:=Tryz.isAgg436
 z232:=Tryz.sizeOf436
 v232:=Tryz.zeroValue436
 t233:=Tryz.underlying437
 a233:=Tryz.isAgg437
 z233:=Tryz.sizeOf437
 v233:=Tryz.zeroValue437
 g15:=by kernel_rfl
 g16:=by kernel_rfl
 g17:=by kernel_rfl
 g18:=by kernel_rfl
 g19:=by kernel_rfl
 t80:=Tryz.underlying317
 a80:=Tryz.isAgg317
 z80:=Tryz.sizeOf317
 v80:=Tryz.zeroValue317
 i0:=by kernel_rfl
 i2:=by kernel_rfl
 i3:=by kernel_rfl
 i4:=by kernel_rfl
 i5:=by kernel_rfl
 i9:=by kernel_rfl
 i20:=by kernel_rfl
 i21:=by kernel_rfl
 i37:=by kernel_rfl
 i46:=by kernel_rfl
 i51:=by kernel_rfl
 i53:=by kernel_rfl
 i75:=by kernel_rfl
 i76:=by kernel_rfl
 i80:=by kernel_rfl
 i85:=by kernel_rfl
 i127:=by kernel_rfl
 i143:=by kernel_rfl
 i145:=by kernel_rfl
 i167:=by kernel_rfl
 i168:=by kernel_rfl
 i171:=by kernel_rfl
 i173:=by kernel_rfl
 i175:=by kernel_rfl
 i210:=by kernel_rfl
 i212:=by kernel_rfl
 i232:=by kernel_rfl
 i233:=by kernel_rfl
 m15:=by kernel_rfl
 m16:=by kernel_rfl
 m17:=by kernel_rfl
 m18:=by kernel_rfl
 m19:=by kernel_rfl
 c0:=by kernel_rfl
 c2:=by kernel_rfl
 c3:=by kernel_rfl
 c4:=by kernel_rfl
 c5:=by kernel_rfl
 c9:=by kernel_rfl
 c20:=by kernel_rfl
 c21:=by kernel_rfl
 c37:=by kernel_rfl
 c46:=by kernel_rfl
 c51:=by kernel_rfl
 c53:=by kernel_rfl
 c75:=by kernel_rfl
 c76:=by kernel_rfl
 c80:=by kernel_rfl
 c85:=by kernel_rfl
 c127:=by kernel_rfl
 c143:=by kernel_rfl
 c145:=by kernel_rfl
 c167:=by kernel_rfl
 c168:=by kernel_rfl
 c171:=by kernel_rfl
 c173:=by kernel_rfl
 c175:=by kernel_rfl
 c210:=by kernel_rfl
 c212:=by kernel_rfl
 c213:=by kernel_rfl
 c232:=by kernel_rfl
 c233:=by kernel_rfl }
def Tryz.laysM146_ren:Go.Shelf.Ren:=⟨fun | 146=>97 | 221=>196 | 268=>259 | 138=>260 | 143=>261 | 195=>298 | 197=>299 | 218=>300 | 219=>262 | 260=>319 | 217=>301 | 225=>302 | 224=>303 | 267=>304 | 266=>320 | 314=>321 | n=>n,fun | 9=>9 | 31=>180 | 3=>3 | 4=>4 | 0=>0 | 105=>400 | 21=>21 | 5=>5 | 46=>403 | 119=>430 | 139=>433 | 138=>432 | 146=>420 | 51=>417 | n=>n,fun | 1=>0 | 3=>4 | 4=>5 | n=>n⟩
theorem Tryz.laysM146:Go.Proofs.LaysM.n146 Tryz.prog Tryz.laysM146_ren:={
 mixed:=by kernel_rfl
 f138:=Tryz.func260.trans (congrArg some (by kernel_rfl))
 f143:=Tryz.func261.trans (congrArg some (by kernel_rfl))
 f146:=Tryz.func97.trans (congrArg some (by kernel_rfl))
 f195:=Tryz.func298.trans (congrArg some (by kernel_rfl))
 f197:=Tryz.func299.trans (congrArg some (by kernel_rfl))
 f217:=Tryz.func301.trans (congrArg some (by kernel_rfl))
 f218:=Tryz.func300.trans (congrArg some (by kernel_rfl))
 f219:=Tryz.func262.trans (congrArg some (by kernel_rfl))
 f221:=Tryz.func196.trans (congrArg some (by kernel_rfl))
 f224:=Tryz.func303.trans (congrArg some (by kernel_rfl))
 f225:=Tryz.func302.trans (congrArg some (by kernel_rfl))
 f260:=Tryz.func319.trans (congrArg some (by kernel_rfl))
 f266:=Tryz.func320.trans (congrArg some (by kernel_rfl))
 f267:=Tryz.func304.trans (congrArg some (by kernel_rfl))
 f268:=Tryz.func259.trans (congrArg some (by kernel_rfl))
 f314:=Tryz.func321.trans (congrArg some (by kernel_rfl))
 t0:=Tryz.underlying0
 a0:=Tryz.isAgg0
 z0:=Tryz.sizeOf0
 v0:=Tryz.zeroValue0
 t3:=Tryz.underlying3
 a3:=Tryz.isAgg3
 z3:=Tryz.sizeOf3
 v3:=Tryz.zeroValue3
 t4:=Tryz.underlying4
 a4:=Tryz.isAgg4
 z4:=Tryz.sizeOf4
 v4:=Tryz.zeroValue4
 t5:=Tryz.underlying5
 a5:=Tryz.isAgg5
 z5:=Tryz.sizeOf5
 v5:=Tryz.zeroValue5
 t9:=Tryz.underlying9
 a9:=Tryz.isAgg9
 z9:=Tryz.sizeOf9
 v9:=Tryz.zeroValue9
 t21:=Tryz.underlying21
 a21:=Tryz.isAgg21
 z21:=Tryz.sizeOf21
 v21:=Tryz.zeroValue21
 t31:=Tryz.underlying180
 a31:=Tryz.isAgg180
 z31:=Tryz.sizeOf180
 v31:=Tryz.zeroValue180
 t46:=Tryz.underlying403
 a46:=Tryz.isAgg403
 z46:=Tryz.sizeOf403
 v46:=Tryz.zeroValue403
 t51:=Tryz.underlying417
 a51:=Tryz.isAgg417
 z51:=Tryz.sizeOf417
 v51:=Tryz.zeroValue417
 t105:=Tryz.underlying400
 a105:=Tryz.isAgg400
 z105:=Tryz.sizeOf400
 v105:=Tryz.zeroValue400
 t119:=Tryz.underlying430
 a119:=Tryz.isAgg430
 z119:=Tryz.sizeOf430
 t138:=Tryz.underlying432
 a138:=Tryz.isAgg432
 z138:=Tryz.sizeOf432
 v138:=Tryz.zeroValue432
 t139:=Tryz.underlying433
 a139:=Tryz.isAgg433
 z139:=Tryz.sizeOf433
 v139:=Tryz.zeroValue433
 t146:=Tryz.underlying420
 a146:=Tryz.isAgg420
 z146:=Tryz.sizeOf420
 v146:=Tryz.zeroValue420
 g1:=by kernel_rfl
 g3:=by kernel_rfl
 g4:=by kernel_rfl
 i0:=by kernel_rfl
 i3:=by kernel_rfl
 i4:=by kernel_rfl
 i5:=by kernel_rfl
 i9:=by kernel_rfl
 i21:=by kernel_rfl
 i31:=by kernel_rfl
 i46:=by kernel_rfl
 i51:=by kernel_rfl
 i105:=by kernel_rfl
 i138:=by kernel_rfl
 i139:=by kernel_rfl
 i146:=by kernel_rfl
 m1:=by kernel_rfl
 s1_3:=fun w h=>Go.Proofs.cell_of_shapedOpen_int (zero := #[.int .i64 0]) (t:=3) h (of_decide_eq_true (by kernel_rfl)) (by kernel_rfl) rfl (by kernel_rfl) (by kernel_rfl) Tryz.underlying3
 m3:=by kernel_rfl
 m4:=by kernel_rfl }
end Go.Proofs

/- Contracts: numbers and cuts of the statements' own base. No condition. -/
set_option linter.unusedSimpArgs false
set_option maxRecDepth 100000
namespace Go.DI
open Go.Proofs Go.RowKit Go.Lib
theorem wrapS {n:Int} (h1 : -9223372036854775808≤n) (h2:n≤9223372036854775807):IntKind.wrap .i64 n=n:=IntWalk.i64_in n ⟨h1,h2⟩
theorem nDigits_le:∀ (k u:Nat),u<10 ^ (k+1)→nDigits u≤k+1
 | 0,u,h=>by rw [nDigits_small (by simpa using h)]; exact Nat.le_refl _
 | k+1,u,h=>by
  by_cases h1:u<10
  ·rw [nDigits_small h1]; omega
  ·rw [nDigits_big h1]
   have:=nDigits_le k (u / 10) (by rw [Nat.pow_succ] at h; omega)
   omega
end Go.DI

/- Contracts of the library at this program. No condition. -/
set_option linter.unusedSimpArgs false
namespace Go.DI
open Go.Proofs Go.RowKit Go.Lib
theorem z_Itoa {n:Int} (h0 : -9223372036854775808≤n) (h1:n≤9223372036854775807):Contract Tryz.prog 95 [.int .i64 n] (.str (itoaB n)) :=
 lib_Itoa Tryz.laysM171 ⟨_,_,Tryz.func95,rfl,by kernel_rfl⟩ (by kernel_rfl) h0 h1
theorem z_Atoi {s:ByteArray} (hs:s.size≤281474976710656):Contract Tryz.prog 109 [.str s] (atoiI (Tryz.laysC172_ren.t 168) s) :=
 lib_Atoi Tryz.laysC172 ⟨_,_,Tryz.func109,rfl,by kernel_rfl⟩ (by kernel_rfl) (by kernel_rfl) hs
theorem z_Join {l:List ByteArray} {p:ByteArray} (hn:l.length≤140737488355328) (hlen:(Lib.join (l.map (·.data.toList)) p.data.toList).length≤140737488355328) :
  Contract Tryz.prog 96 [strsI l,.str p] (.str (bs (Lib.join (l.map (·.data.toList)) p.data.toList))) :=
 lib_Join Tryz.lays156 Tryz.Builder_Extra_156 ⟨_,_,Tryz.func96,rfl,by kernel_rfl⟩ hn hlen
theorem z_Split {s:ByteArray} {c:UInt8} (hs:s.size<4294967281):Contract Tryz.prog 97 [.str s,.str ⟨#[c]⟩] (strsI (cutS c s)):=by
 rw [← split_cutS]
 exact lib_Split Tryz.laysM146 ⟨_,_,Tryz.func97,rfl,by kernel_rfl⟩ hs (Nat.le_refl 1)
end Go.DI

/- Words that are numbers without a sign: the program's test and the reference's. No condition. -/
set_option linter.unusedSimpArgs false
namespace Go.DI
open Go.Lib
theorem str_beq {a b:ByteArray}:(a == b)=true↔a=b:=by
 cases a; cases b
 rename_i x y
 show (x == y)=true↔_
 simp
theorem cutB_le (c:UInt8):∀ (l:List UInt8),(∀ x ∈ cutB c l,x.length≤l.length)∧(cutB c l).length≤l.length+1
 | []=>⟨fun x hx=>by rw [List.mem_singleton.1 hx]; exact Nat.le_refl _,Nat.le_refl _⟩
 | b :: r=>by
  have ih:=cutB_le c r
  rw [cutB_cons]
  split
  ·refine ⟨fun x hx => ?_,by simp only [List.length_cons]; omega⟩
   rcases List.mem_cons.1 hx with rfl | hx
   ·exact Nat.zero_le _
   ·have:=ih.1 x hx; simp only [List.length_cons]; omega
  ·cases hc:cutB c r with
   | nil=>exact ⟨fun x hx=>by rw [List.mem_singleton.1 hx]; simp,by simp⟩
   | cons y ys =>
    rw [hc] at ih
    refine ⟨fun x hx => ?_,by have:=ih.2; simp only [List.length_cons] at this ⊢; omega⟩
    rcases List.mem_cons.1 hx with rfl | hx
    ·have:=ih.1 y (List.mem_cons_self ..); simp only [List.length_cons]; omega
    ·have:=ih.1 x (List.mem_cons_of_mem _ hx); simp only [List.length_cons]; omega
theorem cutS_mem {c:UInt8} {s x:ByteArray} (h:x ∈ cutS c s):x.size≤s.size:=by
 obtain ⟨y,hy,rfl⟩:=List.mem_map.1 h
 have:=(cutB_le c s.data.toList).1 y hy
 rw [str_size] at this
 exact this
theorem cutS_size {c:UInt8} {s:ByteArray} {i:Nat}:((cutS c s).getD i default).size≤s.size:=by
 rw [List.getD_eq_getElem?_getD]
 cases h:(cutS c s)[i]? with
 | none=>exact Nat.zero_le _
 | some x=>exact cutS_mem (List.mem_of_getElem? h)
theorem cutS_len {c:UInt8} {s:ByteArray}:(cutS c s).length≤s.size+1:=by
 have:=(cutB_le c s.data.toList).2
 rw [str_size] at this
 unfold cutS
 rw [List.length_map]
 exact this
def okW (k:Nat) (s:ByteArray):Option Int:=if s.size≤k∧s.data.toList.head? ≠ some 45 then intS s.data.toList else none
theorem itoaB_eq {n:Int} {s:ByteArray}:itoaB n=s↔itoa n=s.data.toList:=by
 constructor
 ·intro h; rw [← h]; rfl
 ·intro h; apply bs_ext; rw [← h]; rfl
theorem okW_yes {k:Nat} {s:ByteArray} {v:Int} (hk:k≤18) (h:atoiAll s.data.toList = .ok v) (h0 : 0≤v) (h1:itoaB v=s) (h2:s.size≤k):okW k s=some v:=by
 have h1:=itoaB_eq.1 h1
 have hp:progS s.data.toList=some v:=by unfold progS; rw [h]; show (if itoa v=s.data.toList then some v else none)=_; rw [if_pos h1]
 rw [progS_short (by rw [str_size]; omega)] at hp
 have hh:s.data.toList.head? ≠ some 45:=by
  rw [← h1]
  intro e
  obtain ⟨n,hn⟩ : ∃ n:Nat,v=n:=⟨v.toNat,by omega⟩
  rw [hn,itoa_nat] at e
  cases hd:decDigits n with
  | nil=>exact digits_ne n hd
  | cons b r =>
   rw [hd] at e
   have:=digits_head hd
   have e:b=45:=Option.some.inj e
   rw [e] at this
   have e45:(45:UInt8).toNat=45:=rfl
   omega
 unfold okW
 rw [if_pos ⟨h2,hh⟩,hp]
theorem okW_no {k:Nat} {s:ByteArray} (hk:k≤18) (h:∀ v,atoiAll s.data.toList = .ok v→0≤v→itoaB v=s→s.size≤k→False):okW k s=none:=by
 unfold okW
 split
 ·rename_i hc
  rw [← progS_short (by rw [str_size]; omega)]
  unfold progS
  cases ha:atoiAll s.data.toList with
  | ok v =>
   show (if itoa v=s.data.toList then some v else none)=none
   rw [if_neg]
   intro e
   by_cases h0 : 0≤v
   ·exact h v ha h0 (itoaB_eq.2 e) hc.1
   ·apply hc.2
    rw [← e]
    unfold itoa
    rw [if_pos (by omega)]
    rfl
  | range=>rfl
  | _ => rfl
 ·rfl
end Go.DI

/- Joined and cut again; numbers written and read again. No condition. -/
set_option linter.unusedSimpArgs false
namespace Go.DI
open Go.Lib
theorem cutB_free {c:UInt8}:∀ {l:List UInt8},c ∉ l→cutB c l=[l]
 | [],_=>rfl
 | b :: r,h=>by
  rw [cutB_cons,if_neg (fun e=>h (by rw [e]; exact List.mem_cons_self ..)),cutB_free (fun e=>h (List.mem_cons_of_mem _ e))]
theorem cutB_sep {c:UInt8} {r:List UInt8}:∀ {l:List UInt8},c ∉ l→cutB c (l ++ c :: r)=l :: cutB c r
 | [],_=>by rw [List.nil_append,cutB_cons,if_pos rfl]
 | b :: l,h=>by
  rw [List.cons_append,cutB_cons,if_neg (fun e=>h (by rw [e]; exact List.mem_cons_self ..)),cutB_sep (fun e=>h (List.mem_cons_of_mem _ e))]
theorem join_cons (x y:List UInt8) (l:List (List UInt8)) (c:UInt8):Lib.join (x :: y :: l) [c]=x ++ c :: Lib.join (y :: l) [c]:=by
 simp [Lib.join,List.intercalate]
theorem cutB_join {c:UInt8}:∀ {l:List (List UInt8)},l ≠ []→(∀ x ∈ l,c ∉ x)→cutB c (Lib.join l [c])=l
 | [],h,_=>absurd rfl h
 | [x],_,h=>by
  have e:Lib.join [x] [c]=x:=by simp [Lib.join,List.intercalate]
  rw [e,cutB_free (h x (List.mem_cons_self ..))]
 | x :: y :: l,_,h=>by
  rw [join_cons,cutB_sep (h x (List.mem_cons_self ..)),cutB_join (by simp) (fun z hz=>h z (List.mem_cons_of_mem _ hz))]
theorem dec_byte {n:Nat} {b:UInt8} (h:b ∈ decDigits n) : 48≤b.toNat∧b.toNat≤57:=by
 obtain ⟨i,hi⟩:=List.mem_iff_getElem?.1 h
 obtain ⟨d,hd⟩:=digit_of_decFrom _ _ _ (dec_digits n) _ _ hi
 unfold digitVal at hd
 split at hd
 ·rename_i h; exact h
 ·cases hd
theorem itoa_byte {n:Int} {b:UInt8} (h:b ∈ itoa n):b.toNat=45∨(48≤b.toNat∧b.toNat≤57):=by
 unfold itoa at h
 split at h
 ·rcases List.mem_cons.1 h with rfl | h
  ·exact .inl rfl
  ·exact .inr (dec_byte h)
 ·exact .inr (dec_byte h)
theorem itoa_free {n:Int} {c:UInt8} (hc:c.toNat ≠ 45∧¬ (48≤c.toNat∧c.toNat≤57)):c ∉ itoa n:=fun h=>by
 rcases itoa_byte h with h | h
 ·exact hc.1 h
 ·exact hc.2 h
theorem intS_itoa (n:Int):intS (itoa n)=some n:=by
 unfold itoa
 split
 ·rename_i h
  have e:n.natAbs=n.natAbs:=rfl
  unfold intS
  simp only
  rw [if_neg (fun e=>by
   have h48:=natS_digits n.natAbs
   rw [e] at h48
   have h0:decDigits 0=[48]:=by rw [decDigits]; rfl
   have:natS [48]=some 0:=by rw [← h0]; exact natS_digits 0
   rw [this] at h48
   have:=Option.some.inj h48
   omega),natS_digits]
  show some (-(n.natAbs:Int))=some n
  congr 1
  omega
 ·rename_i h
  have e1:intS (decDigits n.toNat)=(natS (decDigits n.toNat)).map fun (m:Nat)=>(m:Int):=by
   unfold intS
   split
   ·rename_i r e
    have:=digits_head e
    have:(45:UInt8).toNat=45:=rfl
    omega
   ·rfl
  rw [e1,natS_digits]
  show some (n.toNat:Int)=some n
  congr 1
  omega
theorem itoa_head {n:Int} (h : 0≤n):(itoa n).head? ≠ some 45:=by
 obtain ⟨m,rfl⟩ : ∃ m:Nat,n=m:=⟨n.toNat,by omega⟩
 rw [itoa_nat]
 intro e
 cases hd:decDigits m with
 | nil=>exact digits_ne m hd
 | cons b r =>
  rw [hd] at e
  have:=digits_head hd
  have e:b=45:=Option.some.inj e
  rw [e] at this
  have e45:(45:UInt8).toNat=45:=rfl
  omega
theorem dec_len {k n:Nat} (h:n<10 ^ (k+1)):(decDigits n).length≤k+1:=by
 rw [decDigits_length]
 exact nDigits_le k n h
theorem okW_itoa {k:Nat} {n:Int} (h : 0≤n) (hk:n<10 ^ (k+1)):okW (k+1) (itoaB n)=some n:=by
 unfold okW
 have hl:(itoaB n).size≤k+1:=by
  rw [itoaB_bs,bs_size]
  obtain ⟨m,rfl⟩ : ∃ m:Nat,n=m:=⟨n.toNat,by omega⟩
  rw [itoa_nat]
  exact dec_len (by exact_mod_cast hk)
 rw [if_pos ⟨hl,itoa_head h⟩]
 exact intS_itoa n
end Go.DI


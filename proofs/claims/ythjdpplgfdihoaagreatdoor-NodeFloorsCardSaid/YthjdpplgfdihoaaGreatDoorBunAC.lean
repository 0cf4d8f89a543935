/- Texts ShelfX, DiskJ, DiskK, ManA, Env, PlainNum, NumA, NumB, NumC in one. No conditions. -/
import Derived.Shelf.Spec.SlicesGrow
import Derived.Shelf.SlIter.Nil
import Derived.Ground.GgzProg
import Derived.Ground.SlmcProg
import Derived.Shelf.SlMaps.Clone
import Derived.Shelf.Small.Wraps
import Derived.Shelf.Strconv.Atoi
import Derived.Shelf.Strconv.Itoa0
import Derived.Shelf.Strconv.Itoa1
import Derived.Shelf.LaysM
import Derived.Shelf.Strconv.Itoa2
import Derived.Shelf.Strconv.Itoa3
import Derived.Shelf.Strconv.AtoiErrFast
import Derived.Shelf.Strconv.ParseIntEmpty
import Derived.Shelf.Strconv.AtoiFail
import Derived.Shelf.Strconv.Clone
import Derived.Shelf.Strconv.SyntaxError
import Derived.Shelf.LaysC
import Derived.Shelf.Strconv.ToError
import Derived.Shelf.Strconv.Lower
import Derived.Shelf.Strconv.ParseUint10
import Derived.Shelf.Strconv.ParseUint10Empty
import Derived.Shelf.Strconv.ParseUint10Any
import Derived.Shelf.Strconv.ParseInt10
import Derived.Shelf.Strconv.AtoiLong
import Derived.Shelf.Strconv.AtoiInnerAll
import Derived.Shelf.Strconv.RangeError
import Derived.Shelf.Strconv.ToErrorRange
import Derived.Shelf.Strconv.AtoiAll
import Derived.Shelf.Strconv.ErrVarAll
import Derived.Shelf.Strings.Prefix
import Derived.Ground.SlgmProg
import Derived.Shelf.SortM.Plain
import Derived.Shelf.SortM.SortNone
import Derived.Test.YthjdpplgfdihoaaGreatDoorProg
import Derived.Test.YthjdpplgfdihoaaGreatDoorBunAA
import Derived.Test.YthjdpplgfdihoaaGreatDoorBunAB
import Derived.Lib.MinMax
import Derived.Lib.LaidTab
import Derived.Lib.SmallJoins
import Derived.Lib.AppendIntMem
import Derived.Lib.ItoaLen
import Derived.Test.YthjdpplgfdihoaaGreatDoorRows
import Derived.Stop.LaidErr
import Derived.LaidLaws
import Derived.LaidHandle
import Derived.Below

set_option linter.unusedSimpArgs false
set_option linter.unusedVariables false
set_option maxRecDepth 100000
set_option maxHeartbeats 16000000
namespace Go.Proofs.YthjdpplgfdihoaaGreatDoor
end Go.Proofs.YthjdpplgfdihoaaGreatDoor
namespace Go.Proofs
open Go.Shelf
def Tryz.lays103_ren:Go.Shelf.Ren:=⟨fun|103=>281|210=>326|206=>349|n=>n,fun|9=>9|4=>4|24=>331|3=>3|n=>n,fun|n=>n⟩
theorem Tryz.lays103:Go.Proofs.Lays.n103 Tryz.prog Tryz.lays103_ren:={
 mixed:=by kernel_rfl
 f103:=Tryz.func281.trans (congrArg some (by kernel_rfl))
 f206:=Tryz.func349.trans (congrArg some (by kernel_rfl))
 f210:=Tryz.func326.trans (congrArg some (by kernel_rfl))
 t3:=Tryz.underlying3
 a3:=Tryz.isAgg3
 z3:=Tryz.sizeOf3
 v3:=Tryz.zeroValue3
 t4:=Tryz.underlying4
 a4:=Tryz.isAgg4
 z4:=Tryz.sizeOf4
 v4:=Tryz.zeroValue4
 t9:=Tryz.underlying9
 a9:=Tryz.isAgg9
 z9:=Tryz.sizeOf9
 v9:=Tryz.zeroValue9
 t24:=Tryz.underlying331
 a24:=Tryz.isAgg331
 z24:=Tryz.sizeOf331
 v24:=Tryz.zeroValue331 }
def Tryz.laysM171_ren:Go.Shelf.Ren:=⟨fun|171=>160|243=>235|246=>297|283=>336|284=>337|285=>338|286=>339|129=>280|317=>358|318=>359|319=>360|320=>361|337=>375|338=>376|n=>n,fun|3=>3|9=>9|2=>2|4=>4|171=>394|0=>0|53=>22|37=>56|5=>5|173=>396|212=>416|51=>143|20=>20|213=>417|46=>267|232=>438|233=>439|n=>n,fun|17=>1|18=>4|19=>5|n=>n⟩
theorem Tryz.laysM171:Go.Proofs.LaysM.n171 Tryz.prog Tryz.laysM171_ren:={
 mixed:=by kernel_rfl
 f129:=Tryz.func280.trans (congrArg some (by kernel_rfl))
 f171:=Tryz.func160.trans (congrArg some (by kernel_rfl))
 f243:=Tryz.func235.trans (congrArg some (by kernel_rfl))
 f246:=Tryz.func297.trans (congrArg some (by kernel_rfl))
 f283:=Tryz.func336.trans (congrArg some (by kernel_rfl))
 f284:=Tryz.func337.trans (congrArg some (by kernel_rfl))
 f285:=Tryz.func338.trans (congrArg some (by kernel_rfl))
 f286:=Tryz.func339.trans (congrArg some (by kernel_rfl))
 f317:=Tryz.func358.trans (congrArg some (by kernel_rfl))
 f318:=Tryz.func359.trans (congrArg some (by kernel_rfl))
 f319:=Tryz.func360.trans (congrArg some (by kernel_rfl))
 f320:=Tryz.func361.trans (congrArg some (by kernel_rfl))
 f337:=Tryz.func375.trans (congrArg some (by kernel_rfl))
 f338:=Tryz.func376.trans (congrArg some (by kernel_rfl))
 t0:=Tryz.underlying0
 a0:=Tryz.isAgg0
 z0:=Tryz.sizeOf0
 v0:=Tryz.zeroValue0
 t2:=Tryz.underlying2
 a2:=Tryz.isAgg2
 z2:=Tryz.sizeOf2
 v2:=Tryz.zeroValue2
 t3:=Tryz.underlying3
 a3:=Tryz.isAgg3
 z3:=Tryz.sizeOf3
 v3:=Tryz.zeroValue3
 t4:=Tryz.underlying4
 a4:=Tryz.isAgg4
 z4:=Tryz.sizeOf4
 v4:=Tryz.zeroValue4
 t5:=Tryz.underlying5
 a5:=Tryz.isAgg5
 z5:=Tryz.sizeOf5
 v5:=Tryz.zeroValue5
 t9:=Tryz.underlying9
 a9:=Tryz.isAgg9
 z9:=Tryz.sizeOf9
 v9:=Tryz.zeroValue9
 t20:=Tryz.underlying20
 a20:=Tryz.isAgg20
 z20:=Tryz.sizeOf20
 v20:=Tryz.zeroValue20
 t37:=Tryz.underlying56
 a37:=Tryz.isAgg56
 z37:=Tryz.sizeOf56
 v37:=Tryz.zeroValue56
 t46:=Tryz.underlying267
 a46:=Tryz.isAgg267
 z46:=Tryz.sizeOf267
 v46:=Tryz.zeroValue267
 t51:=Tryz.underlying143
 a51:=Tryz.isAgg143
 z51:=Tryz.sizeOf143
 v51:=Tryz.zeroValue143
 t53:=Tryz.underlying22
 a53:=Tryz.isAgg22
 z53:=Tryz.sizeOf22
 v53:=Tryz.zeroValue22
 t171:=Tryz.underlying394
 a171:=Tryz.isAgg394
 z171:=Tryz.sizeOf394
 v171:=Tryz.zeroValue394
 t173:=Tryz.underlying396
 a173:=Tryz.isAgg396
 z173:=Tryz.sizeOf396
 v173:=Tryz.zeroValue396
 t212:=Tryz.underlying416
 a212:=Tryz.isAgg416
 z212:=Tryz.sizeOf416
 v212:=Tryz.zeroValue416
 t213:=Tryz.underlying417
 a213:=Tryz.isAgg417
 z213:=Tryz.sizeOf417
 t232:=Tryz.underlying438
 a232:=Tryz.isAgg438
 z232:=Tryz.sizeOf438
 v232:=Tryz.zeroValue438
 t233:=Tryz.underlying439
 a233:=Tryz.isAgg439
 z233:=Tryz.sizeOf439
 v233:=Tryz.zeroValue439
 g17:=by kernel_rfl
 g18:=by kernel_rfl
 g19:=by kernel_rfl
 i0:=by kernel_rfl
 i2:=by kernel_rfl
 i3:=by kernel_rfl
 i4:=by kernel_rfl
 i5:=by kernel_rfl
 i9:=by kernel_rfl
 i20:=by kernel_rfl
 i37:=by kernel_rfl
 i46:=by kernel_rfl
 i51:=by kernel_rfl
 i53:=by kernel_rfl
 i171:=by kernel_rfl
 i173:=by kernel_rfl
 i212:=by kernel_rfl
 i232:=by kernel_rfl
 i233:=by kernel_rfl
 m17:=by kernel_rfl
 m18:=by kernel_rfl
 m19:=by kernel_rfl }
def Tryz.laysC172_ren:Go.Shelf.Ren:=⟨fun|172=>282|244=>327|245=>328|247=>350|279=>351|280=>352|281=>353|282=>354|287=>371|316=>372|171=>160|205=>373|321=>384|322=>385|243=>235|246=>297|283=>336|284=>337|285=>338|286=>339|129=>280|317=>358|318=>359|319=>360|320=>361|337=>375|338=>376|n=>n,fun|9=>9|3=>3|75=>334|76=>335|4=>4|5=>5|167=>406|37=>56|0=>0|85=>407|2=>2|168=>409|53=>22|175=>424|46=>267|210=>428|127=>434|145=>437|143=>435|21=>21|171=>394|173=>396|212=>416|51=>143|20=>20|213=>417|232=>438|233=>439|80=>313|n=>n,fun|15=>2|16=>3|17=>1|18=>4|19=>5|n=>n⟩
theorem Tryz.laysC172:Go.Proofs.LaysC.n172 Tryz.prog Tryz.laysC172_ren:={
 mixed:=by kernel_rfl
 f129:=Tryz.func280.trans (congrArg some (by kernel_rfl))
 f171:=Tryz.func160.trans (congrArg some (by kernel_rfl))
 f172:=Tryz.func282.trans (congrArg some (by kernel_rfl))
 f205:=Tryz.func373.trans (congrArg some (by kernel_rfl))
 f243:=Tryz.func235.trans (congrArg some (by kernel_rfl))
 f244:=Tryz.func327.trans (congrArg some (by kernel_rfl))
 f245:=Tryz.func328.trans (congrArg some (by kernel_rfl))
 f246:=Tryz.func297.trans (congrArg some (by kernel_rfl))
 f247:=Tryz.func350.trans (congrArg some (by kernel_rfl))
 f279:=Tryz.func351.trans (congrArg some (by kernel_rfl))
 f280:=Tryz.func352.trans (congrArg some (by kernel_rfl))
 f281:=Tryz.func353.trans (congrArg some (by kernel_rfl))
 f282:=Tryz.func354.trans (congrArg some (by kernel_rfl))
 f283:=Tryz.func336.trans (congrArg some (by kernel_rfl))
 f284:=Tryz.func337.trans (congrArg some (by kernel_rfl))
 f285:=Tryz.func338.trans (congrArg some (by kernel_rfl))
 f286:=Tryz.func339.trans (congrArg some (by kernel_rfl))
 f287:=Tryz.func371.trans (congrArg some (by kernel_rfl))
 f316:=Tryz.func372.trans (congrArg some (by kernel_rfl))
 f317:=Tryz.func358.trans (congrArg some (by kernel_rfl))
 f318:=Tryz.func359.trans (congrArg some (by kernel_rfl))
 f319:=Tryz.func360.trans (congrArg some (by kernel_rfl))
 f320:=Tryz.func361.trans (congrArg some (by kernel_rfl))
 f321:=Tryz.func384.trans (congrArg some (by kernel_rfl))
 f322:=Tryz.func385.trans (congrArg some (by kernel_rfl))
 f337:=Tryz.func375.trans (congrArg some (by kernel_rfl))
 f338:=Tryz.func376.trans (congrArg some (by kernel_rfl))
 t0:=Tryz.underlying0
 a0:=Tryz.isAgg0
 z0:=Tryz.sizeOf0
 v0:=Tryz.zeroValue0
 t2:=Tryz.underlying2
 a2:=Tryz.isAgg2
 z2:=Tryz.sizeOf2
 v2:=Tryz.zeroValue2
 t3:=Tryz.underlying3
 a3:=Tryz.isAgg3
 z3:=Tryz.sizeOf3
 v3:=Tryz.zeroValue3
 t4:=Tryz.underlying4
 a4:=Tryz.isAgg4
 z4:=Tryz.sizeOf4
 v4:=Tryz.zeroValue4
 t5:=Tryz.underlying5
 a5:=Tryz.isAgg5
 z5:=Tryz.sizeOf5
 v5:=Tryz.zeroValue5
 t9:=Tryz.underlying9
 a9:=Tryz.isAgg9
 z9:=Tryz.sizeOf9
 v9:=Tryz.zeroValue9
 t20:=Tryz.underlying20
 a20:=Tryz.isAgg20
 z20:=Tryz.sizeOf20
 v20:=Tryz.zeroValue20
 t21:=Tryz.underlying21
 a21:=Tryz.isAgg21
 z21:=Tryz.sizeOf21
 v21:=Tryz.zeroValue21
 t37:=Tryz.underlying56
 a37:=Tryz.isAgg56
 z37:=Tryz.sizeOf56
 v37:=Tryz.zeroValue56
 t46:=Tryz.underlying267
 a46:=Tryz.isAgg267
 z46:=Tryz.sizeOf267
 v46:=Tryz.zeroValue267
 t51:=Tryz.underlying143
 a51:=Tryz.isAgg143
 z51:=Tryz.sizeOf143
 v51:=Tryz.zeroValue143
 t53:=Tryz.underlying22
 a53:=Tryz.isAgg22
 z53:=Tryz.sizeOf22
 v53:=Tryz.zeroValue22
 t75:=Tryz.underlying334
 a75:=Tryz.isAgg334
 z75:=Tryz.sizeOf334
 v75:=Tryz.zeroValue334
 t76:=Tryz.underlying335
 a76:=Tryz.isAgg335
 z76:=Tryz.sizeOf335
 v76:=Tryz.zeroValue335
 t85:=Tryz.underlying407
 a85:=Tryz.isAgg407
 z85:=Tryz.sizeOf407
 v85:=Tryz.zeroValue407
 t127:=Tryz.underlying434
 a127:=Tryz.isAgg434
 z127:=Tryz.sizeOf434
 v127:=Tryz.zeroValue434
 t143:=Tryz.underlying435
 a143:=Tryz.isAgg435
 z143:=Tryz.sizeOf435
 v143:=Tryz.zeroValue435
 t145:=Tryz.underlying437
 a145:=Tryz.isAgg437
 z145:=Tryz.sizeOf437
 v145:=Tryz.zeroValue437
 t167:=Tryz.underlying406
 a167:=Tryz.isAgg406
 z167:=Tryz.sizeOf406
 v167:=Tryz.zeroValue406
 t168:=Tryz.underlying409
 a168:=Tryz.isAgg409
 z168:=Tryz.sizeOf409
 v168:=Tryz.zeroValue409
 t171:=Tryz.underlying394
 a171:=Tryz.isAgg394
 z171:=Tryz.sizeOf394
 v171:=Tryz.zeroValue394
 t173:=Tryz.underlying396
 a173:=Tryz.isAgg396
 z173:=Tryz.sizeOf396
 v173:=Tryz.zeroValue396
 t175:=Tryz.underlying424
 a175:=Tryz.isAgg424
 z175:=Tryz.sizeOf424
 v175:=Tryz.zeroValue424
 t210:=Tryz.underlying428
 a210:=Tryz.isAgg428
 z210:=Tryz.sizeOf428
 v210:=Tryz.zeroValue428
 t212:=Tryz.underlying416
 a212:=Tryz.isAgg416
 z212:=Tryz.sizeOf416
 v212:=Tryz.zeroValue416
 t213:=Tryz.underlying417
 a213:=Tryz.isAgg417
 z213:=Tryz.sizeOf417
 t232:=Tryz.underlying438
 a232:=Tryz.isAgg438
 z232:=Tryz.sizeOf438
 v232:=Tryz.zeroValue438
 t233:=Tryz.underlying439
 a233:=Tryz.isAgg439
 z233:=Tryz.sizeOf439
 v233:=Tryz.zeroValue439
 g15:=by kernel_rfl
 g16:=by kernel_rfl
 g17:=by kernel_rfl
 g18:=by kernel_rfl
 g19:=by kernel_rfl
 t80:=Tryz.underlying313
 a80:=Tryz.isAgg313
 z80:=Tryz.sizeOf313
 v80:=Tryz.zeroValue313
 i0:=by kernel_rfl
 i2:=by kernel_rfl
 i3:=by kernel_rfl
 i4:=by kernel_rfl
 i5:=by kernel_rfl
 i9:=by kernel_rfl
 i20:=by kernel_rfl
 i21:=by kernel_rfl
 i37:=by kernel_rfl
 i46:=by kernel_rfl
 i51:=by kernel_rfl
 i53:=by kernel_rfl
 i75:=by kernel_rfl
 i76:=by kernel_rfl
 i80:=by kernel_rfl
 i85:=by kernel_rfl
 i127:=by kernel_rfl
 i143:=by kernel_rfl
 i145:=by kernel_rfl
 i167:=by kernel_rfl
 i168:=by kernel_rfl
 i171:=by kernel_rfl
 i173:=by kernel_rfl
 i175:=by kernel_rfl
 i210:=by kernel_rfl
 i212:=by kernel_rfl
 i232:=by kernel_rfl
 i233:=by kernel_rfl
 m15:=by kernel_rfl
 m16:=by kernel_rfl
 m17:=by kernel_rfl
 m18:=by kernel_rfl
 m19:=by kernel_rfl
 c0:=by kernel_rfl
 c2:=by kernel_rfl
 c3:=by kernel_rfl
 c4:=by kernel_rfl
 c5:=by kernel_rfl
 c9:=by kernel_rfl
 c20:=by kernel_rfl
 c21:=by kernel_rfl
 c37:=by kernel_rfl
 c46:=by kernel_rfl
 c51:=by kernel_rfl
 c53:=by kernel_rfl
 c75:=by kernel_rfl
 c76:=by kernel_rfl
 c80:=by kernel_rfl
 c85:=by kernel_rfl
 c127:=by kernel_rfl
 c143:=by kernel_rfl
 c145:=by kernel_rfl
 c167:=by kernel_rfl
 c168:=by kernel_rfl
 c171:=by kernel_rfl
 c173:=by kernel_rfl
 c175:=by kernel_rfl
 c210:=by kernel_rfl
 c212:=by kernel_rfl
 c213:=by kernel_rfl
 c232:=by kernel_rfl
 c233:=by kernel_rfl }
def Tryz.fy2:Go.Shelf.Ren:=⟨fun|7=>72|10=>146|n=>n,fun|23=>90|26=>9|3=>3|28=>128|0=>0|27=>127|33=>130|4=>4|n=>n,fun|n=>n⟩
theorem Tryz.qq4:Go.Proofs.SlLaysZ.n7 Tryz.prog Tryz.fy2:={
 mixed:=by kernel_rfl
 f7:=⟨Tryz.f72.name,by decide,Tryz.func72.trans (congrArg some (by kernel_rfl))⟩
 f10:=⟨Tryz.f146.name,by decide,Tryz.func146.trans (congrArg some (by kernel_rfl))⟩
 t0:=Tryz.underlying0
 a0:=Tryz.isAgg0
 z0:=Tryz.sizeOf0
 v0:=Tryz.zeroValue0
 t4:=Tryz.underlying4
 a4:=Tryz.isAgg4
 z4:=Tryz.sizeOf4
 v4:=Tryz.zeroValue4
 t23:=Tryz.underlying90
 a23:=Tryz.isAgg90
 z23:=Tryz.sizeOf90
 v23:=Tryz.zeroValue90
 t26:=Tryz.underlying9
 a26:=Tryz.isAgg9
 z26:=Tryz.sizeOf9
 v26:=Tryz.zeroValue9
 t27:=Tryz.underlying127
 a27:=Tryz.isAgg127
 z27:=Tryz.sizeOf127
 v27:=Tryz.zeroValue127
 t28:=Tryz.underlying128
 a28:=Tryz.isAgg128
 z28:=Tryz.sizeOf128
 v28:=Tryz.zeroValue128
 t33:=Tryz.underlying130
 a33:=Tryz.isAgg130
 z33:=Tryz.sizeOf130
 v33:=Tryz.zeroValue130 }
def Tryz.sk1:Go.Shelf.Ren:=⟨fun|6=>71|8=>144|9=>145|11=>220|13=>222|12=>221|23=>279|24=>280|14=>270|15=>271|16=>272|17=>273|18=>274|19=>275|20=>276|21=>277|22=>278|25=>320|26=>321|27=>322|28=>323|29=>324|30=>325|31=>348|n=>n,fun|26=>9|28=>128|24=>54|0=>0|3=>3|37=>267|48=>143|50=>22|4=>4|40=>323|39=>322|45=>199|5=>5|9=>9|51=>382|55=>385|57=>403|58=>404|33=>130|n=>n,fun|n=>n⟩
theorem Tryz.lq4:Go.Proofs.SlLaysZ.n6 Tryz.prog Tryz.sk1:={
 mixed:=by kernel_rfl
 f6:=⟨Tryz.f71.name,by decide,Tryz.func71.trans (congrArg some (by kernel_rfl))⟩
 f8:=⟨Tryz.f144.name,by decide,Tryz.func144.trans (congrArg some (by kernel_rfl))⟩
 f11:=⟨Tryz.f220.name,by decide,Tryz.func220.trans (congrArg some (by kernel_rfl))⟩
 t0:=Tryz.underlying0
 a0:=Tryz.isAgg0
 z0:=Tryz.sizeOf0
 v0:=Tryz.zeroValue0
 t24:=Tryz.underlying54
 a24:=Tryz.isAgg54
 z24:=Tryz.sizeOf54
 v24:=Tryz.zeroValue54
 t26:=Tryz.underlying9
 a26:=Tryz.isAgg9
 z26:=Tryz.sizeOf9
 v26:=Tryz.zeroValue9
 t28:=Tryz.underlying128
 a28:=Tryz.isAgg128
 z28:=Tryz.sizeOf128
 v28:=Tryz.zeroValue128
 i26:=by kernel_rfl }
def Tryz.xw2:Go.Shelf.Ren:=⟨fun|6=>145|8=>222|9=>221|19=>279|20=>280|21=>270|22=>271|23=>272|24=>273|25=>274|26=>275|27=>276|28=>277|29=>278|36=>320|31=>321|32=>322|37=>323|38=>324|39=>325|41=>348|n=>n,fun|27=>54|29=>9|3=>3|32=>267|26=>54|0=>0|44=>143|46=>22|4=>4|36=>323|35=>322|41=>199|5=>5|9=>9|53=>382|57=>385|63=>403|64=>404|n=>n,fun|n=>n⟩
theorem Tryz.dq4:Go.Proofs.SlLaysM.n6 Tryz.prog Tryz.xw2:={
 mixed:=by kernel_rfl
 f6:=⟨Tryz.f145.name,by decide,Tryz.func145.trans (congrArg some (by kernel_rfl))⟩
 f8:=Tryz.func222.trans (congrArg some (by kernel_rfl))
 f9:=⟨Tryz.f221.name,by decide,Tryz.func221.trans (congrArg some (by kernel_rfl))⟩
 f19:=Tryz.func279.trans (congrArg some (by kernel_rfl))
 f20:=Tryz.func280.trans (congrArg some (by kernel_rfl))
 f21:=⟨Tryz.f270.name,by decide,Tryz.func270.trans (congrArg some (by kernel_rfl))⟩
 f22:=⟨Tryz.f271.name,by decide,Tryz.func271.trans (congrArg some (by kernel_rfl))⟩
 f23:=⟨Tryz.f272.name,by decide,Tryz.func272.trans (congrArg some (by kernel_rfl))⟩
 f24:=⟨Tryz.f273.name,by decide,Tryz.func273.trans (congrArg some (by kernel_rfl))⟩
 f25:=⟨Tryz.f274.name,by decide,Tryz.func274.trans (congrArg some (by kernel_rfl))⟩
 f26:=⟨Tryz.f275.name,by decide,Tryz.func275.trans (congrArg some (by kernel_rfl))⟩
 f27:=⟨Tryz.f276.name,by decide,Tryz.func276.trans (congrArg some (by kernel_rfl))⟩
 f28:=⟨Tryz.f277.name,by decide,Tryz.func277.trans (congrArg some (by kernel_rfl))⟩
 f29:=⟨Tryz.f278.name,by decide,Tryz.func278.trans (congrArg some (by kernel_rfl))⟩
 f31:=Tryz.func321.trans (congrArg some (by kernel_rfl))
 f32:=Tryz.func322.trans (congrArg some (by kernel_rfl))
 f36:=⟨Tryz.f320.name,by decide,Tryz.func320.trans (congrArg some (by kernel_rfl))⟩
 f37:=⟨Tryz.f323.name,by decide,Tryz.func323.trans (congrArg some (by kernel_rfl))⟩
 f38:=⟨Tryz.f324.name,by decide,Tryz.func324.trans (congrArg some (by kernel_rfl))⟩
 f39:=⟨Tryz.f325.name,by decide,Tryz.func325.trans (congrArg some (by kernel_rfl))⟩
 f41:=⟨Tryz.f348.name,by decide,Tryz.func348.trans (congrArg some (by kernel_rfl))⟩
 t0:=Tryz.underlying0
 a0:=Tryz.isAgg0
 z0:=Tryz.sizeOf0
 v0:=Tryz.zeroValue0
 t3:=Tryz.underlying3
 a3:=Tryz.isAgg3
 z3:=Tryz.sizeOf3
 v3:=Tryz.zeroValue3
 t4:=Tryz.underlying4
 a4:=Tryz.isAgg4
 z4:=Tryz.sizeOf4
 v4:=Tryz.zeroValue4
 t5:=Tryz.underlying5
 a5:=Tryz.isAgg5
 z5:=Tryz.sizeOf5
 v5:=Tryz.zeroValue5
 t9:=Tryz.underlying9
 a9:=Tryz.isAgg9
 z9:=Tryz.sizeOf9
 v9:=Tryz.zeroValue9
 t26:=Tryz.underlying54
 a26:=Tryz.isAgg54
 z26:=Tryz.sizeOf54
 v26:=Tryz.zeroValue54
 t27:=Tryz.underlying54
 a27:=Tryz.isAgg54
 z27:=Tryz.sizeOf54
 v27:=Tryz.zeroValue54
 t29:=Tryz.underlying9
 a29:=Tryz.isAgg9
 z29:=Tryz.sizeOf9
 v29:=Tryz.zeroValue9
 t32:=Tryz.underlying267
 a32:=Tryz.isAgg267
 z32:=Tryz.sizeOf267
 v32:=Tryz.zeroValue267
 t35:=Tryz.underlying322
 a35:=Tryz.isAgg322
 z35:=Tryz.sizeOf322
 v35:=Tryz.zeroValue322
 t36:=Tryz.underlying323
 a36:=Tryz.isAgg323
 z36:=Tryz.sizeOf323
 v36:=Tryz.zeroValue323
 t41:=Tryz.underlying199
 a41:=Tryz.isAgg199
 z41:=Tryz.sizeOf199
 v41:=Tryz.zeroValue199
 t44:=Tryz.underlying143
 a44:=Tryz.isAgg143
 z44:=Tryz.sizeOf143
 v44:=Tryz.zeroValue143
 t46:=Tryz.underlying22
 a46:=Tryz.isAgg22
 z46:=Tryz.sizeOf22
 v46:=Tryz.zeroValue22
 t53:=Tryz.underlying382
 a53:=Tryz.isAgg382
 z53:=Tryz.sizeOf382
 v53:=Tryz.zeroValue382
 t57:=Tryz.underlying385
 a57:=Tryz.isAgg385
 z57:=Tryz.sizeOf385
 v57:=Tryz.zeroValue385
 t63:=Tryz.underlying403
 a63:=Tryz.isAgg403
 z63:=Tryz.sizeOf403
 v63:=Tryz.zeroValue403
 t64:=Tryz.underlying404
 a64:=Tryz.isAgg404
 z64:=Tryz.sizeOf404
 v64:=Tryz.zeroValue404 }
def Tryz.bk3:Go.Shelf.Ren:=⟨fun|5=>64|7=>130|n=>n,fun|23=>90|25=>9|3=>3|4=>4|20=>20|n=>n,fun|n=>n⟩
theorem Tryz.xy3:Go.Proofs.SlLaysW.n5 Tryz.prog Tryz.bk3:={
 mixed:=by kernel_rfl
 f5:=⟨Tryz.f64.name,by decide,Tryz.func64.trans (congrArg some (by kernel_rfl))⟩
 f7:=Tryz.func130.trans (congrArg some (by kernel_rfl))
 t4:=Tryz.underlying4
 a4:=Tryz.isAgg4
 z4:=Tryz.sizeOf4
 v4:=Tryz.zeroValue4
 t20:=Tryz.underlying20
 a20:=Tryz.isAgg20
 z20:=Tryz.sizeOf20
 v20:=Tryz.zeroValue20
 t23:=Tryz.underlying90
 a23:=Tryz.isAgg90
 z23:=Tryz.sizeOf90
 v23:=Tryz.zeroValue90 }
def Tryz.grow121_ren:Go.Shelf.Ren:=⟨fun|4=>342|n=>n,fun|22=>56|25=>5|3=>3|4=>4|9=>9|20=>20|0=>0|n=>n,fun|n=>n⟩
theorem Tryz.grow121:Go.Proofs.Lays8.n4 Tryz.prog Tryz.grow121_ren:={
 mixed:=by kernel_rfl
 f4:=⟨Tryz.f342.name,by decide,Tryz.func342.trans (congrArg some (by kernel_rfl))⟩
 t0:=Tryz.underlying0
 a0:=Tryz.isAgg0
 z0:=Tryz.sizeOf0
 v0:=Tryz.zeroValue0
 t3:=Tryz.underlying3
 a3:=Tryz.isAgg3
 z3:=Tryz.sizeOf3
 v3:=Tryz.zeroValue3
 t4:=Tryz.underlying4
 a4:=Tryz.isAgg4
 z4:=Tryz.sizeOf4
 v4:=Tryz.zeroValue4
 t9:=Tryz.underlying9
 a9:=Tryz.isAgg9
 z9:=Tryz.sizeOf9
 v9:=Tryz.zeroValue9
 t20:=Tryz.underlying20
 a20:=Tryz.isAgg20
 z20:=Tryz.sizeOf20
 v20:=Tryz.zeroValue20
 t22:=Tryz.underlying56
 a22:=Tryz.isAgg56
 z22:=Tryz.sizeOf56
 v22:=Tryz.zeroValue56 }
end Go.Proofs
namespace Go.Proofs.YthjdpplgfdihoaaGreatDoor
section
open Go Go.RowKit Go.Maps Go.Shelf
theorem DK.aw5 {w w':World} {X:Dw} {S S':Sd} (h:DK w X S) {b1 b2:Nat} (c:Chg [X.d] w w') (hb1:qj w' b1 S'.names.length S'.names) (hb2:qj w' b2 S'.lasted.length S'.lasted)
  (h1:b1=X.nb∨b1=X.lb∨w.heap.size≤b1) (h2:w.heap.size≤b2) (h12:b1≠b2) (hb:BoxO w' 99 X.d (({ X with nb:=b1,lb:=b2,tv:=.slice none 0 0 }:Dw).cells S')) (e3:S'.files=S.files) (e4:S'.turns=[]):
  DK w' { X with nb:=b1,lb:=b2,tv:=.slice none 0 0 } S':=by
 have a:=h.apart;have hl:=h.lt;obtain⟨q,fs,nm,la,tu,ca,de,st,fa⟩:=S';simp only at e3 e4;subst e3 e4;refine⟨hb,hb1,hb2,ny h.files c (fun g e=>by simpa using (a.fv g e).1),fun i hi h3=>(h.file i hi h3).chg c (fun g e=>by simpa using (a.ps _ (List.getElem_mem h3) g e).1),?_,?_⟩
 ·simpa using World.ownsRow_nil _ _ _ _
 ·have hnd:=h.nodup
  unfold Dw.foot at hnd ⊢;have hsub:(X.fv.ownBlock.toList++X.ps.flatMap bz).Nodup:=by
   refine List.Nodup.sublist ?_ hnd;refine List.Sublist.trans ?_ (List.sublist_append_right _ _);refine List.Sublist.trans ?_ (List.sublist_append_right _ _);refine List.Sublist.trans ?_ (List.sublist_append_right _ _);exact List.Sublist.append (List.Sublist.refl _) (List.sublist_append_right _ _)
  have hmem:∀g∈X.fv.ownBlock.toList++X.ps.flatMap bz,g≠X.d∧g≠X.nb∧g≠X.lb∧g < w.heap.size:=fun g hg=>by
   rcases List.mem_append.1 hg with h3|h3
   ·have h4:X.fv.ownBlock=some g:=by simpa using h3
    exact⟨(a.fv g h4).1,(a.fv g h4).2.1,(a.fv g h4).2.2.1,hl g (aj.2 (.inr (.inr (.inr (.inl h4)))))⟩
   ·obtain⟨p,hp,hgp⟩:=List.mem_flatMap.1 h3
    exact⟨(a.ps p hp g hgp).1,(a.ps p hp g hgp).2.1,(a.ps p hp g hgp).2.2.1,hl g (aj.2 (.inr (.inr (.inr (.inr (.inr ⟨p,hp,hgp⟩))))))⟩
  have hd:=h.box.lt;have hb1lt:b1≠X.d:=by
   rcases h1 with h1|h1|h1
   ·rw[h1];exact a.d_nb.symm
   ·rw[h1];exact a.d_lb.symm
   ·omega
  have hno:(Value.slice none 0 0).ownBlock.toList=[]:=rfl;simp only[hno,List.nil_append,List.singleton_append];refine List.nodup_cons.2 ⟨fun hm=>?_,List.nodup_cons.2 ⟨fun hm=>?_,List.nodup_cons.2 ⟨fun hm=>?_,hsub⟩⟩⟩
  ·rcases List.mem_cons.1 hm with h3|hm
   ·exact hb1lt h3.symm
   ·rcases List.mem_cons.1 hm with h3|hm
    ·omega
    ·exact(hmem _ hm).1 rfl
  ·rcases List.mem_cons.1 hm with h3|hm
   ·exact h12 h3
   ·obtain⟨m1,m2,m3,m4⟩:=hmem _ hm
    rcases h1 with h1|h1|h1
    ·exact m2 h1
    ·exact m3 h1
    ·omega
  ·have:=(hmem _ hm).2.2.2
   omega
theorem xx2 (X:Dw) (S:Sd) (hw:S.Wf) (w:World) (h:DK w X S):
  Calls Tryz.prog 30 #[.pointer (some ⟨X.d,0,none⟩)] w fun e w'=>e=.returned (.int .i64 ((S.ax).2:Int))∧Upd X w w' (S.ax).1:=by
 have hcall:=nq2 X S none 0 0 [] (by omega) (by simp) hw.stop hw.fail w h Row.nil_;have hte:texts []=[]:=rfl;rw[hte]at hcall;obtain⟨e1,e2,e3,e4,e5,_,_⟩:=Sd.iy S [];have hsy:S.ax=if (S.call []).2≠0 then S.call [] else ({ (S.call []).1 with lasted:=S.names,turns:=[] },0):=rfl
 generalize S.call []=R at *;obtain⟨S1,er⟩:=R;simp only at *
 by_cases h0:er=0
 ·subst h0
  rw[if_neg (by simp)]at hsy;rw[hsy,←e1];clear hsy e1 e2 e3 e4 e5 h hte;go_enter Tryz.func30,Tryz.ntmps30;go_wp2_with fail;refine hcall.mono ?_;rintro e w1 ⟨rfl,h1,hc1⟩;have d2:=h1.box.cell 2;simp only[Dw.cells,gE0,gE1]at d2;have hcl:=AnyW.maps_Clone_owns Tryz.xy3 9 (plainElem (H:=Unit) Tryz.prog 3) X.nb _ _ w1 h1.names;go_wp2_with fail;refine hcl.mono ?_;rintro e w2 ⟨rfl,hn2,hn1,hb2⟩;have h2:=h1.below hb2;have d3:=h2.box.cell 3;have d4:=h2.box.cell 4;have f3:=h2.box.free 3;have f4:=h2.box.free 4;simp only[Dw.cells,gE0,gE1]at d3 d4;have hbx:=(h2.box.store 3 (.map (some w1.heap.size))).store 4 (.slice none 0 0);have hcs:Chg [X.d] w1 ((w2.setCell ⟨X.d,3,none⟩ (.map (some w1.heap.size))).setCell ⟨X.d,4,none⟩ (.slice none 0 0)):=((Chg.of_below hb2 [X.d]).setCell _ (.inl (by simp))).setCell _ (.inl (by simp));have hcs2:Chg [X.d] w2 ((w2.setCell ⟨X.d,3,none⟩ (.map (some w1.heap.size))).setCell ⟨X.d,4,none⟩ (.slice none 0 0)):=((Chg.refl [X.d] w2).setCell _ (.inl (by simp))).setCell _ (.inl (by simp));have hlt:=h1.box.lt;have hnlt:=h1.names.lt;have hdk:=DK.aw5 (b1:=X.nb) (b2:=w1.heap.size) (S':={ S1 with lasted:=S1.names,turns:=[] }) h1 hcs (tq hn1 hcs2 (by simpa using h1.apart.d_nb.symm)) (tq hn2 hcs2 (by simp;omega)) (.inl rfl) (Nat.le_refl _) (by omega) hbx rfl rfl;have hup:Upd X w _ _:=Upd.after hc1 ⟨{ X with nb:=X.nb,lb:=w1.heap.size,tv:=.slice none 0 0 },rfl,hdk,hcs.mono (fun g hg=>.inl (by rw[List.mem_singleton.1 hg];exact aj.2 (.inl rfl))),fun g hg=>by
   rcases aj.1 hg with h5|h5|h5|h5|h5|h5
   ·exact .inl (aj.2 (.inl h5))
   ·exact .inl (aj.2 (.inr (.inl h5)))
   ·exact .inr (Nat.le_of_eq (show g=w1.heap.size from h5).symm)
   ·exact .inl (aj.2 (.inr (.inr (.inr (.inl h5)))))
   ·cases h5
   ·exact .inl (aj.2 (.inr (.inr (.inr (.inr (.inr h5))))))⟩
  have HU:=Lib.hid hup;clear hup hdk hcs hcs2 hbx hn2 hn1 hb2 h2 h1 hcl hc1;go_wp2;go_ret;exact⟨rfl,HU.out⟩
 ·have hne:=neq0 h0
  rw[if_pos h0]at hsy;rw[hsy];clear hsy e1 e2 e3 e4 e5 h0 hte;go_enter Tryz.func30,Tryz.ntmps30;go_wp2_with fail;refine hcall.mono ?_;rintro e w1 ⟨rfl,h1,hc1⟩;go_wp2;go_ret;exact⟨rfl,Upd.called h1 hc1⟩
theorem rw1 {w:World} {b:Nat} (hb:w.heap[b]?=some (.map #[] 0)):qj w b 0 []:=by
 have h:=(World.ownsMap_made (H:=Unit) w Tryz.prog 9 (plainElem (H:=Unit) Tryz.prog 3));obtain⟨es,clock,h1,F,hs,hD⟩:=h;rw[heap_alloc_new]at h1;injection h1 with h1;injection h1 with h1 h2;subst h1 h2;exact⟨#[],0,hb,F,hs,hD⟩
theorem fq3 (q:Int) (w:World):Calls Tryz.prog 13 #[.int .i64 q] w fun e w'=>∃X:Dw,e=.returned (.pointer (some ⟨X.d,0,none⟩))∧DK w' X (Sd.new q)∧Below w.heap.size w w'∧∀g∈X.foot,w.heap.size≤g:=by
 have hmm:=@run_makeMap Tryz.prog;go_enter Tryz.func13,Tryz.ntmps13;go_wp2;generalize hob:(Obj.cells #[.int .i64 (max q 0),.slice none 0 0,.map (some w.heap.size),.map (some (w.heap.size+1)),.slice none 0 0,.int .i64 0,.bool false,.int .i64 0,.int .i64 0] 99)=ob;have hq0:((q.toNat:Nat):Int)=max q 0:=by omega
 have hs1:((w.alloc (.map #[] 0)).alloc (.map #[] 0)).heap.size=w.heap.size+2:=by simp
 have hn1:qj (((w.alloc (.map #[] 0)).alloc (.map #[] 0)).alloc ob) w.heap.size 0 []:=rw1 (by
  rw[Below.heap_alloc _ _ _ (by simp;omega),Below.heap_alloc _ _ _ (by simp)];exact(MapKept.heap_alloc w _).1)
 have hn2:qj (((w.alloc (.map #[] 0)).alloc (.map #[] 0)).alloc ob) (w.heap.size+1) 0 []:=rw1 (by
  rw[Below.heap_alloc _ _ _ (by simp)];have:=(MapKept.heap_alloc (w.alloc (.map #[] 0)) (.map #[] 0)).1;simpa using this)
 have hbx:BoxO (((w.alloc (.map #[] 0)).alloc (.map #[] 0)).alloc ob) 99 (w.heap.size+2) (({ d:=w.heap.size+2,nb:=w.heap.size,lb:=w.heap.size+1,fv:=.slice none 0 0,tv:=.slice none 0 0,ps:=[] }:Dw).cells (Sd.new q)):=by
  have h1:=BoxO.new ((w.alloc (.map #[] 0)).alloc (.map #[] 0)) #[.int .i64 (max q 0),.slice none 0 0,.map (some w.heap.size),.map (some (w.heap.size+1)),.slice none 0 0,.int .i64 0,.bool false,.int .i64 0,.int .i64 0] 99;rw[hob,hs1]at h1;unfold Dw.cells Sd.new;simp only[hq0];exact h1
 have hB:Below w.heap.size w (((w.alloc (.map #[] 0)).alloc (.map #[] 0)).alloc ob):=(((Below.refl _ _).alloc (Nat.le_refl _) _).alloc (by simp) _).alloc (by simp;omega) _;have hft:∀g∈({ d:=w.heap.size+2,nb:=w.heap.size,lb:=w.heap.size+1,fv:=.slice none 0 0,tv:=.slice none 0 0,ps:=[] }:Dw).foot,w.heap.size≤g:=fun g hg=>by
  rcases aj.1 hg with h|h|h|h|h|⟨p,hp,_⟩
  ·simp only at h;omega
  ·simp only at h;omega
  ·simp only at h;omega
  ·simp[Value.ownBlock]at h
  ·simp[Value.ownBlock]at h
  ·cases hp
 have hdk:DK (((w.alloc (.map #[] 0)).alloc (.map #[] 0)).alloc ob) { d:=w.heap.size+2,nb:=w.heap.size,lb:=w.heap.size+1,fv:=.slice none 0 0,tv:=.slice none 0 0,ps:=[] } (Sd.new q):=
  ⟨hbx,hn1,hn2,World.ownsRow_nil _ _ _ _,fun i hi=>(by simp[Sd.new]at hi),World.ownsRow_nil _ _ _ _,by simp[Dw.foot,Value.ownBlock]⟩
 go_ret;exact⟨_,rfl,hdk,hB,hft⟩
end
section
open Go Go.RowKit Go.Maps Go.Sort Go.Shelf
theorem gq4 (m:Nat):AnyZ.SortsIn Tryz.prog Tryz.sk1 Fence.wide m:=
 ⟨fun blk off cap ss W hH hblk hsz=>callsIn_wide.2 (AnyM.slices_Sort_string Tryz.dq4 blk off cap ss W hH hblk hsz),
  fun p cap W=>callsIn_wide.2 (AnyM.slices_Sort_string_none Tryz.dq4 p cap W)⟩
theorem ty3 (mb:Option Nat) (W:World):CallsIn Fence.wide 5 Tryz.prog 72 #[.map mb] W fun e w'=>e=.returned (.func (.func 146) #[] #[.pointer (some ⟨W.heap.size,0,none⟩)])∧w'=W.alloc (.cells #[.map mb] 90):=
 AnyZ.keys_in Tryz.qq4 Fence.wide 5 trivial rfl mb W
theorem zq2 {H:Type} (b nn:Nat) (D0:DataW H) (R:Value→Option (DataW H×List MemPlace)) (w:World) (hown:w.ownsMap Tryz.prog 9 R b nn D0) (hmax:Maps.size D0≤maxLen) (hbytes:Maps.size D0 *16≤140737488355328):
  CallsIn Fence.wide 5 Tryz.prog 71 #[.func (.func 146) #[] #[.pointer (some ⟨w.heap.size,0,none⟩)]] (w.alloc (.cells #[.map (some b)] 90)) fun e w'=>∃(v:Value) (ss:List (List UInt8)),e=.returned v∧ss.Perm (strKeys D0)∧
   w'.ownsRow (w.alloc (.cells #[.map (some b)] 90)).heap.size 9 1 v ss.length ((ss.mergeSort (fun x y=>decide (x≤y))).map encStr)∧(v=.slice none 0 0↔ss=[])∧Below (w.alloc (.cells #[.map (some b)] 90)).heap.size (w.alloc (.cells #[.map (some b)] 90)) w':=by
 have hbl:=hown.lt;have hseq:SeqGives Fence.wide 2 Tryz.prog 146 #[.pointer (some ⟨w.heap.size,0,none⟩)] encStr (fun ss=>ss.Perm (strKeys D0)) (Maps.size D0) (w.alloc (.cells #[.map (some b)] 90)):=
  AnyZ.keys_gives (ρ:=Tryz.fy2) { Tryz.qq4 with } Fence.wide _ trivial rfl (by omega) w.heap.size b nn D0 _ (by simp) (by simp) (by
   obtain⟨es,clock,hb,Ft,hs,hD⟩:=hown;exact⟨es,clock,(Below.heap_alloc _ _ b hbl).trans hb,Ft,hs,hD⟩)
 exact AnyZ.sorted_in Tryz.lq4 Fence.wide 5 trivial trivial trivial trivial rfl (by omega) (gq4 _) (enters_of Tryz.func145 (by kernel_rfl) rfl) 146 #[.pointer (some ⟨w.heap.size,0,none⟩)] trivial (enters_of Tryz.func146 (by kernel_rfl) rfl) _ _ hmax hbytes _ hseq
theorem bq3 (m:Nm):strKeys (Nm.enc m)=m.map (·.1):=by simp[Nm.enc,strKeys,Nm.lit1,strOf]
theorem vx3 (X:Dw) (S:Sd) (hw:S.Wf) (w:World) (h:DK w X S):Calls Tryz.prog 24 #[.pointer (some ⟨X.d,0,none⟩)] w fun e w'=>
  ∃A c,e=.returned (.slice A S.list.length c)∧w'.ownsRow w.heap.size 9 1 (.slice A S.list.length c) S.list.length (S.list.map encStr)∧Below w.heap.size w w':=by
 have d6:=h.box.cell 6;have d2:=h.box.cell 2;simp only[Dw.cells,gE0,gE1]at d2 d6;have hdd:=jj2 X.d S.dead w d6
 cases hd:S.dead with
 |true=>
  have hli:S.list=[]:=by simp[Sd.list,hd]
  rw[hli];rw[hd]at hdd;clear hd hli d6 d2;go_enter Tryz.func24,Tryz.ntmps24;go_wp2_with fail;refine hdd.mono ?_;rintro e w1 ⟨rfl,rfl⟩;go_wp2;go_ret;exact⟨_,_,rfl,World.ownsRow_nil _ _ _ _,Below.refl _ _⟩
 |false=>
  have hli:S.list=(S.names.map (·.1)).mergeSort fun x y=>decide (x≤y):=by simp[Sd.list,hd]
  have hn:=h.names;have hsz:=Nm.uw1 S.names;have hm:=hw.most;rw[hd]at hdd;have HL:=Lib.hid hli;obtain⟨L,hL⟩:∃L,L=S.list:=⟨_,rfl⟩;rw[←hL];have HLL:=Lib.hid hL;clear hd hli d6 hL;have hcall:=fun w0 (hn0:qj w0 X.nb S.names.length S.names)=>zq2 X.nb _ _ _ w0 hn0 (by rw[hsz];unfold maxLen;omega) (by rw[hsz];omega);clear hsz;have HC:=Lib.hid hcall;clear hcall;refine(callsIn_wide (n:=6)).1 ?_;have hfK:Fence.wide.fn 72:=trivial;have hfS:Fence.wide.fn 71:=trivial;have hfD:Fence.wide.fn 40:=trivial;refine callsIn_of_wp Tryz.func24 rfl trivial ?_ rfl;simp only[Tryz.ntmps24,List.size_toArray,List.length_cons,List.length_nil,Nat.reduceAdd,Nat.reduceSub,Array.replicate_succ,Array.replicate_zero,List.push_toArray,List.append_toArray,List.nil_append,List.cons_append]
  gi_wp2_with (first
   |(gi_at_call 40;refine(callsIn_wide.2 hdd).mono ?_;rintro e w' ⟨rfl,rfl⟩)
   |(gi_at_call 72;refine(ty3 _ _).mono ?_;rintro e w' ⟨rfl,rfl⟩)
   |(gi_at_call 71;refine(HC.out _ hn).mono ?_;rintro e w' ⟨v,ss,rfl,hS,hrow,hnil,hb⟩))
  have e1:L=ss.mergeSort (fun x y=>decide (x≤y)):=by
   rw[bq3]at hS;rw[show L=_ from HLL.out,show S.list=_ from HL.out];exact(mergeSort_of_perm hS).symm
  have e2:ss.length=L.length:=by rw[e1,List.length_mergeSort]
  rw[←e1,e2]at hrow;obtain⟨A,c,rfl,_⟩:=ay hrow;go_ret;exact⟨_,_,rfl,own_base hrow (by simp),((Below.refl _ w).alloc (Nat.le_refl _) _).trans (hb.mono (by simp))⟩
end
section
open Go Go.RowKit Go.Shelf
structure Env (w:World):Prop where
 tab:Lib.TabIs Tryz.prog w "internal/strconv.uint64pow10" .u64 Lib.pow10Tab
 syn:∃t p,w.var? Tryz.prog "strconv.ErrSyntax" =some #[.iface t p]
 rng:∃t p,w.var? Tryz.prog "strconv.ErrRange" =some #[.iface t p]
noncomputable def gOf (n:String):Nat:=(Tryz.prog.globalNamed n).getD 0
noncomputable def NG:Nat:=max (gOf "internal/strconv.uint64pow10") (max (gOf "strconv.ErrSyntax") (gOf "strconv.ErrRange"))+1
theorem cj3 {w w':World} {G:List Nat} {n:String} {cs:Array Value} {g:Nat} (hg:Tryz.prog.globalNamed n=some g) (h:w.var? Tryz.prog n=some cs) (c:Chg G w w') (hG:g∉G):w'.var? Tryz.prog n=some cs:=by
 unfold World.var? at h ⊢;rw[hg]at h ⊢;simp only[Option.bind_some]at h ⊢;have hb:w'.heap[g]?=w.heap[g]?:=c.block g (by
  cases he:w.heap[g]? with
  |none=>rw[he]at h;cases h
  |some o=>exact(Array.getElem?_eq_some_iff.1 he).1) hG
 rw[hb];exact h
theorem yw2 {n:String} (h:(Tryz.prog.globalNamed n).isSome=true):Tryz.prog.globalNamed n=some (gOf n):=by
 unfold gOf
 cases hg:Tryz.prog.globalNamed n with
 |none=>rw[hg]at h;cases h
 |some g=>rfl
theorem yk4:Tryz.prog.globalNamed "internal/strconv.uint64pow10" =some (gOf "internal/strconv.uint64pow10"):=yw2 (by kernel_rfl)
theorem yy4:Tryz.prog.globalNamed "strconv.ErrSyntax" =some (gOf "strconv.ErrSyntax"):=yw2 (by kernel_rfl)
theorem xx4:Tryz.prog.globalNamed "strconv.ErrRange" =some (gOf "strconv.ErrRange"):=yw2 (by kernel_rfl)
theorem bz4 {w:World} {n:String} {cs:Array Value} {g:Nat} (hg:Tryz.prog.globalNamed n=some g) (h:w.var? Tryz.prog n=some cs):g < w.heap.size:=by
 unfold World.var? at h;rw[hg]at h;simp only[Option.bind_some]at h
 cases he:w.heap[g]? with
 |none=>rw[he]at h;cases h
 |some o=>exact(Array.getElem?_eq_some_iff.1 he).1
theorem Env.base {w:World} (h:Env w):NG≤w.heap.size:=by
 obtain⟨h1,⟨t2,p2,h2⟩,⟨t3,p3,h3⟩⟩:=h;have l1:=bz4 yk4 h1;have l2:=bz4 yy4 h2;have l3:=bz4 xx4 h3;unfold NG;omega
theorem Env.chg {w w':World} {G:List Nat} (h:Env w) (c:Chg G w w') (hG:∀g∈G,NG≤g):Env w':=by
 have e1:=yk4;have e2:=yy4;have e3:=xx4;have l1:gOf "internal/strconv.uint64pow10" < NG:=by unfold NG;omega
 have l2:gOf "strconv.ErrSyntax" < NG:=by unfold NG;omega
 have l3:gOf "strconv.ErrRange" < NG:=by unfold NG;omega
 obtain⟨h1,⟨t2,p2,h2⟩,⟨t3,p3,h3⟩⟩:=h;exact⟨cj3 e1 h1 c (fun hm=>by have:=hG _ hm;omega),⟨t2,p2,cj3 e2 h2 c (fun hm=>by have:=hG _ hm;omega)⟩,⟨t3,p3,cj3 e3 h3 c (fun hm=>by have:=hG _ hm;omega)⟩⟩
theorem Env.below {w w':World} (h:Env w) (hb:Below w.heap.size w w'):Env w':=h.chg (Chg.of_below hb []) (fun g hg=>by cases hg)
theorem name_any (k:ByteArray) (hk:k.size≤1000) (n:Int) (hn:-9223372036854775808≤n∧n≤9223372036854775807) (w:World) (h:Env w):
  Calls Tryz.prog 83 #[.string k,.int .i64 n] w fun e w'=>e=.returned (.string (str (Mn.name k.data.toList n)))∧Below w.heap.size w w':=by
 by_cases hf:Mn.fits n=true
 ·have h1:1≤n∧n≤1073741824:=by simp[Mn.fits]at hf;omega
  obtain⟨h1,h2⟩:=h1;have e0:(n < 1)=False:=by simp;omega
  have e1:((1073741824:Int) < n)=False:=by simp;omega
  by_cases hkd:Mn.isKind k.data.toList=true
  ·have hnm:Mn.name k.data.toList n=k.data.toList++[46] ++Lib.itoa n:=by rw[Mn.name,if_pos (by simp[hf,hkd])]
   have hres:(str (Mn.name k.data.toList n))=k++⟨#[46]⟩++⟨(Lib.itoa n).toArray⟩:=by
    rw[hnm];apply ByteArray.ext;simp[str]
   rw[hres];have hit:=Any.strconv_Itoa Tryz.laysM171 n hn.1 hn.2 w h.tab;have hlen:=Lib.itoa_length_le n hn.1 hn.2;clear hnm hres h hf;have hk3:k=str Mn.kLog∨k=str Mn.kTab∨k=str Mn.kMan:=by
    simp only[Mn.isKind,Bool.or_eq_true,beq_iff_eq]at hkd;rw[←by1 k]
    rcases hkd with h|h|h<;>rw[h] <;>simp
   clear hkd
   rcases hk3 with rfl|rfl|rfl
   all_goals
    unfold str
    first|unfold Mn.kLog|unfold Mn.kTab|unfold Mn.kMan
    go_enter Tryz.func83,Tryz.ntmps83;go_wp2_with fail;refine hit.mono ?_;rintro e w1 ⟨rfl,q,os,rfl⟩;go_wp2;go_ret;exact⟨rfl,Lib.below_grow _ _ (Nat.le_refl _) _ _⟩
  ·have hnm:Mn.name k.data.toList n=[]:=by rw[Mn.name,if_neg (by simp[hkd])]
   have hes:str []=⟨#[]⟩:=rfl;rw[hnm,hes];have hb:∀l:List UInt8,k.data.toList≠l→(k.toList==l)=false:=fun l h=>by
    rw[ByteArray.toList_eq];simpa using h
   have hd:k.data.toList≠Mn.kLog∧k.data.toList≠Mn.kTab∧k.data.toList≠Mn.kMan:=by
    simpa [Mn.isKind] using hkd
   obtain⟨d1,d2,d3⟩:=hd;have b1:=hb _ d1;have b2:=hb _ d2;have b3:=hb _ d3;unfold Mn.kLog at b1;unfold Mn.kTab at b2;unfold Mn.kMan at b3;clear hb hnm hes d1 d2 d3 hkd hf h;go_enter Tryz.func83,Tryz.ntmps83;go_wp2;go_ret;exact⟨rfl,Below.refl _ _⟩
 ·have he:Mn.name k.data.toList n=[]:=by rw[Mn.name,if_neg (by simp[hf])]
  rw[he];have hes:str []=⟨#[]⟩:=rfl;rw[hes];have h1:n < 1∨1073741824 < n:=by simp[Mn.fits]at hf;omega
  clear he hf
  rcases h1 with h1|h1
  ·go_enter Tryz.func83,Tryz.ntmps83
   go_wp2;go_ret;exact⟨rfl,Below.refl _ _⟩
  ·have h2:(n < 1)=False:=by simp;omega
   go_enter Tryz.func83,Tryz.ntmps83;go_wp2;go_ret;exact⟨rfl,Below.refl _ _⟩
theorem dx4 (s:ByteArray) (hs:s.size≤1000000) (w:World) (h:Env w):
  Calls Tryz.prog 282 #[.string s] w fun e w'=>∃(v:Int) (ev:Value),e=.returned (.tuple #[.int .i64 v,ev])∧((Mn.okOf (Lib.atoiAll s.data.toList)=some v∧ev=.nilIface∧-9223372036854775808≤v∧v≤9223372036854775807)∨(Mn.okOf (Lib.atoiAll s.data.toList)=none∧∃t p,ev=.iface t p))∧Below w.heap.size w w':=by
 cases ha:Lib.atoiAll s.data.toList with
 |ok v=>
  refine(Any.strconv_Atoi_ok Tryz.laysC172 s (by omega) v ha w).mono ?_;rintro e w1 ⟨rfl,h1⟩;refine⟨_,_,rfl,.inl ⟨rfl,rfl,Lib.atoiAll_bounds ha⟩,?_⟩
  rcases h1 with rfl|⟨t,rfl⟩
  ·exact Below.refl _ _
  ·exact Joins.below_bytesWorld _ _ _ _ (Nat.le_refl _)
 |range=>
  obtain⟨tp,p,hv⟩:=h.rng;refine(Any.strconv_Atoi_range_var Tryz.laysC172 s (by omega) ha tp p w hv).mono ?_;rintro e w1 ⟨N,rfl,_,_,hb⟩;exact⟨_,_,rfl,.inr ⟨rfl,_,_,rfl⟩,hb⟩
 |_=>
  obtain⟨tp,p,hv⟩:=h.syn;refine(Any.strconv_Atoi_syntax_var Tryz.laysC172 s (by omega) ha tp p w hv).mono ?_;rintro e w1 ⟨N,rfl,_,_,hb⟩;exact⟨_,_,rfl,.inr ⟨rfl,_,_,rfl⟩,hb⟩
def numV (o:Option Int):Value:=match o with
 |some v=>.tuple #[.int .i64 v,.bool true]
 |none=>.tuple #[.int .i64 0,.bool false]
theorem qx1 (s k:ByteArray) (hs:s.size≤100000) (hk:k.size≤1000) (w:World) (h:Env w):
  Calls Tryz.prog 226 #[.string s,.string k] w fun e w'=>e=.returned (numV (Mn.number s.data.toList k.data.toList))∧Below w.heap.size w w':=by
 have hcut:=fun p=>Any.strings_CutPrefix Tryz.lays103 s p w;have hat:=fun u hu w1 hw1=>dx4 u hu w1 hw1;have hpre:(k++⟨#[46]⟩).data.toList=k.data.toList++[46]:=by simp
 have hcut:=hcut (k++⟨#[46]⟩);rw[hpre]at hcut
 cases hp:Lib.hasPrefix s.data.toList (k.data.toList++[46]) with
 |false=>
  have hn:Mn.number s.data.toList k.data.toList=none:=by rw[Mn.number,if_neg (by simp[hp])]
  rw[hn,numV];have htr:Lib.trimPrefix s.data.toList (k.data.toList++[46])=s.data.toList:=by rw[Lib.trimPrefix,if_neg (by simp[hp])]
  rw[hp,htr]at hcut;have hss:(⟨s.data.toList.toArray⟩:ByteArray)=s:=by simp
  rw[hss]at hcut;have hat:=hat s (by omega) w h;clear hp hn htr hpre hss;go_enter Tryz.func226,Tryz.ntmps226;go_wp2_with fail;refine hcut.mono ?_;rintro e w1 ⟨rfl,rfl⟩;go_wp2_with fail;refine hat.mono ?_;rintro e w1 ⟨v,ev,rfl,hev,hb⟩;go_wp2;go_ret2;exact⟨rfl,hb⟩
 |true=>
  have htr:Lib.trimPrefix s.data.toList (k.data.toList++[46])=s.data.toList.drop (k.data.toList.length+1):=by rw[Lib.trimPrefix,if_pos hp];simp
  rw[hp,htr]at hcut;obtain⟨T,hT⟩:∃T:ByteArray,T=⟨(s.data.toList.drop (k.data.toList.length+1)).toArray⟩:=⟨_,rfl⟩;have hTl:T.data.toList=s.data.toList.drop (k.data.toList.length+1):=by rw[hT]
  have hTs:T.size≤1000000:=by
   have:T.size=T.data.toList.length:=by simp
   rw[this,hTl,List.length_drop];have:s.data.toList.length=s.size:=by simp
   omega
  rw[←hT]at hcut;have hat:=hat T hTs w h;rw[hTl]at hat;have hnum:Mn.number s.data.toList k.data.toList=match Mn.okOf (Lib.atoiAll (s.data.toList.drop (k.data.toList.length+1))) with
   |some v=>if Mn.name k.data.toList v=s.data.toList then some v else none
   |none=>none:=by rw[Mn.number,if_pos hp];first|done|rfl
  cases hok:Mn.okOf (Lib.atoiAll (s.data.toList.drop (k.data.toList.length+1))) with
  |none=>
   rw[hok]at hnum hat;simp only at hnum;rw[hnum,numV];have HAT:=Lib.hid hat;clear hat hp htr hpre hT hTl hTs hnum hok;go_enter Tryz.func226,Tryz.ntmps226;go_wp2_with fail;refine hcut.mono ?_;rintro e w1 ⟨rfl,rfl⟩;go_wp2_with fail;refine HAT.out.mono ?_;rintro e w1 ⟨v,ev,rfl,hev,hb⟩
   rcases hev with ⟨h1,_⟩|⟨_,t,p,rfl⟩
   ·cases h1
   ·go_wp2
    go_ret2;exact⟨rfl,hb⟩
  |some v=>
   rw[hok]at hnum hat;simp only at hnum;have hw1:∀w1,Below w.heap.size w w1→Env w1:=fun w1 hb=>h.below hb;have hnm:=fun(hv:-9223372036854775808≤v∧v≤9223372036854775807) w1 hb=>name_any k hk v hv w1 (hw1 w1 hb)
   by_cases heq:Mn.name k.data.toList v=s.data.toList
   ·rw[if_pos heq]at hnum
    rw[hnum,numV];rw[heq,by1]at hnm;have HAT:=Lib.hid hat;have HNM:=Lib.hid hnm;clear hat hp htr hpre hT hTl hTs hnum hok hnm heq hw1;go_enter Tryz.func226,Tryz.ntmps226;go_wp2_with fail;refine hcut.mono ?_;rintro e w0 ⟨rfl,hw0⟩;obtain rfl:=hw0.symm;go_wp2_with fail;refine HAT.out.mono ?_;rintro e w1 ⟨v',ev,rfl,hev,hb⟩
    rcases hev with ⟨h1,rfl,hv⟩|⟨h1,_⟩
    ·injection h1 with h1
     subst h1;go_wp2_with fail;refine(HNM.out hv w1 hb).mono ?_;rintro e w2 ⟨rfl,hb2⟩;have hb3:Below w.heap.size w w2:=hb.trans (hb2.mono hb.size);go_wp2;go_ret2;exact⟨rfl,hb3⟩
    ·cases h1
   ·rw[if_neg heq]at hnum
    rw[hnum,numV];have hne:((str (Mn.name k.data.toList v)).toList==s.toList)=false:=by
     rw[ByteArray.toList_eq,ByteArray.toList_eq,rq];simpa using heq
    generalize str (Mn.name k.data.toList v)=nm at *;have HAT:=Lib.hid hat;have HNM:=Lib.hid hnm;clear hat hp htr hpre hT hTl hTs hnum hok hnm heq hw1;go_enter Tryz.func226,Tryz.ntmps226;go_wp2_with fail;refine hcut.mono ?_;rintro e w0 ⟨rfl,hw0⟩;obtain rfl:=hw0.symm;go_wp2_with fail;refine HAT.out.mono ?_;rintro e w1 ⟨v',ev,rfl,hev,hb⟩
    rcases hev with ⟨h1,rfl,hv⟩|⟨h1,_⟩
    ·injection h1 with h1
     subst h1;go_wp2_with fail;refine(HNM.out hv w1 hb).mono ?_;rintro e w2 ⟨rfl,hb2⟩;have hb3:Below w.heap.size w w2:=hb.trans (hb2.mono hb.size);go_wp2;go_ret2;exact⟨rfl,hb3⟩
    ·cases h1
end
section
open Go Go.Shelf Go.RowKit
theorem uk3: "*" ++ "errors.errorString" = "*errors.errorString" :=by decide
theorem qw4 (u:TypeId) (h:Tryz.prog.typeName? 3 u=some "*errors.errorString"):u=435:=
 typeName_ptr_named (nm:= "errors.errorString") (by rw[uk3];kernel_rfl) (by kernel_rfl) (by decide) u (by rw[uk3];exact h)
theorem az5 {a b:String×DataW Unit} (W:World) (h:laidMet Tryz.prog [a,b,("internal/strconv.uint64pow10",Rows.laid_internal_strconv_uint64pow10),("strconv.ErrRange",Rows.laid_strconv_ErrRange),("strconv.ErrSyntax",Rows.laid_strconv_ErrSyntax)] W):Env W:=by
 have h2:=h.tail.tail;have ht:Lib.TabIs Tryz.prog W "internal/strconv.uint64pow10" .u64 Lib.pow10Tab:=
  Lib.tabIs_of_head (g:=gOf "internal/strconv.uint64pow10") (t:=416) (e:=22) (n:=20) yk4 (by kernel_rfl) Tryz.underlying416 Tryz.underlying22 (by kernel_rfl) (by kernel_rfl) h2
 obtain⟨a1,s1,hv1,_⟩:=laid_sentinel h2.tail (g:=gOf "strconv.ErrRange") xx4 (by kernel_rfl) Tryz.underlying334 qw4 Tryz.underlying435 Tryz.underlying437 rfl rfl Tryz.underlying9 (by kernel_rfl) (by kernel_rfl);obtain⟨a2,s2,hv2,_⟩:=laid_sentinel h2.tail.tail (g:=gOf "strconv.ErrSyntax") yy4 (by kernel_rfl) Tryz.underlying334 qw4 Tryz.underlying435 Tryz.underlying437 rfl rfl Tryz.underlying9 (by kernel_rfl) (by kernel_rfl);exact⟨ht,⟨_,_,hv2⟩,⟨_,_,hv1⟩⟩
end
section
namespace Pn
def putF:Nat→Nat→List UInt8
 |0,n=>[UInt8.ofNat n]
 |k+1,n=>if n < 128 then [UInt8.ofNat n] else UInt8.ofNat (n % 128+128)::putF k (n / 128)
def put (n:Nat):List UInt8:=putF 9 n
def takeF:Nat→Nat→List UInt8→Nat×Nat×Nat
 |_,_,[]=>(0,0,4)
 |i,acc,c::r=>if (i=9∧1 < c.toNat)∨(0 < i∧c.toNat=0) then (0,0,3) else if c.toNat < 128 then (acc+c.toNat *2 ^ (7 *i),i+1,0) else takeF (i+1) (acc+(c.toNat - 128)*2 ^ (7 *i)) r
def take (l:List UInt8):Nat×Nat×Nat:=takeF 0 0 l
def unlistF:Nat→Nat→List UInt8→List Nat→List Nat×Nat×Nat
 |0,at_,_,out=>(out,at_,0)
 |k+1,at_,l,out=>match take (l.drop at_) with
  |(x,size,0)=>unlistF k (at_+size) l (out++[x])
  |(_,_,e)=>([],0,e)
def ry (l:List UInt8) (most:Nat):List Nat×Nat×Nat:=match take l with
  |(n,at_,0)=>if most < n then ([],0,2) else unlistF n at_ l []
  |(_,_,e)=>([],0,e)
def list (l:List Nat):List UInt8:=put l.length++l.flatMap put
theorem ew3:∀k n,1≤(putF k n).length∧(putF k n).length≤k+1
 |0,_=>by simp[putF]
 |k+1,n=>by
  have:=ew3 k (n / 128);unfold putF;split<;>simp<;>omega
theorem jv (n:Nat):1≤(put n).length∧(put n).length≤10:=ew3 9 n
theorem pow7 (i:Nat):2 ^ (7 *(i+1))=128 *2 ^ (7 *i):=by
 rw[show 7 *(i+1)=7 *i+7 from by omega,Nat.pow_add];omega
theorem kk2 (n:Nat) (h:n < 256):(UInt8.ofNat n).toNat=n:=by
 rw[UInt8.toNat_ofNat'];omega
theorem ix2:∀(k i acc n:Nat) (r:List UInt8),i+k=9→(0 < i→0 < n)→n < 2 ^ (64 - 7 *i)→takeF i acc (putF k n++r)=(acc+n *2 ^ (7 *i),i+(putF k n).length,0)
 |0,i,acc,n,r,hi,h0,hn=>by
  obtain rfl:i=9:=by omega
  have h2:n < 2:=by simpa using hn
  have:=h0 (by omega);have e:(UInt8.ofNat n).toNat=n:=kk2 n (by omega);simp only[putF,List.cons_append,List.nil_append,takeF,e];rw[if_neg (by omega),if_pos (by omega)];simp
 |k+1,i,acc,n,r,hi,h0,hn=>by
  unfold putF;split
  ·rename_i hl
   have e:(UInt8.ofNat n).toNat=n:=kk2 n (by omega);simp only[List.cons_append,List.nil_append,takeF,e];rw[if_neg (by omega),if_pos (by omega)];simp
  ·rename_i hl
   have e:(UInt8.ofNat (n % 128+128)).toNat=n % 128+128:=kk2 _ (by omega);simp only[List.cons_append,takeF,e];rw[if_neg (by omega),if_neg (by omega)];have h1:n / 128 < 2 ^ (64 - 7 *(i+1)):=by
    rw[Nat.div_lt_iff_lt_mul (by decide)];have:2 ^ (64 - 7 *(i+1))*128=2 ^ (64 - 7 *i):=by
     rw[show (128:Nat)=2 ^ 7 from rfl,←Nat.pow_add]
     congr 1
     omega
    omega
   rw[ix2 k (i+1) _ (n / 128) r (by omega) (by omega) h1,pow7]
   congr 1
   ·have:n=128 *(n / 128)+n % 128:=(Nat.div_add_mod n 128).symm
    have e2:n *2 ^ (7 *i)=n / 128 *(128 *2 ^ (7 *i))+(n % 128)*2 ^ (7 *i):=by
     conv=>lhs;rw[this]
     rw[Nat.add_mul,Nat.mul_comm 128 (n / 128),Nat.mul_assoc]
    rw[e2];have e3:n % 128+128 - 128=n % 128:=by omega
    rw[e3];omega
   ·simp only[List.length_cons]
    congr 1
    omega
theorem oq (n:Nat) (r:List UInt8) (hn:n < 2 ^ 64):take (put n++r)=(n,(put n).length,0):=by
 have:=ix2 9 0 0 n r rfl (by omega) (by simpa using hn);simpa [take,put] using this
end Pn
end
section
open Go.RowKit
theorem zk4 (x:Nat):bits .or .u8 ((x:Int) % 256) 128=((UInt8.ofNat (x % 128+128)).toNat:Int):=by
 have key:∀y:Fin 256,bits .or .u8 ((y.val:Nat):Int) 128=((y.val % 128+128:Nat):Int):=by decide+kernel
 have h:=key ⟨x % 256,Nat.mod_lt _ (by decide)⟩;simp only at h;rw[show ((x:Int) % 256)=((x % 256:Nat):Int) from by omega,h,UInt8.toNat_ofNat'];omega
theorem xw1 (x:Nat):(x:Int) % 256=((UInt8.ofNat x).toNat:Int):=by
 rw[UInt8.toNat_ofNat'];omega
theorem av3 (w:World) (e:TypeId) (c:UInt8):Row (w.heap.size+1) (w.alloc (.cells #[.int .u8 (c.toNat:Int)] e)) (some ⟨w.heap.size,0,none⟩) 1 1 (bts [c]):=by
 have:=Row.new w #[.int .u8 (c.toNat:Int)] e (n:=1) (size:=1) rfl;simpa [bts] using this
theorem put_any (A:Option Addr) (N c:Nat) (l:List UInt8) (n:Nat) (hn:n < 18446744073709551616) (w:World) (hN:N≤1073741824) (hr:Row w.heap.size w A N 1 (bts l)):
  Calls Tryz.prog 251 #[.slice A N c,.int .u64 (n:Int)] w fun e w'=>∃A' c',e=.returned (.slice A' (N+(Pn.put n).length) c')∧
   w'.ownsRow w.heap.size 5 1 (.slice A' (N+(Pn.put n).length) c') (N+(Pn.put n).length) (bts (l++Pn.put n))∧N+(Pn.put n).length≤c'∧c'≤maxLen∧Below w.heap.size w w':=by
 obtain⟨i0,hi0,hz0,hz1,hz2⟩:=info_parts gx1;go_enter Tryz.func251,Tryz.ntmps251;go_wp2_with (at_builtin;refine jq ?_);refine gy (uw rfl (.const (.slice none 0 0)) (.tmp 6) _ rfl w.heap.size 5 i0 _ 1 1 Tryz.underlying56 hi0 hz0 hz1 hz2 rfl (by omega) w (Below.refl _ _) (Nat.le_refl _) rfl w.heap.size A N c (bts l) rfl hr (ak1 l) (by unfold maxLen;omega) (by omega) ?_);intro A2 c2 w2 hown2 hb2 hg2 hc2 hm2;go_wp2
 go_loopw [5,1] (fun o m wr=>∃(k n':Nat) (pre:List UInt8) (A':Option Addr) (c':Nat),o=.slice A' (N+k) c'∧m=.int .u64 (n':Int)∧wr.ownsRow w.heap.size 5 1 (.slice A' (N+k) c') (N+k) (bts (l++pre))∧N+k≤c'∧c'≤maxLen∧
  pre++Pn.putF (9 - k) n'=Pn.put n∧k≤9∧n' < 2 ^ (64 - 7 *k)∧Below w.heap.size w wr) (fun _ m _=>(intOf m).toNat)
 case atStart=>exact⟨0,n,[],A2,c2,rfl,rfl,by simpa using hown2,hc2,hm2,rfl,by omega,by simpa using hn,hb2⟩
 case round=>
  obtain⟨k,n',pre,A',c',rfl,rfl,hown,hc',hm',hp,hk,hl,hb⟩:=hrel;have hpl:pre.length=k:=by
   have h1:=hown.1;rw[vk,List.length_append]at h1;have h2:=hr.yz;omega
  have HP:=Lib.hid hp;have HL:=Lib.hid hl;have HPL:=Lib.hid hpl;have h64:n' < 18446744073709551616:=by
   refine Nat.lt_of_lt_of_le hl ?_;exact Nat.pow_le_pow_right (n:=2) (by decide) (show 64 - 7 *k≤64 by omega)
  clear hp hl hpl
  by_cases h128:128≤n'
  ·have hlt:((n':Int) < 128)=False:=by simp;omega
   have hge:((128:Int)≤(n':Int)):=by omega
   go_wp2_with (at_builtin;refine jq ?_);have hbox:Row (wr.heap.size+1) (wr.alloc (.cells #[.int .u8 ((UInt8.ofNat (n' % 128+128)).toNat:Int)] 5)) (some ⟨wr.heap.size,0,none⟩) 1 1 (bts [UInt8.ofNat (n' % 128+128)]):=av3 _ _ _;rw[←zk4]at hbox;refine gy (lq rfl (.tmp 12) (.tmp 16) _ rfl w.heap.size 5 i0 _ 1 1 Tryz.underlying56 hi0 hz0 hz1 hz2 rfl (by omega) w (hb.alloc hb.size _) (Nat.le_trans hb.size (by simp)) _ (N+k) (bts (l++pre)) rfl (hown.alloc _) (wr.heap.size+1) _ 1 1 (bts [UInt8.ofNat (n' % 128+128)]) rfl hbox (ak1 _) (N+(k+1)) (bts (l++(pre++[UInt8.ofNat (n' % 128+128)]))) (by omega) (by simp[bts]) (by unfold maxLen;omega) (by omega) ?_);intro A3 c3 w3 hown3 hb3 _ hc3 hm3;go_wp2;go_roundw
   case rel=>
    have hp:pre++Pn.putF (9 - k) n'=Pn.put n:=HP;have hl:n' < 2 ^ (64 - 7 *k):=HL;have hk9:k≠9:=by
     rintro rfl;omega
    refine⟨k+1,n' / 128,pre++[UInt8.ofNat (n' % 128+128)],A3,c3,rfl,?_,hown3,hc3,hm3,?_,by omega,?_,hb3⟩
    ·go_num
    ·rw[←hp,show 9 - k=(9 - (k+1))+1 from by omega,Pn.putF,if_neg (by omega)]
     simp
    ·rw[Nat.div_lt_iff_lt_mul (by decide),show (128:Nat)=2 ^ 7 from rfl,←Nat.pow_add,show 64 - 7 *(k+1)+7=64 - 7 *k from by omega]
     exact hl
   case measure=>simp[intOf];omega
  ·have hlt:((128:Int)≤(n':Int))=False:=by simp;omega
   go_wp2_with (at_builtin;refine jq ?_);have hbox:Row (wr.heap.size+1) (wr.alloc (.cells #[.int .u8 ((UInt8.ofNat n').toNat:Int)] 5)) (some ⟨wr.heap.size,0,none⟩) 1 1 (bts [UInt8.ofNat n']):=av3 _ _ _;rw[show ((UInt8.ofNat n').toNat:Int)=(n':Int) from by rw[←xw1];omega]at hbox;have hfin:pre++[UInt8.ofNat n']=Pn.put n:=by
    have hp:pre++Pn.putF (9 - k) n'=Pn.put n:=HP;rw[←hp]
    cases h9:9 - k with
    |zero=>rfl
    |succ j=>rw[Pn.putF,if_pos (by omega)]
   have hlen:k+1=(Pn.put n).length:=by
    have hpl:pre.length=k:=HPL;rw[←hfin];simp[hpl]
   have HF:=Lib.hid hfin;have HLN:=Lib.hid hlen;clear hfin hlen;refine gy (lq rfl (.tmp 18) (.tmp 21) _ rfl w.heap.size 5 i0 _ 1 1 Tryz.underlying56 hi0 hz0 hz1 hz2 rfl (by omega) w (hb.alloc hb.size _) (Nat.le_trans hb.size (by simp)) _ (N+k) (bts (l++pre)) rfl (hown.alloc _) (wr.heap.size+1) _ 1 1 (bts [UInt8.ofNat n']) rfl hbox (ak1 _) (N+(Pn.put n).length) (bts (l++Pn.put n)) (by have h:k+1=(Pn.put n).length:=HLN;omega) (by have h:pre++[UInt8.ofNat n']=Pn.put n:=HF;rw[←h];simp[bts]) (by have:=(Pn.jv n).2;unfold maxLen;omega) (by have:=(Pn.jv n).2;omega) ?_);intro A3 c3 w3 hown3 hb3 _ hc3 hm3;go_wp2;go_ret;exact⟨A3,c3,rfl,hown3,hc3,hm3,hb3⟩
end
section
open Go.RowKit
theorem ty4 (x:UInt8):bits .and .u8 (x.toNat:Int) 127=((x.toNat % 128:Nat):Int):=by
 have key:∀y:Fin 256,bits .and .u8 ((y.val:Nat):Int) 127=((y.val % 128:Nat):Int):=by decide+kernel
 exact key ⟨x.toNat,x.toNat_lt⟩
theorem gq2 (y:Nat) (h:y < 18446744073709551616):IntKind.u64.wrap (y:Int)=(y:Int):=by
 rw[IntKind.wrap_u64];omega
theorem ay5 (acc m k:Nat) (ha:acc < 2 ^ k) (hm:m *2 ^ k < 18446744073709551616) (ha':acc < 18446744073709551616):bits .or .u64 (acc:Int) ((m *2 ^ k:Nat):Int)=((acc+m *2 ^ k:Nat):Int):=by
 have h1:((BitVec.ofNat 64 acc).toNat:Int)=(acc:Int):=by rw[BitVec.toNat_ofNat,Nat.mod_eq_of_lt ha']
 have h2:((BitVec.ofNat 64 (m *2 ^ k)).toNat:Int)=((m *2 ^ k:Nat):Int):=by rw[BitVec.toNat_ofNat,Nat.mod_eq_of_lt hm]
 rw[←h1,←h2,xj3,BitVec.toNat_or,BitVec.toNat_ofNat,BitVec.toNat_ofNat,Nat.mod_eq_of_lt ha',Nat.mod_eq_of_lt hm]
 congr 1
 rw[Nat.or_comm,Nat.mul_comm,←Nat.two_pow_add_eq_or_of_lt ha];omega
theorem cq5 (acc:Nat) (x:UInt8) (k:Nat) (hk:k≤9) (h9:k=9→x.toNat≤1) (ha:acc < 2 ^ (7 *k)):
  bits .or .u64 (acc:Int) (IntKind.u64.wrap (IntKind.u64.wrap (bits .and .u8 (x.toNat:Int) 127)*2 ^ (7 *k)))=((acc+x.toNat % 128 *2 ^ (7 *k):Nat):Int)∧acc+x.toNat % 128 *2 ^ (7 *k) < 2 ^ (7 *(k+1)):=by
 have hx:x.toNat % 128 < 128:=Nat.mod_lt _ (by decide);have hp:2 ^ (7 *k)≤2 ^ 63:=Nat.pow_le_pow_right (by decide) (by omega);have hm:x.toNat % 128 *2 ^ (7 *k) < 18446744073709551616:=by
  by_cases e:k=9
  ·subst e
   have:=h9 rfl;omega
  ·have h56:2 ^ (7 *k)≤2 ^ 56:=Nat.pow_le_pow_right (by decide) (by omega)
   have:x.toNat % 128 *2 ^ (7 *k)≤127 *2 ^ 56:=Nat.mul_le_mul (by omega) h56;omega
 constructor
 ·rw[ty4,gq2 _ (by omega)]
  have e:((x.toNat % 128:Nat):Int)*2 ^ (7 *k)=((x.toNat % 128 *2 ^ (7 *k):Nat):Int):=by push_cast;rfl
  rw[e,gq2 _ hm,ay5 _ _ _ ha hm (by omega)]
 ·rw[Pn.pow7]
  have:x.toNat % 128 *2 ^ (7 *k)≤127 *2 ^ (7 *k):=Nat.mul_le_mul_right _ (by omega);omega
theorem take_any (A:Option Addr) (N c:Nat) (l:List UInt8) (w:World) (hN:N≤1073741824) (hr:Row w.heap.size w A N 1 (bts l)):
  Calls Tryz.prog 154 #[.slice A N c] w fun e w'=>e=.returned (.tuple #[.int .u64 ((Pn.take l).1:Int),.int .i64 ((Pn.take l).2.1:Int),.int .i64 ((Pn.take l).2.2:Int)])∧w=w':=by
 have hln:=hr.yz;go_enter Tryz.func154,Tryz.ntmps154;go_wp2
 go_loop [2,9] (fun x i=>∃(k acc:Nat),k≤N∧k≤9∧acc < 2 ^ (7 *k)∧x=.int .u64 (acc:Int)∧i=.int .i64 (k:Int)∧Hid (Pn.take l=Pn.takeF k acc (l.drop k))) (fun _ i=>N - (intOf i).toNat)
 case atStart=>exact⟨0,0,Nat.zero_le _,Nat.zero_le _,by decide,rfl,rfl,Lib.hid (by rfl)⟩
 case round=>
  obtain⟨k,acc,hk,hk9,hacc,rfl,rfl,hh⟩:=hrel
  by_cases hlt:k < N
  ·obtain⟨a,hl,rfl,_,hc⟩:=hr.bt hlt
   have hstep:Pn.take l=Pn.takeF k acc (l[k]::l.drop (k+1)):=by
    have h:Pn.take l=Pn.takeF k acc (l.drop k):=hh;rw[h,List.drop_eq_getElem_cons hl]
   generalize l[k]=x at *;have HS:=Lib.hid hstep;have HA:=Lib.hid hacc;clear hh hstep hacc;have hx:x.toNat < 256:=x.toNat_lt
   by_cases b1:(k=9∧1 < x.toNat)∨(0 < k∧x.toNat=0)
   ·have hr3:Pn.take l=(0,0,3):=by
     have h:Pn.take l=Pn.takeF k acc (x::l.drop (k+1)):=HS;rw[h,Pn.takeF,if_pos b1]
    have HR:=Lib.hid hr3;clear hr3;have fin:Ending.returned (Value.tuple #[Value.int IntKind.u64 0,Value.int IntKind.i64 0,Value.int IntKind.i64 3])=.returned (.tuple #[.int .u64 ((Pn.take l).1:Int),.int .i64 ((Pn.take l).2.1:Int),.int .i64 ((Pn.take l).2.2:Int)]):=by
     have h:Pn.take l=(0,0,3):=HR;rw[h];rfl
    have FIN:=Lib.hid fin;clear fin
    rcases b1 with ⟨b1,b2⟩|⟨b1,b2⟩
    ·subst b1
     have hc9:w.cell? { block:=a.block,off:=a.off+9 }=some (.int .u8 (x.toNat:Int)):=by simpa [Addr.add] using hc
     have c2:((1:Int) < (x.toNat:Int)):=by omega
     go_wp2;exact bodyPost_ret (v:=.tuple #[.int .u64 0,.int .i64 0,.int .i64 3]) (by simp[results,go_sem]) rfl ⟨FIN,rfl⟩
    ·by_cases b3:k=9
     ·subst b3
      have hc9:w.cell? { block:=a.block,off:=a.off+9 }=some (.int .u8 (x.toNat:Int)):=by simpa [Addr.add] using hc
      have c2:((1:Int) < (x.toNat:Int))=False:=by simp;omega
      have c4:((x.toNat:Int)==0)=true:=by simp;omega
      go_wp2;exact bodyPost_ret (v:=.tuple #[.int .u64 0,.int .i64 0,.int .i64 3]) (by simp[results,go_sem]) rfl ⟨FIN,rfl⟩
     ·have c1:((k:Int)==9)=false:=by simp;omega
      have c3:((0:Int) < (k:Int)):=by omega
      have c4:((x.toNat:Int)==0)=true:=by simp;omega
      go_wp2;exact bodyPost_ret (v:=.tuple #[.int .u64 0,.int .i64 0,.int .i64 3]) (by simp[results,go_sem]) rfl ⟨FIN,rfl⟩
   ·obtain⟨hm1,hm2⟩:=cq5 acc x k hk9 (fun e=>by omega) HA
    generalize hR:acc+x.toNat % 128 *2 ^ (7 *k)=R at hm1 hm2;have HM2:=Lib.hid hm2;have HR:=Lib.hid hR;clear hm2 hR
    by_cases b3:x.toNat < 128
    ·have c5:((x.toNat:Int) < 128):=by omega
     have hr3:Pn.take l=(R,k+1,0):=by
      have hR:acc+x.toNat % 128 *2 ^ (7 *k)=R:=HR;have h:Pn.take l=Pn.takeF k acc (x::l.drop (k+1)):=HS;rw[h,Pn.takeF,if_neg b1,if_pos b3,←hR,Nat.mod_eq_of_lt b3]
     have fin:Ending.returned (Value.tuple #[Value.int IntKind.u64 ((R:Nat):Int),Value.int IntKind.i64 ((k:Int)+1),Value.int IntKind.i64 0])=.returned (.tuple #[.int .u64 ((Pn.take l).1:Int),.int .i64 ((Pn.take l).2.1:Int),.int .i64 ((Pn.take l).2.2:Int)]):=by
      rw[hr3];rfl
     have FIN:=Lib.hid fin;clear fin hr3
     by_cases d1:k=9
     ·subst d1
      have hc9:w.cell? { block:=a.block,off:=a.off+9 }=some (.int .u8 (x.toNat:Int)):=by simpa [Addr.add] using hc
      have hm9:bits .or .u64 (acc:Int) (IntKind.u64.wrap (IntKind.u64.wrap (bits .and .u8 (x.toNat:Int) 127)*9223372036854775808))=(R:Int):=hm1;have c2:((1:Int) < (x.toNat:Int))=False:=by simp;omega
      have c4:((x.toNat:Int)==0)=false:=by simp;omega
      go_wp2;refine bodyPost_ret (v:=.tuple #[.int .u64 ((R:Nat):Int),.int .i64 10,.int .i64 0]) (by simp[results,go_sem]) rfl ⟨FIN,rfl⟩
     ·have c1:((k:Int)==9)=false:=by simp;omega
      by_cases d2:0 < k
      ·have c3:((0:Int) < (k:Int)):=by omega
       have c4:((x.toNat:Int)==0)=false:=by simp;omega
       go_wp2;refine bodyPost_ret (v:=.tuple #[.int .u64 ((R:Nat):Int),.int .i64 ((k:Int)+1),.int .i64 0]) (by simp[results,go_sem]) rfl ⟨FIN,rfl⟩
      ·have c3:((0:Int) < (k:Int))=False:=by simp;omega
       go_wp2;refine bodyPost_ret (v:=.tuple #[.int .u64 ((R:Nat):Int),.int .i64 ((k:Int)+1),.int .i64 0]) (by simp[results,go_sem]) rfl ⟨FIN,rfl⟩
    ·have c5:((x.toNat:Int) < 128)=False:=by simp;omega
     have c4:((x.toNat:Int)==0)=false:=by simp;omega
     have d1:k≠9:=by omega
     have c1:((k:Int)==9)=false:=by simp;omega
     have hnx:Pn.take l=Pn.takeF (k+1) R (l.drop (k+1)):=by
      have hR:acc+x.toNat % 128 *2 ^ (7 *k)=R:=HR;have h:Pn.take l=Pn.takeF k acc (x::l.drop (k+1)):=HS;rw[h,Pn.takeF,if_neg b1,if_neg b3,←hR,show x.toNat % 128=x.toNat - 128 from by omega]
     have HN:=Lib.hid hnx;clear hnx
     by_cases d2:0 < k
     ·have c3:((0:Int) < (k:Int)):=by omega
      go_wp2
      go_round
      case rel=>exact⟨k+1,R,by omega,by omega,HM2,rfl,by go_num,HN⟩
      case measure=>simp[intOf];omega
     ·have c3:((0:Int) < (k:Int))=False:=by simp;omega
      go_wp2
      go_round
      case rel=>exact⟨k+1,R,by omega,by omega,HM2,rfl,by go_num,HN⟩
      case measure=>simp[intOf];omega
  ·have hr3:Pn.take l=(0,0,4):=by
    have h:Pn.take l=Pn.takeF k acc (l.drop k):=hh;rw[h,List.drop_eq_nil_of_le (by omega)];rfl
   have fin:Ending.returned (Value.tuple #[Value.int IntKind.u64 0,Value.int IntKind.i64 0,Value.int IntKind.i64 4])=.returned (.tuple #[.int .u64 ((Pn.take l).1:Int),.int .i64 ((Pn.take l).2.1:Int),.int .i64 ((Pn.take l).2.2:Int)]):=by
    rw[hr3];rfl
   have FIN:=Lib.hid fin;clear fin hr3;go_wp2;exact bodyPost_ret (v:=.tuple #[.int .u64 0,.int .i64 0,.int .i64 4]) (by simp[results,go_sem]) rfl ⟨FIN,rfl⟩
end
section
open Go.RowKit
def u64v (ns:List Nat):List Value:=ns.map fun n:Nat=>.int .u64 (n:Int)
theorem ix3 (ns:List Nat) (k:Nat):(u64v ns)[k]?=(ns[k]?).map fun n:Nat=>.int .u64 (n:Int):=by simp[u64v]
theorem Row.un {B n:Nat} {w:World} {A:Option Addr} {ns:List Nat} (h:Row B w A n 1 (u64v ns)) {k:Nat} (hk:k < n):∃a,∃hl:k < ns.length,A=some a∧a.block < B∧w.cell? (a.add k)=some (.int .u64 ((ns[k]:Nat):Int)):=by
 obtain⟨a,v,e,hb,hv,hc⟩:=h.at1 hk;have hl:k < ns.length:=by
  have:=h.len;simp[u64v]at this;omega
 rw[ix3,List.getElem?_eq_getElem hl]at hv;injection hv with hv;subst hv;exact⟨a,hl,e,hb,hc⟩
theorem Row.yx4 {B n:Nat} {w:World} {A:Option Addr} {ns:List Nat} (h:Row B w A n 1 (u64v ns)):ns.length=n:=by
 have:=h.len;simp[u64v]at this;omega
theorem sv1 (ns:List Nat):(ns.flatMap Pn.put).length≤ns.length *10:=by
 induction ns with
 |nil=>simp
 |cons n r ih=>
  have:=(Pn.jv n).2;simp only[List.flatMap_cons,List.length_append,List.length_cons];omega
theorem oy4 (A:Option Addr) (N c:Nat) (l:List UInt8) (L:Option Addr) (m d:Nat) (ns:List Nat) (w:World) (hN:N≤1000000) (hm:m≤1000) (hr:Row w.heap.size w A N 1 (bts l)) (hq:Row w.heap.size w L m 1 (u64v ns)) (hns:∀n∈ns,n < 18446744073709551616):
  Calls Tryz.prog 306 #[.slice A N c,.slice L m d] w fun e w'=>∃A' M c',e=.returned (.slice A' M c')∧
   w'.ownsRow w.heap.size 5 1 (.slice A' M c') M (bts (l++Pn.list ns))∧M≤c'∧c'≤maxLen∧Below w.heap.size w w':=by
 have hln:=hr.yz;have hmn:=hq.yx4;have hcv:∀w,(convert 3 22 (.int .i64 (m:Int))).run Tryz.prog w=.ok (.int .u64 (m:Int)) w:=by
  intro w;have:(m:Int) % 18446744073709551616=(m:Int):=by omega
  simp[go_sem,convert,IntKind.wrap_u64,this]
 go_enter Tryz.func306,Tryz.ntmps306;go_wp2_with fail;refine(put_any A N c l m (by omega) w (by omega) hr).mono ?_;rintro e w1 ⟨A1,c1,rfl,ho1,hc1,hm1,hb1⟩;obtain⟨M1,hM1⟩:∃M1,M1=N+(Pn.put m).length:=⟨_,rfl⟩;have hM1b:M1≤N+10:=by have:=(Pn.jv m).2;omega
 rw[←hM1]at ho1 hc1 ⊢;have HM:=Lib.hid hM1;clear hM1;go_wp2
 go_loopw [5,15] (fun o i wr=>∃(k:Nat) (A':Option Addr) (M c':Nat),k≤m∧o=.slice A' M c'∧i=.int .i64 (k:Int)∧wr.ownsRow w.heap.size 5 1 (.slice A' M c') M (bts (l++(Pn.put m++(ns.take k).flatMap Pn.put)))∧M≤c'∧c'≤maxLen∧Below w.heap.size w wr) (fun _ i _=>m - (intOf i).toNat)
 case atStart=>exact⟨0,A1,M1,c1,Nat.zero_le _,rfl,rfl,by simpa using ho1,hc1,hm1,hb1⟩
 case round=>
  obtain⟨k,A',M,c',hk,rfl,rfl,hown,hc',hm',hb⟩:=hrel;have hML:M=N+((Pn.put m).length+((ns.take k).flatMap Pn.put).length):=by
   have h1:=hown.1;rw[vk]at h1;simp only[List.length_append]at h1;omega
  have hMB:M≤N+10+10000:=by
   have h1:=sv1 (ns.take k);have h2:=(Pn.jv m).2;have h3:=List.length_take_le k ns;omega
  have HML:=Lib.hid hML;clear hML
  by_cases hlt:k < m
  ·obtain⟨a,hl,rfl,hab,hc⟩:=(hq.below hb).un hlt
   have htk:ns.take (k+1)=ns.take k++[ns[k]]:=(List.take_append_getElem hl).symm;have hnk:=hns ns[k] (List.getElem_mem hl);generalize ns[k]=x at *;have HT:=Lib.hid htk;clear htk;go_wp2_with fail;refine(put_any A' M c' (l++(Pn.put m++(ns.take k).flatMap Pn.put)) x hnk wr (by omega) (Row.own hown)).mono ?_;rintro e w2 ⟨A2,c2,rfl,ho2,hc2,hm2,hb2⟩;go_wp2;go_roundw
   case rel=>
    refine⟨k+1,A2,M+(Pn.put x).length,c2,by omega,rfl,by go_num,?_,hc2,hm2,az hb hb2⟩;have ht:ns.take (k+1)=ns.take k++[x]:=HT;rw[ht];have:=own_base ho2 hb.size;simpa [List.append_assoc] using this
   case measure=>simp[intOf];omega
  ·have hkm:k=m:=by omega
   have hfin:l++(Pn.put m++(ns.take k).flatMap Pn.put)=l++Pn.list ns:=by
    rw[hkm,List.take_of_length_le (by omega),Pn.list,hmn]
   rw[hfin]at hown;go_wp2;go_ret;exact⟨A',M,c',rfl,hown,hc',hm',hb⟩
end
end Go.Proofs.YthjdpplgfdihoaaGreatDoor

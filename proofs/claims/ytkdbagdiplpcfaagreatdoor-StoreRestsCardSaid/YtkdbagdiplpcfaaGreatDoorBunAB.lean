/- Some of the texts. No conditions. -/
import Derived.Shelf.Spec.SlicesGrow
import Derived.Shelf.SlIter.Nil
import Derived.Shelf.SlMaps.Clone
import Derived.Shelf.Small.Wraps
import Derived.Shelf.Strconv.Itoa3
import Derived.Shelf.Strconv.ErrVarAll
import Derived.Shelf.SortM.Plain
import Derived.Shelf.SortM.SortNone
import Derived.Test.YtkdbagdiplpcfaaGreatDoorProg

set_option linter.unusedSimpArgs false
set_option linter.unusedVariables false
set_option maxRecDepth 100000
set_option maxHeartbeats 16000000
namespace Go.Proofs.YtkdbagdiplpcfaaGreatDoor
end Go.Proofs.YtkdbagdiplpcfaaGreatDoor
namespace Go.Proofs
open Go.Shelf
theorem x_ {P:Go.Program} {k j:Nat} {f B:Go.Func} (h:P.funcs[j]?=some f) (hj:k=j:=by decide) (hn:(f.name== "runtime.NumGoroutine")=false:=by decide) (hb:f={ B with name:=f.name }:=by kernel_rfl):Bears P k B:=by subst hj;exact⟨f.name,hn,h.trans (congrArg some hb)⟩
def Tryz.lays103_ren:Ren:=⟨fun|103=>223|210=>264|206=>297|n=>n,fun|9=>9|4=>4|24=>283|3=>3|n=>n,fun|n=>n⟩
theorem Tryz.lays103:Go.Proofs.Lays.n103 Tryz.prog Tryz.lays103_ren:=by repeat' first|kernel_rfl|intro _|constructor
def Tryz.laysM171_ren:Ren:=⟨fun|171=>120|243=>181|246=>239|283=>274|284=>275|285=>276|286=>277|129=>296|317=>306|318=>307|319=>308|320=>309|337=>329|338=>330|n=>n,fun|3=>3|9=>9|2=>2|4=>4|171=>343|0=>0|53=>27|37=>150|5=>5|173=>346|212=>373|51=>71|20=>20|213=>374|46=>236|232=>404|233=>405|n=>n,fun|17=>1|18=>4|19=>5|n=>n⟩
theorem Tryz.laysM171:Go.Proofs.LaysM.n171 Tryz.prog Tryz.laysM171_ren:=by repeat' first|kernel_rfl|intro _|constructor
def Tryz.laysC172_ren:Ren:=⟨fun|172=>224|244=>265|245=>266|247=>298|279=>299|280=>300|281=>301|282=>302|287=>325|316=>326|171=>120|205=>327|321=>339|322=>340|243=>181|246=>239|283=>274|284=>275|285=>276|286=>277|129=>296|317=>306|318=>307|319=>308|320=>309|337=>329|338=>330|n=>n,fun|9=>9|3=>3|75=>286|76=>287|4=>4|5=>5|167=>362|37=>150|0=>0|85=>363|2=>2|168=>365|53=>27|175=>387|46=>236|210=>391|127=>400|145=>403|143=>401|21=>21|171=>343|173=>346|212=>373|51=>71|20=>20|213=>374|232=>404|233=>405|80=>272|n=>n,fun|15=>2|16=>3|17=>1|18=>4|19=>5|n=>n⟩
theorem Tryz.laysC172:Go.Proofs.LaysC.n172 Tryz.prog Tryz.laysC172_ren:=by repeat' first|kernel_rfl|intro _|constructor
def Tryz.keys169_ren:Ren:=⟨fun|7=>169|10=>222|n=>n,fun|23=>110|26=>9|3=>3|28=>229|0=>0|27=>228|33=>179|4=>4|n=>n,fun|n=>n⟩
theorem Tryz.keys169:Go.Proofs.SlLaysZ.n7 Tryz.prog Tryz.keys169_ren:=by repeat' first|kernel_rfl|exact x_ Tryz.func169|exact x_ Tryz.func222|intro _|constructor
def Tryz.sorted168_ren:Ren:=⟨fun|6=>168|8=>220|9=>221|11=>261|13=>263|12=>262|23=>295|24=>296|14=>286|15=>287|16=>288|17=>289|18=>290|19=>291|20=>292|21=>293|22=>294|25=>319|26=>320|27=>321|28=>322|29=>323|30=>324|31=>338|n=>n,fun|26=>9|28=>229|24=>175|0=>0|3=>3|37=>236|48=>71|50=>27|4=>4|40=>355|39=>354|45=>233|5=>5|9=>9|51=>381|55=>385|57=>396|58=>397|33=>179|n=>n,fun|n=>n⟩
theorem Tryz.sorted168:Go.Proofs.SlLaysZ.n6 Tryz.prog Tryz.sorted168_ren:=by repeat' first|kernel_rfl|exact x_ Tryz.func168|exact x_ Tryz.func220|exact x_ Tryz.func261|intro _|constructor
def Tryz.sort221_ren:Ren:=⟨fun|6=>221|8=>263|9=>262|19=>295|20=>296|21=>286|22=>287|23=>288|24=>289|25=>290|26=>291|27=>292|28=>293|29=>294|36=>319|31=>320|32=>321|37=>322|38=>323|39=>324|41=>338|n=>n,fun|27=>175|29=>9|3=>3|32=>236|26=>175|0=>0|44=>71|46=>27|4=>4|36=>355|35=>354|41=>233|5=>5|9=>9|53=>381|57=>385|63=>396|64=>397|n=>n,fun|n=>n⟩
theorem Tryz.sort221:Go.Proofs.SlLaysM.n6 Tryz.prog Tryz.sort221_ren:=by repeat' first|kernel_rfl|exact x_ Tryz.func221|exact x_ Tryz.func262|exact x_ Tryz.func286|exact x_ Tryz.func287|exact x_ Tryz.func288|exact x_ Tryz.func289|exact x_ Tryz.func290|exact x_ Tryz.func291|exact x_ Tryz.func292|exact x_ Tryz.func293|exact x_ Tryz.func294|exact x_ Tryz.func319|exact x_ Tryz.func322|exact x_ Tryz.func323|exact x_ Tryz.func324|exact x_ Tryz.func338|intro _|constructor
def Tryz.clone212_ren:Ren:=⟨fun|5=>212|7=>255|n=>n,fun|23=>110|25=>9|3=>3|4=>4|20=>20|n=>n,fun|n=>n⟩
theorem Tryz.clone212:Go.Proofs.SlLaysW.n5 Tryz.prog Tryz.clone212_ren:=by repeat' first|kernel_rfl|exact x_ Tryz.func212|intro _|constructor
def Tryz.grow121_ren:Ren:=⟨fun|4=>280|n=>n,fun|22=>150|25=>5|3=>3|4=>4|9=>9|20=>20|0=>0|n=>n,fun|n=>n⟩
theorem Tryz.grow121:Go.Proofs.Lays8.n4 Tryz.prog Tryz.grow121_ren:=by repeat' first|kernel_rfl|exact x_ Tryz.func280|intro _|constructor
end Go.Proofs
namespace Go.Proofs.YtkdbagdiplpcfaaGreatDoor
end Go.Proofs.YtkdbagdiplpcfaaGreatDoor

/- Some of the texts. No conditions. -/
import Derived.Shelf.Spec.SlicesGrow
import Derived.Shelf.SlIter.Nil
import Derived.Shelf.SlMaps.Clone
import Derived.Shelf.Small.Wraps
import Derived.Shelf.Strconv.Itoa3
import Derived.Shelf.Strconv.ErrVarAll
import Derived.Shelf.SortM.Plain
import Derived.Shelf.SortM.SortNone
import Derived.Test.YtfbkjjdfboagfaaGreatDoorProg

set_option linter.unusedSimpArgs false
set_option linter.unusedVariables false
set_option maxRecDepth 100000
set_option maxHeartbeats 16000000
namespace Go.Proofs.YtfbkjjdfboagfaaGreatDoor
end Go.Proofs.YtfbkjjdfboagfaaGreatDoor
namespace Go.Proofs
open Go.Shelf
theorem x_ {P:Go.Program} {k j:Nat} {f B:Go.Func} (h:P.funcs[j]?=some f) (hj:k=j:=by decide) (hn:(f.name== "runtime.NumGoroutine")=false:=by decide) (hb:f={ B with name:=f.name }:=by kernel_rfl):Bears P k B:=by subst hj;exact⟨f.name,hn,h.trans (congrArg some hb)⟩
def Tryz.lays103_ren:Ren:=⟨fun|103=>195|210=>241|206=>277|n=>n, fun|9=>9|4=>4|24=>267|3=>3|n=>n, fun|n=>n⟩
theorem Tryz.lays103:Go.Proofs.Lays.n103 Tryz.prog Tryz.lays103_ren:=by repeat' first|kernel_rfl|intro _|constructor
def Tryz.laysM171_ren:Ren:=⟨fun|171=>92|243=>157|246=>211|283=>251|284=>252|285=>253|286=>254|129=>276|317=>286|318=>287|319=>288|320=>289|337=>306|338=>307|n=>n, fun|3=>3|9=>9|2=>2|4=>4|171=>324|0=>0|53=>22|37=>77|5=>5|173=>327|212=>359|51=>93|20=>20|213=>360|46=>210|232=>391|233=>392|n=>n, fun|17=>0|18=>3|19=>4|n=>n⟩
theorem Tryz.laysM171:Go.Proofs.LaysM.n171 Tryz.prog Tryz.laysM171_ren:=by repeat' first|kernel_rfl|intro _|constructor
def Tryz.laysC172_ren:Ren:=⟨fun|172=>196|244=>242|245=>243|247=>278|279=>279|280=>280|281=>281|282=>282|287=>302|316=>303|171=>92|205=>304|321=>317|322=>318|243=>157|246=>211|283=>251|284=>252|285=>253|286=>254|129=>276|317=>286|318=>287|319=>288|320=>289|337=>306|338=>307|n=>n, fun|9=>9|3=>3|75=>270|76=>271|4=>4|5=>5|167=>349|37=>77|0=>0|85=>350|2=>2|168=>352|53=>22|175=>370|46=>210|210=>374|127=>387|145=>390|143=>388|21=>21|171=>324|173=>327|212=>359|51=>93|20=>20|213=>360|232=>391|233=>392|80=>258|n=>n, fun|15=>1|16=>2|17=>0|18=>3|19=>4|n=>n⟩
theorem Tryz.laysC172:Go.Proofs.LaysC.n172 Tryz.prog Tryz.laysC172_ren:=by repeat' first|kernel_rfl|intro _|constructor
def Tryz.keys141_ren:Ren:=⟨fun|7=>141|10=>194|n=>n, fun|23=>45|26=>9|3=>3|28=>204|0=>0|27=>203|33=>147|4=>4|n=>n, fun|n=>n⟩
theorem Tryz.keys141:Go.Proofs.SlLaysZ.n7 Tryz.prog Tryz.keys141_ren:=by repeat' first|kernel_rfl|exact x_ Tryz.func141|exact x_ Tryz.func194|intro _|constructor
def Tryz.sorted140_ren:Ren:=⟨fun|6=>140|8=>192|9=>193|11=>238|13=>240|12=>239|23=>275|24=>276|14=>266|15=>267|16=>268|17=>269|18=>270|19=>271|20=>272|21=>273|22=>274|25=>296|26=>297|27=>298|28=>299|29=>300|30=>301|31=>316|n=>n, fun|26=>9|28=>204|24=>143|0=>0|3=>3|37=>210|48=>93|50=>22|4=>4|40=>342|39=>341|45=>140|5=>5|9=>9|51=>365|55=>368|57=>383|58=>384|33=>147|n=>n, fun|n=>n⟩
theorem Tryz.sorted140:Go.Proofs.SlLaysZ.n6 Tryz.prog Tryz.sorted140_ren:=by repeat' first|kernel_rfl|exact x_ Tryz.func140|exact x_ Tryz.func192|exact x_ Tryz.func238|intro _|constructor
def Tryz.sort193_ren:Ren:=⟨fun|6=>193|8=>240|9=>239|19=>275|20=>276|21=>266|22=>267|23=>268|24=>269|25=>270|26=>271|27=>272|28=>273|29=>274|36=>296|31=>297|32=>298|37=>299|38=>300|39=>301|41=>316|n=>n, fun|27=>143|29=>9|3=>3|32=>210|26=>143|0=>0|44=>93|46=>22|4=>4|36=>342|35=>341|41=>140|5=>5|9=>9|53=>365|57=>368|63=>383|64=>384|n=>n, fun|n=>n⟩
theorem Tryz.sort193:Go.Proofs.SlLaysM.n6 Tryz.prog Tryz.sort193_ren:=by repeat' first|kernel_rfl|exact x_ Tryz.func193|exact x_ Tryz.func239|exact x_ Tryz.func266|exact x_ Tryz.func267|exact x_ Tryz.func268|exact x_ Tryz.func269|exact x_ Tryz.func270|exact x_ Tryz.func271|exact x_ Tryz.func272|exact x_ Tryz.func273|exact x_ Tryz.func274|exact x_ Tryz.func296|exact x_ Tryz.func299|exact x_ Tryz.func300|exact x_ Tryz.func301|exact x_ Tryz.func316|intro _|constructor
def Tryz.clone32_ren:Ren:=⟨fun|5=>32|7=>75|n=>n, fun|23=>45|25=>9|3=>3|4=>4|20=>20|n=>n, fun|n=>n⟩
theorem Tryz.clone32:Go.Proofs.SlLaysW.n5 Tryz.prog Tryz.clone32_ren:=by repeat' first|kernel_rfl|exact x_ Tryz.func32|intro _|constructor
def Tryz.grow121_ren:Ren:=⟨fun|4=>261|n=>n, fun|22=>77|25=>5|3=>3|4=>4|9=>9|20=>20|0=>0|n=>n, fun|n=>n⟩
theorem Tryz.grow121:Go.Proofs.Lays8.n4 Tryz.prog Tryz.grow121_ren:=by repeat' first|kernel_rfl|exact x_ Tryz.func261|intro _|constructor
end Go.Proofs
namespace Go.Proofs.YtfbkjjdfboagfaaGreatDoor
end Go.Proofs.YtfbkjjdfboagfaaGreatDoor

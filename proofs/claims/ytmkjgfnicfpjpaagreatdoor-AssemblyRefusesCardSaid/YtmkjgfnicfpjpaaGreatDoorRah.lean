/- Lemmas for AssemblyRefuses; no condition. -/
import Derived.Shelf.Strings.OnBuilder
import Derived.Shelf.Strings.Trim
import Derived.Shelf.Strings.SlTrimAscii
import Derived.Shelf.Strings.Prefix
import Derived.Shelf.Strings.Repeat
import Derived.Shelf.Strings.FuncGrows
import Derived.Shelf.Small.Bits
import Derived.Shelf.Small.Wraps
import Derived.Shelf.LaysM
import Derived.Shelf.Strconv.Itoa3
import Derived.Shelf.Pu.ParseUintPublic10
import Derived.Shelf.GgClosure.StringsIndexFuncTop
import Derived.Room.Shelf.Join48
import Derived.Test.YtmkjgfnicfpjpaaGreatDoorProg
set_option linter.all false
set_option maxHeartbeats 100000000
set_option maxRecDepth 100000
noncomputable section
namespace Go.Proofs
open Go.Shelf
def Tryz.AG:Go.Shelf.Ren:=⟨fun|156=>116|165=>145|166=>146|169=>148|240=>196|241=>197|276=>238|277=>239|n=>n,fun|31=>183|9=>9|3=>3|4=>4|0=>0|20=>20|72=>231|76=>235|70=>228|37=>229|75=>234|127=>294|164=>333|5=>5|80=>144|n=>n,fun|n=>n⟩
def Tryz.adR:Go.Proofs.Lays.n156 Tryz.prog Tryz.AG:=by constructor<;>first|kernel_rfl|(intro _;kernel_rfl)|decide|(constructor<;>first|kernel_rfl|(intro _;kernel_rfl)|decide)
def Tryz.xx:Builder.Extra Tryz.prog Tryz.AG:=by constructor<;>first|kernel_rfl|(intro _;kernel_rfl)|decide|(constructor<;>first|kernel_rfl|(intro _;kernel_rfl)|decide)
def Tryz.Km:Go.Shelf.Ren:=⟨fun|160=>178|232=>219|231=>218|227=>220|234=>222|233=>221|236=>224|235=>223|228=>262|271=>265|151=>264|197=>263|120=>297|152=>296|260=>295|137=>314|119=>315|224=>293|225=>292|217=>291|266=>312|n=>n,fun|9=>9|4=>4|3=>3|5=>5|117=>315|116=>314|0=>0|124=>318|21=>21|105=>355|46=>179|119=>393|139=>396|138=>395|n=>n,fun|3=>3|4=>4|n=>n⟩
def Tryz.adS:Go.Proofs.Lays.n160 Tryz.prog Tryz.Km:=by constructor<;>first|kernel_rfl|(intro _;kernel_rfl)|decide|(constructor<;>first|kernel_rfl|(intro _;kernel_rfl)|decide)
def Tryz.Kl:Go.Shelf.Ren:=⟨fun|133=>188|128=>232|n=>n,fun|51=>177|3=>3|4=>4|46=>179|5=>5|9=>9|n=>n,fun|n=>n⟩
def Tryz.adQ:Go.Proofs.Lays.n133 Tryz.prog Tryz.Kl:=by constructor<;>first|kernel_rfl|(intro _;kernel_rfl)|decide|(constructor<;>first|kernel_rfl|(intro _;kernel_rfl)|decide)
def Tryz.Kk:Go.Shelf.Ren:=⟨fun|103=>225|210=>266|206=>195|n=>n,fun|9=>9|4=>4|24=>319|3=>3|n=>n,fun|n=>n⟩
def Tryz.adO:Go.Proofs.Lays.n103 Tryz.prog Tryz.Kk:=by constructor<;>first|kernel_rfl|(intro _;kernel_rfl)|decide|(constructor<;>first|kernel_rfl|(intro _;kernel_rfl)|decide)
def Tryz.Hk:Go.Shelf.Ren:=⟨fun|171=>113|243=>142|246=>192|283=>234|284=>235|285=>236|286=>237|129=>250|317=>278|318=>279|319=>280|320=>281|337=>308|338=>208|n=>n,fun|3=>3|9=>9|2=>2|4=>4|171=>329|0=>0|53=>178|37=>229|5=>5|173=>331|212=>367|51=>177|20=>20|213=>368|46=>179|232=>402|233=>338|n=>n,fun|17=>1|18=>7|19=>0|n=>n⟩
def Tryz.YR:Go.Proofs.LaysM.n171 Tryz.prog Tryz.Hk:=by constructor<;>first|kernel_rfl|(intro _;kernel_rfl)|decide|(constructor<;>first|kernel_rfl|(intro _;kernel_rfl)|decide)
def Tryz.Hl:Go.Shelf.Ren:=⟨fun|14=>228|16=>268|17=>269|19=>299|20=>300|21=>301|22=>302|23=>303|24=>304|25=>316|27=>113|26=>317|28=>142|29=>192|30=>234|31=>235|32=>236|33=>237|35=>250|34=>278|36=>279|37=>280|38=>281|39=>308|40=>208|n=>n,fun|9=>9|3=>3|22=>178|24=>234|25=>323|4=>4|34=>380|5=>5|36=>179|37=>229|0=>0|39=>382|21=>21|44=>399|47=>294|50=>405|48=>403|2=>2|52=>329|55=>331|59=>367|60=>177|20=>20|61=>368|65=>402|66=>338|67=>144|n=>n,fun|0=>5|1=>6|2=>1|3=>7|4=>0|n=>n⟩
def Tryz.YS:Go.Proofs.LaysPu.n14 Tryz.prog Tryz.Hl:=by constructor<;>first|kernel_rfl|(intro _;kernel_rfl)|decide|(constructor<;>first|kernel_rfl|(intro _;kernel_rfl)|decide)
def Tryz.Hj:Go.Shelf.Ren:=⟨fun|17=>226|15=>267|20=>298|n=>n,fun|9=>9|23=>322|4=>4|3=>3|0=>0|21=>21|n=>n,fun|n=>n⟩
def Tryz.YQ:Go.Proofs.LaysGw.n17 Tryz.prog Tryz.Hj:=by constructor<;>first|kernel_rfl|(intro _;kernel_rfl)|decide|(constructor<;>first|kernel_rfl|(intro _;kernel_rfl)|decide)
def Tryz.Kj:Go.Shelf.Ren:=⟨fun|101=>177|208=>217|206=>195|n=>n,fun|9=>9|4=>4|3=>3|n=>n,fun|n=>n⟩
def Tryz.adN:Go.Proofs.Lays.n101 Tryz.prog Tryz.Kj:=by constructor<;>first|kernel_rfl|(intro _;kernel_rfl)|decide|(constructor<;>first|kernel_rfl|(intro _;kernel_rfl)|decide)
def Tryz.AF:Go.Shelf.Ren:=⟨fun|105=>114|212=>143|99=>144|165=>145|166=>146|170=>147|169=>148|263=>193|264=>194|206=>195|240=>196|241=>197|276=>238|277=>239|n=>n,fun|9=>9|3=>3|4=>4|20=>20|0=>0|46=>179|109=>225|5=>5|72=>231|76=>235|51=>177|146=>290|53=>178|148=>292|70=>228|37=>229|75=>234|127=>294|164=>333|80=>144|n=>n,fun|n=>n⟩
def Tryz.adP:Go.Proofs.Lays.n105 Tryz.prog Tryz.AF:=by constructor<;>first|kernel_rfl|(intro _;kernel_rfl)|decide|(constructor<;>first|kernel_rfl|(intro _;kernel_rfl)|decide)
def Tryz.xw:Builder.Extra Tryz.prog Tryz.AF:=by constructor<;>first|kernel_rfl|(intro _;kernel_rfl)|decide|(constructor<;>first|kernel_rfl|(intro _;kernel_rfl)|decide)
end Go.Proofs

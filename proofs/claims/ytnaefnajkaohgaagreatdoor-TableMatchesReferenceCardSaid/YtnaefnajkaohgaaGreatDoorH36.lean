/- 36 -/
import Derived.Test.YtnaefnajkaohgaaGreatDoorH35
import Derived.Test.YtnaefnajkaohgaaGreatDoorH33
import Derived.Test.YtnaefnajkaohgaaGreatDoorH34
set_option linter.all false
namespace Go.Proofs.YtnaefnajkaohgaaGreatDoor
open Go Go.AL Go.Proofs Go.Shelf
def S0:Go.Shelf.Ren:=⟨fun|189=>160|125=>128|257=>198|128=>175|129=>176|294=>231|295=>232|296=>233|297=>234|298=>235|299=>236|216=>237|300=>238|301=>239|328=>256|329=>220|330=>221|331=>257|332=>258|215=>177|343=>264|n=>n,fun|28=>33|3=>3|46=>210|0=>0|51=>255|53=>257|4=>4|183=>249|182=>248|131=>107|5=>5|9=>9|218=>296|222=>300|228=>320|229=>162|n=>n,fun|n=>n⟩
def agp:Go.Proofs.Lays.n189 Tryz.prog S0:={
 mixed:=by kernel_rfl
 f125:=Tryz.func128.trans (congrArg some (by kernel_rfl))
 f128:=Tryz.func175.trans (congrArg some (by kernel_rfl))
 f129:=Tryz.func176.trans (congrArg some (by kernel_rfl))
 f189:=Tryz.func160.trans (congrArg some (by kernel_rfl))
 f215:=Tryz.func177.trans (congrArg some (by kernel_rfl))
 f216:=Tryz.func237.trans (congrArg some (by kernel_rfl))
 f257:=Tryz.func198.trans (congrArg some (by kernel_rfl))
 f294:=Tryz.func231.trans (congrArg some (by kernel_rfl))
 f295:=Tryz.func232.trans (congrArg some (by kernel_rfl))
 f296:=Tryz.func233.trans (congrArg some (by kernel_rfl))
 f297:=Tryz.func234.trans (congrArg some (by kernel_rfl))
 f298:=Tryz.func235.trans (congrArg some (by kernel_rfl))
 f299:=Tryz.func236.trans (congrArg some (by kernel_rfl))
 f300:=Tryz.func238.trans (congrArg some (by kernel_rfl))
 f301:=Tryz.func239.trans (congrArg some (by kernel_rfl))
 f328:=Tryz.func256.trans (congrArg some (by kernel_rfl))
 f329:=Tryz.func220.trans (congrArg some (by kernel_rfl))
 f330:=Tryz.func221.trans (congrArg some (by kernel_rfl))
 f331:=Tryz.func257.trans (congrArg some (by kernel_rfl))
 f332:=Tryz.func258.trans (congrArg some (by kernel_rfl))
 f343:=Tryz.func264.trans (congrArg some (by kernel_rfl))
 t0:=Tryz.underlying0
 a0:=Tryz.isAgg0
 z0:=Tryz.sizeOf0
 v0:=Tryz.zeroValue0
 t3:=Tryz.underlying3
 a3:=Tryz.isAgg3
 z3:=Tryz.sizeOf3
 v3:=Tryz.zeroValue3
 t4:=Tryz.underlying4
 a4:=Tryz.isAgg4
 z4:=Tryz.sizeOf4
 v4:=Tryz.zeroValue4
 t5:=Tryz.underlying5
 a5:=Tryz.isAgg5
 z5:=Tryz.sizeOf5
 v5:=Tryz.zeroValue5
 t9:=Tryz.underlying9
 a9:=Tryz.isAgg9
 z9:=Tryz.sizeOf9
 v9:=Tryz.zeroValue9
 t28:=Tryz.underlying33
 a28:=Tryz.isAgg33
 z28:=Tryz.sizeOf33
 v28:=Tryz.zeroValue33
 t46:=Tryz.underlying210
 a46:=Tryz.isAgg210
 z46:=Tryz.sizeOf210
 v46:=Tryz.zeroValue210
 t51:=Tryz.underlying255
 a51:=Tryz.isAgg255
 z51:=Tryz.sizeOf255
 v51:=Tryz.zeroValue255
 t53:=Tryz.underlying257
 a53:=Tryz.isAgg257
 z53:=Tryz.sizeOf257
 v53:=Tryz.zeroValue257
 t131:=Tryz.underlying107
 a131:=Tryz.isAgg107
 z131:=Tryz.sizeOf107
 v131:=Tryz.zeroValue107
 t182:=Tryz.underlying248
 a182:=Tryz.isAgg248
 z182:=Tryz.sizeOf248
 v182:=Tryz.zeroValue248
 t183:=Tryz.underlying249
 a183:=Tryz.isAgg249
 z183:=Tryz.sizeOf249
 v183:=Tryz.zeroValue249
 t218:=Tryz.underlying296
 a218:=Tryz.isAgg296
 z218:=Tryz.sizeOf296
 v218:=Tryz.zeroValue296
 t222:=Tryz.underlying300
 a222:=Tryz.isAgg300
 z222:=Tryz.sizeOf300
 v222:=Tryz.zeroValue300
 t228:=Tryz.underlying320
 a228:=Tryz.isAgg320
 z228:=Tryz.sizeOf320
 v228:=Tryz.zeroValue320
 t229:=Tryz.underlying162
 a229:=Tryz.isAgg162
 z229:=Tryz.sizeOf162
 v229:=Tryz.zeroValue162 }
def agr(f:FuncId)(h:Nat.beq f 160=true):wY Tryz.prog f:=by
 obtain rfl:=cS h
 exact wY.of (ρ:=S0) agp
end Go.Proofs.YtnaefnajkaohgaaGreatDoor
namespace Go.Proofs.YtnaefnajkaohgaaGreatDoor
open Go Go.AL
set_option maxRecDepth 10000 in
theorem Wa:uc Tryz.prog (gl Tryz.prog) 0 fns:=(.no (.no (.no (.has ok3 (.no (.no (.no (.no (.no (.no (.no (.has aa2 (.has abf (.has abq (.has abC (.has abN (.has abY (.has ab7 (.has acd (.has acp (.has acB (.has acM (.has acP (.has acW (.has ac0 (.has ac7 (.has adh (.has ado (.has adp (.no (.no (.has adu (.has adv (.has adw (.has adx (.has ady (.has adz (.has adA (.has adB (.has adC (.has adD (.has adE (.has adF (.has adG (.has adH (.has adI (.has adJ (.has adK (.has adL (.has adM (.has adN (.has adO (.has adP (.no (.has adQ (.no (.no (.has adR (.has adS (.has adT (.has adU (.has adV (.has adW (.has adX (.has adY (.has adZ (.has ad0 (.has ad1 (.has ad2 (.has ad3 (.has ad4 (.has ad5 (.has ad6 (.has ad7 (.has ad8 (.has ad9 (.has aea (.has aeb (.has aec (.has aed (.has aee (.has aef (.has aeg (.has aeh (.has aei (.has aej (.has aek (.has ael (.has aem (.has aen (.has aeo (.has aep (.has aeq (.has aer (.has aes (.has aet (.has aeu (.has aev (.has aew (.has aex (.has aaU (.has aaV (.no (.no (.has aaW (.has aaX (.has aaY (.has aaZ (.has aa0 (.has aa1 (.has aa3 (.has aa4 (.has aa5 (.has aa6 (.has aa7 (.has aa8 (.has aa9 (.has abb (.has abd (.has abe (.has abg (.has abh (.has abi (.has abj (.has abk (.has abl (.has abm (.has abn (.has abo (.has abp (.has abr (.has abt (.has abu (.has abv (.has abw (.has abx (.has aby (.has abz (.has abA (.has abB (.has abD (.has abE (.has abF (.has abG (.has abH (.has abI (.has abJ (.has abK (.has abL (.has abM (.has abO (.has abP (.has abQ (.has abR (.has abS (.has abT (.has abU (.has abV (.has abW (.has abX (.has abZ (.has ab0 (.has ab1 (.has ab2 (.has ab3 (.has ab4 (.has ab5 (.has ab6 (.no (.no (.no (.no (.no (.no (.no (.no (.has ab8 (.has ab9 (.has aca (.has acb (.has ace (.has acf (.has acg (.has ach (.has aci (.has acj (.has ack (.has acm (.has acn (.has aco (.has acq (.has acr (.has acs (.has acu (.has acv (.has acw (.has acx (.has acy (.has acz (.has acA (.has acC (.has acD (.has acE (.has acF (.has acG (.has acH (.has acI (.has acJ (.has acK (.has acL (.has acN (.has acO (.no (.no (.no (.no (.no (.no (.no (.no (.no (.no (.no (.no (.has acQ (.has acR (.has acS (.has acT (.has acU (.has acV (.has acX (.has acY (.no (.no (.no (.no (.no (.has acZ (.no (.no (.has ac1 (.has ac2 (.has ac3 (.has ac4 (.has ac5 (.has ac6 (.no (.no (.no (.no (.has ac8 (.has ac9 (.has ada (.has adb (.has ade (.has adf (.no (.no (.no (.has adg (.has adi (.has adj (.no (.has adk (.no (.has adl (.has adm (.has adn (.no (.no (.no (.no (.no (.no (.no (.no (.no (.no (.no (.no (.no (.no (.no (.no (.no (.no (.no (.no (.no (.no (.no (.no (.no (.no (.has adq (.has adr (.has ads (.has adt (.no (.no (.no (.no (.no (.no (.no (.nil _))))))))))))))))))))))))))))))))))))))))))))))))))))))))))))))))))))))))))))))))))))))))))))))))))))))))))))))))))))))))))))))))))))))))))))))))))))))))))))))))))))))))))))))))))))))))))))))))))))))))))))))))))))))))))))))))))))))))))))))))))))))))))))))))))))))))))))))))))))))))))))))))))))))))))))))))))
def afP:wX Tryz.prog (gl Tryz.prog) rounds:=(.cons afN (.cons afO (.cons afL (.cons afM .nil))))
set_option maxRecDepth 10000 in
theorem agH:JB Tryz.prog (gl Tryz.prog) T:=agI rfl Wa afP ags agr

/- Part 37 of DisputeLocal. -/
import Derived.Test.YtmehofoficaelaaGreatDoorL36
import Derived.Test.YtmehofoficaelaaGreatDoorL34
import Derived.Test.YtmehofoficaelaaGreatDoorL35
set_option linter.all false
namespace Go.Proofs.YtmehofoficaelaaGreatDoor
open Go Go.AL Go.Proofs Go.Shelf
def Tk:Go.Shelf.Ren:=⟨fun|189=>67|125=>126|257=>125|128=>198|129=>199|294=>189|295=>190|296=>191|297=>192|298=>193|299=>194|216=>195|300=>196|301=>197|328=>246|329=>247|330=>248|331=>249|332=>250|215=>251|343=>282|n=>n,fun|28=>37|3=>3|46=>241|0=>0|51=>311|53=>313|4=>4|183=>305|182=>304|131=>145|5=>5|9=>9|218=>360|222=>364|228=>400|229=>273|n=>n,fun|n=>n⟩
def agl:Go.Proofs.Lays.n189 Tryz.prog Tk:={
 mixed:=by kernel_rfl
 f125:=Tryz.func126.trans (congrArg some (by kernel_rfl))
 f128:=Tryz.func198.trans (congrArg some (by kernel_rfl))
 f129:=Tryz.func199.trans (congrArg some (by kernel_rfl))
 f189:=Tryz.func67.trans (congrArg some (by kernel_rfl))
 f215:=Tryz.func251.trans (congrArg some (by kernel_rfl))
 f216:=Tryz.func195.trans (congrArg some (by kernel_rfl))
 f257:=Tryz.func125.trans (congrArg some (by kernel_rfl))
 f294:=Tryz.func189.trans (congrArg some (by kernel_rfl))
 f295:=Tryz.func190.trans (congrArg some (by kernel_rfl))
 f296:=Tryz.func191.trans (congrArg some (by kernel_rfl))
 f297:=Tryz.func192.trans (congrArg some (by kernel_rfl))
 f298:=Tryz.func193.trans (congrArg some (by kernel_rfl))
 f299:=Tryz.func194.trans (congrArg some (by kernel_rfl))
 f300:=Tryz.func196.trans (congrArg some (by kernel_rfl))
 f301:=Tryz.func197.trans (congrArg some (by kernel_rfl))
 f328:=Tryz.func246.trans (congrArg some (by kernel_rfl))
 f329:=Tryz.func247.trans (congrArg some (by kernel_rfl))
 f330:=Tryz.func248.trans (congrArg some (by kernel_rfl))
 f331:=Tryz.func249.trans (congrArg some (by kernel_rfl))
 f332:=Tryz.func250.trans (congrArg some (by kernel_rfl))
 f343:=Tryz.func282.trans (congrArg some (by kernel_rfl))
 t0:=Tryz.underlying0
 a0:=Tryz.isAgg0
 z0:=Tryz.sizeOf0
 v0:=Tryz.zeroValue0
 t3:=Tryz.underlying3
 a3:=Tryz.isAgg3
 z3:=Tryz.sizeOf3
 v3:=Tryz.zeroValue3
 t4:=Tryz.underlying4
 a4:=Tryz.isAgg4
 z4:=Tryz.sizeOf4
 v4:=Tryz.zeroValue4
 t5:=Tryz.underlying5
 a5:=Tryz.isAgg5
 z5:=Tryz.sizeOf5
 v5:=Tryz.zeroValue5
 t9:=Tryz.underlying9
 a9:=Tryz.isAgg9
 z9:=Tryz.sizeOf9
 v9:=Tryz.zeroValue9
 t28:=Tryz.underlying37
 a28:=Tryz.isAgg37
 z28:=Tryz.sizeOf37
 v28:=Tryz.zeroValue37
 t46:=Tryz.underlying241
 a46:=Tryz.isAgg241
 z46:=Tryz.sizeOf241
 v46:=Tryz.zeroValue241
 t51:=Tryz.underlying311
 a51:=Tryz.isAgg311
 z51:=Tryz.sizeOf311
 v51:=Tryz.zeroValue311
 t53:=Tryz.underlying313
 a53:=Tryz.isAgg313
 z53:=Tryz.sizeOf313
 v53:=Tryz.zeroValue313
 t131:=Tryz.underlying145
 a131:=Tryz.isAgg145
 z131:=Tryz.sizeOf145
 v131:=Tryz.zeroValue145
 t182:=Tryz.underlying304
 a182:=Tryz.isAgg304
 z182:=Tryz.sizeOf304
 v182:=Tryz.zeroValue304
 t183:=Tryz.underlying305
 a183:=Tryz.isAgg305
 z183:=Tryz.sizeOf305
 v183:=Tryz.zeroValue305
 t218:=Tryz.underlying360
 a218:=Tryz.isAgg360
 z218:=Tryz.sizeOf360
 v218:=Tryz.zeroValue360
 t222:=Tryz.underlying364
 a222:=Tryz.isAgg364
 z222:=Tryz.sizeOf364
 v222:=Tryz.zeroValue364
 t228:=Tryz.underlying400
 a228:=Tryz.isAgg400
 z228:=Tryz.sizeOf400
 v228:=Tryz.zeroValue400
 t229:=Tryz.underlying273
 a229:=Tryz.isAgg273
 z229:=Tryz.sizeOf273
 v229:=Tryz.zeroValue273 }
def agn(f:FuncId)(h:Nat.beq f 67=true):wU Tryz.prog f:=by
 obtain rfl:=cz h
 exact wU.of (ρ:=Tk) agl
end Go.Proofs.YtmehofoficaelaaGreatDoor
namespace Go.Proofs.YtmehofoficaelaaGreatDoor
open Go Go.AL
set_option maxRecDepth 10000 in
theorem WG:tL Tryz.prog (gl Tryz.prog) 0 fns:=(.no (.no (.no (.no (.no (.no (.no (.no (.has aaw (.no (.no (.no (.no (.has abu (.no (.no (.no (.no (.no (.no (.has aaz (.no (.no (.no (.has aaA (.has ab6 (.no (.no (.has aaB (.has aaC (.has aaE (.no (.has aaF (.has aaG (.no (.has aaH (.no (.has aaI (.no (.has adG (.has adj (.has aaK (.has adD (.no (.no (.no (.no (.no (.has aaL (.has aaM (.has adE (.has adF (.no (.no (.no (.no (.has adP (.no (.has adQ (.no (.no (.no (.no (.has aaP (.has aaQ (.no (.no (.has acq (.no (.no (.has aaS (.has adH (.has adI (.no (.has aaT (.has aaU (.no (.no (.no (.has aaV (.no (.has aaX (.has aa9 (.has adX (.has adY (.has adV (.has ady (.has aaY (.has aaZ (.has adR (.no (.no (.no (.has aax (.has adr (.has adL (.has aa1 (.has aa2 (.has adS (.has adT (.has adU (.has adW (.no (.no (.no (.no (.no (.no (.has aeg (.has aeh (.has aei (.has aej (.has aav (.has adJ (.no (.no (.has aa5 (.has aa6 (.has aa7 (.has aa8 (.has abb (.has abd (.has abe (.has abf (.no (.has acQ (.has abS (.no (.has adZ (.has ad0 (.has ad1 (.has ad2 (.has abg (.no (.no (.has abh (.has aaO (.has adN (.has aa4 (.has aaR (.has aaW (.has abi (.has abj (.has abk (.has abl (.has aay (.has aaD (.has acg (.has adK (.has adM (.has ad6 (.has ad7 (.has ad8 (.has ad9 (.has aea (.has abm (.has abn (.has abo (.has abp (.has aaJ (.has aaN (.has aa0 (.has aa3 (.has ad4 (.no (.no (.no (.no (.has abZ (.has ab0 (.has ab1 (.has ab2 (.has ab3 (.has ab4 (.has ab5 (.has ab7 (.has ab8 (.has ab9 (.has aca (.has acb (.has acd (.has ace (.has acf (.no (.no (.has abq (.has abr (.has abt (.no (.has ada (.no (.no (.no (.no (.no (.no (.no (.no (.no (.has acw (.has acm (.has aed (.has aee (.has adO (.has acn (.has aco (.has acp (.has abv (.has abw (.has abx (.has abz (.has abA (.has acL (.has ad3 (.has ad5 (.has aeb (.has aec (.has abN (.has abT (.has abW (.has abX (.has abC (.has abD (.has abE (.has abF (.has ach (.has aci (.has acj (.has ack (.no (.has acy (.has acz (.has acA (.has acB (.has acC (.has acD (.has acE (.has acF (.has acG (.has acH (.has acI (.has acJ (.has acK (.no (.no (.no (.no (.no (.no (.no (.no (.has acx (.has acN (.has aef (.has acO (.has acP (.has abJ (.has abK (.has abL (.has aby (.has abB (.has abG (.has abH (.has abI (.has abM (.has abY (.has acv (.no (.no (.no (.no (.no (.no (.no (.has abO (.has abP (.has abQ (.has abR (.has acM (.has ac4 (.has ac5 (.has ac6 (.no (.has ac7 (.has ac8 (.has ac9 (.has acr (.has acs (.has acu (.no (.no (.no (.has abU (.has abV (.has adk (.has adl (.has adm (.has adn (.has ado (.has adp (.has acR (.has acS (.has acT (.has acU (.has acV (.has acW (.has acX (.has acY (.has acZ (.has ac0 (.has ac1 (.has ac2 (.has ac3 (.no (.no (.no (.no (.no (.no (.no (.no (.has adu (.has adb (.has ade (.has adf (.has adg (.has adh (.has adi (.no (.no (.no (.has adq (.has ads (.has adt (.no (.has adv (.has adw (.has adx (.no (.no (.no (.no (.no (.no (.no (.no (.no (.no (.no (.no (.no (.no (.no (.no (.no (.no (.no (.no (.no (.no (.no (.no (.no (.no (.has adz (.has adA (.has adB (.has adC (.no (.no (.no (.no (.no (.no (.no (.no (.no (.nil _))))))))))))))))))))))))))))))))))))))))))))))))))))))))))))))))))))))))))))))))))))))))))))))))))))))))))))))))))))))))))))))))))))))))))))))))))))))))))))))))))))))))))))))))))))))))))))))))))))))))))))))))))))))))))))))))))))))))))))))))))))))))))))))))))))))))))))))))))))))))))))))))))))))))))))))))))))))))))))))))))))))))))))))))))))))))))))))))))))))))))))))))))))))))))
def afM:wT Tryz.prog (gl Tryz.prog) rounds:=(.cons afH (.cons afI (.cons afG (.cons afF (.cons afJ (.cons afD (.cons afE .nil)))))))
set_option maxRecDepth 10000 in
theorem agC:Jj Tryz.prog (gl Tryz.prog) T:=agD rfl WG afM ago agn

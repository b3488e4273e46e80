/- Part 36 of the proof of skewer.skewerlaw15.TableValues. -/
import Derived.Test.YtnaefnajkaohgaaGreatDoorProg
import Derived.Test.YtnaefnajkaohgaaGreatDoorE35
import Derived.Test.YtnaefnajkaohgaaGreatDoorE32
import Derived.Test.YtnaefnajkaohgaaGreatDoorE33
import Derived.Test.YtnaefnajkaohgaaGreatDoorE34
set_option linter.all false
namespace Go.Proofs.YtnaefnajkaohgaaGreatDoor
open Go Go.AL Go.Proofs Go.Shelf
def Q4:Go.Shelf.Ren:=⟨fun|189=>160|125=>128|257=>198|128=>175|129=>176|294=>231|295=>232|296=>233|297=>234|298=>235|299=>236|216=>237|300=>238|301=>239|328=>256|329=>220|330=>221|331=>257|332=>258|215=>177|343=>264|n=>n,fun|28=>33|3=>3|46=>210|0=>0|51=>255|53=>257|4=>4|183=>249|182=>248|131=>107|5=>5|9=>9|218=>296|222=>300|228=>320|229=>162|n=>n,fun|n=>n⟩
theorem ad5:Go.Proofs.Lays.n189 Tryz.prog Q4:={
 mixed:=by kernel_rfl
 f125:=Tryz.func128.trans (congrArg some (by kernel_rfl))
 f128:=Tryz.func175.trans (congrArg some (by kernel_rfl))
 f129:=Tryz.func176.trans (congrArg some (by kernel_rfl))
 f189:=Tryz.func160.trans (congrArg some (by kernel_rfl))
 f215:=Tryz.func177.trans (congrArg some (by kernel_rfl))
 f216:=Tryz.func237.trans (congrArg some (by kernel_rfl))
 f257:=Tryz.func198.trans (congrArg some (by kernel_rfl))
 f294:=Tryz.func231.trans (congrArg some (by kernel_rfl))
 f295:=Tryz.func232.trans (congrArg some (by kernel_rfl))
 f296:=Tryz.func233.trans (congrArg some (by kernel_rfl))
 f297:=Tryz.func234.trans (congrArg some (by kernel_rfl))
 f298:=Tryz.func235.trans (congrArg some (by kernel_rfl))
 f299:=Tryz.func236.trans (congrArg some (by kernel_rfl))
 f300:=Tryz.func238.trans (congrArg some (by kernel_rfl))
 f301:=Tryz.func239.trans (congrArg some (by kernel_rfl))
 f328:=Tryz.func256.trans (congrArg some (by kernel_rfl))
 f329:=Tryz.func220.trans (congrArg some (by kernel_rfl))
 f330:=Tryz.func221.trans (congrArg some (by kernel_rfl))
 f331:=Tryz.func257.trans (congrArg some (by kernel_rfl))
 f332:=Tryz.func258.trans (congrArg some (by kernel_rfl))
 f343:=Tryz.func264.trans (congrArg some (by kernel_rfl))
 t0:=Tryz.underlying0
 a0:=Tryz.isAgg0
 z0:=Tryz.sizeOf0
 v0:=Tryz.zeroValue0
 t3:=Tryz.underlying3
 a3:=Tryz.isAgg3
 z3:=Tryz.sizeOf3
 v3:=Tryz.zeroValue3
 t4:=Tryz.underlying4
 a4:=Tryz.isAgg4
 z4:=Tryz.sizeOf4
 v4:=Tryz.zeroValue4
 t5:=Tryz.underlying5
 a5:=Tryz.isAgg5
 z5:=Tryz.sizeOf5
 v5:=Tryz.zeroValue5
 t9:=Tryz.underlying9
 a9:=Tryz.isAgg9
 z9:=Tryz.sizeOf9
 v9:=Tryz.zeroValue9
 t28:=Tryz.underlying33
 a28:=Tryz.isAgg33
 z28:=Tryz.sizeOf33
 v28:=Tryz.zeroValue33
 t46:=Tryz.underlying210
 a46:=Tryz.isAgg210
 z46:=Tryz.sizeOf210
 v46:=Tryz.zeroValue210
 t51:=Tryz.underlying255
 a51:=Tryz.isAgg255
 z51:=Tryz.sizeOf255
 v51:=Tryz.zeroValue255
 t53:=Tryz.underlying257
 a53:=Tryz.isAgg257
 z53:=Tryz.sizeOf257
 v53:=Tryz.zeroValue257
 t131:=Tryz.underlying107
 a131:=Tryz.isAgg107
 z131:=Tryz.sizeOf107
 v131:=Tryz.zeroValue107
 t182:=Tryz.underlying248
 a182:=Tryz.isAgg248
 z182:=Tryz.sizeOf248
 v182:=Tryz.zeroValue248
 t183:=Tryz.underlying249
 a183:=Tryz.isAgg249
 z183:=Tryz.sizeOf249
 v183:=Tryz.zeroValue249
 t218:=Tryz.underlying296
 a218:=Tryz.isAgg296
 z218:=Tryz.sizeOf296
 v218:=Tryz.zeroValue296
 t222:=Tryz.underlying300
 a222:=Tryz.isAgg300
 z222:=Tryz.sizeOf300
 v222:=Tryz.zeroValue300
 t228:=Tryz.underlying320
 a228:=Tryz.isAgg320
 z228:=Tryz.sizeOf320
 v228:=Tryz.zeroValue320
 t229:=Tryz.underlying162
 a229:=Tryz.isAgg162
 z229:=Tryz.sizeOf162
 v229:=Tryz.zeroValue162 }
theorem ad7(f:FuncId)(h:Nat.beq f 160=true):vf Tryz.prog f:=by
 obtain rfl:=cZ h
 exact vf.of (ρ:=Q4) ad5
end Go.Proofs.YtnaefnajkaohgaaGreatDoor
namespace Go.Proofs.YtnaefnajkaohgaaGreatDoor
open Go Go.AL
set_option maxRecDepth 10000 in
theorem T6:sm Tryz.prog (gl Tryz.prog) 0 fns:=(.no (.no (.no (.no (.no (.no (.no (.no (.no (.no (.has YN (.has YY (.has Y8 (.has Zh (.no (.has ZC (.no (.has ZU (.has ZZ (.no (.has aak (.no (.has aax (.no (.has aaG (.has aaN (.has aaV (.has aa2 (.no (.has aa3 (.has aa8 (.has aa9 (.has abb (.has abd (.has abe (.has abf (.has abg (.no (.no (.no (.has abh (.no (.has abi (.no (.no (.has abj (.has abk (.has abl (.has abm (.has abn (.has abo (.has abp (.has abq (.has abr (.has abt (.has abu (.has abv (.has abw (.has abx (.has aby (.has abz (.has abA (.has abB (.has abC (.no (.has abD (.no (.no (.no (.no (.has abE (.has abF (.has abG (.has abH (.has abI (.has abJ (.has abK (.has abL (.has abM (.no (.no (.no (.no (.has abN (.has abO (.has abP (.has abQ (.has abR (.has abS (.has abT (.has abU (.has abV (.has abW (.has abX (.has abY (.has abZ (.has ab0 (.has ab1 (.has ab2 (.has ab3 (.has YO (.has YP (.has YQ (.has YR (.has YS (.has YT (.has YU (.has YV (.has YW (.has YX (.has YZ (.has Y0 (.no (.has Y1 (.has Y2 (.has Y3 (.has Y4 (.has Y5 (.has Y6 (.has Y7 (.no (.has Y9 (.has Y' (.has Za (.has Zb (.has Zc (.has Zd (.has Ze (.has Zf (.has Zg (.has Zi (.has Zj (.has Zk (.has Zl (.has Zm (.has Zn (.has Zo (.has Zp (.has Zq (.has Zr (.has Zs (.has Zt (.has Zu (.has Zv (.has Zw (.has Zx (.has Zy (.has Zz (.has ZA (.has ZB (.has ZD (.has ZE (.has ZF (.has ZG (.has ZH (.has ZI (.has ZJ (.has ZK (.no (.has ZL (.has ZM (.has ZN (.has ZO (.has ZP (.has ZQ (.has ZR (.has ZS (.has ZT (.no (.no (.no (.no (.no (.no (.no (.no (.has ZV (.has ZW (.has ZX (.has ZY (.has Z0 (.has Z1 (.has Z2 (.has Z3 (.has Z4 (.has Z5 (.has Z6 (.has Z7 (.has Z8 (.has Z9 (.has Z' (.has aac (.has aad (.has aae (.has aaf (.has aag (.no (.has aah (.has aai (.has aaj (.has aal (.has aam (.has aan (.has aao (.has aap (.has aaq (.has aar (.has aas (.has aat (.has aau (.has aav (.has aaw (.no (.no (.no (.no (.no (.no (.no (.no (.no (.no (.no (.no (.has aay (.has aaz (.has aaA (.has aaB (.has aaC (.has aaD (.no (.has aaE (.no (.no (.no (.no (.no (.has aaF (.no (.no (.has aaH (.has aaI (.has aaJ (.has aaK (.has aaL (.has aaM (.no (.no (.no (.no (.has aaO (.has aaP (.has aaQ (.has aaR (.has aaS (.has aaT (.no (.no (.no (.has aaU (.has aaW (.has aaX (.no (.has aaY (.no (.has aaZ (.has aa0 (.has aa1 (.no (.no (.no (.no (.no (.no (.no (.no (.no (.no (.no (.no (.no (.no (.no (.no (.no (.no (.no (.no (.no (.no (.no (.no (.no (.no (.has aa4 (.has aa5 (.has aa6 (.has aa7 (.no (.no (.no (.no (.no (.no (.no (.nil _))))))))))))))))))))))))))))))))))))))))))))))))))))))))))))))))))))))))))))))))))))))))))))))))))))))))))))))))))))))))))))))))))))))))))))))))))))))))))))))))))))))))))))))))))))))))))))))))))))))))))))))))))))))))))))))))))))))))))))))))))))))))))))))))))))))))))))))))))))))))))))))))))))))))))))))))))
theorem adt:ve Tryz.prog (gl Tryz.prog) rounds:=(.cons adq (.cons adr (.cons ado (.cons adp .nil))))
set_option maxRecDepth 10000 in
theorem aer:Hx Tryz.prog (gl Tryz.prog) T:=aes rfl T6 adt ad8 ad7

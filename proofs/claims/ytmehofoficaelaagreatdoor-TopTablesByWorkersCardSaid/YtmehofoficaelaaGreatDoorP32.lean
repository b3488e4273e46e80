/- 32 -/
import Derived.Test.YtmehofoficaelaaGreatDoorProg
import Derived.Test.YtmehofoficaelaaGreatDoorP31
set_option linter.all false
open Option renaming some→aE
namespace Go.Proofs.YtmehofoficaelaaGreatDoor
open Go Go.AL Go.Proofs Go.Shelf
def aeM:Go.Shelf.Ren:=⟨λ|189=>67|125=>126|257=>125|128=>198|129=>199|294=>189|295=>190|296=>191|297=>192|298=>193|299=>194|216=>195|300=>196|301=>197|328=>246|329=>247|330=>248|331=>249|332=>250|215=>251|343=>282|n=>n,λ|28=>37|3=>3|46=>241|0=>0|51=>311|53=>313|4=>4|183=>305|182=>304|131=>145|5=>5|9=>9|218=>360|222=>364|228=>400|229=>273|n=>n,λ|n=>n⟩
def atr:Go.Proofs.Lays.n189 Tryz.prog aeM:={
 mixed:=ia
 f125:=Tryz.func126.trans (congrArg aE ia)
 f128:=Tryz.func198.trans (congrArg aE ia)
 f129:=Tryz.func199.trans (congrArg aE ia)
 f189:=Tryz.func67.trans (congrArg aE ia)
 f215:=Tryz.func251.trans (congrArg aE ia)
 f216:=Tryz.func195.trans (congrArg aE ia)
 f257:=Tryz.func125.trans (congrArg aE ia)
 f294:=Tryz.func189.trans (congrArg aE ia)
 f295:=Tryz.func190.trans (congrArg aE ia)
 f296:=Tryz.func191.trans (congrArg aE ia)
 f297:=Tryz.func192.trans (congrArg aE ia)
 f298:=Tryz.func193.trans (congrArg aE ia)
 f299:=Tryz.func194.trans (congrArg aE ia)
 f300:=Tryz.func196.trans (congrArg aE ia)
 f301:=Tryz.func197.trans (congrArg aE ia)
 f328:=Tryz.func246.trans (congrArg aE ia)
 f329:=Tryz.func247.trans (congrArg aE ia)
 f330:=Tryz.func248.trans (congrArg aE ia)
 f331:=Tryz.func249.trans (congrArg aE ia)
 f332:=Tryz.func250.trans (congrArg aE ia)
 f343:=Tryz.func282.trans (congrArg aE ia)
 t0:=Tryz.underlying0
 a0:=Tryz.isAgg0
 z0:=Tryz.sizeOf0
 v0:=Tryz.zeroValue0
 t3:=Tryz.underlying3
 a3:=Tryz.isAgg3
 z3:=Tryz.sizeOf3
 v3:=Tryz.zeroValue3
 t4:=Tryz.underlying4
 a4:=Tryz.isAgg4
 z4:=Tryz.sizeOf4
 v4:=Tryz.zeroValue4
 t5:=Tryz.underlying5
 a5:=Tryz.isAgg5
 z5:=Tryz.sizeOf5
 v5:=Tryz.zeroValue5
 t9:=Tryz.underlying9
 a9:=Tryz.isAgg9
 z9:=Tryz.sizeOf9
 v9:=Tryz.zeroValue9
 t28:=Tryz.underlying37
 a28:=Tryz.isAgg37
 z28:=Tryz.sizeOf37
 v28:=Tryz.zeroValue37
 t46:=Tryz.underlying241
 a46:=Tryz.isAgg241
 z46:=Tryz.sizeOf241
 v46:=Tryz.zeroValue241
 t51:=Tryz.underlying311
 a51:=Tryz.isAgg311
 z51:=Tryz.sizeOf311
 v51:=Tryz.zeroValue311
 t53:=Tryz.underlying313
 a53:=Tryz.isAgg313
 z53:=Tryz.sizeOf313
 v53:=Tryz.zeroValue313
 t131:=Tryz.underlying145
 a131:=Tryz.isAgg145
 z131:=Tryz.sizeOf145
 v131:=Tryz.zeroValue145
 t182:=Tryz.underlying304
 a182:=Tryz.isAgg304
 z182:=Tryz.sizeOf304
 v182:=Tryz.zeroValue304
 t183:=Tryz.underlying305
 a183:=Tryz.isAgg305
 z183:=Tryz.sizeOf305
 v183:=Tryz.zeroValue305
 t218:=Tryz.underlying360
 a218:=Tryz.isAgg360
 z218:=Tryz.sizeOf360
 v218:=Tryz.zeroValue360
 t222:=Tryz.underlying364
 a222:=Tryz.isAgg364
 z222:=Tryz.sizeOf364
 v222:=Tryz.zeroValue364
 t228:=Tryz.underlying400
 a228:=Tryz.isAgg400
 z228:=Tryz.sizeOf400
 v228:=Tryz.zeroValue400
 t229:=Tryz.underlying273
 a229:=Tryz.isAgg273
 z229:=Tryz.sizeOf273
 v229:=Tryz.zeroValue273 }
def att(f:FuncId)(h:Nat.beq f 67=true):C2 Tryz.prog f:=by obtain rfl:=cO h;exact C2.of (ρ:=aeM) atr

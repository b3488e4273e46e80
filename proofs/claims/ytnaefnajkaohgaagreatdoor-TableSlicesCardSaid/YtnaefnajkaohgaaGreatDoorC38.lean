/- Part 38 of the proof of skewer.skewerlaw15.TableSlices. -/
import Derived.Test.YtnaefnajkaohgaaGreatDoorProg
import Derived.Test.YtnaefnajkaohgaaGreatDoorC37
import Derived.Test.YtnaefnajkaohgaaGreatDoorC34
import Derived.Test.YtnaefnajkaohgaaGreatDoorC35
import Derived.Test.YtnaefnajkaohgaaGreatDoorC36
set_option linter.all false
namespace Go.Proofs.YtnaefnajkaohgaaGreatDoor
open Go Go.AL Go.Proofs Go.Shelf
def sort160_ren:Go.Shelf.Ren:=⟨fun|189=>160|125=>128|257=>198|128=>175|129=>176|294=>231|295=>232|296=>233|297=>234|298=>235|299=>236|216=>237|300=>238|301=>239|328=>256|329=>220|330=>221|331=>257|332=>258|215=>177|343=>264|n=>n,fun|28=>33|3=>3|46=>210|0=>0|51=>255|53=>257|4=>4|183=>249|182=>248|131=>107|5=>5|9=>9|218=>296|222=>300|228=>320|229=>162|n=>n,fun|n=>n⟩
theorem sort160:Go.Proofs.Lays.n189 Tryz.prog sort160_ren:={
 mixed:=by kernel_rfl
 f125:=Tryz.func128.trans (congrArg some (by kernel_rfl))
 f128:=Tryz.func175.trans (congrArg some (by kernel_rfl))
 f129:=Tryz.func176.trans (congrArg some (by kernel_rfl))
 f189:=Tryz.func160.trans (congrArg some (by kernel_rfl))
 f215:=Tryz.func177.trans (congrArg some (by kernel_rfl))
 f216:=Tryz.func237.trans (congrArg some (by kernel_rfl))
 f257:=Tryz.func198.trans (congrArg some (by kernel_rfl))
 f294:=Tryz.func231.trans (congrArg some (by kernel_rfl))
 f295:=Tryz.func232.trans (congrArg some (by kernel_rfl))
 f296:=Tryz.func233.trans (congrArg some (by kernel_rfl))
 f297:=Tryz.func234.trans (congrArg some (by kernel_rfl))
 f298:=Tryz.func235.trans (congrArg some (by kernel_rfl))
 f299:=Tryz.func236.trans (congrArg some (by kernel_rfl))
 f300:=Tryz.func238.trans (congrArg some (by kernel_rfl))
 f301:=Tryz.func239.trans (congrArg some (by kernel_rfl))
 f328:=Tryz.func256.trans (congrArg some (by kernel_rfl))
 f329:=Tryz.func220.trans (congrArg some (by kernel_rfl))
 f330:=Tryz.func221.trans (congrArg some (by kernel_rfl))
 f331:=Tryz.func257.trans (congrArg some (by kernel_rfl))
 f332:=Tryz.func258.trans (congrArg some (by kernel_rfl))
 f343:=Tryz.func264.trans (congrArg some (by kernel_rfl))
 t0:=Tryz.underlying0
 a0:=Tryz.isAgg0
 z0:=Tryz.sizeOf0
 v0:=Tryz.zeroValue0
 t3:=Tryz.underlying3
 a3:=Tryz.isAgg3
 z3:=Tryz.sizeOf3
 v3:=Tryz.zeroValue3
 t4:=Tryz.underlying4
 a4:=Tryz.isAgg4
 z4:=Tryz.sizeOf4
 v4:=Tryz.zeroValue4
 t5:=Tryz.underlying5
 a5:=Tryz.isAgg5
 z5:=Tryz.sizeOf5
 v5:=Tryz.zeroValue5
 t9:=Tryz.underlying9
 a9:=Tryz.isAgg9
 z9:=Tryz.sizeOf9
 v9:=Tryz.zeroValue9
 t28:=Tryz.underlying33
 a28:=Tryz.isAgg33
 z28:=Tryz.sizeOf33
 v28:=Tryz.zeroValue33
 t46:=Tryz.underlying210
 a46:=Tryz.isAgg210
 z46:=Tryz.sizeOf210
 v46:=Tryz.zeroValue210
 t51:=Tryz.underlying255
 a51:=Tryz.isAgg255
 z51:=Tryz.sizeOf255
 v51:=Tryz.zeroValue255
 t53:=Tryz.underlying257
 a53:=Tryz.isAgg257
 z53:=Tryz.sizeOf257
 v53:=Tryz.zeroValue257
 t131:=Tryz.underlying107
 a131:=Tryz.isAgg107
 z131:=Tryz.sizeOf107
 v131:=Tryz.zeroValue107
 t182:=Tryz.underlying248
 a182:=Tryz.isAgg248
 z182:=Tryz.sizeOf248
 v182:=Tryz.zeroValue248
 t183:=Tryz.underlying249
 a183:=Tryz.isAgg249
 z183:=Tryz.sizeOf249
 v183:=Tryz.zeroValue249
 t218:=Tryz.underlying296
 a218:=Tryz.isAgg296
 z218:=Tryz.sizeOf296
 v218:=Tryz.zeroValue296
 t222:=Tryz.underlying300
 a222:=Tryz.isAgg300
 z222:=Tryz.sizeOf300
 v222:=Tryz.zeroValue300
 t228:=Tryz.underlying320
 a228:=Tryz.isAgg320
 z228:=Tryz.sizeOf320
 v228:=Tryz.zeroValue320
 t229:=Tryz.underlying162
 a229:=Tryz.isAgg162
 z229:=Tryz.sizeOf162
 v229:=Tryz.zeroValue162 }
theorem sortIOK(f:FuncId)(h:Nat.beq f 160=true):SortIOK Tryz.prog f:=by
 obtain rfl:=Nat.eq_of_beq_eq_true h
 exact SortIOK.of (ρ:=sort160_ren) sort160
end Go.Proofs.YtnaefnajkaohgaaGreatDoor
namespace Go.Proofs.YtnaefnajkaohgaaGreatDoor
open Go Go.AL
set_option maxRecDepth 10000 in
theorem fnsOK:FnsOK Tryz.prog (gl Tryz.prog) 0 fns:=(.no (.no (.no (.no (.no (.has ok5 (.no (.no (.no (.no (.no (.has ok11 (.has ok12 (.has ok13 (.no (.has ok15 (.no (.has ok17 (.has ok18 (.no (.has ok20 (.no (.has ok22 (.has ok23 (.has ok24 (.has ok25 (.has ok26 (.has ok27 (.has ok28 (.no (.no (.has ok31 (.has ok32 (.has ok33 (.has ok34 (.has ok35 (.has ok36 (.no (.no (.no (.has ok40 (.no (.has ok42 (.no (.no (.has ok45 (.has ok46 (.has ok47 (.has ok48 (.has ok49 (.has ok50 (.has ok51 (.has ok52 (.no (.has ok54 (.no (.no (.has ok57 (.has ok58 (.has ok59 (.has ok60 (.has ok61 (.has ok62 (.has ok63 (.no (.has ok65 (.no (.no (.no (.no (.has ok70 (.has ok71 (.has ok72 (.has ok73 (.has ok74 (.has ok75 (.has ok76 (.has ok77 (.has ok78 (.no (.no (.no (.has ok82 (.has ok83 (.has ok84 (.has ok85 (.has ok86 (.has ok87 (.has ok88 (.has ok89 (.has ok90 (.has ok91 (.has ok92 (.has ok93 (.has ok94 (.has ok95 (.has ok96 (.has ok97 (.has ok98 (.has ok99 (.has ok100 (.has ok101 (.no (.no (.has ok104 (.has ok105 (.has ok106 (.has ok107 (.has ok108 (.has ok109 (.has ok110 (.has ok111 (.no (.has ok113 (.has ok114 (.has ok115 (.has ok116 (.has ok117 (.has ok118 (.has ok119 (.no (.has ok121 (.has ok122 (.has ok123 (.has ok124 (.has ok125 (.has ok126 (.has ok127 (.has ok128 (.has ok129 (.has ok130 (.has ok131 (.has ok132 (.has ok133 (.has ok134 (.has ok135 (.has ok136 (.has ok137 (.has ok138 (.has ok139 (.has ok140 (.has ok141 (.has ok142 (.has ok143 (.has ok144 (.has ok145 (.has ok146 (.has ok147 (.has ok148 (.has ok149 (.has ok150 (.has ok151 (.has ok152 (.has ok153 (.has ok154 (.has ok155 (.has ok156 (.has ok157 (.no (.has ok159 (.has ok160 (.has ok161 (.has ok162 (.has ok163 (.has ok164 (.has ok165 (.has ok166 (.has ok167 (.no (.no (.no (.no (.no (.no (.no (.no (.has ok176 (.has ok177 (.has ok178 (.has ok179 (.has ok180 (.has ok181 (.has ok182 (.has ok183 (.has ok184 (.has ok185 (.has ok186 (.has ok187 (.has ok188 (.has ok189 (.has ok190 (.has ok191 (.has ok192 (.has ok193 (.has ok194 (.has ok195 (.no (.has ok197 (.has ok198 (.has ok199 (.has ok200 (.has ok201 (.has ok202 (.has ok203 (.has ok204 (.has ok205 (.has ok206 (.has ok207 (.has ok208 (.has ok209 (.has ok210 (.has ok211 (.no (.no (.no (.no (.no (.no (.no (.no (.no (.no (.no (.no (.has ok224 (.has ok225 (.has ok226 (.has ok227 (.has ok228 (.has ok229 (.no (.has ok231 (.no (.no (.no (.no (.no (.has ok237 (.no (.no (.has ok240 (.has ok241 (.has ok242 (.has ok243 (.has ok244 (.has ok245 (.no (.no (.no (.no (.has ok250 (.has ok251 (.has ok252 (.has ok253 (.has ok254 (.has ok255 (.no (.no (.no (.has ok259 (.has ok260 (.has ok261 (.no (.has ok263 (.no (.has ok265 (.has ok266 (.has ok267 (.no (.no (.no (.no (.no (.no (.no (.no (.no (.no (.no (.no (.no (.no (.no (.no (.no (.no (.no (.no (.no (.no (.no (.no (.no (.no (.has ok294 (.has ok295 (.has ok296 (.has ok297 (.no (.no (.no (.no (.no (.no (.no (.nil _))))))))))))))))))))))))))))))))))))))))))))))))))))))))))))))))))))))))))))))))))))))))))))))))))))))))))))))))))))))))))))))))))))))))))))))))))))))))))))))))))))))))))))))))))))))))))))))))))))))))))))))))))))))))))))))))))))))))))))))))))))))))))))))))))))))))))))))))))))))))))))))))))))))))))))))))))
theorem roundsOK:RoundsOK Tryz.prog (gl Tryz.prog) rounds:=(.cons rok1664 (.cons rok4992 (.cons rok12608 (.cons rok15488 .nil))))
set_option maxRecDepth 10000 in
theorem tabOK:TabOK Tryz.prog (gl Tryz.prog) T:=tabOK_of rfl fnsOK roundsOK sortOK sortIOK
end Go.Proofs.YtnaefnajkaohgaaGreatDoor

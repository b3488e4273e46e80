/- Part 37 of the proof of skewer.skewerlaw15.TableAgain. -/
import Derived.Test.YtnaefnajkaohgaaGreatDoorProg
import Derived.Test.YtnaefnajkaohgaaGreatDoorD36
import Derived.Test.YtnaefnajkaohgaaGreatDoorD33
import Derived.Test.YtnaefnajkaohgaaGreatDoorD34
import Derived.Test.YtnaefnajkaohgaaGreatDoorD35
set_option linter.all false
namespace Go.Proofs.YtnaefnajkaohgaaGreatDoor
open Go Go.AL Go.Proofs Go.Shelf
def Qj:Go.Shelf.Ren:=⟨fun|189=>160|125=>128|257=>198|128=>175|129=>176|294=>231|295=>232|296=>233|297=>234|298=>235|299=>236|216=>237|300=>238|301=>239|328=>256|329=>220|330=>221|331=>257|332=>258|215=>177|343=>264|n=>n,fun|28=>33|3=>3|46=>210|0=>0|51=>255|53=>257|4=>4|183=>249|182=>248|131=>107|5=>5|9=>9|218=>296|222=>300|228=>320|229=>162|n=>n,fun|n=>n⟩
theorem acC:Go.Proofs.Lays.n189 Tryz.prog Qj:={
 mixed:=by kernel_rfl
 f125:=Tryz.func128.trans (congrArg some (by kernel_rfl))
 f128:=Tryz.func175.trans (congrArg some (by kernel_rfl))
 f129:=Tryz.func176.trans (congrArg some (by kernel_rfl))
 f189:=Tryz.func160.trans (congrArg some (by kernel_rfl))
 f215:=Tryz.func177.trans (congrArg some (by kernel_rfl))
 f216:=Tryz.func237.trans (congrArg some (by kernel_rfl))
 f257:=Tryz.func198.trans (congrArg some (by kernel_rfl))
 f294:=Tryz.func231.trans (congrArg some (by kernel_rfl))
 f295:=Tryz.func232.trans (congrArg some (by kernel_rfl))
 f296:=Tryz.func233.trans (congrArg some (by kernel_rfl))
 f297:=Tryz.func234.trans (congrArg some (by kernel_rfl))
 f298:=Tryz.func235.trans (congrArg some (by kernel_rfl))
 f299:=Tryz.func236.trans (congrArg some (by kernel_rfl))
 f300:=Tryz.func238.trans (congrArg some (by kernel_rfl))
 f301:=Tryz.func239.trans (congrArg some (by kernel_rfl))
 f328:=Tryz.func256.trans (congrArg some (by kernel_rfl))
 f329:=Tryz.func220.trans (congrArg some (by kernel_rfl))
 f330:=Tryz.func221.trans (congrArg some (by kernel_rfl))
 f331:=Tryz.func257.trans (congrArg some (by kernel_rfl))
 f332:=Tryz.func258.trans (congrArg some (by kernel_rfl))
 f343:=Tryz.func264.trans (congrArg some (by kernel_rfl))
 t0:=Tryz.underlying0
 a0:=Tryz.isAgg0
 z0:=Tryz.sizeOf0
 v0:=Tryz.zeroValue0
 t3:=Tryz.underlying3
 a3:=Tryz.isAgg3
 z3:=Tryz.sizeOf3
 v3:=Tryz.zeroValue3
 t4:=Tryz.underlying4
 a4:=Tryz.isAgg4
 z4:=Tryz.sizeOf4
 v4:=Tryz.zeroValue4
 t5:=Tryz.underlying5
 a5:=Tryz.isAgg5
 z5:=Tryz.sizeOf5
 v5:=Tryz.zeroValue5
 t9:=Tryz.underlying9
 a9:=Tryz.isAgg9
 z9:=Tryz.sizeOf9
 v9:=Tryz.zeroValue9
 t28:=Tryz.underlying33
 a28:=Tryz.isAgg33
 z28:=Tryz.sizeOf33
 v28:=Tryz.zeroValue33
 t46:=Tryz.underlying210
 a46:=Tryz.isAgg210
 z46:=Tryz.sizeOf210
 v46:=Tryz.zeroValue210
 t51:=Tryz.underlying255
 a51:=Tryz.isAgg255
 z51:=Tryz.sizeOf255
 v51:=Tryz.zeroValue255
 t53:=Tryz.underlying257
 a53:=Tryz.isAgg257
 z53:=Tryz.sizeOf257
 v53:=Tryz.zeroValue257
 t131:=Tryz.underlying107
 a131:=Tryz.isAgg107
 z131:=Tryz.sizeOf107
 v131:=Tryz.zeroValue107
 t182:=Tryz.underlying248
 a182:=Tryz.isAgg248
 z182:=Tryz.sizeOf248
 v182:=Tryz.zeroValue248
 t183:=Tryz.underlying249
 a183:=Tryz.isAgg249
 z183:=Tryz.sizeOf249
 v183:=Tryz.zeroValue249
 t218:=Tryz.underlying296
 a218:=Tryz.isAgg296
 z218:=Tryz.sizeOf296
 v218:=Tryz.zeroValue296
 t222:=Tryz.underlying300
 a222:=Tryz.isAgg300
 z222:=Tryz.sizeOf300
 v222:=Tryz.zeroValue300
 t228:=Tryz.underlying320
 a228:=Tryz.isAgg320
 z228:=Tryz.sizeOf320
 v228:=Tryz.zeroValue320
 t229:=Tryz.underlying162
 a229:=Tryz.isAgg162
 z229:=Tryz.sizeOf162
 v229:=Tryz.zeroValue162 }
theorem acE(f:FuncId)(h:Nat.beq f 160=true):uI Tryz.prog f:=by
 obtain rfl:=cN h
 exact uI.of (ρ:=Qj) acC
end Go.Proofs.YtnaefnajkaohgaaGreatDoor
namespace Go.Proofs.YtnaefnajkaohgaaGreatDoor
open Go Go.AL
set_option maxRecDepth 10000 in
theorem S0:rG Tryz.prog (gl Tryz.prog) 0 fns:=(.no (.no (.no (.no (.no (.no (.no (.no (.no (.has ok9 (.no (.has Xq (.has XD (.has XQ (.no (.has Ye (.no (.has YD (.has YI (.no (.has Y2 (.no (.has Ze (.has Zl (.has Zo (.has Zv (.has ZD (.has ZK (.has ZL (.has ZM (.no (.has ZR (.has ZS (.has ZT (.has ZU (.has ZV (.has ZW (.no (.no (.no (.has ZX (.no (.has ZY (.no (.no (.has ZZ (.has Z0 (.has Z1 (.has Z2 (.has Z3 (.has Z4 (.has Z5 (.has Z6 (.has Z7 (.has Z8 (.has Z9 (.no (.has Z' (.has aac (.has aad (.has aae (.has aaf (.has aag (.has aah (.no (.has aai (.no (.no (.no (.no (.has aaj (.has aak (.has aal (.has aam (.has aan (.has aao (.has aap (.has aaq (.has aar (.no (.no (.no (.has aas (.has aat (.has aau (.has aav (.has aaw (.has aax (.has aay (.has aaz (.has aaA (.has aaB (.has aaC (.has aaD (.has aaE (.has aaF (.has aaG (.has aaH (.has aaI (.has aaJ (.has Xh (.has Xi (.no (.no (.has Xj (.has Xl (.has Xm (.has Xn (.has Xo (.has Xp (.has Xr (.has Xt (.no (.has Xu (.has Xv (.has Xw (.has Xx (.has Xy (.has Xz (.has XA (.no (.has XE (.has XF (.has XH (.has XI (.has XJ (.has XK (.has XL (.has XM (.has XP (.has XR (.has XS (.has XU (.has XV (.has XW (.has XX (.has XY (.has XZ (.has X1 (.has X3 (.has X4 (.has X5 (.has X6 (.has X7 (.has X8 (.has X9 (.has X' (.has Ya (.has Yb (.has Yd (.has Yf (.has Yh (.has Yi (.has Yj (.has Yk (.has Yl (.has Ym (.has Yo (.no (.has Yp (.has Ys (.has Yu (.has Yw (.has Yx (.has Yy (.has YA (.has YB (.has YC (.no (.no (.no (.no (.no (.no (.no (.no (.has YE (.has YF (.has YG (.has YH (.has YJ (.has YK (.has YL (.has YM (.has YN (.has YO (.has YP (.has YQ (.has YR (.has YS (.has YT (.has YU (.has YV (.has YW (.has YX (.has YY (.no (.has YZ (.has Y0 (.has Y1 (.has Y3 (.has Y4 (.has Y5 (.has Y6 (.has Y7 (.has Y8 (.has Y9 (.has Y' (.has Za (.has Zb (.has Zc (.has Zd (.no (.no (.no (.no (.no (.no (.no (.no (.no (.no (.no (.no (.has Zf (.has Zg (.has Zh (.has Zi (.has Zj (.has Zk (.no (.has Zm (.no (.no (.no (.no (.no (.has Zn (.no (.no (.has Zp (.has Zq (.has Zr (.has Zs (.has Zt (.has Zu (.no (.no (.no (.no (.has Zw (.has Zx (.has Zy (.has Zz (.has ZA (.has ZB (.no (.no (.no (.has ZC (.has ZE (.has ZF (.no (.has ZG (.no (.has ZH (.has ZI (.has ZJ (.no (.no (.no (.no (.no (.no (.no (.no (.no (.no (.no (.no (.no (.no (.no (.no (.no (.no (.no (.no (.no (.no (.no (.no (.no (.no (.has ZN (.has ZO (.has ZP (.has ZQ (.no (.no (.no (.no (.no (.no (.no (.nil _))))))))))))))))))))))))))))))))))))))))))))))))))))))))))))))))))))))))))))))))))))))))))))))))))))))))))))))))))))))))))))))))))))))))))))))))))))))))))))))))))))))))))))))))))))))))))))))))))))))))))))))))))))))))))))))))))))))))))))))))))))))))))))))))))))))))))))))))))))))))))))))))))))))))))))))))))
theorem ab1:uH Tryz.prog (gl Tryz.prog) rounds:=(.cons abZ (.cons ab0 (.cons abX (.cons abY .nil))))
set_option maxRecDepth 10000 in
theorem acY:GJ Tryz.prog (gl Tryz.prog) T:=acZ rfl S0 ab1 acF acE

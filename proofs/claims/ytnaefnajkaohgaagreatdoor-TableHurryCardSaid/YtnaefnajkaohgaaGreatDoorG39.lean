/- Part 39 of TableHurry. -/
import Derived.Test.YtnaefnajkaohgaaGreatDoorProg
import Derived.Test.YtnaefnajkaohgaaGreatDoorG38
import Derived.Test.YtnaefnajkaohgaaGreatDoorG35
import Derived.Test.YtnaefnajkaohgaaGreatDoorG36
import Derived.Test.YtnaefnajkaohgaaGreatDoorG37
set_option linter.all false
namespace Go.Proofs.YtnaefnajkaohgaaGreatDoor
open Go Go.AL Go.Proofs Go.Shelf
def NW:Go.Shelf.Ren:=⟨fun|189=>160|125=>128|257=>198|128=>175|129=>176|294=>231|295=>232|296=>233|297=>234|298=>235|299=>236|216=>237|300=>238|301=>239|328=>256|329=>220|330=>221|331=>257|332=>258|215=>177|343=>264|n=>n,fun|28=>33|3=>3|46=>210|0=>0|51=>255|53=>257|4=>4|183=>249|182=>248|131=>107|5=>5|9=>9|218=>296|222=>300|228=>320|229=>162|n=>n,fun|n=>n⟩
theorem Z4:Go.Proofs.Lays.n189 Tryz.prog NW:={
 mixed:=by kernel_rfl
 f125:=Tryz.func128.trans (congrArg some (by kernel_rfl))
 f128:=Tryz.func175.trans (congrArg some (by kernel_rfl))
 f129:=Tryz.func176.trans (congrArg some (by kernel_rfl))
 f189:=Tryz.func160.trans (congrArg some (by kernel_rfl))
 f215:=Tryz.func177.trans (congrArg some (by kernel_rfl))
 f216:=Tryz.func237.trans (congrArg some (by kernel_rfl))
 f257:=Tryz.func198.trans (congrArg some (by kernel_rfl))
 f294:=Tryz.func231.trans (congrArg some (by kernel_rfl))
 f295:=Tryz.func232.trans (congrArg some (by kernel_rfl))
 f296:=Tryz.func233.trans (congrArg some (by kernel_rfl))
 f297:=Tryz.func234.trans (congrArg some (by kernel_rfl))
 f298:=Tryz.func235.trans (congrArg some (by kernel_rfl))
 f299:=Tryz.func236.trans (congrArg some (by kernel_rfl))
 f300:=Tryz.func238.trans (congrArg some (by kernel_rfl))
 f301:=Tryz.func239.trans (congrArg some (by kernel_rfl))
 f328:=Tryz.func256.trans (congrArg some (by kernel_rfl))
 f329:=Tryz.func220.trans (congrArg some (by kernel_rfl))
 f330:=Tryz.func221.trans (congrArg some (by kernel_rfl))
 f331:=Tryz.func257.trans (congrArg some (by kernel_rfl))
 f332:=Tryz.func258.trans (congrArg some (by kernel_rfl))
 f343:=Tryz.func264.trans (congrArg some (by kernel_rfl))
 t0:=Tryz.underlying0
 a0:=Tryz.isAgg0
 z0:=Tryz.sizeOf0
 v0:=Tryz.zeroValue0
 t3:=Tryz.underlying3
 a3:=Tryz.isAgg3
 z3:=Tryz.sizeOf3
 v3:=Tryz.zeroValue3
 t4:=Tryz.underlying4
 a4:=Tryz.isAgg4
 z4:=Tryz.sizeOf4
 v4:=Tryz.zeroValue4
 t5:=Tryz.underlying5
 a5:=Tryz.isAgg5
 z5:=Tryz.sizeOf5
 v5:=Tryz.zeroValue5
 t9:=Tryz.underlying9
 a9:=Tryz.isAgg9
 z9:=Tryz.sizeOf9
 v9:=Tryz.zeroValue9
 t28:=Tryz.underlying33
 a28:=Tryz.isAgg33
 z28:=Tryz.sizeOf33
 v28:=Tryz.zeroValue33
 t46:=Tryz.underlying210
 a46:=Tryz.isAgg210
 z46:=Tryz.sizeOf210
 v46:=Tryz.zeroValue210
 t51:=Tryz.underlying255
 a51:=Tryz.isAgg255
 z51:=Tryz.sizeOf255
 v51:=Tryz.zeroValue255
 t53:=Tryz.underlying257
 a53:=Tryz.isAgg257
 z53:=Tryz.sizeOf257
 v53:=Tryz.zeroValue257
 t131:=Tryz.underlying107
 a131:=Tryz.isAgg107
 z131:=Tryz.sizeOf107
 v131:=Tryz.zeroValue107
 t182:=Tryz.underlying248
 a182:=Tryz.isAgg248
 z182:=Tryz.sizeOf248
 v182:=Tryz.zeroValue248
 t183:=Tryz.underlying249
 a183:=Tryz.isAgg249
 z183:=Tryz.sizeOf249
 v183:=Tryz.zeroValue249
 t218:=Tryz.underlying296
 a218:=Tryz.isAgg296
 z218:=Tryz.sizeOf296
 v218:=Tryz.zeroValue296
 t222:=Tryz.underlying300
 a222:=Tryz.isAgg300
 z222:=Tryz.sizeOf300
 v222:=Tryz.zeroValue300
 t228:=Tryz.underlying320
 a228:=Tryz.isAgg320
 z228:=Tryz.sizeOf320
 v228:=Tryz.zeroValue320
 t229:=Tryz.underlying162
 a229:=Tryz.isAgg162
 z229:=Tryz.sizeOf162
 v229:=Tryz.zeroValue162 }
theorem Z6(f:FuncId)(h:Nat.beq f 160=true):tu Tryz.prog f:=by
 obtain rfl:=cA h
 exact tu.of (ρ:=NW) Z4
end Go.Proofs.YtnaefnajkaohgaaGreatDoor
namespace Go.Proofs.YtnaefnajkaohgaaGreatDoor
open Go Go.AL
set_option maxRecDepth 10000 in
theorem Qo:qP Tryz.prog (gl Tryz.prog) 0 fns:=(.no (.no (.no (.no (.no (.no (.no (.has Xv (.no (.no (.no (.has Uy (.has UJ (.has UT (.has U5 (.has Vf (.no (.has Vy (.has VE (.no (.has V0 (.no (.has Wd (.no (.has Wp (.has Wx (.has WG (.has WN (.has WO (.no (.no (.has WV (.has WW (.has WX (.has WY (.has WZ (.has W0 (.has W1 (.has W2 (.has W3 (.has W4 (.no (.has W5 (.no (.no (.has W6 (.has W7 (.has W8 (.has W9 (.has Xa (.has Xb (.has Xc (.has Xd (.no (.has Xe (.no (.no (.has Xf (.has Xh (.has Xi (.has Xj (.has Xl (.has Xm (.has Xn (.has Xo (.has Xp (.has Xq (.has Xr (.has Xt (.has Xu (.has Xw (.has Xx (.has Xy (.has Xz (.has XA (.has XD (.has XE (.has XF (.has XH (.no (.no (.no (.no (.has XI (.has XJ (.has XK (.has XL (.has XM (.has XP (.has XQ (.has XR (.has XS (.has XU (.has XV (.has XW (.has XX (.has XY (.has XZ (.has X3 (.has X9 (.has Uq (.has Ur (.no (.no (.has Us (.has Ut (.has Uu (.has Uv (.has Uw (.has Ux (.has Uz (.has UA (.has UB (.has UC (.has UD (.has UE (.has UF (.has UG (.has UH (.has UI (.no (.has UK (.has UL (.has UM (.has UN (.has UO (.has UP (.has UQ (.has UR (.has US (.has UU (.has UW (.has UX (.has UY (.has UZ (.has U0 (.has U1 (.has U2 (.has U3 (.has U4 (.has U6 (.has U7 (.has U8 (.has U9 (.has U' (.has Va (.has Vb (.has Vc (.has Vd (.has Ve (.has Vg (.has Vh (.has Vi (.has Vj (.has Vk (.has Vl (.has Vm (.has Vn (.has Vo (.has Vp (.has Vq (.has Vr (.has Vs (.has Vt (.has Vu (.has Vv (.has Vw (.has Vx (.no (.no (.no (.no (.no (.no (.no (.no (.has Vz (.has VA (.has VC (.has VD (.has VF (.has VG (.has VH (.has VI (.has VJ (.has VK (.has VL (.has VM (.has VN (.has VO (.has VP (.has VQ (.has VR (.has VT (.has VU (.has VV (.has VW (.has VX (.has VY (.has VZ (.has V1 (.has V2 (.has V3 (.has V4 (.has V5 (.has V6 (.has V7 (.has V8 (.has V9 (.has V' (.has Wa (.has Wb (.no (.no (.no (.no (.no (.no (.no (.no (.no (.no (.no (.no (.has We (.has Wg (.has Wh (.has Wi (.has Wj (.has Wk (.has Wl (.has Wm (.no (.no (.no (.no (.no (.has Wn (.no (.no (.has Wq (.has Wr (.has Ws (.has Wu (.has Wv (.has Ww (.no (.no (.no (.no (.has Wy (.has Wz (.has WA (.has WB (.has WC (.has WD (.no (.no (.no (.has WE (.has WH (.has WI (.no (.has WJ (.no (.has WK (.has WL (.has WM (.no (.no (.no (.no (.no (.no (.no (.no (.no (.no (.no (.no (.no (.no (.no (.no (.no (.no (.no (.no (.no (.no (.no (.no (.no (.no (.has WQ (.has WR (.has WT (.has WU (.no (.no (.no (.no (.no (.no (.no (.nil _))))))))))))))))))))))))))))))))))))))))))))))))))))))))))))))))))))))))))))))))))))))))))))))))))))))))))))))))))))))))))))))))))))))))))))))))))))))))))))))))))))))))))))))))))))))))))))))))))))))))))))))))))))))))))))))))))))))))))))))))))))))))))))))))))))))))))))))))))))))))))))))))))))))))))))))))))
theorem Zt:tt Tryz.prog (gl Tryz.prog) rounds:=(.cons Zr (.cons Zs (.cons Zp (.cons Zq .nil))))
set_option maxRecDepth 10000 in
theorem aam:E4 Tryz.prog (gl Tryz.prog) T:=aan rfl Qo Zt Z7 Z6

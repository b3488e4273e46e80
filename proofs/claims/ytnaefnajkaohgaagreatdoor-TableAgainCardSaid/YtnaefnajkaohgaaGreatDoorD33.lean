/- Part 33 of the proof of skewer.skewerlaw15.TableAgain. -/
import Derived.Test.YtnaefnajkaohgaaGreatDoorProg
import Derived.Test.YtnaefnajkaohgaaGreatDoorD07
set_option linter.all false
namespace Go.Proofs.YtnaefnajkaohgaaGreatDoor
open Go Go.AL
def hX:IR→List (List Nat)
 | .seq a b=>hX a++hX b
 | .cond _ a b=>hX a++hX b
 | .block _ l a=>l::hX a
 | .loop l a=>l::hX a
 | .kF _ l _=>[l]
 | _=>[]
abbrev OK:=yC Tryz.prog (gl Tryz.prog)
theorem fk{f:FuncId}{fn:eQ}{func:Func}(h1:Tryz.prog.funcs[f]? = some func)(h2:func.body=some (GV func):=by kernel_rfl)(h3:oL Tryz.prog f=true:=by kernel_rfl)(h4:Nat.ble (lQ (GV func)).length 64=true:=by kernel_rfl)
  (h5:cC Tryz.prog (gl Tryz.prog) fn.ntmps (64*f) (hX fn.body) (GV func)=some (fn.body,[]):=by kernel_rfl) (h6:func.ntmps=fn.ntmps:=by kernel_rfl) (h7:uM Tryz.prog func.results.toList=some fn.results:=by kernel_rfl):OK f fn:=SZ h1 h2 h3 (dD h4) h5 h6 h7
theorem ok9:OK 9 F9:=fk Tryz.func9
theorem Xq:OK 11 Kv:=fk Tryz.func11
theorem XD:OK 12 BF:=fk Tryz.func12
theorem XQ:OK 13 BJ:=fk Tryz.func13
theorem Ye:OK 15 KF:=fk Tryz.func15
theorem YD:OK 17 B8:=fk Tryz.func17
theorem YI:OK 18 KP:=fk Tryz.func18
theorem Y2:OK 20 Co:=fk Tryz.func20
theorem Ze:OK 22 KY:=fk Tryz.func22
theorem Zl:OK 23 yu:=fk Tryz.func23
theorem Zo:OK 24 CB:=fk Tryz.func24
theorem Zv:OK 25 CH:=fk Tryz.func25
theorem ZD:OK 26 yv:=fk Tryz.func26
theorem ZK:OK 27 CS:=fk Tryz.func27
theorem ZL:OK 28 CT:=fk Tryz.func28
theorem ZM:OK 29 CU:=fk Tryz.func29
theorem ZR:OK 31 K8:=fk Tryz.func31
theorem ZS:OK 32 yw:=fk Tryz.func32
theorem ZT:OK 33 yx:=fk Tryz.func33
theorem ZU:OK 34 CZ:=fk Tryz.func34
theorem ZV:OK 35 C0:=fk Tryz.func35
theorem ZW:OK 36 C1:=fk Tryz.func36
theorem ZX:OK 40 K9:=fk Tryz.func40
theorem ZY:OK 42 La:=fk Tryz.func42
theorem ZZ:OK 45 C2:=fk Tryz.func45
theorem Z0:OK 46 wz:=fk Tryz.func46
theorem Z1:OK 47 C3:=fk Tryz.func47
theorem Z2:OK 48 wA:=fk Tryz.func48
theorem Z3:OK 49 sY:=fk Tryz.func49
theorem Z4:OK 50 C4:=fk Tryz.func50
theorem Z5:OK 51 C5:=fk Tryz.func51
theorem Z6:OK 52 yy:=fk Tryz.func52
theorem Z7:OK 53 sZ:=fk Tryz.func53
theorem Z8:OK 54 C6:=fk Tryz.func54
theorem Z9:OK 55 C7:=fk Tryz.func55
theorem Z':OK 57 yz:=fk Tryz.func57
theorem aac:OK 58 C8:=fk Tryz.func58
theorem aad:OK 59 C9:=fk Tryz.func59
theorem aae:OK 60 yA:=fk Tryz.func60
theorem aaf:OK 61 C':=fk Tryz.func61
theorem aag:OK 62 Da:=fk Tryz.func62

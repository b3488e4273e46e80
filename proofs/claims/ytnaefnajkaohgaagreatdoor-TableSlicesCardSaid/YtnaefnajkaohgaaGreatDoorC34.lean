/- Part 34 of the proof of skewer.skewerlaw15.TableSlices. -/
import Derived.Test.YtnaefnajkaohgaaGreatDoorProg
import Derived.Test.YtnaefnajkaohgaaGreatDoorC07
set_option linter.all false
namespace Go.Proofs.YtnaefnajkaohgaaGreatDoor
open Go Go.AL
def hX:IR→List (List Nat)
 | .seq a b=>hX a++hX b
 | .cond _ a b=>hX a++hX b
 | .block _ l a=>l::hX a
 | .loop l a=>l::hX a
 | .rangeF _ l _=>[l]
 | _=>[]
abbrev OK:=FnOK Tryz.prog (gl Tryz.prog)
theorem fk{f:FuncId}{fn:FnA}{func:Func}(h1:Tryz.prog.funcs[f]? = some func)(h2:func.body=some (bodyOf func):=by kernel_rfl)(h3:entersB Tryz.prog f=true:=by kernel_rfl)(h4:Nat.ble (rcs (bodyOf func)).length 64=true:=by kernel_rfl)
  (h5:cC Tryz.prog (gl Tryz.prog) fn.ntmps (64*f) (hX fn.body) (bodyOf func)=some (fn.body,[]):=by kernel_rfl) (h6:func.ntmps=fn.ntmps:=by kernel_rfl) (h7:cRs Tryz.prog func.results.toList=some fn.results:=by kernel_rfl):OK f fn:=fnOK_of h1 h2 h3 (Nat.le_of_ble_eq_true h4) h5 h6 h7
theorem ok5:OK 5 F5:=fk Tryz.func5
theorem ok11:OK 11 F11:=fk Tryz.func11
theorem ok12:OK 12 F12:=fk Tryz.func12
theorem ok13:OK 13 F13:=fk Tryz.func13
theorem ok15:OK 15 F15:=fk Tryz.func15
theorem ok17:OK 17 F17:=fk Tryz.func17
theorem ok18:OK 18 F18:=fk Tryz.func18
theorem ok20:OK 20 F20:=fk Tryz.func20
theorem ok22:OK 22 F22:=fk Tryz.func22
theorem ok23:OK 23 F23:=fk Tryz.func23
theorem ok24:OK 24 F24:=fk Tryz.func24
theorem ok25:OK 25 F25:=fk Tryz.func25
theorem ok26:OK 26 F26:=fk Tryz.func26
theorem ok27:OK 27 F27:=fk Tryz.func27
theorem ok28:OK 28 F28:=fk Tryz.func28
theorem ok31:OK 31 F31:=fk Tryz.func31
theorem ok32:OK 32 F32:=fk Tryz.func32
theorem ok33:OK 33 F33:=fk Tryz.func33
theorem ok34:OK 34 F34:=fk Tryz.func34
theorem ok35:OK 35 F35:=fk Tryz.func35
theorem ok36:OK 36 F36:=fk Tryz.func36
theorem ok40:OK 40 F40:=fk Tryz.func40
theorem ok42:OK 42 F42:=fk Tryz.func42
theorem ok45:OK 45 F45:=fk Tryz.func45
theorem ok46:OK 46 F46:=fk Tryz.func46
theorem ok47:OK 47 F47:=fk Tryz.func47
theorem ok48:OK 48 F48:=fk Tryz.func48
theorem ok49:OK 49 F49:=fk Tryz.func49
theorem ok50:OK 50 F50:=fk Tryz.func50
theorem ok51:OK 51 F51:=fk Tryz.func51
theorem ok52:OK 52 F52:=fk Tryz.func52
theorem ok54:OK 54 F54:=fk Tryz.func54
theorem ok57:OK 57 F57:=fk Tryz.func57
theorem ok58:OK 58 F58:=fk Tryz.func58
theorem ok59:OK 59 F59:=fk Tryz.func59
theorem ok60:OK 60 F60:=fk Tryz.func60
theorem ok61:OK 61 F61:=fk Tryz.func61
theorem ok62:OK 62 F62:=fk Tryz.func62
end Go.Proofs.YtnaefnajkaohgaaGreatDoor

/- Part 44 of the proof of skewer.skewerlaw15.TableRefuses. -/
import Derived.Test.YtnaefnajkaohgaaGreatDoorA08
import Derived.Test.YtnaefnajkaohgaaGreatDoorProg
set_option linter.all false
namespace Go.Proofs.YtnaefnajkaohgaaGreatDoor
open Go Go.AL
abbrev OK:=FnOK Tryz.prog (gl Tryz.prog)
theorem fk{f:FuncId}{fn:FnA}{func:Func}(hs:List (List Nat))(h1:Tryz.prog.funcs[f]? = some func)(h2:func.body=some (bodyOf func):=by kernel_rfl)(h3:entersB Tryz.prog f=true:=by kernel_rfl)(h4:Nat.ble (rcs (bodyOf func)).length 64=true:=by kernel_rfl)
  (h5:cC Tryz.prog (gl Tryz.prog) fn.ntmps (64*f) hs (bodyOf func)=some (fn.body,[]):=by kernel_rfl) (h6:func.ntmps=fn.ntmps:=by kernel_rfl) (h7:cRs Tryz.prog func.results.toList=some fn.results:=by kernel_rfl):OK f fn:=fnOK_of h1 h2 h3 (Nat.le_of_ble_eq_true h4) h5 h6 h7
theorem ok8:OK 8 F8:=fk [] Tryz.func8
theorem ok11:OK 11 F11:=fk [] Tryz.func11
theorem ok12:OK 12 F12:=fk [] Tryz.func12
theorem ok13:OK 13 F13:=fk [] Tryz.func13
theorem ok14:OK 14 F14:=fk [] Tryz.func14
theorem ok15:OK 15 F15:=fk [] Tryz.func15
theorem ok17:OK 17 F17:=fk [] Tryz.func17
theorem ok18:OK 18 F18:=fk [] Tryz.func18
theorem ok20:OK 20 F20:=fk [] Tryz.func20
theorem ok22:OK 22 F22:=fk [[],[0,1,5],[0,1,5]] Tryz.func22
theorem ok24:OK 24 F24:=fk [[],[0,1,5],[0,1,5]] Tryz.func24
theorem ok25:OK 25 F25:=fk [[],[0,1,5],[0,1,5]] Tryz.func25
theorem ok26:OK 26 F26:=fk [[2,3,7,8],[7,8]] Tryz.func26
theorem ok27:OK 27 F27:=fk [[],[0,3,5,6],[0,3,5,6]] Tryz.func27
theorem ok31:OK 31 F31:=fk [] Tryz.func31
theorem ok32:OK 32 F32:=fk [[1,2,3,4,5],[1,2,3,4,5,6],[1,2,3,4,5,6]] Tryz.func32
theorem ok33:OK 33 F33:=fk [[6,7],[2,3,6,7,8],[2,3,6,7,8],[2,3,6,7,9],[2,3,6,7,8,9,10],[2,3,6,7,8,9,10],[2,3,6,7,8],[2,3,6,7,8,9,11],[2,3,6,7,8,9,11]] Tryz.func33
theorem ok34:OK 34 F34:=fk [[4,5],[2,3,4,5,6],[2,3,4,5,6]] Tryz.func34
theorem ok35:OK 35 F35:=fk [[],[2,3,5],[2,3,5],[2,3,5],[2,3,5,6],[2,3,5,6]] Tryz.func35
theorem ok36:OK 36 F36:=fk [[2,3],[1,2,3,4],[1,2,3,4]] Tryz.func36
theorem ok37:OK 37 F37:=fk [[6],[1,2,6,7],[1,2,6,7],[1,2,6,7,9],[1,2,6,7,8,9,10],[1,2,6,7,8,9,10]] Tryz.func37
theorem ok38:OK 38 F38:=fk [[1,7],[1,2,7,8],[1,2,7,8],[1,2,8,9],[1,2,7,8,9,10],[1,2,7,8,9,10],[11],[1,7,11,12],[1,7,11,12]] Tryz.func38
theorem ok39:OK 39 F39:=fk [[1,2,3,4,9],[1,2,3,4,9,10],[1,2,3,4,9,10],[9],[1,3,9,11,12,13],[1,3,9,11,12,13]] Tryz.func39
theorem ok40:OK 40 F40:=fk [[5,6,7,10,12,13],[5,6,7,10,12,13,42,43],[5,6,7,10,12,13,42,43],[12],[7,10,12,13,15,16],[7,10,12,13,15,16],[7,10,12,13,15,16],[7,10,12,13,15,16,56,57,58],[7,10,12,13,15,16,56,57,58]] Tryz.func40
theorem ok42:OK 42 F42:=fk [[2,3,5,11],[2,3,5,11,33,34],[2,3,5,11,33,34],[11,14],[3,11,14,48,49,50],[3,11,14,48,49,50]] Tryz.func42
theorem ok45:OK 45 F45:=fk [[2,3,4,13],[1,2,3,4,13,15,34,35,36],[1,2,3,4,13,15,34,35,36]] Tryz.func45
theorem ok46:OK 46 F46:=fk [[],[2,3,9,10,11],[2,3,9,10,11]] Tryz.func46
theorem ok47:OK 47 F47:=fk [] Tryz.func47
theorem ok48:OK 48 F48:=fk [] Tryz.func48
theorem ok49:OK 49 F49:=fk [[5],[3,5,15,16,17],[3,5,15,16,17],[3,5,15,16,17],[3,5,6,7,15,16,17,23,24,25],[3,5,6,7,15,16,17,23,24,25]] Tryz.func49
theorem ok50:OK 50 F50:=fk [[],[5,6],[5,6]] Tryz.func50
theorem ok51:OK 51 F51:=fk [] Tryz.func51
theorem ok52:OK 52 F52:=fk [[1,2,7],[1,2,7,37,38,39],[1,2,7,37,38,39],[10],[2,7,10,52,53,54],[2,7,10,52,53,54],[2,7,10,52,53,54],[2,7,10,11,52,53,54,61,62,63],[2,7,10,11,52,53,54,61,62,63]] Tryz.func52
theorem ok54:OK 54 F54:=fk [] Tryz.func54
theorem ok57:OK 57 F57:=fk [[1,2,3,4],[1,2,3,4,5],[1,2,3,4,5],[1,2,3,4,5,6],[1,2,3,4,5,6,7],[1,2,3,4,5,6,7],[2,3],[1,2,3,4,8],[1,2,3,4,8]] Tryz.func57
theorem ok58:OK 58 F58:=fk [[7],[2,3,4,7,8],[2,3,4,7,8]] Tryz.func58
theorem ok59:OK 59 F59:=fk [[2,3,4,5],[2,3,4,5,6],[2,3,4,5,6],[4,5],[2,3,4,5,8],[2,3,4,5,8],[2,3,4,5,8],[2,3,4,5,8,9],[2,3,4,5,8,9]] Tryz.func59
theorem ok60:OK 60 F60:=fk [[2,3,5,6,7],[2,3,5,6,7,8],[2,3,5,6,7,8],[2,3,6,7],[2,3,5,6,7,9],[2,3,5,6,7,9]] Tryz.func60
theorem ok61:OK 61 F61:=fk [[4],[3,4,5],[3,4,5]] Tryz.func61
theorem ok62:OK 62 F62:=fk [[],[1,2,3,7],[1,2,3,7],[1,2,3,7],[1,2,3,7,8,9],[1,2,3,7,8,9]] Tryz.func62
theorem ok63:OK 63 F63:=fk [[5],[2,5,6],[2,5,6],[2,5,6],[2,5,6,7],[2,5,6,7],[2,5,6,7,8],[2,5,6,7,8,9],[2,5,6,7,8,9]] Tryz.func63
theorem ok64:OK 64 F64:=fk [[],[0,3],[0,3]] Tryz.func64
theorem ok65:OK 65 F65:=fk [[],[2,3,5],[2,3,5]] Tryz.func65
theorem ok66:OK 66 F66:=fk [[5],[1,2,5,6],[1,2,5,6]] Tryz.func66
theorem ok67:OK 67 F67:=fk [[1,2,6,7,8],[0,1,2,6,7,8,9],[0,1,2,6,7,8,9]] Tryz.func67
theorem ok68:OK 68 F68:=fk [[9],[1,2,3,4,9,10],[1,2,3,4,9,10],[1,2,3,4,9,10],[1,2,3,4,9,10,11],[1,2,3,4,9,10,11],[1,2,3,4,9,10,11,12,13,14],[1,2,3,4,9,10,11,12,13,14,15],[1,2,3,4,9,10,11,12,13,14,15]] Tryz.func68
theorem ok69:OK 69 F69:=fk [] Tryz.func69
theorem ok70:OK 70 F70:=fk [] Tryz.func70
theorem ok71:OK 71 F71:=fk [] Tryz.func71
theorem ok72:OK 72 F72:=fk [] Tryz.func72
theorem ok73:OK 73 F73:=fk [] Tryz.func73
theorem ok74:OK 74 F74:=fk [] Tryz.func74
theorem ok75:OK 75 F75:=fk [[9],[1,2,3,9,13,14,15],[1,2,3,9,13,14,15],[1,2,3,9,13,14,15]] Tryz.func75
theorem ok76:OK 76 F76:=fk [] Tryz.func76
theorem ok77:OK 77 F77:=fk [[5],[2,5,13,14,15],[2,5,13,14,15],[9],[5,9,37,38,39],[5,9,37,38,39]] Tryz.func77
theorem ok78:OK 78 F78:=fk [[3,4,5],[3,4,5,20,21,22],[3,4,5,20,21,22],[3,4,9],[3,4,5,9],[9],[3,9,96,97,98],[3,9,96,97,98]] Tryz.func78
theorem ok83:OK 83 F83:=fk [[],[0,1,2,14,15,16],[0,1,2,14,15,16],[0,1,2,14,15,16],[0,1,2,4,14,15,16,40,41],[0,1,2,4,14,15,16,40,41],[0,1,2,4,14,15,16,40,41],[0,1,2,4,14,15,16,40,41,52,53,54],[0,1,2,4,14,15,16,40,41,52,53,54]] Tryz.func83
theorem ok84:OK 84 F84:=fk [] Tryz.func84
theorem ok85:OK 85 F85:=fk [] Tryz.func85
end Go.Proofs.YtnaefnajkaohgaaGreatDoor

/- Part 32 of the proof of skewer.skewerlaw15.TableValues. -/
import Derived.Test.YtnaefnajkaohgaaGreatDoorProg
import Derived.Test.YtnaefnajkaohgaaGreatDoorE07
set_option linter.all false
namespace Go.Proofs.YtnaefnajkaohgaaGreatDoor
open Go Go.AL
def hX:IR→List (List Nat)
 | .seq a b=>hX a++hX b
 | .cond _ a b=>hX a++hX b
 | .block _ l a=>l::hX a
 | .loop l a=>l::hX a
 | .kX _ l _=>[l]
 | _=>[]
abbrev OK:=zj Tryz.prog (gl Tryz.prog)
theorem fk{f:FuncId}{fn:eW}{func:Func}(h1:Tryz.prog.funcs[f]? = some func)(h2:func.body=some (HH func):=by kernel_rfl)(h3:o5 Tryz.prog f=true:=by kernel_rfl)(h4:Nat.ble (ml (HH func)).length 64=true:=by kernel_rfl)
  (h5:cC Tryz.prog (gl Tryz.prog) fn.ntmps (64*f) (hX fn.body) (HH func)=some (fn.body,[]):=by kernel_rfl) (h6:func.ntmps=fn.ntmps:=by kernel_rfl) (h7:vi Tryz.prog func.results.toList=some fn.results:=by kernel_rfl):OK f fn:=T5 h1 h2 h3 (dQ h4) h5 h6 h7
theorem YN:OK 10 Cd:=fk Tryz.func10
theorem YY:OK 11 Lf:=fk Tryz.func11
theorem Y8:OK 12 Cr:=fk Tryz.func12
theorem Zh:OK 13 Cu:=fk Tryz.func13
theorem ZC:OK 15 Ln:=fk Tryz.func15
theorem ZU:OK 17 Ls:=fk Tryz.func17
theorem ZZ:OK 18 CY:=fk Tryz.func18
theorem aak:OK 20 Ly:=fk Tryz.func20
theorem aax:OK 22 LC:=fk Tryz.func22
theorem aaG:OK 24 Dp:=fk Tryz.func24
theorem aaN:OK 25 Du:=fk Tryz.func25
theorem aaV:OK 26 zc:=fk Tryz.func26
theorem aa2:OK 27 DF:=fk Tryz.func27
theorem aa3:OK 29 DG:=fk Tryz.func29
theorem aa8:OK 30 DL:=fk Tryz.func30
theorem aa9:OK 31 LO:=fk Tryz.func31
theorem abb:OK 32 zd:=fk Tryz.func32
theorem abd:OK 33 ze:=fk Tryz.func33
theorem abe:OK 34 DM:=fk Tryz.func34
theorem abf:OK 35 DN:=fk Tryz.func35
theorem abg:OK 36 DO:=fk Tryz.func36
theorem abh:OK 40 LP:=fk Tryz.func40
theorem abi:OK 42 DP:=fk Tryz.func42
theorem abj:OK 45 LQ:=fk Tryz.func45
theorem abk:OK 46 xc:=fk Tryz.func46
theorem abl:OK 47 DQ:=fk Tryz.func47
theorem abm:OK 48 xd:=fk Tryz.func48
theorem abn:OK 49 tD:=fk Tryz.func49
theorem abo:OK 50 DR:=fk Tryz.func50
theorem abp:OK 51 DS:=fk Tryz.func51
theorem abq:OK 52 zf:=fk Tryz.func52
theorem abr:OK 53 tE:=fk Tryz.func53
theorem abt:OK 54 DT:=fk Tryz.func54
theorem abu:OK 55 DU:=fk Tryz.func55
theorem abv:OK 56 DV:=fk Tryz.func56
theorem abw:OK 57 zg:=fk Tryz.func57
theorem abx:OK 58 DW:=fk Tryz.func58
theorem aby:OK 59 DX:=fk Tryz.func59
theorem abz:OK 60 zh:=fk Tryz.func60
theorem abA:OK 61 DY:=fk Tryz.func61
theorem abB:OK 62 DZ:=fk Tryz.func62

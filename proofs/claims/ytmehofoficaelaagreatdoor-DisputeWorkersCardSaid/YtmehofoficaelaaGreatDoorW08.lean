/- Part 8 of DisputeWorkers. -/
import Derived.Test.YtmehofoficaelaaGreatDoorProg
import Derived.Test.YtmehofoficaelaaGreatDoorW07
set_option linter.all false
namespace Go.Proofs.YtmehofoficaelaaGreatDoor
open Go Go.AL Tryz
noncomputable def tl:Array (Unit->Array (Unit->TypeInfo)):=#[λ_=>#[λ_=>t0,λ_=>t1,λ_=>t2,λ_=>t3,λ_=>t4,λ_=>t5,λ_=>t6,λ_=>t7,λ_=>t8,λ_=>t9,λ_=>t10,λ_=>t11,λ_=>t12,λ_=>t13,λ_=>t14,λ_=>t15,λ_=>t16,λ_=>t17,λ_=>t18,λ_=>t19],
 λ_=>#[λ_=>t20,λ_=>t21,λ_=>t22,λ_=>t23,λ_=>t24,λ_=>t25,λ_=>t26,λ_=>t27,λ_=>t28,λ_=>t29,λ_=>t30,λ_=>t31,λ_=>t32,λ_=>t33,λ_=>t34,λ_=>t35,λ_=>t36,λ_=>t37,λ_=>t38,λ_=>t39],
 λ_=>#[λ_=>t40,λ_=>t41,λ_=>t42,λ_=>t43,λ_=>t44,λ_=>t45,λ_=>t46,λ_=>t47,λ_=>t48,λ_=>t49,λ_=>t50,λ_=>t51,λ_=>t52,λ_=>t53,λ_=>t54,λ_=>t55,λ_=>t56,λ_=>t57,λ_=>t58,λ_=>t59],
 λ_=>#[λ_=>t60,λ_=>t61,λ_=>t62,λ_=>t63,λ_=>t64,λ_=>t65,λ_=>t66,λ_=>t67,λ_=>t68,λ_=>t69,λ_=>t70,λ_=>t71,λ_=>t72,λ_=>t73,λ_=>t74,λ_=>t75,λ_=>t76,λ_=>t77,λ_=>t78,λ_=>t79],
 λ_=>#[λ_=>t80,λ_=>t81,λ_=>t82,λ_=>t83,λ_=>t84,λ_=>t85,λ_=>t86,λ_=>t87,λ_=>t88,λ_=>t89,λ_=>t90,λ_=>t91,λ_=>t92,λ_=>t93,λ_=>t94,λ_=>t95,λ_=>t96,λ_=>t97,λ_=>t98,λ_=>t99],
 λ_=>#[λ_=>t100,λ_=>t101,λ_=>t102,λ_=>t103,λ_=>t104,λ_=>t105,λ_=>t106,λ_=>t107,λ_=>t108,λ_=>t109,λ_=>t110,λ_=>t111,λ_=>t112,λ_=>t113,λ_=>t114,λ_=>t115,λ_=>t116,λ_=>t117,λ_=>t118,λ_=>t119],
 λ_=>#[λ_=>t120,λ_=>t121,λ_=>t122,λ_=>t123,λ_=>t124,λ_=>t125,λ_=>t126,λ_=>t127,λ_=>t128,λ_=>t129,λ_=>t130,λ_=>t131,λ_=>t132,λ_=>t133,λ_=>t134,λ_=>t135,λ_=>t136,λ_=>t137,λ_=>t138,λ_=>t139],
 λ_=>#[λ_=>t140,λ_=>t141,λ_=>t142,λ_=>t143,λ_=>t144,λ_=>t145,λ_=>t146,λ_=>t147,λ_=>t148,λ_=>t149,λ_=>t150,λ_=>t151,λ_=>t152,λ_=>t153,λ_=>t154,λ_=>t155,λ_=>t156,λ_=>t157,λ_=>t158,λ_=>t159],
 λ_=>#[λ_=>t160,λ_=>t161,λ_=>t162,λ_=>t163,λ_=>t164,λ_=>t165,λ_=>t166,λ_=>t167,λ_=>t168,λ_=>t169,λ_=>t170,λ_=>t171,λ_=>t172,λ_=>t173,λ_=>t174,λ_=>t175,λ_=>t176,λ_=>t177,λ_=>t178,λ_=>t179],
 λ_=>#[λ_=>t180,λ_=>t181,λ_=>t182,λ_=>t183,λ_=>t184,λ_=>t185,λ_=>t186,λ_=>t187,λ_=>t188,λ_=>t189,λ_=>t190,λ_=>t191,λ_=>t192,λ_=>t193,λ_=>t194,λ_=>t195,λ_=>t196,λ_=>t197,λ_=>t198,λ_=>t199],
 λ_=>#[λ_=>t200,λ_=>t201,λ_=>t202,λ_=>t203,λ_=>t204,λ_=>t205,λ_=>t206,λ_=>t207,λ_=>t208,λ_=>t209,λ_=>t210,λ_=>t211,λ_=>t212,λ_=>t213,λ_=>t214,λ_=>t215,λ_=>t216,λ_=>t217,λ_=>t218,λ_=>t219],
 λ_=>#[λ_=>t220,λ_=>t221,λ_=>t222,λ_=>t223,λ_=>t224,λ_=>t225,λ_=>t226,λ_=>t227,λ_=>t228,λ_=>t229,λ_=>t230,λ_=>t231,λ_=>t232,λ_=>t233,λ_=>t234,λ_=>t235,λ_=>t236,λ_=>t237,λ_=>t238,λ_=>t239],
 λ_=>#[λ_=>t240,λ_=>t241,λ_=>t242,λ_=>t243,λ_=>t244,λ_=>t245,λ_=>t246,λ_=>t247,λ_=>t248,λ_=>t249,λ_=>t250,λ_=>t251,λ_=>t252,λ_=>t253,λ_=>t254,λ_=>t255,λ_=>t256,λ_=>t257,λ_=>t258,λ_=>t259],
 λ_=>#[λ_=>t260,λ_=>t261,λ_=>t262,λ_=>t263,λ_=>t264,λ_=>t265,λ_=>t266,λ_=>t267,λ_=>t268,λ_=>t269,λ_=>t270,λ_=>t271,λ_=>t272,λ_=>t273,λ_=>t274,λ_=>t275,λ_=>t276,λ_=>t277,λ_=>t278,λ_=>t279],
 λ_=>#[λ_=>t280,λ_=>t281,λ_=>t282,λ_=>t283,λ_=>t284,λ_=>t285,λ_=>t286,λ_=>t287,λ_=>t288,λ_=>t289,λ_=>t290,λ_=>t291,λ_=>t292,λ_=>t293,λ_=>t294,λ_=>t295,λ_=>t296,λ_=>t297,λ_=>t298,λ_=>t299],
 λ_=>#[λ_=>t300,λ_=>t301,λ_=>t302,λ_=>t303,λ_=>t304,λ_=>t305,λ_=>t306,λ_=>t307,λ_=>t308,λ_=>t309,λ_=>t310,λ_=>t311,λ_=>t312,λ_=>t313,λ_=>t314,λ_=>t315,λ_=>t316,λ_=>t317,λ_=>t318,λ_=>t319],
 λ_=>#[λ_=>t320,λ_=>t321,λ_=>t322,λ_=>t323,λ_=>t324,λ_=>t325,λ_=>t326,λ_=>t327,λ_=>t328,λ_=>t329,λ_=>t330,λ_=>t331,λ_=>t332,λ_=>t333,λ_=>t334,λ_=>t335,λ_=>t336,λ_=>t337,λ_=>t338,λ_=>t339],
 λ_=>#[λ_=>t340,λ_=>t341,λ_=>t342,λ_=>t343,λ_=>t344,λ_=>t345,λ_=>t346,λ_=>t347,λ_=>t348,λ_=>t349,λ_=>t350,λ_=>t351,λ_=>t352,λ_=>t353,λ_=>t354,λ_=>t355,λ_=>t356,λ_=>t357,λ_=>t358,λ_=>t359],
 λ_=>#[λ_=>t360,λ_=>t361,λ_=>t362,λ_=>t363,λ_=>t364,λ_=>t365,λ_=>t366,λ_=>t367,λ_=>t368,λ_=>t369,λ_=>t370,λ_=>t371,λ_=>t372,λ_=>t373,λ_=>t374,λ_=>t375,λ_=>t376,λ_=>t377,λ_=>t378,λ_=>t379],
 λ_=>#[λ_=>t380,λ_=>t381,λ_=>t382,λ_=>t383,λ_=>t384,λ_=>t385,λ_=>t386,λ_=>t387,λ_=>t388,λ_=>t389,λ_=>t390,λ_=>t391,λ_=>t392,λ_=>t393,λ_=>t394,λ_=>t395,λ_=>t396,λ_=>t397,λ_=>t398,λ_=>t399],
 λ_=>#[λ_=>t400,λ_=>t401,λ_=>t402,λ_=>t403,λ_=>t404,λ_=>t405,λ_=>t406,λ_=>t407,λ_=>t408,λ_=>t409,λ_=>t410,λ_=>t411,λ_=>t412,λ_=>t413,λ_=>t414,λ_=>t415,λ_=>t416,λ_=>t417,λ_=>t418,λ_=>t419],
 λ_=>#[λ_=>t420,λ_=>t421,λ_=>t422,λ_=>t423,λ_=>t424,λ_=>t425,λ_=>t426,λ_=>t427,λ_=>t428,λ_=>t429,λ_=>t430,λ_=>t431,λ_=>t432,λ_=>t433,λ_=>t434,λ_=>t435,λ_=>t436,λ_=>t437,λ_=>t438,λ_=>t439],
 λ_=>#[λ_=>t440,λ_=>t441,λ_=>t442,λ_=>t443,λ_=>t444,λ_=>t445,λ_=>t446,λ_=>t447,λ_=>t448,λ_=>t449,λ_=>t450,λ_=>t451,λ_=>t452,λ_=>t453,λ_=>t454,λ_=>t455,λ_=>t456,λ_=>t457,λ_=>t458,λ_=>t459]]
noncomputable def qI(t:Nat):TypeInfo:=match tl[t / 20]? with
 | some f=>match (f ())[t % 20]? with
  | some f=>f ()
  | none=>t0
 | none=>t0
def QB:Nat->Option (List D):=λg=>if g=0 then some [.val .nilFunc,.fn (.func 364) [] [],.fn (.func 366) [] [],.fn (.func 367) [] []]else if g=1 then some DJ else if g=2 then some DS else none
def tG(g:Nat)(l:List D):List D:=if g<1000 then(QB g).getD []else if g<2000 then Zw (g-1000)++l else Zb (g-2000)++l
def WY:List Nat:=[30,33,95,150,183,184,205,224,265]
@[simp] theorem auh:tG 0 [] = [.val .nilFunc,.fn (.func 364) [] [],.fn (.func 366) [] [],.fn (.func 367) [] []]:=rfl
@[simp] theorem aui:tG 1 []=DJ:=rfl
@[simp] theorem aum:tG 2 []=DS:=rfl
@[simp] theorem auj(l:List D):tG 1008 l=Zw 8++l:=rfl
@[simp] theorem aun(l:List D):tG 2008 l=Zb 8++l:=rfl
@[simp] theorem auk(l:List D):tG 1032 l=Zw 32++l:=rfl
@[simp] theorem auo(l:List D):tG 2032 l=Zb 32++l:=rfl
@[simp] theorem aul(l:List D):tG 1064 l=Zw 64++l:=rfl
@[simp] theorem aup(l:List D):tG 2064 l=Zb 64++l:=rfl
noncomputable def qU(t:Nat):TypeDesc:=match (qI t).desc with
 | .named _ r=>(qI r).desc
 | d=>d
noncomputable def qS(t:Nat):Nat:=(qI t).size
noncomputable def qV(t:Nat):List D:=match (qI t).zero with
 | some z=>z.cells.toList.map tB
 | none=>[]
noncomputable def qW(Z:Nat->List D->List D)(t:Nat)(l:List D):List D:=match qU t with
 | .array n e=>if n % 8=0 then(match qU e with
  | .int .u32=>Z (1000+n) l
  | .int .u8=>Z (2000+n) l
  | _=>qV t++l)else qV t++l
 | _=>qV t++l
noncomputable def qY(Z:Nat->List D->List D)(t:Nat)(l:List D):List D:=match qU t with
 | .struct fs=>fs.toList.foldr (λf l=>qW Z f.type l) l
 | _=>qW Z t l
noncomputable def qZ(Z:Nat->List D->List D)(t:Nat):List D:=match qU t with
 | .struct fs=>fs.toList.foldr (λf l=>qY Z f.type l) []
 | _=>qW Z t []
noncomputable def qD(Z:Nat->List D->List D)(t:Nat):D:=match (qI t).zero with
 | some (.agg _)=>.agg (qZ Z t)
 | some v=>tB v
 | none=>.any
noncomputable def qG(t:Nat):Bool:=match qU t with
 | .struct _=>true
 | .array _ _=>true
 | _=>false
noncomputable def qE(t:Nat):Nat:=match qU t with
 | .slice e=>e
 | .array _ e=>e
 | .map _ e=>e
 | _=>0
noncomputable def qX(Z:Nat->List D->List D):Operand->X
 | .tmp t=>.t t
 | .const (.agg cs)=>.c (.agg (cs.toList.map tB))
 | .const v=>.c (tB v)
 | .global g=>.c (.gu (Z g []))
 | .func f=>.c (.fn (.func f) [] [])
noncomputable def Th(Z:Nat->List D->List D)(l:Array Operand):List X:=l.toList.map (qX Z)
noncomputable def qL(t:Nat):mB:=match qU t with
 | .string=>.str
 | .bool=>.bool
 | _=>.int
noncomputable def qLs(t:Nat):List mB:=match qU t with
 | .struct fs=>fs.toList.map λf=>qL f.type
 | .array n e=>List.replicate n (qL e)
 | _=>[]
noncomputable def qI'(t:Nat):IntKind:=match qU t with
 | .int k=>k
 | _=>.i64
noncomputable def qK(t:Nat):KK:=match qU t with
 | .struct fs=>.ints (fs.toList.map λf=>qI' f.type)
 | .int k=>.int k
 | .string=>.str
 | _=>.bool
noncomputable def qM(t:Nat):KK:=match qU t with
 | .map k _=>qK k
 | _=>.bool
noncomputable def qF(t:Nat)(i:Nat):Nat×Nat:=match qU t with
 | .struct fs=>match fs[i]? with
  | some f=>(f.offset,f.type)
  | none=>(0,0)
 | _=>(0,0)
noncomputable def qQ(n:Bool)(op:BinOp)(t:Nat)(a b:X):iL:=match qU t with
 | .bool=>.eqS false [.bool] n a b
 | .int _=>.arith op a b
 | .string=>.arith op a b
 | .slice _=>.nilS n a
 | _=>.eqS true (qLs t) n a b
noncomputable def qC(Z:Nat->List D->List D)(c:Call)(a:List X):iL:=match c.callee with
 | .value (.func f)=>if elem f WY then .callN f a else .call f a
 | .value f=>.callv (qX Z f) a
 | .builtin b=>match c.argTypes.toList,a with
  | [t],[x]=>match b with
   | .len=>match qU t with
    | .string=>.len .string x
    | .map _ _=>.len .map x
    | _=>.len .slice x
   | .cap=>.capE x
   | _=>.clr (qS (qE t)) (qZ Z (qE t)) x
  | [t,u],[x,y]=>match b with
   | .append=>match qU u with
    | .int _=>.appZ (qE t) (qS (qE t)) (qI (qE t)).bytes (qZ Z (qE t)) x y
    | _=>.app (qE t) (qS (qE t)) (qI (qE t)).bytes x y
   | .copy=>.copy (qS (qE t)) x y
   | .max=>.minmax true a
   | _=>.minmax false a
  | _,_=>match b with
   | .max=>.minmax true a
   | _=>.minmax false a
 | _=>.mv (.c .any)
noncomputable def qH:Operand->Bool
 | .global g=>decide (2<g)
 | _=>false
noncomputable def qO(Z:Nat->List D->List D):Op->iL
 | .move x=>.mv (qX Z x)
 | .assign x=>.mv (qX Z x)
 | .pick c a b=>.pick (qX Z c) (qX Z a) (qX Z b)
 | .box e x=>.box e (qX Z x)
 | .alloc e=>.alloc e (qZ Z e)
 | .build t l=>match qU t with
  | .array _ e=>.build (qZ Z t) (l.toList.map λp=>(p.1*qS e,qS e,qX Z p.2))
  | _=>.build (qZ Z t) (l.toList.map λp=>((qF t p.1).1,qS (qF t p.1).2,qX Z p.2))
 | .buildSlice t n l=>.buildSl (qE t) (qS (qE t)) (qZ Z (qE t)) n (l.toList.map λp=>(p.1,qX Z p.2))
 | .load t a=>if qG t then .ldN (qS t) (qX Z a)else .ld1 (qX Z a)
 | .store t a v=>if qG t then .stN (qS t) (qX Z a) (qX Z v)else .st1 (qX Z a) (qX Z v)
 | .nilCheck x=>.nilck (qX Z x)
 | .binOp .eql t x y _=>qQ false .eql t (qX Z x) (qX Z y)
 | .binOp .neq t x y _=>qQ true .neq t (qX Z x) (qX Z y)
 | .binOp op _ x y _=>.arith op (qX Z x) (qX Z y)
 | .unOp op _ x=>.un op (qX Z x)
 | .convert _ d x=>match qU d with
  | .int k=>.conv k (qX Z x)
  | _=>.b2s (qX Z x)
 | .makeFunc f a c=>.mkfn f (Th Z a) (Th Z c)
 | .makeMap t _=>.mkmap (qM t)
 | .lookup t x i ok=>.lookup (qM t) (qD Z (qE t)) ok (qX Z x) (qX Z i)
 | .mapUpdate t m k v=>.mapUpd (qM t) (qX Z m) (qX Z k) (qX Z v)
 | .insert t m k v=>.mapUpd (qM t) (qX Z m) (qX Z k) (qX Z v)
 | .makeSlice t l c=>.mksl (qE t) (qS (qE t)) (qI (qE t)).bytes (qZ Z (qE t)) (qX Z l) (qX Z c)
 | .slice t x lo (some hi) (some mx)=>.slc3 (qS (qE t)) (qX Z x) (lo.map (qX Z)) (qX Z hi) (qX Z mx)
 | .slice t x lo hi _=>match qU t with
  | .string=>.slcS (qX Z x) (lo.map (qX Z)) (hi.map (qX Z))
  | .array n e=>.slcArr (qS e) n (qX Z x) (lo.map (qX Z)) (hi.map (qX Z))
  | _=>.slc (qS (qE t)) (qX Z x) (lo.map (qX Z)) (hi.map (qX Z))
 | .fieldAddr t x f=>.fieldA (qF t f).1 (qX Z x)
 | .field t x f=>.field (qF t f).1 (qS (qF t f).2) (qG (qF t f).2) (qX Z x)
 | .indexAddr t x i=>match qU t with
  | .array n e=>if qH x then .mv (.c .any)else .idxArr (qS e) n (qX Z x) (qX Z i)
  | _=>.idxA (qS (qE t)) (qX Z x) (qX Z i)
 | .index t x i=>match qU t with
  | .array n e=>.idx (qS e) n (qG e) (qX Z x) (qX Z i)
  | _=>.idxStr (qX Z x) (qX Z i)
 | .extract x i=>.ext (qX Z x) i
 | .call c=>qC Z c (Th Z c.args)
 | .range t x=>match qU t with
  | .string=>.rangeS (qX Z x)
  | _=>.rangeM (qX Z x)
 | .next x s=>if s then .nextS (qX Z x)else .nextM (qX Z x)
 | .entry x=>.entry (qX Z x)
 | .mapEntry t m k=>.mapEnt (qM t) (qD Z (qE t)) (qX Z m) (qX Z k)
 | .entryStore _ m s x=>.entSt (qX Z m) (qX Z s) (qX Z x)
 | _=>.mv (.c .any)
noncomputable def qA(Z:Nat->List D->List D)(ops:Array Oper)(o:Oper):ic:=⟨o.dst,qO Z o.op,match o.guard with
 | some (j,w)=>some ((match ops[j]? with
  | some q=>q.dst.getD 0
  | none=>0),w)
 | none=>none⟩
noncomputable def qT(e:ic):Bool:=match e.op with
 | .mv (.c .any)=>true
 | _=>false
def qP:List Nat->List (Nat×Nat)
 | a::b::l=>(a,b)::qP l
 | _=>[]
noncomputable def qB(Z:Nat->List D->List D)(rf:Nat):List (List Nat)->Code->IR×List (List Nat)
 | hs,.skip=>(.skip,hs)
 | hs,.region _ ops d=>if (ops.toList.map (qA Z ops)).any qT then(.bad,hs)else match d with
  | false=>(.ops (ops.toList.map (qA Z ops)),hs)
  | true=>match hs with
   | (9999::n::l)::hs=>(.mR (qP l) ((ops.toList.map (qA Z ops)).take n) ((ops.toList.map (qA Z ops)).drop n),hs)
   | l::hs=>(.l6 (qP l) (ops.toList.map (qA Z ops)),hs)
   | []=>(.bad,[])
 | hs,.seq a b=>match qB Z rf hs a with
  | (x,lz)=>match qB Z (rf+(nY a).length) lz b with
   | (y,lU)=>(.seq x y,lU)
 | hs,.cond c a b=>match qB Z rf hs a with
  | (y,lz)=>match qB Z (rf+(nY a).length) lz b with
   | (z,lU)=>(.cond (qX Z c) y z,lU)
 | l::hs,.block id a=>match qB Z rf hs a with
  | (x,lz)=>(.block id l x,lz)
 | l::hs,.loop a=>match qB Z rf hs a with
  | (x,lz)=>(.loop l x,lz)
 | l::hs,.rangeFunc g _ _ _=>(.oB rf l (qX Z g),hs)
 | hs,.exit id=>(.exit id,hs)
 | hs,.ret=>(.ret,hs)
 | hs,_=>(.bad,hs)
noncomputable def qR:ResultVar->ve
 | .tmp t=>.tmp t
 | .cell a t=>if qG t then .PN (qS t) a else .tB a
noncomputable def qN(Z:Nat->List D->List D)(f:Func)(n:Nat)(hs:List (List Nat))(full:Bool)(own:Nat)(fz:Bool):jw:=
 .mk f.ntmps (qB Z (64*n) hs (FY f)).1 (f.results.toList.map qR) full own fz
noncomputable def qN2(Z:Nat->List D->List D)(f:Func)(i:Nat)(d c:List (List Nat)):qy:=match (nY (FY f))[i]? with
 | some (ps,a,b)=>.mk ps.toList (qB Z 0 d a).1 (qB Z 0 c b).1
 | none=>.mk [] .bad .bad
@[reducible] noncomputable def pf(f:Func)(n:Nat)(hs:List (List Nat):=[])(full:Bool:=false)(own:Nat:=0)(fz:Bool:=false){x:(Nat->List D->List D)->jw}(_:∀Z,qN Z f n hs full own fz=x Z:=by intro Z;conv=>lhs;cbv):jw:=x tG
@[reducible] noncomputable def pr(f:Func)(i:Nat)(b a:List (List Nat)){x:(Nat->List D->List D)->qy}(_:∀Z,qN2 Z f i b a=x Z:=by intro Z;conv=>lhs;cbv):qy:=x tG
@[simp ↓] theorem axG{f:Func}{n:Nat}{hs:List (List Nat)}{full:Bool}{own:Nat}{fz:Bool}{x:(Nat->List D->List D)->jw}(h:∀Z,qN Z f n hs full own fz=x Z):pf f n hs full own fz h=x tG:=rfl
@[simp ↓] theorem axJ{f:Func}{i:Nat}{b a:List (List Nat)}{x:(Nat->List D->List D)->qy}(h:∀Z,qN2 Z f i b a=x Z):pr f i b a h=x tG:=rfl
set_option maxRecDepth 100000
set_option maxHeartbeats 4000000
noncomputable section
def T1:=pf f8 8 [[5,6,7,8,9,10,11],[5,6,7,8,9,10,11,12],[5,6,7,8,9,10,11,12],[1,14,3,14,6,14,8,14,10,14,13,14,1,15,3,15,6,15,8,15,10,15,13,15,14,15],[],[]]
def Jl:=pf f11 11 [[7],[2,7,8,9,10,11],[2,7,8,9,10,11]]
def J1:=pf f13 13 [] false 0 true
def Li:=pf f17 17 [[],[0,1,5],[0,1,5],[]]
def Jm:=pf f18 18 [[3],[0,3,4],[0,3,4]] false 0 true
def Jn:=pf f19 19 [[10],[10]] false 0 true
def Jp:=pf f20 20 [[9999,1,2,3,9,11,12],[9999,1,2,3,9,11,12,40,41],[9999,1,2,3,9,11,12,40,41],[9999,6,7,8],[9999,1,2,3,9,11,12],[9999,1,2,3,9,11,12],[9999,1,2,3,9,11,12],[11,12],[9999,1,2,3,9,11,12],[9999,1,2,3,9,11,12,76,77,78],[9999,1,2,3,9,11,12,76,77,78],[4,9],[],[9999,1,3,11,20],[9999,1,3,11,20,108,109,110],[9999,1,3,11,20,108,109,110],[9999,1,3,11,20,108,109,110],[9999,1,3,11,20,21,108,109,110,116],[9999,1,3,11,20,21,108,109,110,116],[],[]] false 0 true
def CW:=pf f21 21 [[],[0,1,5],[0,1,5],[0,1,5,6],[0,1,5,6,7],[0,1,5,6,7]]
def CX:=pf f22 22 [[],[1,2,5],[1,2,5],[]]
def T2:=pf f24 24 [[7,10,7,14,3,15,6,15,7,15],[0,6,6,8,7,8,8,14,0,16,3,16,5,16,6,16,7,16,8,16,11,16,13,16,14,16,15,16,0,17,3,17,5,17,6,17,7,17,8,17,11,17,13,17,14,17,15,17,16,17],[0,3,0,6,0,7,3,7,0,8,0,9,3,9,6,9,7,9,8,9,0,10,3,10,6,10,7,10,8,10,9,10],[9,13,19,24]]
def Kt:=pf f25 25 [] false 0 true
def T5:=pf f28 28 [] false 0 true
def T6:=pf f29 29
def T7:=pf f30 30 [] false 0 true
def T8:=pf f32 32
def CY:=pf f33 33 [] false 0 true
def T9:=pf f35 35 [[0,1,5],[0,1,5,12,13],[0,1,5,12,13],[]]
def T':=pf f37 37
def Fy:=pf f39 39 [[6],[1,2,6,7],[1,2,6,7],[],[],[1,2,6,7,9],[1,2,6,7,8,9,10],[1,2,6,7,8,9,10]] false 0 true
def Lo:=pf f40 40 [[],[0,1,5],[0,1,5]]
def y6:=pf f41 41 [[2,3],[0,2,3,4],[0,2,3,4]]
def LG:=pf f42 42 [[],[2,3,8,30,31,32],[2,3,8,30,31,32],[]]
def CZ:=pf f43 43 [[],[0,1,5],[0,1,5],[]]
def Js:=pf f44 44 [[10],[0,1,3,9,10,11],[0,1,3,9,10,11],[3,13,7,13,9,13,12,13]] false 1 true
def wE:=pf f48 48 [[]]
def y7:=pf f49 49 [[2,3],[2,3,6,7,8],[2,3,6,7,8]]
def Fw:=pf f50 50 [[1,2,3,4,5],[1,2,3,4,5,6],[1,2,3,4,5,6],[],[6,7]] false 0 true
def Fx:=pf f51 51 [[6,7],[2,3,6,7,8],[2,3,6,7,8],[2,3,6,7,9],[2,3,6,7,8,9,10],[2,3,6,7,8,9,10],[],[2,3,6,7,8],[2,3,6,7,8,9,11],[2,3,6,7,8,9,11]] false 0 true
def Fz:=pf f56 56 [[1,2,7],[1,2,7,37,38,39],[1,2,7,37,38,39],[10],[2,7,10,52,53,54],[2,7,10,52,53,54],[2,7,10,52,53,54],[2,7,10,11,52,53,54,61,62,63],[2,7,10,11,52,53,54,61,62,63]] false 0 true
def LP:=pf f58 58
def Ju:=pf f60 60
def Jv:=pf f61 61 [[],[7],[5,6,7,8,30,31],[5,6,7,8,30,31]] false 0 true
def Jw:=pf f62 62 [] false 0 true
def Fi:=pf f63 63 [] true 2
def Jx:=pf f64 64 [[9999,0,2],[9999,0,2,27,28],[9999,0,2,27,28],[9999,0,2,7],[9999,0,2,7,44,45,46],[9999,0,2,7,44,45,46]] true 4
def Jy:=pf f65 65 [] true 4
def Ua:=pf f66 66 [[]] true 1
def KG:=pf f67 67 [] true
def C0:=pf f68 68
def Jz:=pf f69 69
def Ub:=pf f70 70 [] false 0 true
def LI:=pf f71 71 [[1,7],[1,2,7,8],[1,2,7,8],[1,2,8,9],[1,2,7,8,9,10],[1,2,7,8,9,10],[11],[1,7,11,12],[1,7,11,12]] false 0 true
def LK:=pf f72 72 [[1,2,3,4,9],[1,2,3,4,9,10],[1,2,3,4,9,10],[9],[1,3,9,11,12,13],[1,3,9,11,12,13],[]] false 0 true
def Uc:=pf f74 74
def Ud:=pf f75 75 [] false 0 true
def C1:=pf f79 79 [[],[0,1,5],[0,1,5],[]]
def Ue:=pf f81 81 [[],[2,3,14],[2,3,14,66,67,68],[2,3,14,66,67,68],[]]
def JM:=pf f82 82
def LW:=pf f83 83 [[],[0,3],[0,3],[]]
def LX:=pf f84 84 [[],[],[2,3,5],[2,3,5],[]]
def FB:=pf f85 85 [[2,3,5,6,7],[2,3,5,6,7,8],[2,3,5,6,7,8],[2,3,6,7],[2,3,5,6,7,9],[2,3,5,6,7,9]] false 0 true
def Ly:=pf f86 86 [[],[0,3,5,6],[0,3,5,6],[]]
def JB:=pf f87 87 [] false 0 true
def y8:=pf f88 88 [[]]
def LQ:=pf f89 89 [[1,4,5,6],[0,1,4,5,6,9,10,11],[0,1,4,5,6,9,10,11],[0,1,4,5,6,9,10,11],[4]]
def JD:=pf f90 90
def C2:=pf f91 91 [[5],[0,5,6,7],[0,5,6,7]] false 0 true
end
noncomputable section
def y9:=pf f92 92 [[6,7],[2,3,4,6,7,8],[2,3,4,6,7,8]] false 0 true
def Jk:=pf f93 93 [[3],[3,20,21,22],[3,20,21,22]]
def Fv:=pf f94 94 [[2,3,7,8],[7,8],[]] false 0 true
def Dc:=pf f95 95 [] false 0 true
def JE:=pf f96 96 [[3],[1,3,4],[1,3,4]] false 0 true
def za:=pf f97 97 [[0,2],[]]
def FA:=pf f98 98 [[1,18,3,18,5,18,6,18,9,18,14,18],[1,2,3,4],[1,2,3,4,5],[1,2,3,4,5],[0,6,0,12,3,12,6,12],[1,2,3,4,5,6],[1,2,3,4,5,6,7],[1,2,3,4,5,6,7],[1,17],[2,3],[1,2,3,4,8],[1,2,3,4,8],[1,20,5,20,10,20,14,20],[]] false 0 true
def LR:=pf f99 99 [[7],[2,3,4,7,8],[2,3,4,7,8]] false 0 true
def LU:=pf f100 100 [[3,5,3,8,3,12,2,16,3,16,5,16,8,16,12,16],[2,3,4,5],[2,3,4,5,6],[2,3,4,5,6],[],[],[4,5],[2,3,4,5,8],[2,3,4,5,8],[2,3,4,5,8],[2,3,4,5,8,9],[2,3,4,5,8,9],[]] false 0 true
def LV:=pf f101 101 [[4],[3,4,5],[3,4,5],[]] false 0 true
def Me:=pf f108 108
def Mf:=pf f109 109 [[]]
def Mg:=pf f110 110 [[1],[1,51,52,53],[1,51,52,53]]
def Mh:=pf f111 111
def Jj:=pf f112 112 [[],[0,6,7],[0,6,7],[]]
def Db:=pf f113 113 [[],[2,3,9,10,11],[2,3,9,10,11],[]]
def JH:=pf f114 114 [[],[0,2,3,4,11,12,13],[0,2,3,4,11,12,13],[0,7,2,7,6,7]] true
def uC:=pf f115 115 [[0,2],[9999,9,1,8]] false 0 true
def JI:=pf f116 116 [[9999,0,3],[9999,0,3,23,24],[9999,0,3,23,24],[9999,3],[9999,0,3,38,39,40],[9999,0,3,38,39,40],[],[9999,0,3,38,39,40],[9999,0,3,5,6,38,39,40,63,64,65],[9999,0,3,5,6,38,39,40,63,64,65],[]] true 4
def JJ:=pf f117 117 [] true
def JK:=pf f118 118 [] true
def JL:=pf f119 119 [[9999,7],[9999,2,7,17],[9999,2,7,17]] true
def JN:=pf f120 120
def uD:=pf f121 121
def JO:=pf f122 122 [[9999,5],[9999,5,14],[9999,5,14]] true
def JQ:=pf f123 123 [[],[],[],[9999,2,3,5,8,9],[9999,2,3,5,8,9,53,54,55],[9999,2,3,5,8,9,53,54,55],[9999,2,3,5,8,9,53,54,55],[9999,2,3,5,8,9,10,11,53,54,55,71],[9999,2,3,5,8,9,10,11,53,54,55,71]] true
def JR:=pf f124 124 [[9999],[9999,0,1,3],[9999,0,1,3]] true 4
def K2:=pf f125 125 [[],[0,1,2,3,8,9],[0,1,2,3,8,9],[]] true
def Um:=pf f126 126
def wF:=pf f127 127 [[]]
def FC:=pf f128 128 [[5],[1,2,5,6],[1,2,5,6],[0,6,4,6,5,6]] false 0 true
def LY:=pf f129 129 [[1,2,6,7,8],[0,1,2,6,7,8,9],[0,1,2,6,7,8,9]]
def LZ:=pf f130 130 [[9],[1,2,3,4,9,10],[1,2,3,4,9,10],[1,2,3,4,9,10],[1,2,3,4,9,10,11],[1,2,3,4,9,10,11],[0,6,4,6,5,6],[1,2,3,4,9,10,11,12,13,14],[1,2,3,4,9,10,11,12,13,14,15],[1,2,3,4,9,10,11,12,13,14,15],[]] false 0 true
def L0:=pf f131 131
def Uf:=pf f132 132 [[],[0,1,5],[0,1,5],[]]
def JS:=pf f135 135 [[0,2,3,4],[0,2,3,4,9,10,11],[0,2,3,4,9,10,11],[0,2,3,4,9,10,11],[2]]
def Jt:=pf f136 136 [[],[2,3,5],[2,3,5],[]]
def LN:=pf f137 137 [[],[],[5,6],[5,6]]
def JG:=pf f138 138 [[],[1,2,5],[1,2,5]]
def JA:=pf f139 139 [[5],[2,3,5,6],[2,3,5,6],[2,3,5,6],[2,3,5,6,7,8],[2,3,5,6,7,8]] false 0 true
def Fj:=pf f140 140 [[5],[2,3,5,6],[2,3,5,6],[2,3,5,6],[2,3,5,6,7],[2,3,5,6,7],[]] false 0 true
def C3:=pf f141 141 [[2,4],[2,3,4,5],[2,3,4,5],[],[2,6],[2,4,6,7],[2,4,6,7]]
def JT:=pf f142 142
def Ug:=pf f143 143 [[3],[0,3],[0,3]]
def JU:=pf f144 144
def Jo:=pf f145 145 [[3],[0,3,4],[0,3,4]]
def Jq:=pf f146 146 [[3],[0,3,4],[0,3,4]]
def KB:=pf f147 147 [[0,3],[0,3,9,10,11],[0,3,9,10,11],[6],[6,25,26,27],[6,25,26,27]] false 1
def LL:=pf f148 148 [] false 0 true
def ze:=pf f149 149 [[5],[3,5,15,16,17],[3,5,15,16,17],[3,5,15,16,17],[3,5,6,7,15,16,17,23,24,25],[3,5,6,7,15,16,17,23,24,25],[]] false 0 true
def Dd:=pf f150 150 [] false 1 true
def UE:=pf f151 151 [] true
def L7:=pf f152 152 [[]]
def De:=pf f153 153 [[0],[0,1,5],[0,1,5],[],[0,5],[0,1,5,6,7],[0,1,5,6,7],[]] true
def L8:=pf f154 154
def zb:=pf f155 155 [[0,2,3],[0,2,3],[0,2,3],[2,3],[0,2,3,4],[0,2,3,4],[2,5],[5],[2,7],[2,5,7,42],[2,5,7,42]]
def JV:=pf f156 156
def Uh:=pf f157 157
def JW:=pf f158 158 [[0,1,0,2]]
def Jr:=pf f159 159 [[]] false 0 true
def Fh:=pf f160 160 [] false 0 true
def JC:=pf f161 161 [[5],[3,4,5,6,7],[3,4,5,6,7],[]] false 0 true
def JF:=pf f162 162
def L5:=pf f163 163
def Km:=pf f168 168
def Ko:=pf f169 169
def C8:=pf f170 170
def Kp:=pf f171 171 [[],[2,14,15,16],[2,14,15,16]]
def Kq:=pf f172 172 [[],[1,3,4,29,30,31],[1,3,4,29,30,31],[]]
def Kr:=pf f173 173
def Ks:=pf f174 174
def Ku:=pf f175 175
def Un:=pf f176 176
def Kv:=pf f177 177
def Kw:=pf f178 178
def Kx:=pf f179 179
def Ky:=pf f180 180
end
noncomputable section
def Kz:=pf f181 181 [[3]]
def KA:=pf f182 182 [[],[0,1,7,8],[0,1,7,8]]
def JX:=pf f183 183 [] false 2 true
def L3:=pf f184 184 [] false 1 true
def JY:=pf f185 185 [[],[0,1,7,8],[0,1,7,8]] true
def JZ:=pf f186 186 [] true
def J0:=pf f187 187
def C4:=pf f188 188
def Lh:=pf f189 189 [[],[0,1,2,6],[0,1,2,6],[0,1,2,6],[0,1,2,6,7],[],[0,1,2,6,7],[]] true
def Ur:=pf f199 199
def KE:=pf f200 200 [[2,3],[],[]]
def Mb:=pf f201 201 [[0,1],[0,1,5],[0,1,5],[],[]]
def Mc:=pf f202 202
def LO:=pf f203 203
def Fs:=pf f204 204 [[],[0,2,0,4,0,8],[11],[5,11,12,13],[5,11,12,13],[]] false 0 true
def zd:=pf f205 205 [[0,3,0,5,3,5,4,5,0,8,4,8,5,8]] false 0 true
def KF:=pf f206 206
def C5:=pf f207 207 [[0,3],[0,3],[0,3],[3],[3,4,5],[3,4,5]] false 0 true
def Ui:=pf f208 208
def J2:=pf f209 209 [[2,4,7],[2,4,5,6,7,8],[2,4,5,6,7,8],[],[],[4,7],[2,4,7,11],[2,4,7,11],[]]
def J3:=pf f210 210 [] false 0 true
def J4:=pf f211 211 [] false 0 true
def KX:=pf f212 212 [] false 1
def L4:=pf f213 213 [[],[0,1,2,14,15,16],[0,1,2,14,15,16],[0,1,2,14,15,16],[0,1,2,4,14,15,16,40,41],[0,1,2,4,14,15,16,40,41],[0,1,2,4,14,15,16,40,41],[0,1,2,4,14,15,16,40,41,52,53,54],[0,1,2,4,14,15,16,40,41,52,53,54]] true
def L6:=pf f214 214 [] false 0 true
def L9:=pf f215 215 [[4,8]] false 2
def Ma:=pf f216 216
def Ul:=pf f217 217 [[],[0,1,2,3,4,10,11],[0,1,2,3,4,10,11],[]] true
def Kg:=pf f218 218 [[3],[3,6,7,8],[3,6,7,8]]
def Kj:=pf f219 219 [[0,1],[0,1,9,10,11],[0,1,9,10,11]]
def Kk:=pf f220 220
def C6:=pf f221 221 [] false 0 true
def J5:=pf f222 222 [] false 0 true
def J6:=pf f223 223 [[1,3,2,3,1,4,2,4,3,4,2,5],[2,4,6],[2,4,5,6,14],[2,4,5,6,14],[],[],[],[4,6],[2,4,6,78],[2,4,6,78],[]]
def J7:=pf f224 224 [[0,3],[0,3,9,10,11],[0,3,9,10,11],[6],[6,25,26,27],[6,25,26,27]] false 1 true
def Uo:=pf f225 225 [[4,8],[0,1,4,6,7,8,9],[0,1,4,6,7,8,9],[0,1,4,6,7,8,9,10],[0,1,4,6,7,8,9,10,11],[0,1,4,6,7,8,9,10,11],[],[]] false 0 true
def Fo:=pf f226 226 [[1,2,2,4,1,5,1,7,2,7,4,7,5,7],[4,6],[1,2,4,6,7],[1,2,4,6,7],[1,2,4,6,7,8],[1,2,4,6,7,8,9],[1,2,4,6,7,8,9]] false 0 true
def KD:=pf f227 227 [[9],[0,1,2,3,9,10],[0,1,2,3,9,10],[0,1,2,3,9,10,11]] false 0 true
def Fq:=pf f228 228 [] false 0 true
def C9:=pf f230 230 [[],[0,1,7,8],[0,1,7,8]]
def KM:=pf f231 231
def KN:=pf f232 232
def KP:=pf f233 233 [[]]
def Us:=pf f234 234
def KQ:=pf f235 235
def KR:=pf f236 236 [[5],[1,5,8,9,10],[1,5,8,9,10]]
def Ut:=pf f237 237
def Uu:=pf f238 238
def KT:=pf f239 239 [[],[0,1,7,8],[0,1,7,8]]
def KU:=pf f240 240
def KV:=pf f241 241 [[],[0,1,7,8],[0,1,7,8]]
def KW:=pf f242 242 [[],[0,1,7,8],[0,1,7,8]]
def J8:=pf f243 243 [] true
def J9:=pf f244 244 [[]] true
def zc:=pf f245 245 [] true
def KL:=pf f251 251
def KZ:=pf f252 252 [[7],[1,2,3,7,8],[1,2,3,7,8]]
def Md:=pf f253 253
def Ft:=pf f254 254 [[1,3,0,6,1,6,3,6],[1,4,2,4,0,5,1,5,2,5,0,6,1,6,2,6,4,6,5,6,4,7,5,7],[8,11],[4,8,11,12,13,14],[4,8,11,12,13,14],[4,8,11,13,14,15],[4,8,11,12,13,14,15,16],[4,8,11,12,13,14,15,16],[9999,11]] false 0 true
def K1:=pf f255 255 [[3,5,6],[0,3,5,6,7],[0,3,5,6,7],[],[]] false 0 true
def J':=pf f256 256 [[2,3],[0,2,3,4],[0,2,3,4],[0,2,3,4],[0,2,3,4,5],[0,2,3,4,5],[],[2,3],[2,3,6],[2,3,6],[]]
def Uk:=pf f257 257
def Ka:=pf f258 258 [[]]
def Fk:=pf f259 259 [[4,14],[4,5,14,87,88,89],[4,5,14,87,88,89],[4,5,17,87,88,89],[4,5,16,17,18,87,88,89,94,95,96],[4,5,16,17,18,87,88,89,94,95,96],[4,5,16,17,18,87,88,89,94,95,96],[4,5,16,17,18,87,88,89,94,95,96,107,108,109],[4,5,16,17,18,87,88,89,94,95,96,107,108,109],[],[4,129,130,131],[4,129,130,131]] true
def sQ:=pf f260 260 [[]] true
def Uj:=pf f261 261 [] true
def wG:=pf f262 262 [[]]
def C7:=pf f263 263 [[0],[0,1,5],[0,1,5],[],[0,5],[0,1,5,6,7],[0,1,5,6,7],[]] true
def Kb:=pf f264 264
def Kl:=pf f265 265 [] false 1
def Uq:=pf f266 266 [[],[0,1,2,3,8],[0,1,2,3,8],[0,1,2,3,8],[0,1,2,3,8,9],[],[0,1,2,3,8,9],[]] true
end
noncomputable section
def Kc:=pf f274 274 [[],[0,1,2,4],[0,1,2,4],[]] true
def Kd:=pf f275 275 [[2,3],[0,2,3,10],[0,2,3,10],[],[2,3],[2,3,5],[2,3,5],[],[]]
def Ke:=pf f276 276
def Kf:=pf f277 277 [] false 1 true
def KY:=pf f278 278
def Uy:=pf f279 279
def Ld:=pf f280 280 [[],[0,1,7,8],[0,1,7,8]]
def Uz:=pf f281 281 [[],[1,2,10],[1,2,10]]
def Le:=pf f283 283 [[0],[0,1,5],[0,1,5],[0,1,5,6],[0,1,5,6,7],[0,1,5,6,7],[]] true
def Lf:=pf f284 284 [[4],[],[]] false 0 true
def Lg:=pf f285 285
def KH:=pf f286 286 [[]] false 0 true
def KJ:=pf f287 287 [[]]
def Up:=pf f288 288 [[],[0,1,2,3,4,10,11],[0,1,2,3,4,10,11],[]] true
def Kh:=pf f292 292
def Ki:=pf f293 293
def Lp:=pf f294 294
def Lq:=pf f295 295
def Lr:=pf f296 296 [] false 0 true
def Ls:=pf f297 297 [[7],[4,7,8,9],[4,7,8,9],[]] false 0 true
def Lt:=pf f298 298 [[],[]] false 0 true
def Lu:=pf f299 299 [[6,17,8,17]] false 0 true
def K3:=pf f300 300 [] false 0 true
def K4:=pf f301 301 [[7],[3,7,19,20,21],[3,7,19,20,21]] false 0 true
def K5:=pf f302 302 [[]] false 0 true
def K6:=pf f303 303 [] false 0 true
def K7:=pf f304 304 [] false 0 true
def Fu:=pf f305 305 [[]] false 0 true
def K8:=pf f306 306 [[6,17,8,17]] false 0 true
def K9:=pf f307 307 [] false 0 true
def La:=pf f308 308 [[]] false 0 true
def Lb:=pf f309 309 [[]] false 0 true
def Uv:=pf f310 310
def Uw:=pf f311 311
def Ux:=pf f312 312 [[],[0,1,2,3,8],[0,1,2,3,8],[0,1,2,3,8],[0,1,2,3,8,9],[],[0,1,2,3,8,9],[]] true
def Lw:=pf f321 321 [[9],[1,2,3,4,9,10],[1,2,3,4,9,10]] false 0 true
def Lj:=pf f322 322
def Lk:=pf f323 323 [] false 0 true
def Ll:=pf f324 324 [[9],[7,9]] false 0 true
def Ln:=pf f325 325
def UA:=pf f326 326
def UB:=pf f327 327
def Lv:=pf f331 331 [] false 0 true
def C':=pf f332 332
def UC:=pf f333 333
def Lx:=pf f335 335 [[],[0,1,2,3,6],[0,1,2,3,6]] true
def Da:=pf f336 336 [[],[0,1,7,8],[0,1,7,8]]
def UD:=pf f337 337
def Lz:=pf f364 364 [[]]
def LC:=pf f365 365 [[7],[2,7,15,16,17],[2,7,15,16,17]] false 0 true
def LD:=pf f366 366 [[]]
def LF:=pf f367 367 [[5,7],[5,7,14,15,16],[5,7,14,15,16]]
def wL:=pr f19 0 [] [[]]
def Dh:=pr f20 0 [] [[9999],[0,5]]
def UH:=pr f54 0 [] [[],[],[3,11],[3,10,11,46,47,48],[3,10,11,46,47,48],[],[3,75],[3,75],[]]
def qw:=pr f94 0 [] [[]]
def Di:=pr f155 0 [] [[]]
def UG:=pr f229 0 [] [[]]
def wK:=pr f324 0 [] [[]]
end
end Go.Proofs.YtmehofoficaelaaGreatDoor
namespace Go.Proofs.YtmehofoficaelaaGreatDoor
open Go Go.AL
noncomputable def fns:List (Option jw):=[none,none,none,none,none,none,none,none,some T1,none,none,some Jl,none,some J1,none,none,none,some Li,some Jm,some Jn,some Jp,some CW,some CX,none,some T2,some Kt,none,none,some T5,some T6,some T7,none,some T8,some CY,none,some T9,none,some T',none,some Fy,some Lo,some y6,some LG,some CZ,some Js,none,none,none,some wE,some y7,some Fw,some Fx,none,none,none,none,some Fz,none,some LP,none,some Ju,some Jv,some Jw,some Fi,some Jx,some Jy,some Ua,some KG,some C0,some Jz,some Ub,some LI,some LK,none,some Uc,some Ud,none,none,none,some C1,none,some Ue,some JM,some LW,some LX,some FB,some Ly,some JB,some y8,some LQ,some JD,some C2,some y9,some Jk,some Fv,some Dc,some JE,some za,some FA,some LR,some LU,some LV,none,none,none,none,none,none,some Me,some Mf,some Mg,some Mh,some Jj,some Db,some JH,some uC,some JI,some JJ,some JK,some JL,some JN,some uD,some JO,some JQ,some JR,some K2,some Um,some wF,some FC,some LY,some LZ,some L0,some Uf,none,none,some JS,some Jt,some LN,some JG,some JA,some Fj,some C3,some JT,some Ug,some JU,some Jo,some Jq,some KB,some LL,some ze,some Dd,some UE,some L7,some De,some L8,some zb,some JV,some Uh,some JW,some Jr,some Fh,some JC,some JF,some L5,none,none,none,none,some Km,some Ko,some C8,some Kp,some Kq,some Kr,some Ks,some Ku,some Un,some Kv,some Kw,some Kx,some Ky,some Kz,some KA,some JX,some L3,some JY,some JZ,some J0,some C4,some Lh,none,none,none,none,none,none,none,none,none,some Ur,some KE,some Mb,some Mc,some LO,some Fs,some zd,some KF,some C5,some Ui,some J2,some J3,some J4,some KX,some L4,some L6,some L9,some Ma,some Ul,some Kg,some Kj,some Kk,some C6,some J5,some J6,some J7,some Uo,some Fo,some KD,some Fq,none,some C9,some KM,some KN,some KP,some Us,some KQ,some KR,some Ut,some Uu,some KT,some KU,some KV,some KW,some J8,some J9,some zc,none,none,none,none,none,some KL,some KZ,some Md,some Ft,some K1,some J',some Uk,some Ka,some Fk,some sQ,some Uj,some wG,some C7,some Kb,some Kl,some Uq,none,none,none,none,none,none,none,some Kc,some Kd,some Ke,some Kf,some KY,some Uy,some Ld,some Uz,none,some Le,some Lf,some Lg,some KH,some KJ,some Up,none,none,none,some Kh,some Ki,some Lp,some Lq,some Lr,some Ls,some Lt,some Lu,some K3,some K4,some K5,some K6,some K7,some Fu,some K8,some K9,some La,some Lb,some Uv,some Uw,some Ux,none,none,none,none,none,none,none,none,some Lw,some Lj,some Lk,some Ll,some Ln,some UA,some UB,none,none,none,some Lv,some C',some UC,none,some Lx,some Da,some UD,none,none,none,none,none,none,none,none,none,none,none,none,none,none,none,none,none,none,none,none,none,none,none,none,none,none,some Lz,some LC,some LD,some LF,none,none,none,none,none,none,none,none,none]
noncomputable def rounds:List (Nat×qy):=[(1216,wL),(1280,Dh),(3456,UH),(6016,qw),(9920,Di),(14656,UG),(20736,wK)]
noncomputable def T:iB:={ fn:=nth fns,round:=assoc rounds,sort:=λf=>if f=151 then some 5 else if f=261 then some 6 else none,tt:=λf=>Nat.beq f 67,sZ:=λf=>Nat.beq f 66 }
def gl(P:Program):GT:={ g:=QB,rt:=AI P,nw:=λf=>elem f WY }

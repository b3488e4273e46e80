/- 8 -/
import Derived.Test.YtmehofoficaelaaGreatDoorProg
import Derived.Test.YtmehofoficaelaaGreatDoorP07
set_option linter.all false
open Option renaming some→aE,none→cp
open Bool renaming false→bf,true→cc
namespace Go.Proofs.YtmehofoficaelaaGreatDoor
open Go Go.AL Tryz
noncomputable def tl:Array (Unit->Array (Unit->TypeInfo)):=#[λ_=>#[λ_=>t0,λ_=>t1,λ_=>t2,λ_=>t3,λ_=>t4,λ_=>t5,λ_=>t6,λ_=>t7,λ_=>t8,λ_=>t9,λ_=>t10,λ_=>t11,λ_=>t12,λ_=>t13,λ_=>t14,λ_=>t15,λ_=>t16,λ_=>t17,λ_=>t18,λ_=>t19],
 λ_=>#[λ_=>t20,λ_=>t21,λ_=>t22,λ_=>t23,λ_=>t24,λ_=>t25,λ_=>t26,λ_=>t27,λ_=>t28,λ_=>t29,λ_=>t30,λ_=>t31,λ_=>t32,λ_=>t33,λ_=>t34,λ_=>t35,λ_=>t36,λ_=>t37,λ_=>t38,λ_=>t39],
 λ_=>#[λ_=>t40,λ_=>t41,λ_=>t42,λ_=>t43,λ_=>t44,λ_=>t45,λ_=>t46,λ_=>t47,λ_=>t48,λ_=>t49,λ_=>t50,λ_=>t51,λ_=>t52,λ_=>t53,λ_=>t54,λ_=>t55,λ_=>t56,λ_=>t57,λ_=>t58,λ_=>t59],
 λ_=>#[λ_=>t60,λ_=>t61,λ_=>t62,λ_=>t63,λ_=>t64,λ_=>t65,λ_=>t66,λ_=>t67,λ_=>t68,λ_=>t69,λ_=>t70,λ_=>t71,λ_=>t72,λ_=>t73,λ_=>t74,λ_=>t75,λ_=>t76,λ_=>t77,λ_=>t78,λ_=>t79],
 λ_=>#[λ_=>t80,λ_=>t81,λ_=>t82,λ_=>t83,λ_=>t84,λ_=>t85,λ_=>t86,λ_=>t87,λ_=>t88,λ_=>t89,λ_=>t90,λ_=>t91,λ_=>t92,λ_=>t93,λ_=>t94,λ_=>t95,λ_=>t96,λ_=>t97,λ_=>t98,λ_=>t99],
 λ_=>#[λ_=>t100,λ_=>t101,λ_=>t102,λ_=>t103,λ_=>t104,λ_=>t105,λ_=>t106,λ_=>t107,λ_=>t108,λ_=>t109,λ_=>t110,λ_=>t111,λ_=>t112,λ_=>t113,λ_=>t114,λ_=>t115,λ_=>t116,λ_=>t117,λ_=>t118,λ_=>t119],
 λ_=>#[λ_=>t120,λ_=>t121,λ_=>t122,λ_=>t123,λ_=>t124,λ_=>t125,λ_=>t126,λ_=>t127,λ_=>t128,λ_=>t129,λ_=>t130,λ_=>t131,λ_=>t132,λ_=>t133,λ_=>t134,λ_=>t135,λ_=>t136,λ_=>t137,λ_=>t138,λ_=>t139],
 λ_=>#[λ_=>t140,λ_=>t141,λ_=>t142,λ_=>t143,λ_=>t144,λ_=>t145,λ_=>t146,λ_=>t147,λ_=>t148,λ_=>t149,λ_=>t150,λ_=>t151,λ_=>t152,λ_=>t153,λ_=>t154,λ_=>t155,λ_=>t156,λ_=>t157,λ_=>t158,λ_=>t159],
 λ_=>#[λ_=>t160,λ_=>t161,λ_=>t162,λ_=>t163,λ_=>t164,λ_=>t165,λ_=>t166,λ_=>t167,λ_=>t168,λ_=>t169,λ_=>t170,λ_=>t171,λ_=>t172,λ_=>t173,λ_=>t174,λ_=>t175,λ_=>t176,λ_=>t177,λ_=>t178,λ_=>t179],
 λ_=>#[λ_=>t180,λ_=>t181,λ_=>t182,λ_=>t183,λ_=>t184,λ_=>t185,λ_=>t186,λ_=>t187,λ_=>t188,λ_=>t189,λ_=>t190,λ_=>t191,λ_=>t192,λ_=>t193,λ_=>t194,λ_=>t195,λ_=>t196,λ_=>t197,λ_=>t198,λ_=>t199],
 λ_=>#[λ_=>t200,λ_=>t201,λ_=>t202,λ_=>t203,λ_=>t204,λ_=>t205,λ_=>t206,λ_=>t207,λ_=>t208,λ_=>t209,λ_=>t210,λ_=>t211,λ_=>t212,λ_=>t213,λ_=>t214,λ_=>t215,λ_=>t216,λ_=>t217,λ_=>t218,λ_=>t219],
 λ_=>#[λ_=>t220,λ_=>t221,λ_=>t222,λ_=>t223,λ_=>t224,λ_=>t225,λ_=>t226,λ_=>t227,λ_=>t228,λ_=>t229,λ_=>t230,λ_=>t231,λ_=>t232,λ_=>t233,λ_=>t234,λ_=>t235,λ_=>t236,λ_=>t237,λ_=>t238,λ_=>t239],
 λ_=>#[λ_=>t240,λ_=>t241,λ_=>t242,λ_=>t243,λ_=>t244,λ_=>t245,λ_=>t246,λ_=>t247,λ_=>t248,λ_=>t249,λ_=>t250,λ_=>t251,λ_=>t252,λ_=>t253,λ_=>t254,λ_=>t255,λ_=>t256,λ_=>t257,λ_=>t258,λ_=>t259],
 λ_=>#[λ_=>t260,λ_=>t261,λ_=>t262,λ_=>t263,λ_=>t264,λ_=>t265,λ_=>t266,λ_=>t267,λ_=>t268,λ_=>t269,λ_=>t270,λ_=>t271,λ_=>t272,λ_=>t273,λ_=>t274,λ_=>t275,λ_=>t276,λ_=>t277,λ_=>t278,λ_=>t279],
 λ_=>#[λ_=>t280,λ_=>t281,λ_=>t282,λ_=>t283,λ_=>t284,λ_=>t285,λ_=>t286,λ_=>t287,λ_=>t288,λ_=>t289,λ_=>t290,λ_=>t291,λ_=>t292,λ_=>t293,λ_=>t294,λ_=>t295,λ_=>t296,λ_=>t297,λ_=>t298,λ_=>t299],
 λ_=>#[λ_=>t300,λ_=>t301,λ_=>t302,λ_=>t303,λ_=>t304,λ_=>t305,λ_=>t306,λ_=>t307,λ_=>t308,λ_=>t309,λ_=>t310,λ_=>t311,λ_=>t312,λ_=>t313,λ_=>t314,λ_=>t315,λ_=>t316,λ_=>t317,λ_=>t318,λ_=>t319],
 λ_=>#[λ_=>t320,λ_=>t321,λ_=>t322,λ_=>t323,λ_=>t324,λ_=>t325,λ_=>t326,λ_=>t327,λ_=>t328,λ_=>t329,λ_=>t330,λ_=>t331,λ_=>t332,λ_=>t333,λ_=>t334,λ_=>t335,λ_=>t336,λ_=>t337,λ_=>t338,λ_=>t339],
 λ_=>#[λ_=>t340,λ_=>t341,λ_=>t342,λ_=>t343,λ_=>t344,λ_=>t345,λ_=>t346,λ_=>t347,λ_=>t348,λ_=>t349,λ_=>t350,λ_=>t351,λ_=>t352,λ_=>t353,λ_=>t354,λ_=>t355,λ_=>t356,λ_=>t357,λ_=>t358,λ_=>t359],
 λ_=>#[λ_=>t360,λ_=>t361,λ_=>t362,λ_=>t363,λ_=>t364,λ_=>t365,λ_=>t366,λ_=>t367,λ_=>t368,λ_=>t369,λ_=>t370,λ_=>t371,λ_=>t372,λ_=>t373,λ_=>t374,λ_=>t375,λ_=>t376,λ_=>t377,λ_=>t378,λ_=>t379],
 λ_=>#[λ_=>t380,λ_=>t381,λ_=>t382,λ_=>t383,λ_=>t384,λ_=>t385,λ_=>t386,λ_=>t387,λ_=>t388,λ_=>t389,λ_=>t390,λ_=>t391,λ_=>t392,λ_=>t393,λ_=>t394,λ_=>t395,λ_=>t396,λ_=>t397,λ_=>t398,λ_=>t399],
 λ_=>#[λ_=>t400,λ_=>t401,λ_=>t402,λ_=>t403,λ_=>t404,λ_=>t405,λ_=>t406,λ_=>t407,λ_=>t408,λ_=>t409,λ_=>t410,λ_=>t411,λ_=>t412,λ_=>t413,λ_=>t414,λ_=>t415,λ_=>t416,λ_=>t417,λ_=>t418,λ_=>t419],
 λ_=>#[λ_=>t420,λ_=>t421,λ_=>t422,λ_=>t423,λ_=>t424,λ_=>t425,λ_=>t426,λ_=>t427,λ_=>t428,λ_=>t429,λ_=>t430,λ_=>t431,λ_=>t432,λ_=>t433,λ_=>t434,λ_=>t435,λ_=>t436,λ_=>t437,λ_=>t438,λ_=>t439],
 λ_=>#[λ_=>t440,λ_=>t441,λ_=>t442,λ_=>t443,λ_=>t444,λ_=>t445,λ_=>t446,λ_=>t447,λ_=>t448,λ_=>t449,λ_=>t450,λ_=>t451,λ_=>t452,λ_=>t453,λ_=>t454,λ_=>t455,λ_=>t456,λ_=>t457,λ_=>t458,λ_=>t459]]
noncomputable def qI(t:Nat):TypeInfo:=match tl[t / 20]? with
 | some f=>match (f ())[t % 20]? with
  | some f=>f ()
  | none=>t0
 | none=>t0
def Uf:Nat->Option (List D):=λg=>if g=0 then aE [.val .nilFunc,.fn (.func 364) [] [],.fn (.func 366) [] [],.fn (.func 367) [] []]else if g=1 then aE Ge else if g=2 then aE Gk else cp
def vS(g:Nat)(l:List D):List D:=if g<1000 then(Uf g).getD []else if g<2000 then Zw (g-1000)++l else Zb (g-2000)++l
def glN:List Nat:=[30,33,95,150,183,184,205,224,265]
@[simp] theorem azB:vS 0 [] = [.val .nilFunc,.fn (.func 364) [] [],.fn (.func 366) [] [],.fn (.func 367) [] []]:=rfl
@[simp] theorem azC:vS 1 []=Ge:=rfl
@[simp] theorem azG:vS 2 []=Gk:=rfl
@[simp] theorem azD(l:List D):vS 1008 l=Zw 8++l:=rfl
@[simp] theorem azH(l:List D):vS 2008 l=Zb 8++l:=rfl
@[simp] theorem azE(l:List D):vS 1032 l=Zw 32++l:=rfl
@[simp] theorem azI(l:List D):vS 2032 l=Zb 32++l:=rfl
@[simp] theorem azF(l:List D):vS 1064 l=Zw 64++l:=rfl
@[simp] theorem azJ(l:List D):vS 2064 l=Zb 64++l:=rfl
noncomputable def qU(t:Nat):TypeDesc:=match (qI t).desc with
 | .named _ r=>(qI r).desc
 | d=>d
noncomputable def qS(t:Nat):Nat:=(qI t).size
noncomputable def qV(t:Nat):List D:=match (qI t).zero with
 | some z=>z.cells.toList.map vO
 | none=>[]
noncomputable def qW(Z:Nat->List D->List D)(t:Nat)(l:List D):List D:=match qU t with
 | .array n e=>if n % 8=0 then(match qU e with
  | .int .u32=>Z (1000+n) l
  | .int .u8=>Z (2000+n) l
  | _=>qV t++l)else qV t++l
 | _=>qV t++l
noncomputable def qY(Z:Nat->List D->List D)(t:Nat)(l:List D):List D:=match qU t with
 | .struct fs=>fs.toList.foldr (λf l=>qW Z f.type l) l
 | _=>qW Z t l
noncomputable def qZ(Z:Nat->List D->List D)(t:Nat):List D:=match qU t with
 | .struct fs=>fs.toList.foldr (λf l=>qY Z f.type l) []
 | _=>qW Z t []
noncomputable def qD(Z:Nat->List D->List D)(t:Nat):D:=match (qI t).zero with
 | some (.agg _)=>.agg (qZ Z t)
 | some v=>vO v
 | none=>.any
noncomputable def qG(t:Nat):Bool:=match qU t with
 | .struct _=>cc
 | .array _ _=>cc
 | _=>bf
noncomputable def qE(t:Nat):Nat:=match qU t with
 | .slice e=>e
 | .array _ e=>e
 | .map _ e=>e
 | _=>0
noncomputable def qX(Z:Nat->List D->List D):Operand->X
 | .tmp t=>.t t
 | .const (.agg cs)=>.c (.agg (cs.toList.map vO))
 | .const v=>.c (vO v)
 | .global g=>.c (.ie (Z g []))
 | .func f=>.c (.fn (.func f) [] [])
noncomputable def W0(Z:Nat->List D->List D)(l:Array Operand):List X:=l.toList.map (qX Z)
noncomputable def qL(t:Nat):oe:=match qU t with
 | .string=>.str
 | .bool=>.bool
 | _=>.int
noncomputable def qLs(t:Nat):List oe:=match qU t with
 | .struct fs=>fs.toList.map λf=>qL f.type
 | .array n e=>List.replicate n (qL e)
 | _=>[]
noncomputable def qI'(t:Nat):IntKind:=match qU t with
 | .int k=>k
 | _=>.i64
noncomputable def qK(t:Nat):KK:=match qU t with
 | .struct fs=>.ints (fs.toList.map λf=>qI' f.type)
 | .int k=>.int k
 | .string=>.str
 | _=>.bool
noncomputable def qM(t:Nat):KK:=match qU t with
 | .map k _=>qK k
 | _=>.bool
noncomputable def qF(t:Nat)(i:Nat):Nat×Nat:=match qU t with
 | .struct fs=>match fs[i]? with
  | some f=>(f.offset,f.type)
  | none=>(0,0)
 | _=>(0,0)
noncomputable def qQ(n:Bool)(op:BinOp)(t:Nat)(a b:X):jG:=match qU t with
 | .bool=>.eqS bf [.bool] n a b
 | .int _=>.arith op a b
 | .string=>.arith op a b
 | .slice _=>.nilS n a
 | _=>.eqS cc (qLs t) n a b
noncomputable def qC(Z:Nat->List D->List D)(c:Call)(a:List X):jG:=match c.callee with
 | .value (.func f)=>if elem f glN then .callN f a else .call f a
 | .value f=>.callv (qX Z f) a
 | .builtin b=>match c.argTypes.toList,a with
  | [t],[x]=>match b with
   | .len=>match qU t with
    | .string=>.len .string x
    | .map _ _=>.len .map x
    | _=>.len .slice x
   | .cap=>.capE x
   | _=>.clr (qS (qE t)) (qZ Z (qE t)) x
  | [t,u],[x,y]=>match b with
   | .append=>match qU u with
    | .int _=>.appZ (qE t) (qS (qE t)) (qI (qE t)).bytes (qZ Z (qE t)) x y
    | _=>.app (qE t) (qS (qE t)) (qI (qE t)).bytes x y
   | .copy=>.copy (qS (qE t)) x y
   | .max=>.minmax cc a
   | _=>.minmax bf a
  | _,_=>match b with
   | .max=>.minmax cc a
   | _=>.minmax bf a
 | _=>.mv (.c .any)
noncomputable def qH:Operand->Bool
 | .global g=>decide (2<g)
 | _=>bf
noncomputable def qO(Z:Nat->List D->List D):Op->jG
 | .move x=>.mv (qX Z x)
 | .assign x=>.mv (qX Z x)
 | .pick c a b=>.pick (qX Z c) (qX Z a) (qX Z b)
 | .box e x=>.box e (qX Z x)
 | .alloc e=>.alloc e (qZ Z e)
 | .build t l=>match qU t with
  | .array _ e=>.build (qZ Z t) (l.toList.map λp=>(p.1*qS e,qS e,qX Z p.2))
  | _=>.build (qZ Z t) (l.toList.map λp=>((qF t p.1).1,qS (qF t p.1).2,qX Z p.2))
 | .buildSlice t n l=>.buildSl (qE t) (qS (qE t)) (qZ Z (qE t)) n (l.toList.map λp=>(p.1,qX Z p.2))
 | .load t a=>if qG t then .ldN (qS t) (qX Z a)else .ld1 (qX Z a)
 | .store t a v=>if qG t then .stN (qS t) (qX Z a) (qX Z v)else .st1 (qX Z a) (qX Z v)
 | .nilCheck x=>.nilck (qX Z x)
 | .binOp .eql t x y _=>qQ bf .eql t (qX Z x) (qX Z y)
 | .binOp .neq t x y _=>qQ cc .neq t (qX Z x) (qX Z y)
 | .binOp op _ x y _=>.arith op (qX Z x) (qX Z y)
 | .unOp op _ x=>.un op (qX Z x)
 | .convert _ d x=>match qU d with
  | .int k=>.conv k (qX Z x)
  | _=>.b2s (qX Z x)
 | .makeFunc f a c=>.mkfn f (W0 Z a) (W0 Z c)
 | .makeMap t _=>.mkmap (qM t)
 | .lookup t x i ok=>.lookup (qM t) (qD Z (qE t)) ok (qX Z x) (qX Z i)
 | .mapUpdate t m k v=>.mapUpd (qM t) (qX Z m) (qX Z k) (qX Z v)
 | .insert t m k v=>.mapUpd (qM t) (qX Z m) (qX Z k) (qX Z v)
 | .makeSlice t l c=>.mksl (qE t) (qS (qE t)) (qI (qE t)).bytes (qZ Z (qE t)) (qX Z l) (qX Z c)
 | .slice t x lo (aE hi) (aE mx)=>.slc3 (qS (qE t)) (qX Z x) (lo.map (qX Z)) (qX Z hi) (qX Z mx)
 | .slice t x lo hi _=>match qU t with
  | .string=>.slcS (qX Z x) (lo.map (qX Z)) (hi.map (qX Z))
  | .array n e=>.slcArr (qS e) n (qX Z x) (lo.map (qX Z)) (hi.map (qX Z))
  | _=>.slc (qS (qE t)) (qX Z x) (lo.map (qX Z)) (hi.map (qX Z))
 | .fieldAddr t x f=>.fieldA (qF t f).1 (qX Z x)
 | .field t x f=>.field (qF t f).1 (qS (qF t f).2) (qG (qF t f).2) (qX Z x)
 | .indexAddr t x i=>match qU t with
  | .array n e=>if qH x then .mv (.c .any)else .idxArr (qS e) n (qX Z x) (qX Z i)
  | _=>.idxA (qS (qE t)) (qX Z x) (qX Z i)
 | .index t x i=>match qU t with
  | .array n e=>.idx (qS e) n (qG e) (qX Z x) (qX Z i)
  | _=>.idxStr (qX Z x) (qX Z i)
 | .extract x i=>.ext (qX Z x) i
 | .call c=>qC Z c (W0 Z c.args)
 | .range t x=>match qU t with
  | .string=>.rangeS (qX Z x)
  | _=>.rangeM (qX Z x)
 | .next x s=>if s then .nextS (qX Z x)else .nextM (qX Z x)
 | .entry x=>.entry (qX Z x)
 | .mapEntry t m k=>.mapEnt (qM t) (qD Z (qE t)) (qX Z m) (qX Z k)
 | .entryStore _ m s x=>.entSt (qX Z m) (qX Z s) (qX Z x)
 | _=>.mv (.c .any)
noncomputable def qA(Z:Nat->List D->List D)(ops:Array Oper)(o:Oper):jb:=⟨o.dst,qO Z o.op,match o.guard with
 | some (j,w)=>aE ((match ops[j]? with
  | some q=>q.dst.getD 0
  | none=>0),w)
 | none=>cp⟩
noncomputable def qT(e:jb):Bool:=match e.op with
 | .mv (.c .any)=>cc
 | _=>bf
def qP:List Nat->List (Nat×Nat)
 | a::b::l=>(a,b)::qP l
 | _=>[]
noncomputable def qB(Z:Nat->List D->List D)(rf:Nat):List (List Nat)->Code->IR×List (List Nat)
 | hs,.skip=>(.skip,hs)
 | hs,.region _ ops d=>if (ops.toList.map (qA Z ops)).any qT then(.bad,hs)else match d with
  | false=>(.ops (ops.toList.map (qA Z ops)),hs)
  | true=>match hs with
   | (9999::n::l)::hs=>(.oH (qP l) ((ops.toList.map (qA Z ops)).take n) ((ops.toList.map (qA Z ops)).drop n),hs)
   | l::hs=>(.np (qP l) (ops.toList.map (qA Z ops)),hs)
   | []=>(.bad,[])
 | hs,.seq a b=>match qB Z rf hs a with
  | (x,lU)=>match qB Z (rf+(pI a).length) lU b with
   | (y,nA)=>(.seq x y,nA)
 | hs,.cond c a b=>match qB Z rf hs a with
  | (y,lU)=>match qB Z (rf+(pI a).length) lU b with
   | (z,nA)=>(.cond (qX Z c) y z,nA)
 | l::hs,.block id a=>match qB Z rf hs a with
  | (x,lU)=>(.block id l x,lU)
 | l::hs,.loop a=>match qB Z rf hs a with
  | (x,lU)=>(.loop l x,lU)
 | l::hs,.rangeFunc g _ _ _=>(.qb rf l (qX Z g),hs)
 | hs,.exit id=>(.exit id,hs)
 | hs,.ret=>(.ret,hs)
 | hs,_=>(.bad,hs)
noncomputable def qR:ResultVar->xB
 | .tmp t=>.tmp t
 | .cell a t=>if qG t then .Tl (qS t) a else .vO a
noncomputable def qN(Z:Nat->List D->List D)(f:Func)(n:Nat)(hs:List (List Nat))(full:Bool)(own:Nat)(fz:Bool):kn:=
 .mk f.ntmps (qB Z (64*n) hs (I5 f)).1 (f.results.toList.map qR) full own fz
noncomputable def qN2(Z:Nat->List D->List D)(f:Func)(i:Nat)(d c:List (List Nat)):sR:=match (pI (I5 f))[i]? with
 | some (ps,a,b)=>.mk ps.toList (qB Z 0 d a).1 (qB Z 0 c b).1
 | none=>.mk [] .bad .bad
@[reducible] noncomputable def pf(f:Func)(n:Nat)(hs:List (List Nat):=[])(full:Bool:=bf)(own:Nat:=0)(fz:Bool:=bf){x:(Nat->List D->List D)->kn}(_:∀Z,qN Z f n hs full own fz=x Z:=by intro Z;conv=>lhs;cbv):kn:=x vS
@[reducible] noncomputable def pr(f:Func)(i:Nat)(b a:List (List Nat)){x:(Nat->List D->List D)->sR}(_:∀Z,qN2 Z f i b a=x Z:=by intro Z;conv=>lhs;cbv):sR:=x vS
@[simp ↓] theorem aCW{f:Func}{n:Nat}{hs:List (List Nat)}{full:Bool}{own:Nat}{fz:Bool}{x:(Nat->List D->List D)->kn}(h:∀Z,qN Z f n hs full own fz=x Z):pf f n hs full own fz h=x vS:=rfl
@[simp ↓] theorem aCZ{f:Func}{i:Nat}{b a:List (List Nat)}{x:(Nat->List D->List D)->sR}(h:∀Z,qN2 Z f i b a=x Z):pr f i b a h=x vS:=rfl
set_option maxRecDepth 100000
set_option maxHeartbeats 4000000
noncomputable section
def Mw:=pf f3 3 [[],[7],[5,7,8,9,12,14,15],[5,7,8,9,12,14,15],[5,7,8,9,12,14,15,16,18],[5,7,8,9,12,14,15,16,18,20],[5,7,8,9,12,14,15,16,18,20],[5,7,8,9,12,14,15],[5,7,8,9,12,14,15,16,18,21],[5,7,8,9,12,14,15,16,18,21]]
def XM:=pf f8 8 [[5,6,7,8,9,10,11],[5,6,7,8,9,10,11,12],[5,6,7,8,9,10,11,12],[1,14,3,14,6,14,8,14,10,14,13,14,1,15,3,15,6,15,8,15,10,15,13,15,14,15],[],[]]
def XP:=pf f12 12 [[],[]]
def Ng:=pf f13 13 [] bf 0 cc
def OX:=pf f14 14 [[2,3,5,11],[2,3,5,11,33,34],[2,3,5,11,33,34],[11,14],[3,11,14,48,49,50],[3,11,14,48,49,50]] bf 0 cc
def My:=pf f15 15 [[1,2,3],[1,2,3,16,17,18],[1,2,3,16,17,18],[1,2,3],[1,2,3,34,35],[1,2,3,34,35],[1,2,3,34,35],[1,2,3,34,35,39,40],[1,2,3,34,35,39,40],[1,2,3,34,35,39,40],[1,2,3,6,34,35,39,40,45,46],[1,2,3,6,34,35,39,40,45,46],[1,2,3,6,34,35,39,40,45,46],[1,2,3,6,8,34,35,39,40,45,46,52,53],[1,2,3,6,8,34,35,39,40,45,46,52,53],[2,11],[2,3,11,76,77],[2,3,11,76,77],[2,3,11,76,77],[2,3,11,12,76,77,82,83],[2,3,11,12,76,77,82,83]] bf 0 cc
def OR:=pf f16 16 [[6,8,9,10,11],[2,6,8,9,10,11,37,38,39],[2,6,8,9,10,11,37,38,39],[8],[8,9,10,11,16],[8,9,10,11,16],[8,9,10,11,16],[8,9,10,11,16,17,77,78,79],[8,9,10,11,16,17,77,78,79],[8,9,10,11,16,17,77,78,79],[8],[8,135,136],[8,135,136]] bf 0 cc
def Oz:=pf f17 17 [[],[0,1,5],[0,1,5],[]]
def Mz:=pf f18 18 [[3],[0,3,4],[0,3,4]] bf 0 cc
def MA:=pf f19 19 [[10],[10]] bf 0 cc
def MC:=pf f20 20 [[9999,1,2,3,9,11,12],[9999,1,2,3,9,11,12,40,41],[9999,1,2,3,9,11,12,40,41],[9999,6,7,8],[9999,1,2,3,9,11,12],[9999,1,2,3,9,11,12],[9999,1,2,3,9,11,12],[11,12],[9999,1,2,3,9,11,12],[9999,1,2,3,9,11,12,76,77,78],[9999,1,2,3,9,11,12,76,77,78],[4,9],[],[9999,1,3,11,20],[9999,1,3,11,20,108,109,110],[9999,1,3,11,20,108,109,110],[9999,1,3,11,20,108,109,110],[9999,1,3,11,20,21,108,109,110,116],[9999,1,3,11,20,21,108,109,110,116],[],[]] bf 0 cc
def Fg:=pf f21 21 [[],[0,1,5],[0,1,5],[0,1,5,6],[0,1,5,6,7],[0,1,5,6,7]]
def Fh:=pf f22 22 [[],[1,2,5],[1,2,5],[]]
def Fi:=pf f23 23 [[],[0,1,5],[0,1,5]]
def XQ:=pf f24 24 [[7,10,7,14,3,15,6,15,7,15],[0,6,6,8,7,8,8,14,0,16,3,16,5,16,6,16,7,16,8,16,11,16,13,16,14,16,15,16,0,17,3,17,5,17,6,17,7,17,8,17,11,17,13,17,14,17,15,17,16,17],[0,3,0,6,0,7,3,7,0,8,0,9,3,9,6,9,7,9,8,9,0,10,3,10,6,10,7,10,8,10,9,10],[9,13,19,24]]
def Yk:=pf f25 25 [] bf 0 cc
def XR:=pf f28 28 [] bf 0 cc
def XS:=pf f29 29
def XU:=pf f30 30 [] bf 0 cc
def XV:=pf f32 32
def XW:=pf f33 33 [] bf 0 cc
def XX:=pf f35 35 [[0,1,5],[0,1,5,12,13],[0,1,5,12,13],[]]
def XY:=pf f37 37
def YJ:=pf f39 39 [[6],[1,2,6,7],[1,2,6,7],[],[],[1,2,6,7,9],[1,2,6,7,8,9,10],[1,2,6,7,8,9,10]] bf 0 cc
def OE:=pf f40 40 [[],[0,1,5],[0,1,5]]
def A6:=pf f41 41 [[2,3],[0,2,3,4],[0,2,3,4]]
def OW:=pf f42 42 [[],[2,3,8,30,31,32],[2,3,8,30,31,32],[]]
def XZ:=pf f45 45 [[2,3],[0,2,3,4],[0,2,3,4],[1,7,3,7,5,7,1,8],[1,8,3,8,5,8,1,9]] bf 0 cc
def X1:=pf f46 46 [[7],[2,6,7,8],[2,6,7,8],[],[2,6,7,8],[2,6,7,8,29,30,31],[2,6,7,8,29,30,31]] bf 0 cc
def X3:=pf f47 47 [[3,7]] bf 0 cc
def yE:=pf f48 48 [[]]
def A7:=pf f49 49 [[2,3],[2,3,6,7,8],[2,3,6,7,8]]
def ID:=pf f50 50 [[1,2,3,4,5],[1,2,3,4,5,6],[1,2,3,4,5,6],[],[6,7]] bf 0 cc
def IE:=pf f51 51 [[6,7],[2,3,6,7,8],[2,3,6,7,8],[2,3,6,7,9],[2,3,6,7,8,9,10],[2,3,6,7,8,9,10],[],[2,3,6,7,8],[2,3,6,7,8,9,11],[2,3,6,7,8,9,11]] bf 0 cc
def II:=pf f52 52 [[2,5,2,7,5,7]] cc 2
def O8:=pf f53 53 [[5],[2,5,13,14,15],[2,5,13,14,15],[9],[5,9,37,38,39],[5,9,37,38,39]] bf 0 cc
def O9:=pf f54 54 [[3,4,5],[3,4,5,20,21,22],[3,4,5,20,21,22],[3,4,9],[3,4,5,9],[9],[3,9,96,97,98],[3,9,96,97,98],[]] cc
def Fj:=pf f55 55 [[2,3],[2,3,9,10,11],[2,3,9,10,11],[2,3,9,10,11],[2,3,9,10,11,15,16,17],[2,3,9,10,11,15,16,17]]
def IF:=pf f56 56 [[1,2,7],[1,2,7,37,38,39],[1,2,7,37,38,39],[10],[2,7,10,52,53,54],[2,7,10,52,53,54],[2,7,10,52,53,54],[2,7,10,11,52,53,54,61,62,63],[2,7,10,11,52,53,54,61,62,63]] bf 0 cc
def Bd:=pf f57 57 [] cc
def O1:=pf f58 58
def O2:=pf f59 59 [[3],[3,11,12,13],[3,11,12,13],[3,11,12,13],[3,4,11,12,13,18,19,20],[3,4,11,12,13,18,19,20]] bf 0 cc
def MG:=pf f60 60
def MH:=pf f61 61 [[],[7],[5,6,7,8,30,31],[5,6,7,8,30,31]] bf 0 cc
def MI:=pf f62 62 [] bf 0 cc
def Im:=pf f63 63 [] cc 2
def MJ:=pf f64 64 [[9999,0,2],[9999,0,2,27,28],[9999,0,2,27,28],[9999,0,2,7],[9999,0,2,7,44,45,46],[9999,0,2,7,44,45,46]] cc 4
def MK:=pf f65 65 [] cc 4
def X4:=pf f66 66 [[]] cc 1
def NV:=pf f67 67 [] cc
def Fk:=pf f68 68
def ML:=pf f69 69
def X5:=pf f70 70 [] bf 0 cc
def YK:=pf f71 71 [[1,7],[1,2,7,8],[1,2,7,8],[1,2,8,9],[1,2,7,8,9,10],[1,2,7,8,9,10],[11],[1,7,11,12],[1,7,11,12]] bf 0 cc
def YL:=pf f72 72 [[1,2,3,4,9],[1,2,3,4,9,10],[1,2,3,4,9,10],[9],[1,3,9,11,12,13],[1,3,9,11,12,13],[]] bf 0 cc
def X6:=pf f74 74
def X7:=pf f75 75 [] bf 0 cc
def X8:=pf f79 79 [[],[0,1,5],[0,1,5],[]]
def X9:=pf f81 81 [[],[2,3,14],[2,3,14,66,67,68],[2,3,14,66,67,68],[]]
def X':=pf f82 82
def YM:=pf f83 83 [[],[0,3],[0,3],[]]
def O7:=pf f84 84 [[],[],[2,3,5],[2,3,5],[]]
def IH:=pf f85 85 [[2,3,5,6,7],[2,3,5,6,7,8],[2,3,5,6,7,8],[2,3,6,7],[2,3,5,6,7,9],[2,3,5,6,7,9]] bf 0 cc
def OQ:=pf f86 86 [[],[0,3,5,6],[0,3,5,6],[]]
def MO:=pf f87 87 [] bf 0 cc
def A8:=pf f88 88 [[]]
def O3:=pf f89 89 [[1,4,5,6],[0,1,4,5,6,9,10,11],[0,1,4,5,6,9,10,11],[0,1,4,5,6,9,10,11],[4]]
end
noncomputable section
def Mx:=pf f93 93 [[3],[3,20,21,22],[3,20,21,22]]
def IC:=pf f94 94 [[2,3,7,8],[7,8],[]] bf 0 cc
def FA:=pf f95 95 [] bf 0 cc
def MQ:=pf f96 96 [[3],[1,3,4],[1,3,4]] bf 0 cc
def A9:=pf f97 97 [[0,2],[]]
def IG:=pf f98 98 [[1,18,3,18,5,18,6,18,9,18,14,18],[1,2,3,4],[1,2,3,4,5],[1,2,3,4,5],[0,6,0,12,3,12,6,12],[1,2,3,4,5,6],[1,2,3,4,5,6,7],[1,2,3,4,5,6,7],[1,17],[2,3],[1,2,3,4,8],[1,2,3,4,8],[1,20,5,20,10,20,14,20],[]] bf 0 cc
def O4:=pf f99 99 [[7],[2,3,4,7,8],[2,3,4,7,8]] bf 0 cc
def O5:=pf f100 100 [[3,5,3,8,3,12,2,16,3,16,5,16,8,16,12,16],[2,3,4,5],[2,3,4,5,6],[2,3,4,5,6],[],[],[4,5],[2,3,4,5,8],[2,3,4,5,8],[2,3,4,5,8],[2,3,4,5,8,9],[2,3,4,5,8,9],[]] bf 0 cc
def O6:=pf f101 101 [[4],[3,4,5],[3,4,5],[]] bf 0 cc
def M4:=pf f102 102 [[2,3,5],[2,3,5,14,15,16],[2,3,5,14,15,16],[3,5],[3,5,36,37,38],[3,5,36,37,38],[],[5],[5,12],[5,12]]
def Ip:=pf f103 103 [] cc 1
def Iq:=pf f104 104 [] cc 2
def Ir:=pf f105 105 [] cc 2
def M9:=pf f106 106 [[7],[0,2,7,8,12,13,14],[0,2,7,8,12,13,14]]
def Nf:=pf f107 107 [[],[0,1,2,6,10,11],[0,1,2,6,10,11,41,42,43],[0,1,2,6,10,11,41,42,43],[0,1,2,6,10,11,41,42,43],[]]
def Pm:=pf f108 108
def Pn:=pf f109 109 [[]]
def Po:=pf f110 110 [[1],[1,51,52,53],[1,51,52,53]]
def Pp:=pf f111 111
def Mv:=pf f112 112 [[],[0,6,7],[0,6,7],[]]
def Fz:=pf f113 113 [[],[2,3,9,10,11],[2,3,9,10,11],[]]
def MT:=pf f114 114 [[],[0,2,3,4,11,12,13],[0,2,3,4,11,12,13],[0,7,2,7,6,7]] cc
def wU:=pf f115 115 [[0,2],[9999,9,1,8]] bf 0 cc
def MU:=pf f116 116 [[9999,0,3],[9999,0,3,23,24],[9999,0,3,23,24],[9999,3],[9999,0,3,38,39,40],[9999,0,3,38,39,40],[],[9999,0,3,38,39,40],[9999,0,3,5,6,38,39,40,63,64,65],[9999,0,3,5,6,38,39,40,63,64,65],[]] cc 4
def MV:=pf f117 117 [] cc
def MW:=pf f118 118 [] cc
def MX:=pf f119 119 [[9999,7],[9999,2,7,17],[9999,2,7,17]] cc
def MY:=pf f120 120
def wV:=pf f121 121
def MZ:=pf f122 122 [[9999,5],[9999,5,14],[9999,5,14]] cc
def M0:=pf f123 123 [[],[],[],[9999,2,3,5,8,9],[9999,2,3,5,8,9,53,54,55],[9999,2,3,5,8,9,53,54,55],[9999,2,3,5,8,9,53,54,55],[9999,2,3,5,8,9,10,11,53,54,55,71],[9999,2,3,5,8,9,10,11,53,54,55,71]] cc
def M1:=pf f124 124 [[9999],[9999,0,1,3],[9999,0,1,3]] cc 4
def Og:=pf f125 125 [[],[0,1,2,3,8,9],[0,1,2,3,8,9],[]] cc
def Yj:=pf f126 126
def yF:=pf f127 127 [[]]
def YN:=pf f128 128 [[5],[1,2,5,6],[1,2,5,6],[0,6,4,6,5,6]] bf 0 cc
def YO:=pf f129 129 [[1,2,6,7,8],[0,1,2,6,7,8,9],[0,1,2,6,7,8,9]]
def YP:=pf f130 130 [[9],[1,2,3,4,9,10],[1,2,3,4,9,10],[1,2,3,4,9,10],[1,2,3,4,9,10,11],[1,2,3,4,9,10,11],[0,6,4,6,5,6],[1,2,3,4,9,10,11,12,13,14],[1,2,3,4,9,10,11,12,13,14,15],[1,2,3,4,9,10,11,12,13,14,15],[]] bf 0 cc
def YQ:=pf f131 131
def Ya:=pf f132 132 [[],[0,1,5],[0,1,5],[]]
def M3:=pf f135 135 [[0,2,3,4],[0,2,3,4,9,10,11],[0,2,3,4,9,10,11],[0,2,3,4,9,10,11],[2]]
def MF:=pf f136 136 [[],[2,3,5],[2,3,5],[]]
def OZ:=pf f137 137 [[],[],[5,6],[5,6]]
def MS:=pf f138 138 [[],[1,2,5],[1,2,5]]
def MN:=pf f139 139 [[5],[2,3,5,6],[2,3,5,6],[2,3,5,6],[2,3,5,6,7,8],[2,3,5,6,7,8]] bf 0 cc
def Io:=pf f140 140 [[5],[2,3,5,6],[2,3,5,6],[2,3,5,6],[2,3,5,6,7],[2,3,5,6,7],[]] bf 0 cc
def Fo:=pf f141 141 [[2,4],[2,3,4,5],[2,3,4,5],[],[2,6],[2,4,6,7],[2,4,6,7]]
def M5:=pf f142 142
def Yb:=pf f143 143 [[3],[0,3],[0,3]]
def M6:=pf f144 144
def MB:=pf f145 145 [[3],[0,3,4],[0,3,4]]
def MD:=pf f146 146 [[3],[0,3,4],[0,3,4]]
def NR:=pf f147 147 [[0,3],[0,3,9,10,11],[0,3,9,10,11],[6],[6,25,26,27],[6,25,26,27]] bf 1
def OY:=pf f148 148 [] bf 0 cc
def Bc:=pf f149 149 [[5],[3,5,15,16,17],[3,5,15,16,17],[3,5,15,16,17],[3,5,6,7,15,16,17,23,24,25],[3,5,6,7,15,16,17,23,24,25],[]] bf 0 cc
def FB:=pf f150 150 [] bf 1 cc
def YR:=pf f151 151 [] cc
def Pd:=pf f152 152 [[]]
def FC:=pf f153 153 [[0],[0,1,5],[0,1,5],[],[0,5],[0,1,5,6,7],[0,1,5,6,7],[]] cc
def Pe:=pf f154 154
def A':=pf f155 155 [[0,2,3],[0,2,3],[0,2,3],[2,3],[0,2,3,4],[0,2,3,4],[2,5],[5],[2,7],[2,5,7,42],[2,5,7,42]]
def M7:=pf f156 156
def Yd:=pf f157 157
def M8:=pf f158 158 [[0,1,0,2]]
def ME:=pf f159 159 [[]] bf 0 cc
def Il:=pf f160 160 [] bf 0 cc
def MP:=pf f161 161 [[5],[3,4,5,6,7],[3,4,5,6,7],[]] bf 0 cc
def MR:=pf f162 162
def Pb:=pf f163 163
def Iy:=pf f164 164 [] cc 1
def NW:=pf f165 165 [[],[0,5],[0,5]] cc
def NY:=pf f166 166 [[],[0,1,3],[0,1,3]] cc
def NZ:=pf f167 167 [[3],[0,3,9,10,11],[0,3,9,10,11]]
def ND:=pf f168 168
def NF:=pf f169 169
def Fv:=pf f170 170
def NG:=pf f171 171 [[],[2,14,15,16],[2,14,15,16]]
def NH:=pf f172 172 [[],[1,3,4,29,30,31],[1,3,4,29,30,31],[]]
def NI:=pf f173 173
def NJ:=pf f174 174
def NK:=pf f175 175
def Yl:=pf f176 176
def NL:=pf f177 177
def NM:=pf f178 178
def NN:=pf f179 179
def NO:=pf f180 180
end
noncomputable section
def NP:=pf f181 181 [[3]]
def NQ:=pf f182 182 [[],[0,1,7,8],[0,1,7,8]]
def Na:=pf f183 183 [] bf 2 cc
def O':=pf f184 184 [] bf 1 cc
def Nb:=pf f185 185 [[],[0,1,7,8],[0,1,7,8]] cc
def Nc:=pf f186 186 [] cc
def Nd:=pf f187 187
def Fq:=pf f188 188
def Oy:=pf f189 189 [[],[0,1,2,6],[0,1,2,6],[0,1,2,6],[0,1,2,6,7],[],[0,1,2,6,7],[]] cc
def YE:=pf f195 195
def Ys:=pf f199 199
def NT:=pf f200 200 [[2,3],[],[]]
def Ph:=pf f201 201 [[0,1],[0,1,5],[0,1,5],[],[]]
def Pj:=pf f202 202
def O0:=pf f203 203
def Ix:=pf f204 204 [[],[0,2,0,4,0,8],[11],[5,11,12,13],[5,11,12,13],[]] bf 0 cc
def Bb:=pf f205 205 [[0,3,0,5,3,5,4,5,0,8,4,8,5,8]] bf 0 cc
def NU:=pf f206 206
def Fs:=pf f207 207 [[0,3],[0,3],[0,3],[3],[3,4,5],[3,4,5]] bf 0 cc
def Ye:=pf f208 208
def Nh:=pf f209 209 [[2,4,7],[2,4,5,6,7,8],[2,4,5,6,7,8],[],[],[4,7],[2,4,7,11],[2,4,7,11],[]]
def Ni:=pf f210 210 [] bf 0 cc
def Nj:=pf f211 211 [] bf 0 cc
def Oc:=pf f212 212 [] bf 1
def Pa:=pf f213 213 [[],[0,1,2,14,15,16],[0,1,2,14,15,16],[0,1,2,14,15,16],[0,1,2,4,14,15,16,40,41],[0,1,2,4,14,15,16,40,41],[0,1,2,4,14,15,16,40,41],[0,1,2,4,14,15,16,40,41,52,53,54],[0,1,2,4,14,15,16,40,41,52,53,54]] cc
def Pc:=pf f214 214 [] bf 0 cc
def Pf:=pf f215 215 [[4,8]] bf 2
def Pg:=pf f216 216
def Yi:=pf f217 217 [[],[0,1,2,3,4,10,11],[0,1,2,3,4,10,11],[]] cc
def Nx:=pf f218 218 [[3],[3,6,7,8],[3,6,7,8]]
def NA:=pf f219 219 [[0,1],[0,1,9,10,11],[0,1,9,10,11]]
def NB:=pf f220 220
def Ft:=pf f221 221 [] bf 0 cc
def Nk:=pf f222 222 [] bf 0 cc
def Nl:=pf f223 223 [[1,3,2,3,1,4,2,4,3,4,2,5],[2,4,6],[2,4,5,6,14],[2,4,5,6,14],[],[],[],[4,6],[2,4,6,78],[2,4,6,78],[]]
def Nn:=pf f224 224 [[0,3],[0,3,9,10,11],[0,3,9,10,11],[6],[6,25,26,27],[6,25,26,27]] bf 1 cc
def Ym:=pf f225 225 [[4,8],[0,1,4,6,7,8,9],[0,1,4,6,7,8,9],[0,1,4,6,7,8,9,10],[0,1,4,6,7,8,9,10,11],[0,1,4,6,7,8,9,10,11],[],[]] bf 0 cc
def Iv:=pf f226 226 [[1,2,2,4,1,5,1,7,2,7,4,7,5,7],[4,6],[1,2,4,6,7],[1,2,4,6,7],[1,2,4,6,7,8],[1,2,4,6,7,8,9],[1,2,4,6,7,8,9]] bf 0 cc
def NS:=pf f227 227 [[9],[0,1,2,3,9,10],[0,1,2,3,9,10],[0,1,2,3,9,10,11]] bf 0 cc
def Iw:=pf f228 228 [] bf 0 cc
def IA:=pf f229 229 [[2],[2]] cc 1
def Fw:=pf f230 230 [[],[0,1,7,8],[0,1,7,8]]
def N3:=pf f231 231
def N4:=pf f232 232
def N5:=pf f233 233 [[]]
def Yu:=pf f234 234
def N6:=pf f235 235
def N7:=pf f236 236 [[5],[1,5,8,9,10],[1,5,8,9,10]]
def Yw:=pf f237 237
def Yx:=pf f238 238
def N8:=pf f239 239 [[],[0,1,7,8],[0,1,7,8]]
def N9:=pf f240 240
def N':=pf f241 241 [[],[0,1,7,8],[0,1,7,8]]
def Oa:=pf f242 242 [[],[0,1,7,8],[0,1,7,8]]
def No:=pf f243 243 [] cc
def Np:=pf f244 244 [[]] cc
def Ba:=pf f245 245 [] cc
def N2:=pf f251 251
def Oe:=pf f252 252 [[7],[1,2,3,7,8],[1,2,3,7,8]]
def Pk:=pf f253 253
def Iz:=pf f254 254 [[1,3,0,6,1,6,3,6],[1,4,2,4,0,5,1,5,2,5,0,6,1,6,2,6,4,6,5,6,4,7,5,7],[8,11],[4,8,11,12,13,14],[4,8,11,12,13,14],[4,8,11,13,14,15],[4,8,11,12,13,14,15,16],[4,8,11,12,13,14,15,16],[9999,11]] bf 0 cc
def Of:=pf f255 255 [[3,5,6],[0,3,5,6,7],[0,3,5,6,7],[],[]] bf 0 cc
def Nq:=pf f256 256 [[2,3],[0,2,3,4],[0,2,3,4],[0,2,3,4],[0,2,3,4,5],[0,2,3,4,5],[],[2,3],[2,3,6],[2,3,6],[]]
def Yh:=pf f257 257
def Nr:=pf f258 258 [[]]
def Iu:=pf f259 259 [[4,14],[4,5,14,87,88,89],[4,5,14,87,88,89],[4,5,17,87,88,89],[4,5,16,17,18,87,88,89,94,95,96],[4,5,16,17,18,87,88,89,94,95,96],[4,5,16,17,18,87,88,89,94,95,96],[4,5,16,17,18,87,88,89,94,95,96,107,108,109],[4,5,16,17,18,87,88,89,94,95,96,107,108,109],[],[4,129,130,131],[4,129,130,131]] cc
def uN:=pf f260 260 [[]] cc
def Yf:=pf f261 261 [] cc
def yG:=pf f262 262 [[]]
def Fu:=pf f263 263 [[0],[0,1,5],[0,1,5],[],[0,5],[0,1,5,6,7],[0,1,5,6,7],[]] cc
def Ns:=pf f264 264
def NC:=pf f265 265 [] bf 1
def Yp:=pf f266 266 [[],[0,1,2,3,8],[0,1,2,3,8],[0,1,2,3,8],[0,1,2,3,8,9],[],[0,1,2,3,8,9],[]] cc
end
noncomputable section
def Nt:=pf f274 274 [[],[0,1,2,4],[0,1,2,4],[]] cc
def Nu:=pf f275 275 [[2,3],[0,2,3,10],[0,2,3,10],[],[2,3],[2,3,5],[2,3,5],[],[]]
def Nv:=pf f276 276
def Nw:=pf f277 277 [] bf 1 cc
def Od:=pf f278 278
def YC:=pf f279 279
def Ou:=pf f280 280 [[],[0,1,7,8],[0,1,7,8]]
def YD:=pf f281 281 [[],[1,2,10],[1,2,10]]
def Ov:=pf f283 283 [[0],[0,1,5],[0,1,5],[0,1,5,6],[0,1,5,6,7],[0,1,5,6,7],[]] cc
def Ow:=pf f284 284 [[4],[],[]] bf 0 cc
def Ox:=pf f285 285
def N0:=pf f286 286 [[]] bf 0 cc
def N1:=pf f287 287 [[]]
def Yo:=pf f288 288 [[],[0,1,2,3,4,10,11],[0,1,2,3,4,10,11],[]] cc
def Ny:=pf f292 292
def Nz:=pf f293 293
def OF:=pf f294 294
def OG:=pf f295 295
def OH:=pf f296 296 [] bf 0 cc
def OI:=pf f297 297 [[7],[4,7,8,9],[4,7,8,9],[]] bf 0 cc
def OJ:=pf f298 298 [[],[]] bf 0 cc
def OL:=pf f299 299 [[6,17,8,17]] bf 0 cc
def Oh:=pf f300 300 [] bf 0 cc
def Oi:=pf f301 301 [[7],[3,7,19,20,21],[3,7,19,20,21]] bf 0 cc
def Oj:=pf f302 302 [[]] bf 0 cc
def Ol:=pf f303 303 [] bf 0 cc
def Om:=pf f304 304 [] bf 0 cc
def IB:=pf f305 305 [[]] bf 0 cc
def On:=pf f306 306 [[6,17,8,17]] bf 0 cc
def Oo:=pf f307 307 [] bf 0 cc
def Oq:=pf f308 308 [[]] bf 0 cc
def Ot:=pf f309 309 [[]] bf 0 cc
def Yy:=pf f310 310
def YA:=pf f311 311
def YB:=pf f312 312 [[],[0,1,2,3,8],[0,1,2,3,8],[0,1,2,3,8],[0,1,2,3,8,9],[],[0,1,2,3,8,9],[]] cc
def ON:=pf f321 321 [[9],[1,2,3,4,9,10],[1,2,3,4,9,10]] bf 0 cc
def OA:=pf f322 322
def OB:=pf f323 323 [] bf 0 cc
def OC:=pf f324 324 [[9],[7,9]] bf 0 cc
def OD:=pf f325 325
def YF:=pf f326 326
def YG:=pf f327 327
def OM:=pf f331 331 [] bf 0 cc
def Fx:=pf f332 332
def YH:=pf f333 333
def OP:=pf f335 335 [[],[0,1,2,3,6],[0,1,2,3,6]] cc
def Fy:=pf f336 336 [[],[0,1,7,8],[0,1,7,8]]
def YI:=pf f337 337
def OS:=pf f364 364 [[]]
def OT:=pf f365 365 [[7],[2,7,15,16,17],[2,7,15,16,17]] bf 0 cc
def OU:=pf f366 366 [[]]
def OV:=pf f367 367 [[5,7],[5,7,14,15,16],[5,7,14,15,16]]
def yO:=pr f19 0 [] [[]]
def FG:=pr f20 0 [] [[9999],[0,5]]
def FF:=pr f54 0 [] [[],[],[3,11],[3,10,11,46,47,48],[3,10,11,46,47,48],[],[3,75],[3,75],[]]
def sQ:=pr f94 0 [] [[]]
def FH:=pr f155 0 [] [[]]
def yM:=pr f229 0 [] [[]]
def yN:=pr f324 0 [] [[]]
end
end Go.Proofs.YtmehofoficaelaaGreatDoor
namespace Go.Proofs.YtmehofoficaelaaGreatDoor
open Go Go.AL
noncomputable def fns:List (Option kn):=[cp,cp,cp,aE Mw,cp,cp,cp,cp,aE XM,cp,cp,cp,aE XP,aE Ng,aE OX,aE My,aE OR,aE Oz,aE Mz,aE MA,aE MC,aE Fg,aE Fh,aE Fi,aE XQ,aE Yk,cp,cp,aE XR,aE XS,aE XU,cp,aE XV,aE XW,cp,aE XX,cp,aE XY,cp,aE YJ,aE OE,aE A6,aE OW,cp,cp,aE XZ,aE X1,aE X3,aE yE,aE A7,aE ID,aE IE,aE II,aE O8,aE O9,aE Fj,aE IF,aE Bd,aE O1,aE O2,aE MG,aE MH,aE MI,aE Im,aE MJ,aE MK,aE X4,aE NV,aE Fk,aE ML,aE X5,aE YK,aE YL,cp,aE X6,aE X7,cp,cp,cp,aE X8,cp,aE X9,aE X',aE YM,aE O7,aE IH,aE OQ,aE MO,aE A8,aE O3,cp,cp,cp,aE Mx,aE IC,aE FA,aE MQ,aE A9,aE IG,aE O4,aE O5,aE O6,aE M4,aE Ip,aE Iq,aE Ir,aE M9,aE Nf,aE Pm,aE Pn,aE Po,aE Pp,aE Mv,aE Fz,aE MT,aE wU,aE MU,aE MV,aE MW,aE MX,aE MY,aE wV,aE MZ,aE M0,aE M1,aE Og,aE Yj,aE yF,aE YN,aE YO,aE YP,aE YQ,aE Ya,cp,cp,aE M3,aE MF,aE OZ,aE MS,aE MN,aE Io,aE Fo,aE M5,aE Yb,aE M6,aE MB,aE MD,aE NR,aE OY,aE Bc,aE FB,aE YR,aE Pd,aE FC,aE Pe,aE A',aE M7,aE Yd,aE M8,aE ME,aE Il,aE MP,aE MR,aE Pb,aE Iy,aE NW,aE NY,aE NZ,aE ND,aE NF,aE Fv,aE NG,aE NH,aE NI,aE NJ,aE NK,aE Yl,aE NL,aE NM,aE NN,aE NO,aE NP,aE NQ,aE Na,aE O',aE Nb,aE Nc,aE Nd,aE Fq,aE Oy,cp,cp,cp,cp,cp,aE YE,cp,cp,cp,aE Ys,aE NT,aE Ph,aE Pj,aE O0,aE Ix,aE Bb,aE NU,aE Fs,aE Ye,aE Nh,aE Ni,aE Nj,aE Oc,aE Pa,aE Pc,aE Pf,aE Pg,aE Yi,aE Nx,aE NA,aE NB,aE Ft,aE Nk,aE Nl,aE Nn,aE Ym,aE Iv,aE NS,aE Iw,aE IA,aE Fw,aE N3,aE N4,aE N5,aE Yu,aE N6,aE N7,aE Yw,aE Yx,aE N8,aE N9,aE N',aE Oa,aE No,aE Np,aE Ba,cp,cp,cp,cp,cp,aE N2,aE Oe,aE Pk,aE Iz,aE Of,aE Nq,aE Yh,aE Nr,aE Iu,aE uN,aE Yf,aE yG,aE Fu,aE Ns,aE NC,aE Yp,cp,cp,cp,cp,cp,cp,cp,aE Nt,aE Nu,aE Nv,aE Nw,aE Od,aE YC,aE Ou,aE YD,cp,aE Ov,aE Ow,aE Ox,aE N0,aE N1,aE Yo,cp,cp,cp,aE Ny,aE Nz,aE OF,aE OG,aE OH,aE OI,aE OJ,aE OL,aE Oh,aE Oi,aE Oj,aE Ol,aE Om,aE IB,aE On,aE Oo,aE Oq,aE Ot,aE Yy,aE YA,aE YB,cp,cp,cp,cp,cp,cp,cp,cp,aE ON,aE OA,aE OB,aE OC,aE OD,aE YF,aE YG,cp,cp,cp,aE OM,aE Fx,aE YH,cp,aE OP,aE Fy,aE YI,cp,cp,cp,cp,cp,cp,cp,cp,cp,cp,cp,cp,cp,cp,cp,cp,cp,cp,cp,cp,cp,cp,cp,cp,cp,cp,aE OS,aE OT,aE OU,aE OV,cp,cp,cp,cp,cp,cp,cp,cp,cp]
noncomputable def rounds:List (Nat×sR):=[(1216,yO),(1280,FG),(3456,FF),(6016,sQ),(9920,FH),(14656,yM),(20736,yN)]
noncomputable def T:jt:={ fn:=nth fns,round:=assoc rounds,sort:=λf=>if f=151 then aE 5 else if f=261 then aE 6 else cp,vI:=λf=>Nat.beq f 67,uV:=λf=>Nat.beq f 66 }
def gl(P:Program):GT:={ g:=Uf,rt:=CE P,nw:=λf=>elem f glN }

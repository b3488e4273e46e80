/- 8 -/
import Derived.Test.YtmehofoficaelaaGreatDoorProg
import Derived.Test.YtmehofoficaelaaGreatDoorV07
set_option linter.all false
open Option renaming some→aE,none→bb
open Bool renaming false→bs,true→b4
namespace Go.Proofs.YtmehofoficaelaaGreatDoor
open Go Go.AL Tryz
noncomputable def tl:Array (Unit->Array (Unit->TypeInfo)):=#[λ_=>#[λ_=>t0,λ_=>t1,λ_=>t2,λ_=>t3,λ_=>t4,λ_=>t5,λ_=>t6,λ_=>t7,λ_=>t8,λ_=>t9,λ_=>t10,λ_=>t11,λ_=>t12,λ_=>t13,λ_=>t14,λ_=>t15,λ_=>t16,λ_=>t17,λ_=>t18,λ_=>t19],
 λ_=>#[λ_=>t20,λ_=>t21,λ_=>t22,λ_=>t23,λ_=>t24,λ_=>t25,λ_=>t26,λ_=>t27,λ_=>t28,λ_=>t29,λ_=>t30,λ_=>t31,λ_=>t32,λ_=>t33,λ_=>t34,λ_=>t35,λ_=>t36,λ_=>t37,λ_=>t38,λ_=>t39],
 λ_=>#[λ_=>t40,λ_=>t41,λ_=>t42,λ_=>t43,λ_=>t44,λ_=>t45,λ_=>t46,λ_=>t47,λ_=>t48,λ_=>t49,λ_=>t50,λ_=>t51,λ_=>t52,λ_=>t53,λ_=>t54,λ_=>t55,λ_=>t56,λ_=>t57,λ_=>t58,λ_=>t59],
 λ_=>#[λ_=>t60,λ_=>t61,λ_=>t62,λ_=>t63,λ_=>t64,λ_=>t65,λ_=>t66,λ_=>t67,λ_=>t68,λ_=>t69,λ_=>t70,λ_=>t71,λ_=>t72,λ_=>t73,λ_=>t74,λ_=>t75,λ_=>t76,λ_=>t77,λ_=>t78,λ_=>t79],
 λ_=>#[λ_=>t80,λ_=>t81,λ_=>t82,λ_=>t83,λ_=>t84,λ_=>t85,λ_=>t86,λ_=>t87,λ_=>t88,λ_=>t89,λ_=>t90,λ_=>t91,λ_=>t92,λ_=>t93,λ_=>t94,λ_=>t95,λ_=>t96,λ_=>t97,λ_=>t98,λ_=>t99],
 λ_=>#[λ_=>t100,λ_=>t101,λ_=>t102,λ_=>t103,λ_=>t104,λ_=>t105,λ_=>t106,λ_=>t107,λ_=>t108,λ_=>t109,λ_=>t110,λ_=>t111,λ_=>t112,λ_=>t113,λ_=>t114,λ_=>t115,λ_=>t116,λ_=>t117,λ_=>t118,λ_=>t119],
 λ_=>#[λ_=>t120,λ_=>t121,λ_=>t122,λ_=>t123,λ_=>t124,λ_=>t125,λ_=>t126,λ_=>t127,λ_=>t128,λ_=>t129,λ_=>t130,λ_=>t131,λ_=>t132,λ_=>t133,λ_=>t134,λ_=>t135,λ_=>t136,λ_=>t137,λ_=>t138,λ_=>t139],
 λ_=>#[λ_=>t140,λ_=>t141,λ_=>t142,λ_=>t143,λ_=>t144,λ_=>t145,λ_=>t146,λ_=>t147,λ_=>t148,λ_=>t149,λ_=>t150,λ_=>t151,λ_=>t152,λ_=>t153,λ_=>t154,λ_=>t155,λ_=>t156,λ_=>t157,λ_=>t158,λ_=>t159],
 λ_=>#[λ_=>t160,λ_=>t161,λ_=>t162,λ_=>t163,λ_=>t164,λ_=>t165,λ_=>t166,λ_=>t167,λ_=>t168,λ_=>t169,λ_=>t170,λ_=>t171,λ_=>t172,λ_=>t173,λ_=>t174,λ_=>t175,λ_=>t176,λ_=>t177,λ_=>t178,λ_=>t179],
 λ_=>#[λ_=>t180,λ_=>t181,λ_=>t182,λ_=>t183,λ_=>t184,λ_=>t185,λ_=>t186,λ_=>t187,λ_=>t188,λ_=>t189,λ_=>t190,λ_=>t191,λ_=>t192,λ_=>t193,λ_=>t194,λ_=>t195,λ_=>t196,λ_=>t197,λ_=>t198,λ_=>t199],
 λ_=>#[λ_=>t200,λ_=>t201,λ_=>t202,λ_=>t203,λ_=>t204,λ_=>t205,λ_=>t206,λ_=>t207,λ_=>t208,λ_=>t209,λ_=>t210,λ_=>t211,λ_=>t212,λ_=>t213,λ_=>t214,λ_=>t215,λ_=>t216,λ_=>t217,λ_=>t218,λ_=>t219],
 λ_=>#[λ_=>t220,λ_=>t221,λ_=>t222,λ_=>t223,λ_=>t224,λ_=>t225,λ_=>t226,λ_=>t227,λ_=>t228,λ_=>t229,λ_=>t230,λ_=>t231,λ_=>t232,λ_=>t233,λ_=>t234,λ_=>t235,λ_=>t236,λ_=>t237,λ_=>t238,λ_=>t239],
 λ_=>#[λ_=>t240,λ_=>t241,λ_=>t242,λ_=>t243,λ_=>t244,λ_=>t245,λ_=>t246,λ_=>t247,λ_=>t248,λ_=>t249,λ_=>t250,λ_=>t251,λ_=>t252,λ_=>t253,λ_=>t254,λ_=>t255,λ_=>t256,λ_=>t257,λ_=>t258,λ_=>t259],
 λ_=>#[λ_=>t260,λ_=>t261,λ_=>t262,λ_=>t263,λ_=>t264,λ_=>t265,λ_=>t266,λ_=>t267,λ_=>t268,λ_=>t269,λ_=>t270,λ_=>t271,λ_=>t272,λ_=>t273,λ_=>t274,λ_=>t275,λ_=>t276,λ_=>t277,λ_=>t278,λ_=>t279],
 λ_=>#[λ_=>t280,λ_=>t281,λ_=>t282,λ_=>t283,λ_=>t284,λ_=>t285,λ_=>t286,λ_=>t287,λ_=>t288,λ_=>t289,λ_=>t290,λ_=>t291,λ_=>t292,λ_=>t293,λ_=>t294,λ_=>t295,λ_=>t296,λ_=>t297,λ_=>t298,λ_=>t299],
 λ_=>#[λ_=>t300,λ_=>t301,λ_=>t302,λ_=>t303,λ_=>t304,λ_=>t305,λ_=>t306,λ_=>t307,λ_=>t308,λ_=>t309,λ_=>t310,λ_=>t311,λ_=>t312,λ_=>t313,λ_=>t314,λ_=>t315,λ_=>t316,λ_=>t317,λ_=>t318,λ_=>t319],
 λ_=>#[λ_=>t320,λ_=>t321,λ_=>t322,λ_=>t323,λ_=>t324,λ_=>t325,λ_=>t326,λ_=>t327,λ_=>t328,λ_=>t329,λ_=>t330,λ_=>t331,λ_=>t332,λ_=>t333,λ_=>t334,λ_=>t335,λ_=>t336,λ_=>t337,λ_=>t338,λ_=>t339],
 λ_=>#[λ_=>t340,λ_=>t341,λ_=>t342,λ_=>t343,λ_=>t344,λ_=>t345,λ_=>t346,λ_=>t347,λ_=>t348,λ_=>t349,λ_=>t350,λ_=>t351,λ_=>t352,λ_=>t353,λ_=>t354,λ_=>t355,λ_=>t356,λ_=>t357,λ_=>t358,λ_=>t359],
 λ_=>#[λ_=>t360,λ_=>t361,λ_=>t362,λ_=>t363,λ_=>t364,λ_=>t365,λ_=>t366,λ_=>t367,λ_=>t368,λ_=>t369,λ_=>t370,λ_=>t371,λ_=>t372,λ_=>t373,λ_=>t374,λ_=>t375,λ_=>t376,λ_=>t377,λ_=>t378,λ_=>t379],
 λ_=>#[λ_=>t380,λ_=>t381,λ_=>t382,λ_=>t383,λ_=>t384,λ_=>t385,λ_=>t386,λ_=>t387,λ_=>t388,λ_=>t389,λ_=>t390,λ_=>t391,λ_=>t392,λ_=>t393,λ_=>t394,λ_=>t395,λ_=>t396,λ_=>t397,λ_=>t398,λ_=>t399],
 λ_=>#[λ_=>t400,λ_=>t401,λ_=>t402,λ_=>t403,λ_=>t404,λ_=>t405,λ_=>t406,λ_=>t407,λ_=>t408,λ_=>t409,λ_=>t410,λ_=>t411,λ_=>t412,λ_=>t413,λ_=>t414,λ_=>t415,λ_=>t416,λ_=>t417,λ_=>t418,λ_=>t419],
 λ_=>#[λ_=>t420,λ_=>t421,λ_=>t422,λ_=>t423,λ_=>t424,λ_=>t425,λ_=>t426,λ_=>t427,λ_=>t428,λ_=>t429,λ_=>t430,λ_=>t431,λ_=>t432,λ_=>t433,λ_=>t434,λ_=>t435,λ_=>t436,λ_=>t437,λ_=>t438,λ_=>t439],
 λ_=>#[λ_=>t440,λ_=>t441,λ_=>t442,λ_=>t443,λ_=>t444,λ_=>t445,λ_=>t446,λ_=>t447,λ_=>t448,λ_=>t449,λ_=>t450,λ_=>t451,λ_=>t452,λ_=>t453,λ_=>t454,λ_=>t455,λ_=>t456,λ_=>t457,λ_=>t458,λ_=>t459]]
noncomputable def qI(t:Nat):TypeInfo:=match tl[t / 20]? with
 | some f=>match (f ())[t % 20]? with
  | some f=>f ()
  | none=>t0
 | none=>t0
def QF:Nat->Option (List D):=λg=>if g=0 then aE [.val .nilFunc,.fn (.func 364) [] [],.fn (.func 366) [] [],.fn (.func 367) [] []]else if g=1 then aE DR else if g=2 then aE DY else bb
def tF(g:Nat)(l:List D):List D:=if g<1000 then(QF g).getD []else if g<2000 then Zw (g-1000)++l else Zb (g-2000)++l
def W1:List Nat:=[25,28,30,33,95,150,183,184,205,224,265]
@[simp] theorem at6:tF 0 [] = [.val .nilFunc,.fn (.func 364) [] [],.fn (.func 366) [] [],.fn (.func 367) [] []]:=rfl
@[simp] theorem at7:tF 1 []=DR:=rfl
@[simp] theorem aud:tF 2 []=DY:=rfl
@[simp] theorem aua(l:List D):tF 1008 l=Zw 8++l:=rfl
@[simp] theorem aue(l:List D):tF 2008 l=Zb 8++l:=rfl
@[simp] theorem aub(l:List D):tF 1032 l=Zw 32++l:=rfl
@[simp] theorem auf(l:List D):tF 2032 l=Zb 32++l:=rfl
@[simp] theorem auc(l:List D):tF 1064 l=Zw 64++l:=rfl
@[simp] theorem aug(l:List D):tF 2064 l=Zb 64++l:=rfl
noncomputable def qU(t:Nat):TypeDesc:=match (qI t).desc with
 | .named _ r=>(qI r).desc
 | d=>d
noncomputable def qS(t:Nat):Nat:=(qI t).size
noncomputable def qV(t:Nat):List D:=match (qI t).zero with
 | some z=>z.cells.toList.map tA
 | none=>[]
noncomputable def qW(Z:Nat->List D->List D)(t:Nat)(l:List D):List D:=match qU t with
 | .array n e=>if n % 8=0 then(match qU e with
  | .int .u32=>Z (1000+n) l
  | .int .u8=>Z (2000+n) l
  | _=>qV t++l)else qV t++l
 | _=>qV t++l
noncomputable def qY(Z:Nat->List D->List D)(t:Nat)(l:List D):List D:=match qU t with
 | .struct fs=>fs.toList.foldr (λf l=>qW Z f.type l) l
 | _=>qW Z t l
noncomputable def qZ(Z:Nat->List D->List D)(t:Nat):List D:=match qU t with
 | .struct fs=>fs.toList.foldr (λf l=>qY Z f.type l) []
 | _=>qW Z t []
noncomputable def qD(Z:Nat->List D->List D)(t:Nat):D:=match (qI t).zero with
 | some (.agg _)=>.agg (qZ Z t)
 | some v=>tA v
 | none=>.any
noncomputable def qG(t:Nat):Bool:=match qU t with
 | .struct _=>b4
 | .array _ _=>b4
 | _=>bs
noncomputable def qE(t:Nat):Nat:=match qU t with
 | .slice e=>e
 | .array _ e=>e
 | .map _ e=>e
 | _=>0
noncomputable def qX(Z:Nat->List D->List D):Operand->X
 | .tmp t=>.t t
 | .const (.agg cs)=>.c (.agg (cs.toList.map tA))
 | .const v=>.c (tA v)
 | .global g=>.c (.gC (Z g []))
 | .func f=>.c (.fn (.func f) [] [])
noncomputable def Ti(Z:Nat->List D->List D)(l:Array Operand):List X:=l.toList.map (qX Z)
noncomputable def qL(t:Nat):mQ:=match qU t with
 | .string=>.str
 | .bool=>.bool
 | _=>.int
noncomputable def qLs(t:Nat):List mQ:=match qU t with
 | .struct fs=>fs.toList.map λf=>qL f.type
 | .array n e=>List.replicate n (qL e)
 | _=>[]
noncomputable def qI'(t:Nat):IntKind:=match qU t with
 | .int k=>k
 | _=>.i64
noncomputable def qK(t:Nat):KK:=match qU t with
 | .struct fs=>.ints (fs.toList.map λf=>qI' f.type)
 | .int k=>.int k
 | .string=>.str
 | _=>.bool
noncomputable def qM(t:Nat):KK:=match qU t with
 | .map k _=>qK k
 | _=>.bool
noncomputable def qF(t:Nat)(i:Nat):Nat×Nat:=match qU t with
 | .struct fs=>match fs[i]? with
  | some f=>(f.offset,f.type)
  | none=>(0,0)
 | _=>(0,0)
noncomputable def qQ(n:Bool)(op:BinOp)(t:Nat)(a b:X):iT:=match qU t with
 | .bool=>.eqS bs [.bool] n a b
 | .int _=>.arith op a b
 | .string=>.arith op a b
 | .slice _=>.nilS n a
 | _=>.eqS b4 (qLs t) n a b
noncomputable def qC(Z:Nat->List D->List D)(c:Call)(a:List X):iT:=match c.callee with
 | .value (.func f)=>if elem f W1 then .callN f a else .call f a
 | .value f=>.callv (qX Z f) a
 | .builtin b=>match c.argTypes.toList,a with
  | [t],[x]=>match b with
   | .len=>match qU t with
    | .string=>.len .string x
    | .map _ _=>.len .map x
    | _=>.len .slice x
   | .cap=>.capE x
   | _=>.clr (qS (qE t)) (qZ Z (qE t)) x
  | [t,u],[x,y]=>match b with
   | .append=>match qU u with
    | .int _=>.appZ (qE t) (qS (qE t)) (qI (qE t)).bytes (qZ Z (qE t)) x y
    | _=>.app (qE t) (qS (qE t)) (qI (qE t)).bytes x y
   | .copy=>.copy (qS (qE t)) x y
   | .max=>.minmax b4 a
   | _=>.minmax bs a
  | _,_=>match b with
   | .max=>.minmax b4 a
   | _=>.minmax bs a
 | _=>.mv (.c .any)
noncomputable def qH:Operand->Bool
 | .global g=>decide (2<g)
 | _=>bs
noncomputable def qO(Z:Nat->List D->List D):Op->iT
 | .move x=>.mv (qX Z x)
 | .assign x=>.mv (qX Z x)
 | .pick c a b=>.pick (qX Z c) (qX Z a) (qX Z b)
 | .box e x=>.box e (qX Z x)
 | .alloc e=>.alloc e (qZ Z e)
 | .build t l=>match qU t with
  | .array _ e=>.build (qZ Z t) (l.toList.map λp=>(p.1*qS e,qS e,qX Z p.2))
  | _=>.build (qZ Z t) (l.toList.map λp=>((qF t p.1).1,qS (qF t p.1).2,qX Z p.2))
 | .buildSlice t n l=>.buildSl (qE t) (qS (qE t)) (qZ Z (qE t)) n (l.toList.map λp=>(p.1,qX Z p.2))
 | .load t a=>if qG t then .ldN (qS t) (qX Z a)else .ld1 (qX Z a)
 | .store t a v=>if qG t then .stN (qS t) (qX Z a) (qX Z v)else .st1 (qX Z a) (qX Z v)
 | .nilCheck x=>.nilck (qX Z x)
 | .binOp .eql t x y _=>qQ bs .eql t (qX Z x) (qX Z y)
 | .binOp .neq t x y _=>qQ b4 .neq t (qX Z x) (qX Z y)
 | .binOp op _ x y _=>.arith op (qX Z x) (qX Z y)
 | .unOp op _ x=>.un op (qX Z x)
 | .convert _ d x=>match qU d with
  | .int k=>.conv k (qX Z x)
  | _=>.b2s (qX Z x)
 | .makeFunc f a c=>.mkfn f (Ti Z a) (Ti Z c)
 | .makeMap t _=>.mkmap (qM t)
 | .lookup t x i ok=>.lookup (qM t) (qD Z (qE t)) ok (qX Z x) (qX Z i)
 | .mapUpdate t m k v=>.mapUpd (qM t) (qX Z m) (qX Z k) (qX Z v)
 | .insert t m k v=>.mapUpd (qM t) (qX Z m) (qX Z k) (qX Z v)
 | .makeSlice t l c=>.mksl (qE t) (qS (qE t)) (qI (qE t)).bytes (qZ Z (qE t)) (qX Z l) (qX Z c)
 | .slice t x lo (aE hi) (aE mx)=>.slc3 (qS (qE t)) (qX Z x) (lo.map (qX Z)) (qX Z hi) (qX Z mx)
 | .slice t x lo hi _=>match qU t with
  | .string=>.slcS (qX Z x) (lo.map (qX Z)) (hi.map (qX Z))
  | .array n e=>.slcArr (qS e) n (qX Z x) (lo.map (qX Z)) (hi.map (qX Z))
  | _=>.slc (qS (qE t)) (qX Z x) (lo.map (qX Z)) (hi.map (qX Z))
 | .fieldAddr t x f=>.fieldA (qF t f).1 (qX Z x)
 | .field t x f=>.field (qF t f).1 (qS (qF t f).2) (qG (qF t f).2) (qX Z x)
 | .indexAddr t x i=>match qU t with
  | .array n e=>if qH x then .mv (.c .any)else .idxArr (qS e) n (qX Z x) (qX Z i)
  | _=>.idxA (qS (qE t)) (qX Z x) (qX Z i)
 | .index t x i=>match qU t with
  | .array n e=>.idx (qS e) n (qG e) (qX Z x) (qX Z i)
  | _=>.idxStr (qX Z x) (qX Z i)
 | .extract x i=>.ext (qX Z x) i
 | .call c=>qC Z c (Ti Z c.args)
 | .range t x=>match qU t with
  | .string=>.rangeS (qX Z x)
  | _=>.rangeM (qX Z x)
 | .next x s=>if s then .nextS (qX Z x)else .nextM (qX Z x)
 | .entry x=>.entry (qX Z x)
 | .mapEntry t m k=>.mapEnt (qM t) (qD Z (qE t)) (qX Z m) (qX Z k)
 | .entryStore _ m s x=>.entSt (qX Z m) (qX Z s) (qX Z x)
 | _=>.mv (.c .any)
noncomputable def qA(Z:Nat->List D->List D)(ops:Array Oper)(o:Oper):il:=⟨o.dst,qO Z o.op,match o.guard with
 | some (j,w)=>aE ((match ops[j]? with
  | some q=>q.dst.getD 0
  | none=>0),w)
 | none=>bb⟩
noncomputable def qT(e:il):Bool:=match e.op with
 | .mv (.c .any)=>b4
 | _=>bs
def qP:List Nat->List (Nat×Nat)
 | a::b::l=>(a,b)::qP l
 | _=>[]
noncomputable def qB(Z:Nat->List D->List D)(rf:Nat):List (List Nat)->Code->IR×List (List Nat)
 | hs,.skip=>(.skip,hs)
 | hs,.region _ ops d=>if (ops.toList.map (qA Z ops)).any qT then(.bad,hs)else match d with
  | false=>(.ops (ops.toList.map (qA Z ops)),hs)
  | true=>match hs with
   | (9999::n::l)::hs=>(.mS (qP l) ((ops.toList.map (qA Z ops)).take n) ((ops.toList.map (qA Z ops)).drop n),hs)
   | l::hs=>(.mg (qP l) (ops.toList.map (qA Z ops)),hs)
   | []=>(.bad,[])
 | hs,.seq a b=>match qB Z rf hs a with
  | (x,lg)=>match qB Z (rf+(nZ a).length) lg b with
   | (y,l8)=>(.seq x y,l8)
 | hs,.cond c a b=>match qB Z rf hs a with
  | (y,lg)=>match qB Z (rf+(nZ a).length) lg b with
   | (z,l8)=>(.cond (qX Z c) y z,l8)
 | l::hs,.block id a=>match qB Z rf hs a with
  | (x,lg)=>(.block id l x,lg)
 | l::hs,.loop a=>match qB Z rf hs a with
  | (x,lg)=>(.loop l x,lg)
 | l::hs,.rangeFunc g _ _ _=>(.oD rf l (qX Z g),hs)
 | hs,.exit id=>(.exit id,hs)
 | hs,.ret=>(.ret,hs)
 | hs,_=>(.bad,hs)
noncomputable def qR:ResultVar->ve
 | .tmp t=>.tmp t
 | .cell a t=>if qG t then .PT (qS t) a else .tA a
noncomputable def qN(Z:Nat->List D->List D)(f:Func)(n:Nat)(hs:List (List Nat))(full:Bool)(own:Nat)(fz:Bool):jq:=
 .mk f.ntmps (qB Z (64*n) hs (Ga f)).1 (f.results.toList.map qR) full own fz
noncomputable def qN2(Z:Nat->List D->List D)(f:Func)(i:Nat)(d c:List (List Nat)):qJ:=match (nZ (Ga f))[i]? with
 | some (ps,a,b)=>.mk ps.toList (qB Z 0 d a).1 (qB Z 0 c b).1
 | none=>.mk [] .bad .bad
@[reducible] noncomputable def pf(f:Func)(n:Nat)(hs:List (List Nat):=[])(full:Bool:=bs)(own:Nat:=0)(fz:Bool:=bs){x:(Nat->List D->List D)->jq}(_:∀Z,qN Z f n hs full own fz=x Z:=by intro Z;conv=>lhs;cbv):jq:=x tF
@[reducible] noncomputable def pr(f:Func)(i:Nat)(b a:List (List Nat)){x:(Nat->List D->List D)->qJ}(_:∀Z,qN2 Z f i b a=x Z:=by intro Z;conv=>lhs;cbv):qJ:=x tF
@[simp ↓] theorem axw{f:Func}{n:Nat}{hs:List (List Nat)}{full:Bool}{own:Nat}{fz:Bool}{x:(Nat->List D->List D)->jq}(h:∀Z,qN Z f n hs full own fz=x Z):pf f n hs full own fz h=x tF:=rfl
@[simp ↓] theorem axz{f:Func}{i:Nat}{b a:List (List Nat)}{x:(Nat->List D->List D)->qJ}(h:∀Z,qN2 Z f i b a=x Z):pr f i b a h=x tF:=rfl
set_option maxRecDepth 100000
set_option maxHeartbeats 4000000
noncomputable section
def T6:=pf f8 8 [[5,6,7,8,9,10,11],[5,6,7,8,9,10,11,12],[5,6,7,8,9,10,11,12],[1,14,3,14,6,14,8,14,10,14,13,14,1,15,3,15,6,15,8,15,10,15,13,15,14,15],[],[]]
def Ju:=pf f9 9 [[4,7],[4,6,1,10,4,10,6,10,9,10,1,11,4,11,6,11,9,11,10,11],[1,7,3,7,1,8,3,8,7,11,8,11,9,11,7,13,8,13,9,13,11,17,13,17,11,18,13,18,1,20,3,20,7,20,8,20,9,20,11,20,13,20,17,20,18,20,19,20,1,21,3,21,7,21,8,21,9,21,11,21,13,21,17,21,18,21,19,21,20,21],[20,27,20,28]]
def J4:=pf f13 13 [] bs 0 b4
def Jw:=pf f18 18 [[3],[0,3,4],[0,3,4]] bs 0 b4
def CZ:=pf f20 20 [[9999,1,2,3,9,11,12],[9999,1,2,3,9,11,12,40,41],[9999,1,2,3,9,11,12,40,41],[9999,6,7,8],[9999,1,2,3,9,11,12],[9999,1,2,3,9,11,12],[9999,1,2,3,9,11,12],[11,12],[9999,1,2,3,9,11,12],[9999,1,2,3,9,11,12,76,77,78],[9999,1,2,3,9,11,12,76,77,78],[4,9],[],[9999,1,3,11,20],[9999,1,3,11,20,108,109,110],[9999,1,3,11,20,108,109,110],[9999,1,3,11,20,108,109,110],[9999,1,3,11,20,21,108,109,110,116],[9999,1,3,11,20,21,108,109,110,116],[],[]] bs 0 b4
def T7:=pf f24 24 [[7,10,7,14,3,15,6,15,7,15],[0,3,0,5,0,6,3,8,5,8,6,8,7,8,8,11,8,13,8,14,0,16,3,16,5,16,6,16,7,16,8,16,11,16,13,16,14,16,15,16,0,17,3,17,5,17,6,17,7,17,8,17,11,17,13,17,14,17,15,17,16,17],[0,3,0,6,3,6,0,7,3,7,0,8,0,9,3,9,6,9,7,9,8,9,0,10,3,10,6,10,7,10,8,10,9,10],[9,12,9,13,19,23,19,24]]
def FB:=pf f25 25 [] bs 0 b4
def Jy:=pf f26 26 [] bs 1 b4
def Fx:=pf f28 28 [] bs 0 b4
def y8:=pf f29 29
def wG:=pf f30 30 [] bs 0 b4
def y9:=pf f32 32
def za:=pf f33 33 [] bs 0 b4
def T8:=pf f35 35 [[0,1,5],[0,1,5,12,13],[0,1,5,12,13],[]]
def wH:=pf f37 37
def FL:=pf f39 39 [[6],[1,2,6,7],[1,2,6,7],[],[],[1,2,6,7,9],[1,2,6,7,8,9,10],[1,2,6,7,8,9,10]] bs 0 b4
def Ln:=pf f40 40 [[],[0,1,5],[0,1,5]]
def zb:=pf f41 41 [[2,3],[0,2,3,4],[0,2,3,4]]
def LF:=pf f42 42 [[],[2,3,8,30,31,32],[2,3,8,30,31,32],[]]
def JB:=pf f44 44 [[10],[0,1,3,9,10,11],[0,1,3,9,10,11],[3,13,7,13,9,13,12,13]] bs 1 b4
def wI:=pf f48 48 [[]]
def zc:=pf f49 49 [[2,3],[2,3,6,7,8],[2,3,6,7,8]]
def FJ:=pf f50 50 [[1,2,3,4,5],[1,2,3,4,5,6],[1,2,3,4,5,6],[],[6,7]] bs 0 b4
def FK:=pf f51 51 [[6,7],[2,3,6,7,8],[2,3,6,7,8],[2,3,6,7,9],[2,3,6,7,8,9,10],[2,3,6,7,8,9,10],[],[2,3,6,7,8],[2,3,6,7,8,9,11],[2,3,6,7,8,9,11]] bs 0 b4
def AW:=pf f56 56 [[1,2,7],[1,2,7,37,38,39],[1,2,7,37,38,39],[10],[2,7,10,52,53,54],[2,7,10,52,53,54],[2,7,10,52,53,54],[2,7,10,11,52,53,54,61,62,63],[2,7,10,11,52,53,54,61,62,63]] bs 0 b4
def LL:=pf f58 58
def JD:=pf f60 60
def sR:=pf f63 63 [] b4 2
def JE:=pf f64 64 [[9999,0,2],[9999,0,2,27,28],[9999,0,2,27,28],[9999,0,2,7],[9999,0,2,7,44,45,46],[9999,0,2,7,44,45,46]] b4 4
def JF:=pf f65 65 [] b4 4
def T9:=pf f66 66 [[]] b4 1
def KG:=pf f67 67 [] b4
def Ua:=pf f70 70 [] bs 0 b4
def FM:=pf f71 71 [[1,7],[1,2,7,8],[1,2,7,8],[1,2,8,9],[1,2,7,8,9,10],[1,2,7,8,9,10],[11],[1,7,11,12],[1,7,11,12]] bs 0 b4
def FN:=pf f72 72 [[1,2,3,4,9],[1,2,3,4,9,10],[1,2,3,4,9,10],[9],[1,3,9,11,12,13],[1,3,9,11,12,13],[]] bs 0 b4
def wJ:=pf f73 73 [[9,13]] bs 1 b4
def C0:=pf f74 74
def C1:=pf f75 75 [] bs 0 b4
def C2:=pf f79 79 [[],[0,1,5],[0,1,5],[]]
def wK:=pf f81 81 [[],[2,3,14],[2,3,14,66,67,68],[2,3,14,66,67,68],[]]
def JR:=pf f82 82
def LR:=pf f83 83 [[],[0,3],[0,3],[]]
def LU:=pf f84 84 [[],[],[2,3,5],[2,3,5],[]]
def FP:=pf f85 85 [[2,3,5,6,7],[2,3,5,6,7,8],[2,3,5,6,7,8],[2,3,6,7],[2,3,5,6,7,9],[2,3,5,6,7,9]] bs 0 b4
def Lx:=pf f86 86 [[],[0,3,5,6],[0,3,5,6],[]]
def JH:=pf f87 87 [] bs 0 b4
def zd:=pf f88 88 [[]]
def LN:=pf f89 89 [[1,4,5,6],[0,1,4,5,6,9,10,11],[0,1,4,5,6,9,10,11],[0,1,4,5,6,9,10,11],[4]]
def C3:=pf f91 91 [[5],[0,5,6,7],[0,5,6,7]] bs 0 b4
end
noncomputable section
def ze:=pf f92 92 [[6,7],[2,3,4,6,7,8],[2,3,4,6,7,8]] bs 0 b4
def Jv:=pf f93 93 [[3],[3,20,21,22],[3,20,21,22]]
def FH:=pf f94 94 [[2,3,7,8],[7,8],[]] bs 0 b4
def De:=pf f95 95 [] bs 0 b4
def JJ:=pf f96 96 [[3],[1,3,4],[1,3,4]] bs 0 b4
def zf:=pf f97 97 [[0,2],[]]
def FO:=pf f98 98 [[1,18,3,18,5,18,6,18,9,18,14,18],[1,2,3,4],[1,2,3,4,5],[1,2,3,4,5],[0,6,0,12,3,12,6,12],[1,2,3,4,5,6],[1,2,3,4,5,6,7],[1,2,3,4,5,6,7],[1,17],[2,3],[1,2,3,4,8],[1,2,3,4,8],[1,20,5,20,10,20,14,20],[]] bs 0 b4
def LO:=pf f99 99 [[7],[2,3,4,7,8],[2,3,4,7,8]] bs 0 b4
def LP:=pf f100 100 [[3,5,3,8,3,12,2,16,3,16,5,16,8,16,12,16],[2,3,4,5],[2,3,4,5,6],[2,3,4,5,6],[],[],[4,5],[2,3,4,5,8],[2,3,4,5,8],[2,3,4,5,8],[2,3,4,5,8,9],[2,3,4,5,8,9],[]] bs 0 b4
def LQ:=pf f101 101 [[4],[3,4,5],[3,4,5],[]] bs 0 b4
def Ma:=pf f108 108
def Mb:=pf f109 109 [[]]
def Mc:=pf f110 110 [[1],[1,51,52,53],[1,51,52,53]]
def Md:=pf f111 111
def CY:=pf f112 112 [[],[0,6,7],[0,6,7],[]]
def Dd:=pf f113 113 [[],[2,3,9,10,11],[2,3,9,10,11],[]]
def JM:=pf f116 116 [[9999,0,3],[9999,0,3,23,24],[9999,0,3,23,24],[9999,3],[9999,0,3,38,39,40],[9999,0,3,38,39,40],[],[9999,0,3,38,39,40],[9999,0,3,5,6,38,39,40,63,64,65],[9999,0,3,5,6,38,39,40,63,64,65],[]] b4 4
def JN:=pf f117 117 [] b4
def JO:=pf f118 118 [] b4
def JQ:=pf f119 119 [[9999,7],[9999,2,7,17],[9999,2,7,17]] b4
def JS:=pf f120 120
def uB:=pf f121 121
def JT:=pf f122 122 [[9999,5],[9999,5,14],[9999,5,14]] b4
def JU:=pf f123 123 [[],[],[],[9999,2,3,5,8,9],[9999,2,3,5,8,9,53,54,55],[9999,2,3,5,8,9,53,54,55],[9999,2,3,5,8,9,53,54,55],[9999,2,3,5,8,9,10,11,53,54,55,71],[9999,2,3,5,8,9,10,11,53,54,55,71]] b4
def JV:=pf f124 124 [[9999],[9999,0,1,3],[9999,0,1,3]] b4 4
def K2:=pf f125 125 [[],[0,1,2,3,8,9],[0,1,2,3,8,9],[]] b4
def Uh:=pf f126 126
def FQ:=pf f128 128 [[5],[1,2,5,6],[1,2,5,6],[0,6,4,6,5,6]] bs 0 b4
def LV:=pf f129 129 [[1,2,6,7,8],[0,1,2,6,7,8,9],[0,1,2,6,7,8,9]]
def LW:=pf f130 130 [[9],[1,2,3,4,9,10],[1,2,3,4,9,10],[1,2,3,4,9,10],[1,2,3,4,9,10,11],[1,2,3,4,9,10,11],[0,6,4,6,5,6],[1,2,3,4,9,10,11,12,13,14],[1,2,3,4,9,10,11,12,13,14,15],[1,2,3,4,9,10,11,12,13,14,15],[]] bs 0 b4
def LX:=pf f131 131
def JW:=pf f132 132 [[],[0,1,5],[0,1,5],[]]
def C4:=pf f135 135 [[0,2,3,4],[0,2,3,4,9,10,11],[0,2,3,4,9,10,11],[0,2,3,4,9,10,11],[2]]
def JC:=pf f136 136 [[],[2,3,5],[2,3,5],[]]
def LI:=pf f137 137 [[],[],[5,6],[5,6]]
def JL:=pf f138 138 [[],[1,2,5],[1,2,5]]
def JG:=pf f139 139 [[5],[2,3,5,6],[2,3,5,6],[2,3,5,6],[2,3,5,6,7,8],[2,3,5,6,7,8]] bs 0 b4
def Fz:=pf f140 140 [[5],[2,3,5,6],[2,3,5,6],[2,3,5,6],[2,3,5,6,7],[2,3,5,6,7],[]] bs 0 b4
def C5:=pf f141 141 [[2,4],[2,3,4,5],[2,3,4,5],[],[2,6],[2,4,6,7],[2,4,6,7]]
def JX:=pf f142 142
def Ub:=pf f143 143 [[3],[0,3],[0,3]]
def JY:=pf f144 144
def Jx:=pf f145 145 [[3],[0,3,4],[0,3,4]]
def Jz:=pf f146 146 [[3],[0,3,4],[0,3,4]]
def KB:=pf f147 147 [[0,3],[0,3,9,10,11],[0,3,9,10,11],[6],[6,25,26,27],[6,25,26,27]] bs 1
def LG:=pf f148 148 [] bs 0 b4
def zi:=pf f149 149 [[5],[3,5,15,16,17],[3,5,15,16,17],[3,5,15,16,17],[3,5,6,7,15,16,17,23,24,25],[3,5,6,7,15,16,17,23,24,25],[]] bs 0 b4
def Df:=pf f150 150 [] bs 1 b4
def Uz:=pf f151 151 [] b4
def L3:=pf f152 152 [[]]
def Dg:=pf f153 153 [[0],[0,1,5],[0,1,5],[],[0,5],[0,1,5,6,7],[0,1,5,6,7],[]] b4
def L4:=pf f154 154
def zg:=pf f155 155 [[0,2,3],[0,2,3],[0,2,3],[2,3],[0,2,3,4],[0,2,3,4],[2,5],[5],[2,7],[2,5,7,42],[2,5,7,42]]
def JZ:=pf f156 156
def Uc:=pf f157 157
def J0:=pf f158 158 [[0,1,0,2]]
def JA:=pf f159 159 [[]] bs 0 b4
def Fy:=pf f160 160 [] bs 0 b4
def JI:=pf f161 161 [[5],[3,4,5,6,7],[3,4,5,6,7],[]] bs 0 b4
def JK:=pf f162 162
def LZ:=pf f163 163
def Ko:=pf f168 168
def Kp:=pf f169 169
def C':=pf f170 170
def Kq:=pf f171 171 [[],[2,14,15,16],[2,14,15,16]]
def Kr:=pf f172 172 [[],[1,3,4,29,30,31],[1,3,4,29,30,31],[]]
def Ks:=pf f173 173
def Kt:=pf f174 174
def Ku:=pf f175 175
def Ui:=pf f176 176
def Kv:=pf f177 177
def Kw:=pf f178 178
def Kx:=pf f179 179
def Ky:=pf f180 180
end
noncomputable section
def Kz:=pf f181 181 [[3]]
def KA:=pf f182 182 [[],[0,1,7,8],[0,1,7,8]]
def J1:=pf f185 185 [[],[0,1,7,8],[0,1,7,8]] b4
def J2:=pf f186 186 [] b4
def J3:=pf f187 187
def C6:=pf f188 188
def Lh:=pf f189 189 [[],[0,1,2,6],[0,1,2,6],[0,1,2,6],[0,1,2,6,7],[],[0,1,2,6,7],[]] b4
def Um:=pf f199 199
def KE:=pf f200 200 [[2,3],[],[]]
def L7:=pf f201 201 [[0,1],[0,1,5],[0,1,5],[],[]]
def L8:=pf f202 202
def LK:=pf f203 203
def FE:=pf f204 204 [[],[0,2,0,4,0,8],[11],[5,11,12,13],[5,11,12,13],[]] bs 0 b4
def zh:=pf f205 205 [[0,3,0,5,3,5,4,5,0,8,4,8,5,8]] bs 0 b4
def KF:=pf f206 206
def C7:=pf f207 207 [[0,3],[0,3],[0,3],[3],[3,4,5],[3,4,5]] bs 0 b4
def Ud:=pf f208 208
def J5:=pf f209 209 [[2,4,7],[2,4,5,6,7,8],[2,4,5,6,7,8],[],[],[4,7],[2,4,7,11],[2,4,7,11],[]]
def J6:=pf f210 210 [] bs 0 b4
def J7:=pf f211 211 [] bs 0 b4
def KX:=pf f212 212 [] bs 1
def LY:=pf f213 213 [[],[0,1,2,14,15,16],[0,1,2,14,15,16],[0,1,2,14,15,16],[0,1,2,4,14,15,16,40,41],[0,1,2,4,14,15,16,40,41],[0,1,2,4,14,15,16,40,41],[0,1,2,4,14,15,16,40,41,52,53,54],[0,1,2,4,14,15,16,40,41,52,53,54]] b4
def L0:=pf f214 214 [] bs 0 b4
def L5:=pf f215 215 [[4,8]] bs 2
def L6:=pf f216 216
def Ug:=pf f217 217 [[],[0,1,2,3,4,10,11],[0,1,2,3,4,10,11],[]] b4
def Kh:=pf f218 218 [[3],[3,6,7,8],[3,6,7,8]]
def Kk:=pf f219 219 [[0,1],[0,1,9,10,11],[0,1,9,10,11]]
def Kl:=pf f220 220
def C8:=pf f221 221 [] bs 0 b4
def J8:=pf f222 222 [] bs 0 b4
def J9:=pf f223 223 [[1,3,2,3,1,4,2,4,3,4,2,5],[2,4,6],[2,4,5,6,14],[2,4,5,6,14],[],[],[],[4,6],[2,4,6,78],[2,4,6,78],[]]
def J':=pf f224 224 [[0,3],[0,3,9,10,11],[0,3,9,10,11],[6],[6,25,26,27],[6,25,26,27]] bs 1 b4
def Uj:=pf f225 225 [[4,8],[0,1,4,6,7,8,9],[0,1,4,6,7,8,9],[0,1,4,6,7,8,9,10],[0,1,4,6,7,8,9,10,11],[0,1,4,6,7,8,9,10,11],[],[]] bs 0 b4
def FC:=pf f226 226 [[1,2,2,4,1,5,1,7,2,7,4,7,5,7],[4,6],[1,2,4,6,7],[1,2,4,6,7],[1,2,4,6,7,8],[1,2,4,6,7,8,9],[1,2,4,6,7,8,9]] bs 0 b4
def KD:=pf f227 227 [[9],[0,1,2,3,9,10],[0,1,2,3,9,10],[0,1,2,3,9,10,11]] bs 0 b4
def FD:=pf f228 228 [] bs 0 b4
def Da:=pf f230 230 [[],[0,1,7,8],[0,1,7,8]]
def KM:=pf f231 231
def KN:=pf f232 232
def KP:=pf f233 233 [[]]
def Un:=pf f234 234
def KQ:=pf f235 235
def KR:=pf f236 236 [[5],[1,5,8,9,10],[1,5,8,9,10]]
def Uo:=pf f237 237
def Up:=pf f238 238
def KT:=pf f239 239 [[],[0,1,7,8],[0,1,7,8]]
def KU:=pf f240 240
def KV:=pf f241 241 [[],[0,1,7,8],[0,1,7,8]]
def KW:=pf f242 242 [[],[0,1,7,8],[0,1,7,8]]
def KL:=pf f251 251
def KZ:=pf f252 252 [[7],[1,2,3,7,8],[1,2,3,7,8]]
def L9:=pf f253 253
def FF:=pf f254 254 [[1,3,0,6,1,6,3,6],[1,4,2,4,0,5,1,5,2,5,0,6,1,6,2,6,4,6,5,6,4,7,5,7],[8,11],[4,8,11,12,13,14],[4,8,11,12,13,14],[4,8,11,13,14,15],[4,8,11,12,13,14,15,16],[4,8,11,12,13,14,15,16],[9999,11]] bs 0 b4
def K1:=pf f255 255 [[3,5,6],[0,3,5,6,7],[0,3,5,6,7],[],[]] bs 0 b4
def Ka:=pf f256 256 [[2,3],[0,2,3,4],[0,2,3,4],[0,2,3,4],[0,2,3,4,5],[0,2,3,4,5],[],[2,3],[2,3,6],[2,3,6],[]]
def Uf:=pf f257 257
def Kb:=pf f258 258 [[]]
def FA:=pf f259 259 [[4,14],[4,5,14,87,88,89],[4,5,14,87,88,89],[4,5,17,87,88,89],[4,5,16,17,18,87,88,89,94,95,96],[4,5,16,17,18,87,88,89,94,95,96],[4,5,16,17,18,87,88,89,94,95,96],[4,5,16,17,18,87,88,89,94,95,96,107,108,109],[4,5,16,17,18,87,88,89,94,95,96,107,108,109],[],[4,129,130,131],[4,129,130,131]] b4
def sT:=pf f260 260 [[]] b4
def Ue:=pf f261 261 [] b4
def wL:=pf f262 262 [[]]
def C9:=pf f263 263 [[0],[0,1,5],[0,1,5],[],[0,5],[0,1,5,6,7],[0,1,5,6,7],[]] b4
def Kc:=pf f264 264
def Km:=pf f265 265 [] bs 1
def Ul:=pf f266 266 [[],[0,1,2,3,8],[0,1,2,3,8],[0,1,2,3,8],[0,1,2,3,8,9],[],[0,1,2,3,8,9],[]] b4
end
noncomputable section
def Kd:=pf f274 274 [[],[0,1,2,4],[0,1,2,4],[]] b4
def Ke:=pf f275 275 [[2,3],[0,2,3,10],[0,2,3,10],[],[2,3],[2,3,5],[2,3,5],[],[]]
def Kf:=pf f276 276
def Kg:=pf f277 277 [] bs 1 b4
def KY:=pf f278 278
def Ut:=pf f279 279
def Ld:=pf f280 280 [[],[0,1,7,8],[0,1,7,8]]
def Uu:=pf f281 281 [[],[1,2,10],[1,2,10]]
def Le:=pf f283 283 [[0],[0,1,5],[0,1,5],[0,1,5,6],[0,1,5,6,7],[0,1,5,6,7],[]] b4
def Lf:=pf f284 284 [[4],[],[]] bs 0 b4
def Lg:=pf f285 285
def KH:=pf f286 286 [[]] bs 0 b4
def KJ:=pf f287 287 [[]]
def Uk:=pf f288 288 [[],[0,1,2,3,4,10,11],[0,1,2,3,4,10,11],[]] b4
def Ki:=pf f292 292
def Kj:=pf f293 293
def Lo:=pf f294 294
def Lp:=pf f295 295
def Lq:=pf f296 296 [] bs 0 b4
def Lr:=pf f297 297 [[7],[4,7,8,9],[4,7,8,9],[]] bs 0 b4
def Ls:=pf f298 298 [[],[]] bs 0 b4
def Lt:=pf f299 299 [[6,17,8,17]] bs 0 b4
def K3:=pf f300 300 [] bs 0 b4
def K4:=pf f301 301 [[7],[3,7,19,20,21],[3,7,19,20,21]] bs 0 b4
def K5:=pf f302 302 [[]] bs 0 b4
def K6:=pf f303 303 [] bs 0 b4
def K7:=pf f304 304 [] bs 0 b4
def FG:=pf f305 305 [[]] bs 0 b4
def K8:=pf f306 306 [[6,17,8,17]] bs 0 b4
def K9:=pf f307 307 [] bs 0 b4
def La:=pf f308 308 [[]] bs 0 b4
def Lb:=pf f309 309 [[]] bs 0 b4
def Uq:=pf f310 310
def Ur:=pf f311 311
def Us:=pf f312 312 [[],[0,1,2,3,8],[0,1,2,3,8],[0,1,2,3,8],[0,1,2,3,8,9],[],[0,1,2,3,8,9],[]] b4
def Lv:=pf f321 321 [[9],[1,2,3,4,9,10],[1,2,3,4,9,10]] bs 0 b4
def Li:=pf f322 322
def Lj:=pf f323 323 [] bs 0 b4
def Lk:=pf f324 324 [[9],[7,9]] bs 0 b4
def Ll:=pf f325 325
def Uv:=pf f326 326
def Uw:=pf f327 327
def Lu:=pf f331 331 [] bs 0 b4
def Db:=pf f332 332
def Ux:=pf f333 333
def Lw:=pf f335 335 [[],[0,1,2,3,6],[0,1,2,3,6]] b4
def Dc:=pf f336 336 [[],[0,1,7,8],[0,1,7,8]]
def Uy:=pf f337 337
def Ly:=pf f364 364 [[]]
def Lz:=pf f365 365 [[7],[2,7,15,16,17],[2,7,15,16,17]] bs 0 b4
def LC:=pf f366 366 [[]]
def LD:=pf f367 367 [[5,7],[5,7,14,15,16],[5,7,14,15,16]]
def UE:=pr f19 0 [] [[]]
def Dj:=pr f20 0 [] [[9999],[0,5]]
def UD:=pr f54 0 [] [[],[],[3,11],[3,10,11,46,47,48],[3,10,11,46,47,48],[],[3,75],[3,75],[]]
def qy:=pr f94 0 [] [[]]
def Dk:=pr f155 0 [] [[]]
def UC:=pr f229 0 [] [[]]
def wQ:=pr f324 0 [] [[]]
end
end Go.Proofs.YtmehofoficaelaaGreatDoor
namespace Go.Proofs.YtmehofoficaelaaGreatDoor
open Go Go.AL
noncomputable def fns:List (Option jq):=[bb,bb,bb,bb,bb,bb,bb,bb,aE T6,aE Ju,bb,bb,bb,aE J4,bb,bb,bb,bb,aE Jw,bb,aE CZ,bb,bb,bb,aE T7,aE FB,aE Jy,bb,aE Fx,aE y8,aE wG,bb,aE y9,aE za,bb,aE T8,bb,aE wH,bb,aE FL,aE Ln,aE zb,aE LF,bb,aE JB,bb,bb,bb,aE wI,aE zc,aE FJ,aE FK,bb,bb,bb,bb,aE AW,bb,aE LL,bb,aE JD,bb,bb,aE sR,aE JE,aE JF,aE T9,aE KG,bb,bb,aE Ua,aE FM,aE FN,aE wJ,aE C0,aE C1,bb,bb,bb,aE C2,bb,aE wK,aE JR,aE LR,aE LU,aE FP,aE Lx,aE JH,aE zd,aE LN,bb,aE C3,aE ze,aE Jv,aE FH,aE De,aE JJ,aE zf,aE FO,aE LO,aE LP,aE LQ,bb,bb,bb,bb,bb,bb,aE Ma,aE Mb,aE Mc,aE Md,aE CY,aE Dd,bb,bb,aE JM,aE JN,aE JO,aE JQ,aE JS,aE uB,aE JT,aE JU,aE JV,aE K2,aE Uh,bb,aE FQ,aE LV,aE LW,aE LX,aE JW,bb,bb,aE C4,aE JC,aE LI,aE JL,aE JG,aE Fz,aE C5,aE JX,aE Ub,aE JY,aE Jx,aE Jz,aE KB,aE LG,aE zi,aE Df,aE Uz,aE L3,aE Dg,aE L4,aE zg,aE JZ,aE Uc,aE J0,aE JA,aE Fy,aE JI,aE JK,aE LZ,bb,bb,bb,bb,aE Ko,aE Kp,aE C',aE Kq,aE Kr,aE Ks,aE Kt,aE Ku,aE Ui,aE Kv,aE Kw,aE Kx,aE Ky,aE Kz,aE KA,bb,bb,aE J1,aE J2,aE J3,aE C6,aE Lh,bb,bb,bb,bb,bb,bb,bb,bb,bb,aE Um,aE KE,aE L7,aE L8,aE LK,aE FE,aE zh,aE KF,aE C7,aE Ud,aE J5,aE J6,aE J7,aE KX,aE LY,aE L0,aE L5,aE L6,aE Ug,aE Kh,aE Kk,aE Kl,aE C8,aE J8,aE J9,aE J',aE Uj,aE FC,aE KD,aE FD,bb,aE Da,aE KM,aE KN,aE KP,aE Un,aE KQ,aE KR,aE Uo,aE Up,aE KT,aE KU,aE KV,aE KW,bb,bb,bb,bb,bb,bb,bb,bb,aE KL,aE KZ,aE L9,aE FF,aE K1,aE Ka,aE Uf,aE Kb,aE FA,aE sT,aE Ue,aE wL,aE C9,aE Kc,aE Km,aE Ul,bb,bb,bb,bb,bb,bb,bb,aE Kd,aE Ke,aE Kf,aE Kg,aE KY,aE Ut,aE Ld,aE Uu,bb,aE Le,aE Lf,aE Lg,aE KH,aE KJ,aE Uk,bb,bb,bb,aE Ki,aE Kj,aE Lo,aE Lp,aE Lq,aE Lr,aE Ls,aE Lt,aE K3,aE K4,aE K5,aE K6,aE K7,aE FG,aE K8,aE K9,aE La,aE Lb,aE Uq,aE Ur,aE Us,bb,bb,bb,bb,bb,bb,bb,bb,aE Lv,aE Li,aE Lj,aE Lk,aE Ll,aE Uv,aE Uw,bb,bb,bb,aE Lu,aE Db,aE Ux,bb,aE Lw,aE Dc,aE Uy,bb,bb,bb,bb,bb,bb,bb,bb,bb,bb,bb,bb,bb,bb,bb,bb,bb,bb,bb,bb,bb,bb,bb,bb,bb,bb,aE Ly,aE Lz,aE LC,aE LD,bb,bb,bb,bb,bb,bb,bb,bb,bb]
noncomputable def rounds:List (Nat×qJ):=[(1216,UE),(1280,Dj),(3456,UD),(6016,qy),(9920,Dk),(14656,UC),(20736,wQ)]
noncomputable def T:iF:={ fn:=nth fns,round:=assoc rounds,sort:=λf=>if f=151 then aE 5 else if f=261 then aE 6 else bb,tm:=λf=>Nat.beq f 67,s6:=λf=>Nat.beq f 66 }
def gl(P:Program):GT:={ g:=QF,rt:=AN P,nw:=λf=>elem f W1 }

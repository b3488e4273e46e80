/- Part 8 of DisputeTruth. -/
import Derived.Test.YtmehofoficaelaaGreatDoorProg
import Derived.Test.YtmehofoficaelaaGreatDoorV07
set_option linter.all false
namespace Go.Proofs.YtmehofoficaelaaGreatDoor
open Go Go.AL Tryz
noncomputable def tl:Array (Unit->Array (Unit->TypeInfo)):=#[λ_=>#[λ_=>t0,λ_=>t1,λ_=>t2,λ_=>t3,λ_=>t4,λ_=>t5,λ_=>t6,λ_=>t7,λ_=>t8,λ_=>t9,λ_=>t10,λ_=>t11,λ_=>t12,λ_=>t13,λ_=>t14,λ_=>t15,λ_=>t16,λ_=>t17,λ_=>t18,λ_=>t19],
 λ_=>#[λ_=>t20,λ_=>t21,λ_=>t22,λ_=>t23,λ_=>t24,λ_=>t25,λ_=>t26,λ_=>t27,λ_=>t28,λ_=>t29,λ_=>t30,λ_=>t31,λ_=>t32,λ_=>t33,λ_=>t34,λ_=>t35,λ_=>t36,λ_=>t37,λ_=>t38,λ_=>t39],
 λ_=>#[λ_=>t40,λ_=>t41,λ_=>t42,λ_=>t43,λ_=>t44,λ_=>t45,λ_=>t46,λ_=>t47,λ_=>t48,λ_=>t49,λ_=>t50,λ_=>t51,λ_=>t52,λ_=>t53,λ_=>t54,λ_=>t55,λ_=>t56,λ_=>t57,λ_=>t58,λ_=>t59],
 λ_=>#[λ_=>t60,λ_=>t61,λ_=>t62,λ_=>t63,λ_=>t64,λ_=>t65,λ_=>t66,λ_=>t67,λ_=>t68,λ_=>t69,λ_=>t70,λ_=>t71,λ_=>t72,λ_=>t73,λ_=>t74,λ_=>t75,λ_=>t76,λ_=>t77,λ_=>t78,λ_=>t79],
 λ_=>#[λ_=>t80,λ_=>t81,λ_=>t82,λ_=>t83,λ_=>t84,λ_=>t85,λ_=>t86,λ_=>t87,λ_=>t88,λ_=>t89,λ_=>t90,λ_=>t91,λ_=>t92,λ_=>t93,λ_=>t94,λ_=>t95,λ_=>t96,λ_=>t97,λ_=>t98,λ_=>t99],
 λ_=>#[λ_=>t100,λ_=>t101,λ_=>t102,λ_=>t103,λ_=>t104,λ_=>t105,λ_=>t106,λ_=>t107,λ_=>t108,λ_=>t109,λ_=>t110,λ_=>t111,λ_=>t112,λ_=>t113,λ_=>t114,λ_=>t115,λ_=>t116,λ_=>t117,λ_=>t118,λ_=>t119],
 λ_=>#[λ_=>t120,λ_=>t121,λ_=>t122,λ_=>t123,λ_=>t124,λ_=>t125,λ_=>t126,λ_=>t127,λ_=>t128,λ_=>t129,λ_=>t130,λ_=>t131,λ_=>t132,λ_=>t133,λ_=>t134,λ_=>t135,λ_=>t136,λ_=>t137,λ_=>t138,λ_=>t139],
 λ_=>#[λ_=>t140,λ_=>t141,λ_=>t142,λ_=>t143,λ_=>t144,λ_=>t145,λ_=>t146,λ_=>t147,λ_=>t148,λ_=>t149,λ_=>t150,λ_=>t151,λ_=>t152,λ_=>t153,λ_=>t154,λ_=>t155,λ_=>t156,λ_=>t157,λ_=>t158,λ_=>t159],
 λ_=>#[λ_=>t160,λ_=>t161,λ_=>t162,λ_=>t163,λ_=>t164,λ_=>t165,λ_=>t166,λ_=>t167,λ_=>t168,λ_=>t169,λ_=>t170,λ_=>t171,λ_=>t172,λ_=>t173,λ_=>t174,λ_=>t175,λ_=>t176,λ_=>t177,λ_=>t178,λ_=>t179],
 λ_=>#[λ_=>t180,λ_=>t181,λ_=>t182,λ_=>t183,λ_=>t184,λ_=>t185,λ_=>t186,λ_=>t187,λ_=>t188,λ_=>t189,λ_=>t190,λ_=>t191,λ_=>t192,λ_=>t193,λ_=>t194,λ_=>t195,λ_=>t196,λ_=>t197,λ_=>t198,λ_=>t199],
 λ_=>#[λ_=>t200,λ_=>t201,λ_=>t202,λ_=>t203,λ_=>t204,λ_=>t205,λ_=>t206,λ_=>t207,λ_=>t208,λ_=>t209,λ_=>t210,λ_=>t211,λ_=>t212,λ_=>t213,λ_=>t214,λ_=>t215,λ_=>t216,λ_=>t217,λ_=>t218,λ_=>t219],
 λ_=>#[λ_=>t220,λ_=>t221,λ_=>t222,λ_=>t223,λ_=>t224,λ_=>t225,λ_=>t226,λ_=>t227,λ_=>t228,λ_=>t229,λ_=>t230,λ_=>t231,λ_=>t232,λ_=>t233,λ_=>t234,λ_=>t235,λ_=>t236,λ_=>t237,λ_=>t238,λ_=>t239],
 λ_=>#[λ_=>t240,λ_=>t241,λ_=>t242,λ_=>t243,λ_=>t244,λ_=>t245,λ_=>t246,λ_=>t247,λ_=>t248,λ_=>t249,λ_=>t250,λ_=>t251,λ_=>t252,λ_=>t253,λ_=>t254,λ_=>t255,λ_=>t256,λ_=>t257,λ_=>t258,λ_=>t259],
 λ_=>#[λ_=>t260,λ_=>t261,λ_=>t262,λ_=>t263,λ_=>t264,λ_=>t265,λ_=>t266,λ_=>t267,λ_=>t268,λ_=>t269,λ_=>t270,λ_=>t271,λ_=>t272,λ_=>t273,λ_=>t274,λ_=>t275,λ_=>t276,λ_=>t277,λ_=>t278,λ_=>t279],
 λ_=>#[λ_=>t280,λ_=>t281,λ_=>t282,λ_=>t283,λ_=>t284,λ_=>t285,λ_=>t286,λ_=>t287,λ_=>t288,λ_=>t289,λ_=>t290,λ_=>t291,λ_=>t292,λ_=>t293,λ_=>t294,λ_=>t295,λ_=>t296,λ_=>t297,λ_=>t298,λ_=>t299],
 λ_=>#[λ_=>t300,λ_=>t301,λ_=>t302,λ_=>t303,λ_=>t304,λ_=>t305,λ_=>t306,λ_=>t307,λ_=>t308,λ_=>t309,λ_=>t310,λ_=>t311,λ_=>t312,λ_=>t313,λ_=>t314,λ_=>t315,λ_=>t316,λ_=>t317,λ_=>t318,λ_=>t319],
 λ_=>#[λ_=>t320,λ_=>t321,λ_=>t322,λ_=>t323,λ_=>t324,λ_=>t325,λ_=>t326,λ_=>t327,λ_=>t328,λ_=>t329,λ_=>t330,λ_=>t331,λ_=>t332,λ_=>t333,λ_=>t334,λ_=>t335,λ_=>t336,λ_=>t337,λ_=>t338,λ_=>t339],
 λ_=>#[λ_=>t340,λ_=>t341,λ_=>t342,λ_=>t343,λ_=>t344,λ_=>t345,λ_=>t346,λ_=>t347,λ_=>t348,λ_=>t349,λ_=>t350,λ_=>t351,λ_=>t352,λ_=>t353,λ_=>t354,λ_=>t355,λ_=>t356,λ_=>t357,λ_=>t358,λ_=>t359],
 λ_=>#[λ_=>t360,λ_=>t361,λ_=>t362,λ_=>t363,λ_=>t364,λ_=>t365,λ_=>t366,λ_=>t367,λ_=>t368,λ_=>t369,λ_=>t370,λ_=>t371,λ_=>t372,λ_=>t373,λ_=>t374,λ_=>t375,λ_=>t376,λ_=>t377,λ_=>t378,λ_=>t379],
 λ_=>#[λ_=>t380,λ_=>t381,λ_=>t382,λ_=>t383,λ_=>t384,λ_=>t385,λ_=>t386,λ_=>t387,λ_=>t388,λ_=>t389,λ_=>t390,λ_=>t391,λ_=>t392,λ_=>t393,λ_=>t394,λ_=>t395,λ_=>t396,λ_=>t397,λ_=>t398,λ_=>t399],
 λ_=>#[λ_=>t400,λ_=>t401,λ_=>t402,λ_=>t403,λ_=>t404,λ_=>t405,λ_=>t406,λ_=>t407,λ_=>t408,λ_=>t409,λ_=>t410,λ_=>t411,λ_=>t412,λ_=>t413,λ_=>t414,λ_=>t415,λ_=>t416,λ_=>t417,λ_=>t418,λ_=>t419],
 λ_=>#[λ_=>t420,λ_=>t421,λ_=>t422,λ_=>t423,λ_=>t424,λ_=>t425,λ_=>t426,λ_=>t427,λ_=>t428,λ_=>t429,λ_=>t430,λ_=>t431,λ_=>t432,λ_=>t433,λ_=>t434,λ_=>t435,λ_=>t436,λ_=>t437,λ_=>t438,λ_=>t439],
 λ_=>#[λ_=>t440,λ_=>t441,λ_=>t442,λ_=>t443,λ_=>t444,λ_=>t445,λ_=>t446,λ_=>t447,λ_=>t448,λ_=>t449,λ_=>t450,λ_=>t451,λ_=>t452,λ_=>t453,λ_=>t454,λ_=>t455,λ_=>t456,λ_=>t457,λ_=>t458,λ_=>t459]]
noncomputable def qI(t:Nat):TypeInfo:=match tl[t / 20]? with
 | some f=>match (f ())[t % 20]? with
  | some f=>f ()
  | none=>t0
 | none=>t0
def P':Nat->Option (List D):=λg=>if g=0 then some [.val .nilFunc,.fn (.func 364) [] [],.fn (.func 366) [] [],.fn (.func 367) [] []]else if g=1 then some Dd else if g=2 then some Dp else none
def tc(g:Nat)(l:List D):List D:=if g<1000 then(P' g).getD []else if g<2000 then Zw (g-1000)++l else Zb (g-2000)++l
def WA:List Nat:=[30,33,95,150,184,205,224,265]
@[simp] theorem att:tc 0 [] = [.val .nilFunc,.fn (.func 364) [] [],.fn (.func 366) [] [],.fn (.func 367) [] []]:=rfl
@[simp] theorem atu:tc 1 []=Dd:=rfl
@[simp] theorem aty:tc 2 []=Dp:=rfl
@[simp] theorem atv(l:List D):tc 1008 l=Zw 8++l:=rfl
@[simp] theorem atz(l:List D):tc 2008 l=Zb 8++l:=rfl
@[simp] theorem atw(l:List D):tc 1032 l=Zw 32++l:=rfl
@[simp] theorem atA(l:List D):tc 2032 l=Zb 32++l:=rfl
@[simp] theorem atx(l:List D):tc 1064 l=Zw 64++l:=rfl
@[simp] theorem atB(l:List D):tc 2064 l=Zb 64++l:=rfl
noncomputable def qU(t:Nat):TypeDesc:=match (qI t).desc with
 | .named _ r=>(qI r).desc
 | d=>d
noncomputable def qS(t:Nat):Nat:=(qI t).size
noncomputable def qV(t:Nat):List D:=match (qI t).zero with
 | some z=>z.cells.toList.map s6
 | none=>[]
noncomputable def qW(Z:Nat->List D->List D)(t:Nat)(l:List D):List D:=match qU t with
 | .array n e=>if n % 8=0 then(match qU e with
  | .int .u32=>Z (1000+n) l
  | .int .u8=>Z (2000+n) l
  | _=>qV t++l)else qV t++l
 | _=>qV t++l
noncomputable def qY(Z:Nat->List D->List D)(t:Nat)(l:List D):List D:=match qU t with
 | .struct fs=>fs.toList.foldr (λf l=>qW Z f.type l) l
 | _=>qW Z t l
noncomputable def qZ(Z:Nat->List D->List D)(t:Nat):List D:=match qU t with
 | .struct fs=>fs.toList.foldr (λf l=>qY Z f.type l) []
 | _=>qW Z t []
noncomputable def qD(Z:Nat->List D->List D)(t:Nat):D:=match (qI t).zero with
 | some (.agg _)=>.agg (qZ Z t)
 | some v=>s6 v
 | none=>.any
noncomputable def qG(t:Nat):Bool:=match qU t with
 | .struct _=>true
 | .array _ _=>true
 | _=>false
noncomputable def qE(t:Nat):Nat:=match qU t with
 | .slice e=>e
 | .array _ e=>e
 | .map _ e=>e
 | _=>0
noncomputable def qX(Z:Nat->List D->List D):Operand->X
 | .tmp t=>.t t
 | .const (.agg cs)=>.c (.agg (cs.toList.map s6))
 | .const v=>.c (s6 v)
 | .global g=>.c (.gi (Z g []))
 | .func f=>.c (.fn (.func f) [] [])
noncomputable def SQ(Z:Nat->List D->List D)(l:Array Operand):List X:=l.toList.map (qX Z)
noncomputable def qL(t:Nat):mq:=match qU t with
 | .string=>.str
 | .bool=>.bool
 | _=>.int
noncomputable def qLs(t:Nat):List mq:=match qU t with
 | .struct fs=>fs.toList.map λf=>qL f.type
 | .array n e=>List.replicate n (qL e)
 | _=>[]
noncomputable def qI'(t:Nat):IntKind:=match qU t with
 | .int k=>k
 | _=>.i64
noncomputable def qK(t:Nat):KK:=match qU t with
 | .struct fs=>.ints (fs.toList.map λf=>qI' f.type)
 | .int k=>.int k
 | .string=>.str
 | _=>.bool
noncomputable def qM(t:Nat):KK:=match qU t with
 | .map k _=>qK k
 | _=>.bool
noncomputable def qF(t:Nat)(i:Nat):Nat×Nat:=match qU t with
 | .struct fs=>match fs[i]? with
  | some f=>(f.offset,f.type)
  | none=>(0,0)
 | _=>(0,0)
noncomputable def qQ(n:Bool)(op:BinOp)(t:Nat)(a b:X):iD:=match qU t with
 | .bool=>.eqS false [.bool] n a b
 | .int _=>.arith op a b
 | .string=>.arith op a b
 | .slice _=>.nilS n a
 | _=>.eqS true (qLs t) n a b
noncomputable def qC(Z:Nat->List D->List D)(c:Call)(a:List X):iD:=match c.callee with
 | .value (.func f)=>if elem f WA then .callN f a else .call f a
 | .value f=>.callv (qX Z f) a
 | .builtin b=>match c.argTypes.toList,a with
  | [t],[x]=>match b with
   | .len=>match qU t with
    | .string=>.len .string x
    | .map _ _=>.len .map x
    | _=>.len .slice x
   | .cap=>.capE x
   | _=>.clr (qS (qE t)) (qZ Z (qE t)) x
  | [t,u],[x,y]=>match b with
   | .append=>match qU u with
    | .int _=>.appZ (qE t) (qS (qE t)) (qI (qE t)).bytes (qZ Z (qE t)) x y
    | _=>.app (qE t) (qS (qE t)) (qI (qE t)).bytes x y
   | .copy=>.copy (qS (qE t)) x y
   | .max=>.minmax true a
   | _=>.minmax false a
  | _,_=>match b with
   | .max=>.minmax true a
   | _=>.minmax false a
 | _=>.mv (.c .any)
noncomputable def qH:Operand->Bool
 | .global g=>decide (2<g)
 | _=>false
noncomputable def qO(Z:Nat->List D->List D):Op->iD
 | .move x=>.mv (qX Z x)
 | .assign x=>.mv (qX Z x)
 | .pick c a b=>.pick (qX Z c) (qX Z a) (qX Z b)
 | .box e x=>.box e (qX Z x)
 | .alloc e=>.alloc e (qZ Z e)
 | .build t l=>match qU t with
  | .array _ e=>.build (qZ Z t) (l.toList.map λp=>(p.1*qS e,qS e,qX Z p.2))
  | _=>.build (qZ Z t) (l.toList.map λp=>((qF t p.1).1,qS (qF t p.1).2,qX Z p.2))
 | .buildSlice t n l=>.buildSl (qE t) (qS (qE t)) (qZ Z (qE t)) n (l.toList.map λp=>(p.1,qX Z p.2))
 | .load t a=>if qG t then .ldN (qS t) (qX Z a)else .ld1 (qX Z a)
 | .store t a v=>if qG t then .stN (qS t) (qX Z a) (qX Z v)else .st1 (qX Z a) (qX Z v)
 | .nilCheck x=>.nilck (qX Z x)
 | .binOp .eql t x y _=>qQ false .eql t (qX Z x) (qX Z y)
 | .binOp .neq t x y _=>qQ true .neq t (qX Z x) (qX Z y)
 | .binOp op _ x y _=>.arith op (qX Z x) (qX Z y)
 | .unOp op _ x=>.un op (qX Z x)
 | .convert _ d x=>match qU d with
  | .int k=>.conv k (qX Z x)
  | _=>.b2s (qX Z x)
 | .makeFunc f a c=>.mkfn f (SQ Z a) (SQ Z c)
 | .makeMap t _=>.mkmap (qM t)
 | .lookup t x i ok=>.lookup (qM t) (qD Z (qE t)) ok (qX Z x) (qX Z i)
 | .mapUpdate t m k v=>.mapUpd (qM t) (qX Z m) (qX Z k) (qX Z v)
 | .insert t m k v=>.mapUpd (qM t) (qX Z m) (qX Z k) (qX Z v)
 | .makeSlice t l c=>.mksl (qE t) (qS (qE t)) (qI (qE t)).bytes (qZ Z (qE t)) (qX Z l) (qX Z c)
 | .slice t x lo (some hi) (some mx)=>.slc3 (qS (qE t)) (qX Z x) (lo.map (qX Z)) (qX Z hi) (qX Z mx)
 | .slice t x lo hi _=>match qU t with
  | .string=>.slcS (qX Z x) (lo.map (qX Z)) (hi.map (qX Z))
  | .array n e=>.slcArr (qS e) n (qX Z x) (lo.map (qX Z)) (hi.map (qX Z))
  | _=>.slc (qS (qE t)) (qX Z x) (lo.map (qX Z)) (hi.map (qX Z))
 | .fieldAddr t x f=>.fieldA (qF t f).1 (qX Z x)
 | .field t x f=>.field (qF t f).1 (qS (qF t f).2) (qG (qF t f).2) (qX Z x)
 | .indexAddr t x i=>match qU t with
  | .array n e=>if qH x then .mv (.c .any)else .idxArr (qS e) n (qX Z x) (qX Z i)
  | _=>.idxA (qS (qE t)) (qX Z x) (qX Z i)
 | .index t x i=>match qU t with
  | .array n e=>.idx (qS e) n (qG e) (qX Z x) (qX Z i)
  | _=>.idxStr (qX Z x) (qX Z i)
 | .extract x i=>.ext (qX Z x) i
 | .call c=>qC Z c (SQ Z c.args)
 | .range t x=>match qU t with
  | .string=>.rangeS (qX Z x)
  | _=>.rangeM (qX Z x)
 | .next x s=>if s then .nextS (qX Z x)else .nextM (qX Z x)
 | .entry x=>.entry (qX Z x)
 | .mapEntry t m k=>.mapEnt (qM t) (qD Z (qE t)) (qX Z m) (qX Z k)
 | .entryStore _ m s x=>.entSt (qX Z m) (qX Z s) (qX Z x)
 | _=>.mv (.c .any)
noncomputable def qA(Z:Nat->List D->List D)(ops:Array Oper)(o:Oper):gR:=⟨o.dst,qO Z o.op,match o.guard with
 | some (j,w)=>some ((match ops[j]? with
  | some q=>q.dst.getD 0
  | none=>0),w)
 | none=>none⟩
noncomputable def qT(e:gR):Bool:=match e.op with
 | .mv (.c .any)=>true
 | _=>false
def qP:List Nat->List (Nat×Nat)
 | a::b::l=>(a,b)::qP l
 | _=>[]
noncomputable def qB(Z:Nat->List D->List D)(rf:Nat):List (List Nat)->Code->IR×List (List Nat)
 | hs,.skip=>(.skip,hs)
 | hs,.region _ ops d=>if (ops.toList.map (qA Z ops)).any qT then(.bad,hs)else match d with
  | false=>(.ops (ops.toList.map (qA Z ops)),hs)
  | true=>match hs with
   | (9999::n::l)::hs=>(.mF (qP l) ((ops.toList.map (qA Z ops)).take n) ((ops.toList.map (qA Z ops)).drop n),hs)
   | l::hs=>(.lU (qP l) (ops.toList.map (qA Z ops)),hs)
   | []=>(.bad,[])
 | hs,.seq a b=>match qB Z rf hs a with
  | (x,lM)=>match qB Z (rf+(nJ a).length) lM b with
   | (y,lN)=>(.seq x y,lN)
 | hs,.cond c a b=>match qB Z rf hs a with
  | (y,lM)=>match qB Z (rf+(nJ a).length) lM b with
   | (z,lN)=>(.cond (qX Z c) y z,lN)
 | l::hs,.block id a=>match qB Z rf hs a with
  | (x,lM)=>(.block id l x,lM)
 | l::hs,.loop a=>match qB Z rf hs a with
  | (x,lM)=>(.loop l x,lM)
 | l::hs,.rangeFunc g _ _ _=>(.nW rf l (qX Z g),hs)
 | hs,.exit id=>(.exit id,hs)
 | hs,.ret=>(.ret,hs)
 | hs,_=>(.bad,hs)
noncomputable def qR:ResultVar->uR
 | .tmp t=>.tmp t
 | .cell a t=>if qG t then .Pe (qS t) a else .s6 a
noncomputable def qN(Z:Nat->List D->List D)(f:Func)(n:Nat)(hs:List (List Nat))(full:Bool)(own:Nat)(fz:Bool):je:=
 .mk f.ntmps (qB Z (64*n) hs (Ft f)).1 (f.results.toList.map qR) full own fz
noncomputable def Z2(Z:Nat->List D->List D)(f:Func)(i:Nat)(d c:List (List Nat)):qb:=match (nJ (Ft f))[i]? with
 | some (ps,a,b)=>.mk ps.toList (qB Z 0 d a).1 (qB Z 0 c b).1
 | none=>.mk [] .bad .bad
@[reducible] noncomputable def pf(f:Func)(n:Nat)(hs:List (List Nat):=[])(full:Bool:=false)(own:Nat:=0)(fz:Bool:=false){x:(Nat->List D->List D)->je}(_:∀Z,qN Z f n hs full own fz=x Z:=by intro Z;conv=>lhs;cbv):je:=x tc
@[reducible] noncomputable def pr(f:Func)(i:Nat)(b a:List (List Nat)){x:(Nat->List D->List D)->qb}(_:∀Z,Z2 Z f i b a=x Z:=by intro Z;conv=>lhs;cbv):qb:=x tc
@[simp ↓] theorem awW{f:Func}{n:Nat}{hs:List (List Nat)}{full:Bool}{own:Nat}{fz:Bool}{x:(Nat->List D->List D)->je}(h:∀Z,qN Z f n hs full own fz=x Z):pf f n hs full own fz h=x tc:=rfl
@[simp ↓] theorem awZ{f:Func}{i:Nat}{b a:List (List Nat)}{x:(Nat->List D->List D)->qb}(h:∀Z,Z2 Z f i b a=x Z):pr f i b a h=x tc:=rfl
set_option maxRecDepth 100000
set_option maxHeartbeats 4000000
noncomputable section
def EL:=pf f6 6 [[]]
def TF:=pf f8 8 [[5,6,7,8,9,10,11],[5,6,7,8,9,10,11,12],[5,6,7,8,9,10,11,12],[1,14,3,14,6,14,8,14,10,14,13,14,1,15,3,15,6,15,8,15,10,15,13,15,14,15],[],[]]
def Js:=pf f13 13 [] false 0 true
def KB:=pf f17 17 [[],[0,1,5],[0,1,5],[]]
def IP:=pf f18 18 [[3],[0,3,4],[0,3,4]] false 0 true
def IS:=pf f20 20 [[9999,1,2,3,9,11,12],[9999,1,2,3,9,11,12,40,41],[9999,1,2,3,9,11,12,40,41],[9999,6,7,8],[9999,1,2,3,9,11,12],[9999,1,2,3,9,11,12],[9999,1,2,3,9,11,12],[11,12],[9999,1,2,3,9,11,12],[9999,1,2,3,9,11,12,76,77,78],[9999,1,2,3,9,11,12,76,77,78],[4,9],[],[9999,1,3,11,20],[9999,1,3,11,20,108,109,110],[9999,1,3,11,20,108,109,110],[9999,1,3,11,20,108,109,110],[9999,1,3,11,20,21,108,109,110,116],[9999,1,3,11,20,21,108,109,110,116],[],[]] false 0 true
def IT:=pf f21 21 [[],[0,1,5],[0,1,5],[0,1,5,6],[0,1,5,6,7],[0,1,5,6,7]]
def Co:=pf f22 22 [[],[1,2,5],[1,2,5],[]]
def TG:=pf f24 24 [[7,10,7,14,3,15,6,15,7,15],[0,6,6,8,7,8,8,14,0,16,3,16,5,16,6,16,7,16,8,16,11,16,13,16,14,16,15,16,0,17,3,17,5,17,6,17,7,17,8,17,11,17,13,17,14,17,15,17,16,17],[0,3,0,6,0,7,3,7,0,8,0,9,3,9,6,9,7,9,8,9,0,10,3,10,6,10,7,10,8,10,9,10],[9,13,19,24]]
def JT:=pf f25 25 [] false 0 true
def IU:=pf f26 26 [] false 1 true
def IV:=pf f27 27 [[5],[0,1,5,6],[0,1,5,6],[4,15,12,15]] false 0 true
def IW:=pf f28 28 [] false 0 true
def TH:=pf f29 29
def TI:=pf f30 30 [] false 0 true
def TJ:=pf f32 32
def Cp:=pf f33 33 [] false 0 true
def TK:=pf f35 35 [[0,1,5],[0,1,5,12,13],[0,1,5,12,13],[]]
def TL:=pf f37 37
def EZ:=pf f39 39 [[6],[1,2,6,7],[1,2,6,7],[],[],[1,2,6,7,9],[1,2,6,7,8,9,10],[1,2,6,7,8,9,10]] false 0 true
def KH:=pf f40 40 [[],[0,1,5],[0,1,5]]
def yD:=pf f41 41 [[2,3],[0,2,3,4],[0,2,3,4]]
def K1:=pf f42 42 [[],[2,3,8,30,31,32],[2,3,8,30,31,32],[]]
def IZ:=pf f44 44 [[10],[0,1,3,9,10,11],[0,1,3,9,10,11],[3,13,7,13,9,13,12,13]] false 1 true
def vW:=pf f48 48 [[]]
def yE:=pf f49 49 [[2,3],[2,3,6,7,8],[2,3,6,7,8]]
def EX:=pf f50 50 [[1,2,3,4,5],[1,2,3,4,5,6],[1,2,3,4,5,6],[],[6,7]] false 0 true
def EY:=pf f51 51 [[6,7],[2,3,6,7,8],[2,3,6,7,8],[2,3,6,7,9],[2,3,6,7,8,9,10],[2,3,6,7,8,9,10],[],[2,3,6,7,8],[2,3,6,7,8,9,11],[2,3,6,7,8,9,11]] false 0 true
def E0:=pf f56 56 [[1,2,7],[1,2,7,37,38,39],[1,2,7,37,38,39],[10],[2,7,10,52,53,54],[2,7,10,52,53,54],[2,7,10,52,53,54],[2,7,10,11,52,53,54,61,62,63],[2,7,10,11,52,53,54,61,62,63]] false 0 true
def K7:=pf f58 58
def I1:=pf f60 60
def EN:=pf f63 63 [] true 2
def I2:=pf f64 64 [[9999,0,2],[9999,0,2,27,28],[9999,0,2,27,28],[9999,0,2,7],[9999,0,2,7,44,45,46],[9999,0,2,7,44,45,46]] true 4
def I3:=pf f65 65 [] true 4
def TM:=pf f66 66 [[]] true 1
def J5:=pf f67 67 [] true
def Cq:=pf f68 68
def I4:=pf f69 69
def TN:=pf f70 70 [] false 0 true
def K2:=pf f71 71 [[1,7],[1,2,7,8],[1,2,7,8],[1,2,8,9],[1,2,7,8,9,10],[1,2,7,8,9,10],[11],[1,7,11,12],[1,7,11,12]] false 0 true
def K3:=pf f72 72 [[1,2,3,4,9],[1,2,3,4,9,10],[1,2,3,4,9,10],[9],[1,3,9,11,12,13],[1,3,9,11,12,13],[]] false 0 true
def vX:=pf f73 73 [[9,13]] false 1 true
def TO:=pf f74 74
def TP:=pf f75 75 [] false 0 true
def TQ:=pf f79 79 [[],[0,1,5],[0,1,5],[]]
def TR:=pf f81 81 [[],[2,3,14],[2,3,14,66,67,68],[2,3,14,66,67,68],[]]
def Jf:=pf f82 82
def Ld:=pf f83 83 [[],[0,3],[0,3],[]]
def Le:=pf f84 84 [[],[],[2,3,5],[2,3,5],[]]
def E4:=pf f85 85 [[2,3,5,6,7],[2,3,5,6,7,8],[2,3,5,6,7,8],[2,3,6,7],[2,3,5,6,7,9],[2,3,5,6,7,9]] false 0 true
def KV:=pf f86 86 [[],[0,3,5,6],[0,3,5,6],[]]
def I6:=pf f87 87 [] false 0 true
def yF:=pf f88 88 [[]]
def K8:=pf f89 89 [[1,4,5,6],[0,1,4,5,6,9,10,11],[0,1,4,5,6,9,10,11],[0,1,4,5,6,9,10,11],[4]]
def Cr:=pf f91 91 [[5],[0,5,6,7],[0,5,6,7]] false 0 true
end
noncomputable section
def yG:=pf f92 92 [[6,7],[2,3,4,6,7,8],[2,3,4,6,7,8]] false 0 true
def IN:=pf f93 93 [[3],[3,20,21,22],[3,20,21,22]]
def EW:=pf f94 94 [[2,3,7,8],[7,8],[]] false 0 true
def CF:=pf f95 95 [] false 0 true
def I8:=pf f96 96 [[3],[1,3,4],[1,3,4]] false 0 true
def yH:=pf f97 97 [[0,2],[]]
def E3:=pf f98 98 [[1,18,3,18,5,18,6,18,9,18,14,18],[1,2,3,4],[1,2,3,4,5],[1,2,3,4,5],[0,6,0,12,3,12,6,12],[1,2,3,4,5,6],[1,2,3,4,5,6,7],[1,2,3,4,5,6,7],[1,17],[2,3],[1,2,3,4,8],[1,2,3,4,8],[1,20,5,20,10,20,14,20],[]] false 0 true
def K9:=pf f99 99 [[7],[2,3,4,7,8],[2,3,4,7,8]] false 0 true
def La:=pf f100 100 [[3,5,3,8,3,12,2,16,3,16,5,16,8,16,12,16],[2,3,4,5],[2,3,4,5,6],[2,3,4,5,6],[],[],[4,5],[2,3,4,5,8],[2,3,4,5,8],[2,3,4,5,8],[2,3,4,5,8,9],[2,3,4,5,8,9],[]] false 0 true
def Lb:=pf f101 101 [[4],[3,4,5],[3,4,5],[]] false 0 true
def Lt:=pf f108 108
def Lu:=pf f109 109 [[]]
def Lv:=pf f110 110 [[1],[1,51,52,53],[1,51,52,53]]
def Lw:=pf f111 111
def IM:=pf f112 112 [[],[0,6,7],[0,6,7],[]]
def CE:=pf f113 113 [[],[2,3,9,10,11],[2,3,9,10,11],[]]
def Ja:=pf f116 116 [[9999,0,3],[9999,0,3,23,24],[9999,0,3,23,24],[9999,3],[9999,0,3,38,39,40],[9999,0,3,38,39,40],[],[9999,0,3,38,39,40],[9999,0,3,5,6,38,39,40,63,64,65],[9999,0,3,5,6,38,39,40,63,64,65],[]] true 4
def Jb:=pf f117 117 [] true
def Jc:=pf f118 118 [] true
def Je:=pf f119 119 [[9999,7],[9999,2,7,17],[9999,2,7,17]] true
def Jg:=pf f120 120
def tW:=pf f121 121
def Jh:=pf f122 122 [[9999,5],[9999,5,14],[9999,5,14]] true
def Ji:=pf f123 123 [[],[],[],[9999,2,3,5,8,9],[9999,2,3,5,8,9,53,54,55],[9999,2,3,5,8,9,53,54,55],[9999,2,3,5,8,9,53,54,55],[9999,2,3,5,8,9,10,11,53,54,55,71],[9999,2,3,5,8,9,10,11,53,54,55,71]] true
def Jj:=pf f124 124 [[9999],[9999,0,1,3],[9999,0,1,3]] true 4
def Kl:=pf f125 125 [[],[0,1,2,3,8,9],[0,1,2,3,8,9],[]] true
def TZ:=pf f126 126
def vY:=pf f127 127 [[]]
def E5:=pf f128 128 [[5],[1,2,5,6],[1,2,5,6],[0,6,4,6,5,6]] false 0 true
def Lf:=pf f129 129 [[1,2,6,7,8],[0,1,2,6,7,8,9],[0,1,2,6,7,8,9]]
def Lg:=pf f130 130 [[9],[1,2,3,4,9,10],[1,2,3,4,9,10],[1,2,3,4,9,10],[1,2,3,4,9,10,11],[1,2,3,4,9,10,11],[0,6,4,6,5,6],[1,2,3,4,9,10,11,12,13,14],[1,2,3,4,9,10,11,12,13,14,15],[1,2,3,4,9,10,11,12,13,14,15],[]] false 0 true
def Lh:=pf f131 131
def TS:=pf f132 132 [[],[0,1,5],[0,1,5],[]]
def Jk:=pf f135 135 [[0,2,3,4],[0,2,3,4,9,10,11],[0,2,3,4,9,10,11],[0,2,3,4,9,10,11],[2]]
def I0:=pf f136 136 [[],[2,3,5],[2,3,5],[]]
def K5:=pf f137 137 [[],[],[5,6],[5,6]]
def I':=pf f138 138 [[],[1,2,5],[1,2,5]]
def I5:=pf f139 139 [[5],[2,3,5,6],[2,3,5,6],[2,3,5,6],[2,3,5,6,7,8],[2,3,5,6,7,8]] false 0 true
def EO:=pf f140 140 [[5],[2,3,5,6],[2,3,5,6],[2,3,5,6],[2,3,5,6,7],[2,3,5,6,7],[]] false 0 true
def Cs:=pf f141 141 [[2,4],[2,3,4,5],[2,3,4,5],[],[2,6],[2,4,6,7],[2,4,6,7]]
def Jl:=pf f142 142
def TT:=pf f143 143 [[3],[0,3],[0,3]]
def Jm:=pf f144 144
def IQ:=pf f145 145 [[3],[0,3,4],[0,3,4]]
def IX:=pf f146 146 [[3],[0,3,4],[0,3,4]]
def J1:=pf f147 147 [[0,3],[0,3,9,10,11],[0,3,9,10,11],[6],[6,25,26,27],[6,25,26,27]] false 1
def K4:=pf f148 148 [] false 0 true
def yK:=pf f149 149 [[5],[3,5,15,16,17],[3,5,15,16,17],[3,5,15,16,17],[3,5,6,7,15,16,17,23,24,25],[3,5,6,7,15,16,17,23,24,25],[]] false 0 true
def CG:=pf f150 150 [] false 1 true
def Uj:=pf f151 151 [] true
def Ll:=pf f152 152 [[]]
def CH:=pf f153 153 [[0],[0,1,5],[0,1,5],[],[0,5],[0,1,5,6,7],[0,1,5,6,7],[]] true
def Ln:=pf f154 154
def yI:=pf f155 155 [[0,2,3],[0,2,3],[0,2,3],[2,3],[0,2,3,4],[0,2,3,4],[2,5],[5],[2,7],[2,5,7,42],[2,5,7,42]]
def Jn:=pf f156 156
def TU:=pf f157 157
def Jo:=pf f158 158 [[0,1,0,2]]
def IY:=pf f159 159 [[]] false 0 true
def EM:=pf f160 160 [] false 0 true
def I7:=pf f161 161 [[5],[3,4,5,6,7],[3,4,5,6,7],[]] false 0 true
def I9:=pf f162 162
def Lj:=pf f163 163
def JM:=pf f168 168
def JN:=pf f169 169
def Cy:=pf f170 170
def JO:=pf f171 171 [[],[2,14,15,16],[2,14,15,16]]
def JQ:=pf f172 172 [[],[1,3,4,29,30,31],[1,3,4,29,30,31],[]]
def JR:=pf f173 173
def JS:=pf f174 174
def JU:=pf f175 175
def T0:=pf f176 176
def JV:=pf f177 177
def JW:=pf f178 178
def JX:=pf f179 179
def JY:=pf f180 180
end
noncomputable section
def JZ:=pf f181 181 [[3]]
def J0:=pf f182 182 [[],[0,1,7,8],[0,1,7,8]]
def Jp:=pf f185 185 [[],[0,1,7,8],[0,1,7,8]] true
def Jq:=pf f186 186 [] true
def Jr:=pf f187 187
def Ct:=pf f188 188
def KA:=pf f189 189 [[],[0,1,2,6],[0,1,2,6],[0,1,2,6],[0,1,2,6,7],[],[0,1,2,6,7],[]] true
def T6:=pf f199 199
def J3:=pf f200 200 [[2,3],[],[]]
def Lq:=pf f201 201 [[0,1],[0,1,5],[0,1,5],[],[]]
def Lr:=pf f202 202
def K6:=pf f203 203
def ET:=pf f204 204 [[],[0,2,0,4,0,8],[11],[5,11,12,13],[5,11,12,13],[]] false 0 true
def yJ:=pf f205 205 [[0,3,0,5,3,5,4,5,0,8,4,8,5,8]] false 0 true
def J4:=pf f206 206
def Cu:=pf f207 207 [[0,3],[0,3],[0,3],[3],[3,4,5],[3,4,5]] false 0 true
def TV:=pf f208 208
def Jt:=pf f209 209 [[2,4,7],[2,4,5,6,7,8],[2,4,5,6,7,8],[],[],[4,7],[2,4,7,11],[2,4,7,11],[]]
def Ju:=pf f210 210 [] false 0 true
def Jv:=pf f211 211 [] false 0 true
def Kh:=pf f212 212 [] false 1
def Li:=pf f213 213 [[],[0,1,2,14,15,16],[0,1,2,14,15,16],[0,1,2,14,15,16],[0,1,2,4,14,15,16,40,41],[0,1,2,4,14,15,16,40,41],[0,1,2,4,14,15,16,40,41],[0,1,2,4,14,15,16,40,41,52,53,54],[0,1,2,4,14,15,16,40,41,52,53,54]] true
def Lk:=pf f214 214 [] false 0 true
def Lo:=pf f215 215 [[4,8]] false 2
def Lp:=pf f216 216
def TY:=pf f217 217 [[],[0,1,2,3,4,10,11],[0,1,2,3,4,10,11],[]] true
def JG:=pf f218 218 [[3],[3,6,7,8],[3,6,7,8]]
def JJ:=pf f219 219 [[0,1],[0,1,9,10,11],[0,1,9,10,11]]
def JK:=pf f220 220
def Cv:=pf f221 221 [] false 0 true
def Jw:=pf f222 222 [] false 0 true
def Jx:=pf f223 223 [[1,3,2,3,1,4,2,4,3,4,2,5],[2,4,6],[2,4,5,6,14],[2,4,5,6,14],[],[],[],[4,6],[2,4,6,78],[2,4,6,78],[]]
def Jy:=pf f224 224 [[0,3],[0,3,9,10,11],[0,3,9,10,11],[6],[6,25,26,27],[6,25,26,27]] false 1 true
def T1:=pf f225 225 [[4,8],[0,1,4,6,7,8,9],[0,1,4,6,7,8,9],[0,1,4,6,7,8,9,10],[0,1,4,6,7,8,9,10,11],[0,1,4,6,7,8,9,10,11],[],[]] false 0 true
def ER:=pf f226 226 [[1,2,2,4,1,5,1,7,2,7,4,7,5,7],[4,6],[1,2,4,6,7],[1,2,4,6,7],[1,2,4,6,7,8],[1,2,4,6,7,8,9],[1,2,4,6,7,8,9]] false 0 true
def J2:=pf f227 227 [[9],[0,1,2,3,9,10],[0,1,2,3,9,10],[0,1,2,3,9,10,11]] false 0 true
def ES:=pf f228 228 [] false 0 true
def Cz:=pf f230 230 [[],[0,1,7,8],[0,1,7,8]]
def J9:=pf f231 231
def J':=pf f232 232
def Ka:=pf f233 233 [[]]
def T7:=pf f234 234
def Kb:=pf f235 235
def Kc:=pf f236 236 [[5],[1,5,8,9,10],[1,5,8,9,10]]
def T8:=pf f237 237
def T9:=pf f238 238
def Kd:=pf f239 239 [[],[0,1,7,8],[0,1,7,8]]
def Ke:=pf f240 240
def Kf:=pf f241 241 [[],[0,1,7,8],[0,1,7,8]]
def Kg:=pf f242 242 [[],[0,1,7,8],[0,1,7,8]]
def J8:=pf f251 251
def Kj:=pf f252 252 [[7],[1,2,3,7,8],[1,2,3,7,8]]
def Ls:=pf f253 253
def EU:=pf f254 254 [[1,3,0,6,1,6,3,6],[1,4,2,4,0,5,1,5,2,5,0,6,1,6,2,6,4,6,5,6,4,7,5,7],[8,11],[4,8,11,12,13,14],[4,8,11,12,13,14],[4,8,11,13,14,15],[4,8,11,12,13,14,15,16],[4,8,11,12,13,14,15,16],[9999,11]] false 0 true
def Kk:=pf f255 255 [[3,5,6],[0,3,5,6,7],[0,3,5,6,7],[],[]] false 0 true
def Jz:=pf f256 256 [[2,3],[0,2,3,4],[0,2,3,4],[0,2,3,4],[0,2,3,4,5],[0,2,3,4,5],[],[2,3],[2,3,6],[2,3,6],[]]
def TX:=pf f257 257
def JA:=pf f258 258 [[]]
def EP:=pf f259 259 [[4,14],[4,5,14,87,88,89],[4,5,14,87,88,89],[4,5,17,87,88,89],[4,5,16,17,18,87,88,89,94,95,96],[4,5,16,17,18,87,88,89,94,95,96],[4,5,16,17,18,87,88,89,94,95,96],[4,5,16,17,18,87,88,89,94,95,96,107,108,109],[4,5,16,17,18,87,88,89,94,95,96,107,108,109],[],[4,129,130,131],[4,129,130,131]] true
def su:=pf f260 260 [[]] true
def TW:=pf f261 261 [] true
def vZ:=pf f262 262 [[]]
def Cx:=pf f263 263 [[0],[0,1,5],[0,1,5],[],[0,5],[0,1,5,6,7],[0,1,5,6,7],[]] true
def JB:=pf f264 264
def JL:=pf f265 265 [] false 1
def T5:=pf f266 266 [[],[0,1,2,3,8],[0,1,2,3,8],[0,1,2,3,8],[0,1,2,3,8,9],[],[0,1,2,3,8,9],[]] true
end
noncomputable section
def JC:=pf f274 274 [[],[0,1,2,4],[0,1,2,4],[]] true
def JD:=pf f275 275 [[2,3],[0,2,3,10],[0,2,3,10],[],[2,3],[2,3,5],[2,3,5],[],[]]
def JE:=pf f276 276
def JF:=pf f277 277 [] false 1 true
def Ki:=pf f278 278
def Ud:=pf f279 279
def Kw:=pf f280 280 [[],[0,1,7,8],[0,1,7,8]]
def Ue:=pf f281 281 [[],[1,2,10],[1,2,10]]
def Kx:=pf f283 283 [[0],[0,1,5],[0,1,5],[0,1,5,6],[0,1,5,6,7],[0,1,5,6,7],[]] true
def Ky:=pf f284 284 [[4],[],[]] false 0 true
def Kz:=pf f285 285
def J6:=pf f286 286 [[]] false 0 true
def J7:=pf f287 287 [[]]
def T2:=pf f288 288 [[],[0,1,2,3,4,10,11],[0,1,2,3,4,10,11],[]] true
def JH:=pf f292 292
def JI:=pf f293 293
def KJ:=pf f294 294
def KL:=pf f295 295
def KM:=pf f296 296 [] false 0 true
def KN:=pf f297 297 [[7],[4,7,8,9],[4,7,8,9],[]] false 0 true
def KP:=pf f298 298 [[],[]] false 0 true
def KQ:=pf f299 299 [[6,17,8,17]] false 0 true
def Km:=pf f300 300 [] false 0 true
def Ko:=pf f301 301 [[7],[3,7,19,20,21],[3,7,19,20,21]] false 0 true
def Kp:=pf f302 302 [[]] false 0 true
def Kq:=pf f303 303 [] false 0 true
def Kr:=pf f304 304 [] false 0 true
def EV:=pf f305 305 [[]] false 0 true
def Ks:=pf f306 306 [[6,17,8,17]] false 0 true
def Kt:=pf f307 307 [] false 0 true
def Ku:=pf f308 308 [[]] false 0 true
def Kv:=pf f309 309 [[]] false 0 true
def Ua:=pf f310 310
def Ub:=pf f311 311
def Uc:=pf f312 312 [[],[0,1,2,3,8],[0,1,2,3,8],[0,1,2,3,8],[0,1,2,3,8,9],[],[0,1,2,3,8,9],[]] true
def KT:=pf f321 321 [[9],[1,2,3,4,9,10],[1,2,3,4,9,10]] false 0 true
def KD:=pf f322 322
def KE:=pf f323 323 [] false 0 true
def KF:=pf f324 324 [[9],[7,9]] false 0 true
def KG:=pf f325 325
def Uf:=pf f326 326
def Ug:=pf f327 327
def KR:=pf f331 331 [] false 0 true
def CA:=pf f332 332
def Uh:=pf f333 333
def KU:=pf f335 335 [[],[0,1,2,3,6],[0,1,2,3,6]] true
def CD:=pf f336 336 [[],[0,1,7,8],[0,1,7,8]]
def Ui:=pf f337 337
def KW:=pf f364 364 [[]]
def KX:=pf f365 365 [[7],[2,7,15,16,17],[2,7,15,16,17]] false 0 true
def KY:=pf f366 366 [[]]
def KZ:=pf f367 367 [[5,7],[5,7,14,15,16],[5,7,14,15,16]]
def Uo:=pr f19 0 [] [[]]
def CL:=pr f20 0 [] [[9999],[0,5]]
def Un:=pr f54 0 [] [[],[],[3,11],[3,10,11,46,47,48],[3,10,11,46,47,48],[],[3,75],[3,75],[]]
def p8:=pr f94 0 [] [[]]
def CM:=pr f155 0 [] [[]]
def Um:=pr f229 0 [] [[]]
def wh:=pr f324 0 [] [[]]
end
end Go.Proofs.YtmehofoficaelaaGreatDoor
namespace Go.Proofs.YtmehofoficaelaaGreatDoor
open Go Go.AL
noncomputable def fns:List (Option je):=[none,none,none,none,none,none,some EL,none,some TF,none,none,none,none,some Js,none,none,none,some KB,some IP,none,some IS,some IT,some Co,none,some TG,some JT,some IU,some IV,some IW,some TH,some TI,none,some TJ,some Cp,none,some TK,none,some TL,none,some EZ,some KH,some yD,some K1,none,some IZ,none,none,none,some vW,some yE,some EX,some EY,none,none,none,none,some E0,none,some K7,none,some I1,none,none,some EN,some I2,some I3,some TM,some J5,some Cq,some I4,some TN,some K2,some K3,some vX,some TO,some TP,none,none,none,some TQ,none,some TR,some Jf,some Ld,some Le,some E4,some KV,some I6,some yF,some K8,none,some Cr,some yG,some IN,some EW,some CF,some I8,some yH,some E3,some K9,some La,some Lb,none,none,none,none,none,none,some Lt,some Lu,some Lv,some Lw,some IM,some CE,none,none,some Ja,some Jb,some Jc,some Je,some Jg,some tW,some Jh,some Ji,some Jj,some Kl,some TZ,some vY,some E5,some Lf,some Lg,some Lh,some TS,none,none,some Jk,some I0,some K5,some I',some I5,some EO,some Cs,some Jl,some TT,some Jm,some IQ,some IX,some J1,some K4,some yK,some CG,some Uj,some Ll,some CH,some Ln,some yI,some Jn,some TU,some Jo,some IY,some EM,some I7,some I9,some Lj,none,none,none,none,some JM,some JN,some Cy,some JO,some JQ,some JR,some JS,some JU,some T0,some JV,some JW,some JX,some JY,some JZ,some J0,none,none,some Jp,some Jq,some Jr,some Ct,some KA,none,none,none,none,none,none,none,none,none,some T6,some J3,some Lq,some Lr,some K6,some ET,some yJ,some J4,some Cu,some TV,some Jt,some Ju,some Jv,some Kh,some Li,some Lk,some Lo,some Lp,some TY,some JG,some JJ,some JK,some Cv,some Jw,some Jx,some Jy,some T1,some ER,some J2,some ES,none,some Cz,some J9,some J',some Ka,some T7,some Kb,some Kc,some T8,some T9,some Kd,some Ke,some Kf,some Kg,none,none,none,none,none,none,none,none,some J8,some Kj,some Ls,some EU,some Kk,some Jz,some TX,some JA,some EP,some su,some TW,some vZ,some Cx,some JB,some JL,some T5,none,none,none,none,none,none,none,some JC,some JD,some JE,some JF,some Ki,some Ud,some Kw,some Ue,none,some Kx,some Ky,some Kz,some J6,some J7,some T2,none,none,none,some JH,some JI,some KJ,some KL,some KM,some KN,some KP,some KQ,some Km,some Ko,some Kp,some Kq,some Kr,some EV,some Ks,some Kt,some Ku,some Kv,some Ua,some Ub,some Uc,none,none,none,none,none,none,none,none,some KT,some KD,some KE,some KF,some KG,some Uf,some Ug,none,none,none,some KR,some CA,some Uh,none,some KU,some CD,some Ui,none,none,none,none,none,none,none,none,none,none,none,none,none,none,none,none,none,none,none,none,none,none,none,none,none,none,some KW,some KX,some KY,some KZ,none,none,none,none,none,none,none,none,none]
noncomputable def rounds:List (Nat×qb):=[(1216,Uo),(1280,CL),(3456,Un),(6016,p8),(9920,CM),(14656,Um),(20736,wh)]
noncomputable def T:il:={ fn:=nth fns,round:=assoc rounds,sort:=λf=>if f=151 then some 5 else if f=261 then some 6 else none,sV:=λf=>Nat.beq f 67,sD:=λf=>Nat.beq f 66 }
def gl(P:Program):GT:={ g:=P',rt:=Ae P,nw:=λf=>elem f WA }

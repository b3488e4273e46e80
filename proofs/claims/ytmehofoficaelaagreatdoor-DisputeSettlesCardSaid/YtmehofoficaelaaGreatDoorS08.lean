/- Part 8 of DisputeSettles. -/
import Derived.Test.YtmehofoficaelaaGreatDoorProg
import Derived.Test.YtmehofoficaelaaGreatDoorS07
set_option linter.all false
namespace Go.Proofs.YtmehofoficaelaaGreatDoor
open Go Go.AL Tryz
noncomputable def tl:Array (Unit->Array (Unit->TypeInfo)):=#[λ_=>#[λ_=>t0,λ_=>t1,λ_=>t2,λ_=>t3,λ_=>t4,λ_=>t5,λ_=>t6,λ_=>t7,λ_=>t8,λ_=>t9,λ_=>t10,λ_=>t11,λ_=>t12,λ_=>t13,λ_=>t14,λ_=>t15,λ_=>t16,λ_=>t17,λ_=>t18,λ_=>t19],
 λ_=>#[λ_=>t20,λ_=>t21,λ_=>t22,λ_=>t23,λ_=>t24,λ_=>t25,λ_=>t26,λ_=>t27,λ_=>t28,λ_=>t29,λ_=>t30,λ_=>t31,λ_=>t32,λ_=>t33,λ_=>t34,λ_=>t35,λ_=>t36,λ_=>t37,λ_=>t38,λ_=>t39],
 λ_=>#[λ_=>t40,λ_=>t41,λ_=>t42,λ_=>t43,λ_=>t44,λ_=>t45,λ_=>t46,λ_=>t47,λ_=>t48,λ_=>t49,λ_=>t50,λ_=>t51,λ_=>t52,λ_=>t53,λ_=>t54,λ_=>t55,λ_=>t56,λ_=>t57,λ_=>t58,λ_=>t59],
 λ_=>#[λ_=>t60,λ_=>t61,λ_=>t62,λ_=>t63,λ_=>t64,λ_=>t65,λ_=>t66,λ_=>t67,λ_=>t68,λ_=>t69,λ_=>t70,λ_=>t71,λ_=>t72,λ_=>t73,λ_=>t74,λ_=>t75,λ_=>t76,λ_=>t77,λ_=>t78,λ_=>t79],
 λ_=>#[λ_=>t80,λ_=>t81,λ_=>t82,λ_=>t83,λ_=>t84,λ_=>t85,λ_=>t86,λ_=>t87,λ_=>t88,λ_=>t89,λ_=>t90,λ_=>t91,λ_=>t92,λ_=>t93,λ_=>t94,λ_=>t95,λ_=>t96,λ_=>t97,λ_=>t98,λ_=>t99],
 λ_=>#[λ_=>t100,λ_=>t101,λ_=>t102,λ_=>t103,λ_=>t104,λ_=>t105,λ_=>t106,λ_=>t107,λ_=>t108,λ_=>t109,λ_=>t110,λ_=>t111,λ_=>t112,λ_=>t113,λ_=>t114,λ_=>t115,λ_=>t116,λ_=>t117,λ_=>t118,λ_=>t119],
 λ_=>#[λ_=>t120,λ_=>t121,λ_=>t122,λ_=>t123,λ_=>t124,λ_=>t125,λ_=>t126,λ_=>t127,λ_=>t128,λ_=>t129,λ_=>t130,λ_=>t131,λ_=>t132,λ_=>t133,λ_=>t134,λ_=>t135,λ_=>t136,λ_=>t137,λ_=>t138,λ_=>t139],
 λ_=>#[λ_=>t140,λ_=>t141,λ_=>t142,λ_=>t143,λ_=>t144,λ_=>t145,λ_=>t146,λ_=>t147,λ_=>t148,λ_=>t149,λ_=>t150,λ_=>t151,λ_=>t152,λ_=>t153,λ_=>t154,λ_=>t155,λ_=>t156,λ_=>t157,λ_=>t158,λ_=>t159],
 λ_=>#[λ_=>t160,λ_=>t161,λ_=>t162,λ_=>t163,λ_=>t164,λ_=>t165,λ_=>t166,λ_=>t167,λ_=>t168,λ_=>t169,λ_=>t170,λ_=>t171,λ_=>t172,λ_=>t173,λ_=>t174,λ_=>t175,λ_=>t176,λ_=>t177,λ_=>t178,λ_=>t179],
 λ_=>#[λ_=>t180,λ_=>t181,λ_=>t182,λ_=>t183,λ_=>t184,λ_=>t185,λ_=>t186,λ_=>t187,λ_=>t188,λ_=>t189,λ_=>t190,λ_=>t191,λ_=>t192,λ_=>t193,λ_=>t194,λ_=>t195,λ_=>t196,λ_=>t197,λ_=>t198,λ_=>t199],
 λ_=>#[λ_=>t200,λ_=>t201,λ_=>t202,λ_=>t203,λ_=>t204,λ_=>t205,λ_=>t206,λ_=>t207,λ_=>t208,λ_=>t209,λ_=>t210,λ_=>t211,λ_=>t212,λ_=>t213,λ_=>t214,λ_=>t215,λ_=>t216,λ_=>t217,λ_=>t218,λ_=>t219],
 λ_=>#[λ_=>t220,λ_=>t221,λ_=>t222,λ_=>t223,λ_=>t224,λ_=>t225,λ_=>t226,λ_=>t227,λ_=>t228,λ_=>t229,λ_=>t230,λ_=>t231,λ_=>t232,λ_=>t233,λ_=>t234,λ_=>t235,λ_=>t236,λ_=>t237,λ_=>t238,λ_=>t239],
 λ_=>#[λ_=>t240,λ_=>t241,λ_=>t242,λ_=>t243,λ_=>t244,λ_=>t245,λ_=>t246,λ_=>t247,λ_=>t248,λ_=>t249,λ_=>t250,λ_=>t251,λ_=>t252,λ_=>t253,λ_=>t254,λ_=>t255,λ_=>t256,λ_=>t257,λ_=>t258,λ_=>t259],
 λ_=>#[λ_=>t260,λ_=>t261,λ_=>t262,λ_=>t263,λ_=>t264,λ_=>t265,λ_=>t266,λ_=>t267,λ_=>t268,λ_=>t269,λ_=>t270,λ_=>t271,λ_=>t272,λ_=>t273,λ_=>t274,λ_=>t275,λ_=>t276,λ_=>t277,λ_=>t278,λ_=>t279],
 λ_=>#[λ_=>t280,λ_=>t281,λ_=>t282,λ_=>t283,λ_=>t284,λ_=>t285,λ_=>t286,λ_=>t287,λ_=>t288,λ_=>t289,λ_=>t290,λ_=>t291,λ_=>t292,λ_=>t293,λ_=>t294,λ_=>t295,λ_=>t296,λ_=>t297,λ_=>t298,λ_=>t299],
 λ_=>#[λ_=>t300,λ_=>t301,λ_=>t302,λ_=>t303,λ_=>t304,λ_=>t305,λ_=>t306,λ_=>t307,λ_=>t308,λ_=>t309,λ_=>t310,λ_=>t311,λ_=>t312,λ_=>t313,λ_=>t314,λ_=>t315,λ_=>t316,λ_=>t317,λ_=>t318,λ_=>t319],
 λ_=>#[λ_=>t320,λ_=>t321,λ_=>t322,λ_=>t323,λ_=>t324,λ_=>t325,λ_=>t326,λ_=>t327,λ_=>t328,λ_=>t329,λ_=>t330,λ_=>t331,λ_=>t332,λ_=>t333,λ_=>t334,λ_=>t335,λ_=>t336,λ_=>t337,λ_=>t338,λ_=>t339],
 λ_=>#[λ_=>t340,λ_=>t341,λ_=>t342,λ_=>t343,λ_=>t344,λ_=>t345,λ_=>t346,λ_=>t347,λ_=>t348,λ_=>t349,λ_=>t350,λ_=>t351,λ_=>t352,λ_=>t353,λ_=>t354,λ_=>t355,λ_=>t356,λ_=>t357,λ_=>t358,λ_=>t359],
 λ_=>#[λ_=>t360,λ_=>t361,λ_=>t362,λ_=>t363,λ_=>t364,λ_=>t365,λ_=>t366,λ_=>t367,λ_=>t368,λ_=>t369,λ_=>t370,λ_=>t371,λ_=>t372,λ_=>t373,λ_=>t374,λ_=>t375,λ_=>t376,λ_=>t377,λ_=>t378,λ_=>t379],
 λ_=>#[λ_=>t380,λ_=>t381,λ_=>t382,λ_=>t383,λ_=>t384,λ_=>t385,λ_=>t386,λ_=>t387,λ_=>t388,λ_=>t389,λ_=>t390,λ_=>t391,λ_=>t392,λ_=>t393,λ_=>t394,λ_=>t395,λ_=>t396,λ_=>t397,λ_=>t398,λ_=>t399],
 λ_=>#[λ_=>t400,λ_=>t401,λ_=>t402,λ_=>t403,λ_=>t404,λ_=>t405,λ_=>t406,λ_=>t407,λ_=>t408,λ_=>t409,λ_=>t410,λ_=>t411,λ_=>t412,λ_=>t413,λ_=>t414,λ_=>t415,λ_=>t416,λ_=>t417,λ_=>t418,λ_=>t419],
 λ_=>#[λ_=>t420,λ_=>t421,λ_=>t422,λ_=>t423,λ_=>t424,λ_=>t425,λ_=>t426,λ_=>t427,λ_=>t428,λ_=>t429,λ_=>t430,λ_=>t431,λ_=>t432,λ_=>t433,λ_=>t434,λ_=>t435,λ_=>t436,λ_=>t437,λ_=>t438,λ_=>t439],
 λ_=>#[λ_=>t440,λ_=>t441,λ_=>t442,λ_=>t443,λ_=>t444,λ_=>t445,λ_=>t446,λ_=>t447,λ_=>t448,λ_=>t449,λ_=>t450,λ_=>t451,λ_=>t452,λ_=>t453,λ_=>t454,λ_=>t455,λ_=>t456,λ_=>t457,λ_=>t458,λ_=>t459]]
noncomputable def qI(t:Nat):TypeInfo:=match tl[t / 20]? with
 | some f=>match (f ())[t % 20]? with
  | some f=>f ()
  | none=>t0
 | none=>t0
def Ro:Nat->Option (List D):=λg=>if g=0 then some [.val .nilFunc,.fn (.func 364) [] [],.fn (.func 366) [] [],.fn (.func 367) [] []]else if g=1 then some DX else if g=2 then some D7 else none
def tN(g:Nat)(l:List D):List D:=if g<1000 then(Ro g).getD []else if g<2000 then Zw (g-1000)++l else Zb (g-2000)++l
def XU:List Nat:=[30,33,95,150,184,205,224,265]
@[simp] theorem au8:tN 0 [] = [.val .nilFunc,.fn (.func 364) [] [],.fn (.func 366) [] [],.fn (.func 367) [] []]:=rfl
@[simp] theorem au9:tN 1 []=DX:=rfl
@[simp] theorem avd:tN 2 []=D7:=rfl
@[simp] theorem ava(l:List D):tN 1008 l=Zw 8++l:=rfl
@[simp] theorem ave(l:List D):tN 2008 l=Zb 8++l:=rfl
@[simp] theorem avb(l:List D):tN 1032 l=Zw 32++l:=rfl
@[simp] theorem avf(l:List D):tN 2032 l=Zb 32++l:=rfl
@[simp] theorem avc(l:List D):tN 1064 l=Zw 64++l:=rfl
@[simp] theorem avg(l:List D):tN 2064 l=Zb 64++l:=rfl
noncomputable def qU(t:Nat):TypeDesc:=match (qI t).desc with
 | .named _ r=>(qI r).desc
 | d=>d
noncomputable def qS(t:Nat):Nat:=(qI t).size
noncomputable def qV(t:Nat):List D:=match (qI t).zero with
 | some z=>z.cells.toList.map tF
 | none=>[]
noncomputable def qW(Z:Nat->List D->List D)(t:Nat)(l:List D):List D:=match qU t with
 | .array n e=>if n % 8=0 then(match qU e with
  | .int .u32=>Z (1000+n) l
  | .int .u8=>Z (2000+n) l
  | _=>qV t++l)else qV t++l
 | _=>qV t++l
noncomputable def qY(Z:Nat->List D->List D)(t:Nat)(l:List D):List D:=match qU t with
 | .struct fs=>fs.toList.foldr (λf l=>qW Z f.type l) l
 | _=>qW Z t l
noncomputable def qZ(Z:Nat->List D->List D)(t:Nat):List D:=match qU t with
 | .struct fs=>fs.toList.foldr (λf l=>qY Z f.type l) []
 | _=>qW Z t []
noncomputable def qD(Z:Nat->List D->List D)(t:Nat):D:=match (qI t).zero with
 | some (.agg _)=>.agg (qZ Z t)
 | some v=>tF v
 | none=>.any
noncomputable def qG(t:Nat):Bool:=match qU t with
 | .struct _=>true
 | .array _ _=>true
 | _=>false
noncomputable def qE(t:Nat):Nat:=match qU t with
 | .slice e=>e
 | .array _ e=>e
 | .map _ e=>e
 | _=>0
noncomputable def qX(Z:Nat->List D->List D):Operand->X
 | .tmp t=>.t t
 | .const (.agg cs)=>.c (.agg (cs.toList.map tF))
 | .const v=>.c (tF v)
 | .global g=>.c (.gC (Z g []))
 | .func f=>.c (.fn (.func f) [] [])
noncomputable def T2(Z:Nat->List D->List D)(l:Array Operand):List X:=l.toList.map (qX Z)
noncomputable def qL(t:Nat):mH:=match qU t with
 | .string=>.str
 | .bool=>.bool
 | _=>.int
noncomputable def qLs(t:Nat):List mH:=match qU t with
 | .struct fs=>fs.toList.map λf=>qL f.type
 | .array n e=>List.replicate n (qL e)
 | _=>[]
noncomputable def qI'(t:Nat):IntKind:=match qU t with
 | .int k=>k
 | _=>.i64
noncomputable def qK(t:Nat):KK:=match qU t with
 | .struct fs=>.ints (fs.toList.map λf=>qI' f.type)
 | .int k=>.int k
 | .string=>.str
 | _=>.bool
noncomputable def qM(t:Nat):KK:=match qU t with
 | .map k _=>qK k
 | _=>.bool
noncomputable def qF(t:Nat)(i:Nat):Nat×Nat:=match qU t with
 | .struct fs=>match fs[i]? with
  | some f=>(f.offset,f.type)
  | none=>(0,0)
 | _=>(0,0)
noncomputable def qQ(n:Bool)(op:BinOp)(t:Nat)(a b:X):iR:=match qU t with
 | .bool=>.eqS false [.bool] n a b
 | .int _=>.arith op a b
 | .string=>.arith op a b
 | .slice _=>.nilS n a
 | _=>.eqS true (qLs t) n a b
noncomputable def qC(Z:Nat->List D->List D)(c:Call)(a:List X):iR:=match c.callee with
 | .value (.func f)=>if elem f XU then .callN f a else .call f a
 | .value f=>.callv (qX Z f) a
 | .builtin b=>match c.argTypes.toList,a with
  | [t],[x]=>match b with
   | .len=>match qU t with
    | .string=>.len .string x
    | .map _ _=>.len .map x
    | _=>.len .slice x
   | .cap=>.capE x
   | _=>.clr (qS (qE t)) (qZ Z (qE t)) x
  | [t,u],[x,y]=>match b with
   | .append=>match qU u with
    | .int _=>.appZ (qE t) (qS (qE t)) (qI (qE t)).bytes (qZ Z (qE t)) x y
    | _=>.app (qE t) (qS (qE t)) (qI (qE t)).bytes x y
   | .copy=>.copy (qS (qE t)) x y
   | .max=>.minmax true a
   | _=>.minmax false a
  | _,_=>match b with
   | .max=>.minmax true a
   | _=>.minmax false a
 | _=>.mv (.c .any)
noncomputable def qH:Operand->Bool
 | .global g=>decide (2<g)
 | _=>false
noncomputable def qO(Z:Nat->List D->List D):Op->iR
 | .move x=>.mv (qX Z x)
 | .assign x=>.mv (qX Z x)
 | .pick c a b=>.pick (qX Z c) (qX Z a) (qX Z b)
 | .box e x=>.box e (qX Z x)
 | .alloc e=>.alloc e (qZ Z e)
 | .build t l=>match qU t with
  | .array _ e=>.build (qZ Z t) (l.toList.map λp=>(p.1*qS e,qS e,qX Z p.2))
  | _=>.build (qZ Z t) (l.toList.map λp=>((qF t p.1).1,qS (qF t p.1).2,qX Z p.2))
 | .buildSlice t n l=>.buildSl (qE t) (qS (qE t)) (qZ Z (qE t)) n (l.toList.map λp=>(p.1,qX Z p.2))
 | .load t a=>if qG t then .ldN (qS t) (qX Z a)else .ld1 (qX Z a)
 | .store t a v=>if qG t then .stN (qS t) (qX Z a) (qX Z v)else .st1 (qX Z a) (qX Z v)
 | .nilCheck x=>.nilck (qX Z x)
 | .binOp .eql t x y _=>qQ false .eql t (qX Z x) (qX Z y)
 | .binOp .neq t x y _=>qQ true .neq t (qX Z x) (qX Z y)
 | .binOp op _ x y _=>.arith op (qX Z x) (qX Z y)
 | .unOp op _ x=>.un op (qX Z x)
 | .convert _ d x=>match qU d with
  | .int k=>.conv k (qX Z x)
  | _=>.b2s (qX Z x)
 | .makeFunc f a c=>.mkfn f (T2 Z a) (T2 Z c)
 | .makeMap t _=>.mkmap (qM t)
 | .lookup t x i ok=>.lookup (qM t) (qD Z (qE t)) ok (qX Z x) (qX Z i)
 | .mapUpdate t m k v=>.mapUpd (qM t) (qX Z m) (qX Z k) (qX Z v)
 | .insert t m k v=>.mapUpd (qM t) (qX Z m) (qX Z k) (qX Z v)
 | .makeSlice t l c=>.mksl (qE t) (qS (qE t)) (qI (qE t)).bytes (qZ Z (qE t)) (qX Z l) (qX Z c)
 | .slice t x lo (some hi) (some mx)=>.slc3 (qS (qE t)) (qX Z x) (lo.map (qX Z)) (qX Z hi) (qX Z mx)
 | .slice t x lo hi _=>match qU t with
  | .string=>.slcS (qX Z x) (lo.map (qX Z)) (hi.map (qX Z))
  | .array n e=>.slcArr (qS e) n (qX Z x) (lo.map (qX Z)) (hi.map (qX Z))
  | _=>.slc (qS (qE t)) (qX Z x) (lo.map (qX Z)) (hi.map (qX Z))
 | .fieldAddr t x f=>.fieldA (qF t f).1 (qX Z x)
 | .field t x f=>.field (qF t f).1 (qS (qF t f).2) (qG (qF t f).2) (qX Z x)
 | .indexAddr t x i=>match qU t with
  | .array n e=>if qH x then .mv (.c .any)else .idxArr (qS e) n (qX Z x) (qX Z i)
  | _=>.idxA (qS (qE t)) (qX Z x) (qX Z i)
 | .index t x i=>match qU t with
  | .array n e=>.idx (qS e) n (qG e) (qX Z x) (qX Z i)
  | _=>.idxStr (qX Z x) (qX Z i)
 | .extract x i=>.ext (qX Z x) i
 | .call c=>qC Z c (T2 Z c.args)
 | .range t x=>match qU t with
  | .string=>.rangeS (qX Z x)
  | _=>.rangeM (qX Z x)
 | .next x s=>if s then .nextS (qX Z x)else .nextM (qX Z x)
 | .entry x=>.entry (qX Z x)
 | .mapEntry t m k=>.mapEnt (qM t) (qD Z (qE t)) (qX Z m) (qX Z k)
 | .entryStore _ m s x=>.entSt (qX Z m) (qX Z s) (qX Z x)
 | _=>.mv (.c .any)
noncomputable def qA(Z:Nat->List D->List D)(ops:Array Oper)(o:Oper):ia:=⟨o.dst,qO Z o.op,match o.guard with
 | some (j,w)=>some ((match ops[j]? with
  | some q=>q.dst.getD 0
  | none=>0),w)
 | none=>none⟩
noncomputable def qT(e:ia):Bool:=match e.op with
 | .mv (.c .any)=>true
 | _=>false
def qP:List Nat->List (Nat×Nat)
 | a::b::l=>(a,b)::qP l
 | _=>[]
noncomputable def qB(Z:Nat->List D->List D)(rf:Nat):List (List Nat)->Code->IR×List (List Nat)
 | hs,.skip=>(.skip,hs)
 | hs,.region _ ops d=>if (ops.toList.map (qA Z ops)).any qT then(.bad,hs)else match d with
  | false=>(.ops (ops.toList.map (qA Z ops)),hs)
  | true=>match hs with
   | (9999::n::l)::hs=>(.mR (qP l) ((ops.toList.map (qA Z ops)).take n) ((ops.toList.map (qA Z ops)).drop n),hs)
   | l::hs=>(.mb (qP l) (ops.toList.map (qA Z ops)),hs)
   | []=>(.bad,[])
 | hs,.seq a b=>match qB Z rf hs a with
  | (x,lZ)=>match qB Z (rf+(nX a).length) lZ b with
   | (y,l4)=>(.seq x y,l4)
 | hs,.cond c a b=>match qB Z rf hs a with
  | (y,lZ)=>match qB Z (rf+(nX a).length) lZ b with
   | (z,l4)=>(.cond (qX Z c) y z,l4)
 | l::hs,.block id a=>match qB Z rf hs a with
  | (x,lZ)=>(.block id l x,lZ)
 | l::hs,.loop a=>match qB Z rf hs a with
  | (x,lZ)=>(.loop l x,lZ)
 | l::hs,.rangeFunc g _ _ _=>(.oq rf l (qX Z g),hs)
 | hs,.exit id=>(.exit id,hs)
 | hs,.ret=>(.ret,hs)
 | hs,_=>(.bad,hs)
noncomputable def qR:ResultVar->vA
 | .tmp t=>.tmp t
 | .cell a t=>if qG t then .Qv (qS t) a else .tF a
noncomputable def qN(Z:Nat->List D->List D)(f:Func)(n:Nat)(hs:List (List Nat))(full:Bool)(own:Nat)(fz:Bool):jo:=
 .mk f.ntmps (qB Z (64*n) hs (Gk f)).1 (f.results.toList.map qR) full own fz
noncomputable def qN2(Z:Nat->List D->List D)(f:Func)(i:Nat)(d c:List (List Nat)):qw:=match (nX (Gk f))[i]? with
 | some (ps,a,b)=>.mk ps.toList (qB Z 0 d a).1 (qB Z 0 c b).1
 | none=>.mk [] .bad .bad
@[reducible] noncomputable def pf(f:Func)(n:Nat)(hs:List (List Nat):=[])(full:Bool:=false)(own:Nat:=0)(fz:Bool:=false){x:(Nat->List D->List D)->jo}(_:∀Z,qN Z f n hs full own fz=x Z:=by intro Z;conv=>lhs;cbv):jo:=x tN
@[reducible] noncomputable def pr(f:Func)(i:Nat)(b a:List (List Nat)){x:(Nat->List D->List D)->qw}(_:∀Z,qN2 Z f i b a=x Z:=by intro Z;conv=>lhs;cbv):qw:=x tN
@[simp ↓] theorem ayv{f:Func}{n:Nat}{hs:List (List Nat)}{full:Bool}{own:Nat}{fz:Bool}{x:(Nat->List D->List D)->jo}(h:∀Z,qN Z f n hs full own fz=x Z):pf f n hs full own fz h=x tN:=rfl
@[simp ↓] theorem ayy{f:Func}{i:Nat}{b a:List (List Nat)}{x:(Nat->List D->List D)->qw}(h:∀Z,qN2 Z f i b a=x Z):pr f i b a h=x tN:=rfl
set_option maxRecDepth 100000
set_option maxHeartbeats 4000000
noncomputable section
def UM:=pf f8 8 [[5,6,7,8,9,10,11],[5,6,7,8,9,10,11,12],[5,6,7,8,9,10,11,12],[1,14,3,14,6,14,8,14,10,14,13,14,1,15,3,15,6,15,8,15,10,15,13,15,14,15],[],[]]
def FG:=pf f10 10 [[7,8,9,11,12],[7,8,9,11,12,13],[7,8,9,11,12,13]]
def Kr:=pf f13 13 [] false 0 true
def L8:=pf f16 16 [[6,8,9,10,11],[2,6,8,9,10,11,37,38,39],[2,6,8,9,10,11,37,38,39],[8],[8,9,10,11,16],[8,9,10,11,16],[8,9,10,11,16],[8,9,10,11,16,17,77,78,79],[8,9,10,11,16,17,77,78,79],[8,9,10,11,16,17,77,78,79],[8],[8,135,136],[8,135,136]] false 0 true
def LN:=pf f17 17 [[],[0,1,5],[0,1,5],[]]
def JO:=pf f18 18 [[3],[0,3,4],[0,3,4]] false 0 true
def JR:=pf f20 20 [[9999,1,2,3,9,11,12],[9999,1,2,3,9,11,12,40,41],[9999,1,2,3,9,11,12,40,41],[9999,6,7,8],[9999,1,2,3,9,11,12],[9999,1,2,3,9,11,12],[9999,1,2,3,9,11,12],[11,12],[9999,1,2,3,9,11,12],[9999,1,2,3,9,11,12,76,77,78],[9999,1,2,3,9,11,12,76,77,78],[4,9],[],[9999,1,3,11,20],[9999,1,3,11,20,108,109,110],[9999,1,3,11,20,108,109,110],[9999,1,3,11,20,108,109,110],[9999,1,3,11,20,21,108,109,110,116],[9999,1,3,11,20,21,108,109,110,116],[],[]] false 0 true
def Db:=pf f22 22 [[],[1,2,5],[1,2,5],[]]
def UN:=pf f24 24 [[7,10,7,14,3,15,6,15,7,15],[0,6,6,8,7,8,8,14,0,16,3,16,5,16,6,16,7,16,8,16,11,16,13,16,14,16,15,16,0,17,3,17,5,17,6,17,7,17,8,17,11,17,13,17,14,17,15,17,16,17],[0,3,0,6,0,7,3,7,0,8,0,9,3,9,6,9,7,9,8,9,0,10,3,10,6,10,7,10,8,10,9,10],[9,13,19,24]]
def KW:=pf f25 25 [] false 0 true
def JS:=pf f26 26 [] false 1 true
def JT:=pf f27 27 [[5],[0,1,5,6],[0,1,5,6],[4,15,12,15]] false 0 true
def JU:=pf f28 28 [] false 0 true
def UO:=pf f29 29
def UP:=pf f30 30 [] false 0 true
def zg:=pf f32 32
def Dc:=pf f33 33 [] false 0 true
def UQ:=pf f35 35 [[0,1,5],[0,1,5,12,13],[0,1,5,12,13],[]]
def UR:=pf f37 37
def FV:=pf f39 39 [[6],[1,2,6,7],[1,2,6,7],[],[],[1,2,6,7,9],[1,2,6,7,8,9,10],[1,2,6,7,8,9,10]] false 0 true
def LU:=pf f40 40 [[],[0,1,5],[0,1,5]]
def zh:=pf f41 41 [[2,3],[0,2,3,4],[0,2,3,4]]
def Md:=pf f42 42 [[],[2,3,8,30,31,32],[2,3,8,30,31,32],[]]
def JX:=pf f44 44 [[10],[0,1,3,9,10,11],[0,1,3,9,10,11],[3,13,7,13,9,13,12,13]] false 1 true
def wP:=pf f48 48 [[]]
def zi:=pf f49 49 [[2,3],[2,3,6,7,8],[2,3,6,7,8]]
def FT:=pf f50 50 [[1,2,3,4,5],[1,2,3,4,5,6],[1,2,3,4,5,6],[],[6,7]] false 0 true
def FU:=pf f51 51 [[6,7],[2,3,6,7,8],[2,3,6,7,8],[2,3,6,7,9],[2,3,6,7,8,9,10],[2,3,6,7,8,9,10],[],[2,3,6,7,8],[2,3,6,7,8,9,11],[2,3,6,7,8,9,11]] false 0 true
def FX:=pf f56 56 [[1,2,7],[1,2,7,37,38,39],[1,2,7,37,38,39],[10],[2,7,10,52,53,54],[2,7,10,52,53,54],[2,7,10,52,53,54],[2,7,10,11,52,53,54,61,62,63],[2,7,10,11,52,53,54,61,62,63]] false 0 true
def zp:=pf f57 57 [] true
def Mj:=pf f58 58
def Mk:=pf f59 59 [[3],[3,11,12,13],[3,11,12,13],[3,11,12,13],[3,4,11,12,13,18,19,20],[3,4,11,12,13,18,19,20]] false 0 true
def JZ:=pf f60 60
def FJ:=pf f63 63 [] true 2
def J0:=pf f64 64 [[9999,0,2],[9999,0,2,27,28],[9999,0,2,27,28],[9999,0,2,7],[9999,0,2,7,44,45,46],[9999,0,2,7,44,45,46]] true 4
def J1:=pf f65 65 [] true 4
def UT:=pf f66 66 [[]] true 1
def K9:=pf f67 67 [] true
def J2:=pf f69 69
def UU:=pf f70 70 [] false 0 true
def Me:=pf f71 71 [[1,7],[1,2,7,8],[1,2,7,8],[1,2,8,9],[1,2,7,8,9,10],[1,2,7,8,9,10],[11],[1,7,11,12],[1,7,11,12]] false 0 true
def Mf:=pf f72 72 [[1,2,3,4,9],[1,2,3,4,9,10],[1,2,3,4,9,10],[9],[1,3,9,11,12,13],[1,3,9,11,12,13],[]] false 0 true
def wQ:=pf f73 73 [[9,13]] false 1 true
def Dd:=pf f74 74
def UW:=pf f75 75 [] false 0 true
def De:=pf f79 79 [[],[0,1,5],[0,1,5],[]]
def UX:=pf f81 81 [[],[2,3,14],[2,3,14,66,67,68],[2,3,14,66,67,68],[]]
def Kc:=pf f82 82
def Mp:=pf f83 83 [[],[0,3],[0,3],[]]
def Mq:=pf f84 84 [[],[],[2,3,5],[2,3,5],[]]
def FZ:=pf f85 85 [[2,3,5,6,7],[2,3,5,6,7,8],[2,3,5,6,7,8],[2,3,6,7],[2,3,5,6,7,9],[2,3,5,6,7,9]] false 0 true
def L7:=pf f86 86 [[],[0,3,5,6],[0,3,5,6],[]]
def J4:=pf f87 87 [] false 0 true
def zj:=pf f88 88 [[]]
def Ml:=pf f89 89 [[1,4,5,6],[0,1,4,5,6,9,10,11],[0,1,4,5,6,9,10,11],[0,1,4,5,6,9,10,11],[4]]
def Df:=pf f91 91 [[5],[0,5,6,7],[0,5,6,7]] false 0 true
end
noncomputable section
def zk:=pf f92 92 [[6,7],[2,3,4,6,7,8],[2,3,4,6,7,8]] false 0 true
def JN:=pf f93 93 [[3],[3,20,21,22],[3,20,21,22]]
def FR:=pf f94 94 [[2,3,7,8],[7,8],[]] false 0 true
def Ds:=pf f95 95 [] false 0 true
def J6:=pf f96 96 [[3],[1,3,4],[1,3,4]] false 0 true
def zl:=pf f97 97 [[0,2],[]]
def FY:=pf f98 98 [[1,18,3,18,5,18,6,18,9,18,14,18],[1,2,3,4],[1,2,3,4,5],[1,2,3,4,5],[0,6,0,12,3,12,6,12],[1,2,3,4,5,6],[1,2,3,4,5,6,7],[1,2,3,4,5,6,7],[1,17],[2,3],[1,2,3,4,8],[1,2,3,4,8],[1,20,5,20,10,20,14,20],[]] false 0 true
def Mm:=pf f99 99 [[7],[2,3,4,7,8],[2,3,4,7,8]] false 0 true
def Mn:=pf f100 100 [[3,5,3,8,3,12,2,16,3,16,5,16,8,16,12,16],[2,3,4,5],[2,3,4,5,6],[2,3,4,5,6],[],[],[4,5],[2,3,4,5,8],[2,3,4,5,8],[2,3,4,5,8],[2,3,4,5,8,9],[2,3,4,5,8,9],[]] false 0 true
def Mo:=pf f101 101 [[4],[3,4,5],[3,4,5],[]] false 0 true
def ME:=pf f108 108
def MF:=pf f109 109 [[]]
def MG:=pf f110 110 [[1],[1,51,52,53],[1,51,52,53]]
def MH:=pf f111 111
def JM:=pf f112 112 [[],[0,6,7],[0,6,7],[]]
def Dr:=pf f113 113 [[],[2,3,9,10,11],[2,3,9,10,11],[]]
def J9:=pf f116 116 [[9999,0,3],[9999,0,3,23,24],[9999,0,3,23,24],[9999,3],[9999,0,3,38,39,40],[9999,0,3,38,39,40],[],[9999,0,3,38,39,40],[9999,0,3,5,6,38,39,40,63,64,65],[9999,0,3,5,6,38,39,40,63,64,65],[]] true 4
def J':=pf f117 117 [] true
def Ka:=pf f118 118 [] true
def Kb:=pf f119 119 [[9999,7],[9999,2,7,17],[9999,2,7,17]] true
def Kd:=pf f120 120
def uI:=pf f121 121
def Ke:=pf f122 122 [[9999,5],[9999,5,14],[9999,5,14]] true
def Kf:=pf f123 123 [[],[],[],[9999,2,3,5,8,9],[9999,2,3,5,8,9,53,54,55],[9999,2,3,5,8,9,53,54,55],[9999,2,3,5,8,9,53,54,55],[9999,2,3,5,8,9,10,11,53,54,55,71],[9999,2,3,5,8,9,10,11,53,54,55,71]] true
def Kg:=pf f124 124 [[9999],[9999,0,1,3],[9999,0,1,3]] true 4
def Ls:=pf f125 125 [[],[0,1,2,3,8,9],[0,1,2,3,8,9],[]] true
def U4:=pf f126 126
def wR:=pf f127 127 [[]]
def F0:=pf f128 128 [[5],[1,2,5,6],[1,2,5,6],[0,6,4,6,5,6]] false 0 true
def Mr:=pf f129 129 [[1,2,6,7,8],[0,1,2,6,7,8,9],[0,1,2,6,7,8,9]]
def Ms:=pf f130 130 [[9],[1,2,3,4,9,10],[1,2,3,4,9,10],[1,2,3,4,9,10],[1,2,3,4,9,10,11],[1,2,3,4,9,10,11],[0,6,4,6,5,6],[1,2,3,4,9,10,11,12,13,14],[1,2,3,4,9,10,11,12,13,14,15],[1,2,3,4,9,10,11,12,13,14,15],[]] false 0 true
def Mt:=pf f131 131
def Kh:=pf f132 132 [[],[0,1,5],[0,1,5],[]]
def Ki:=pf f135 135 [[0,2,3,4],[0,2,3,4,9,10,11],[0,2,3,4,9,10,11],[0,2,3,4,9,10,11],[2]]
def JY:=pf f136 136 [[],[2,3,5],[2,3,5],[]]
def Mh:=pf f137 137 [[],[],[5,6],[5,6]]
def J8:=pf f138 138 [[],[1,2,5],[1,2,5]]
def J3:=pf f139 139 [[5],[2,3,5,6],[2,3,5,6],[2,3,5,6],[2,3,5,6,7,8],[2,3,5,6,7,8]] false 0 true
def FK:=pf f140 140 [[5],[2,3,5,6],[2,3,5,6],[2,3,5,6],[2,3,5,6,7],[2,3,5,6,7],[]] false 0 true
def Dg:=pf f141 141 [[2,4],[2,3,4,5],[2,3,4,5],[],[2,6],[2,4,6,7],[2,4,6,7]]
def Kj:=pf f142 142
def UY:=pf f143 143 [[3],[0,3],[0,3]]
def Kk:=pf f144 144
def JQ:=pf f145 145 [[3],[0,3,4],[0,3,4]]
def JV:=pf f146 146 [[3],[0,3,4],[0,3,4]]
def K5:=pf f147 147 [[0,3],[0,3,9,10,11],[0,3,9,10,11],[6],[6,25,26,27],[6,25,26,27]] false 1
def Mg:=pf f148 148 [] false 0 true
def zo:=pf f149 149 [[5],[3,5,15,16,17],[3,5,15,16,17],[3,5,15,16,17],[3,5,6,7,15,16,17,23,24,25],[3,5,6,7,15,16,17,23,24,25],[]] false 0 true
def Dt:=pf f150 150 [] false 1 true
def Vl:=pf f151 151 [] true
def Mx:=pf f152 152 [[]]
def Du:=pf f153 153 [[0],[0,1,5],[0,1,5],[],[0,5],[0,1,5,6,7],[0,1,5,6,7],[]] true
def My:=pf f154 154
def zm:=pf f155 155 [[0,2,3],[0,2,3],[0,2,3],[2,3],[0,2,3,4],[0,2,3,4],[2,5],[5],[2,7],[2,5,7,42],[2,5,7,42]]
def Kl:=pf f156 156
def UZ:=pf f157 157
def Km:=pf f158 158 [[0,1,0,2]]
def JW:=pf f159 159 [[]] false 0 true
def FH:=pf f160 160 [] false 0 true
def J5:=pf f161 161 [[5],[3,4,5,6,7],[3,4,5,6,7],[]] false 0 true
def J7:=pf f162 162
def Mv:=pf f163 163
def KP:=pf f168 168
def KQ:=pf f169 169
def Dm:=pf f170 170
def KR:=pf f171 171 [[],[2,14,15,16],[2,14,15,16]]
def KT:=pf f172 172 [[],[1,3,4,29,30,31],[1,3,4,29,30,31],[]]
def KU:=pf f173 173
def KV:=pf f174 174
def KX:=pf f175 175
def U5:=pf f176 176
def KY:=pf f177 177
def KZ:=pf f178 178
def K1:=pf f179 179
def K2:=pf f180 180
end
noncomputable section
def K3:=pf f181 181 [[3]]
def K4:=pf f182 182 [[],[0,1,7,8],[0,1,7,8]]
def Ko:=pf f185 185 [[],[0,1,7,8],[0,1,7,8]] true
def Kp:=pf f186 186 [] true
def Kq:=pf f187 187
def Dh:=pf f188 188
def LL:=pf f189 189 [[],[0,1,2,6],[0,1,2,6],[0,1,2,6],[0,1,2,6,7],[],[0,1,2,6,7],[]] true
def U9:=pf f199 199
def K7:=pf f200 200 [[2,3],[],[]]
def MB:=pf f201 201 [[0,1],[0,1,5],[0,1,5],[],[]]
def MC:=pf f202 202
def Mi:=pf f203 203
def FO:=pf f204 204 [[],[0,2,0,4,0,8],[11],[5,11,12,13],[5,11,12,13],[]] false 0 true
def zn:=pf f205 205 [[0,3,0,5,3,5,4,5,0,8,4,8,5,8]] false 0 true
def K8:=pf f206 206
def Di:=pf f207 207 [[0,3],[0,3],[0,3],[3],[3,4,5],[3,4,5]] false 0 true
def U0:=pf f208 208
def Ks:=pf f209 209 [[2,4,7],[2,4,5,6,7,8],[2,4,5,6,7,8],[],[],[4,7],[2,4,7,11],[2,4,7,11],[]]
def Kt:=pf f210 210 [] false 0 true
def Ku:=pf f211 211 [] false 0 true
def Lo:=pf f212 212 [] false 1
def Mu:=pf f213 213 [[],[0,1,2,14,15,16],[0,1,2,14,15,16],[0,1,2,14,15,16],[0,1,2,4,14,15,16,40,41],[0,1,2,4,14,15,16,40,41],[0,1,2,4,14,15,16,40,41],[0,1,2,4,14,15,16,40,41,52,53,54],[0,1,2,4,14,15,16,40,41,52,53,54]] true
def Mw:=pf f214 214 [] false 0 true
def Mz:=pf f215 215 [[4,8]] false 2
def MA:=pf f216 216
def U3:=pf f217 217 [[],[0,1,2,3,4,10,11],[0,1,2,3,4,10,11],[]] true
def KG:=pf f218 218 [[3],[3,6,7,8],[3,6,7,8]]
def KL:=pf f219 219 [[0,1],[0,1,9,10,11],[0,1,9,10,11]]
def KM:=pf f220 220
def Dj:=pf f221 221 [] false 0 true
def Kv:=pf f222 222 [] false 0 true
def Kw:=pf f223 223 [[1,3,2,3,1,4,2,4,3,4,2,5],[2,4,6],[2,4,5,6,14],[2,4,5,6,14],[],[],[],[4,6],[2,4,6,78],[2,4,6,78],[]]
def Kx:=pf f224 224 [[0,3],[0,3,9,10,11],[0,3,9,10,11],[6],[6,25,26,27],[6,25,26,27]] false 1 true
def U6:=pf f225 225 [[4,8],[0,1,4,6,7,8,9],[0,1,4,6,7,8,9],[0,1,4,6,7,8,9,10],[0,1,4,6,7,8,9,10,11],[0,1,4,6,7,8,9,10,11],[],[]] false 0 true
def FM:=pf f226 226 [[1,2,2,4,1,5,1,7,2,7,4,7,5,7],[4,6],[1,2,4,6,7],[1,2,4,6,7],[1,2,4,6,7,8],[1,2,4,6,7,8,9],[1,2,4,6,7,8,9]] false 0 true
def K6:=pf f227 227 [[9],[0,1,2,3,9,10],[0,1,2,3,9,10],[0,1,2,3,9,10,11]] false 0 true
def FN:=pf f228 228 [] false 0 true
def Dn:=pf f230 230 [[],[0,1,7,8],[0,1,7,8]]
def Le:=pf f231 231
def Lf:=pf f232 232
def Lg:=pf f233 233 [[]]
def U':=pf f234 234
def Lh:=pf f235 235
def Li:=pf f236 236 [[5],[1,5,8,9,10],[1,5,8,9,10]]
def Va:=pf f237 237
def Vb:=pf f238 238
def Lj:=pf f239 239 [[],[0,1,7,8],[0,1,7,8]]
def Lk:=pf f240 240
def Ll:=pf f241 241 [[],[0,1,7,8],[0,1,7,8]]
def Ln:=pf f242 242 [[],[0,1,7,8],[0,1,7,8]]
def Ld:=pf f251 251
def Lq:=pf f252 252 [[7],[1,2,3,7,8],[1,2,3,7,8]]
def MD:=pf f253 253
def FP:=pf f254 254 [[1,3,0,6,1,6,3,6],[1,4,2,4,0,5,1,5,2,5,0,6,1,6,2,6,4,6,5,6,4,7,5,7],[8,11],[4,8,11,12,13,14],[4,8,11,12,13,14],[4,8,11,13,14,15],[4,8,11,12,13,14,15,16],[4,8,11,12,13,14,15,16],[9999,11]] false 0 true
def Lr:=pf f255 255 [[3,5,6],[0,3,5,6,7],[0,3,5,6,7],[],[]] false 0 true
def Ky:=pf f256 256 [[2,3],[0,2,3,4],[0,2,3,4],[0,2,3,4],[0,2,3,4,5],[0,2,3,4,5],[],[2,3],[2,3,6],[2,3,6],[]]
def U2:=pf f257 257
def Kz:=pf f258 258 [[]]
def FL:=pf f259 259 [[4,14],[4,5,14,87,88,89],[4,5,14,87,88,89],[4,5,17,87,88,89],[4,5,16,17,18,87,88,89,94,95,96],[4,5,16,17,18,87,88,89,94,95,96],[4,5,16,17,18,87,88,89,94,95,96],[4,5,16,17,18,87,88,89,94,95,96,107,108,109],[4,5,16,17,18,87,88,89,94,95,96,107,108,109],[],[4,129,130,131],[4,129,130,131]] true
def sQ:=pf f260 260 [[]] true
def U1:=pf f261 261 [] true
def wS:=pf f262 262 [[]]
def Dk:=pf f263 263 [[0],[0,1,5],[0,1,5],[],[0,5],[0,1,5,6,7],[0,1,5,6,7],[]] true
def KA:=pf f264 264
def KN:=pf f265 265 [] false 1
def U8:=pf f266 266 [[],[0,1,2,3,8],[0,1,2,3,8],[0,1,2,3,8],[0,1,2,3,8,9],[],[0,1,2,3,8,9],[]] true
end
noncomputable section
def KB:=pf f274 274 [[],[0,1,2,4],[0,1,2,4],[]] true
def KD:=pf f275 275 [[2,3],[0,2,3,10],[0,2,3,10],[],[2,3],[2,3,5],[2,3,5],[],[]]
def KE:=pf f276 276
def KF:=pf f277 277 [] false 1 true
def Lp:=pf f278 278
def Vf:=pf f279 279
def LF:=pf f280 280 [[],[0,1,7,8],[0,1,7,8]]
def Vg:=pf f281 281 [[],[1,2,10],[1,2,10]]
def LG:=pf f283 283 [[0],[0,1,5],[0,1,5],[0,1,5,6],[0,1,5,6,7],[0,1,5,6,7],[]] true
def LI:=pf f284 284 [[4],[],[]] false 0 true
def LK:=pf f285 285
def La:=pf f286 286 [[]] false 0 true
def Lb:=pf f287 287 [[]]
def U7:=pf f288 288 [[],[0,1,2,3,4,10,11],[0,1,2,3,4,10,11],[]] true
def KH:=pf f292 292
def KJ:=pf f293 293
def LV:=pf f294 294
def LW:=pf f295 295
def LX:=pf f296 296 [] false 0 true
def LY:=pf f297 297 [[7],[4,7,8,9],[4,7,8,9],[]] false 0 true
def LZ:=pf f298 298 [[],[]] false 0 true
def L3:=pf f299 299 [[6,17,8,17]] false 0 true
def Lt:=pf f300 300 [] false 0 true
def Lu:=pf f301 301 [[7],[3,7,19,20,21],[3,7,19,20,21]] false 0 true
def Lv:=pf f302 302 [[]] false 0 true
def Lw:=pf f303 303 [] false 0 true
def Lx:=pf f304 304 [] false 0 true
def FQ:=pf f305 305 [[]] false 0 true
def Ly:=pf f306 306 [[6,17,8,17]] false 0 true
def Lz:=pf f307 307 [] false 0 true
def LC:=pf f308 308 [[]] false 0 true
def LD:=pf f309 309 [[]] false 0 true
def Vc:=pf f310 310
def Vd:=pf f311 311
def Ve:=pf f312 312 [[],[0,1,2,3,8],[0,1,2,3,8],[0,1,2,3,8],[0,1,2,3,8,9],[],[0,1,2,3,8,9],[]] true
def L5:=pf f321 321 [[9],[1,2,3,4,9,10],[1,2,3,4,9,10]] false 0 true
def LO:=pf f322 322
def LP:=pf f323 323 [] false 0 true
def LQ:=pf f324 324 [[9],[7,9]] false 0 true
def LR:=pf f325 325
def Vh:=pf f326 326
def Vi:=pf f327 327
def L4:=pf f331 331 [] false 0 true
def Dp:=pf f332 332
def Vj:=pf f333 333
def L6:=pf f335 335 [[],[0,1,2,3,6],[0,1,2,3,6]] true
def Dq:=pf f336 336 [[],[0,1,7,8],[0,1,7,8]]
def Vk:=pf f337 337
def L9:=pf f364 364 [[]]
def Ma:=pf f365 365 [[7],[2,7,15,16,17],[2,7,15,16,17]] false 0 true
def Mb:=pf f366 366 [[]]
def Mc:=pf f367 367 [[5,7],[5,7,14,15,16],[5,7,14,15,16]]
def Vr:=pr f19 0 [] [[]]
def Dx:=pr f20 0 [] [[9999],[0,5]]
def Vq:=pr f54 0 [] [[],[],[3,11],[3,10,11,46,47,48],[3,10,11,46,47,48],[],[3,75],[3,75],[]]
def qu:=pr f94 0 [] [[]]
def Dy:=pr f155 0 [] [[]]
def Vp:=pr f229 0 [] [[]]
def wW:=pr f324 0 [] [[]]
end
end Go.Proofs.YtmehofoficaelaaGreatDoor
namespace Go.Proofs.YtmehofoficaelaaGreatDoor
open Go Go.AL
noncomputable def fns:List (Option jo):=[none,none,none,none,none,none,none,none,some UM,none,some FG,none,none,some Kr,none,none,some L8,some LN,some JO,none,some JR,none,some Db,none,some UN,some KW,some JS,some JT,some JU,some UO,some UP,none,some zg,some Dc,none,some UQ,none,some UR,none,some FV,some LU,some zh,some Md,none,some JX,none,none,none,some wP,some zi,some FT,some FU,none,none,none,none,some FX,some zp,some Mj,some Mk,some JZ,none,none,some FJ,some J0,some J1,some UT,some K9,none,some J2,some UU,some Me,some Mf,some wQ,some Dd,some UW,none,none,none,some De,none,some UX,some Kc,some Mp,some Mq,some FZ,some L7,some J4,some zj,some Ml,none,some Df,some zk,some JN,some FR,some Ds,some J6,some zl,some FY,some Mm,some Mn,some Mo,none,none,none,none,none,none,some ME,some MF,some MG,some MH,some JM,some Dr,none,none,some J9,some J',some Ka,some Kb,some Kd,some uI,some Ke,some Kf,some Kg,some Ls,some U4,some wR,some F0,some Mr,some Ms,some Mt,some Kh,none,none,some Ki,some JY,some Mh,some J8,some J3,some FK,some Dg,some Kj,some UY,some Kk,some JQ,some JV,some K5,some Mg,some zo,some Dt,some Vl,some Mx,some Du,some My,some zm,some Kl,some UZ,some Km,some JW,some FH,some J5,some J7,some Mv,none,none,none,none,some KP,some KQ,some Dm,some KR,some KT,some KU,some KV,some KX,some U5,some KY,some KZ,some K1,some K2,some K3,some K4,none,none,some Ko,some Kp,some Kq,some Dh,some LL,none,none,none,none,none,none,none,none,none,some U9,some K7,some MB,some MC,some Mi,some FO,some zn,some K8,some Di,some U0,some Ks,some Kt,some Ku,some Lo,some Mu,some Mw,some Mz,some MA,some U3,some KG,some KL,some KM,some Dj,some Kv,some Kw,some Kx,some U6,some FM,some K6,some FN,none,some Dn,some Le,some Lf,some Lg,some U',some Lh,some Li,some Va,some Vb,some Lj,some Lk,some Ll,some Ln,none,none,none,none,none,none,none,none,some Ld,some Lq,some MD,some FP,some Lr,some Ky,some U2,some Kz,some FL,some sQ,some U1,some wS,some Dk,some KA,some KN,some U8,none,none,none,none,none,none,none,some KB,some KD,some KE,some KF,some Lp,some Vf,some LF,some Vg,none,some LG,some LI,some LK,some La,some Lb,some U7,none,none,none,some KH,some KJ,some LV,some LW,some LX,some LY,some LZ,some L3,some Lt,some Lu,some Lv,some Lw,some Lx,some FQ,some Ly,some Lz,some LC,some LD,some Vc,some Vd,some Ve,none,none,none,none,none,none,none,none,some L5,some LO,some LP,some LQ,some LR,some Vh,some Vi,none,none,none,some L4,some Dp,some Vj,none,some L6,some Dq,some Vk,none,none,none,none,none,none,none,none,none,none,none,none,none,none,none,none,none,none,none,none,none,none,none,none,none,none,some L9,some Ma,some Mb,some Mc,none,none,none,none,none,none,none,none,none]
noncomputable def rounds:List (Nat×qw):=[(1216,Vr),(1280,Dx),(3456,Vq),(6016,qu),(9920,Dy),(14656,Vp),(20736,wW)]
noncomputable def T:iD:={ fn:=nth fns,round:=assoc rounds,sort:=λf=>if f=151 then some 5 else if f=261 then some 6 else none,tz:=λf=>Nat.beq f 67,sZ:=λf=>Nat.beq f 66 }
def gl(P:Program):GT:={ g:=Ro,rt:=AX P,nw:=λf=>elem f XU }

/- Part 8 of DisputeMatchesReference. -/
import Derived.Test.YtmehofoficaelaaGreatDoorProg
import Derived.Test.YtmehofoficaelaaGreatDoorM07
set_option linter.all false
open Option renaming some→aE,none→bs
open Bool renaming false→bb,true→b4
namespace Go.Proofs.YtmehofoficaelaaGreatDoor
open Go Go.AL Tryz
noncomputable def tl:Array (Unit->Array (Unit->TypeInfo)):=#[λ_=>#[λ_=>t0,λ_=>t1,λ_=>t2,λ_=>t3,λ_=>t4,λ_=>t5,λ_=>t6,λ_=>t7,λ_=>t8,λ_=>t9,λ_=>t10,λ_=>t11,λ_=>t12,λ_=>t13,λ_=>t14,λ_=>t15,λ_=>t16,λ_=>t17,λ_=>t18,λ_=>t19],
 λ_=>#[λ_=>t20,λ_=>t21,λ_=>t22,λ_=>t23,λ_=>t24,λ_=>t25,λ_=>t26,λ_=>t27,λ_=>t28,λ_=>t29,λ_=>t30,λ_=>t31,λ_=>t32,λ_=>t33,λ_=>t34,λ_=>t35,λ_=>t36,λ_=>t37,λ_=>t38,λ_=>t39],
 λ_=>#[λ_=>t40,λ_=>t41,λ_=>t42,λ_=>t43,λ_=>t44,λ_=>t45,λ_=>t46,λ_=>t47,λ_=>t48,λ_=>t49,λ_=>t50,λ_=>t51,λ_=>t52,λ_=>t53,λ_=>t54,λ_=>t55,λ_=>t56,λ_=>t57,λ_=>t58,λ_=>t59],
 λ_=>#[λ_=>t60,λ_=>t61,λ_=>t62,λ_=>t63,λ_=>t64,λ_=>t65,λ_=>t66,λ_=>t67,λ_=>t68,λ_=>t69,λ_=>t70,λ_=>t71,λ_=>t72,λ_=>t73,λ_=>t74,λ_=>t75,λ_=>t76,λ_=>t77,λ_=>t78,λ_=>t79],
 λ_=>#[λ_=>t80,λ_=>t81,λ_=>t82,λ_=>t83,λ_=>t84,λ_=>t85,λ_=>t86,λ_=>t87,λ_=>t88,λ_=>t89,λ_=>t90,λ_=>t91,λ_=>t92,λ_=>t93,λ_=>t94,λ_=>t95,λ_=>t96,λ_=>t97,λ_=>t98,λ_=>t99],
 λ_=>#[λ_=>t100,λ_=>t101,λ_=>t102,λ_=>t103,λ_=>t104,λ_=>t105,λ_=>t106,λ_=>t107,λ_=>t108,λ_=>t109,λ_=>t110,λ_=>t111,λ_=>t112,λ_=>t113,λ_=>t114,λ_=>t115,λ_=>t116,λ_=>t117,λ_=>t118,λ_=>t119],
 λ_=>#[λ_=>t120,λ_=>t121,λ_=>t122,λ_=>t123,λ_=>t124,λ_=>t125,λ_=>t126,λ_=>t127,λ_=>t128,λ_=>t129,λ_=>t130,λ_=>t131,λ_=>t132,λ_=>t133,λ_=>t134,λ_=>t135,λ_=>t136,λ_=>t137,λ_=>t138,λ_=>t139],
 λ_=>#[λ_=>t140,λ_=>t141,λ_=>t142,λ_=>t143,λ_=>t144,λ_=>t145,λ_=>t146,λ_=>t147,λ_=>t148,λ_=>t149,λ_=>t150,λ_=>t151,λ_=>t152,λ_=>t153,λ_=>t154,λ_=>t155,λ_=>t156,λ_=>t157,λ_=>t158,λ_=>t159],
 λ_=>#[λ_=>t160,λ_=>t161,λ_=>t162,λ_=>t163,λ_=>t164,λ_=>t165,λ_=>t166,λ_=>t167,λ_=>t168,λ_=>t169,λ_=>t170,λ_=>t171,λ_=>t172,λ_=>t173,λ_=>t174,λ_=>t175,λ_=>t176,λ_=>t177,λ_=>t178,λ_=>t179],
 λ_=>#[λ_=>t180,λ_=>t181,λ_=>t182,λ_=>t183,λ_=>t184,λ_=>t185,λ_=>t186,λ_=>t187,λ_=>t188,λ_=>t189,λ_=>t190,λ_=>t191,λ_=>t192,λ_=>t193,λ_=>t194,λ_=>t195,λ_=>t196,λ_=>t197,λ_=>t198,λ_=>t199],
 λ_=>#[λ_=>t200,λ_=>t201,λ_=>t202,λ_=>t203,λ_=>t204,λ_=>t205,λ_=>t206,λ_=>t207,λ_=>t208,λ_=>t209,λ_=>t210,λ_=>t211,λ_=>t212,λ_=>t213,λ_=>t214,λ_=>t215,λ_=>t216,λ_=>t217,λ_=>t218,λ_=>t219],
 λ_=>#[λ_=>t220,λ_=>t221,λ_=>t222,λ_=>t223,λ_=>t224,λ_=>t225,λ_=>t226,λ_=>t227,λ_=>t228,λ_=>t229,λ_=>t230,λ_=>t231,λ_=>t232,λ_=>t233,λ_=>t234,λ_=>t235,λ_=>t236,λ_=>t237,λ_=>t238,λ_=>t239],
 λ_=>#[λ_=>t240,λ_=>t241,λ_=>t242,λ_=>t243,λ_=>t244,λ_=>t245,λ_=>t246,λ_=>t247,λ_=>t248,λ_=>t249,λ_=>t250,λ_=>t251,λ_=>t252,λ_=>t253,λ_=>t254,λ_=>t255,λ_=>t256,λ_=>t257,λ_=>t258,λ_=>t259],
 λ_=>#[λ_=>t260,λ_=>t261,λ_=>t262,λ_=>t263,λ_=>t264,λ_=>t265,λ_=>t266,λ_=>t267,λ_=>t268,λ_=>t269,λ_=>t270,λ_=>t271,λ_=>t272,λ_=>t273,λ_=>t274,λ_=>t275,λ_=>t276,λ_=>t277,λ_=>t278,λ_=>t279],
 λ_=>#[λ_=>t280,λ_=>t281,λ_=>t282,λ_=>t283,λ_=>t284,λ_=>t285,λ_=>t286,λ_=>t287,λ_=>t288,λ_=>t289,λ_=>t290,λ_=>t291,λ_=>t292,λ_=>t293,λ_=>t294,λ_=>t295,λ_=>t296,λ_=>t297,λ_=>t298,λ_=>t299],
 λ_=>#[λ_=>t300,λ_=>t301,λ_=>t302,λ_=>t303,λ_=>t304,λ_=>t305,λ_=>t306,λ_=>t307,λ_=>t308,λ_=>t309,λ_=>t310,λ_=>t311,λ_=>t312,λ_=>t313,λ_=>t314,λ_=>t315,λ_=>t316,λ_=>t317,λ_=>t318,λ_=>t319],
 λ_=>#[λ_=>t320,λ_=>t321,λ_=>t322,λ_=>t323,λ_=>t324,λ_=>t325,λ_=>t326,λ_=>t327,λ_=>t328,λ_=>t329,λ_=>t330,λ_=>t331,λ_=>t332,λ_=>t333,λ_=>t334,λ_=>t335,λ_=>t336,λ_=>t337,λ_=>t338,λ_=>t339],
 λ_=>#[λ_=>t340,λ_=>t341,λ_=>t342,λ_=>t343,λ_=>t344,λ_=>t345,λ_=>t346,λ_=>t347,λ_=>t348,λ_=>t349,λ_=>t350,λ_=>t351,λ_=>t352,λ_=>t353,λ_=>t354,λ_=>t355,λ_=>t356,λ_=>t357,λ_=>t358,λ_=>t359],
 λ_=>#[λ_=>t360,λ_=>t361,λ_=>t362,λ_=>t363,λ_=>t364,λ_=>t365,λ_=>t366,λ_=>t367,λ_=>t368,λ_=>t369,λ_=>t370,λ_=>t371,λ_=>t372,λ_=>t373,λ_=>t374,λ_=>t375,λ_=>t376,λ_=>t377,λ_=>t378,λ_=>t379],
 λ_=>#[λ_=>t380,λ_=>t381,λ_=>t382,λ_=>t383,λ_=>t384,λ_=>t385,λ_=>t386,λ_=>t387,λ_=>t388,λ_=>t389,λ_=>t390,λ_=>t391,λ_=>t392,λ_=>t393,λ_=>t394,λ_=>t395,λ_=>t396,λ_=>t397,λ_=>t398,λ_=>t399],
 λ_=>#[λ_=>t400,λ_=>t401,λ_=>t402,λ_=>t403,λ_=>t404,λ_=>t405,λ_=>t406,λ_=>t407,λ_=>t408,λ_=>t409,λ_=>t410,λ_=>t411,λ_=>t412,λ_=>t413,λ_=>t414,λ_=>t415,λ_=>t416,λ_=>t417,λ_=>t418,λ_=>t419],
 λ_=>#[λ_=>t420,λ_=>t421,λ_=>t422,λ_=>t423,λ_=>t424,λ_=>t425,λ_=>t426,λ_=>t427,λ_=>t428,λ_=>t429,λ_=>t430,λ_=>t431,λ_=>t432,λ_=>t433,λ_=>t434,λ_=>t435,λ_=>t436,λ_=>t437,λ_=>t438,λ_=>t439],
 λ_=>#[λ_=>t440,λ_=>t441,λ_=>t442,λ_=>t443,λ_=>t444,λ_=>t445,λ_=>t446,λ_=>t447,λ_=>t448,λ_=>t449,λ_=>t450,λ_=>t451,λ_=>t452,λ_=>t453,λ_=>t454,λ_=>t455,λ_=>t456,λ_=>t457,λ_=>t458,λ_=>t459]]
noncomputable def qI(t:Nat):TypeInfo:=match tl[t / 20]? with
 | some f=>match (f ())[t % 20]? with
  | some f=>f ()
  | none=>t0
 | none=>t0
def R2:Nat->Option (List D):=λg=>if g=0 then aE [.val .nilFunc,.fn (.func 364) [] [],.fn (.func 366) [] [],.fn (.func 367) [] []]else if g=1 then aE EW else if g=2 then aE E0 else bs
def uZ(g:Nat)(l:List D):List D:=if g<1000 then(R2 g).getD []else if g<2000 then Zw (g-1000)++l else Zb (g-2000)++l
def YL:List Nat:=[30,33,95,150,183,184,205,224,265]
@[simp] theorem avO:uZ 0 [] = [.val .nilFunc,.fn (.func 364) [] [],.fn (.func 366) [] [],.fn (.func 367) [] []]:=rfl
@[simp] theorem avP:uZ 1 []=EW:=rfl
@[simp] theorem avT:uZ 2 []=E0:=rfl
@[simp] theorem avQ(l:List D):uZ 1008 l=Zw 8++l:=rfl
@[simp] theorem avU(l:List D):uZ 2008 l=Zb 8++l:=rfl
@[simp] theorem avR(l:List D):uZ 1032 l=Zw 32++l:=rfl
@[simp] theorem avV(l:List D):uZ 2032 l=Zb 32++l:=rfl
@[simp] theorem avS(l:List D):uZ 1064 l=Zw 64++l:=rfl
@[simp] theorem avW(l:List D):uZ 2064 l=Zb 64++l:=rfl
noncomputable def qU(t:Nat):TypeDesc:=match (qI t).desc with
 | .named _ r=>(qI r).desc
 | d=>d
noncomputable def qS(t:Nat):Nat:=(qI t).size
noncomputable def qV(t:Nat):List D:=match (qI t).zero with
 | some z=>z.cells.toList.map uT
 | none=>[]
noncomputable def qW(Z:Nat->List D->List D)(t:Nat)(l:List D):List D:=match qU t with
 | .array n e=>if n % 8=0 then(match qU e with
  | .int .u32=>Z (1000+n) l
  | .int .u8=>Z (2000+n) l
  | _=>qV t++l)else qV t++l
 | _=>qV t++l
noncomputable def qY(Z:Nat->List D->List D)(t:Nat)(l:List D):List D:=match qU t with
 | .struct fs=>fs.toList.foldr (λf l=>qW Z f.type l) l
 | _=>qW Z t l
noncomputable def qZ(Z:Nat->List D->List D)(t:Nat):List D:=match qU t with
 | .struct fs=>fs.toList.foldr (λf l=>qY Z f.type l) []
 | _=>qW Z t []
noncomputable def qD(Z:Nat->List D->List D)(t:Nat):D:=match (qI t).zero with
 | some (.agg _)=>.agg (qZ Z t)
 | some v=>uT v
 | none=>.any
noncomputable def qG(t:Nat):Bool:=match qU t with
 | .struct _=>b4
 | .array _ _=>b4
 | _=>bb
noncomputable def qE(t:Nat):Nat:=match qU t with
 | .slice e=>e
 | .array _ e=>e
 | .map _ e=>e
 | _=>0
noncomputable def qX(Z:Nat->List D->List D):Operand->X
 | .tmp t=>.t t
 | .const (.agg cs)=>.c (.agg (cs.toList.map uT))
 | .const v=>.c (uT v)
 | .global g=>.c (.gH (Z g []))
 | .func f=>.c (.fn (.func f) [] [])
noncomputable def UE(Z:Nat->List D->List D)(l:Array Operand):List X:=l.toList.map (qX Z)
noncomputable def qL(t:Nat):nI:=match qU t with
 | .string=>.str
 | .bool=>.bool
 | _=>.int
noncomputable def qLs(t:Nat):List nI:=match qU t with
 | .struct fs=>fs.toList.map λf=>qL f.type
 | .array n e=>List.replicate n (qL e)
 | _=>[]
noncomputable def qI'(t:Nat):IntKind:=match qU t with
 | .int k=>k
 | _=>.i64
noncomputable def qK(t:Nat):KK:=match qU t with
 | .struct fs=>.ints (fs.toList.map λf=>qI' f.type)
 | .int k=>.int k
 | .string=>.str
 | _=>.bool
noncomputable def qM(t:Nat):KK:=match qU t with
 | .map k _=>qK k
 | _=>.bool
noncomputable def qF(t:Nat)(i:Nat):Nat×Nat:=match qU t with
 | .struct fs=>match fs[i]? with
  | some f=>(f.offset,f.type)
  | none=>(0,0)
 | _=>(0,0)
noncomputable def qQ(n:Bool)(op:BinOp)(t:Nat)(a b:X):jh:=match qU t with
 | .bool=>.eqS bb [.bool] n a b
 | .int _=>.arith op a b
 | .string=>.arith op a b
 | .slice _=>.nilS n a
 | _=>.eqS b4 (qLs t) n a b
noncomputable def qC(Z:Nat->List D->List D)(c:Call)(a:List X):jh:=match c.callee with
 | .value (.func f)=>if elem f YL then .callN f a else .call f a
 | .value f=>.callv (qX Z f) a
 | .builtin b=>match c.argTypes.toList,a with
  | [t],[x]=>match b with
   | .len=>match qU t with
    | .string=>.len .string x
    | .map _ _=>.len .map x
    | _=>.len .slice x
   | .cap=>.capE x
   | _=>.clr (qS (qE t)) (qZ Z (qE t)) x
  | [t,u],[x,y]=>match b with
   | .append=>match qU u with
    | .int _=>.appZ (qE t) (qS (qE t)) (qI (qE t)).bytes (qZ Z (qE t)) x y
    | _=>.app (qE t) (qS (qE t)) (qI (qE t)).bytes x y
   | .copy=>.copy (qS (qE t)) x y
   | .max=>.minmax b4 a
   | _=>.minmax bb a
  | _,_=>match b with
   | .max=>.minmax b4 a
   | _=>.minmax bb a
 | _=>.mv (.c .any)
noncomputable def qH:Operand->Bool
 | .global g=>decide (2<g)
 | _=>bb
noncomputable def qO(Z:Nat->List D->List D):Op->jh
 | .move x=>.mv (qX Z x)
 | .assign x=>.mv (qX Z x)
 | .pick c a b=>.pick (qX Z c) (qX Z a) (qX Z b)
 | .box e x=>.box e (qX Z x)
 | .alloc e=>.alloc e (qZ Z e)
 | .build t l=>match qU t with
  | .array _ e=>.build (qZ Z t) (l.toList.map λp=>(p.1*qS e,qS e,qX Z p.2))
  | _=>.build (qZ Z t) (l.toList.map λp=>((qF t p.1).1,qS (qF t p.1).2,qX Z p.2))
 | .buildSlice t n l=>.buildSl (qE t) (qS (qE t)) (qZ Z (qE t)) n (l.toList.map λp=>(p.1,qX Z p.2))
 | .load t a=>if qG t then .ldN (qS t) (qX Z a)else .ld1 (qX Z a)
 | .store t a v=>if qG t then .stN (qS t) (qX Z a) (qX Z v)else .st1 (qX Z a) (qX Z v)
 | .nilCheck x=>.nilck (qX Z x)
 | .binOp .eql t x y _=>qQ bb .eql t (qX Z x) (qX Z y)
 | .binOp .neq t x y _=>qQ b4 .neq t (qX Z x) (qX Z y)
 | .binOp op _ x y _=>.arith op (qX Z x) (qX Z y)
 | .unOp op _ x=>.un op (qX Z x)
 | .convert _ d x=>match qU d with
  | .int k=>.conv k (qX Z x)
  | _=>.b2s (qX Z x)
 | .makeFunc f a c=>.mkfn f (UE Z a) (UE Z c)
 | .makeMap t _=>.mkmap (qM t)
 | .lookup t x i ok=>.lookup (qM t) (qD Z (qE t)) ok (qX Z x) (qX Z i)
 | .mapUpdate t m k v=>.mapUpd (qM t) (qX Z m) (qX Z k) (qX Z v)
 | .insert t m k v=>.mapUpd (qM t) (qX Z m) (qX Z k) (qX Z v)
 | .makeSlice t l c=>.mksl (qE t) (qS (qE t)) (qI (qE t)).bytes (qZ Z (qE t)) (qX Z l) (qX Z c)
 | .slice t x lo (aE hi) (aE mx)=>.slc3 (qS (qE t)) (qX Z x) (lo.map (qX Z)) (qX Z hi) (qX Z mx)
 | .slice t x lo hi _=>match qU t with
  | .string=>.slcS (qX Z x) (lo.map (qX Z)) (hi.map (qX Z))
  | .array n e=>.slcArr (qS e) n (qX Z x) (lo.map (qX Z)) (hi.map (qX Z))
  | _=>.slc (qS (qE t)) (qX Z x) (lo.map (qX Z)) (hi.map (qX Z))
 | .fieldAddr t x f=>.fieldA (qF t f).1 (qX Z x)
 | .field t x f=>.field (qF t f).1 (qS (qF t f).2) (qG (qF t f).2) (qX Z x)
 | .indexAddr t x i=>match qU t with
  | .array n e=>if qH x then .mv (.c .any)else .idxArr (qS e) n (qX Z x) (qX Z i)
  | _=>.idxA (qS (qE t)) (qX Z x) (qX Z i)
 | .index t x i=>match qU t with
  | .array n e=>.idx (qS e) n (qG e) (qX Z x) (qX Z i)
  | _=>.idxStr (qX Z x) (qX Z i)
 | .extract x i=>.ext (qX Z x) i
 | .call c=>qC Z c (UE Z c.args)
 | .range t x=>match qU t with
  | .string=>.rangeS (qX Z x)
  | _=>.rangeM (qX Z x)
 | .next x s=>if s then .nextS (qX Z x)else .nextM (qX Z x)
 | .entry x=>.entry (qX Z x)
 | .mapEntry t m k=>.mapEnt (qM t) (qD Z (qE t)) (qX Z m) (qX Z k)
 | .entryStore _ m s x=>.entSt (qX Z m) (qX Z s) (qX Z x)
 | _=>.mv (.c .any)
noncomputable def qA(Z:Nat->List D->List D)(ops:Array Oper)(o:Oper):iz:=⟨o.dst,qO Z o.op,match o.guard with
 | some (j,w)=>aE ((match ops[j]? with
  | some q=>q.dst.getD 0
  | none=>0),w)
 | none=>bs⟩
noncomputable def qT(e:iz):Bool:=match e.op with
 | .mv (.c .any)=>b4
 | _=>bb
def qP:List Nat->List (Nat×Nat)
 | a::b::l=>(a,b)::qP l
 | _=>[]
noncomputable def qB(Z:Nat->List D->List D)(rf:Nat):List (List Nat)->Code->IR×List (List Nat)
 | hs,.skip=>(.skip,hs)
 | hs,.region _ ops d=>if (ops.toList.map (qA Z ops)).any qT then(.bad,hs)else match d with
  | false=>(.ops (ops.toList.map (qA Z ops)),hs)
  | true=>match hs with
   | (9999::n::l)::hs=>(.nT (qP l) ((ops.toList.map (qA Z ops)).take n) ((ops.toList.map (qA Z ops)).drop n),hs)
   | l::hs=>(.mO (qP l) (ops.toList.map (qA Z ops)),hs)
   | []=>(.bad,[])
 | hs,.seq a b=>match qB Z rf hs a with
  | (x,lL)=>match qB Z (rf+(oZ a).length) lL b with
   | (y,mG)=>(.seq x y,mG)
 | hs,.cond c a b=>match qB Z rf hs a with
  | (y,lL)=>match qB Z (rf+(oZ a).length) lL b with
   | (z,mG)=>(.cond (qX Z c) y z,mG)
 | l::hs,.block id a=>match qB Z rf hs a with
  | (x,lL)=>(.block id l x,lL)
 | l::hs,.loop a=>match qB Z rf hs a with
  | (x,lL)=>(.loop l x,lL)
 | l::hs,.rangeFunc g _ _ _=>(.po rf l (qX Z g),hs)
 | hs,.exit id=>(.exit id,hs)
 | hs,.ret=>(.ret,hs)
 | hs,_=>(.bad,hs)
noncomputable def qR:ResultVar->wU
 | .tmp t=>.tmp t
 | .cell a t=>if qG t then .Q6 (qS t) a else .uT a
noncomputable def qN(Z:Nat->List D->List D)(f:Func)(n:Nat)(hs:List (List Nat))(full:Bool)(own:Nat)(fz:Bool):jK:=
 .mk f.ntmps (qB Z (64*n) hs (Ho f)).1 (f.results.toList.map qR) full own fz
noncomputable def qN2(Z:Nat->List D->List D)(f:Func)(i:Nat)(d c:List (List Nat)):sC:=match (oZ (Ho f))[i]? with
 | some (ps,a,b)=>.mk ps.toList (qB Z 0 d a).1 (qB Z 0 c b).1
 | none=>.mk [] .bad .bad
@[reducible] noncomputable def pf(f:Func)(n:Nat)(hs:List (List Nat):=[])(full:Bool:=bb)(own:Nat:=0)(fz:Bool:=bb){x:(Nat->List D->List D)->jK}(_:∀Z,qN Z f n hs full own fz=x Z:=by intro Z;conv=>lhs;cbv):jK:=x uZ
@[reducible] noncomputable def pr(f:Func)(i:Nat)(b a:List (List Nat)){x:(Nat->List D->List D)->sC}(_:∀Z,qN2 Z f i b a=x Z:=by intro Z;conv=>lhs;cbv):sC:=x uZ
@[simp ↓] theorem aza{f:Func}{n:Nat}{hs:List (List Nat)}{full:Bool}{own:Nat}{fz:Bool}{x:(Nat->List D->List D)->jK}(h:∀Z,qN Z f n hs full own fz=x Z):pf f n hs full own fz h=x uZ:=rfl
@[simp ↓] theorem azd{f:Func}{i:Nat}{b a:List (List Nat)}{x:(Nat->List D->List D)->sC}(h:∀Z,qN2 Z f i b a=x Z):pr f i b a h=x uZ:=rfl
set_option maxRecDepth 100000
set_option maxHeartbeats 4000000
noncomputable section
def GC:=pf f4 4 [[9,14],[5,7,5,9,19,21,19,23]]
def Vo:=pf f8 8 [[5,6,7,8,9,10,11],[5,6,7,8,9,10,11,12],[5,6,7,8,9,10,11,12],[1,14,3,14,6,14,8,14,10,14,13,14,1,15,3,15,6,15,8,15,10,15,13,15,14,15],[],[]]
def Lg:=pf f13 13 [] bb 0 b4
def Ko:=pf f18 18 [[3],[0,3,4],[0,3,4]] bb 0 b4
def Kq:=pf f20 20 [[9999,1,2,3,9,11,12],[9999,1,2,3,9,11,12,40,41],[9999,1,2,3,9,11,12,40,41],[9999,6,7,8],[9999,1,2,3,9,11,12],[9999,1,2,3,9,11,12],[9999,1,2,3,9,11,12],[11,12],[9999,1,2,3,9,11,12],[9999,1,2,3,9,11,12,76,77,78],[9999,1,2,3,9,11,12,76,77,78],[4,9],[],[9999,1,3,11,20],[9999,1,3,11,20,108,109,110],[9999,1,3,11,20,108,109,110],[9999,1,3,11,20,108,109,110],[9999,1,3,11,20,21,108,109,110,116],[9999,1,3,11,20,21,108,109,110,116],[],[]] bb 0 b4
def Vp:=pf f24 24 [[7,10,7,14,3,15,6,15,7,15],[0,6,6,8,7,8,8,14,0,16,3,16,5,16,6,16,7,16,8,16,11,16,13,16,14,16,15,16,0,17,3,17,5,17,6,17,7,17,8,17,11,17,13,17,14,17,15,17,16,17],[0,3,0,6,0,7,3,7,0,8,0,9,3,9,6,9,7,9,8,9,0,10,3,10,6,10,7,10,8,10,9,10],[9,13,19,24]]
def LN:=pf f25 25 [] bb 0 b4
def Kr:=pf f26 26 [] bb 1 b4
def Kt:=pf f27 27 [[5],[0,1,5,6],[0,1,5,6],[4,15,12,15]] bb 0 b4
def Ku:=pf f28 28 [] bb 0 b4
def Ab:=pf f29 29
def Ac:=pf f30 30 [] bb 0 b4
def Kw:=pf f31 31 [[1,2,3,6,7,9],[1,2,3,6,7,9,10],[1,2,3,6,7,9,10],[1,2,3,6,7,9,11],[1,2,3,6,7,9,11,12,13],[1,2,3,6,7,9,11,12,13],[],[1,2,3,6,7,11],[1,2,3,6,7,9,11,15],[1,2,3,6,7,9,11,15],[1,2,3,6,7,9,11,15],[1,2,3,6,7,9,11,15,16],[1,2,3,6,7,9,11,15,16],[]] bb 0 b4
def Ad:=pf f32 32
def D4:=pf f33 33 [] bb 0 b4
def GD:=pf f34 34 [[6],[1,2,3,6,7],[1,2,3,6,7],[1,2,3,6,7,8,9],[1,2,3,6,7,8,9,10],[1,2,3,6,7,8,9,10],[1,2,3,6,7],[1,2,3,6,7,9,11,12],[1,2,3,6,7,9,11,12],[1,3,6,8,11,13],[1,2,3,6,7,8,11,13,14],[1,2,3,6,7,8,11,13,14],[1,3,6,13,15],[1,3,6,8,13,15,16],[1,3,6,8,13,15,16]] bb 0 b4
def Kx:=pf f35 35 [[0,1,5],[0,1,5,12,13],[0,1,5,12,13],[]]
def Ky:=pf f36 36 [[0,1],[0,1,5],[0,1,5],[]]
def Ae:=pf f37 37
def Af:=pf f38 38 [[0,6,4,6,5,6],[],[2,3,8,9,12,13,14,15],[2,3,8,9,12,13,14,15,16],[2,3,8,9,12,13,14,15,16]]
def GV:=pf f39 39 [[6],[1,2,6,7],[1,2,6,7],[],[],[1,2,6,7,9],[1,2,6,7,8,9,10],[1,2,6,7,8,9,10]] bb 0 b4
def ME:=pf f40 40 [[],[0,1,5],[0,1,5]]
def Ag:=pf f41 41 [[2,3],[0,2,3,4],[0,2,3,4]]
def MU:=pf f42 42 [[],[2,3,8,30,31,32],[2,3,8,30,31,32],[]]
def KA:=pf f44 44 [[10],[0,1,3,9,10,11],[0,1,3,9,10,11],[3,13,7,13,9,13,12,13]] bb 1 b4
def xT:=pf f48 48 [[]]
def Ah:=pf f49 49 [[2,3],[2,3,6,7,8],[2,3,6,7,8]]
def GR:=pf f50 50 [[1,2,3,4,5],[1,2,3,4,5,6],[1,2,3,4,5,6],[],[6,7]] bb 0 b4
def GU:=pf f51 51 [[6,7],[2,3,6,7,8],[2,3,6,7,8],[2,3,6,7,9],[2,3,6,7,8,9,10],[2,3,6,7,8,9,10],[],[2,3,6,7,8],[2,3,6,7,8,9,11],[2,3,6,7,8,9,11]] bb 0 b4
def GX:=pf f56 56 [[1,2,7],[1,2,7,37,38,39],[1,2,7,37,38,39],[10],[2,7,10,52,53,54],[2,7,10,52,53,54],[2,7,10,52,53,54],[2,7,10,11,52,53,54,61,62,63],[2,7,10,11,52,53,54,61,62,63]] bb 0 b4
def M0:=pf f58 58
def KD:=pf f60 60
def Ai:=pf f63 63 [] b4 2
def KE:=pf f64 64 [[9999,0,2],[9999,0,2,27,28],[9999,0,2,27,28],[9999,0,2,7],[9999,0,2,7,44,45,46],[9999,0,2,7,44,45,46]] b4 4
def KF:=pf f65 65 [] b4 4
def Vq:=pf f66 66 [[]] b4 1
def L4:=pf f67 67 [] b4
def D5:=pf f68 68
def KG:=pf f69 69
def Vr:=pf f70 70 [] bb 0 b4
def MV:=pf f71 71 [[1,7],[1,2,7,8],[1,2,7,8],[1,2,8,9],[1,2,7,8,9,10],[1,2,7,8,9,10],[11],[1,7,11,12],[1,7,11,12]] bb 0 b4
def MW:=pf f72 72 [[1,2,3,4,9],[1,2,3,4,9,10],[1,2,3,4,9,10],[9],[1,3,9,11,12,13],[1,3,9,11,12,13],[]] bb 0 b4
def xU:=pf f73 73 [[9,13]] bb 1 b4
def D6:=pf f74 74
def KJ:=pf f75 75 [] bb 0 b4
def KL:=pf f76 76 [[4,5],[0,1,4,5,6],[0,1,4,5,6],[4,14,10,14,13,14]]
def vN:=pf f77 77
def KM:=pf f78 78 [[0,10,4,10,5,10,8,10],[2,3,4,12,13,14,15],[2,3,4,12,13,14,15,16],[2,3,4,12,13,14,15,16],[18],[3,4,12,18,19],[3,4,12,18,19],[]] bb 0 b4
def D7:=pf f79 79 [[],[0,1,5],[0,1,5],[]]
def KN:=pf f80 80 [[6],[1,2,6,7,9,10],[1,2,6,7,9,10],[]]
def Aj:=pf f81 81 [[],[2,3,14],[2,3,14,66,67,68],[2,3,14,66,67,68],[]]
def KZ:=pf f82 82
def M6:=pf f83 83 [[],[0,3],[0,3],[]]
def M7:=pf f84 84 [[],[],[2,3,5],[2,3,5],[]]
def GZ:=pf f85 85 [[2,3,5,6,7],[2,3,5,6,7,8],[2,3,5,6,7,8],[2,3,6,7],[2,3,5,6,7,9],[2,3,5,6,7,9]] bb 0 b4
def MP:=pf f86 86 [[],[0,3,5,6],[0,3,5,6],[]]
def KP:=pf f87 87 [] bb 0 b4
def Ak:=pf f88 88 [[]]
def M1:=pf f89 89 [[1,4,5,6],[0,1,4,5,6,9,10,11],[0,1,4,5,6,9,10,11],[0,1,4,5,6,9,10,11],[4]]
def D8:=pf f91 91 [[5],[0,5,6,7],[0,5,6,7]] bb 0 b4
end
noncomputable section
def Am:=pf f92 92 [[6,7],[2,3,4,6,7,8],[2,3,4,6,7,8]] bb 0 b4
def Km:=pf f93 93 [[3],[3,20,21,22],[3,20,21,22]]
def GQ:=pf f94 94 [[2,3,7,8],[7,8],[]] bb 0 b4
def Ek:=pf f95 95 [] bb 0 b4
def KR:=pf f96 96 [[3],[1,3,4],[1,3,4]] bb 0 b4
def An:=pf f97 97 [[0,2],[]]
def GY:=pf f98 98 [[1,18,3,18,5,18,6,18,9,18,14,18],[1,2,3,4],[1,2,3,4,5],[1,2,3,4,5],[0,6,0,12,3,12,6,12],[1,2,3,4,5,6],[1,2,3,4,5,6,7],[1,2,3,4,5,6,7],[1,17],[2,3],[1,2,3,4,8],[1,2,3,4,8],[1,20,5,20,10,20,14,20],[]] bb 0 b4
def M3:=pf f99 99 [[7],[2,3,4,7,8],[2,3,4,7,8]] bb 0 b4
def M4:=pf f100 100 [[3,5,3,8,3,12,2,16,3,16,5,16,8,16,12,16],[2,3,4,5],[2,3,4,5,6],[2,3,4,5,6],[],[],[4,5],[2,3,4,5,8],[2,3,4,5,8],[2,3,4,5,8],[2,3,4,5,8,9],[2,3,4,5,8,9],[]] bb 0 b4
def M5:=pf f101 101 [[4],[3,4,5],[3,4,5],[]] bb 0 b4
def Nn:=pf f108 108
def No:=pf f109 109 [[]]
def Np:=pf f110 110 [[1],[1,51,52,53],[1,51,52,53]]
def Nq:=pf f111 111
def Kl:=pf f112 112 [[],[0,6,7],[0,6,7],[]]
def Ej:=pf f113 113 [[],[2,3,9,10,11],[2,3,9,10,11],[]]
def KV:=pf f116 116 [[9999,0,3],[9999,0,3,23,24],[9999,0,3,23,24],[9999,3],[9999,0,3,38,39,40],[9999,0,3,38,39,40],[],[9999,0,3,38,39,40],[9999,0,3,5,6,38,39,40,63,64,65],[9999,0,3,5,6,38,39,40,63,64,65],[]] b4 4
def KW:=pf f117 117 [] b4
def KX:=pf f118 118 [] b4
def KY:=pf f119 119 [[9999,7],[9999,2,7,17],[9999,2,7,17]] b4
def K1:=pf f120 120
def vO:=pf f121 121
def K2:=pf f122 122 [[9999,5],[9999,5,14],[9999,5,14]] b4
def K3:=pf f123 123 [[],[],[],[9999,2,3,5,8,9],[9999,2,3,5,8,9,53,54,55],[9999,2,3,5,8,9,53,54,55],[9999,2,3,5,8,9,53,54,55],[9999,2,3,5,8,9,10,11,53,54,55,71],[9999,2,3,5,8,9,10,11,53,54,55,71]] b4
def K4:=pf f124 124 [[9999],[9999,0,1,3],[9999,0,1,3]] b4 4
def Ml:=pf f125 125 [[],[0,1,2,3,8,9],[0,1,2,3,8,9],[]] b4
def Vy:=pf f126 126
def xV:=pf f127 127 [[]]
def BY:=pf f128 128 [[5],[1,2,5,6],[1,2,5,6],[0,6,4,6,5,6]] bb 0 b4
def M8:=pf f129 129 [[1,2,6,7,8],[0,1,2,6,7,8,9],[0,1,2,6,7,8,9]]
def M9:=pf f130 130 [[9],[1,2,3,4,9,10],[1,2,3,4,9,10],[1,2,3,4,9,10],[1,2,3,4,9,10,11],[1,2,3,4,9,10,11],[0,6,4,6,5,6],[1,2,3,4,9,10,11,12,13,14],[1,2,3,4,9,10,11,12,13,14,15],[1,2,3,4,9,10,11,12,13,14,15],[]] bb 0 b4
def Na:=pf f131 131
def K5:=pf f132 132 [[],[0,1,5],[0,1,5],[]]
def K6:=pf f133 133 [[7],[0,1,5,7,8],[0,1,5,7,8],[]] bb 0 b4
def K7:=pf f134 134 [[1,4,5,6,7,8],[0,1,4,5,6,7,8,9],[0,1,4,5,6,7,8,9]]
def D9:=pf f135 135 [[0,2,3,4],[0,2,3,4,9,10,11],[0,2,3,4,9,10,11],[0,2,3,4,9,10,11],[2]]
def KB:=pf f136 136 [[],[2,3,5],[2,3,5],[]]
def MY:=pf f137 137 [[],[],[5,6],[5,6]]
def KU:=pf f138 138 [[],[1,2,5],[1,2,5]]
def KH:=pf f139 139 [[5],[2,3,5,6],[2,3,5,6],[2,3,5,6],[2,3,5,6,7,8],[2,3,5,6,7,8]] bb 0 b4
def GG:=pf f140 140 [[5],[2,3,5,6],[2,3,5,6],[2,3,5,6],[2,3,5,6,7],[2,3,5,6,7],[]] bb 0 b4
def D':=pf f141 141 [[2,4],[2,3,4,5],[2,3,4,5],[],[2,6],[2,4,6,7],[2,4,6,7]]
def K8:=pf f142 142
def Vs:=pf f143 143 [[3],[0,3],[0,3]]
def K9:=pf f144 144
def Kp:=pf f145 145 [[3],[0,3,4],[0,3,4]]
def Kv:=pf f146 146 [[3],[0,3,4],[0,3,4]]
def LX:=pf f147 147 [[0,3],[0,3,9,10,11],[0,3,9,10,11],[6],[6,25,26,27],[6,25,26,27]] bb 1
def MX:=pf f148 148 [] bb 0 b4
def Aq:=pf f149 149 [[5],[3,5,15,16,17],[3,5,15,16,17],[3,5,15,16,17],[3,5,6,7,15,16,17,23,24,25],[3,5,6,7,15,16,17,23,24,25],[]] bb 0 b4
def Em:=pf f150 150 [] bb 1 b4
def VT:=pf f151 151 [] b4
def Nf:=pf f152 152 [[]]
def En:=pf f153 153 [[0],[0,1,5],[0,1,5],[],[0,5],[0,1,5,6,7],[0,1,5,6,7],[]] b4
def Ng:=pf f154 154
def Ao:=pf f155 155 [[0,2,3],[0,2,3],[0,2,3],[2,3],[0,2,3,4],[0,2,3,4],[2,5],[5],[2,7],[2,5,7,42],[2,5,7,42]]
def La:=pf f156 156
def Vt:=pf f157 157
def Lb:=pf f158 158 [[0,1,0,2]]
def Kz:=pf f159 159 [[]] bb 0 b4
def GF:=pf f160 160 [] bb 0 b4
def KQ:=pf f161 161 [[5],[3,4,5,6,7],[3,4,5,6,7],[]] bb 0 b4
def KT:=pf f162 162
def Nc:=pf f163 163
def LD:=pf f168 168
def LF:=pf f169 169
def Ee:=pf f170 170
def LG:=pf f171 171 [[],[2,14,15,16],[2,14,15,16]]
def LI:=pf f172 172 [[],[1,3,4,29,30,31],[1,3,4,29,30,31],[]]
def LK:=pf f173 173
def LL:=pf f174 174
def LO:=pf f175 175
def Vz:=pf f176 176
def LP:=pf f177 177
def LQ:=pf f178 178
def LR:=pf f179 179
def LU:=pf f180 180
end
noncomputable section
def LV:=pf f181 181 [[3]]
def LW:=pf f182 182 [[],[0,1,7,8],[0,1,7,8]]
def Ld:=pf f185 185 [[],[0,1,7,8],[0,1,7,8]] b4
def Le:=pf f186 186 [] b4
def Lf:=pf f187 187
def Ea:=pf f188 188
def Mz:=pf f189 189 [[],[0,1,2,6],[0,1,2,6],[0,1,2,6],[0,1,2,6,7],[],[0,1,2,6,7],[]] b4
def VF:=pf f199 199
def LZ:=pf f200 200 [[2,3],[],[]]
def Nj:=pf f201 201 [[0,1],[0,1,5],[0,1,5],[],[]]
def Nk:=pf f202 202
def MZ:=pf f203 203
def GM:=pf f204 204 [[],[0,2,0,4,0,8],[11],[5,11,12,13],[5,11,12,13],[]] bb 0 b4
def Ap:=pf f205 205 [[0,3,0,5,3,5,4,5,0,8,4,8,5,8]] bb 0 b4
def L3:=pf f206 206
def Eb:=pf f207 207 [[0,3],[0,3],[0,3],[3],[3,4,5],[3,4,5]] bb 0 b4
def Vu:=pf f208 208
def Lh:=pf f209 209 [[2,4,7],[2,4,5,6,7,8],[2,4,5,6,7,8],[],[],[4,7],[2,4,7,11],[2,4,7,11],[]]
def Li:=pf f210 210 [] bb 0 b4
def Lj:=pf f211 211 [] bb 0 b4
def Mh:=pf f212 212 [] bb 1
def Nb:=pf f213 213 [[],[0,1,2,14,15,16],[0,1,2,14,15,16],[0,1,2,14,15,16],[0,1,2,4,14,15,16,40,41],[0,1,2,4,14,15,16,40,41],[0,1,2,4,14,15,16,40,41],[0,1,2,4,14,15,16,40,41,52,53,54],[0,1,2,4,14,15,16,40,41,52,53,54]] b4
def Nd:=pf f214 214 [] bb 0 b4
def Nh:=pf f215 215 [[4,8]] bb 2
def Ni:=pf f216 216
def Vx:=pf f217 217 [[],[0,1,2,3,4,10,11],[0,1,2,3,4,10,11],[]] b4
def Lv:=pf f218 218 [[3],[3,6,7,8],[3,6,7,8]]
def Ly:=pf f219 219 [[0,1],[0,1,9,10,11],[0,1,9,10,11]]
def Lz:=pf f220 220
def Ec:=pf f221 221 [] bb 0 b4
def Lk:=pf f222 222 [] bb 0 b4
def Ll:=pf f223 223 [[1,3,2,3,1,4,2,4,3,4,2,5],[2,4,6],[2,4,5,6,14],[2,4,5,6,14],[],[],[],[4,6],[2,4,6,78],[2,4,6,78],[]]
def Ln:=pf f224 224 [[0,3],[0,3,9,10,11],[0,3,9,10,11],[6],[6,25,26,27],[6,25,26,27]] bb 1 b4
def VA:=pf f225 225 [[4,8],[0,1,4,6,7,8,9],[0,1,4,6,7,8,9],[0,1,4,6,7,8,9,10],[0,1,4,6,7,8,9,10,11],[0,1,4,6,7,8,9,10,11],[],[]] bb 0 b4
def GK:=pf f226 226 [[1,2,2,4,1,5,1,7,2,7,4,7,5,7],[4,6],[1,2,4,6,7],[1,2,4,6,7],[1,2,4,6,7,8],[1,2,4,6,7,8,9],[1,2,4,6,7,8,9]] bb 0 b4
def LY:=pf f227 227 [[9],[0,1,2,3,9,10],[0,1,2,3,9,10],[0,1,2,3,9,10,11]] bb 0 b4
def GL:=pf f228 228 [] bb 0 b4
def Eg:=pf f230 230 [[],[0,1,7,8],[0,1,7,8]]
def L8:=pf f231 231
def L9:=pf f232 232
def Ma:=pf f233 233 [[]]
def VG:=pf f234 234
def Mb:=pf f235 235
def Mc:=pf f236 236 [[5],[1,5,8,9,10],[1,5,8,9,10]]
def VH:=pf f237 237
def VI:=pf f238 238
def Md:=pf f239 239 [[],[0,1,7,8],[0,1,7,8]]
def Me:=pf f240 240
def Mf:=pf f241 241 [[],[0,1,7,8],[0,1,7,8]]
def Mg:=pf f242 242 [[],[0,1,7,8],[0,1,7,8]]
def L7:=pf f251 251
def Mj:=pf f252 252 [[7],[1,2,3,7,8],[1,2,3,7,8]]
def Nl:=pf f253 253
def GN:=pf f254 254 [[1,3,0,6,1,6,3,6],[1,4,2,4,0,5,1,5,2,5,0,6,1,6,2,6,4,6,5,6,4,7,5,7],[8,11],[4,8,11,12,13,14],[4,8,11,12,13,14],[4,8,11,13,14,15],[4,8,11,12,13,14,15,16],[4,8,11,12,13,14,15,16],[9999,11]] bb 0 b4
def Mk:=pf f255 255 [[3,5,6],[0,3,5,6,7],[0,3,5,6,7],[],[]] bb 0 b4
def Lo:=pf f256 256 [[2,3],[0,2,3,4],[0,2,3,4],[0,2,3,4],[0,2,3,4,5],[0,2,3,4,5],[],[2,3],[2,3,6],[2,3,6],[]]
def Vw:=pf f257 257
def Lp:=pf f258 258 [[]]
def GJ:=pf f259 259 [[4,14],[4,5,14,87,88,89],[4,5,14,87,88,89],[4,5,17,87,88,89],[4,5,16,17,18,87,88,89,94,95,96],[4,5,16,17,18,87,88,89,94,95,96],[4,5,16,17,18,87,88,89,94,95,96],[4,5,16,17,18,87,88,89,94,95,96,107,108,109],[4,5,16,17,18,87,88,89,94,95,96,107,108,109],[],[4,129,130,131],[4,129,130,131]] b4
def ue:=pf f260 260 [[]] b4
def Vv:=pf f261 261 [] b4
def xW:=pf f262 262 [[]]
def Ed:=pf f263 263 [[0],[0,1,5],[0,1,5],[],[0,5],[0,1,5,6,7],[0,1,5,6,7],[]] b4
def Lq:=pf f264 264
def LC:=pf f265 265 [] bb 1
def VE:=pf f266 266 [[],[0,1,2,3,8],[0,1,2,3,8],[0,1,2,3,8],[0,1,2,3,8,9],[],[0,1,2,3,8,9],[]] b4
end
noncomputable section
def Lr:=pf f274 274 [[],[0,1,2,4],[0,1,2,4],[]] b4
def Ls:=pf f275 275 [[2,3],[0,2,3,10],[0,2,3,10],[],[2,3],[2,3,5],[2,3,5],[],[]]
def Lt:=pf f276 276
def Lu:=pf f277 277 [] bb 1 b4
def Mi:=pf f278 278
def VM:=pf f279 279
def Mv:=pf f280 280 [[],[0,1,7,8],[0,1,7,8]]
def VN:=pf f281 281 [[],[1,2,10],[1,2,10]]
def Mw:=pf f283 283 [[0],[0,1,5],[0,1,5],[0,1,5,6],[0,1,5,6,7],[0,1,5,6,7],[]] b4
def Mx:=pf f284 284 [[4],[],[]] bb 0 b4
def My:=pf f285 285
def L5:=pf f286 286 [[]] bb 0 b4
def L6:=pf f287 287 [[]]
def VC:=pf f288 288 [[],[0,1,2,3,4,10,11],[0,1,2,3,4,10,11],[]] b4
def Lw:=pf f292 292
def Lx:=pf f293 293
def MF:=pf f294 294
def MG:=pf f295 295
def MH:=pf f296 296 [] bb 0 b4
def MI:=pf f297 297 [[7],[4,7,8,9],[4,7,8,9],[]] bb 0 b4
def MJ:=pf f298 298 [[],[]] bb 0 b4
def MK:=pf f299 299 [[6,17,8,17]] bb 0 b4
def Mm:=pf f300 300 [] bb 0 b4
def Mn:=pf f301 301 [[7],[3,7,19,20,21],[3,7,19,20,21]] bb 0 b4
def Mo:=pf f302 302 [[]] bb 0 b4
def Mp:=pf f303 303 [] bb 0 b4
def Mq:=pf f304 304 [] bb 0 b4
def GO:=pf f305 305 [[]] bb 0 b4
def Mr:=pf f306 306 [[6,17,8,17]] bb 0 b4
def Ms:=pf f307 307 [] bb 0 b4
def Mt:=pf f308 308 [[]] bb 0 b4
def Mu:=pf f309 309 [[]] bb 0 b4
def VJ:=pf f310 310
def VK:=pf f311 311
def VL:=pf f312 312 [[],[0,1,2,3,8],[0,1,2,3,8],[0,1,2,3,8],[0,1,2,3,8,9],[],[0,1,2,3,8,9],[]] b4
def MN:=pf f321 321 [[9],[1,2,3,4,9,10],[1,2,3,4,9,10]] bb 0 b4
def MA:=pf f322 322
def MB:=pf f323 323 [] bb 0 b4
def MC:=pf f324 324 [[9],[7,9]] bb 0 b4
def MD:=pf f325 325
def VO:=pf f326 326
def VP:=pf f327 327
def ML:=pf f331 331 [] bb 0 b4
def Eh:=pf f332 332
def VQ:=pf f333 333
def MO:=pf f335 335 [[],[0,1,2,3,6],[0,1,2,3,6]] b4
def Ei:=pf f336 336 [[],[0,1,7,8],[0,1,7,8]]
def VR:=pf f337 337
def MQ:=pf f364 364 [[]]
def MR:=pf f365 365 [[7],[2,7,15,16,17],[2,7,15,16,17]] bb 0 b4
def MS:=pf f366 366 [[]]
def MT:=pf f367 367 [[5,7],[5,7,14,15,16],[5,7,14,15,16]]
def VY:=pr f19 0 [] [[]]
def Er:=pr f20 0 [] [[9999],[0,5]]
def VX:=pr f54 0 [] [[],[],[3,11],[3,10,11,46,47,48],[3,10,11,46,47,48],[],[3,75],[3,75],[]]
def sA:=pr f94 0 [] [[]]
def Es:=pr f155 0 [] [[]]
def VW:=pr f229 0 [] [[]]
def x4:=pr f324 0 [] [[]]
end
end Go.Proofs.YtmehofoficaelaaGreatDoor
namespace Go.Proofs.YtmehofoficaelaaGreatDoor
open Go Go.AL
noncomputable def fns:List (Option jK):=[bs,bs,bs,bs,aE GC,bs,bs,bs,aE Vo,bs,bs,bs,bs,aE Lg,bs,bs,bs,bs,aE Ko,bs,aE Kq,bs,bs,bs,aE Vp,aE LN,aE Kr,aE Kt,aE Ku,aE Ab,aE Ac,aE Kw,aE Ad,aE D4,aE GD,aE Kx,aE Ky,aE Ae,aE Af,aE GV,aE ME,aE Ag,aE MU,bs,aE KA,bs,bs,bs,aE xT,aE Ah,aE GR,aE GU,bs,bs,bs,bs,aE GX,bs,aE M0,bs,aE KD,bs,bs,aE Ai,aE KE,aE KF,aE Vq,aE L4,aE D5,aE KG,aE Vr,aE MV,aE MW,aE xU,aE D6,aE KJ,aE KL,aE vN,aE KM,aE D7,aE KN,aE Aj,aE KZ,aE M6,aE M7,aE GZ,aE MP,aE KP,aE Ak,aE M1,bs,aE D8,aE Am,aE Km,aE GQ,aE Ek,aE KR,aE An,aE GY,aE M3,aE M4,aE M5,bs,bs,bs,bs,bs,bs,aE Nn,aE No,aE Np,aE Nq,aE Kl,aE Ej,bs,bs,aE KV,aE KW,aE KX,aE KY,aE K1,aE vO,aE K2,aE K3,aE K4,aE Ml,aE Vy,aE xV,aE BY,aE M8,aE M9,aE Na,aE K5,aE K6,aE K7,aE D9,aE KB,aE MY,aE KU,aE KH,aE GG,aE D',aE K8,aE Vs,aE K9,aE Kp,aE Kv,aE LX,aE MX,aE Aq,aE Em,aE VT,aE Nf,aE En,aE Ng,aE Ao,aE La,aE Vt,aE Lb,aE Kz,aE GF,aE KQ,aE KT,aE Nc,bs,bs,bs,bs,aE LD,aE LF,aE Ee,aE LG,aE LI,aE LK,aE LL,aE LO,aE Vz,aE LP,aE LQ,aE LR,aE LU,aE LV,aE LW,bs,bs,aE Ld,aE Le,aE Lf,aE Ea,aE Mz,bs,bs,bs,bs,bs,bs,bs,bs,bs,aE VF,aE LZ,aE Nj,aE Nk,aE MZ,aE GM,aE Ap,aE L3,aE Eb,aE Vu,aE Lh,aE Li,aE Lj,aE Mh,aE Nb,aE Nd,aE Nh,aE Ni,aE Vx,aE Lv,aE Ly,aE Lz,aE Ec,aE Lk,aE Ll,aE Ln,aE VA,aE GK,aE LY,aE GL,bs,aE Eg,aE L8,aE L9,aE Ma,aE VG,aE Mb,aE Mc,aE VH,aE VI,aE Md,aE Me,aE Mf,aE Mg,bs,bs,bs,bs,bs,bs,bs,bs,aE L7,aE Mj,aE Nl,aE GN,aE Mk,aE Lo,aE Vw,aE Lp,aE GJ,aE ue,aE Vv,aE xW,aE Ed,aE Lq,aE LC,aE VE,bs,bs,bs,bs,bs,bs,bs,aE Lr,aE Ls,aE Lt,aE Lu,aE Mi,aE VM,aE Mv,aE VN,bs,aE Mw,aE Mx,aE My,aE L5,aE L6,aE VC,bs,bs,bs,aE Lw,aE Lx,aE MF,aE MG,aE MH,aE MI,aE MJ,aE MK,aE Mm,aE Mn,aE Mo,aE Mp,aE Mq,aE GO,aE Mr,aE Ms,aE Mt,aE Mu,aE VJ,aE VK,aE VL,bs,bs,bs,bs,bs,bs,bs,bs,aE MN,aE MA,aE MB,aE MC,aE MD,aE VO,aE VP,bs,bs,bs,aE ML,aE Eh,aE VQ,bs,aE MO,aE Ei,aE VR,bs,bs,bs,bs,bs,bs,bs,bs,bs,bs,bs,bs,bs,bs,bs,bs,bs,bs,bs,bs,bs,bs,bs,bs,bs,bs,aE MQ,aE MR,aE MS,aE MT,bs,bs,bs,bs,bs,bs,bs,bs,bs]
noncomputable def rounds:List (Nat×sC):=[(1216,VY),(1280,Er),(3456,VX),(6016,sA),(9920,Es),(14656,VW),(20736,x4)]
noncomputable def T:iL:={ fn:=nth fns,round:=assoc rounds,sort:=λf=>if f=151 then aE 5 else if f=261 then aE 6 else bs,uM:=λf=>Nat.beq f 67,uq:=λf=>Nat.beq f 66 }
def gl(P:Program):GT:={ g:=R2,rt:=BO P,nw:=λf=>elem f YL }

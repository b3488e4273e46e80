/- 6 -/
import Derived.Test.YtmehofoficaelaaGreatDoorP05
import Derived.Shelf.SlSortCmp.NoneTotal
set_option linter.all false
open Option renaming some→aE,none→er
open Go renaming World→bf,Program→cc,Value→cp,Code→dx,FuncId→eB,Act→fa,Tmp→fx,ResultVar→gb,TypeId→hY,Exit→jA,setRow_heap→j',getObj→kb,setObj→kl,Calls→lp,fenced_calm→lu
open Go.Value renaming int→di,func→eK,agg→iN
open Go.World renaming setRow→eh,frozen?→iK,cell?→jI
open Nat renaming le_refl→ej,div_lt_of_lt_mul→jX,mod_lt→ml
open List renaming length_map→ek,getElem?_eq_getElem→hU,range→ku,Perm→lK,length→List.l
open Go.Instr renaming getLoop→ep,loadAt→ga,enterLoop→kx,endRound→kD,endLoop→lb
open Go.Result renaming andThen_ok→ez
open Go.Sem renaming run_bind→eL,run→fb
open Bool renaming true→fp,false→hI,and_eq_true→la
namespace Go.AL
open Go
abbrev room(k:Nat):gQ:=List.replicate k .na
section
variable{f:iM}{H:gQ}{r:Nat}
theorem Qu(v:Nat)(o:Ob)(a:o≠.na):(H++room r)[v]? = aE o↔H[v]? = aE o:=kM
theorem Xb(v:Nat):rowsOf (H++room r) v=rowsOf H v:=by
 unfold rowsOf
 cases h:H[v]? with
 | none=>
  cases a:(H++room r)[v]? with
  | none=>rfl
  | some o=>
   cases o<;>first|rfl|skip
   rw[Qu v _ gP]at a;rw[h]at a;cases a
 | some o=>
  have:(H++room r)[v]? = aE o:=kM;rw[this]
theorem Cz(v g:Nat):rowAt (H++room r) v g=rowAt H v g:=by rw[CA,CA,Xb]
theorem Wp(v:Nat):mU (H++room r) v=mU H v:=by
 unfold mU
 cases h:H[v]? with
 | none=>
  cases a:(H++room r)[v]? with
  | none=>rfl
  | some o=>
   cases o<;>first|rfl|skip
   rw[Qu v _ gP]at a;rw[h]at a;cases a
 | some o=>
  have:(H++room r)[v]? = aE o:=kM;rw[this]
theorem Xu(sz:Nat)(d:D):lX sz (H++room r) d=lX sz H d:=by
 cases d<;>first|rfl|skip
 simp only[lX,Cz]
theorem afS(n:Nat)(op:jG):iL f (H++room r) n op=iL f H n op:=by
 cases op<;>simp only[iL]<;>first|rfl|skip
 case ld1=>simp only[zm,Cz]
 case ldN=>simp only[yg,Cz]
 case st1=>simp only[E8,Cz]
 case stN=>simp only[Fa,Cz]
 case lookup=>simp only[Es,Wp]
 case mapUpd=>simp only[Co,Wp]
 case len=>simp only[od,Wp]
 case b2s=>simp only[FO,Xu]
 case app=>simp only[tC,Xu,Cz]
 case copy=>simp only[Bs,Xu,Cz]
 case slcArr=>simp only[CH,Cz]
theorem LK(k:Nat)(d:D):jq (H++room r) k d=jq H k d/\ib (λ_=>er) (H++room r) k d=ib (λ_=>er) H k d:=
 LI (H1:=H) (H2:=H++room r) k d λv _=>(Xb v).symm
theorem Qr(op:jG):iO f (H++room r) op=iO f H op:=by
 have key:∀args:List D,args.map (jq (H++room r) 40)=args.map (jq H 40):=λargs=>au λd _=>(LK 40 d).1;cases op<;>first|rfl|skip
 case call g args=>simp only[iO,key]
 case callN g args=>simp only[iO,key]
 case callv g args=>simp only[iO,key]
 case len k x=>cases k<;>rfl
theorem aev{v g:Nat}{x:hY×List D}(h:rowAt H v g=aE x):v<H.l:=(ae.1 (LR h)).1
theorem al6{v:Nat}{x:KK×List (cp×D)}(h:mU H v=aE x):v<H.l:=(ae.1 (wG h)).1
def Safe(H:gQ):Dl->Prop
 | .no=>True
 | .cells v o xs=>∃t g cs,H[v]? = aE (.row t g cs)/\o+xs.l<=cs.l
 | .obj v _=>v<H.l
 | .new _=>True
theorem afT{op:jG}{n:Nat}{d:D}{δ:Dl}(h:iL f H n op=aE (d,δ)):Safe H δ:=by
 have hl:∀ {o:Option D},lift o=aE (d,δ)->Safe H δ:=λh=>by rw[(nT h).2];trivial
 cases op<;>simp only[iL]at h<;>first|exact hl h|(cases h;done)|skip
 case box=>unfold sU at h;split at h<;>cases h;trivial
 case alloc=>cases h;trivial
 case mkmap=>cases h;trivial
 case buildSl=>
  unfold Bl at h;split at h
  .split at h<;>cases h;trivial
  .cases h
 case mksl=>
  unfold Hl at h;split at h
  .split at h<;>cases h;trivial
  .cases h
 case st1=>
  unfold E8 at h;split at h
  .split at h
   .rename_i v g o _ t cs a;split at h
    .rename_i c;cases h;exact⟨_,_,_,LR a,iz⟩
    .cases h
   .cases h
  .cases h
 case stN=>
  unfold Fa at h;split at h
  .split at h
   .rename_i v g o xs _ _ t cs a;split at h
    .rename_i c;cases h;exact⟨_,_,_,LR a,iz⟩
    .cases h
   .cases h
  .cases h
 case mapUpd=>
  unfold Co at h;split at h
  .split at h
   .rename_i b;split at h
    .cases h;exact al6 b
    .cases h
   .cases h
  .cases h
 case app=>
  unfold tC at h;split at h
  .split at h
   .split at h
    .rename_i a;split at h
     .cases h;exact aev a
     .cases h
    .cases h
   .split at h
    .cases h;trivial
    .cases h
   .split at h
    .cases h;trivial
    .split at h
     .cases h;trivial
     .cases h
   .cases h
  .cases h
 case copy=>
  unfold Bs at h;split at h
  .split at h
   .rename_i a;split at h
    .cases h;exact aev a
    .cases h
   .cases h
  .cases h;trivial
  .cases h
theorem Tb{δ:Dl}(hs:Safe H δ)(k:Nat)(c:(δ.app H (Al.last H)).l<=k) :
  mN H.l δ (H++room (k-H.l))=δ.app H (Al.last H)++room (k-(δ.app H (Al.last H)).l)/\Fits H.l δ (H++room (k-H.l)):=by
 cases δ with
 | no=>exact⟨rfl,trivial⟩
 | cells v o xs=>
  obtain⟨t,g,cs,h1,d⟩:=hs;have a:=(ae.1 h1).1;have b:(H++room (k-H.l))[v]? = aE (.row t g cs):=by rw[ah a];exact h1
  refine⟨?_,t,g,cs,b,d⟩;simp only[mN,Dl.app,b,h1,av];rw[aP _ _ a]
 | obj v ob=>
  refine⟨?_,trivial⟩;simp only[mN,Dl.app,av];rw[aP _ _ hs]
 | new ob=>
  simp only[Dl.app,Al.last,aq,aF,dp,aR]at c ⊢;have e:k-H.l=(k-(H.l+1))+1:=U;refine⟨?_,?_⟩
  .simp only[mN,Dl.app,Al.na];rw[e,room,bL,c8 _ _ (ej _)];simp[aO]
  .show(H++room (k-H.l))[H.l]? = aE .na;rw[e,ao (ej _)];simp[bL]
end
section
variable{G:GT}{c:Ctx}{w:bf}{H:gQ}
theorem RF{r v:Nat}{L:Loc}:nh c (H++room r) v L↔nh c H v L:=by
 constructor
 .rintro⟨o,b,a,d⟩;rw[Qu v o (by rintro rfl;cases a)]at b;exact⟨o,b,a,d⟩
 .rintro⟨o,b,a,d⟩;exact⟨o,(Qu v o (by rintro rfl;cases a)).2 b,a,d⟩
theorem WQ{r b:Nat}:nH c (H++room r) b↔nH c H b:=by
 constructor
 .rintro⟨v,L,hl,r⟩;exact⟨v,L,RF.1 hl,r⟩
 .rintro⟨v,L,hl,r⟩;exact⟨v,L,RF.2 hl,r⟩
theorem aer(h:iy G c H w)(r:Nat):iy G c (H++room r) w where
 inj v v' L L' h1 h2:=h.inj v v' L L' (RF.1 h1) (RF.1 h2)
 lt b hb:=h.lt b (WQ.1 hb)
 nF b hb:=h.nF b (WQ.1 hb)
 l9:=h.l9
 out v k a:=h.out v k (by simp at a;omega)
 n5 v o k ho hk:=by
  rcases bU v H.l with a|a
  .rw[ah a]at ho;exact h.n5 v o k ho hk
  .exact h.out v k a
 ob v o ho:=by
  rcases bU v H.l with a|a
  .rw[ah a]at ho;exact h.ob v o ho
  .rw[ao a,gv]at ho;split at ho
   .cases ho;simp only[iY];exact h.out v _ a
   .cases ho
 gl:=h.gl
 rt:=h.rt
theorem aes(r n:Nat):Step n c H w c (H++room r) w:=
 ⟨⟨rfl,ej _⟩,rfl,rfl,ej _,rfl,λ_ h=>h,λ_ h=>.inl h,λ_ _ _=>rfl,λ_ _ _ _ h=>h,λ_ h=>.inr (WQ.1 h)⟩
end
end Go.AL
namespace Go.AL
open Go Go.Proofs Go.Shelf Go.RowKit Go.Lib Go.Sort
structure zL(P:cc)(f:eB)(sz:Nat):Prop where
 pos:0<sz
 full:∀(α:Type) [Inhabited α] (enc:α->List cp) (_:∀x,(enc x).l=sz) (_:∀x,∀v∈enc x,v.oneCell'=fp) (cf:α->α->Int) (_:SWO (ltOf cf)) (g mX off cap:Nat) (d:Array α) (w:bf)
  (_:∀args w,(callFunc g args).run P w = .ok (.enter g args) w) (_:CmpLays P g #[] enc sz cf mX off d.size w) (_:HoldsK enc sz w mX off d) (_:mX<w.heap.size) (_:d.size<4611686018427387904),
  lp P f #[.slice (aE ⟨mX,off,er⟩) d.size cap,.func (.func g) #[] #[]] w λe w'=>e = .returned (.tuple #[])/\∃d' n os,PermIn 0 d.size d d'/\SortedIn (ltOf cf) 0 d.size d'/\w'=sortWorldK enc sz w mX off n d' os
 none:∀(p:Option Addr) (cap:Nat) (fv:cp) (w:bf),lp P f #[.slice p 0 cap,fv] w λe w'=>e = .returned (.tuple #[])/\w'=w
def zL.of{P:cc}{ρ:Ren}(L:SlLaysF0.n6 P ρ){k:Nat}(b:0<k)(c:∀w,(isAgg (ρ.t 24)).run P w = .ok fp w)(a:∀w,(Go.sizeOf (ρ.t 24)).run P w = .ok k w):zL P (ρ.f 6) k where
 pos:=b
 full α _ enc h1 h2 cf hO g mX off cap d w eg hc hH hb hs:=AnyQ.slices_SortFunc L k c a enc h1 h2 cf hO g #[] mX off cap d w eg hc hH hb hs
 none:=AnyF.slices_SortFunc_none L
section
variable{P:cc}{G:GT}{c:Ctx}{H:gQ}{w:bf}{α:Type}
structure El(c:Ctx)(w:bf)(fc:α->List D)(l:List α) where
 vs:List cp
 a:α
 mem:a∈l
 cells:Cells (c.data c.F) w vs (fc a)
theorem aeP{a:Type}[Inhabited a](enc:a->List cp)(k mX off m:Nat)(e:Array a)(os:Array Obj){b:Nat}(d:b<w.heap.size)(c:b≠mX):(sortWorldK enc k w mX off m e os).heap[b]? = w.heap[b]? := by simp only[sortWorldK,grow,putRowK,putRow,mapBlock,Go.Sort.ahead];rw[cV (by simpa using d),bB,if_neg (cP c)]
theorem ahl(h:iy G c H w){W:bf}(hs:w.heap.size<=W.heap.size)(d:∀b,c.F b->W.heap[b]? = w.heap[b]?):iy G (c.data c.F) [] W where
 inj v v' L L' h1:=by obtain⟨o,a,_⟩:=h1;simp at a
 lt b hb:=by obtain⟨v,L,⟨o,a,_⟩,_⟩:=hb;simp at a
 nF b hb:=by obtain⟨v,L,⟨o,a,_⟩,_⟩:=hb;simp at a
 l9 b hb:=aW (h.l9 b hb) hs
 out _ _ _:=rfl
 n5 _ _ _ _ _:=rfl
 ob v o a:=by simp at a
 gl g cs hg:=by obtain⟨h1,f⟩:=(P1 h).gl g cs hg;exact⟨h1,gX.carry (c:=c.data c.F) (c':=c.data c.F) (λ_ _ _ h=>h) (λ_ h=>h) (λb o e=>Je (d b e)) f⟩
 rt:=h.rt
theorem aud{W w':bf}(h:ly W w'):∃q a,w'=grow (W.drewN q) a:=by
 obtain⟨⟨h1,n⟩,f,e,m,d⟩:=h;refine⟨w'.drawn-W.drawn,w'.heap.extract W.heap.size w'.heap.size,?_⟩
 cases w' with
 | mk l tp dr o k=>
  cases W with
  | mk j b g o' c=>
   simp only at *;subst h1 f e;simp only[grow,World.drewN];congr 1
   .apply Array.ext_getElem?;intro i;rcases bU i j.size with hi|hi
    .rw[cV hi,d i hi]
    .rw[Array.getElem?_append_right hi,Array.getElem?_extract];split
     .congr 1;omega
     .exact eQ U
   .omega
theorem kF.two{c:Ctx}{w:bf}{vs:List cp}{d e:D}(h:kF c w vs [d,e]):∃u v,vs = [u,v]/\gX c w u d/\gX c w v e:=by
 cases h with
 | cons h1 h=>cases h with
  | cons a h=>cases h;exact⟨_,_,rfl,h1,a⟩
theorem atx{f g:eB}{sz:Nat}(hS:zL P f sz){x:D}{R:D->gQ->Prop}(k:R (.tup []) H):xA P G f [.gV,x] H R:=by intro c w vs gW b;obtain⟨u,v,rfl,h1,h⟩:=kF.two b;cases h1;refine(hS.none er 0 v w).mono ?_;rintro e w' ⟨rfl,rfl⟩;exact⟨_,c,_,H,rfl,k,ej _,gW,.tup [] [] rfl (λi v d a=>by simp at a),Step.refl _ _ _ _⟩
theorem aty{f g:eB}{sz:Nat}(hS:zL P f sz)(hg:uW P g=fp)(fc:α->List D)(l:List α)(hl:∀a∈l,(fc a).l=sz)(iD:∀a∈l,iB (fc a)=fp)(h0:0<l.l)(y7:l.l<4611686018427387904)
  (q:α->α->Int) (G6:∀x∈l,¬q x x<0) (tr:∀x∈l,∀y∈l,∀z∈l,q x y<0->q y z<0->q x z<0) (nt:∀x∈l,∀y∈l,∀z∈l,¬q x y<0->¬q y z<0->¬q x z<0)
  (hc:∀x∈l,∀y∈l,xA P G g [.agg (fc x),.agg (fc y)] [] λd _=>d = .i (q x y)) {v gen:Nat} {t:hY} (O:H[v]? = aE (.row t gen (l.map fc).flatten)) {R:D->gQ->Prop}
  (k:∀Z:List α,Z.Perm l->Z.Pairwise (λx y=>¬q y x<0)->R (.tup []) (H.set v (.row t gen (Z.map fc).flatten))) :
  xA P G f [.gR v gen sz 0 l.l,.fn (.func g) [] []] H R:=by
 have M:=hS.pos;intro c w vs gW A;obtain⟨u,v1,rfl,h1,h2⟩:=kF.two A;clear A;have hn:l.l=l.l:=rfl;revert hn;generalize hN:l.l=N at h1;intro hn
 have nC:v1 = .func (.func g) #[] #[]:=by
  cases h2 with
  | fn _ fs cs df dc jK ki _ _=>
   have p:fs = []:=aA.1 jK;have e2:cs = []:=aA.1 ki;subst p;subst e2;rfl
 subst nC;clear h2
 cases h1 with
 | nU=>omega
 | gR _ _ _ _ _ cap L ic jk lk jW mS=>
 have W:=gW.ob v _ O;simp only[Ob.gen]at W;rw[ic]at W;simp only[iY,jk]at W;obtain⟨arr,K,KJ,E,rJ⟩:=W
 have ln:(l.map fc).flatten.l=N*sz:=by rw[Qo sz _ (by simpa using hl),ek,hN]
 rw[ln]at E;have zd:nH c H L.b:=⟨v,L,⟨_,O,rfl,ic⟩,jk,rfl⟩;have Q:=gW.lt _ zd
 have C:∀i,i<N->L.base+i*sz+sz<=arr.size:=λi hi=>by have:(i+1)*sz<=N*sz:=bP _ hi;rw[cU]at this;omega
 let mk:Fin l.l->El c w fc l:=λi=>{
  vs:=(arr.toList.drop (L.base+i.val*sz)).take sz
  a:=l[i.val]
  mem:=cD _
  cells:=by
   have hi:i.val<N:=by rw[<-hN];exact i.isLt
   have hm:=C _ hi;have B2:(fc l[i.val]).l=sz:=hl _ (cD _)
   have jS:∀r,r<sz->∃y d,((arr.toList.drop (L.base+i.val*sz)).take sz)[r]? = aE y/\(fc l[i.val])[r]? = aE d/\y.oneCell'=fp/\gX c w y d:=λr A=>by
    have I:(l.map fc).flatten[i.val*sz+r]? = (fc l[i.val])[r]? := by rw[Qn sz M _ (by simpa using hl),show(i.val*sz+r) / sz=i.val from by rw[eC,Nat.mul_add_div M,Nat.div_eq_of_lt A];rfl,show(i.val*sz+r) % sz=r from by rw[eC,Nat.mul_add_mod,fX A]];simp
    have s:(fc l[i.val])[r]? = aE (fc l[i.val])[r]:=hU U;obtain⟨y,wz,KN,a1⟩:=rJ (i.val*sz+r) _ (I.trans s);refine⟨y,_,?_,s,KN,a1⟩;rw[aJ,if_pos A,aD,bS,<-wz];congr 1;omega
   have rK:((arr.toList.drop (L.base+i.val*sz)).take sz).l=sz:=iz;refine⟨by rw[rK,B2],λy B=>?_,λr y d B I=>?_⟩
   .obtain⟨r,A⟩:=aG.1 B;have Y:r<sz:=by have:=(ae.1 A).1;omega
    obtain⟨y',d,p,_,e3,_⟩:=jS r Y;rw[A]at p;cases p;exact e3
   .have Y:r<sz:=by have:=(ae.1 B).1;omega
    obtain⟨y',d',p,e2,_,e4⟩:=jS r Y;rw[B]at p;cases p;rw[I]at e2;cases e2
    exact gX.closed (c:=c) (c':=c.data c.F) (λb F=>F) e4 (zW (iD _ (cD _)) I) }
 haveI:Inhabited (El c w fc l):=⟨mk ⟨0,h0⟩⟩
 let enc:El c w fc l->List Value:=λe=>e.vs
 let d:Array (El c w fc l):=Array.ofFn mk
 have J:d.size=N:=by simp[d,hN]
 have js:∀x:El c w fc l,(enc x).l=sz:=λx=>by rw[show enc x=x.vs from rfl,x.cells.len,hl _ x.mem]
 have Kt:∀x:El c w fc l,∀y∈enc x,y.oneCell'=true:=λx y B=>x.cells.one y B
 have a4:d.toList.map (λe=>e.a)=l:=by
  apply bN;intro i;simp only[d,aw,bS,Array.getElem?_ofFn]
  by_cases hi:i<l.l
  .simp[hi,mk]
  .simp[hi]
 have hO:SWO (ltOf λx y:El c w fc l=>q x.a y.a):=by
  refine⟨λx=>?_,λx y z=>?_,λx y z=>?_⟩
  .simpa[ltOf]using G6 x.a x.mem
  .simpa[ltOf]using tr x.a x.mem y.a y.mem z.a z.mem
  .simpa[ltOf]using nt x.a x.mem y.a y.mem z.a z.mem
 have Ae:∀j,w.cell? ⟨L.b,j,er⟩=arr[j]? := λj=>by simp[jI,K]
 have hH:HoldsK enc sz w L.b (L.base+0*sz) d:=by
  intro j hj;have S:j<N*sz:=by simpa[J]using hj
  have hq:j / sz<N:=jX (by rw[eC];exact S);have A:j % sz<sz:=ml _ M;have hm:=C _ hq;have J':j / sz*sz+j % sz=j:=by rw[eC];exact Nat.div_add_mod j sz
  rw[get_flatK _ _ _ _ (by rw[J];exact S)];refine⟨?_,?_⟩
  .have p:d[j / sz]! = mk ⟨j / sz,U⟩:=by rw[getElem!_pos d (j / sz) U];simp[d]
   rw[Ae,p];show _=aE (id ((arr.toList.drop (L.base+j / sz*sz)).take sz)[j % sz]!);rw[getElem!_pos _ (j % sz) iz,List.getElem_take,List.getElem_drop,Array.getElem_toList,cL U];simp only[id];congr 2;omega
  .simp[iK,K]
 have b0:CmpLays P g #[] enc sz (λx y:El c w fc l=>q x.a y.a) L.b (L.base+0*sz) d.size w:=by
  intro m os dk _ x y;have hW:∀b,c.F b->(sortWorldK enc sz w L.b (L.base+0*sz) m dk os).heap[b]? = w.heap[b]? := λb F=>aeP _ _ _ _ _ _ _ (gW.l9 b F) λe=>gW.nF _ zd (e▸F);have uz:iy G (c.data c.F) [] (sortWorldK enc sz w L.b (L.base+0*sz) m dk os):=ahl gW (size_sortWorldK_c _ _ _ _ _ _ _ _) hW
  have wx:∀x:El c w fc l,gX (c.data c.F) (sortWorldK enc sz w L.b (L.base+0*sz) m dk os) (.agg (enc x).toArray) (.agg (fc x.a)):=λx=>
   .agg _ _ x.cells.len x.cells.one λi y d B I=>gX.carry (c:=c.data c.F) (c':=c.data c.F) (λ_ _ _ h=>h) (λ_ h=>h) (λb o hF=>Je (hW b hF)) (x.cells.rep i y d B I)
  have:=hc x.a x.mem y.a y.mem _ _ _ uz (.cons (wx x) (.cons (wx y) .nil));rw[(gP:(#[iN (enc x).toArray,iN (enc y).toArray] ++ #[]:Array cp) = [iN (enc x).toArray,iN (enc y).toArray].toArray)];refine Calls.mono this ?_;rintro e w' ⟨u,c',d',H',he,rfl,_,_,hu,ig⟩;cases hu;exact⟨he,aud (Dw ig)⟩
 have eg:∀args w,(callFunc g args).run P w = .ok (.enter g args) w:=Sr hg;have kG:=hS.full (El c w fc l) enc js Kt _ hO g L.b (L.base+0*sz) cap d w eg b0 hH Q U;rw[J]at kG;refine kG.mono ?_;rintro e w' ⟨rfl,d',n,os,⟨vh,_,pE⟩,b',rfl⟩;have T:d'.size=N:=by rw[vh,J]
 have a9:(d'.toList.map λe=>e.a).Perm l:=by
  refine lK.trans (lK.map _ ?_) (lK.of_eq a4);have p:(d'.extract 0 N).toList=d'.toList:=by rw[<-T];simp
  have e2:(d.extract 0 N).toList=d.toList:=by rw[<-J];simp
  rw[p,e2]at pE;exact pE
 have a2:(d'.toList.map λe=>e.a).Pairwise λx y=>¬q y x<0:=by
  rw[eO,bV];intro i j hi hj DZ;have V:i<d'.size:=by simpa using hi
  have S:j<d'.size:=by simpa using hj
  have:=b' i j (Nat.zero_le _) DZ U;rw[getElem!_pos d' j S,getElem!_pos d' i V]at this;simpa[ltOf]using this
 have D2:((d'.toList.map λe=>e.a).map fc).flatten.l=N*sz:=by
  rw[Qo sz _ (λx s=>?_)]
  .simp[T]
  .simp only[aj]at s;obtain⟨a,⟨e,_,rfl⟩,rfl⟩:=s;exact hl _ e.mem
 have hF:(flatK enc sz d').size=N*sz:=by rw[size_flatK,T]
 have h7:N*sz<=arr.size-L.base:=U
 obtain⟨w1,w2⟩:=Ig gW O ic jk K (putCells id (L.base+0*sz) (flatK enc sz d') arr) (by simp[putCells]) KJ ((d'.toList.map λe=>e.a).map fc).flatten (by rw[D2];exact E) (λi dd hi=>by
  have V:i<N*sz:=by rw[<-D2];exact(ae.1 hi).1
  have hq:i / sz<N:=jX (by rw[eC];exact V);have A:i % sz<sz:=ml _ M;have s:=d'[i / sz].cells
  rw[Qn sz M _ (λx s=>by
   simp only[aj]at s;obtain⟨a,⟨e,_,rfl⟩,rfl⟩:=s
   exact hl _ e.mem)]at hi
  have p:(List.map fc (List.map (λe=>e.a) d'.toList))[i / sz]? = aE (fc d'[i / sz].a):=by simp only[aw,bS];rw[cL U];rfl
  rw[p,Option.bind_some]at hi;have ju:(d'[i / sz].vs).l=sz:=js d'[i / sz];have e2:(d'[i / sz].vs)[i % sz]? = aE (d'[i / sz].vs)[i % sz]:=hU U;refine⟨(d'[i / sz].vs)[i % sz],?_,s.one _ (cD _),gX.closed (c:=c.data c.F) (c':=c) (λb F=>F) (s.rep _ _ _ e2 hi) (zW (iD _ d'[i / sz].mem) hi)⟩;rw[putCells,dY,cL U,aK,if_pos ⟨U,by rw[hF];omega⟩];rw[(U:L.base+i-(L.base+0*sz)=i),get_flatK _ _ _ _ (by rw[T];exact V),getElem!_pos d' (i / sz) U];show aE (id (d'[i / sz].vs)[i % sz]!)=_
  rw[getElem!_pos _ (i % sz) U];rfl)
 have BX:ly (w.setRow L.b (putCells id (L.base+0*sz) (flatK enc sz d') arr)) (sortWorldK enc sz w L.b (L.base+0*sz) n d' os):=by
  refine⟨⟨rfl,gf _ _⟩,rfl,rfl,?_,λb F=>?_⟩
  .simp[eh,sortWorldK,grow,putRowK,putRow,mapBlock,Go.Sort.ahead]
  .have qw:b<w.heap.size:=by simpa[eh]using F
   by_cases X:b=L.b
   .subst X;rw[j' w L.b arr _ t _ K];simp only[sortWorldK,grow,putRowK,putRow,mapBlock,Go.Sort.ahead];rw[cV (by simpa using qw),bB,if_pos rfl,K];rfl
   .rw[aeP _ _ _ _ _ _ _ qw X];simp only[eh,bB];rw[if_neg (cP X)]
 exact⟨_,c,_,_,rfl,k _ a9 a2,gP,w1.r9 BX,.tup [] [] rfl (λi v d O=>by simp at O),w2.trans (Fb _ BX) (ej _)⟩
end
structure C2(P:cc)(f:eB):Prop where
 full:∀(mX off cap:Nat) (zs:List Int) (w:bf) (_:Holds (di .i64) w mX off zs.toArray) (_:mX<w.heap.size) (_:zs.l<4611686018427387904),
  lp P f #[.slice (aE ⟨mX,off,er⟩) zs.l cap] w λe w'=>e = .returned (.tuple #[])/\∃n os,w'=grow (putRow (di .i64) (Go.Sort.ahead w n) mX off (zs.mergeSort λx y=>decide (x<=y)).toArray) os
section
variable{P:cc}{G:GT}{c:Ctx}{H:gQ}{w:bf}
theorem atA{f:eB}(hS:C2 P f)(l:List Int)(h0:0<l.l)(J:l.l<4611686018427387904){v gen:Nat}{t:hY}(m:H[v]? = aE (.row t gen (l.map λn=>D.i n))){R:D->gQ->Prop}
  (k:R (.tup []) (H.set v (.row t gen ((l.mergeSort λx y=>decide (x<=y)).map λn=>D.i n)))):xA P G f [.gR v gen 1 0 l.l] H R:=by
 intro c w vs gW z
 cases z with
 | @cons u _ _ _ h1 z=>
 cases z;have C:l.l=l.l:=rfl;revert C;generalize hN:l.l=N at h1;intro C
 cases h1 with
 | nU=>omega
 | gR _ _ _ _ _ cap L s r lk jW mS=>
 have p:=gW.ob v _ m;simp only[Ob.gen]at p;rw[s]at p;simp only[iY,r]at p;obtain⟨arr,h,X,g,K⟩:=p;rw[ek,hN]at g;have I:nH c H L.b:=⟨v,L,⟨_,m,rfl,s⟩,r,rfl⟩;have o:=gW.lt _ I;have Z:∀j,w.cell? ⟨L.b,j,er⟩=arr[j]? := λj=>by simp[jI,h]
 have V:Holds (di .i64) w L.b (L.base+0*1) l.toArray:=by
  intro j S;have A:j<l.l:=by simpa using S
  obtain⟨y,h1,h2,W⟩:=K j (.i l[j]) (by simp[A]);cases W;refine⟨?_,by simp[iK,h]⟩;rw[Z,(U:L.base+0*1+j=L.base+j),h1];simp[A]
 have B:=hS.full L.b (L.base+0*1) cap l w V o J;rw[hN]at B;refine B.mono ?_;rintro e w' ⟨rfl,n,os,rfl⟩;generalize Q:(l.mergeSort λx y=>decide (x<=y))=l' at k ⊢;have Y:l'.l=N:=by rw[<-Q,dZ,hN]
 obtain⟨w1,w2⟩:=Ig gW m s r h (putCells (di .i64) (L.base+0*1) l'.toArray arr) (by simp[putCells]) X (l'.map λn=>D.i n) (by rw[ek,Y];exact g) (λi dd hi=>by
  rw[aw]at hi;obtain⟨a,E,rfl⟩:=ar.1 hi;have O:i<l'.l:=(ae.1 E).1;refine⟨.int .i64 a,?_,rfl,.val _⟩;rw[putCells,dY,cL U,aK,if_pos ⟨U,iz⟩];rw[(U:L.base+i-(L.base+0*1)=i),getElem!_pos l'.toArray i (by simpa using O)];have:=(ae.1 E).2
  simp[this])
 have F:ly (w.setRow L.b (putCells (di .i64) (L.base+0*1) l'.toArray arr)) (grow (putRow (di .i64) (Go.Sort.ahead w n) L.b (L.base+0*1) l'.toArray) os):=by
  refine⟨⟨rfl,gf _ _⟩,rfl,rfl,?_,λb T=>?_⟩
  .simp[eh,grow,putRow,mapBlock,Go.Sort.ahead]
  .have M:b<w.heap.size:=by simpa[eh]using T
   simp only[grow,putRow,mapBlock,Go.Sort.ahead];rw[cV (by simpa using M),bB]
   by_cases q:L.b=b
   .subst q;rw[j' w L.b arr _ t _ h,if_pos rfl,h];rfl
   .simp only[eh,bB];rw[if_neg q,if_neg q]
 exact⟨_,c,_,_,rfl,k,gP,w1.r9 F,.tup [] [] rfl (λi v d m=>by simp at m),w2.trans (Fb _ F) (ej _)⟩
end
structure CP(P:cc)(f:eB):Prop where
 full:∀(mX off cap i:Nat) (zs:List Int) (w:bf) (_:Holds (di .i64) w mX off zs.toArray) (_:zs.l<=cap) (_:cap<=9223372036854775807) (_:i<zs.l),
  lp P f #[.slice (aE ⟨mX,off,er⟩) zs.l cap,.int .i64 i,.int .i64 ((i:Int)+1)] w λe w'=>e = .returned (.slice (aE ⟨mX,off,er⟩) (zs.l-1) cap)/\∃n,w'=putRow (di .i64) (Go.Sort.ahead w n) mX off (zs.take i++zs.drop (i+1) ++ [0]).toArray
section
variable{P:cc}{G:GT}{c:Ctx}{H:gQ}{w:bf}
theorem aho{f:eB}(hS:CP P f)(l:List Int)(i:Nat)(hi:i<l.l){v gen:Nat}{t:hY}{zs:List D}(B:H[v]? = aE (.row t gen (l.map (λn=>D.i n)++zs))){R:D->gQ->Prop}
  (k:R (.gR v gen 1 0 (l.l-1)) (H.set v (.row t gen ((l.take i++l.drop (i+1) ++ [0]).map (λn=>D.i n)++zs)))):xA P G f [.gR v gen 1 0 l.l,.i i,.i ((i:Int)+1)] H R:=by
 intro c w vs gW g
 cases g with
 | @cons u _ _ _ h1 g=>
 cases g with
 | @cons u2 _ _ _ x g=>
 cases g with
 | @cons u3 _ _ _ p g=>
 cases g;cases x;cases p;have K:l.l=l.l:=rfl;revert K;generalize hN:l.l=N at h1;intro K
 cases h1 with
 | nU=>omega
 | gR _ _ _ _ _ cap L s q lk J W=>
 have r:=gW.ob v _ B;simp only[Ob.gen]at r;rw[s]at r;simp only[iY,q]at r;obtain⟨arr,o,KJ,d,E⟩:=r;rw[aq,ek,hN]at d;have S:nH c H L.b:=⟨v,L,⟨_,B,rfl,s⟩,q,rfl⟩;have M:=gW.lt _ S;have Ae:∀j,w.cell? ⟨L.b,j,er⟩=arr[j]? := λj=>by simp[jI,o]
 have Z:Holds (di .i64) w L.b (L.base+0*1) l.toArray:=by
  intro j m;have z:j<l.l:=by simpa using m
  obtain⟨y,h1,x,p⟩:=E j (.i l[j]) (by rw[ah (by simpa using z)];simp[z]);cases p;refine⟨?_,by simp[iK,o]⟩;rw[Ae,(U:L.base+0*1+j=L.base+j),h1];simp[z]
 have I:=hS.full L.b (L.base+0*1) cap i l w Z U (by unfold maxLen at J;omega) hi;rw[hN]at I k;refine I.mono ?_;rintro e w' ⟨rfl,n,rfl⟩;generalize V:l.take i++l.drop (i+1) ++ [0]=l' at k ⊢
 have O:l'.l=N:=by rw[<-V,aq,aq,aM,aU,aT,hN];omega
 obtain⟨w1,w2⟩:=Ig gW B s q o (putCells (di .i64) (L.base+0*1) l'.toArray arr) (by simp[putCells]) KJ (l'.map (λn=>D.i n)++zs) (by rw[aq,ek,O];exact d) (λj dd m=>by
  by_cases F:j<l'.l
  .rw[ah (by simpa using F),aw]at m;obtain⟨a,Y,rfl⟩:=ar.1 m;refine⟨.int .i64 a,?_,rfl,.val _⟩;rw[putCells,dY,cL U,aK,if_pos ⟨U,iz⟩];rw[(U:L.base+j-(L.base+0*1)=j),getElem!_pos l'.toArray j (by simpa using F)];have:=(ae.1 Y).2;simp[this]
  .have C:l'.l<=j:=by omega
   rw[ao (by simpa using C),ek,O]at m;obtain⟨y,h1,x,p⟩:=E j dd (by rw[ao (by rw[ek];omega),ek,hN];exact m);refine⟨y,?_,x,p⟩
   rw[putCells,dY,h1,aK,if_neg (λh=>by have:=h.2;simp at this;omega)])
 have Q:ly (w.setRow L.b (putCells (di .i64) (L.base+0*1) l'.toArray arr)) (putRow (di .i64) (Go.Sort.ahead w n) L.b (L.base+0*1) l'.toArray):=by
  refine⟨⟨rfl,gf _ _⟩,rfl,rfl,?_,λb X=>?_⟩
  .simp[eh,putRow,mapBlock,Go.Sort.ahead]
  .have qw:b<w.heap.size:=by simpa[eh]using X
   simp only[putRow,mapBlock,Go.Sort.ahead];rw[bB]
   by_cases A:L.b=b
   .subst A;rw[j' w L.b arr _ t _ o,if_pos rfl,o];rfl
   .simp only[eh,bB];rw[if_neg A,if_neg A]
 have T:gX c (putRow (di .i64) (Go.Sort.ahead w n) L.b (L.base+0*1) l'.toArray) (.slice (aE ⟨L.b,L.base+0*1,er⟩) (N-1) cap) (.gR v gen 1 0 (N-1)):=.gR v gen 1 0 (N-1) cap L s q U J W;exact⟨_,c,_,_,rfl,k,gP,w1.r9 Q,T,w2.trans (Fb _ Q) (ej _)⟩
end
end Go.AL
namespace Go.AL
open Go
def Out.ex:Out->jA
 | .norm _=>.normal
 | .exit id _=>.exit id
 | .ret _=>.ret
def arT(A:Array Oper):List (List Nat):=A.toList.foldl (init:=[]) λa o=>
 a ++ [dedup ((o.after.toList.filter λe=>Region.binds .any e).flatMap λe=>e.on::a.getD e.on [])]
def ar6(l:List jb)(ord:List (List Nat)):List (Nat×Nat):=(ku l.l).flatMap λi=>(ku i).filterMap λk=>
 if (ord.getD i []).contains k then er else match l[k]?,l[i]? with
  | some a,aE b=>if SF a.op b.op then er else aE (k,i)
  | _,_=>er
def acC:List FuncId:=[283]
def VY:jG->Bool
 | .call f _=>acC.contains f
 | .callN f _=>acC.contains f
 | .callv _ xs=>xs.l == 4
 | _=>hI
def acD(A:Array Oper)(l:List jb)(ord:List (List Nat))(n:Nat):Bool:=n<l.l&&(ku l.l).all λi=>decide (i<n)||(ku i).all λk=>(ord.getD i []).contains k||(decide (n<=k)&&decide (k+1=i)&&H7 A k i)
def aae(A:Array Oper)(a:List (Nat×Nat))(l:List jb)(ord:List (List Nat)):IR:=
 let n:=l.findIdx λe=>VY e.op
 if acD A l ord n then .oH a (l.take n) (l.drop n)else .np a l
def pI:dx->List (Array fx×dx×dx)
 | .seq a b=>pI a++pI b
 | .cond _ a b=>pI a++pI b
 | .block _ a=>pI a
 | .loop a=>pI a
 | .rangeFunc _ ps a b=>(ps,a,b)::(pI a++pI b)
 | _=>[]
def cC(P:cc)(G:GT)(N:Nat)(rf:Nat):List (List Nat)->dx->Option (IR×List (List Nat))
 | hs,.skip=>aE (.skip,hs)
 | hs,.region _ ops hI=>match rZ P G N ops ops.toList with
  | some l=>aE (.ops l,hs)
  | none=>aE (.bad,hs)
 | hs,.region _ ops fp=>match rZ P G N ops ops.toList with
  | some l=>
   let ord:=arT ops
   let d:=ar6 l ord
   if Bv ops&&AM ops ord&&WR l ord d then aE (aae ops d l ord,hs)else aE (.bad,hs)
  | none=>aE (.bad,hs)
 | hs,.seq a b=>match cC P G N rf hs a with
  | some (x,lU)=>match cC P G N (rf+(pI a).l) lU b with
   | some (y,nA)=>aE (.seq x y,nA)
   | none=>er
  | none=>er
 | hs,.cond c a b=>match cX G c with
  | some x=>match cC P G N rf hs a with
   | some (y,lU)=>match cC P G N (rf+(pI a).l) lU b with
    | some (z,nA)=>aE (.cond x y z,nA)
    | none=>er
   | none=>er
  | none=>aE (.bad,hs)
 | hs,.block id a=>match hs with
  | l::hs=>match cC P G N rf hs a with
   | some (x,lU)=>aE (.block id l x,lU)
   | none=>er
  | []=>er
 | hs,.loop a=>match hs with
  | l::hs=>match cC P G N rf hs a with
   | some (x,lU)=>aE (.loop l x,lU)
   | none=>er
  | []=>er
 | hs,.rangeFunc g _ _ _=>match cX G g,hs with
  | some x,l::hs=>aE (.qb rf l x,hs)
  | _,_=>aE (.bad,hs)
 | hs,.exit id=>aE (.exit id,hs)
 | hs,.ret=>aE (.ret,hs)
 | hs,_=>aE (.bad,hs)
inductive pL(P:cc)(G:GT)(N:Nat):IR->dx->Prop
 | skip:pL P G N .skip .skip
 | ops {l id A} (h:rZ P G N A A.toList=aE l):pL P G N (.ops l) (.region id A hI)
 | np {kJ l id A} (ord:List (List Nat)) (h:rZ P G N A A.toList=aE l) (he:Bv A=fp) (ho:AM A ord=fp) (hp:WR l ord kJ=fp):pL P G N (.np kJ l) (.region id A fp)
 | oH {kJ l es id A} (ord:List (List Nat)) (h:rZ P G N A A.toList=aE (l++es)) (he:Bv A=fp) (ho:AM A ord=fp) (hp:WR (l++es) ord kJ=fp) (B2:∀i,l.l<=i->i<(l++es).l->∀k,k<i->k∈ord.getD i []\/(l.l<=k/\k+1=i/\H7 A k i=fp)):pL P G N (.oH kJ l es) (.region id A fp)
 | seq {a b x y} (h1:pL P G N x a) (h2:pL P G N y b):pL P G N (.seq x y) (.seq a b)
 | cond {c a b x y z} (hc:cX G c=aE x) (h1:pL P G N y a) (h2:pL P G N z b):pL P G N (.cond x y z) (.cond c a b)
 | block {id l a x} (h:pL P G N x a):pL P G N (.block id l x) (.block id a)
 | loop {l a x} (h:pL P G N x a):pL P G N (.loop l x) (.loop a)
 | qb {rf l x g ps ac bc} (hx:cX G g=aE x) (h:G.rt rf=aE (N,ps,ac,bc)):pL P G N (.qb rf l x) (.rangeFunc g ps ac bc)
 | exit {id}:pL P G N (.exit id) (.exit id)
 | ret:pL P G N .ret .ret
 | bad {c}:pL P G N .bad c
def C0(G:GT)(N rf:Nat)(code:dx):Prop:=∀(i:Nat) (x:Array fx×dx×dx),(pI code)[i]? = aE x->G.rt (rf+i)=aE (N,x)
def C0.left{G:GT}{N rf:Nat}{a b:dx}{l:List (Array fx×dx×dx)}(hl:l=pI a++pI b)(h:∀(i:Nat) (x:Array fx×dx×dx),l[i]? = aE x->G.rt (rf+i)=aE (N,x)):C0 G N rf a/\C0 G N (rf+(pI a).l) b:=by
 subst hl;refine⟨λi x c=>h i x ?_,λi x c=>?_⟩
 .grind
 .rw[bk];exact h _ x (by rw[ao U];simpa using c)
def Tj{P:cc}{G:GT}{N:Nat}:∀ {code:dx} {rf:Nat} {hs j:List (List Nat)} {f:IR},C0 G N rf code->cC P G N rf hs code=aE (f,j)->pL P G N f code:=by
 intro code
 induction code with
 | skip=>intro rf hs j f d h;simp only[cC]at h;cases h;exact .skip
 | region id A np=>
  intro rf hs j f d h;cases np
  .simp only[cC]at h;split at h
   .rename_i l hl;cases h;exact .ops hl
   .cases h;exact .bad
  .simp only[cC]at h;split at h
   .rename_i l hl;split at h
    .rename_i n;cases h;simp only[la]at n;unfold aae;dsimp only;split
     .rename_i u;unfold acD at u;simp only[la,bM,decide_eq_true_eq,List.all_eq_true,aZ,dX]at u;refine .oH _ (by rw[cj];exact hl) n.1.1 n.1.2 (by rw[cj];exact n.2) λi hi w k D=>?_;rw[cj]at w;have C:(l.take (l.findIdx λe=>VY e.op)).l=l.findIdx λe=>VY e.op:=by rw[aM];omega
      rw[C]at hi ⊢;rcases u.2 i w with h|h
      .omega
      .exact(h k D).imp (λh=>h) λh=>⟨h.1.1,h.1.2,h.2⟩
     .exact .np _ hl n.1.1 n.1.2 n.2
    .cases h;exact .bad
   .cases h;exact .bad
 | seq a b m p=>
  intro rf hs j f d h;obtain⟨v,r⟩:=C0.left rfl d;simp only[cC]at h;split at h
  .rename_i x q o;split at h
   .rename_i y B t;cases h;exact .seq (m v o) (p r t)
   .cases h
  .cases h
 | cond c a b m p=>
  intro rf hs j f d h;obtain⟨v,r⟩:=C0.left rfl d;simp only[cC]at h;split at h
  .rename_i x s;split at h
   .rename_i y q o;split at h
    .rename_i z B t;cases h;exact .cond s (m v o) (p r t)
    .cases h
   .cases h
  .cases h;exact .bad
 | block id a m=>
  intro rf hs j f d h;simp only[cC]at h;split at h
  .split at h
   .rename_i x q o;cases h;exact .block (m d o)
   .cases h
  .cases h
 | loop a m=>
  intro rf hs j f d h;simp only[cC]at h;split at h
  .split at h
   .rename_i x q o;cases h;exact .loop (m d o)
   .cases h
  .cases h
 | rangeFunc g ps a b m p=>
  intro rf hs j f d h;simp only[cC]at h;split at h
  .rename_i x l q s;cases h;exact .qb s (d 0 _ rfl)
  .cases h;exact .bad
 | exit id=>intro rf hs j f d h;simp only[cC]at h;cases h;exact .exit
 | ret=>intro rf hs j f d h;simp only[cC]at h;cases h;exact .ret
 | _=>intro rf hs j f d h;simp only[cC]at h;cases h;exact .bad
def cR(P:cc):gb->Option xB
 | .tmp t=>aE (.tmp t)
 | .cell a t=>match ry P t,lH P t with
  | some hI,aE _=>aE (.vO a)
  | some fp,aE n=>aE (.Tl n a)
  | _,_=>er
def C8(P:cc):List gb->Option (List xB)
 | []=>aE []
 | x::r=>match cR P x,C8 P r with
  | some a,aE l=>aE (a::l)
  | _,_=>er
def CE(P:cc)(k:Nat):Option (Nat×Array fx×dx×dx):=match P.funcs[k / 64]? with
 | some fn=>match fn.body with
  | some code=>(pI code)[k % 64]?.map λx=>(fn.ntmps,x)
  | none=>er
 | none=>er
def asf{P:cc}{G:GT}(d:G.rt=CE P){f:Nat}{fn:Func}{code:dx}(b:P.funcs[f]? = aE fn)(c:fn.body=aE code)(hl:(pI code).l<=64):C0 G fn.ntmps (64*f) code:=by intro i x a;have hi:i<64:=aW (ae.1 a).1 hl;rw[d];unfold CE;rw[(U:(64*f+i) / 64=f),(U:(64*f+i) % 64=i),b];simp[c,a]
structure IJ(P:cc)(G:GT)(f:eB)(fn:kn):Prop where
 ex:∃func code hs ji,P.funcs[f]? = aE func/\func.body=aE code/\uW P f=fp/\(pI code).l<=64/\cC P G fn.ntmps (64*f) hs code=aE (fn.body,ji)/\func.ntmps=fn.ntmps/\C8 P func.results.toList=aE fn.results
structure xC(P:cc)(G:GT)(rf:Nat)(R:sR):Prop where
 ex:∃N ps ac bc,G.rt rf=aE (N,ps,ac,bc)/\ps.toList=R.params/\(R.params.all λp=>decide (p<N))=fp/\pL P G N R.a ac/\pL P G N R.b bc
structure S4(P:cc)(G:GT)(T:jt):Prop where
 rt:G.rt=CE P
 fn:∀f fn,T.fn f=aE fn->IJ P G f fn
 round:∀rf R,T.round rf=aE R->xC P G rf R
 sort:∀f sz,T.sort f=aE sz->zL P f sz
 vI:∀f,T.vI f=fp->C2 P f
 uV:∀f,T.uV f=fp->CP P f
def Ps(F:Fence)(n:Nat)(P:cc)(c:dx)(Q:jA->fa->bf->Prop)(a:fa)(w:bf):Prop:=
 ∀(b:Frame) (k:List Item) (cs:List Frame),b.roundOf=F.round->F.fn b.fn->F.room (cs.l+1+n) ->
  ∃e d w',Q e d w'/\ArrivesIn (Machine.fenced P F) P (lone (b.atR a (.code c :: .inLoop c::k)) cs w) b k cs e d w'
section
variable{F:Fence}{n:Nat}{P:cc}{Q:jA->fa->bf->Prop}{a:fa}{w:bf}
theorem alR{c:dx}(h:c.wpIn F n P (Exit.then (Ps F n P c Q) Q) a w):Ps F n P c Q a w:=by
 intro b k cs t m j;obtain⟨e,i,g,f,d⟩:=h b (.inLoop c::k) cs t m j
 cases e with
 | normal=>
  obtain⟨r,s,o,p,q⟩:=f b k cs t m j;exact⟨r,s,o,p,.of_steps (StepsIn.trans d (.one (lu m j rfl) stepR_inLoop)) q⟩
 | exit id=>exact⟨_,i,g,f,.pass (x:=.inLoop c) rfl (λ_ _=>.inl gP) d⟩
 | goto l=>exact⟨_,i,g,f,.pass (x:=.inLoop c) rfl (λ_ _=>.inl gP) d⟩
 | ret=>exact⟨_,i,g,f,.pass (x:=.inLoop c) rfl (λ_ _=>.inl gP) d⟩
 | panic ch=>exact⟨_,i,g,f,.pass (x:=.inLoop c) rfl (λ_ _=>.inl gP) d⟩
 | outgrown=>exact⟨_,i,g,f,.pass (x:=.inLoop c) rfl (λ_ _=>.inl gP) d⟩
theorem aue{c:dx}(h:Ps F n P c Q a w):(Code.loop c).wpIn F n P Q a w:=by intro b k cs i f d;obtain⟨e,l,w',j,g⟩:=h b k cs i f d;exact⟨e,l,w',j,.of_steps (.one (lu f d rfl) stepR_loop) g⟩
end
section
variable{P:cc}{G:GT}{c:Ctx}{w:bf}{a:fa}{N:Nat}
theorem Ta(δ:Dl)(H:gQ):H.l<=(δ.app H (Al.last H)).l:=by
 cases δ with
 | no=>exact ej _
 | cells v o xs=>simp only[Dl.app];split<;>simp
 | obj v ob=>simp[Dl.app]
 | new ob=>simp[Dl.app,Al.last]
theorem Sy(ks:nX)(H:gQ):(pJ ks H).l=ks.l:=by simp[pJ]
theorem adn{ks:nX}{H:gQ}{f:Nat->Nat}:∀ {vs:List Nat} {ds:List Deferred},oF c vs ds->(∀v∈vs,∀L,c.ι v 0=aE L->(c.ib ks H).ι (f v) 0=aE L)->oF (c.ib ks H) (vs.map f) ds:=by
 intro vs ds h
 induction h with
 | nil=>intro _;exact .nil
 | cons L h1 e _ b=>intro a;exact .cons L (a _ gP L h1) e (b λv d=>a v (by simp[d]))
theorem ae5{n:Nat}{d:D}{v:Nat}(a:v∈jQ n d):n<=v:=by cases d<;>simp only[jQ]at a<;>first|(split at a<;>simp at a;omega)|(simp at a)
theorem adA{n:Nat}{o:Ob}{v:Nat}(a:v∈pg n o):n<=v:=by
 unfold pg at a;split at a
 .obtain⟨l2,b,c⟩:=bq.1 a;obtain⟨d,_,rfl⟩:=aj.1 b;exact ae5 c
 .obtain⟨l2,b,c⟩:=bq.1 a;obtain⟨d,_,rfl⟩:=aj.1 b;exact ae5 c
 .cases a
theorem Dd{s:St}(hs:mA G N c w s a){n:Nat}(u:n<=s.H.l)(live:List Nat) :
  ∃c',mA G N c' w (cut n live s) a/\Step n c s.H w c' (cut n live s).H w/\n<=(cut n live s).H.l:=by
 unfold cut;split
 .exact⟨c,⟨hs.gW,F4 hs.env live,hs.size,hs.marks⟩,Step.refl _ _ _ _,u⟩
 .dsimp only;generalize j:dedup _=K
  have m:∀v∈K,v∈(((forget live s.env).map λp=>jQ n p.2).flatten++((s.H.take n).map (pg n)).flatten++s.marks.filter (n<=·)).filter (· < s.H.l):=λv b=>by rw[<-j]at b;exact Lg b
  have y:∀(d:D) (v:Nat),v∈jQ n d->n<=v:=by intro d v b;cases d<;>simp only[jQ]at b<;>first|(split at b<;>simp at b;omega)|(simp at b)
  have x:∀v∈K,n<=v:=by
   intro v b;have:=(aH.1 (m v b)).1;rcases ai.1 this with h|h
   .rcases ai.1 h with h|h
    .grind
    .obtain⟨l,hl,q⟩:=bq.1 h;obtain⟨o,_,rfl⟩:=aj.1 hl;exact adA q
   .grind
  have e:CS (jx n K):=acu x (by rw[<-j];exact RW _);have r:=Xm (ks:=jx n K) hs.gW (n:=n) acs;refine⟨c.ib (jx n K) s.H,⟨HO hs.gW e,aao hs.gW (F4 hs.env live),hs.size,?_⟩,r,?_⟩
  .refine adn hs.marks λv b L g=>?_
   have t:v<s.H.l:=by
    rcases bU v s.H.l with h|h
    .exact h
    .rw[hs.gW.out v 0 h]at g;cases g
   have:∃i,iP (jx n K) v=aE i:=by
    by_cases k:v<n
    .refine⟨v,W7 e ?_⟩;unfold jx;rw[ah (by simpa using k)];simp[k]
    .have f:v∈K:=by rw[<-j];refine Jr (aH.2 ⟨bK _ (aH.2 ⟨b,by simpa using gL.1 k⟩),by simpa using t⟩)
     obtain⟨i,hi⟩:=aG.1 f;refine⟨n+i,W7 e ?_⟩;unfold jx;rw[ao gP];simp[hi]
   obtain⟨i,hi⟩:=this;rw[hi];simp only[bh];rw[Ij hi];exact g
  .rw[Sy];simp[jx]
theorem abm{s:St}(hs:mA G N c w s a)(S:List Nat):∃c',mA G N c' w (mC S s) a/\Step s.H.l c s.H w c' (mC S s).H w/\(mC S s).H.l=s.H.l:=by
 refine⟨c.ib (nv s.H S) s.H,⟨HO hs.gW abl,aao hs.gW hs.env,hs.size,?_⟩,Xm hs.gW abk,T'⟩
 have:=adn (ks:=nv s.H S) (H:=s.H) (f:=id) hs.marks λv _ L b=>by
  have g:v<s.H.l:=by
   rcases bU v s.H.l with h|h
   .exact h
   .rw[hs.gW.out v 0 h]at b;cases b
  have d:=abk (S:=S) v g;simp only[ar]at d;obtain⟨p,i,e⟩:=d;simp only[Ctx.ib,id,i,e];exact b
 simpa[mC]using this
theorem arY{n:Nat}{d:D}{v:Nat}(a:v∈Hx n d):n<=v:=by
 unfold Hx at a;split at a
 .grind
 .grind
 .simp at a
theorem yh{H:gQ}(gW:iy G c H w){n:Nat}(i:n<=H.l)(own:Nat){u:cp}{d:D}(b:gX c w u d) :
  ∃c',iy G c' (leave own n H d).2 w/\gX c' w u (leave own n H d).1/\Step n c H w c' (leave own n H d).2 w/\n<=(leave own n H d).2.l:=by
 unfold leave;split
 .exact⟨c,gW,b,Step.refl _ _ _ _,i⟩
 .dsimp only;generalize e:dedup _=K
  have j:∀v∈K,n<=v:=by
   intro v a;rw[<-e]at a;have:=(aH.1 (Lg a)).1;rcases ai.1 this with h|h
   .split at h
    .simp at h
    .exact arY h
    .grind
    .grind
   .obtain⟨l,hl,g⟩:=bq.1 h;obtain⟨o,_,rfl⟩:=aj.1 hl;exact adA g
  have f:CS (jx n K):=acu j (by rw[<-e];exact RW _);exact⟨c.ib (jx n K) H,HO gW f,Cx gW 40 b,Xm gW acs,by rw[Sy];simp[jx]⟩
theorem amf(args:List D)(k:Nat):(wH args).get k=(args[k]?).getD .any:=by
 have key:∀(l:List D) (i k:Nat),Env.get ((l.zipIdx i).map λp=>(p.2,p.1)) k=if k<i then .any else(l[k-i]?).getD .any:=by
  intro l
  induction l with
  | nil=>intro i k;simp[Env.get]
  | cons d l a=>
   intro i k;simp only[List.zipIdx_cons,List.map_cons,Env.y4];split
   .grind
   .grind
 have:=key args 0 k;simpa[wH]using this
theorem ahA{vs:List cp}{args:List D}(b:kF c w vs args)(n:Nat):mg c w (wH args).get { tmps:=vs.toArray++Array.replicate (n-vs.toArray.size) undef,defers:=[] }:=λk=>by
 rw[amf];have hl:=b.l
 cases f:args[k]? with
 | none=>exact .any _
 | some d=>
  have a:k<vs.l:=by rw[hl];exact(ae.1 f).1
  have g:vs[k]? = aE vs[k]:=by simp[a]
  have:=b.get k vs[k] d g f;simp only[bh]
  have e:(vs.toArray++Array.replicate (n-vs.toArray.size) undef).getD k undef=vs[k]:=by rw[dA,cV (by simpa using a)];simp[a]
  rw[e];exact this
theorem alK{H:gQ}(h:iy G c H w){t:hY}(k:ry P t=aE hI){x d:D}{u:cp}(j:gX c w u x)(a:zm x H=aE d) :
  ∃v,(ga t u).run P w = .ok v w/\gX c w v d/\∃b o,u = .pointer (aE ⟨b,o,er⟩):=by
 unfold zm at a;split at a
 .rename_i v g o;split at a
  .rename_i n cs l;have m:=wO l;obtain⟨b,p,rfl,f⟩:=PJ h m j;obtain⟨u,e,_,i⟩:=Ss k f (d:=d) (by simpa using a);exact⟨u,e,i,b,p,rfl⟩
  .cases a
 .rename_i cs;obtain⟨b,p,rfl,_,f⟩:=Bn j;obtain⟨u,e,_,i⟩:=Ss k f a;exact⟨u,e,i,b,p,rfl⟩
 .cases a
theorem alL{H:gQ}(h:iy G c H w){t:hY}{n:Nat}(l:ry P t=aE fp)(hs:lH P t=aE n){x d:D}{u:cp}(k:gX c w u x)(a:yg n x H=aE d) :
  ∃v,(ga t u).run P w = .ok v w/\gX c w v d/\∃b o,u = .pointer (aE ⟨b,o,er⟩):=by
 unfold yg at a;split at a
 .rename_i v g o;split at a
  .rename_i r cs m;split at a
   .rename_i e;cases a;have q:=wO m;obtain⟨b,p,rfl,i⟩:=PJ h q k;obtain⟨u,f,j⟩:=Su (n:=n) l hs i iz;exact⟨u,f,j,b,p,rfl⟩
   .cases a
  .cases a
 .rename_i cs;split at a
  .rename_i e;cases a;obtain⟨b,p,rfl,_,i⟩:=Bn k;obtain⟨u,f,j⟩:=Su (n:=n) l hs i e;exact⟨u,f,j,b,p,rfl⟩
  .cases a
 .cases a
def EM(tmps:Array cp):gb->Sem cp
 | .tmp t=>pure (tmps.getD t undef)
 | .cell a t=>do loadVar t (<-asAddr (tmps.getD a undef))
theorem asr{s:St}(hs:mA G N c w s a){x:gb}{X:xB}(e:cR P x=aE X){d:D}(f:HH s X=aE d) :
  ∃v,(EM a.tmps x).run P w = .ok v w/\gX c w v d:=by
 cases x with
 | tmp t=>
  cases e;simp only[HH,ax]at f;subst f;exact⟨_,rfl,hs.env t⟩
 | cell p t=>
  have j:=hs.env p;generalize q:a.tmps.getD p undef=u at j
  have key:∀v,(ga t u).run P w = .ok v w->(∃b o,u = .pointer (aE ⟨b,o,er⟩))->(EM a.tmps (.cell p t)).run P w = .ok v w:=by rintro v h ⟨b,o,rfl⟩;simpa[ga,Instr.sureAddr,asAddr,EM,q]using h
  simp only[cR]at e;split at e
  .rename_i n l m;cases e;obtain⟨v,g,i,k⟩:=alK hs.gW l j f;exact⟨v,key v g k,i⟩
  .rename_i n l m;cases e;obtain⟨v,g,i,k⟩:=alL hs.gW l m j f;exact⟨v,key v g k,i⟩
  .cases e
theorem W6{s:St}(hs:mA G N c w s a):∀(l:List gb) {xs:List xB} {ds:List D},C8 P l=aE xs->xu s xs=aE ds ->
  ∃vs:List cp,(l.mapM (EM a.tmps)).run P w = .ok vs w/\kF c w vs ds
 | [],xs,ds,h1,h2=>by cases h1;cases h2;exact⟨[],rfl,.nil⟩
 | x::l,xs,ds,h1,h2=>by
  simp only[C8]at h1;split at h1
  .rename_i X k hX j;cases h1;simp only[xu]at h2;split at h2
   .rename_i d i h b;cases h2;obtain⟨v,f,g⟩:=asr hs hX h;obtain⟨vs,e,tO⟩:=W6 hs l j b;exact⟨v::vs,by simp[fw,f,e],.cons g tO⟩
   .cases h2
  .cases h1
theorem ast{s:St}(hs:mA G N c w s a){func:Func}{fn:kn}(k:C8 P func.results.toList=aE fn.results){d:D}(g:AL.results fn s=aE d) :
  ∃v,(Go.results func a.tmps).run P w = .ok v w/\gX c w v d:=by
 have e:∀vs:List cp,(func.results.toList.mapM (EM a.tmps)).run P w = .ok vs w->(Go.results func a.tmps).run P w = .ok (if h:vs.toArray.size=1 then vs.toArray[0]else .tuple vs.toArray) w:=by
  intro vs b
  have h1:(func.results.mapM (EM a.tmps)).run P w = .ok vs.toArray w:=by rw[fR,Sem.run_map,b];rfl
  have j:Go.results func a.tmps=(do let vs <-func.results.mapM (EM a.tmps);pure (if h:vs.size=1 then vs[0]else .tuple vs)):=rfl;rw[j,eL,h1];rfl
 unfold AL.results at g;split at g
 .rename_i d' i;cases g;obtain⟨vs,b,f⟩:=W6 hs _ k i
  cases f with
  | cons h t=>
   cases t;exact⟨_,e _ b,h⟩
 .rename_i ds l i;cases g;obtain⟨vs,b,f⟩:=W6 hs _ k i;refine⟨_,e _ b,?_⟩
  have hl:vs.toArray.size≠1:=by
   intro h1;have j:ds.l=1:=by rw[<-f.l];simpa using h1
   match ds,j with
   | [d],_=>exact l d rfl
  rw[dif_neg hl];exact .tup vs ds f.l f.get
 .cases g
end
section
variable{P:cc}{G:GT}{c:Ctx}{H:gQ}{w:bf}{env:iM}{a:fa}{N:Nat}
theorem aaf(h:iy G c H w){v:Nat}{ob:Ob}(z:H[v]? = aE ob)(P:ob.alive=fp){L:Loc}(M:c.ι v ob.gen=aE L)(x:L.kQ=hI)
  {w':bf} (F:w'.os=w.os/\w.drawn<=w'.drawn) (R:w'.tape=w.tape) (I:w'.output=w.output) (C:w'.heap.size=w.heap.size) (t:∀b,b≠L.b->w'.heap[b]? = w.heap[b]?) :
  iy G c (H.set v .dead) w'/\Step H.l c H w c (H.set v .dead) w':=by
 have p:=(ae.1 z).1;have B:nh c H v L:=⟨ob,z,P,M⟩;have D:nH c H L.b:=⟨v,L,B,x,rfl⟩
 have s:∀u l,nh c (H.set v .dead) u l->u≠v/\nh c H u l:=by
  rintro u l ⟨o,f,y,hi⟩;rw[uG p]at f;split at f
  .cases f;cases y
  .rename_i n;exact⟨n,o,f,y,hi⟩
 have m:∀b,nH c (H.set v .dead) b->nH c H b:=λb ⟨u,l,hl,r⟩=>⟨u,l,(s u l hl).2,r⟩
 have hs:Step H.l c H w c (H.set v .dead) w':=
  ⟨F,R,I,U,rfl,λ_ h=>h,λ_ h=>.inl h,λb _ O=>t b (λe=>O (e▸D)),λ_ _ _ _ h=>h,λb i=>.inr (m b i)⟩
 have A:∀u d,gX c w u d->gX c w' u d:=λu d q=>q.sv h.toHeapOK hs
 refine⟨{
  inj:=λu E l K h1 Q=>h.inj u E l K (s _ _ h1).2 (s _ _ Q).2
  lt:=λb i=>by rw[C];exact h.lt b (m b i)
  nF:=λb i=>h.nF b (m b i)
  l9:=λb i=>by rw[C];exact h.l9 b i
  out:=λu k N=>h.out u k (by simpa using N)
  n5:=λu o k f j=>by
   rw[uG p]at f;split at f
   .cases f;rcases j with j|⟨j,_⟩<;>cases j
   .exact h.n5 u o k f j
  ob:=λu o f=>by
   rw[uG p]at f;split at f
   .cases f;simp[iY]
   .rename_i n;refine iY.keep (c:=c) (c':=c) rfl A (λl hl J q=>t _ λe=>n (h.inj u v l L ⟨o,f,q,hl⟩ B J x e)) (h.ob u o f)
  gl:=λg cs hg=>let ⟨a,b⟩:=h.gl g cs hg;⟨a,A _ _ b⟩
  rt:=h.rt },hs⟩
theorem alA{fn:Func}{tmps:Array cp}{R:Ending->bf->Prop}:∀ {ms:List Nat} {ds:List Deferred} {H H1:gQ} {w:bf},oF c ms ds->iy G c H w->kill ms H=aE H1 ->
  (∀w1,iy G c H1 w1->Step H.l c H w c H1 w1->H1.l=H.l->LeavesIn (FW er) 0 P fn tmps R [] .returning w1)->LeavesInM (FW er) 0 P fn tmps R ds .returning w:=by
 intro ms
 induction ms with
 | nil=>
  intro ds H H1 w e gW d k;cases e;cases d;exact k w gW (Step.refl _ _ _ _) rfl
 | cons v ms i=>
  intro ds H H1 w e gW d k
  cases e with
  | @cons _ _ ds L h1 h e=>
   simp only[kill]at d;split at d
   .rename_i g;have f:=gW.ob v _ g;simp only[Ob.gen]at f;rw[h1]at f;simp only[iY]at f;have a:=f.resolve_left (by simp[h]);have l:L.b<w.heap.size:=(aX.1 a).1;obtain⟨k1,k2⟩:=aaf (w':={ w with heap:=w.heap.setIfInBounds L.b (.deferred er) }) gW g rfl h1 h ⟨rfl,ej _⟩ rfl rfl gP (λb j=>by rw[dh (cP j)]);refine⟨gP,.inl ⟨L.b,{ w with heap:=w.heap.setIfInBounds L.b (.deferred er) },rfl,?_,?_⟩⟩
    .simp[Instr.takeDeferred,kb,kl,fb,a]
    .refine i e k1 d λw1 q1 q2 q3=>k w1 q1 (k2.trans q2 gP) (by rw[q3];simp)
   .cases d
theorem asX(gW:iy G c H w)(s:mg c w env a){o:Oper}{m:jG}(b:pv P G o=aE m){v:Nat}{args:List D}(f:yieldOf env m=aE (v,args)){rf:Nat}{Q:Env}(M:H[v]? = aE (.iV rf Q .ready)) :
  ∃(L:Loc) (r:Loop) (vs:List cp),c.ι v 0=aE L/\L.kQ=hI/\w.heap[L.b]? = aE (.loop r)/\kF c w vs args /\
   (vs.l=r.params.size->(execOp a.eval o).run P w = .ok (.round L.b r.fn ((r.params.zip vs.toArray).foldl (λtmps (t,a)=>tmps.setIfInBounds t a) r.tmps) r.assign r.body) w):=by
 unfold yieldOf at f;split at f
 .rename_i y j;split at f
  .rename_i v' E;cases f;obtain⟨cl,q⟩:=ZY b rfl;have S:=b;unfold pv at b;simp only[q,aB,ag]at b;obtain⟨xs,A,b⟩:=b;have K:=C9 gW s cl.args.toList A
   have F:∃x X,cl.callee = .value x/\cX G x=aE X/\X=y/\xs=j:=by
    split at b
    .split at b
     .exfalso;simp only[aL,ax]at b;split at b<;>cases b
     .cases b
    .rename_i x R l;simp only[ag,aL,ax]at b;obtain⟨X,hX,O⟩:=b;cases O;exact⟨x,y,l,hX,rfl,rfl⟩
    .split at b
     .simp only[ag]at b;obtain⟨C,_,b⟩:=b;split at b
      .simp only[ag]at b;obtain⟨i,_,z,_,B,_,b⟩:=b;split at b
       .split at b
        .cases b
        .cases b
       .cases b
      .cases b
     .cases b
    .split at b
     .simp only[ag]at b;obtain⟨C,_,b⟩:=b;split at b
      .simp only[ag]at b;obtain⟨B,_,b⟩:=b;split at b
       .simp only[ag]at b;obtain⟨n,_,b⟩:=b;split at b
        .cases b
        .cases b
       .cases b
      .cases b
     .cases b
    .split at b
     .split at b
      .cases b
      .cases b
      .cases b
      .cases b
     .cases b
    .cases b
    .cases b
    .cases b
   obtain⟨x,X,l,hX,rfl,rfl⟩:=F;have h:=jH gW s hX;rw[E]at h;generalize N:a.eval x=u at h
   cases h with
   | jF _ L p J=>
    have g:=gW.ob v _ M;simp only[Ob.gen]at g;rw[p]at g;simp only[iY]at g;obtain⟨_,r,d,_⟩:=g;refine⟨L,r,_,p,J,d,K,λI=>?_⟩;have e:cl.args.map a.eval=(cl.args.toList.map a.eval).toArray:=by cases cl.args;simp
    have k:cl.args.size=r.params.size:=by simpa using I
    simp only[execOp,q,resolve,l,N,Deferred.ofValue,eL,Sem.run_pure,ez,invoke,Instr.yield,ep,kb,fb,d];simp[fb,d,k,e]
  .cases f
 .cases f
theorem aan:∀(ps:List fx) (vs:List cp) (ds:List D) (tmps:Array cp) (a:Env),kF c w vs ds->(∀p∈ps,p<tmps.size)->(∀k,gX c w (tmps.getD k undef) (a.get k)) ->
  ∀k,gX c w (((ps.zip vs).foldl (λ(tmps:Array cp) (p:fx×cp)=>tmps.setIfInBounds p.1 p.2) tmps).getD k undef) ((wP ps ds a).get k)
 | [],vs,ds,tmps,a,_,_,h,k=>by simpa[wP]using h k
 | p::ps,[],ds,tmps,a,b,_,h,k=>by cases b;simpa[wP]using h k
 | p::ps,v::vs,ds,tmps,a,b,hp,h,k=>by
  cases b with
  | @cons _ d _ ds i b=>
   simp only[List.zip_cons_cons,cK,wP];refine aan ps vs ds (tmps.setIfInBounds p v) ((p,d)::a) b (λq g=>by simpa using hp q (by simp[g])) (λj=>?_) k;have f:p<tmps.size:=hp p gP;simp only[Env.y4];split
   .rename_i e;subst e;have:(tmps.setIfInBounds p v).getD p undef=v:=by simp[Array.getD,f]
    rw[this];exact i
   .rename_i e
    have:(tmps.setIfInBounds p v).getD j undef=tmps.getD j undef:=by simp only[dA,dh e]
    rw[this];exact h j
theorem abh:∀(l:List (fx×cp)) (tmps:Array cp),(l.foldl (λ(tmps:Array cp) (p:fx×cp)=>tmps.setIfInBounds p.1 p.2) tmps).size=tmps.size
 | [],_=>rfl
 | p::l,tmps=>by simp only[cK];rw[abh l];simp
def zG(G:GT)(N n:Nat)(iI:Bool)(c:Ctx)(H:gQ)(w:bf)(R:Out->Prop)(Q:jA->fa->bf->Prop):Prop:=
 ∀(o:Out) (c':Ctx) (w':bf) (a:fa),R o->o.st.iI=iI->n<=o.st.H.l->mA G N c' w' o.st a->Step n c H w c' o.st.H w'->Q o.ex a w'
theorem Sd{s:St}(hs:mA G N c w s a){v rf:Nat}{e:Env}{st:sx}(g:s.H[v]? = aE (.iV rf e st)){L:Loc}(f:c.ι v 0=aE L) :
  ∃r:Loop,w.heap[L.b]? = aE (.loop r)/\L.kQ=hI/\(∀k,gX c w (r.tmps.getD k undef) (e.get k))/\(∃M,G.rt rf=aE (M,r.params,r.assign,r.body)/\M<=r.tmps.size)/\st.is r:=by
 have b:=hs.gW.ob v _ g;simp only[Ob.gen]at b;rw[f]at b;simp only[iY]at b;obtain⟨h1,r,j,i,d,h⟩:=b;rw[hs.gW.rt]at d;exact⟨r,j,h1,i,d,h⟩
theorem ad5{s:St}(hs:mA G N c w s a){v rf:Nat}{b:Env}{st st':sx}(e:s.H[v]? = aE (.iV rf b st)){L:Loc}(d:c.ι v 0=aE L){r:Loop}(f:w.heap[L.b]? = aE (.loop r))
  (r':Loop) (h1:r'.tmps=r.tmps) (o:r'.params=r.params) (n:r'.assign=r.assign) (m:r'.body=r.body) (l:st'.is r') :
  mA G N c { w with heap:=w.heap.setIfInBounds L.b (.loop r') } { s with H:=s.H.set v (.iV rf b st') } a/\Step s.H.l c s.H w c (s.H.set v (.iV rf b st')) { w with heap:=w.heap.setIfInBounds L.b (.loop r') } /\
   (kl L.b (.loop r')).run P w = .ok () { w with heap:=w.heap.setIfInBounds L.b (.loop r') }:=by
 obtain⟨u,h,g,t,⟨M,q,p⟩,x⟩:=Sd hs e d;rw[f]at h;cases h
 obtain⟨k1,k2⟩:=CN hs.gW e rfl rfl (ob':=.iV rf b st') rfl d g (.loop r') (λw' j i=>by
  simp only[iY];refine⟨g,r',j,λk=>by rw[h1];exact i _ _ (t k),⟨M,?_,by rw[h1];exact p⟩,l⟩
  rw[hs.gW.rt,q,o,n,m])
 exact⟨⟨k1,λk=>(hs.env k).sv hs.gW.toHeapOK k2,hs.size,hs.marks⟩,k2,by simp[kl,fb,f]⟩
theorem ak2(a:Option Nat)(l:Nat):(FW a).inRound l=FW (aE l):=rfl
theorem auj{s:St}{f:Option Nat}{n:Nat}{o:Oper}{Z:jG}{next:fa->bf->Prop}{Q:jA->fa->bf->Prop}(hs:mA G N c w s a)(hc:pv P G o=aE Z)
  (hd:vQ N o.dst=fp) {v rf:Nat} {args:List D} {e0:Env} (kY:yieldOf s.env.get Z=aE (v,args)) (C:s.H[v]? = aE (.iV rf e0 .ready)) {M:Nat} {ps:Array fx} {ac bc:dx} (xN:G.rt rf=aE (M,ps,ac,bc))
  (m:args.l=ps.size) (GN:∀p∈ps.toList,p<M) {Ra Rb:Out->Prop}
  (hA:∀(f:Option Nat) (n:Nat) (Q:jA->fa->bf->Prop) (c:Ctx) (w:bf) (a:fa),mA G M c w { env:=wP ps.toList args e0,H:=s.H,iI:=fp } a ->
   zG G M s.H.l fp c s.H w Ra Q->ac.wpIn (FW f) n P Q a w)
  (hn:∀o,Ra o->o.stop=hI/\∃g,o.st.H[v]? = aE (.iV rf g .ready))
  (hB:∀s1 g,Ra (.norm s1)->s1.iI=fp->s1.H[v]? = aE (.iV rf g .ready)->∀(f:Option Nat) (n:Nat) (Q:jA->fa->bf->Prop) (c:Ctx) (w:bf) (a:fa),mA G M c w { s1 with H:=s1.H.set v (.iV rf g .busy) } a ->
   zG G M s1.H.l fp c (s1.H.set v (.iV rf g .busy)) w Rb Q->bc.wpIn (FW f) n P Q a w)
  (hm:∀o,Rb o->∃e,o.st.H[v]? = aE (.iV rf e .busy))
  (k:∀(q:Out) (e:Env) (c':Ctx) (w':bf) (a':fa),Rb q->q.st.H[v]? = aE (.iV rf e .busy)->s.H.l<=q.st.H.l->mA G N c' w' { s with env:=put s.env o.dst (.b !q.stop),H:=q.st.H.set v (.iV rf e q.CD) } a' ->
   Step s.H.l c s.H w c' (q.st.H.set v (.iV rf e q.CD)) w'->next a' w'):o.wpIn (FW f) n P a w next Q:=by
 obtain⟨L,r,vs,ic,jk,u,Y,jr⟩:=asX hs.gW hs.env hc kY C;obtain⟨r0,z,_,a3,⟨M',a4,a6⟩,a5⟩:=Sd hs C ic;rw[u]at z;cases z;rw[xN]at a4;cases a4;have X:v<s.H.l:=(ae.1 C).1;have js:vs.l=r.params.size:=by rw[Y.l];exact m
 refine⟨λ_ _=>trivial,?_⟩;rw[Oper.semAt_plain (FW f) a.eval o (EG hc),jr js];refine⟨λh=>by simp[Fence.wide]at h,roundIn_of_wpIn (F:=FW f) trivial ?_⟩;rw[ak2]
 have x:(r.params.zip vs.toArray).foldl (λtmps (t,a)=>tmps.setIfInBounds t a) r.tmps=(r.params.toList.zip vs).foldl (λ(tmps:Array cp) (p:fx×cp)=>tmps.setIfInBounds p.1 p.2) r.tmps:=by rw[<-Array.foldl_toList];simp
 refine hA (aE L.b) _ _ c w _ ⟨hs.gW,λj=>?_,?_,.nil⟩ ?_
 .show gX c w (Array.getD ((r.params.zip vs.toArray).foldl (λtmps (t,a)=>tmps.setIfInBounds t a) r.tmps) j undef) _;rw[x];exact aan _ _ _ _ _ Y (λp hp=>aW (GN p hp) a6) a3 j
 .show M<=Array.size ((r.params.zip vs.toArray).foldl (λtmps (t,a)=>tmps.setIfInBounds t a) r.tmps);rw[x,abh];exact a6
 .intro V c1 w1 z BL J R W Cd;obtain⟨y,g,B⟩:=hn V BL
  cases V with
  | exit=>cases y
  | ret=>cases y
  | norm s1=>
   have S:c1.ι v 0=aE L:=Cd.old v 0 L X ic;obtain⟨l,b1,b2,b3,_,b5⟩:=Sd W B S;have I:l.state = .ready/\l.pending=none:=b5;obtain⟨k1,k2,k3⟩:=ad5 (P:=P) (st':=.busy) W B S b1 { l with state:=.busy } rfl rfl rfl rfl rfl;refine⟨{ w1 with heap:=w1.heap.setIfInBounds L.b (.loop { l with state:=.busy }) },?_,?_⟩
   .have hg:(ep L.b).run P w1 = .ok l w1:=by simp[ep,kb,fb,b1]
    simp only[Instr.beginRound,eL,hg,ez,k3,I.1];simp
   .refine hB s1 g BL J B (aE L.b) _ _ c1 _ z k1 ?_;intro b c2 d h' T g9 Ak Rk GX;obtain⟨e,A⟩:=hm b T;have K:v<s1.H.l:=aW X R;have Ch:c2.ι v 0=aE L:=GX.old v 0 L K S;obtain⟨i,d1,d2,d3,_,d5⟩:=Sd Rk A Ch
    have key:∀(j:Option dx),b.CD.is { i with state:=if j.isNone then .ready else .done,pending:=j }->j.isNone = !b.stop->∃v w',(kD L.b j).run P d = .ok v w'/\next (a.put o.dst v) w':=by
     intro j hj E;obtain⟨e1,e2,e3⟩:=ad5 (P:=P) (st':=b.CD) Rk A Ch d1 { i with state:=if j.isNone then .ready else .done,pending:=j } rfl rfl rfl rfl hj;have hg:(ep L.b).run P d = .ok i d:=by simp[ep,kb,fb,d1]
     refine⟨.bool j.isNone,{ d with heap:=d.heap.setIfInBounds L.b (.loop { i with state:=if j.isNone then .ready else .done,pending:=j }) },?_,?_⟩
     .simp only[kD,eL,hg,ez,e3];rfl
     .have O:gX c2 { d with heap:=d.heap.setIfInBounds L.b (.loop { i with state:=if j.isNone then .ready else .done,pending:=j }) } (.bool j.isNone) (.b !b.stop):=by
       have:D.b (!b.stop)=D.val (.bool j.isNone):=by rw[E]
       rw[this];exact .val _
      have ig:Step s.H.l c s.H w c2 (b.st.H.set v (.iV rf e b.CD)) { d with heap:=d.heap.setIfInBounds L.b (.loop { i with state:=if j.isNone then .ready else .done,pending:=j }) }:=
       (Cd.trans (k2.trans (GX.trans e2 Ak) (ej _)) R)
      refine k b e c2 _ _ T A (Nat.le_trans R Ak) (hs.next e1.gW ig hd O) ig
    cases b with
    | norm U=>exact key er ⟨rfl,rfl⟩ rfl
    | ret U=>exact key (aE .ret) ⟨rfl,rfl⟩ rfl
    | exit id U=>exact key (aE (.exit id)) ⟨rfl,rfl⟩ rfl
theorem ahz{s:St}(hs:mA G N c w s a){rf:Nat}{ps:Array fx}{ac bc:dx}(k:G.rt rf=aE (N,ps,ac,bc))(live:List Nat)(fn:eB) :
  ∃(c2:Ctx) (w2:bf) (g f:Loc),(kx fn a.tmps ps ac bc er).run P w = .ok (f.b,[{ target:=.collected g.b,args:=#[] }]) w2/\g.kQ=hI/\f.kQ=hI /\
   c2.ι s.H.l 0=aE g/\c2.ι (s.H.l+1) 0=aE f/\iy G c2 (s.H ++ [.jJ,.iV rf (forget live s.env) .ready]) w2/\Step s.H.l c s.H w c2 (s.H ++ [.jJ,.iV rf (forget live s.env) .ready]) w2:=by
 obtain⟨d,_,b⟩:=RS hs.gW (o7.last s.H) (.deferred (aE [])) .jJ rfl rfl (λ_ e=>by simp only[iY];exact .inr e);simp only[Al.last]at d b;generalize n:c.set s.H.l 0 ⟨w.heap.size,0,0,hI⟩=c1 at d b;have o:c1.ι s.H.l 0=aE ⟨w.heap.size,0,0,hI⟩:=by rw[<-n];exact Ctx.uH _ _ _ _
 generalize h:w.alloc (.deferred (aE []))=w1 at d b;have p:w1.heap.size=w.heap.size+1:=by rw[<-h];simp
 have m:(s.H ++ [Ob.jJ]).l=s.H.l+1:=gP
 obtain⟨o5,_,i⟩:=RS d (o7.last (s.H ++ [.jJ])) (.loop { state:=.ready,pending:=er,fn:=fn,tmps:=a.tmps,params:=ps,assign:=ac,body:=bc,defers:=w.heap.size }) (.iV rf (forget live s.env) .ready) rfl rfl (λl e=>by
  simp only[iY];refine⟨trivial,_,e,λj=>l _ _ ((F4 hs.env live j).sv hs.gW.toHeapOK b),⟨N,?_,hs.size⟩,rfl,rfl⟩
  rw[<-k,<-d.rt];rfl)
 simp only[Al.last,m,aO,e9]at o5 i;refine⟨_,_,⟨w.heap.size,0,0,hI⟩,⟨w1.heap.size,0,0,hI⟩,?_,rfl,rfl,?_,Ctx.uH _ _ _ _,o5,b.trans i U⟩
 .subst h;simp[kx]
 .rw[Ctx.yv _ _ U];exact o
theorem auh{s:St}{n:Nat}{Q:jA->fa->bf->Prop}(hs:mA G N c w s a){g:Operand}{X:X}(hx:cX G g=aE X){f:eB}{first cap:List D}(s5:ev s.env.get X = .fn (.func f) first cap)
  (l5:uW P f=fp) {rf:Nat} {ps:Array fx} {ac bc:dx} (xN:G.rt rf=aE (N,ps,ac,bc)) {live:List Nat} {R1:D->gQ->Prop} {R:Out->Prop}
  (kG:xA P G f (first ++ [.jF (s.H.l+1)]++cap) (s.H ++ [.jJ,.iV rf (forget live s.env) .ready]) R1)
  (k:∀d H',R1 d H'->∃env st o,H'[s.H.l+1]? = aE (.iV rf env st)/\Cu { s with H:=H'.set (s.H.l+1) .dead,marks:=s.H.l::s.marks } st=aE o/\R o)
  (Z:zG G N s.H.l s.iI c s.H w R Q):(Code.rangeFunc g ps ac bc).wpIn (FW er) n P Q a w:=by
 refine wpIn_rangeFunc λfn _=>?_;obtain⟨c2,w2,K,l,a1,nC,rO,Av,M,o5,I⟩:=ahz (P:=P) hs xN live fn;have J:∀u d,gX c w u d->gX c2 w2 u d:=λu d hd=>hd.sv hs.gW.toHeapOK I;have Y:=jH hs.gW hs.env hx;rw[s5]at Y;generalize hu:a.eval g=u at Y
 cases Y with
 | fn _ fs cs _ _ q1 q2 q3 q4=>
  have a2:gX c2 w2 (.func (.yield l.b) #[] #[]) (.jF (s.H.l+1)):=.jF _ l M rO
  have jh:kF c2 w2 (fs ++ [eK (.yield l.b) #[] #[]]++cs) (first ++ [.jF (s.H.l+1)]++cap):=
   ((kF.Lo q1 λi v d h1 E=>J _ _ (q3 i v d h1 E)).append (.cons a2 .nil)).append (kF.Lo q2 λi v d h1 E=>J _ _ (q4 i v d h1 E))
  have GU:(resolve a.eval (rangeCall g l.b) 0).run P w2 = .ok { target:=.fn (.func f) cs.toArray,args:=fs.toArray ++ #[eK (.yield l.b) #[] #[]] } w2:=by simp[resolve,hu,Deferred.ofValue];rfl
  have C:(invoke (.fn (.func f) cs.toArray) (fs.toArray ++ #[eK (.yield l.b) #[] #[]])).run P w2 = .ok (.enter f (fs ++ [eK (.yield l.b) #[] #[]]++cs).toArray) w2:=by have E:=Sr (P:=P) l5 (fs ++ [eK (.yield l.b) #[] #[]]++cs).toArray w2;simpa[invoke]using E
  have QR:=kG c2 w2 _ o5 jh
  have mb:CallsIn (FW er) (n-1) P f (fs ++ [eK (.yield l.b) #[] #[]]++cs).toArray w2 (rangePost (FW er) n P l.b Q { a with defers:=[{ target:=.collected K.b,args:=#[] }]++a.defers }):=by
   refine Jc.2 (QR.mono ?_);rintro e m ⟨v,t,d,T,rfl,hR,r,Kq,_,GX⟩;obtain⟨env,st,q,mE,A,UD⟩:=k d T hR;have U:(s.H ++ [Ob.jJ,Ob.iV rf (forget live s.env) .ready]).l=s.H.l+2:=gP;have Av:t.ι s.H.l 0=aE K:=GX.old _ 0 K (by rw[U];omega) Av;have M:t.ι (s.H.l+1) 0=aE l:=GX.old _ 0 l (by rw[U];omega) M;have O:=Kq.ob _ _ mE;simp only[Ob.gen]at O;rw[M]at O;simp only[iY]at O;obtain⟨_,p,V,_,_,y⟩:=O;have e0:l.b<m.heap.size:=(aX.1 V).1;obtain⟨m1,m2⟩:=aaf (w':={ m with heap:=m.heap.setIfInBounds l.b (.loop { p with state:=.exhausted }) }) Kq mE rfl M rO ⟨rfl,ej _⟩ rfl rfl gP (λb hb=>by rw[dh (cP hb)])
   have z:Step s.H.l c s.H w t (T.set (s.H.l+1) .dead) { m with heap:=m.heap.setIfInBounds l.b (.loop { p with state:=.exhausted }) }:=
    I.trans (GX.trans m2 r) (by rw[U];omega)
   have S:mA G N t { m with heap:=m.heap.setIfInBounds l.b (.loop { p with state:=.exhausted }) } { s with H:=T.set (s.H.l+1) .dead,marks:=s.H.l::s.marks } { a with defers:=[{ target:=.collected K.b,args:=#[] }]++a.defers }:=by
    refine⟨m1,λj=>(hs.env j).sv hs.gW.toHeapOK z,hs.size,.cons K Av nC (hs.marks.mono λv L h=>z.old v 0 L ?_ h)⟩;rcases bU v s.H.l with h'|h'
    .exact h'
    .rw[hs.gW.out v 0 h']at h;cases h
   have B:p.state≠.busy:=by
    cases st with
    | busy=>cases A
    | ready=>rw[y.1];decide
    | Df=>rw[y.1];decide
    | Bu=>rw[y.1];decide
   have F:(lb l.b).run P m = .ok p.pending { m with heap:=m.heap.setIfInBounds l.b (.loop { p with state:=.exhausted }) }:=by
    have hg:(ep l.b).run P m = .ok p m:=by have:m.heap[l.b]? = aE (.loop p):=V;simp[ep,kb,fb,this]
    have wy:(kl l.b (.loop { p with state:=.exhausted })).run P m = .ok () { m with heap:=m.heap.setIfInBounds l.b (.loop { p with state:=.exhausted }) }:=by have:m.heap[l.b]? = aE (.loop p):=V;simp[kl,fb,this]
    have a':(p.state == .busy)=false:=by generalize p.state=x at B;cases x<;>first|rfl|exact absurd rfl B
    simp only[lb,eL,hg,ez,a',wy];simp[wy]
   generalize ({ m with heap:=m.heap.setIfInBounds l.b (.loop { p with state:=.exhausted }) }:bf)=W at S z F;refine⟨p.pending,W,F,?_⟩
   have Vc:s.H.l<=(T.set (s.H.l+1) .dead).l:=by rw[U]at r;simp;omega
   cases st with
   | busy=>cases A
   | ready=>
    cases A;rw[y.2];exact Z _ t _ _ UD rfl Vc S z
   | Df=>
    cases A;rw[y.2];exact wpIn_ret (Z _ t _ _ UD rfl Vc S z)
   | Bu id=>
    cases A;rw[y.2];exact wpIn_exit (Z _ t _ _ UD rfl Vc S z)
  exact⟨l.b,_,w2,_,w2,f,_,w2,a1,GU,λ_ _=>trivial,C,λh=>by simp[Fence.wide]at h,mb⟩

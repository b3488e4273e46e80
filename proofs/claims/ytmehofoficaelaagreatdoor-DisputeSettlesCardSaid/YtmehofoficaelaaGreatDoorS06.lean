/- Part 6 of DisputeSettles. -/
import Derived.Shelf.SlSortCmp.NoneTotal
import Derived.Test.YtmehofoficaelaaGreatDoorS05
set_option linter.all false
namespace Go.AL
open Go Go.Proofs Go.Shelf Go.RowKit Go.Lib Go.Sort
structure xX(P:Program)(f:FuncId)(sz:Nat):Prop where
 pos:0<sz
 full:∀(α:Type) [Inhabited α] (enc:α->List Value) (_:∀x,(enc x).length=sz) (_:∀x,∀v∈enc x,v.oneCell'=true) (cf:α->α->Int) (_:SWO (ltOf cf)) (g lS off cap:Nat) (d:Array α) (w:World)
  (_:∀args w,(callFunc g args).run P w = .ok (.enter g args) w) (_:CmpLays P g #[] enc sz cf lS off d.size w) (_:HoldsK enc sz w lS off d) (_:lS<w.heap.size) (_:d.size<4611686018427387904),
  Calls P f #[.slice (some ⟨lS,off,none⟩) d.size cap,.func (.func g) #[] #[]] w λe w'=>e = .returned (.tuple #[])/\∃d' n os,PermIn 0 d.size d d'/\SortedIn (ltOf cf) 0 d.size d'/\w'=sortWorldK enc sz w lS off n d' os
 none:∀(p:Option Addr) (cap:Nat) (fv:Value) (w:World),Calls P f #[.slice p 0 cap,fv] w λe w'=>e = .returned (.tuple #[])/\w'=w
def xX.of{P:Program}{ρ:Ren}(L:SlLaysF0.n6 P ρ){k:Nat}(b:0<k)(c:∀w,(isAgg (ρ.t 24)).run P w = .ok true w)(a:∀w,(Go.sizeOf (ρ.t 24)).run P w = .ok k w):xX P (ρ.f 6) k where
 pos:=b
 full α _ enc h1 h2 cf hO g lS off cap d w eg hc hH hb hs:=AnyQ.slices_SortFunc L k c a enc h1 h2 cf hO g #[] lS off cap d w eg hc hH hb hs
 none:=AnyF.slices_SortFunc_none L
section
variable{P:Program}{G:GT}{c:Ctx}{H:U}{w:World}{α:Type}
structure El(c:Ctx)(w:World)(fc:α->List D)(l:List α) where
 vs:List Value
 a:α
 mem:a∈l
 cells:Cells (c.data c.F) w vs (fc a)
theorem abO{a:Type}[Inhabited a](enc:a->List Value)(k lS off m:Nat)(e:Array a)(os:Array Obj){b:Nat}(d:b<w.heap.size)(c:b≠lS):(sortWorldK enc k w lS off m e os).heap[b]? = w.heap[b]? := by simp only[sortWorldK,grow,putRowK,putRow,mapBlock,Go.Sort.ahead];rw[cJ (by simpa using d),bq,if_neg (cA c)]
theorem ad9(h:gE G c H w){W:World}(hs:w.heap.size<=W.heap.size)(d:∀b,c.F b->W.heap[b]? = w.heap[b]?):gE G (c.data c.F) [] W where
 inj v v' L L' h1:=by obtain⟨o,a,_⟩:=h1;simp at a
 lt b hb:=by obtain⟨v,L,⟨o,a,_⟩,_⟩:=hb;simp at a
 nF b hb:=by obtain⟨v,L,⟨o,a,_⟩,_⟩:=hb;simp at a
 kR b hb:=aM (h.kR b hb) hs
 out _ _ _:=rfl
 mF _ _ _ _ _:=rfl
 ob v o a:=by simp at a
 gl g cs hg:=by obtain⟨h1,f⟩:=(Nk h).gl g cs hg;exact⟨h1,gh.carry (c:=c.data c.F) (c':=c.data c.F) (λ_ _ _ h=>h) (λ_ h=>h) (λb o e=>Gu (d b e)) f⟩
 rt:=h.rt
theorem apE{W w':World}(h:kf W w'):∃q a,w'=grow (W.drewN q) a:=by
 obtain⟨⟨h1,n⟩,g,f,m,e⟩:=h;refine⟨w'.drawn-W.drawn,w'.heap.extract W.heap.size w'.heap.size,?_⟩
 cases w' with
 | mk l tp dr o k=>
  cases W with
  | mk b c j o' d=>
   simp only at *;subst h1 g f;simp only[grow,World.drewN];congr 1
   .apply Array.ext_getElem?;intro i;rcases bK i b.size with hi|hi
    .rw[cJ hi,e i hi]
    .rw[Array.getElem?_append_right hi,Array.getElem?_extract];split
     .congr 1;omega
     .exact eu (by omega)
   .omega
theorem jC.two{c:Ctx}{w:World}{vs:List Value}{d e:D}(h:jC c w vs [d,e]):∃u v,vs = [u,v]/\gh c w u d/\gh c w v e:=by
 cases h with
 | cons h1 h=>cases h with
  | cons a h=>cases h;exact⟨_,_,rfl,h1,a⟩
theorem ao9{f g:FuncId}{sz:Nat}(hS:xX P f sz){x:D}{R:D->U->Prop}(k:R (.tup []) H):vx P G f [.gg,x] H R:=by intro c w vs gi b;obtain⟨u,v,rfl,h1,h⟩:=jC.two b;cases h1;refine(hS.none none 0 v w).mono ?_;rintro e w' ⟨rfl,rfl⟩;exact⟨_,c,_,H,rfl,k,Nat.le_refl _,gi,.tup [] [] rfl (λi v d a=>by simp at a),Step.refl _ _ _ _⟩
theorem apa{f g:FuncId}{sz:Nat}(hS:xX P f sz)(hg:s5 P g=true)(fc:α->List D)(l:List α)(hl:∀a∈l,(fc a).length=sz)(gO:∀a∈l,gG (fc a)=true)(h0:0<l.length)(xi:l.length<4611686018427387904)
  (q:α->α->Int) (EO:∀x∈l,¬q x x<0) (tr:∀x∈l,∀y∈l,∀z∈l,q x y<0->q y z<0->q x z<0) (nt:∀x∈l,∀y∈l,∀z∈l,¬q x y<0->¬q y z<0->¬q x z<0)
  (hc:∀x∈l,∀y∈l,vx P G g [.agg (fc x),.agg (fc y)] [] λd _=>d = .i (q x y)) {v gen:Nat} {t:TypeId} (Q:H[v]? = some (.row t gen (l.map fc).flatten)) {R:D->U->Prop}
  (k:∀l':List α,l'.Perm l->l'.Pairwise (λx y=>¬q y x<0)->R (.tup []) (H.set v (.row t gen (l'.map fc).flatten))) :
  vx P G f [.fZ v gen sz 0 l.length,.fn (.func g) [] []] H R:=by
 have O:=hS.pos;intro c w vs gi A;obtain⟨u,v1,rfl,h1,h2⟩:=jC.two A;clear A;have hn:l.length=l.length:=rfl;revert hn;generalize hN:l.length=N at h1;intro hn
 have oE:v1 = .func (.func g) #[] #[]:=by
  cases h2 with
  | fn _ fs cs df dc jY jP _ _=>
   have p:fs = []:=ax.1 jY;have I:cs = []:=ax.1 jP;subst p;subst I;rfl
 subst oE;clear h2
 cases h1 with
 | mA=>omega
 | fZ _ _ _ _ _ cap L gu iu ka jc lN=>
 have X:=gi.ob v _ Q;simp only[Ob.gen]at X;rw[gu]at X;simp only[ie,iu]at X;obtain⟨arr,M,Ih,E,po⟩:=X
 have ki:(l.map fc).flatten.length=N*sz:=by rw[NK sz _ (by simpa using hl),List.length_map,hN]
 rw[ki]at E;have xt:mm c H L.b:=⟨v,L,⟨_,Q,rfl,gu⟩,iu,rfl⟩;have S:=gi.lt _ xt
 have C:∀i,i<N->L.base+i*sz+sz<=arr.size:=λi hi=>by have:(i+1)*sz<=N*sz:=bE _ hi;rw[cE]at this;omega
 let mk:Fin l.length->El c w fc l:=λi=>{
  vs:=(arr.toList.drop (L.base+i.val*sz)).take sz
  a:=l[i.val]
  mem:=bV _
  cells:=by
   have hi:i.val<N:=by rw[<-hN];exact i.isLt
   have hm:=C _ hi;have Ai:(fc l[i.val]).length=sz:=hl _ (bV _)
   have jx:∀r,r<sz->∃y d,((arr.toList.drop (L.base+i.val*sz)).take sz)[r]? = some y/\(fc l[i.val])[r]? = some d/\y.oneCell'=true/\gh c w y d:=λr A=>by
    have J:(l.map fc).flatten[i.val*sz+r]? = (fc l[i.val])[r]? := by rw[NJ sz O _ (by simpa using hl),show(i.val*sz+r) / sz=i.val from by rw[dT,Nat.mul_add_div O,Nat.div_eq_of_lt A];rfl,show(i.val*sz+r) % sz=r from by rw[dT,Nat.mul_add_mod,fh A]];simp
    have s:(fc l[i.val])[r]? = some (fc l[i.val])[r]:=List.getElem?_eq_getElem (by omega);obtain⟨y,ub,Im,a1⟩:=po (i.val*sz+r) _ (J.trans s);refine⟨y,_,?_,s,Im,a1⟩;rw[aD,if_pos A,aI,bH,<-ub];congr 1;omega
   have sD:((arr.toList.drop (L.base+i.val*sz)).take sz).length=sz:=by simp;omega
   refine⟨by rw[sD,Ai],λy B=>?_,λr y d B J=>?_⟩
   .obtain⟨r,A⟩:=aB.1 B;have Z:r<sz:=by have:=(ae.1 A).1;omega
    obtain⟨y',d,p,_,e3,_⟩:=jx r Z;rw[A]at p;cases p;exact e3
   .have Z:r<sz:=by have:=(ae.1 B).1;omega
    obtain⟨y',d',p,I,_,e4⟩:=jx r Z;rw[B]at p;cases p;rw[J]at I;cases I
    exact gh.closed (c:=c) (c':=c.data c.F) (λb F=>F) e4 (ya (gO _ (bV _)) J) }
 haveI:Inhabited (El c w fc l):=⟨mk ⟨0,h0⟩⟩
 let enc:El c w fc l->List Value:=λe=>e.vs
 let d:Array (El c w fc l):=Array.ofFn mk
 have K:d.size=N:=by simp[d,hN]
 have iP:∀x:El c w fc l,(enc x).length=sz:=λx=>by rw[show enc x=x.vs from rfl,x.cells.len,hl _ x.mem]
 have HU:∀x:El c w fc l,∀y∈enc x,y.oneCell'=true:=λx y B=>x.cells.one y B
 have a4:d.toList.map (λe=>e.a)=l:=by
  apply bQ;intro i;simp only[d,au,bH,Array.getElem?_ofFn]
  by_cases hi:i<l.length
  .simp[hi,mk]
  .simp[hi]
 have hO:SWO (ltOf λx y:El c w fc l=>q x.a y.a):=by
  refine⟨λx=>?_,λx y z=>?_,λx y z=>?_⟩
  .simpa[ltOf]using EO x.a x.mem
  .simpa[ltOf]using tr x.a x.mem y.a y.mem z.a z.mem
  .simpa[ltOf]using nt x.a x.mem y.a y.mem z.a z.mem
 have yl:∀j,w.cell? ⟨L.b,j,none⟩=arr[j]? := λj=>by simp[World.cell?,M]
 have hH:HoldsK enc sz w L.b (L.base+0*sz) d:=by
  intro j hj;have T:j<N*sz:=by simpa[K]using hj
  have hq:j / sz<N:=Nat.div_lt_of_lt_mul (by rw[dT];exact T);have A:j % sz<sz:=Nat.mod_lt _ O;have hm:=C _ hq;have HA:j / sz*sz+j % sz=j:=by rw[dT];exact Nat.div_add_mod j sz
  rw[get_flatK _ _ _ _ (by rw[K];exact T)];refine⟨?_,?_⟩
  .have p:d[j / sz]! = mk ⟨j / sz,by omega⟩:=by rw[getElem!_pos d (j / sz) (by omega)];simp[d]
   rw[yl,p];show _=some (id ((arr.toList.drop (L.base+j / sz*sz)).take sz)[j % sz]!);rw[getElem!_pos _ (j % sz) (by simp;omega),List.getElem_take,List.getElem_drop,Array.getElem_toList,cy (by omega)];simp only[id];congr 2;omega
  .simp[World.frozen?,M]
 have b0:CmpLays P g #[] enc sz (λx y:El c w fc l=>q x.a y.a) L.b (L.base+0*sz) d.size w:=by
  intro m os dk _ x y;have hW:∀b,c.F b->(sortWorldK enc sz w L.b (L.base+0*sz) m dk os).heap[b]? = w.heap[b]? := λb F=>abO _ _ _ _ _ _ _ (gi.kR b F) λe=>gi.nF _ xt (e▸F);have sG:gE G (c.data c.F) [] (sortWorldK enc sz w L.b (L.base+0*sz) m dk os):=ad9 gi (size_sortWorldK_c _ _ _ _ _ _ _ _) hW
  have tZ:∀x:El c w fc l,gh (c.data c.F) (sortWorldK enc sz w L.b (L.base+0*sz) m dk os) (.agg (enc x).toArray) (.agg (fc x.a)):=λx=>
   .agg _ _ x.cells.len x.cells.one λi y d B J=>gh.carry (c:=c.data c.F) (c':=c.data c.F) (λ_ _ _ h=>h) (λ_ h=>h) (λb o hF=>Gu (hW b hF)) (x.cells.rep i y d B J)
  have:=hc x.a x.mem y.a y.mem _ _ _ sG (.cons (tZ x) (.cons (tZ y) .nil));rw[show(#[Value.agg (enc x).toArray,Value.agg (enc y).toArray] ++ #[]:Array Value) = [Value.agg (enc x).toArray,Value.agg (enc y).toArray].toArray by simp];refine Calls.mono this ?_;rintro e w' ⟨u,c',d',H',he,rfl,_,_,hu,gv⟩;cases hu;exact⟨he,apE (BA gv)⟩
 have eg:∀args w,(callFunc g args).run P w = .ok (.enter g args) w:=PC hg;have jF:=hS.full (El c w fc l) enc iP HU _ hO g L.b (L.base+0*sz) cap d w eg b0 hH S (by omega);rw[K]at jF;refine jF.mono ?_;rintro e w' ⟨rfl,d',n,os,⟨sH,_,nI⟩,b',rfl⟩;have V:d'.size=N:=by rw[sH,K]
 have b1:(d'.toList.map λe=>e.a).Perm l:=by
  refine List.Perm.trans (List.Perm.map _ ?_) (List.Perm.of_eq a4);have p:(d'.extract 0 N).toList=d'.toList:=by rw[<-V];simp
  have I:(d.extract 0 N).toList=d.toList:=by rw[<-K];simp
  rw[p,I]at nI;exact nI
 have a2:(d'.toList.map λe=>e.a).Pairwise λx y=>¬q y x<0:=by
  rw[et,bM];intro i j hi hj Cb;have W:i<d'.size:=by simpa using hi
  have T:j<d'.size:=by simpa using hj
  have:=b' i j (Nat.zero_le _) Cb (by omega);rw[getElem!_pos d' j T,getElem!_pos d' i W]at this;simpa[ltOf]using this
 have Ce:((d'.toList.map λe=>e.a).map fc).flatten.length=N*sz:=by
  rw[NK sz _ (λx s=>?_)]
  .simp[V]
  .simp only[List.mem_map]at s;obtain⟨a,⟨e,_,rfl⟩,rfl⟩:=s;exact hl _ e.mem
 have hF:(flatK enc sz d').size=N*sz:=by rw[size_flatK,V]
 have h8:N*sz<=arr.size-L.base:=by omega
 obtain⟨w1,w2⟩:=FC gi Q gu iu M (putCells id (L.base+0*sz) (flatK enc sz d') arr) (by simp[putCells]) Ih ((d'.toList.map λe=>e.a).map fc).flatten (by rw[Ce];exact E) (λi dd hi=>by
  have W:i<N*sz:=by rw[<-Ce];exact(ae.1 hi).1
  have hq:i / sz<N:=Nat.div_lt_of_lt_mul (by rw[dT];exact W);have A:i % sz<sz:=Nat.mod_lt _ O;have s:=d'[i / sz].cells
  rw[NJ sz O _ (λx s=>by
   simp only[List.mem_map]at s;obtain⟨a,⟨e,_,rfl⟩,rfl⟩:=s
   exact hl _ e.mem)]at hi
  have p:(List.map fc (List.map (λe=>e.a) d'.toList))[i / sz]? = some (fc d'[i / sz].a):=by simp only[au,bH];rw[cy (by omega)];rfl
  rw[p,Option.bind_some]at hi;have iG:(d'[i / sz].vs).length=sz:=iP d'[i / sz];have I:(d'[i / sz].vs)[i % sz]? = some (d'[i / sz].vs)[i % sz]:=List.getElem?_eq_getElem (by omega);refine⟨(d'[i / sz].vs)[i % sz],?_,s.one _ (bV _),gh.closed (c:=c.data c.F) (c':=c) (λb F=>F) (s.rep _ _ _ I hi) (ya (gO _ d'[i / sz].mem) hi)⟩;rw[putCells,dF,cy (by omega),aF,if_pos ⟨by omega,by rw[hF];omega⟩];rw[show L.base+i-(L.base+0*sz)=i by omega,get_flatK _ _ _ _ (by rw[V];exact W),getElem!_pos d' (i / sz) (by omega)];show some (id (d'[i / sz].vs)[i % sz]!)=_
  rw[getElem!_pos _ (i % sz) (by omega)];rfl)
 have Af:kf (w.setRow L.b (putCells id (L.base+0*sz) (flatK enc sz d') arr)) (sortWorldK enc sz w L.b (L.base+0*sz) n d' os):=by
  refine⟨⟨rfl,fo _ _⟩,rfl,rfl,?_,λb F=>?_⟩
  .simp[World.setRow,sortWorldK,grow,putRowK,putRow,mapBlock,Go.Sort.ahead]
  .have oP:b<w.heap.size:=by simpa[World.setRow]using F
   by_cases Y:b=L.b
   .subst Y;rw[setRow_heap w L.b arr _ t _ M];simp only[sortWorldK,grow,putRowK,putRow,mapBlock,Go.Sort.ahead];rw[cJ (by simpa using oP),bq,if_pos rfl,M];rfl
   .rw[abO _ _ _ _ _ _ _ oP Y];simp only[World.setRow,bq];rw[if_neg (cA Y)]
 exact⟨_,c,_,_,rfl,k _ b1 a2,by simp,w1.pP Af,.tup [] [] rfl (λi v d Q=>by simp at Q),w2.trans (C8 _ Af) (Nat.le_refl _)⟩
end
end Go.AL
namespace Go.AL
open Go Go.Proofs Go.Shelf Go.RowKit Go.Lib Go.Sort
structure Bb(P:Program)(f:FuncId):Prop where
 full:∀(lS off cap:Nat) (zs:List Int) (w:World) (_:Holds (Value.int .i64) w lS off zs.toArray) (_:lS<w.heap.size) (_:zs.length<4611686018427387904),
  Calls P f #[.slice (some ⟨lS,off,none⟩) zs.length cap] w λe w'=>e = .returned (.tuple #[])/\∃n os,w'=grow (putRow (Value.int .i64) (Go.Sort.ahead w n) lS off (zs.mergeSort λx y=>decide (x<=y)).toArray) os
section
variable{P:Program}{G:GT}{c:Ctx}{H:U}{w:World}
theorem apc{f:FuncId}(hS:Bb P f)(l:List Int)(h0:0<l.length)(K:l.length<4611686018427387904){v gen:Nat}{t:TypeId}(m:H[v]? = some (.row t gen (l.map λn=>D.i n))){R:D->U->Prop}
  (k:R (.tup []) (H.set v (.row t gen ((l.mergeSort λx y=>decide (x<=y)).map λn=>D.i n)))):vx P G f [.fZ v gen 1 0 l.length] H R:=by
 intro c w vs gi s
 cases s with
 | @cons u _ _ _ h1 s=>
 cases s;have C:l.length=l.length:=rfl;revert C;generalize hN:l.length=N at h1;intro C
 cases h1 with
 | mA=>omega
 | fZ _ _ _ _ _ cap L z r ka jc lN=>
 have p:=gi.ob v _ m;simp only[Ob.gen]at p;rw[z]at p;simp only[ie,r]at p;obtain⟨arr,h,Y,g,M⟩:=p;rw[List.length_map,hN]at g;have J:mm c H L.b:=⟨v,L,⟨_,m,rfl,z⟩,r,rfl⟩;have o:=gi.lt _ J;have I:∀j,w.cell? ⟨L.b,j,none⟩=arr[j]? := λj=>by simp[World.cell?,h]
 have W:Holds (Value.int .i64) w L.b (L.base+0*1) l.toArray:=by
  intro j T;have A:j<l.length:=by simpa using T
  obtain⟨y,h1,h2,X⟩:=M j (.i l[j]) (by simp[A]);cases X;refine⟨?_,by simp[World.frozen?,h]⟩;rw[I,show L.base+0*1+j=L.base+j by omega,h1];simp[A]
 have B:=hS.full L.b (L.base+0*1) cap l w W o K;rw[hN]at B;refine B.mono ?_;rintro e w' ⟨rfl,n,os,rfl⟩;generalize S:(l.mergeSort λx y=>decide (x<=y))=l' at k ⊢;have Z:l'.length=N:=by rw[<-S,eH,hN]
 obtain⟨w1,w2⟩:=FC gi m z r h (putCells (Value.int .i64) (L.base+0*1) l'.toArray arr) (by simp[putCells]) Y (l'.map λn=>D.i n) (by rw[List.length_map,Z];exact g) (λi dd hi=>by
  rw[au]at hi;obtain⟨a,E,rfl⟩:=ak.1 hi;have Q:i<l'.length:=(ae.1 E).1;refine⟨.int .i64 a,?_,rfl,.val _⟩;rw[putCells,dF,cy (by omega),aF,if_pos ⟨by omega,by simp;omega⟩];rw[show L.base+i-(L.base+0*1)=i by omega,getElem!_pos l'.toArray i (by simpa using Q)];have:=(ae.1 E).2
  simp[this])
 have F:kf (w.setRow L.b (putCells (Value.int .i64) (L.base+0*1) l'.toArray arr)) (grow (putRow (Value.int .i64) (Go.Sort.ahead w n) L.b (L.base+0*1) l'.toArray) os):=by
  refine⟨⟨rfl,fo _ _⟩,rfl,rfl,?_,λb V=>?_⟩
  .simp[World.setRow,grow,putRow,mapBlock,Go.Sort.ahead]
  .have O:b<w.heap.size:=by simpa[World.setRow]using V
   simp only[grow,putRow,mapBlock,Go.Sort.ahead];rw[cJ (by simpa using O),bq]
   by_cases q:L.b=b
   .subst q;rw[setRow_heap w L.b arr _ t _ h,if_pos rfl,h];rfl
   .simp only[World.setRow,bq];rw[if_neg q,if_neg q]
 exact⟨_,c,_,_,rfl,k,by simp,w1.pP F,.tup [] [] rfl (λi v d m=>by simp at m),w2.trans (C8 _ F) (Nat.le_refl _)⟩
end
end Go.AL
namespace Go.AL
open Go Go.Proofs Go.Shelf Go.RowKit Go.Lib Go.Sort
structure A5(P:Program)(f:FuncId):Prop where
 full:∀(lS off cap i:Nat) (zs:List Int) (w:World) (_:Holds (Value.int .i64) w lS off zs.toArray) (_:zs.length<=cap) (_:cap<=9223372036854775807) (_:i<zs.length),
  Calls P f #[.slice (some ⟨lS,off,none⟩) zs.length cap,.int .i64 i,.int .i64 ((i:Int)+1)] w λe w'=>e = .returned (.slice (some ⟨lS,off,none⟩) (zs.length-1) cap)/\∃n,w'=putRow (Value.int .i64) (Go.Sort.ahead w n) lS off (zs.take i++zs.drop (i+1) ++ [0]).toArray
section
variable{P:Program}{G:GT}{c:Ctx}{H:U}{w:World}
theorem aed{f:FuncId}(hS:A5 P f)(l:List Int)(i:Nat)(hi:i<l.length){v gen:Nat}{t:TypeId}{zs:List D}(B:H[v]? = some (.row t gen (l.map (λn=>D.i n)++zs))){R:D->U->Prop}
  (k:R (.fZ v gen 1 0 (l.length-1)) (H.set v (.row t gen ((l.take i++l.drop (i+1) ++ [0]).map (λn=>D.i n)++zs)))):vx P G f [.fZ v gen 1 0 l.length,.i i,.i ((i:Int)+1)] H R:=by
 intro c w vs gi g
 cases g with
 | @cons u _ _ _ h1 g=>
 cases g with
 | @cons u2 _ _ _ s g=>
 cases g with
 | @cons u3 _ _ _ p g=>
 cases g;cases s;cases p;have K:l.length=l.length:=rfl;revert K;generalize hN:l.length=N at h1;intro K
 cases h1 with
 | mA=>omega
 | fZ _ _ _ _ _ cap L x q ka I X=>
 have r:=gi.ob v _ B;simp only[Ob.gen]at r;rw[x]at r;simp only[ie,q]at r;obtain⟨arr,o,Ih,d,E⟩:=r;rw[aj,List.length_map,hN]at d;have T:mm c H L.b:=⟨v,L,⟨_,B,rfl,x⟩,q,rfl⟩;have M:=gi.lt _ T;have S:∀j,w.cell? ⟨L.b,j,none⟩=arr[j]? := λj=>by simp[World.cell?,o]
 have hH:Holds (Value.int .i64) w L.b (L.base+0*1) l.toArray:=by
  intro j m;have z:j<l.length:=by simpa using m
  obtain⟨y,h1,s,p⟩:=E j (.i l[j]) (by rw[ah (by simpa using z)];simp[z]);cases p;refine⟨?_,by simp[World.frozen?,o]⟩;rw[S,show L.base+0*1+j=L.base+j by omega,h1];simp[z]
 have J:=hS.full L.b (L.base+0*1) cap i l w hH (by omega) (by unfold maxLen at I;omega) hi;rw[hN]at J k;refine J.mono ?_;rintro e w' ⟨rfl,n,rfl⟩;generalize W:l.take i++l.drop (i+1) ++ [0]=l' at k ⊢
 have O:l'.length=N:=by rw[<-W,aj,aj,aJ,aQ,aV,hN];omega
 obtain⟨w1,w2⟩:=FC gi B x q o (putCells (Value.int .i64) (L.base+0*1) l'.toArray arr) (by simp[putCells]) Ih (l'.map (λn=>D.i n)++zs) (by rw[aj,List.length_map,O];exact d) (λj dd m=>by
  by_cases F:j<l'.length
  .rw[ah (by simpa using F),au]at m;obtain⟨a,Z,rfl⟩:=ak.1 m;refine⟨.int .i64 a,?_,rfl,.val _⟩;rw[putCells,dF,cy (by omega),aF,if_pos ⟨by omega,by simp;omega⟩];rw[show L.base+j-(L.base+0*1)=j by omega,getElem!_pos l'.toArray j (by simpa using F)];have:=(ae.1 Z).2;simp[this]
  .have C:l'.length<=j:=by omega
   rw[ai (by simpa using C),List.length_map,O]at m;obtain⟨y,h1,s,p⟩:=E j dd (by rw[ai (by rw[List.length_map];omega),List.length_map,hN];exact m);refine⟨y,?_,s,p⟩
   rw[putCells,dF,h1,aF,if_neg (λh=>by have:=h.2;simp at this;omega)])
 have Q:kf (w.setRow L.b (putCells (Value.int .i64) (L.base+0*1) l'.toArray arr)) (putRow (Value.int .i64) (Go.Sort.ahead w n) L.b (L.base+0*1) l'.toArray):=by
  refine⟨⟨rfl,fo _ _⟩,rfl,rfl,?_,λb Y=>?_⟩
  .simp[World.setRow,putRow,mapBlock,Go.Sort.ahead]
  .have oP:b<w.heap.size:=by simpa[World.setRow]using Y
   simp only[putRow,mapBlock,Go.Sort.ahead];rw[bq]
   by_cases A:L.b=b
   .subst A;rw[setRow_heap w L.b arr _ t _ o,if_pos rfl,o];rfl
   .simp only[World.setRow,bq];rw[if_neg A,if_neg A]
 have V:gh c (putRow (Value.int .i64) (Go.Sort.ahead w n) L.b (L.base+0*1) l'.toArray) (.slice (some ⟨L.b,L.base+0*1,none⟩) (N-1) cap) (.fZ v gen 1 0 (N-1)):=.fZ v gen 1 0 (N-1) cap L x q (by omega) I X;exact⟨_,c,_,_,rfl,k,by simp,w1.pP Q,V,w2.trans (C8 _ Q) (Nat.le_refl _)⟩
end
end Go.AL
namespace Go.AL
open Go
def Out.ex:Out->Exit
 | .norm _=>.normal
 | .exit id _=>.exit id
 | .ret _=>.ret
def anB(A:Array Oper):List (List Nat):=A.toList.foldl (init:=[]) λa o=>
 a ++ [dedup ((o.after.toList.filter λe=>Region.binds .any e).flatMap λe=>e.on::a.getD e.on [])]
def anM(l:List ia)(ord:List (List Nat)):List (Nat×Nat):=(List.range l.length).flatMap λi=>(List.range i).filterMap λk=>
 if (ord.getD i []).contains k then none else match l[k]?,l[i]? with
  | some a,some b=>if PS a.op b.op then none else some (k,i)
  | _,_=>none
def ZX:List FuncId:=[283]
def ahA:iR->Bool
 | .call f _=>ZX.contains f
 | .callN f _=>ZX.contains f
 | _=>false
def ZY(l:List ia)(ord:List (List Nat))(n:Nat):Bool:=n<l.length&&(List.range l.length).all λi=>decide (i<n)||(List.range i).all λk=>(ord.getD i []).contains k
def WG(a:List (Nat×Nat))(l:List ia)(ord:List (List Nat)):IR:=
 let n:=l.findIdx λe=>ahA e.op
 if ZY l ord n then .mR a (l.take n) (l.drop n)else .mb a l
def nX:Code->List (Array Tmp×Code×Code)
 | .seq a b=>nX a++nX b
 | .cond _ a b=>nX a++nX b
 | .block _ a=>nX a
 | .loop a=>nX a
 | .rangeFunc _ ps a b=>(ps,a,b)::(nX a++nX b)
 | _=>[]
def cC(P:Program)(G:GT)(N:Nat)(rf:Nat):List (List Nat)->Code->Option (IR×List (List Nat))
 | hs,.skip=>some (.skip,hs)
 | hs,.region _ ops false=>match pL P G N ops ops.toList with
  | some l=>some (.ops l,hs)
  | none=>some (.bad,hs)
 | hs,.region _ ops true=>match pL P G N ops ops.toList with
  | some l=>
   let ord:=anB ops
   let d:=anM l ord
   if zN ops&&yY ops ord&&TU l ord d then some (WG d l ord,hs)else some (.bad,hs)
  | none=>some (.bad,hs)
 | hs,.seq a b=>match cC P G N rf hs a with
  | some (x,lZ)=>match cC P G N (rf+(nX a).length) lZ b with
   | some (y,l4)=>some (.seq x y,l4)
   | none=>none
  | none=>none
 | hs,.cond c a b=>match cX G c with
  | some x=>match cC P G N rf hs a with
   | some (y,lZ)=>match cC P G N (rf+(nX a).length) lZ b with
    | some (z,l4)=>some (.cond x y z,l4)
    | none=>none
   | none=>none
  | none=>some (.bad,hs)
 | hs,.block id a=>match hs with
  | l::hs=>match cC P G N rf hs a with
   | some (x,lZ)=>some (.block id l x,lZ)
   | none=>none
  | []=>none
 | hs,.loop a=>match hs with
  | l::hs=>match cC P G N rf hs a with
   | some (x,lZ)=>some (.loop l x,lZ)
   | none=>none
  | []=>none
 | hs,.rangeFunc g _ _ _=>match cX G g,hs with
  | some x,l::hs=>some (.oq rf l x,hs)
  | _,_=>some (.bad,hs)
 | hs,.exit id=>some (.exit id,hs)
 | hs,.ret=>some (.ret,hs)
 | hs,_=>some (.bad,hs)
inductive nY(P:Program)(G:GT)(N:Nat):IR->Code->Prop
 | skip:nY P G N .skip .skip
 | ops {l id A} (h:pL P G N A A.toList=some l):nY P G N (.ops l) (.region id A false)
 | mb {jH l id A} (ord:List (List Nat)) (h:pL P G N A A.toList=some l) (he:zN A=true) (ho:yY A ord=true) (hp:TU l ord jH=true):nY P G N (.mb jH l) (.region id A true)
 | mR {jH l es id A} (ord:List (List Nat)) (h:pL P G N A A.toList=some (l++es)) (he:zN A=true) (ho:yY A ord=true) (hp:TU (l++es) ord jH=true) (Ai:∀i,l.length<=i->i<(l++es).length->∀k,k<i->k∈ord.getD i []):nY P G N (.mR jH l es) (.region id A true)
 | seq {a b x y} (h1:nY P G N x a) (h2:nY P G N y b):nY P G N (.seq x y) (.seq a b)
 | cond {c a b x y z} (hc:cX G c=some x) (h1:nY P G N y a) (h2:nY P G N z b):nY P G N (.cond x y z) (.cond c a b)
 | block {id l a x} (h:nY P G N x a):nY P G N (.block id l x) (.block id a)
 | loop {l a x} (h:nY P G N x a):nY P G N (.loop l x) (.loop a)
 | oq {rf l x g ps ac bc} (hx:cX G g=some x) (h:G.rt rf=some (N,ps,ac,bc)):nY P G N (.oq rf l x) (.rangeFunc g ps ac bc)
 | exit {id}:nY P G N (.exit id) (.exit id)
 | ret:nY P G N .ret .ret
 | bad {c}:nY P G N .bad c
def A'(G:GT)(N rf:Nat)(code:Code):Prop:=∀(i:Nat) (x:Array Tmp×Code×Code),(nX code)[i]? = some x->G.rt (rf+i)=some (N,x)
def A'.left{G:GT}{N rf:Nat}{a b:Code}{l:List (Array Tmp×Code×Code)}(hl:l=nX a++nX b)(h:∀(i:Nat) (x:Array Tmp×Code×Code),l[i]? = some x->G.rt (rf+i)=some (N,x)):A' G N rf a/\A' G N (rf+(nX a).length) b:=by
 subst hl;refine⟨λi x c=>h i x ?_,λi x c=>?_⟩
 .grind
 .rw[bh];exact h _ x (by rw[ai (by omega)];simpa using c)
def Qt{P:Program}{G:GT}{N:Nat}:∀ {code:Code} {rf:Nat} {hs f:List (List Nat)} {e:IR},A' G N rf code->cC P G N rf hs code=some (e,f)->nY P G N e code:=by
 intro code
 induction code with
 | skip=>intro rf hs f e d h;simp only[cC]at h;cases h;exact .skip
 | region id A mb=>
  intro rf hs f e d h;cases mb
  .simp only[cC]at h;split at h
   .rename_i l hl;cases h;exact .ops hl
   .cases h;exact .bad
  .simp only[cC]at h;split at h
   .rename_i l hl;split at h
    .rename_i m;cases h;simp only[Bool.and_eq_true]at m;unfold WG;dsimp only;split
     .rename_i u;unfold ZY at u;simp only[Bool.and_eq_true,b7,decide_eq_true_eq,List.all_eq_true,a8,dC]at u;refine .mR _ (by rw[bY];exact hl) m.1.1 m.1.2 (by rw[bY];exact m.2) λi hi v k B=>?_;rw[bY]at v;rw[aJ]at hi;rcases u.2 i v with h|h
      .omega
      .exact h k B
     .exact .mb _ hl m.1.1 m.1.2 m.2
    .cases h;exact .bad
   .cases h;exact .bad
 | seq a b j o=>
  intro rf hs f e d h;obtain⟨r,q⟩:=A'.left rfl d;simp only[cC]at h;split at h
  .rename_i x p n;split at h
   .rename_i y w t;cases h;exact .seq (j r n) (o q t)
   .cases h
  .cases h
 | cond c a b j o=>
  intro rf hs f e d h;obtain⟨r,q⟩:=A'.left rfl d;simp only[cC]at h;split at h
  .rename_i x s;split at h
   .rename_i y p n;split at h
    .rename_i z w t;cases h;exact .cond s (j r n) (o q t)
    .cases h
   .cases h
  .cases h;exact .bad
 | block id a j=>
  intro rf hs f e d h;simp only[cC]at h;split at h
  .split at h
   .rename_i x p n;cases h;exact .block (j d n)
   .cases h
  .cases h
 | loop a j=>
  intro rf hs f e d h;simp only[cC]at h;split at h
  .split at h
   .rename_i x p n;cases h;exact .loop (j d n)
   .cases h
  .cases h
 | rangeFunc g ps a b j o=>
  intro rf hs f e d h;simp only[cC]at h;split at h
  .rename_i x l p s;cases h;exact .oq s (d 0 _ rfl)
  .cases h;exact .bad
 | exit id=>intro rf hs f e d h;simp only[cC]at h;cases h;exact .exit
 | ret=>intro rf hs f e d h;simp only[cC]at h;cases h;exact .ret
 | _=>intro rf hs f e d h;simp only[cC]at h;cases h;exact .bad
def cR(P:Program):ResultVar->Option vA
 | .tmp t=>some (.tmp t)
 | .cell a t=>match pa P t,ky P t with
  | some false,some _=>some (.tF a)
  | some true,some n=>some (.Qv n a)
  | _,_=>none
def Bd(P:Program):List ResultVar->Option (List vA)
 | []=>some []
 | x::r=>match cR P x,Bd P r with
  | some a,some l=>some (a::l)
  | _,_=>none
def AX(P:Program)(k:Nat):Option (Nat×Array Tmp×Code×Code):=match P.funcs[k / 64]? with
 | some fn=>match fn.body with
  | some code=>(nX code)[k % 64]?.map λx=>(fn.ntmps,x)
  | none=>none
 | none=>none
def anX{P:Program}{G:GT}(d:G.rt=AX P){f:Nat}{fn:Func}{code:Code}(b:P.funcs[f]? = some fn)(c:fn.body=some code)(hl:(nX code).length<=64):A' G fn.ntmps (64*f) code:=by intro i x a;have hi:i<64:=aM (ae.1 a).1 hl;rw[d];unfold AX;rw[show(64*f+i) / 64=f by omega,show(64*f+i) % 64=i by omega,b];simp[c,a]
structure F1(P:Program)(G:GT)(f:FuncId)(fn:jo):Prop where
 ex:∃func code hs il,P.funcs[f]? = some func/\func.body=some code/\s5 P f=true/\(nX code).length<=64/\cC P G fn.ntmps (64*f) hs code=some (fn.body,il)/\func.ntmps=fn.ntmps/\Bd P func.results.toList=some fn.results
structure vB(P:Program)(G:GT)(rf:Nat)(R:qw):Prop where
 ex:∃N ps ac bc,G.rt rf=some (N,ps,ac,bc)/\ps.toList=R.params/\(R.params.all λp=>decide (p<N))=true/\nY P G N R.a ac/\nY P G N R.b bc
structure Qc(P:Program)(G:GT)(T:iD):Prop where
 rt:G.rt=AX P
 fn:∀f fn,T.fn f=some fn->F1 P G f fn
 round:∀rf R,T.round rf=some R->vB P G rf R
 sort:∀f sz,T.sort f=some sz->xX P f sz
 tz:∀f,T.tz f=true->Bb P f
 sZ:∀f,T.sZ f=true->A5 P f
def MJ(F:Fence)(n:Nat)(P:Program)(c:Code)(Q:Exit->Act->World->Prop)(a:Act)(w:World):Prop:=
 ∀(b:Frame) (k:List Item) (cs:List Frame),b.roundOf=F.round->F.fn b.fn->F.room (cs.length+1+n) ->
  ∃e d w',Q e d w'/\ArrivesIn (Machine.fenced P F) P (lone (b.atR a (.code c :: .inLoop c::k)) cs w) b k cs e d w'
section
variable{F:Fence}{n:Nat}{P:Program}{Q:Exit->Act->World->Prop}{a:Act}{w:World}
theorem aif{c:Code}(h:c.wpIn F n P (Exit.then (MJ F n P c Q) Q) a w):MJ F n P c Q a w:=by
 intro b k cs t m j;obtain⟨e,i,g,f,d⟩:=h b (.inLoop c::k) cs t m j
 cases e with
 | normal=>
  obtain⟨r,s,o,q,p⟩:=f b k cs t m j;exact⟨r,s,o,q,.of_steps (StepsIn.trans d (.one (fenced_calm m j rfl) stepR_inLoop)) p⟩
 | exit id=>exact⟨_,i,g,f,.pass (x:=.inLoop c) rfl (λ_ _=>.inl (by simp)) d⟩
 | goto l=>exact⟨_,i,g,f,.pass (x:=.inLoop c) rfl (λ_ _=>.inl (by simp)) d⟩
 | ret=>exact⟨_,i,g,f,.pass (x:=.inLoop c) rfl (λ_ _=>.inl (by simp)) d⟩
 | panic ch=>exact⟨_,i,g,f,.pass (x:=.inLoop c) rfl (λ_ _=>.inl (by simp)) d⟩
 | outgrown=>exact⟨_,i,g,f,.pass (x:=.inLoop c) rfl (λ_ _=>.inl (by simp)) d⟩
theorem apF{c:Code}(h:MJ F n P c Q a w):(Code.loop c).wpIn F n P Q a w:=by intro b k cs i f d;obtain⟨e,l,w',j,g⟩:=h b k cs i f d;exact⟨e,l,w',j,.of_steps (.one (fenced_calm f d rfl) stepR_loop) g⟩
end
section
variable{P:Program}{G:GT}{c:Ctx}{w:World}{a:Act}{N:Nat}
theorem Qi(δ:Dl)(H:U):H.length<=(δ.app H (Al.last H)).length:=by
 cases δ with
 | no=>exact Nat.le_refl _
 | cells v o xs=>simp only[Dl.app];split<;>simp
 | obj v ob=>simp[Dl.app]
 | new ob=>simp[Dl.app,Al.last]
theorem PI(ks:mP)(H:U):(pF ks H).length=ks.length:=by simp[pF]
theorem aat{ks:mP}{H:U}{f:Nat->Nat}:∀ {vs:List Nat} {ds:List Deferred},sv c vs ds->(∀v∈vs,∀L,c.ι v 0=some L->(c.gq ks H).ι (f v) 0=some L)->sv (c.gq ks H) (vs.map f) ds:=by
 intro vs ds h
 induction h with
 | nil=>intro _;exact .nil
 | cons L h1 e _ b=>intro a;exact .cons L (a _ (by simp) L h1) e (b λv d=>a v (by simp[d]))
theorem ab3{n:Nat}{d:D}{v:Nat}(a:v∈jk n d):n<=v:=by cases d<;>simp only[jk]at a<;>first|(split at a<;>simp at a;omega)|(simp at a)
theorem aaF{n:Nat}{o:Ob}{v:Nat}(a:v∈oJ n o):n<=v:=by
 unfold oJ at a;split at a
 .obtain⟨l2,b,c⟩:=a7.1 a;obtain⟨d,_,rfl⟩:=List.mem_map.1 b;exact ab3 c
 .obtain⟨l2,b,c⟩:=a7.1 a;obtain⟨d,_,rfl⟩:=List.mem_map.1 b;exact ab3 c
 .cases a
theorem Bi{s:St}(hs:lu G N c w s a){n:Nat}(r:n<=s.H.length)(live:List Nat) :
  ∃c',lu G N c' w (cut n live s) a/\Step n c s.H w c' (cut n live s).H w/\n<=(cut n live s).H.length:=by
 unfold cut;split
 .exact⟨c,⟨hs.gi,DO hs.env live,hs.size,hs.marks⟩,Step.refl _ _ _ _,r⟩
 .dsimp only;generalize j:dedup _=K
  have m:∀v∈K,v∈(((forget live s.env).map λp=>jk n p.2).flatten++((s.H.take n).map (oJ n)).flatten++s.marks.filter (n<=·)).filter (· < s.H.length):=λv b=>by rw[<-j]at b;exact IM b
  have y:∀(d:D) (v:Nat),v∈jk n d->n<=v:=by intro d v b;cases d<;>simp only[jk]at b<;>first|(split at b<;>simp at b;omega)|(simp at b)
  have x:∀v∈K,n<=v:=by
   intro v b;have:=(aL.1 (m v b)).1;rcases List.mem_append.1 this with h|h
   .rcases List.mem_append.1 h with h|h
    .grind
    .obtain⟨l,hl,q⟩:=a7.1 h;obtain⟨o,_,rfl⟩:=List.mem_map.1 hl;exact aaF q
   .grind
  have e:A8 (iI n K):=ZO x (by rw[<-j];exact O9 _);have t:=Ur (ks:=iI n K) hs.gi (n:=n) ZN;refine⟨c.gq (iI n K) s.H,⟨Ff hs.gi e,WN hs.gi (DO hs.env live),hs.size,?_⟩,t,?_⟩
  .refine aat hs.marks λv b L g=>?_
   have u:v<s.H.length:=by
    rcases bK v s.H.length with h|h
    .exact h
    .rw[hs.gi.out v 0 h]at g;cases g
   have:∃i,iv (iI n K) v=some i:=by
    by_cases k:v<n
    .refine⟨v,Ud e ?_⟩;unfold iI;rw[ah (by simpa using k)];simp[k]
    .have f:v∈K:=by rw[<-j];refine GL (aL.2 ⟨bI _ (aL.2 ⟨b,by simpa using fR.1 k⟩),by simpa using u⟩)
     obtain⟨i,hi⟩:=aB.1 f;refine⟨n+i,Ud e ?_⟩;unfold iI;rw[ai (by simp)];simp[hi]
   obtain⟨i,hi⟩:=this;rw[hi];simp only[aT];rw[FF hi];exact g
  .rw[PI];simp[iI]
theorem XL{s:St}(hs:lu G N c w s a)(S:List Nat):∃c',lu G N c' w (me S s) a/\Step s.H.length c s.H w c' (me S s).H w/\(me S s).H.length=s.H.length:=by
 refine⟨c.gq (mE s.H S) s.H,⟨Ff hs.gi XK,WN hs.gi hs.env,hs.size,?_⟩,Ur hs.gi XJ,Ri⟩
 have:=aat (ks:=mE s.H S) (H:=s.H) (f:=id) hs.marks λv _ L b=>by
  have i:v<s.H.length:=by
   rcases bK v s.H.length with h|h
   .exact h
   .rw[hs.gi.out v 0 h]at b;cases b
  have d:=XJ (S:=S) v i;simp only[ak]at d;obtain⟨p,g,e⟩:=d;simp only[Ctx.gq,id,g,e];exact b
 simpa[me]using this
theorem anG{n:Nat}{d:D}{v:Nat}(a:v∈E5 n d):n<=v:=by
 unfold E5 at a;split at a
 .grind
 .grind
 .simp at a
theorem AD{H:U}(gi:gE G c H w){n:Nat}(i:n<=H.length)(own:Nat){u:Value}{d:D}(b:gh c w u d) :
  ∃c',gE G c' (leave own n H d).2 w/\gh c' w u (leave own n H d).1/\Step n c H w c' (leave own n H d).2 w/\n<=(leave own n H d).2.length:=by
 unfold leave;split
 .exact⟨c,gi,b,Step.refl _ _ _ _,i⟩
 .dsimp only;generalize e:dedup _=K
  have j:∀v∈K,n<=v:=by
   intro v a;rw[<-e]at a;have:=(aL.1 (IM a)).1;rcases List.mem_append.1 this with h|h
   .split at h
    .simp at h
    .exact anG h
    .grind
    .grind
   .obtain⟨l,hl,g⟩:=a7.1 h;obtain⟨o,_,rfl⟩:=List.mem_map.1 hl;exact aaF g
  have f:A8 (iI n K):=ZO j (by rw[<-e];exact O9 _);exact⟨c.gq (iI n K) H,Ff gi f,AR gi 40 b,Ur gi ZN,by rw[PI];simp[iI]⟩
theorem aiy(args:List D)(k:Nat):(uo args).get k=(args[k]?).getD .any:=by
 have key:∀(l:List D) (i k:Nat),Env.get ((l.zipIdx i).map λp=>(p.2,p.1)) k=if k<i then .any else(l[k-i]?).getD .any:=by
  intro l
  induction l with
  | nil=>intro i k;simp[Env.get]
  | cons d l a=>
   intro i k;simp only[List.zipIdx_cons,List.map_cons,Env.xf];split
   .grind
   .grind
 have:=key args 0 k;simpa[uo]using this
theorem aep{vs:List Value}{args:List D}(b:jC c w vs args)(n:Nat):kW c w (uo args).get { tmps:=vs.toArray++Array.replicate (n-vs.toArray.size) undef,defers:=[] }:=λk=>by
 rw[aiy];have hl:=b.length
 cases f:args[k]? with
 | none=>exact .any _
 | some d=>
  have a:k<vs.length:=by rw[hl];exact(ae.1 f).1
  have g:vs[k]? = some vs[k]:=by simp[a]
  have:=b.get k vs[k] d g f;simp only[aT]
  have e:(vs.toArray++Array.replicate (n-vs.toArray.size) undef).getD k undef=vs[k]:=by rw[cW,cJ (by simpa using a)];simp[a]
  rw[e];exact this
theorem ah7{H:U}(h:gE G c H w){t:TypeId}(k:pa P t=some false){x d:D}{u:Value}(j:gh c w u x)(a:xD x H=some d) :
  ∃v,(Instr.loadAt t u).run P w = .ok v w/\gh c w v d/\∃b o,u = .pointer (some ⟨b,o,none⟩):=by
 unfold xD at a;split at a
 .rename_i v g o;split at a
  .rename_i n cs m;have l:=uB m;obtain⟨b,p,rfl,f⟩:=M3 h l j;obtain⟨u,e,_,i⟩:=PD k f (d:=d) (by simpa using a);exact⟨u,e,i,b,p,rfl⟩
  .cases a
 .rename_i cs;obtain⟨b,p,rfl,_,f⟩:=zD j;obtain⟨u,e,_,i⟩:=PD k f a;exact⟨u,e,i,b,p,rfl⟩
 .cases a
theorem ah8{H:U}(h:gE G c H w){t:TypeId}{n:Nat}(l:pa P t=some true)(hs:ky P t=some n){x d:D}{u:Value}(k:gh c w u x)(a:wC n x H=some d) :
  ∃v,(Instr.loadAt t u).run P w = .ok v w/\gh c w v d/\∃b o,u = .pointer (some ⟨b,o,none⟩):=by
 unfold wC at a;split at a
 .rename_i v g o;split at a
  .rename_i r cs q;split at a
   .rename_i e;cases a;have m:=uB q;obtain⟨b,p,rfl,i⟩:=M3 h m k;obtain⟨u,f,j⟩:=PE (n:=n) l hs i (by simp;omega);exact⟨u,f,j,b,p,rfl⟩
   .cases a
  .cases a
 .rename_i cs;split at a
  .rename_i e;cases a;obtain⟨b,p,rfl,_,i⟩:=zD k;obtain⟨u,f,j⟩:=PE (n:=n) l hs i e;exact⟨u,f,j,b,p,rfl⟩
  .cases a
 .cases a
def CN(tmps:Array Value):ResultVar->Sem Value
 | .tmp t=>pure (tmps.getD t undef)
 | .cell a t=>do loadVar t (<-asAddr (tmps.getD a undef))
theorem an7{s:St}(hs:lu G N c w s a){x:ResultVar}{X:vA}(e:cR P x=some X){d:D}(f:Fa s X=some d) :
  ∃v,(CN a.tmps x).run P w = .ok v w/\gh c w v d:=by
 cases x with
 | tmp t=>
  cases e;simp only[Fa,av]at f;subst f;exact⟨_,rfl,hs.env t⟩
 | cell p t=>
  have j:=hs.env p;generalize q:a.tmps.getD p undef=u at j
  have key:∀v,(Instr.loadAt t u).run P w = .ok v w->(∃b o,u = .pointer (some ⟨b,o,none⟩))->(CN a.tmps (.cell p t)).run P w = .ok v w:=by rintro v h ⟨b,o,rfl⟩;simpa[Instr.loadAt,Instr.sureAddr,asAddr,CN,q]using h
  simp only[cR]at e;split at e
  .rename_i n l m;cases e;obtain⟨v,g,i,k⟩:=ah7 hs.gi l j f;exact⟨v,key v g k,i⟩
  .rename_i n l m;cases e;obtain⟨v,g,i,k⟩:=ah8 hs.gi l m j f;exact⟨v,key v g k,i⟩
  .cases e
theorem Uc{s:St}(hs:lu G N c w s a):∀(l:List ResultVar) {xs:List vA} {ds:List D},Bd P l=some xs->vo s xs=some ds ->
  ∃vs:List Value,(l.mapM (CN a.tmps)).run P w = .ok vs w/\jC c w vs ds
 | [],xs,ds,h1,h2=>by cases h1;cases h2;exact⟨[],rfl,.nil⟩
 | x::l,xs,ds,h1,h2=>by
  simp only[Bd]at h1;split at h1
  .rename_i X k hX j;cases h1;simp only[vo]at h2;split at h2
   .rename_i d i h b;cases h2;obtain⟨v,f,g⟩:=an7 hs hX h;obtain⟨vs,e,r7⟩:=Uc hs l j b;exact⟨v::vs,by simp[eV,f,e],.cons g r7⟩
   .cases h2
  .cases h1
theorem an9{s:St}(hs:lu G N c w s a){func:Func}{fn:jo}(k:Bd P func.results.toList=some fn.results){d:D}(g:AL.results fn s=some d) :
  ∃v,(Go.results func a.tmps).run P w = .ok v w/\gh c w v d:=by
 have e:∀vs:List Value,(func.results.toList.mapM (CN a.tmps)).run P w = .ok vs w->(Go.results func a.tmps).run P w = .ok (if h:vs.toArray.size=1 then vs.toArray[0]else .tuple vs.toArray) w:=by
  intro vs b
  have h1:(func.results.mapM (CN a.tmps)).run P w = .ok vs.toArray w:=by rw[ff,Sem.run_map,b];rfl
  have j:Go.results func a.tmps=(do let vs <-func.results.mapM (CN a.tmps);pure (if h:vs.size=1 then vs[0]else .tuple vs)):=rfl;rw[j,Sem.run_bind,h1];rfl
 unfold AL.results at g;split at g
 .rename_i d' i;cases g;obtain⟨vs,b,f⟩:=Uc hs _ k i
  cases f with
  | cons h t=>
   cases t;exact⟨_,e _ b,h⟩
 .rename_i ds l i;cases g;obtain⟨vs,b,f⟩:=Uc hs _ k i;refine⟨_,e _ b,?_⟩
  have hl:vs.toArray.size≠1:=by
   intro h1;have j:ds.length=1:=by rw[<-f.length];simpa using h1
   match ds,j with
   | [d],_=>exact l d rfl
  rw[dif_neg hl];exact .tup vs ds f.length f.get
 .cases g
end
end Go.AL
namespace Go.AL
open Go
section
variable{P:Program}{G:GT}{c:Ctx}{H:U}{w:World}{env:gT}{a:Act}{N:Nat}
theorem WH(h:gE G c H w){v:Nat}{ob:Ob}(z:H[v]? = some ob)(N:ob.alive=true){L:Loc}(P:c.ι v ob.gen=some L)(x:L.jN=false)
  {w':World} (E:w'.os=w.os/\w.drawn<=w'.drawn) (Q:w'.tape=w.tape) (F:w'.output=w.output) (B:w'.heap.size=w.heap.size) (t:∀b,b≠L.b->w'.heap[b]? = w.heap[b]?) :
  gE G c (H.set v .dead) w'/\Step H.length c H w c (H.set v .dead) w':=by
 have s:=(ae.1 z).1;have HK:l7 c H v L:=⟨ob,z,N,P⟩;have C:mm c H L.b:=⟨v,L,HK,x,rfl⟩
 have p:∀u l,l7 c (H.set v .dead) u l->u≠v/\l7 c H u l:=by
  rintro u l ⟨o,f,y,hi⟩;rw[sM s]at f;split at f
  .cases f;cases y
  .rename_i q;exact⟨q,o,f,y,hi⟩
 have m:∀b,mm c (H.set v .dead) b->mm c H b:=λb ⟨u,l,hl,r⟩=>⟨u,l,(p u l hl).2,r⟩
 have hs:Step H.length c H w c (H.set v .dead) w':=
  ⟨E,Q,F,by omega,rfl,λ_ h=>h,λ_ h=>.inl h,λb _ M=>t b (λe=>M (e▸C)),λ_ _ _ _ h=>h,λb i=>.inr (m b i)⟩
 have A:∀u d,gh c w u d->gh c w' u d:=λu d n=>n.p7 h.toHeapOK hs
 refine⟨{
  inj:=λu D l J h1 O=>h.inj u D l J (p _ _ h1).2 (p _ _ O).2
  lt:=λb i=>by rw[B];exact h.lt b (m b i)
  nF:=λb i=>h.nF b (m b i)
  kR:=λb i=>by rw[B];exact h.kR b i
  out:=λu k K=>h.out u k (by simpa using K)
  mF:=λu o k f j=>by
   rw[sM s]at f;split at f
   .cases f;rcases j with j|⟨j,_⟩<;>cases j
   .exact h.mF u o k f j
  ob:=λu o f=>by
   rw[sM s]at f;split at f
   .cases f;simp[ie]
   .rename_i q;refine ie.keep (c:=c) (c':=c) rfl A (λl hl I n=>t _ λe=>q (h.inj u v l L ⟨o,f,n,hl⟩ HK I x e)) (h.ob u o f)
  gl:=λg cs hg=>let ⟨a,b⟩:=h.gl g cs hg;⟨a,A _ _ b⟩
  rt:=h.rt },hs⟩
theorem ahZ{fn:Func}{tmps:Array Value}{R:Ending->World->Prop}:∀ {ms:List Nat} {ds:List Deferred} {H H1:U} {w:World},sv c ms ds->gE G c H w->kill ms H=some H1 ->
  (∀w1,gE G c H1 w1->Step H.length c H w c H1 w1->H1.length=H.length->LeavesIn (FW none) 0 P fn tmps R [] .returning w1)->LeavesInM (FW none) 0 P fn tmps R ds .returning w:=by
 intro ms
 induction ms with
 | nil=>
  intro ds H H1 w e gi d k;cases e;cases d;exact k w gi (Step.refl _ _ _ _) rfl
 | cons v ms i=>
  intro ds H H1 w e gi d k
  cases e with
  | @cons _ _ ds L h1 h e=>
   simp only[kill]at d;split at d
   .rename_i g;have f:=gi.ob v _ g;simp only[Ob.gen]at f;rw[h1]at f;simp only[ie]at f;have a:=f.resolve_left (by simp[h]);have l:L.b<w.heap.size:=(aP.1 a).1;obtain⟨k1,k2⟩:=WH (w':={ w with heap:=w.heap.setIfInBounds L.b (.deferred none) }) gi g rfl h1 h ⟨rfl,Nat.le_refl _⟩ rfl rfl (by simp) (λb j=>by rw[cN (cA j)]);refine⟨by simp,.inl ⟨L.b,{ w with heap:=w.heap.setIfInBounds L.b (.deferred none) },rfl,?_,?_⟩⟩
    .simp[Instr.takeDeferred,getObj,setObj,Sem.run,a]
    .refine i e k1 d λw1 q1 q2 q3=>k w1 q1 (k2.trans q2 (by simp)) (by rw[q3];simp)
   .cases d
theorem aoD(gi:gE G c H w)(q:kW c w env a){o:Oper}{m:iR}(b:nP P G o=some m){v:Nat}{args:List D}(f:yieldOf env m=some (v,args)){rf:Nat}{Q:Env}(M:H[v]? = some (.im rf Q .ready)) :
  ∃(L:Loc) (r:Loop) (vs:List Value),c.ι v 0=some L/\L.jN=false/\w.heap[L.b]? = some (.loop r)/\jC c w vs args /\
   (vs.length=r.params.size->(execOp a.eval o).run P w = .ok (.round L.b r.fn ((r.params.zip vs.toArray).foldl (λtmps (t,a)=>tmps.setIfInBounds t a) r.tmps) r.assign r.body) w):=by
 unfold yieldOf at f;split at f
 .rename_i y j;split at f
  .rename_i v' E;cases f;obtain⟨cl,p⟩:=Wr b rfl;have S:=b;unfold nP at b;simp only[p,aA,ag]at b;obtain⟨xs,C,b⟩:=b;have K:=Be gi q cl.args.toList C
   have F:∃x X,cl.callee = .value x/\cX G x=some X/\X=y/\xs=j:=by
    split at b
    .split at b
     .exfalso;simp only[aG,av]at b;split at b<;>cases b
     .cases b
    .rename_i x R l;simp only[ag,aG,av]at b;obtain⟨X,hX,O⟩:=b;cases O;exact⟨x,y,l,hX,rfl,rfl⟩
    .split at b
     .simp only[ag]at b;obtain⟨B,_,b⟩:=b;split at b
      .simp only[ag]at b;obtain⟨i,_,z,_,A,_,b⟩:=b;split at b
       .split at b
        .cases b
        .cases b
       .cases b
      .cases b
     .cases b
    .split at b
     .simp only[ag]at b;obtain⟨B,_,b⟩:=b;split at b
      .simp only[ag]at b;obtain⟨A,_,b⟩:=b;split at b
       .simp only[ag]at b;obtain⟨n,_,b⟩:=b;split at b
        .cases b
        .cases b
       .cases b
      .cases b
     .cases b
    .split at b
     .split at b
      .cases b
      .cases b
      .cases b
      .cases b
     .cases b
    .cases b
    .cases b
    .cases b
   obtain⟨x,X,l,hX,rfl,rfl⟩:=F;have h:=iS gi q hX;rw[E]at h;generalize N:a.eval x=u at h
   cases h with
   | ja _ L s I=>
    have g:=gi.ob v _ M;simp only[Ob.gen]at g;rw[s]at g;simp only[ie]at g;obtain⟨_,r,d,_⟩:=g;refine⟨L,r,_,s,I,d,K,λJ=>?_⟩;have e:cl.args.map a.eval=(cl.args.toList.map a.eval).toArray:=by cases cl.args;simp
    have k:cl.args.size=r.params.size:=by simpa using J
    simp only[execOp,p,resolve,l,N,Deferred.ofValue,Sem.run_bind,Sem.run_pure,Result.andThen_ok,invoke,Instr.yield,Instr.getLoop,getObj,Sem.run,d];simp[Sem.run,d,k,e]
  .cases f
 .cases f
theorem WM:∀(ps:List Tmp) (vs:List Value) (ds:List D) (tmps:Array Value) (a:Env),jC c w vs ds->(∀p∈ps,p<tmps.size)->(∀k,gh c w (tmps.getD k undef) (a.get k)) ->
  ∀k,gh c w (((ps.zip vs).foldl (λ(tmps:Array Value) (p:Tmp×Value)=>tmps.setIfInBounds p.1 p.2) tmps).getD k undef) ((uC ps ds a).get k)
 | [],vs,ds,tmps,a,_,_,h,k=>by simpa[uC]using h k
 | p::ps,[],ds,tmps,a,b,_,h,k=>by cases b;simpa[uC]using h k
 | p::ps,v::vs,ds,tmps,a,b,hp,h,k=>by
  cases b with
  | @cons _ d _ ds g b=>
   simp only[List.zip_cons_cons,cu,uC];refine WM ps vs ds (tmps.setIfInBounds p v) ((p,d)::a) b (λq f=>by simpa using hp q (by simp[f])) (λj=>?_) k;have i:p<tmps.size:=hp p (by simp);simp only[Env.xf];split
   .rename_i e;subst e;have:(tmps.setIfInBounds p v).getD p undef=v:=by simp[Array.getD,i]
    rw[this];exact g
   .rename_i e
    have:(tmps.setIfInBounds p v).getD j undef=tmps.getD j undef:=by simp only[cW,cN e]
    rw[this];exact h j
theorem XE:∀(l:List (Tmp×Value)) (tmps:Array Value),(l.foldl (λ(tmps:Array Value) (p:Tmp×Value)=>tmps.setIfInBounds p.1 p.2) tmps).size=tmps.size
 | [],_=>rfl
 | p::l,tmps=>by simp only[cu];rw[XE l];simp
def xT(G:GT)(N n:Nat)(ic:Bool)(c:Ctx)(H:U)(w:World)(R:Out->Prop)(Q:Exit->Act->World->Prop):Prop:=
 ∀(o:Out) (c':Ctx) (w':World) (a:Act),R o->o.st.ic=ic->n<=o.st.H.length->lu G N c' w' o.st a->Step n c H w c' o.st.H w'->Q o.ex a w'
theorem Pn{s:St}(hs:lu G N c w s a){v rf:Nat}{e:Env}{st:qv}(f:s.H[v]? = some (.im rf e st)){L:Loc}(j:c.ι v 0=some L) :
  ∃r:Loop,w.heap[L.b]? = some (.loop r)/\L.jN=false/\(∀k,gh c w (r.tmps.getD k undef) (e.get k))/\(∃M,G.rt rf=some (M,r.params,r.assign,r.body)/\M<=r.tmps.size)/\st.is r:=by
 have b:=hs.gi.ob v _ f;simp only[Ob.gen]at b;rw[j]at b;simp only[ie]at b;obtain⟨h1,r,i,h,d,g⟩:=b;rw[hs.gi.rt]at d;exact⟨r,i,h1,h,d,g⟩
theorem aa8{s:St}(hs:lu G N c w s a){v rf:Nat}{d:Env}{st st':qv}(e:s.H[v]? = some (.im rf d st)){L:Loc}(g:c.ι v 0=some L){r:Loop}(f:w.heap[L.b]? = some (.loop r))
  (b:Loop) (h1:b.tmps=r.tmps) (p:b.params=r.params) (o:b.assign=r.assign) (n:b.body=r.body) (m:st'.is b) :
  lu G N c { w with heap:=w.heap.setIfInBounds L.b (.loop b) } { s with H:=s.H.set v (.im rf d st') } a/\Step s.H.length c s.H w c (s.H.set v (.im rf d st')) { w with heap:=w.heap.setIfInBounds L.b (.loop b) } /\
   (setObj L.b (.loop b)).run P w = .ok () { w with heap:=w.heap.setIfInBounds L.b (.loop b) }:=by
 obtain⟨x,i,h,u,⟨M,t,q⟩,y⟩:=Pn hs e g;rw[f]at i;cases i
 obtain⟨k1,k2⟩:=A4 hs.gi e rfl rfl (ob':=.im rf d st') rfl g h (.loop b) (λw' l j=>by
  simp only[ie];refine⟨h,b,l,λk=>by rw[h1];exact j _ _ (u k),⟨M,?_,by rw[h1];exact q⟩,m⟩
  rw[hs.gi.rt,t,p,o,n])
 exact⟨⟨k1,λk=>(hs.env k).p7 hs.gi.toHeapOK k2,hs.size,hs.marks⟩,k2,by simp[setObj,Sem.run,f]⟩
theorem ahx(a:Option Nat)(l:Nat):(FW a).inRound l=FW (some l):=rfl
theorem apK{s:St}{f:Option Nat}{n:Nat}{o:Oper}{X:iR}{next:Act->World->Prop}{Q:Exit->Act->World->Prop}(hs:lu G N c w s a)(hc:nP P G o=some X)
  (hd:tJ N o.dst=true) {v rf:Nat} {args:List D} {e0:Env} (jW:yieldOf s.env.get X=some (v,args)) (B:s.H[v]? = some (.im rf e0 .ready)) {M:Nat} {ps:Array Tmp} {ac bc:Code} (vO:G.rt rf=some (M,ps,ac,bc))
  (m:args.length=ps.size) (Ov:∀p∈ps.toList,p<M) {Ra Rb:Out->Prop}
  (hA:∀(f:Option Nat) (n:Nat) (Q:Exit->Act->World->Prop) (c:Ctx) (w:World) (a:Act),lu G M c w { env:=uC ps.toList args e0,H:=s.H,ic:=true } a ->
   xT G M s.H.length true c s.H w Ra Q->ac.wpIn (FW f) n P Q a w)
  (hn:∀o,Ra o->o.stop=false/\∃g,o.st.H[v]? = some (.im rf g .ready))
  (hB:∀s1 g,Ra (.norm s1)->s1.ic=true->s1.H[v]? = some (.im rf g .ready)->∀(f:Option Nat) (n:Nat) (Q:Exit->Act->World->Prop) (c:Ctx) (w:World) (a:Act),lu G M c w { s1 with H:=s1.H.set v (.im rf g .busy) } a ->
   xT G M s1.H.length true c (s1.H.set v (.im rf g .busy)) w Rb Q->bc.wpIn (FW f) n P Q a w)
  (hm:∀o,Rb o->∃e,o.st.H[v]? = some (.im rf e .busy))
  (k:∀(q:Out) (e:Env) (c':Ctx) (w':World) (a':Act),Rb q->q.st.H[v]? = some (.im rf e .busy)->s.H.length<=q.st.H.length->lu G N c' w' { s with env:=put s.env o.dst (.b !q.stop),H:=q.st.H.set v (.im rf e q.AW) } a' ->
   Step s.H.length c s.H w c' (q.st.H.set v (.im rf e q.AW)) w'->next a' w'):o.wpIn (FW f) n P a w next Q:=by
 obtain⟨L,r,vs,gu,iu,u,Z,iA⟩:=aoD hs.gi hs.env hc jW B;obtain⟨r0,x,_,a3,⟨M',a4,a6⟩,a5⟩:=Pn hs B gu;rw[u]at x;cases x;rw[vO]at a4;cases a4;have Y:v<s.H.length:=(ae.1 B).1;have iP:vs.length=r.params.size:=by rw[Z.length];exact m
 refine⟨λ_ _=>trivial,?_⟩;rw[Oper.semAt_plain (FW f) a.eval o (CG hc),iA iP];refine⟨λh=>by simp[Fence.wide]at h,roundIn_of_wpIn (F:=FW f) trivial ?_⟩;rw[ahx]
 have YM:(r.params.zip vs.toArray).foldl (λtmps (t,a)=>tmps.setIfInBounds t a) r.tmps=(r.params.toList.zip vs).foldl (λ(tmps:Array Value) (p:Tmp×Value)=>tmps.setIfInBounds p.1 p.2) r.tmps:=by rw[<-Array.foldl_toList];simp
 refine hA (some L.b) _ _ c w _ ⟨hs.gi,λj=>?_,?_,.nil⟩ ?_
 .show gh c w (Array.getD ((r.params.zip vs.toArray).foldl (λtmps (t,a)=>tmps.setIfInBounds t a) r.tmps) j undef) _;rw[YM];exact WM _ _ _ _ _ Z (λp hp=>aM (Ov p hp) a6) a3 j
 .show M<=Array.size ((r.params.zip vs.toArray).foldl (λtmps (t,a)=>tmps.setIfInBounds t a) r.tmps);rw[YM,XE];exact a6
 .intro V c1 w1 x S K O W Ar;obtain⟨Zp,g,A⟩:=hn V S
  cases V with
  | exit=>cases Zp
  | ret=>cases Zp
  | norm s1=>
   have y:c1.ι v 0=some L:=Ar.old v 0 L Y gu;obtain⟨l,b1,b2,b3,_,b5⟩:=Pn W A y;have E:l.state = .ready/\l.pending=none:=b5;obtain⟨k1,k2,k3⟩:=aa8 (P:=P) (st':=.busy) W A y b1 { l with state:=.busy } rfl rfl rfl rfl rfl;refine⟨{ w1 with heap:=w1.heap.setIfInBounds L.b (.loop { l with state:=.busy }) },?_,?_⟩
   .have hg:(Instr.getLoop L.b).run P w1 = .ok l w1:=by simp[Instr.getLoop,getObj,Sem.run,b1]
    simp only[Instr.beginRound,Sem.run_bind,hg,Result.andThen_ok,k3,E.1];simp
   .refine hB s1 g S K A (some L.b) _ _ c1 _ x k1 ?_;intro b c2 d h2 R h' T Oz EE;obtain⟨e,z⟩:=hm b R;have I:v<s1.H.length:=aM Y O;have Ay:c2.ι v 0=some L:=EE.old v 0 L I y;obtain⟨i,d1,d2,d3,_,d5⟩:=Pn Oz z Ay
    have key:∀(j:Option Code),b.AW.is { i with state:=if j.isNone then .ready else .done,pending:=j }->j.isNone = !b.stop->∃v w',(Instr.endRound L.b j).run P d = .ok v w'/\next (a.put o.dst v) w':=by
     intro j hj C;obtain⟨e1,e2,e3⟩:=aa8 (P:=P) (st':=b.AW) Oz z Ay d1 { i with state:=if j.isNone then .ready else .done,pending:=j } rfl rfl rfl rfl hj;have hg:(Instr.getLoop L.b).run P d = .ok i d:=by simp[Instr.getLoop,getObj,Sem.run,d1]
     refine⟨.bool j.isNone,{ d with heap:=d.heap.setIfInBounds L.b (.loop { i with state:=if j.isNone then .ready else .done,pending:=j }) },?_,?_⟩
     .simp only[Instr.endRound,Sem.run_bind,hg,Result.andThen_ok,e3];rfl
     .have J:gh c2 { d with heap:=d.heap.setIfInBounds L.b (.loop { i with state:=if j.isNone then .ready else .done,pending:=j }) } (.bool j.isNone) (.b !b.stop):=by
       have:D.b (!b.stop)=D.val (.bool j.isNone):=by rw[C]
       rw[this];exact .val _
      have gv:Step s.H.length c s.H w c2 (b.st.H.set v (.im rf e b.AW)) { d with heap:=d.heap.setIfInBounds L.b (.loop { i with state:=if j.isNone then .ready else .done,pending:=j }) }:=
       (Ar.trans (k2.trans (EE.trans e2 T) (Nat.le_refl _)) O)
      refine k b e c2 _ _ R z (Nat.le_trans O T) (hs.next e1.gi gv hd J) gv
    cases b with
    | norm U=>exact key none ⟨rfl,rfl⟩ rfl
    | ret U=>exact key (some .ret) ⟨rfl,rfl⟩ rfl
    | exit id U=>exact key (some (.exit id)) ⟨rfl,rfl⟩ rfl
theorem aeo{s:St}(hs:lu G N c w s a){rf:Nat}{ps:Array Tmp}{ac bc:Code}(l:G.rt rf=some (N,ps,ac,bc))(live:List Nat)(fn:FuncId) :
  ∃(c2:Ctx) (w2:World) (g f:Loc),(Instr.enterLoop fn a.tmps ps ac bc none).run P w = .ok (f.b,[{ target:=.collected g.b,args:=#[] }]) w2/\g.jN=false/\f.jN=false /\
   c2.ι s.H.length 0=some g/\c2.ι (s.H.length+1) 0=some f/\gE G c2 (s.H ++ [.jE,.im rf (forget live s.env) .ready]) w2/\Step s.H.length c s.H w c2 (s.H ++ [.jE,.im rf (forget live s.env) .ready]) w2:=by
 obtain⟨b,_,d⟩:=O6 hs.gi (nq.last s.H) (.deferred (some [])) .jE rfl rfl (λ_ e=>by simp only[ie];exact .inr e);simp only[Al.last]at b d;generalize o:c.set s.H.length 0 ⟨w.heap.size,0,0,false⟩=c1 at b d;have k:c1.ι s.H.length 0=some ⟨w.heap.size,0,0,false⟩:=by rw[<-o];exact Ctx.sN _ _ _ _
 generalize h:w.alloc (.deferred (some []))=w1 at b d;have p:w1.heap.size=w.heap.size+1:=by rw[<-h];simp
 have n:(s.H ++ [Ob.jE]).length=s.H.length+1:=by simp
 obtain⟨nH,_,i⟩:=O6 b (nq.last (s.H ++ [.jE])) (.loop { state:=.ready,pending:=none,fn:=fn,tmps:=a.tmps,params:=ps,assign:=ac,body:=bc,defers:=w.heap.size }) (.im rf (forget live s.env) .ready) rfl rfl (λm e=>by
  simp only[ie];refine⟨trivial,_,e,λj=>m _ _ ((DO hs.env live j).p7 hs.gi.toHeapOK d),⟨N,?_,hs.size⟩,rfl,rfl⟩
  rw[<-l,<-b.rt];rfl)
 simp only[Al.last,n,aK,eI]at nH i;refine⟨_,_,⟨w.heap.size,0,0,false⟩,⟨w1.heap.size,0,0,false⟩,?_,rfl,rfl,?_,Ctx.sN _ _ _ _,nH,d.trans i (by omega)⟩
 .subst h;simp[Instr.enterLoop]
 .rw[Ctx.wI _ _ (by omega)];exact k
theorem apI{s:St}{n:Nat}{Q:Exit->Act->World->Prop}(hs:lu G N c w s a){g:Operand}{X:X}(hx:cX G g=some X){f:FuncId}{first cap:List D}(qJ:ev s.env.get X = .fn (.func f) first cap)
  (kL:s5 P f=true) {rf:Nat} {ps:Array Tmp} {ac bc:Code} (vO:G.rt rf=some (N,ps,ac,bc)) {live:List Nat} {R1:D->U->Prop} {R:Out->Prop}
  (jF:vx P G f (first ++ [.ja (s.H.length+1)]++cap) (s.H ++ [.jE,.im rf (forget live s.env) .ready]) R1)
  (k:∀d H',R1 d H'->∃env st o,H'[s.H.length+1]? = some (.im rf env st)/\AP { s with H:=H'.set (s.H.length+1) .dead,marks:=s.H.length::s.marks } st=some o/\R o)
  (V:xT G N s.H.length s.ic c s.H w R Q):(Code.rangeFunc g ps ac bc).wpIn (FW none) n P Q a w:=by
 refine wpIn_rangeFunc λfn _=>?_;obtain⟨c2,w2,E,l,a0,oE,pB,O,F,nH,Zn⟩:=aeo (P:=P) hs vO live fn;have Zh:∀u d,gh c w u d->gh c2 w2 u d:=λu d hd=>hd.p7 hs.gi.toHeapOK Zn;have T:=iS hs.gi hs.env hx;rw[qJ]at T;generalize hu:a.eval g=u at T
 cases T with
 | fn _ fs cs _ _ q1 q2 q3 q4=>
  have a':gh c2 w2 (.func (.yield l.b) #[] #[]) (.ja (s.H.length+1)):=.ja _ l F pB
  have iB:jC c2 w2 (fs ++ [Value.func (.yield l.b) #[] #[]]++cs) (first ++ [.ja (s.H.length+1)]++cap):=
   ((jC.IV q1 λi v d h1 C=>Zh _ _ (q3 i v d h1 C)).append (.cons a' .nil)).append (jC.IV q2 λi v d h1 C=>Zh _ _ (q4 i v d h1 C))
  have EA:(resolve a.eval (rangeCall g l.b) 0).run P w2 = .ok { target:=.fn (.func f) cs.toArray,args:=fs.toArray ++ #[Value.func (.yield l.b) #[] #[]] } w2:=by simp[resolve,hu,Deferred.ofValue];rfl
  have B:(invoke (.fn (.func f) cs.toArray) (fs.toArray ++ #[Value.func (.yield l.b) #[] #[]])).run P w2 = .ok (.enter f (fs ++ [Value.func (.yield l.b) #[] #[]]++cs).toArray) w2:=by have C:=PC (P:=P) kL (fs ++ [Value.func (.yield l.b) #[] #[]]++cs).toArray w2;simpa[invoke]using C
  have Oa:=jF c2 w2 _ nH iB
  have kT:CallsIn (FW none) (n-1) P f (fs ++ [Value.func (.yield l.b) #[] #[]]++cs).toArray w2 (rangePost (FW none) n P l.b Q { a with defers:=[{ target:=.collected E.b,args:=#[] }]++a.defers }):=by
   refine Gt.2 (Oa.mono ?_);rintro e m ⟨v,t,d,K,rfl,hR,r,HT,_,EE⟩;obtain⟨env,st,q,lg,A,RO⟩:=k d K hR;have M:(s.H ++ [Ob.jE,Ob.im rf (forget live s.env) .ready]).length=s.H.length+2:=by simp
   have O:t.ι s.H.length 0=some E:=EE.old _ 0 E (by rw[M];omega) O;have F:t.ι (s.H.length+1) 0=some l:=EE.old _ 0 l (by rw[M];omega) F;have I:=HT.ob _ _ lg;simp only[Ob.gen]at I;rw[F]at I;simp only[ie]at I;obtain⟨_,p,S,_,_,y⟩:=I;have e1:l.b<m.heap.size:=(aP.1 S).1;obtain⟨m1,m2⟩:=WH (w':={ m with heap:=m.heap.setIfInBounds l.b (.loop { p with state:=.exhausted }) }) HT lg rfl F pB ⟨rfl,Nat.le_refl _⟩ rfl rfl (by simp) (λb hb=>by rw[cN (cA hb)])
   have z:Step s.H.length c s.H w t (K.set (s.H.length+1) .dead) { m with heap:=m.heap.setIfInBounds l.b (.loop { p with state:=.exhausted }) }:=
    Zn.trans (EE.trans m2 r) (by rw[M];omega)
   have J:lu G N t { m with heap:=m.heap.setIfInBounds l.b (.loop { p with state:=.exhausted }) } { s with H:=K.set (s.H.length+1) .dead,marks:=s.H.length::s.marks } { a with defers:=[{ target:=.collected E.b,args:=#[] }]++a.defers }:=by
    refine⟨m1,λj=>(hs.env j).p7 hs.gi.toHeapOK z,hs.size,.cons E O oE (hs.marks.mono λv L h=>z.old v 0 L ?_ h)⟩;rcases bK v s.H.length with Z|Z
    .exact Z
    .rw[hs.gi.out v 0 Z]at h;cases h
   have Y8:p.state≠.busy:=by
    cases st with
    | busy=>cases A
    | ready=>rw[y.1];decide
    | Bk=>rw[y.1];decide
    | zM=>rw[y.1];decide
   have YL:(Instr.endLoop l.b).run P m = .ok p.pending { m with heap:=m.heap.setIfInBounds l.b (.loop { p with state:=.exhausted }) }:=by
    have hg:(Instr.getLoop l.b).run P m = .ok p m:=by have:m.heap[l.b]? = some (.loop p):=S;simp[Instr.getLoop,getObj,Sem.run,this]
    have ti:(setObj l.b (.loop { p with state:=.exhausted })).run P m = .ok () { m with heap:=m.heap.setIfInBounds l.b (.loop { p with state:=.exhausted }) }:=by have:m.heap[l.b]? = some (.loop p):=S;simp[setObj,Sem.run,this]
    have Y:(p.state == .busy)=false:=by generalize p.state=x at Y8;cases x<;>first|rfl|exact absurd rfl Y8
    simp only[Instr.endLoop,Sem.run_bind,hg,Result.andThen_ok,Y,ti];simp[ti]
   generalize ({ m with heap:=m.heap.setIfInBounds l.b (.loop { p with state:=.exhausted }) }:World)=W at J z YL;refine⟨p.pending,W,YL,?_⟩
   have Sm:s.H.length<=(K.set (s.H.length+1) .dead).length:=by rw[M]at r;simp;omega
   cases st with
   | busy=>cases A
   | ready=>
    cases A;rw[y.2];exact V _ t _ _ RO rfl Sm J z
   | Bk=>
    cases A;rw[y.2];exact wpIn_ret (V _ t _ _ RO rfl Sm J z)
   | zM id=>
    cases A;rw[y.2];exact wpIn_exit (V _ t _ _ RO rfl Sm J z)
  exact⟨l.b,_,w2,_,w2,f,_,w2,a0,EA,λ_ _=>trivial,B,λh=>by simp[Fence.wide]at h,kT⟩

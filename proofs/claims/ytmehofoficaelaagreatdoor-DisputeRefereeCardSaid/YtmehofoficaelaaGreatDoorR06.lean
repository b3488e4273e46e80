/- Part 6 of DisputeReferee. -/
import Derived.Shelf.SlSortCmp.NoneTotal
import Derived.Test.YtmehofoficaelaaGreatDoorR05
set_option linter.all false
namespace Go.AL
open Go Go.Proofs Go.Shelf Go.RowKit Go.Lib Go.Sort
structure wC(P:Program)(f:FuncId)(sz:Nat):Prop where
 pos:0<sz
 full:∀(α:Type) [Inhabited α] (enc:α->List Value) (_:∀x,(enc x).length=sz) (_:∀x,∀v∈enc x,v.oneCell'=true) (cf:α->α->Int) (_:SWO (ltOf cf)) (g lh off cap:Nat) (d:Array α) (w:World)
  (_:∀args w,(callFunc g args).run P w = .ok (.enter g args) w) (_:CmpLays P g #[] enc sz cf lh off d.size w) (_:HoldsK enc sz w lh off d) (_:lh<w.heap.size) (_:d.size<4611686018427387904),
  Calls P f #[.slice (some ⟨lh,off,none⟩) d.size cap,.func (.func g) #[] #[]] w λe w'=>e = .returned (.tuple #[])/\∃d' n os,PermIn 0 d.size d d'/\SortedIn (ltOf cf) 0 d.size d'/\w'=sortWorldK enc sz w lh off n d' os
 none:∀(p:Option Addr) (cap:Nat) (fv:Value) (w:World),Calls P f #[.slice p 0 cap,fv] w λe w'=>e = .returned (.tuple #[])/\w'=w
theorem wC.of{P:Program}{ρ:Ren}(L:SlLaysF0.n6 P ρ){k:Nat}(b:0<k)(c:∀w,(isAgg (ρ.t 24)).run P w = .ok true w)(a:∀w,(Go.sizeOf (ρ.t 24)).run P w = .ok k w):wC P (ρ.f 6) k where
 pos:=b
 full α _ enc h1 h2 cf hO g lh off cap d w eg hc hH hb hs:=AnyQ.slices_SortFunc L k c a enc h1 h2 cf hO g #[] lh off cap d w eg hc hH hb hs
 none:=AnyF.slices_SortFunc_none L
section
variable{P:Program}{G:GT}{c:Ctx}{H:U}{w:World}{α:Type}
structure El(c:Ctx)(w:World)(fc:α->List D)(l:List α) where
 vs:List Value
 a:α
 mem:a∈l
 cells:Cells (c.data c.F) w vs (fc a)
theorem Yx{a:Type}[Inhabited a](enc:a->List Value)(k lh off m:Nat)(e:Array a)(os:Array Obj){b:Nat}(d:b<w.heap.size)(c:b≠lh):(sortWorldK enc k w lh off m e os).heap[b]? = w.heap[b]? := by simp only[sortWorldK,grow,putRowK,putRow,mapBlock,Go.Sort.ahead];rw[cj (by simpa using d),aX,if_neg (cF c)]
theorem aaM(h:gf G c H w){W:World}(hs:w.heap.size<=W.heap.size)(d:∀b,c.F b->W.heap[b]? = w.heap[b]?):gf G (c.data c.F) [] W where
 inj v v' L L' h1:=by obtain⟨o,a,_⟩:=h1;simp at a
 lt b hb:=by obtain⟨v,L,⟨o,a,_⟩,_⟩:=hb;simp at a
 nF b hb:=by obtain⟨v,L,⟨o,a,_⟩,_⟩:=hb;simp at a
 ki b hb:=aK (h.ki b hb) hs
 out _ _ _:=rfl
 l7 _ _ _ _ _:=rfl
 ob v o a:=by simp at a
 gl g cs hg:=by obtain⟨h1,f⟩:=(Kz h).gl g cs hg;exact⟨h1,fF.carry (c:=c.data c.F) (c':=c.data c.F) (λ_ _ _ h=>h) (λ_ h=>h) (λb o e=>Em (d b e)) f⟩
 rt:=h.rt
theorem alG{W w':World}(h:jJ W w'):∃q a,w'=grow (W.drewN q) a:=by
 obtain⟨⟨h1,n⟩,g,f,m,e⟩:=h;refine⟨w'.drawn-W.drawn,w'.heap.extract W.heap.size w'.heap.size,?_⟩
 cases w' with
 | mk l tp dr o k=>
  cases W with
  | mk b c j o' d=>
   simp only at *;subst h1 g f;simp only[grow,World.drewN];congr 1
   .apply Array.ext_getElem?;intro i;rcases bw i b.size with hi|hi
    .rw[cj hi,e i hi]
    .rw[Array.getElem?_append_right hi,Array.getElem?_extract];split
     .congr 1;omega
     .exact dJ (by omega)
   .omega
theorem je.two{c:Ctx}{w:World}{vs:List Value}{d e:D}(h:je c w vs [d,e]):∃u v,vs = [u,v]/\fF c w u d/\fF c w v e:=by
 cases h with
 | cons h1 h=>cases h with
  | cons a h=>cases h;exact⟨_,_,rfl,h1,a⟩
theorem alg{f g:FuncId}{sz:Nat}(hS:wC P f sz){x:D}{R:D->U->Prop}(k:R (.tup []) H):tW P G f [.fJ,x] H R:=by intro c w vs fG b;obtain⟨u,v,rfl,h1,h⟩:=je.two b;cases h1;refine(hS.none none 0 v w).mono ?_;rintro e w' ⟨rfl,rfl⟩;exact⟨_,c,_,H,rfl,k,Nat.le_refl _,fG,.tup [] [] rfl (λi v d a=>by simp at a),Step.refl _ _ _ _⟩
theorem alh{f g:FuncId}{sz:Nat}(hS:wC P f sz)(hg:rT P g=true)(fc:α->List D)(l:List α)(hl:∀a∈l,(fc a).length=sz)(gu:∀a∈l,gh (fc a)=true)(h0:0<l.length)(vE:l.length<4611686018427387904)
  (s:α->α->Int) (C0:∀x∈l,¬s x x<0) (tr:∀x∈l,∀y∈l,∀z∈l,s x y<0->s y z<0->s x z<0) (nt:∀x∈l,∀y∈l,∀z∈l,¬s x y<0->¬s y z<0->¬s x z<0)
  (hc:∀x∈l,∀y∈l,tW P G g [.agg (fc x),.agg (fc y)] [] λd _=>d = .i (s x y)) {v gen:Nat} {t:TypeId} (S:H[v]? = some (.row t gen (l.map fc).flatten)) {R:D->U->Prop}
  (k:∀l':List α,l'.Perm l->l'.Pairwise (λx y=>¬s y x<0)->R (.tup []) (H.set v (.row t gen (l'.map fc).flatten))) :
  tW P G f [.fy v gen sz 0 l.length,.fn (.func g) [] []] H R:=by
 have Q:=hS.pos;intro c w vs fG B;obtain⟨u,v1,rfl,h1,h2⟩:=je.two B;clear B;have hn:l.length=l.length:=rfl;revert hn;generalize hN:l.length=N at h1;intro hn
 have nG:v1 = .func (.func g) #[] #[]:=by
  cases h2 with
  | fn _ fs cs df dc ja jH _ _=>
   have q:fs = []:=az.1 ja;have J:cs = []:=az.1 jH;subst q;subst J;rfl
 subst nG;clear h2
 cases h1 with
 | l3=>omega
 | fy _ _ _ _ _ cap L fM gR jG iL l9=>
 have Y:=fG.ob v _ S;simp only[Ob.gen]at Y;rw[fM]at Y;simp only[gK,gR]at Y;obtain⟨p,O,FF,F,oD⟩:=Y
 have lU:(l.map fc).flatten.length=N*sz:=by rw[K3 sz _ (by simpa using hl),List.length_map,hN]
 rw[lU]at F;have vL:lN c H L.b:=⟨v,L,⟨_,S,rfl,fM⟩,gR,rfl⟩;have T:=fG.lt _ vL
 have E:∀i,i<N->L.base+i*sz+sz<=p.size:=λi hi=>by have:(i+1)*sz<=N*sz:=bk _ hi;rw[b7]at this;omega
 let mk:Fin l.length->El c w fc l:=λi=>{
  vs:=(p.toList.drop (L.base+i.val*sz)).take sz
  a:=l[i.val]
  mem:=bK _
  cells:=by
   have hi:i.val<N:=by rw[<-hN];exact i.isLt
   have hm:=E _ hi;have yI:(fc l[i.val]).length=sz:=hl _ (bK _)
   have iZ:∀r,r<sz->∃y d,((p.toList.drop (L.base+i.val*sz)).take sz)[r]? = some y/\(fc l[i.val])[r]? = some d/\y.oneCell'=true/\fF c w y d:=λr B=>by
    have K:(l.map fc).flatten[i.val*sz+r]? = (fc l[i.val])[r]? := by rw[K2 sz Q _ (by simpa using hl),show(i.val*sz+r) / sz=i.val from by rw[dz,Nat.mul_add_div Q,Nat.div_eq_of_lt B];rfl,show(i.val*sz+r) % sz=r from by rw[dz,Nat.mul_add_mod,eR B]];simp
    have A:(fc l[i.val])[r]? = some (fc l[i.val])[r]:=List.getElem?_eq_getElem (by omega);obtain⟨y,AS,P2,a1⟩:=oD (i.val*sz+r) _ (K.trans A);refine⟨y,_,?_,A,P2,a1⟩;rw[aC,if_pos B,aH,br,<-AS];congr 1;omega
   have sc:((p.toList.drop (L.base+i.val*sz)).take sz).length=sz:=by simp;omega
   refine⟨by rw[sc,yI],λy C=>?_,λr y d C K=>?_⟩
   .obtain⟨r,B⟩:=aA.1 C;have mU:r<sz:=by have:=(ae.1 B).1;omega
    obtain⟨y',d,q,_,e3,_⟩:=iZ r mU;rw[B]at q;cases q;exact e3
   .have mU:r<sz:=by have:=(ae.1 C).1;omega
    obtain⟨y',d',q,J,_,e4⟩:=iZ r mU;rw[C]at q;cases q;rw[K]at J;cases J
    exact fF.closed (c:=c) (c':=c.data c.F) (λb I=>I) e4 (wL (gu _ (bK _)) K) }
 haveI:Inhabited (El c w fc l):=⟨mk ⟨0,h0⟩⟩
 let enc:El c w fc l->List Value:=λe=>e.vs
 let d:Array (El c w fc l):=Array.ofFn mk
 have M:d.size=N:=by simp[d,hN]
 have ij:∀x:El c w fc l,(enc x).length=sz:=λx=>by rw[show enc x=x.vs from rfl,x.cells.len,hl _ x.mem]
 have Pu:∀x:El c w fc l,∀y∈enc x,y.oneCell'=true:=λx y C=>x.cells.one y C
 have a4:d.toList.map (λe=>e.a)=l:=by
  apply bN;intro i;simp only[d,ar,br,Array.getElem?_ofFn]
  by_cases hi:i<l.length
  .simp[hi,mk]
  .simp[hi]
 have hO:SWO (ltOf λx y:El c w fc l=>s x.a y.a):=by
  refine⟨λx=>?_,λx y z=>?_,λx y z=>?_⟩
  .simpa[ltOf]using C0 x.a x.mem
  .simpa[ltOf]using tr x.a x.mem y.a y.mem z.a z.mem
  .simpa[ltOf]using nt x.a x.mem y.a y.mem z.a z.mem
 have wX:∀j,w.cell? ⟨L.b,j,none⟩=p[j]? := λj=>by simp[World.cell?,O]
 have hH:HoldsK enc sz w L.b (L.base+0*sz) d:=by
  intro j hj;have V:j<N*sz:=by simpa[M]using hj
  have hq:j / sz<N:=Nat.div_lt_of_lt_mul (by rw[dz];exact V);have B:j % sz<sz:=Nat.mod_lt _ Q;have hm:=E _ hq;have Fa:j / sz*sz+j % sz=j:=by rw[dz];exact Nat.div_add_mod j sz
  rw[get_flatK _ _ _ _ (by rw[M];exact V)];refine⟨?_,?_⟩
  .have q:d[j / sz]! = mk ⟨j / sz,by omega⟩:=by rw[getElem!_pos d (j / sz) (by omega)];simp[d]
   rw[wX,q];show _=some (id ((p.toList.drop (L.base+j / sz*sz)).take sz)[j % sz]!);rw[getElem!_pos _ (j % sz) (by simp;omega),List.getElem_take,List.getElem_drop,Array.getElem_toList,bX (by omega)];simp only[id];congr 2;omega
  .simp[World.frozen?,O]
 have b0:CmpLays P g #[] enc sz (λx y:El c w fc l=>s x.a y.a) L.b (L.base+0*sz) d.size w:=by
  intro m os dk _ x y;have hW:∀b,c.F b->(sortWorldK enc sz w L.b (L.base+0*sz) m dk os).heap[b]? = w.heap[b]? := λb I=>Yx _ _ _ _ _ _ _ (fG.ki b I) λe=>fG.nF _ vL (e▸I);have ru:gf G (c.data c.F) [] (sortWorldK enc sz w L.b (L.base+0*sz) m dk os):=aaM fG (size_sortWorldK_c _ _ _ _ _ _ _ _) hW
  have sV:∀x:El c w fc l,fF (c.data c.F) (sortWorldK enc sz w L.b (L.base+0*sz) m dk os) (.agg (enc x).toArray) (.agg (fc x.a)):=λx=>
   .agg _ _ x.cells.len x.cells.one λi y d C K=>fF.carry (c:=c.data c.F) (c':=c.data c.F) (λ_ _ _ h=>h) (λ_ h=>h) (λb o hF=>Em (hW b hF)) (x.cells.rep i y d C K)
  have:=hc x.a x.mem y.a y.mem _ _ _ ru (.cons (sV x) (.cons (sV y) .nil));rw[show(#[Value.agg (enc x).toArray,Value.agg (enc y).toArray] ++ #[]:Array Value) = [Value.agg (enc x).toArray,Value.agg (enc y).toArray].toArray by simp];refine Calls.mono this ?_;rintro e w' ⟨u,c',d',H',he,rfl,_,_,hu,fR⟩;cases hu;exact⟨he,alG (z' fR)⟩
 have eg:∀args w,(callFunc g args).run P w = .ok (.enter g args) w:=MJ hg;have jh:=hS.full (El c w fc l) enc ij Pu _ hO g L.b (L.base+0*sz) cap d w eg b0 hH T (by omega);rw[M]at jh;refine jh.mono ?_;rintro e w' ⟨rfl,d',n,os,⟨yL,_,sT⟩,b1,rfl⟩;have X:d'.size=N:=by rw[yL,M]
 have b3:(d'.toList.map λe=>e.a).Perm l:=by
  refine List.Perm.trans (List.Perm.map _ ?_) (List.Perm.of_eq a4);have q:(d'.extract 0 N).toList=d'.toList:=by rw[<-X];simp
  have J:(d.extract 0 N).toList=d.toList:=by rw[<-M];simp
  rw[q,J]at sT;exact sT
 have a2:(d'.toList.map λe=>e.a).Pairwise λx y=>¬s y x<0:=by
  rw[List.pairwise_map,bA];intro i j hi hj AB;have W:i<d'.size:=by simpa using hi
  have V:j<d'.size:=by simpa using hj
  have:=b1 i j (Nat.zero_le _) AB (by omega);rw[getElem!_pos d' j V,getElem!_pos d' i W]at this;simpa[ltOf]using this
 have AG:((d'.toList.map λe=>e.a).map fc).flatten.length=N*sz:=by
  rw[K3 sz _ (λx A=>?_)]
  .simp[X]
  .simp only[aq]at A;obtain⟨a,⟨e,_,rfl⟩,rfl⟩:=A;exact hl _ e.mem
 have hF:(flatK enc sz d').size=N*sz:=by rw[size_flatK,X]
 have h9:N*sz<=p.size-L.base:=by omega
 obtain⟨w1,w2⟩:=DB fG S fM gR O (putCells id (L.base+0*sz) (flatK enc sz d') p) (by simp[putCells]) FF ((d'.toList.map λe=>e.a).map fc).flatten (by rw[AG];exact F) (λi dd hi=>by
  have W:i<N*sz:=by rw[<-AG];exact(ae.1 hi).1
  have hq:i / sz<N:=Nat.div_lt_of_lt_mul (by rw[dz];exact W);have B:i % sz<sz:=Nat.mod_lt _ Q;have A:=d'[i / sz].cells
  rw[K2 sz Q _ (λx A=>by
   simp only[aq]at A;obtain⟨a,⟨e,_,rfl⟩,rfl⟩:=A
   exact hl _ e.mem)]at hi
  have q:(List.map fc (List.map (λe=>e.a) d'.toList))[i / sz]? = some (fc d'[i / sz].a):=by simp only[ar,br];rw[bX (by omega)];rfl
  rw[q,Option.bind_some]at hi;have iM:(d'[i / sz].vs).length=sz:=ij d'[i / sz];have J:(d'[i / sz].vs)[i % sz]? = some (d'[i / sz].vs)[i % sz]:=List.getElem?_eq_getElem (by omega);refine⟨(d'[i / sz].vs)[i % sz],?_,A.one _ (bK _),fF.closed (c:=c.data c.F) (c':=c) (λb I=>I) (A.rep _ _ _ J hi) (wL (gu _ d'[i / sz].mem) hi)⟩;rw[putCells,dg,bX (by omega),aD,if_pos ⟨by omega,by rw[hF];omega⟩];rw[show L.base+i-(L.base+0*sz)=i by omega,get_flatK _ _ _ _ (by rw[X];exact W),getElem!_pos d' (i / sz) (by omega)];show some (id (d'[i / sz].vs)[i % sz]!)=_
  rw[getElem!_pos _ (i % sz) (by omega)];rfl)
 have yG:jJ (w.setRow L.b (putCells id (L.base+0*sz) (flatK enc sz d') p)) (sortWorldK enc sz w L.b (L.base+0*sz) n d' os):=by
  refine⟨⟨rfl,eU _ _⟩,rfl,rfl,?_,λb I=>?_⟩
  .simp[World.setRow,sortWorldK,grow,putRowK,putRow,mapBlock,Go.Sort.ahead]
  .have tD:b<w.heap.size:=by simpa[World.setRow]using I
   by_cases Z:b=L.b
   .subst Z;rw[setRow_heap w L.b p _ t _ O];simp only[sortWorldK,grow,putRowK,putRow,mapBlock,Go.Sort.ahead];rw[cj (by simpa using tD),aX,if_pos rfl,O];rfl
   .rw[Yx _ _ _ _ _ _ _ tD Z];simp only[World.setRow,aX];rw[if_neg (cF Z)]
 exact⟨_,c,_,_,rfl,k _ b3 a2,by simp,w1.oY yG,.tup [] [] rfl (λi v d S=>by simp at S),w2.trans (Bv _ yG) (Nat.le_refl _)⟩
end
end Go.AL
namespace Go.AL
open Go Go.Proofs Go.Shelf Go.RowKit Go.Lib Go.Sort
structure zB(P:Program)(f:FuncId):Prop where
 full:∀(lh off cap:Nat) (zs:List Int) (w:World) (_:Holds (Value.int .i64) w lh off zs.toArray) (_:lh<w.heap.size) (_:zs.length<4611686018427387904),
  Calls P f #[.slice (some ⟨lh,off,none⟩) zs.length cap] w λe w'=>e = .returned (.tuple #[])/\∃n os,w'=grow (putRow (Value.int .i64) (Go.Sort.ahead w n) lh off (zs.mergeSort λx y=>decide (x<=y)).toArray) os
section
variable{P:Program}{G:GT}{c:Ctx}{H:U}{w:World}
theorem alj{f:FuncId}(hS:zB P f)(l:List Int)(h0:0<l.length)(M:l.length<4611686018427387904){v gen:Nat}{t:TypeId}(o:H[v]? = some (.row t gen (l.map λn=>D.i n))){R:D->U->Prop}
  (k:R (.tup []) (H.set v (.row t gen ((l.mergeSort λx y=>decide (x<=y)).map λn=>D.i n)))):tW P G f [.fy v gen 1 0 l.length] H R:=by
 intro c w vs fG s
 cases s with
 | @cons u _ _ _ h1 s=>
 cases s;have F:l.length=l.length:=rfl;revert F;generalize hN:l.length=N at h1;intro F
 cases h1 with
 | l3=>omega
 | fy _ _ _ _ _ cap L A z jG iL l9=>
 have q:=fG.ob v _ o;simp only[Ob.gen]at q;rw[A]at q;simp only[gK,z]at q;obtain⟨g,m,Z,h,Q⟩:=q;rw[List.length_map,hN]at h;have K:lN c H L.b:=⟨v,L,⟨_,o,rfl,A⟩,z,rfl⟩;have p:=fG.lt _ K;have J:∀j,w.cell? ⟨L.b,j,none⟩=g[j]? := λj=>by simp[World.cell?,m]
 have X:Holds (Value.int .i64) w L.b (L.base+0*1) l.toArray:=by
  intro j V;have C:j<l.length:=by simpa using V
  obtain⟨y,h1,h2,Y⟩:=Q j (.i l[j]) (by simp[C]);cases Y;refine⟨?_,by simp[World.frozen?,m]⟩;rw[J,show L.base+0*1+j=L.base+j by omega,h1];simp[C]
 have E:=hS.full L.b (L.base+0*1) cap l w X p M;rw[hN]at E;refine E.mono ?_;rintro e w' ⟨rfl,n,os,rfl⟩;generalize T:(l.mergeSort λx y=>decide (x<=y))=l' at k ⊢;have AG:l'.length=N:=by rw[<-T,ff,hN]
 obtain⟨w1,w2⟩:=DB fG o A z m (putCells (Value.int .i64) (L.base+0*1) l'.toArray g) (by simp[putCells]) Z (l'.map λn=>D.i n) (by rw[List.length_map,AG];exact h) (λi dd hi=>by
  rw[ar]at hi;obtain⟨a,I,rfl⟩:=aj.1 hi;have S:i<l'.length:=(ae.1 I).1;refine⟨.int .i64 a,?_,rfl,.val _⟩;rw[putCells,dg,bX (by omega),aD,if_pos ⟨by omega,by simp;omega⟩];rw[show L.base+i-(L.base+0*1)=i by omega,getElem!_pos l'.toArray i (by simpa using S)];have:=(ae.1 I).2
  simp[this])
 have B:jJ (w.setRow L.b (putCells (Value.int .i64) (L.base+0*1) l'.toArray g)) (grow (putRow (Value.int .i64) (Go.Sort.ahead w n) L.b (L.base+0*1) l'.toArray) os):=by
  refine⟨⟨rfl,eU _ _⟩,rfl,rfl,?_,λb W=>?_⟩
  .simp[World.setRow,grow,putRow,mapBlock,Go.Sort.ahead]
  .have O:b<w.heap.size:=by simpa[World.setRow]using W
   simp only[grow,putRow,mapBlock,Go.Sort.ahead];rw[cj (by simpa using O),aX]
   by_cases r:L.b=b
   .subst r;rw[setRow_heap w L.b g _ t _ m,if_pos rfl,m];rfl
   .simp only[World.setRow,aX];rw[if_neg r,if_neg r]
 exact⟨_,c,_,_,rfl,k,by simp,w1.oY B,.tup [] [] rfl (λi v d o=>by simp at o),w2.trans (Bv _ B) (Nat.le_refl _)⟩
end
end Go.AL
namespace Go.AL
open Go Go.Proofs Go.Shelf Go.RowKit Go.Lib Go.Sort
structure zt(P:Program)(f:FuncId):Prop where
 full:∀(lh off cap i:Nat) (zs:List Int) (w:World) (_:Holds (Value.int .i64) w lh off zs.toArray) (_:zs.length<=cap) (_:cap<=9223372036854775807) (_:i<zs.length),
  Calls P f #[.slice (some ⟨lh,off,none⟩) zs.length cap,.int .i64 i,.int .i64 ((i:Int)+1)] w λe w'=>e = .returned (.slice (some ⟨lh,off,none⟩) (zs.length-1) cap)/\∃n,w'=putRow (Value.int .i64) (Go.Sort.ahead w n) lh off (zs.take i++zs.drop (i+1) ++ [0]).toArray
section
variable{P:Program}{G:GT}{c:Ctx}{H:U}{w:World}
theorem aaQ{f:FuncId}(hS:zt P f)(l:List Int)(i:Nat)(hi:i<l.length){v gen:Nat}{t:TypeId}{zs:List D}(C:H[v]? = some (.row t gen (l.map (λn=>D.i n)++zs))){R:D->U->Prop}
  (k:R (.fy v gen 1 0 (l.length-1)) (H.set v (.row t gen ((l.take i++l.drop (i+1) ++ [0]).map (λn=>D.i n)++zs)))):tW P G f [.fy v gen 1 0 l.length,.i i,.i ((i:Int)+1)] H R:=by
 intro c w vs fG m
 cases m with
 | @cons u _ _ _ h1 m=>
 cases m with
 | @cons u2 _ _ _ r m=>
 cases m with
 | @cons u3 _ _ _ q m=>
 cases m;cases r;cases q;have O:l.length=l.length:=rfl;revert O;generalize hN:l.length=N at h1;intro O
 cases h1 with
 | l3=>omega
 | fy _ _ _ _ _ cap L z s jG M Y=>
 have x:=fG.ob v _ C;simp only[Ob.gen]at x;rw[z]at x;simp only[gK,s]at x;obtain⟨d,p,FF,g,I⟩:=x;rw[au,List.length_map,hN]at g;have V:lN c H L.b:=⟨v,L,⟨_,C,rfl,z⟩,s,rfl⟩;have Q:=fG.lt _ V;have T:∀j,w.cell? ⟨L.b,j,none⟩=d[j]? := λj=>by simp[World.cell?,p]
 have hH:Holds (Value.int .i64) w L.b (L.base+0*1) l.toArray:=by
  intro j o;have A:j<l.length:=by simpa using o
  obtain⟨y,h1,r,q⟩:=I j (.i l[j]) (by rw[ah (by simpa using A)];simp[A]);cases q;refine⟨?_,by simp[World.frozen?,p]⟩;rw[T,show L.base+0*1+j=L.base+j by omega,h1];simp[A]
 have K:=hS.full L.b (L.base+0*1) cap i l w hH (by omega) (by unfold maxLen at M;omega) hi;rw[hN]at K k;refine K.mono ?_;rintro e w' ⟨rfl,n,rfl⟩;generalize X:l.take i++l.drop (i+1) ++ [0]=l' at k ⊢
 have S:l'.length=N:=by rw[<-X,au,au,aJ,aR,cz,hN];omega
 obtain⟨w1,w2⟩:=DB fG C z s p (putCells (Value.int .i64) (L.base+0*1) l'.toArray d) (by simp[putCells]) FF (l'.map (λn=>D.i n)++zs) (by rw[au,List.length_map,S];exact g) (λj dd o=>by
  by_cases J:j<l'.length
  .rw[ah (by simpa using J),ar]at o;obtain⟨a,ha,rfl⟩:=aj.1 o;refine⟨.int .i64 a,?_,rfl,.val _⟩;rw[putCells,dg,bX (by omega),aD,if_pos ⟨by omega,by simp;omega⟩];rw[show L.base+j-(L.base+0*1)=j by omega,getElem!_pos l'.toArray j (by simpa using J)];have:=(ae.1 ha).2;simp[this]
  .have E:l'.length<=j:=by omega
   rw[ai (by simpa using E),List.length_map,S]at o;obtain⟨y,h1,r,q⟩:=I j dd (by rw[ai (by rw[List.length_map];omega),List.length_map,hN];exact o);refine⟨y,?_,r,q⟩
   rw[putCells,dg,h1,aD,if_neg (λh=>by have:=h.2;simp at this;omega)])
 have F:jJ (w.setRow L.b (putCells (Value.int .i64) (L.base+0*1) l'.toArray d)) (putRow (Value.int .i64) (Go.Sort.ahead w n) L.b (L.base+0*1) l'.toArray):=by
  refine⟨⟨rfl,eU _ _⟩,rfl,rfl,?_,λb Z=>?_⟩
  .simp[World.setRow,putRow,mapBlock,Go.Sort.ahead]
  .have tD:b<w.heap.size:=by simpa[World.setRow]using Z
   simp only[putRow,mapBlock,Go.Sort.ahead];rw[aX]
   by_cases B:L.b=b
   .subst B;rw[setRow_heap w L.b d _ t _ p,if_pos rfl,p];rfl
   .simp only[World.setRow,aX];rw[if_neg B,if_neg B]
 have W:fF c (putRow (Value.int .i64) (Go.Sort.ahead w n) L.b (L.base+0*1) l'.toArray) (.slice (some ⟨L.b,L.base+0*1,none⟩) (N-1) cap) (.fy v gen 1 0 (N-1)):=.fy v gen 1 0 (N-1) cap L z s (by omega) M Y;exact⟨_,c,_,_,rfl,k,by simp,w1.oY F,W,w2.trans (Bv _ F) (Nat.le_refl _)⟩
end
end Go.AL
namespace Go.AL
open Go
def Out.ex:Out->Exit
 | .norm _=>.normal
 | .exit id _=>.exit id
 | .ret _=>.ret
def ajR(A:Array Oper):List (List Nat):=A.toList.foldl (init:=[]) λa o=>
 a ++ [dedup ((o.after.toList.filter λe=>Region.binds .any e).flatMap λe=>e.on::a.getD e.on [])]
def ajZ(l:List gI)(ord:List (List Nat)):List (Nat×Nat):=(List.range l.length).flatMap λi=>(List.range i).filterMap λk=>
 if (ord.getD i []).contains k then none else match l[k]?,l[i]? with
  | some a,some b=>if MX a.op b.op then none else some (k,i)
  | _,_=>none
def Wp:List FuncId:=[283]
def aeb:iu->Bool
 | .call f _=>Wp.contains f
 | .callN f _=>Wp.contains f
 | _=>false
def Wq(l:List gI)(ord:List (List Nat))(n:Nat):Bool:=n<l.length&&(List.range l.length).all λi=>decide (i<n)||(List.range i).all λk=>(ord.getD i []).contains k
def TB(a:List (Nat×Nat))(l:List gI)(ord:List (List Nat)):IR:=
 let n:=l.findIdx λe=>aeb e.op
 if Wq l ord n then .mj a (l.take n) (l.drop n)else .lF a l
def mW:Code->List (Array Tmp×Code×Code)
 | .seq a b=>mW a++mW b
 | .cond _ a b=>mW a++mW b
 | .block _ a=>mW a
 | .loop a=>mW a
 | .rangeFunc _ ps a b=>(ps,a,b)::(mW a++mW b)
 | _=>[]
def cC(P:Program)(G:GT)(N:Nat)(rf:Nat):List (List Nat)->Code->Option (IR×List (List Nat))
 | hs,.skip=>some (.skip,hs)
 | hs,.region _ ops false=>match oU P G N ops ops.toList with
  | some l=>some (.ops l,hs)
  | none=>some (.bad,hs)
 | hs,.region _ ops true=>match oU P G N ops ops.toList with
  | some l=>
   let ord:=ajR ops
   let d:=ajZ l ord
   if yn ops&&xB ops ord&&QL l ord d then some (TB d l ord,hs)else some (.bad,hs)
  | none=>some (.bad,hs)
 | hs,.seq a b=>match cC P G N rf hs a with
  | some (x,jS)=>match cC P G N (rf+(mW a).length) jS b with
   | some (y,l8)=>some (.seq x y,l8)
   | none=>none
  | none=>none
 | hs,.cond c a b=>match cX G c with
  | some x=>match cC P G N rf hs a with
   | some (y,jS)=>match cC P G N (rf+(mW a).length) jS b with
    | some (z,l8)=>some (.cond x y z,l8)
    | none=>none
   | none=>none
  | none=>some (.bad,hs)
 | hs,.block id a=>match hs with
  | l::hs=>match cC P G N rf hs a with
   | some (x,jS)=>some (.block id l x,jS)
   | none=>none
  | []=>none
 | hs,.loop a=>match hs with
  | l::hs=>match cC P G N rf hs a with
   | some (x,jS)=>some (.loop l x,jS)
   | none=>none
  | []=>none
 | hs,.rangeFunc g _ _ _=>match cX G g,hs with
  | some x,l::hs=>some (.nv rf l x,hs)
  | _,_=>some (.bad,hs)
 | hs,.exit id=>some (.exit id,hs)
 | hs,.ret=>some (.ret,hs)
 | hs,_=>some (.bad,hs)
inductive mX(P:Program)(G:GT)(N:Nat):IR->Code->Prop
 | skip:mX P G N .skip .skip
 | ops {l id A} (h:oU P G N A A.toList=some l):mX P G N (.ops l) (.region id A false)
 | lF {jk l id A} (ord:List (List Nat)) (h:oU P G N A A.toList=some l) (he:yn A=true) (ho:xB A ord=true) (hp:QL l ord jk=true):mX P G N (.lF jk l) (.region id A true)
 | mj {jk l es id A} (ord:List (List Nat)) (h:oU P G N A A.toList=some (l++es)) (he:yn A=true) (ho:xB A ord=true) (hp:QL (l++es) ord jk=true) (yI:∀i,l.length<=i->i<(l++es).length->∀k,k<i->k∈ord.getD i []):mX P G N (.mj jk l es) (.region id A true)
 | seq {a b x y} (h1:mX P G N x a) (h2:mX P G N y b):mX P G N (.seq x y) (.seq a b)
 | cond {c a b x y z} (hc:cX G c=some x) (h1:mX P G N y a) (h2:mX P G N z b):mX P G N (.cond x y z) (.cond c a b)
 | block {id l a x} (h:mX P G N x a):mX P G N (.block id l x) (.block id a)
 | loop {l a x} (h:mX P G N x a):mX P G N (.loop l x) (.loop a)
 | nv {rf l x g ps ac bc} (hx:cX G g=some x) (h:G.rt rf=some (N,ps,ac,bc)):mX P G N (.nv rf l x) (.rangeFunc g ps ac bc)
 | exit {id}:mX P G N (.exit id) (.exit id)
 | ret:mX P G N .ret .ret
 | bad {c}:mX P G N .bad c
def zz(G:GT)(N rf:Nat)(code:Code):Prop:=∀(i:Nat) (x:Array Tmp×Code×Code),(mW code)[i]? = some x->G.rt (rf+i)=some (N,x)
theorem zz.left{G:GT}{N rf:Nat}{a b:Code}{l:List (Array Tmp×Code×Code)}(hl:l=mW a++mW b)(h:∀(i:Nat) (x:Array Tmp×Code×Code),l[i]? = some x->G.rt (rf+i)=some (N,x)):zz G N rf a/\zz G N (rf+(mW a).length) b:=by
 subst hl;refine⟨λi x c=>h i x ?_,λi x c=>?_⟩
 .grind
 .rw[aW];exact h _ x (by rw[ai (by omega)];simpa using c)
theorem Nw{P:Program}{G:GT}{N:Nat}:∀ {code:Code} {rf:Nat} {hs f:List (List Nat)} {e:IR},zz G N rf code->cC P G N rf hs code=some (e,f)->mX P G N e code:=by
 intro code
 induction code with
 | skip=>intro rf hs f e d h;simp only[cC]at h;cases h;exact .skip
 | region id A lF=>
  intro rf hs f e d h;cases lF
  .simp only[cC]at h;split at h
   .rename_i l hl;cases h;exact .ops hl
   .cases h;exact .bad
  .simp only[cC]at h;split at h
   .rename_i l hl;split at h
    .rename_i m;cases h;simp only[Bool.and_eq_true]at m;unfold TB;dsimp only;split
     .rename_i u;unfold Wq at u;simp only[Bool.and_eq_true,bY,decide_eq_true_eq,List.all_eq_true,a8,de]at u;refine .mj _ (by rw[bO];exact hl) m.1.1 m.1.2 (by rw[bO];exact m.2) λi hi v k B=>?_;rw[bO]at v;rw[aJ]at hi;rcases u.2 i v with h|h
      .omega
      .exact h k B
     .exact .lF _ hl m.1.1 m.1.2 m.2
    .cases h;exact .bad
   .cases h;exact .bad
 | seq a b j o=>
  intro rf hs f e d h;obtain⟨r,q⟩:=zz.left rfl d;simp only[cC]at h;split at h
  .rename_i x p n;split at h
   .rename_i y w t;cases h;exact .seq (j r n) (o q t)
   .cases h
  .cases h
 | cond c a b j o=>
  intro rf hs f e d h;obtain⟨r,q⟩:=zz.left rfl d;simp only[cC]at h;split at h
  .rename_i x s;split at h
   .rename_i y p n;split at h
    .rename_i z w t;cases h;exact .cond s (j r n) (o q t)
    .cases h
   .cases h
  .cases h;exact .bad
 | block id a j=>
  intro rf hs f e d h;simp only[cC]at h;split at h
  .split at h
   .rename_i x p n;cases h;exact .block (j d n)
   .cases h
  .cases h
 | loop a j=>
  intro rf hs f e d h;simp only[cC]at h;split at h
  .split at h
   .rename_i x p n;cases h;exact .loop (j d n)
   .cases h
  .cases h
 | rangeFunc g ps a b j o=>
  intro rf hs f e d h;simp only[cC]at h;split at h
  .rename_i x l p s;cases h;exact .nv s (d 0 _ rfl)
  .cases h;exact .bad
 | exit id=>intro rf hs f e d h;simp only[cC]at h;cases h;exact .exit
 | ret=>intro rf hs f e d h;simp only[cC]at h;cases h;exact .ret
 | _=>intro rf hs f e d h;simp only[cC]at h;cases h;exact .bad
def cR(P:Program):ResultVar->Option tX
 | .tmp t=>some (.tmp t)
 | .cell a t=>match oj P t,jU P t with
  | some false,some _=>some (.sD a)
  | some true,some n=>some (.Ny n a)
  | _,_=>none
def zG(P:Program):List ResultVar->Option (List tX)
 | []=>some []
 | x::r=>match cR P x,zG P r with
  | some a,some l=>some (a::l)
  | _,_=>none
def zj(P:Program)(k:Nat):Option (Nat×Array Tmp×Code×Code):=match P.funcs[k / 64]? with
 | some fn=>match fn.body with
  | some code=>(mW code)[k % 64]?.map λx=>(fn.ntmps,x)
  | none=>none
 | none=>none
theorem aka{P:Program}{G:GT}(d:G.rt=zj P){f:Nat}{fn:Func}{code:Code}(b:P.funcs[f]? = some fn)(c:fn.body=some code)(hl:(mW code).length<=64):zz G fn.ntmps (64*f) code:=by intro i x a;have hi:i<64:=aK (ae.1 a).1 hl;rw[d];unfold zj;rw[show(64*f+i) / 64=f by omega,show(64*f+i) % 64=i by omega,b];simp[c,a]
structure DY(P:Program)(G:GT)(f:FuncId)(fn:iP):Prop where
 ex:∃func code hs gO,P.funcs[f]? = some func/\func.body=some code/\rT P f=true/\(mW code).length<=64/\cC P G fn.ntmps (64*f) hs code=some (fn.body,gO)/\func.ntmps=fn.ntmps/\zG P func.results.toList=some fn.results
structure tY(P:Program)(G:GT)(rf:Nat)(R:pJ):Prop where
 ex:∃N ps ac bc,G.rt rf=some (N,ps,ac,bc)/\ps.toList=R.params/\(R.params.all λp=>decide (p<N))=true/\mX P G N R.a ac/\mX P G N R.b bc
structure Nj(P:Program)(G:GT)(T:ia):Prop where
 rt:G.rt=zj P
 fn:∀f fn,T.fn f=some fn->DY P G f fn
 round:∀rf R,T.round rf=some R->tY P G rf R
 sort:∀f sz,T.sort f=some sz->wC P f sz
 su:∀f,T.su f=true->zB P f
 sE:∀f,T.sE f=true->zt P f
def J4(F:Fence)(n:Nat)(P:Program)(c:Code)(Q:Exit->Act->World->Prop)(a:Act)(w:World):Prop:=
 ∀(b:Frame) (k:List Item) (cs:List Frame),b.roundOf=F.round->F.fn b.fn->F.room (cs.length+1+n) ->
  ∃e d w',Q e d w'/\ArrivesIn (Machine.fenced P F) P (lone (b.atR a (.code c :: .inLoop c::k)) cs w) b k cs e d w'
section
variable{F:Fence}{n:Nat}{P:Program}{Q:Exit->Act->World->Prop}{a:Act}{w:World}
theorem aeN{c:Code}(h:c.wpIn F n P (Exit.then (J4 F n P c Q) Q) a w):J4 F n P c Q a w:=by
 intro b k cs s m j;obtain⟨e,i,g,f,d⟩:=h b (.inLoop c::k) cs s m j
 cases e with
 | normal=>
  obtain⟨r,t,o,p,q⟩:=f b k cs s m j;exact⟨r,t,o,p,.of_steps (StepsIn.trans d (.one (fenced_calm m j rfl) stepR_inLoop)) q⟩
 | exit id=>exact⟨_,i,g,f,.pass (x:=.inLoop c) rfl (λ_ _=>.inl (by simp)) d⟩
 | goto l=>exact⟨_,i,g,f,.pass (x:=.inLoop c) rfl (λ_ _=>.inl (by simp)) d⟩
 | ret=>exact⟨_,i,g,f,.pass (x:=.inLoop c) rfl (λ_ _=>.inl (by simp)) d⟩
 | panic ch=>exact⟨_,i,g,f,.pass (x:=.inLoop c) rfl (λ_ _=>.inl (by simp)) d⟩
 | outgrown=>exact⟨_,i,g,f,.pass (x:=.inLoop c) rfl (λ_ _=>.inl (by simp)) d⟩
theorem alH{c:Code}(h:J4 F n P c Q a w):(Code.loop c).wpIn F n P Q a w:=by intro b k cs i f d;obtain⟨e,l,w',j,g⟩:=h b k cs i f d;exact⟨e,l,w',j,.of_steps (.one (fenced_calm f d rfl) stepR_loop) g⟩
end
section
variable{P:Program}{G:GT}{c:Ctx}{w:World}{a:Act}{N:Nat}
theorem Nq(δ:Dl)(H:U):H.length<=(δ.app H (Al.last H)).length:=by
 cases δ with
 | no=>exact Nat.le_refl _
 | cells v o xs=>simp only[Dl.app];split<;>simp
 | obj v ob=>simp[Dl.app]
 | new ob=>simp[Dl.app,Al.last]
theorem MQ(ks:mP)(H:U):(p6 ks H).length=ks.length:=by simp[p6]
theorem WV{ks:mP}{H:U}{f:Nat->Nat}:∀ {vs:List Nat} {ds:List Deferred},ri c vs ds->(∀v∈vs,∀L,c.ι v 0=some L->(c.fL ks H).ι (f v) 0=some L)->ri (c.fL ks H) (vs.map f) ds:=by
 intro vs ds h
 induction h with
 | nil=>intro _;exact .nil
 | cons L h1 e _ b=>intro a;exact .cons L (a _ (by simp) L h1) e (b λv d=>a v (by simp[d]))
theorem YI{n:Nat}{d:D}{v:Nat}(a:v∈iT n d):n<=v:=by cases d<;>simp only[iT]at a<;>first|(split at a<;>simp at a;omega)|(simp at a)
theorem W8{n:Nat}{o:Ob}{v:Nat}(a:v∈nZ n o):n<=v:=by
 unfold nZ at a;split at a
 .obtain⟨l2,b,c⟩:=a7.1 a;obtain⟨d,_,rfl⟩:=aq.1 b;exact YI c
 .obtain⟨l2,b,c⟩:=a7.1 a;obtain⟨d,_,rfl⟩:=aq.1 b;exact YI c
 .cases a
theorem zL{s:St}(hs:kH G N c w s a){n:Nat}(r:n<=s.H.length)(live:List Nat) :
  ∃c',kH G N c' w (cut n live s) a/\Step n c s.H w c' (cut n live s).H w/\n<=(cut n live s).H.length:=by
 unfold cut;split
 .exact⟨c,⟨hs.fG,B8 hs.env live,hs.size,hs.marks⟩,Step.refl _ _ _ _,r⟩
 .dsimp only;generalize j:dedup _=K
  have m:∀v∈K,v∈(((forget live s.env).map λp=>iT n p.2).flatten++((s.H.take n).map (nZ n)).flatten++s.marks.filter (n<=·)).filter (· < s.H.length):=λv b=>by rw[<-j]at b;exact F7 b
  have y:∀(d:D) (v:Nat),v∈iT n d->n<=v:=by intro d v b;cases d<;>simp only[iT]at b<;>first|(split at b<;>simp at b;omega)|(simp at b)
  have x:∀v∈K,n<=v:=by
   intro v b;have:=(aO.1 (m v b)).1;rcases List.mem_append.1 this with h|h
   .rcases List.mem_append.1 h with h|h
    .grind
    .obtain⟨l,hl,q⟩:=a7.1 h;obtain⟨o,_,rfl⟩:=aq.1 hl;exact W8 q
   .grind
  have e:zx (iG n K):=We x (by rw[<-j];exact Mj _);have u:=Rm (ks:=iG n K) hs.fG (n:=n) Wd;refine⟨c.fL (iG n K) s.H,⟨Dm hs.fG e,TI hs.fG (B8 hs.env live),hs.size,?_⟩,u,?_⟩
  .refine WV hs.marks λv b L g=>?_
   have t:v<s.H.length:=by
    rcases bw v s.H.length with h|h
    .exact h
    .rw[hs.fG.out v 0 h]at g;cases g
   have:∃i,il (iG n K) v=some i:=by
    by_cases k:v<n
    .refine⟨v,Q3 e ?_⟩;unfold iG;rw[ah (by simpa using k)];simp[k]
    .have f:v∈K:=by rw[<-j];refine KF (aO.2 ⟨bP _ (aO.2 ⟨b,by simpa using fq.1 k⟩),by simpa using t⟩)
     obtain⟨i,hi⟩:=aA.1 f;refine⟨n+i,Q3 e ?_⟩;unfold iG;rw[ai (by simp)];simp[hi]
   obtain⟨i,hi⟩:=this;rw[hi];simp only[aP];rw[DF hi];exact g
  .rw[MQ];simp[iG]
theorem Uw{s:St}(hs:kH G N c w s a)(S:List Nat):∃c',kH G N c' w (lH S s) a/\Step s.H.length c s.H w c' (lH S s).H w/\(lH S s).H.length=s.H.length:=by
 refine⟨c.fL (l6 s.H S) s.H,⟨Dm hs.fG Uv,TI hs.fG hs.env,hs.size,?_⟩,Rm hs.fG Uu,Oi⟩
 have:=WV (ks:=l6 s.H S) (H:=s.H) (f:=id) hs.marks λv _ L b=>by
  have i:v<s.H.length:=by
   rcases bw v s.H.length with h|h
   .exact h
   .rw[hs.fG.out v 0 h]at b;cases b
  have d:=Uu (S:=S) v i;simp only[aj]at d;obtain⟨p,g,e⟩:=d;simp only[Ctx.fL,id,g,e];exact b
 simpa[lH]using this
theorem ajT{n:Nat}{d:D}{v:Nat}(a:v∈Db n d):n<=v:=by
 unfold Db at a;split at a
 .grind
 .grind
 .simp at a
theorem y4{H:U}(fG:gf G c H w){n:Nat}(i:n<=H.length)(own:Nat){u:Value}{d:D}(b:fF c w u d) :
  ∃c',gf G c' (leave own n H d).2 w/\fF c' w u (leave own n H d).1/\Step n c H w c' (leave own n H d).2 w/\n<=(leave own n H d).2.length:=by
 unfold leave;split
 .exact⟨c,fG,b,Step.refl _ _ _ _,i⟩
 .dsimp only;generalize e:dedup _=K
  have j:∀v∈K,n<=v:=by
   intro v a;rw[<-e]at a;have:=(aO.1 (F7 a)).1;rcases List.mem_append.1 this with h|h
   .split at h
    .simp at h
    .exact ajT h
    .grind
    .grind
   .obtain⟨l,hl,g⟩:=a7.1 h;obtain⟨o,_,rfl⟩:=aq.1 hl;exact W8 g
  have f:zx (iG n K):=We j (by rw[<-e];exact Mj _);exact⟨c.fL (iG n K) H,Dm fG f,ze fG 40 b,Rm fG Wd,by rw[MQ];simp[iG]⟩
theorem ae4(args:List D)(k:Nat):(s7 args).get k=(args[k]?).getD .any:=by
 have key:∀(l:List D) (i k:Nat),Env.get ((l.zipIdx i).map λp=>(p.2,p.1)) k=if k<i then .any else(l[k-i]?).getD .any:=by
  intro l
  induction l with
  | nil=>intro i k;simp[Env.get]
  | cons d l a=>
   intro i k;simp only[List.zipIdx_cons,List.map_cons,Env.vC];split
   .grind
   .grind
 have:=key args 0 k;simpa[s7]using this
theorem aa2{vs:List Value}{args:List D}(b:je c w vs args)(n:Nat):kq c w (s7 args).get { tmps:=vs.toArray++Array.replicate (n-vs.toArray.size) undef,defers:=[] }:=λk=>by
 rw[ae4];have hl:=b.length
 cases f:args[k]? with
 | none=>exact .any _
 | some d=>
  have a:k<vs.length:=by rw[hl];exact(ae.1 f).1
  have g:vs[k]? = some vs[k]:=by simp[a]
  have:=b.get k vs[k] d g f;simp only[aP]
  have e:(vs.toArray++Array.replicate (n-vs.toArray.size) undef).getD k undef=vs[k]:=by rw[cJ,cj (by simpa using a)];simp[a]
  rw[e];exact this
theorem aeJ{H:U}(h:gf G c H w){t:TypeId}(k:oj P t=some false){x d:D}{u:Value}(j:fF c w u x)(a:vW x H=some d) :
  ∃v,(Instr.loadAt t u).run P w = .ok v w/\fF c w v d/\∃b o,u = .pointer (some ⟨b,o,none⟩):=by
 unfold vW at a;split at a
 .rename_i v g o;split at a
  .rename_i n cs m;have l:=te m;obtain⟨b,p,rfl,f⟩:=Kk h l j;obtain⟨u,e,_,i⟩:=MK k f (d:=d) (by simpa using a);exact⟨u,e,i,b,p,rfl⟩
  .cases a
 .rename_i cs;obtain⟨b,p,rfl,_,f⟩:=yd j;obtain⟨u,e,_,i⟩:=MK k f a;exact⟨u,e,i,b,p,rfl⟩
 .cases a
theorem aeK{H:U}(h:gf G c H w){t:TypeId}{n:Nat}(l:oj P t=some true)(hs:jU P t=some n){x d:D}{u:Value}(k:fF c w u x)(a:uW n x H=some d) :
  ∃v,(Instr.loadAt t u).run P w = .ok v w/\fF c w v d/\∃b o,u = .pointer (some ⟨b,o,none⟩):=by
 unfold uW at a;split at a
 .rename_i v g o;split at a
  .rename_i r cs q;split at a
   .rename_i e;cases a;have m:=te q;obtain⟨b,p,rfl,i⟩:=Kk h m k;obtain⟨u,f,j⟩:=ML (n:=n) l hs i (by simp;omega);exact⟨u,f,j,b,p,rfl⟩
   .cases a
  .cases a
 .rename_i cs;split at a
  .rename_i e;cases a;obtain⟨b,p,rfl,_,i⟩:=yd k;obtain⟨u,f,j⟩:=ML (n:=n) l hs i e;exact⟨u,f,j,b,p,rfl⟩
  .cases a
 .cases a
def Bf(tmps:Array Value):ResultVar->Sem Value
 | .tmp t=>pure (tmps.getD t undef)
 | .cell a t=>do loadVar t (<-asAddr (tmps.getD a undef))
theorem akk{s:St}(hs:kH G N c w s a){x:ResultVar}{X:tX}(e:cR P x=some X){d:D}(f:Dh s X=some d) :
  ∃v,(Bf a.tmps x).run P w = .ok v w/\fF c w v d:=by
 cases x with
 | tmp t=>
  cases e;simp only[Dh,ao]at f;subst f;exact⟨_,rfl,hs.env t⟩
 | cell p t=>
  have j:=hs.env p;generalize q:a.tmps.getD p undef=u at j
  have key:∀v,(Instr.loadAt t u).run P w = .ok v w->(∃b o,u = .pointer (some ⟨b,o,none⟩))->(Bf a.tmps (.cell p t)).run P w = .ok v w:=by rintro v h ⟨b,o,rfl⟩;simpa[Instr.loadAt,Instr.sureAddr,asAddr,Bf,q]using h
  simp only[cR]at e;split at e
  .rename_i n l m;cases e;obtain⟨v,g,i,k⟩:=aeJ hs.fG l j f;exact⟨v,key v g k,i⟩
  .rename_i n l m;cases e;obtain⟨v,g,i,k⟩:=aeK hs.fG l m j f;exact⟨v,key v g k,i⟩
  .cases e
theorem Q2{s:St}(hs:kH G N c w s a):∀(l:List ResultVar) {xs:List tX} {ds:List D},zG P l=some xs->tQ s xs=some ds ->
  ∃vs:List Value,(l.mapM (Bf a.tmps)).run P w = .ok vs w/\je c w vs ds
 | [],xs,ds,h1,h2=>by cases h1;cases h2;exact⟨[],rfl,.nil⟩
 | x::l,xs,ds,h1,h2=>by
  simp only[zG]at h1;split at h1
  .rename_i X k hX j;cases h1;simp only[tQ]at h2;split at h2
   .rename_i d i h b;cases h2;obtain⟨v,f,g⟩:=akk hs hX h;obtain⟨vs,e,pT⟩:=Q2 hs l j b;exact⟨v::vs,by simp[et,f,e],.cons g pT⟩
   .cases h2
  .cases h1
theorem akm{s:St}(hs:kH G N c w s a){func:Func}{fn:iP}(k:zG P func.results.toList=some fn.results){d:D}(g:AL.results fn s=some d) :
  ∃v,(Go.results func a.tmps).run P w = .ok v w/\fF c w v d:=by
 have e:∀vs:List Value,(func.results.toList.mapM (Bf a.tmps)).run P w = .ok vs w->(Go.results func a.tmps).run P w = .ok (if h:vs.toArray.size=1 then vs.toArray[0]else .tuple vs.toArray) w:=by
  intro vs b
  have h1:(func.results.mapM (Bf a.tmps)).run P w = .ok vs.toArray w:=by rw[eO,Sem.run_map,b];rfl
  have j:Go.results func a.tmps=(do let vs <-func.results.mapM (Bf a.tmps);pure (if h:vs.size=1 then vs[0]else .tuple vs)):=rfl;rw[j,Sem.run_bind,h1];rfl
 unfold AL.results at g;split at g
 .rename_i d' i;cases g;obtain⟨vs,b,f⟩:=Q2 hs _ k i
  cases f with
  | cons h t=>
   cases t;exact⟨_,e _ b,h⟩
 .rename_i ds l i;cases g;obtain⟨vs,b,f⟩:=Q2 hs _ k i;refine⟨_,e _ b,?_⟩
  have hl:vs.toArray.size≠1:=by
   intro h1;have j:ds.length=1:=by rw[<-f.length];simpa using h1
   match ds,j with
   | [d],_=>exact l d rfl
  rw[dif_neg hl];exact .tup vs ds f.length f.get
 .cases g
end
end Go.AL
namespace Go.AL
open Go
section
variable{P:Program}{G:GT}{c:Ctx}{H:U}{w:World}{env:gD}{a:Act}{N:Nat}
theorem TC(h:gf G c H w){v:Nat}{ob:Ob}(x:H[v]? = some ob)(O:ob.alive=true){L:Loc}(Q:c.ι v ob.gen=some L)(z:L.jr=false)
  {w':World} (F:w'.os=w.os/\w.drawn<=w'.drawn) (R:w'.tape=w.tape) (I:w'.output=w.output) (C:w'.heap.size=w.heap.size) (t:∀b,b≠L.b->w'.heap[b]? = w.heap[b]?) :
  gf G c (H.set v .dead) w'/\Step H.length c H w c (H.set v .dead) w':=by
 have s:=(ae.1 x).1;have B:lB c H v L:=⟨ob,x,O,Q⟩;have D:lN c H L.b:=⟨v,L,B,z,rfl⟩
 have p:∀u l,lB c (H.set v .dead) u l->u≠v/\lB c H u l:=by
  rintro u l ⟨o,f,A,hi⟩;rw[rD s]at f;split at f
  .cases f;cases A
  .rename_i q;exact⟨q,o,f,A,hi⟩
 have m:∀b,lN c (H.set v .dead) b->lN c H b:=λb ⟨u,l,hl,r⟩=>⟨u,l,(p u l hl).2,r⟩
 have hs:Step H.length c H w c (H.set v .dead) w':=
  ⟨F,R,I,by omega,rfl,λ_ h=>h,λ_ h=>.inl h,λb _ N=>t b (λe=>N (e▸D)),λ_ _ _ _ h=>h,λb i=>.inr (m b i)⟩
 have y:∀u d,fF c w u d->fF c w' u d:=λu d n=>n.pc h.toHeapOK hs
 refine⟨{
  inj:=λu E l K h1 P=>h.inj u E l K (p _ _ h1).2 (p _ _ P).2
  lt:=λb i=>by rw[C];exact h.lt b (m b i)
  nF:=λb i=>h.nF b (m b i)
  ki:=λb i=>by rw[C];exact h.ki b i
  out:=λu k M=>h.out u k (by simpa using M)
  l7:=λu o k f j=>by
   rw[rD s]at f;split at f
   .cases f;rcases j with j|⟨j,_⟩<;>cases j
   .exact h.l7 u o k f j
  ob:=λu o f=>by
   rw[rD s]at f;split at f
   .cases f;simp[gK]
   .rename_i q;refine gK.keep (c:=c) (c':=c) rfl y (λl hl J n=>t _ λe=>q (h.inj u v l L ⟨o,f,n,hl⟩ B J z e)) (h.ob u o f)
  gl:=λg cs hg=>let ⟨a,b⟩:=h.gl g cs hg;⟨a,y _ _ b⟩
  rt:=h.rt },hs⟩
theorem aeB{fn:Func}{tmps:Array Value}{R:Ending->World->Prop}:∀ {ms:List Nat} {ds:List Deferred} {H H1:U} {w:World},ri c ms ds->gf G c H w->kill ms H=some H1 ->
  (∀w1,gf G c H1 w1->Step H.length c H w c H1 w1->H1.length=H.length->LeavesIn (FW none) 0 P fn tmps R [] .returning w1)->LeavesInM (FW none) 0 P fn tmps R ds .returning w:=by
 intro ms
 induction ms with
 | nil=>
  intro ds H H1 w e fG d k;cases e;cases d;exact k w fG (Step.refl _ _ _ _) rfl
 | cons v ms i=>
  intro ds H H1 w e fG d k
  cases e with
  | @cons _ _ ds L h1 h e=>
   simp only[kill]at d;split at d
   .rename_i g;have f:=fG.ob v _ g;simp only[Ob.gen]at f;rw[h1]at f;simp only[gK]at f;have a:=f.resolve_left (by simp[h]);have l:L.b<w.heap.size:=(aL.1 a).1;obtain⟨k1,k2⟩:=TC (w':={ w with heap:=w.heap.setIfInBounds L.b (.deferred none) }) fG g rfl h1 h ⟨rfl,Nat.le_refl _⟩ rfl rfl (by simp) (λb j=>by rw[cD (cF j)]);refine⟨by simp,.inl ⟨L.b,{ w with heap:=w.heap.setIfInBounds L.b (.deferred none) },rfl,?_,?_⟩⟩
    .simp[Instr.takeDeferred,getObj,setObj,Sem.run,a]
    .refine i e k1 d λw1 q1 q2 q3=>k w1 q1 (k2.trans q2 (by simp)) (by rw[q3];simp)
   .cases d
theorem akL(fG:gf G c H w)(p:kq c w env a){o:Oper}{l:iu}(b:mQ P G o=some l){v:Nat}{args:List D}(f:yieldOf env l=some (v,args)){rf:Nat}{O:Env}(I:H[v]? = some (.gV rf O .ready)) :
  ∃(L:Loc) (r:Loop) (vs:List Value),c.ι v 0=some L/\L.jr=false/\w.heap[L.b]? = some (.loop r)/\je c w vs args /\
   (vs.length=r.params.size->(execOp a.eval o).run P w = .ok (.round L.b r.fn ((r.params.zip vs.toArray).foldl (λtmps (t,a)=>tmps.setIfInBounds t a) r.tmps) r.assign r.body) w):=by
 unfold yieldOf at f;split at f
 .rename_i q Q;split at f
  .rename_i v' C;cases f;obtain⟨cl,m⟩:=To b rfl;have S:=b;unfold mQ at b;simp only[m,ay,ag]at b;obtain⟨xs,B,b⟩:=b;have M:=zH fG p cl.args.toList B
   have E:∃x X,cl.callee = .value x/\cX G x=some X/\X=q/\xs=Q:=by
    split at b
    .split at b
     .exfalso;simp only[aB,ao]at b;split at b<;>cases b
     .cases b
    .rename_i x R k;simp only[ag,aB,ao]at b;obtain⟨X,hX,K⟩:=b;cases K;exact⟨x,q,k,hX,rfl,rfl⟩
    .split at b
     .simp only[ag]at b;obtain⟨A,_,b⟩:=b;split at b
      .simp only[ag]at b;obtain⟨i,_,z,_,y,_,b⟩:=b;split at b
       .split at b
        .cases b
        .cases b
       .cases b
      .cases b
     .cases b
    .split at b
     .simp only[ag]at b;obtain⟨A,_,b⟩:=b;split at b
      .simp only[ag]at b;obtain⟨y,_,b⟩:=b;split at b
       .simp only[ag]at b;obtain⟨n,_,b⟩:=b;split at b
        .cases b
        .cases b
       .cases b
      .cases b
     .cases b
    .split at b
     .split at b
      .cases b
      .cases b
      .cases b
      .cases b
     .cases b
    .cases b
    .cases b
    .cases b
   obtain⟨x,X,k,hX,rfl,rfl⟩:=E;have h:=iv fG p hX;rw[C]at h;generalize J:a.eval x=u at h
   cases h with
   | iH _ L s N=>
    have g:=fG.ob v _ I;simp only[Ob.gen]at g;rw[s]at g;simp only[gK]at g;obtain⟨_,r,d,_⟩:=g;refine⟨L,r,_,s,N,d,M,λF=>?_⟩;have e:cl.args.map a.eval=(cl.args.toList.map a.eval).toArray:=by cases cl.args;simp
    have j:cl.args.size=r.params.size:=by simpa using F
    simp only[execOp,m,resolve,k,J,Deferred.ofValue,Sem.run_bind,Sem.run_pure,Result.andThen_ok,invoke,Instr.yield,Instr.getLoop,getObj,Sem.run,d];simp[Sem.run,d,j,e]
  .cases f
 .cases f
theorem TH:∀(ps:List Tmp) (vs:List Value) (ds:List D) (tmps:Array Value) (a:Env),je c w vs ds->(∀p∈ps,p<tmps.size)->(∀k,fF c w (tmps.getD k undef) (a.get k)) ->
  ∀k,fF c w (((ps.zip vs).foldl (λ(tmps:Array Value) (p:Tmp×Value)=>tmps.setIfInBounds p.1 p.2) tmps).getD k undef) ((tf ps ds a).get k)
 | [],vs,ds,tmps,a,_,_,h,k=>by simpa[tf]using h k
 | p::ps,[],ds,tmps,a,b,_,h,k=>by cases b;simpa[tf]using h k
 | p::ps,v::vs,ds,tmps,a,b,hp,h,k=>by
  cases b with
  | @cons _ d _ ds g b=>
   simp only[List.zip_cons_cons,bW,tf];refine TH ps vs ds (tmps.setIfInBounds p v) ((p,d)::a) b (λq f=>by simpa using hp q (by simp[f])) (λj=>?_) k;have i:p<tmps.size:=hp p (by simp);simp only[Env.vC];split
   .rename_i e;subst e;have:(tmps.setIfInBounds p v).getD p undef=v:=by simp[Array.getD,i]
    rw[this];exact g
   .rename_i e
    have:(tmps.setIfInBounds p v).getD j undef=tmps.getD j undef:=by simp only[cJ,cD e]
    rw[this];exact h j
theorem Ur:∀(l:List (Tmp×Value)) (tmps:Array Value),(l.foldl (λ(tmps:Array Value) (p:Tmp×Value)=>tmps.setIfInBounds p.1 p.2) tmps).size=tmps.size
 | [],_=>rfl
 | p::l,tmps=>by simp only[bW];rw[Ur l];simp
def wz(G:GT)(N n:Nat)(ik:Bool)(c:Ctx)(H:U)(w:World)(R:Out->Prop)(Q:Exit->Act->World->Prop):Prop:=
 ∀(o:Out) (c':Ctx) (w':World) (a:Act),R o->o.st.ik=ik->n<=o.st.H.length->kH G N c' w' o.st a->Step n c H w c' o.st.H w'->Q o.ex a w'
theorem Mw{s:St}(hs:kH G N c w s a){v rf:Nat}{e:Env}{st:sw}(f:s.H[v]? = some (.gV rf e st)){L:Loc}(j:c.ι v 0=some L) :
  ∃r:Loop,w.heap[L.b]? = some (.loop r)/\L.jr=false/\(∀k,fF c w (r.tmps.getD k undef) (e.get k))/\(∃M,G.rt rf=some (M,r.params,r.assign,r.body)/\M<=r.tmps.size)/\st.is r:=by
 have b:=hs.fG.ob v _ f;simp only[Ob.gen]at b;rw[j]at b;simp only[gK]at b;obtain⟨h1,r,i,h,d,g⟩:=b;rw[hs.fG.rt]at d;exact⟨r,i,h1,h,d,g⟩
theorem XL{s:St}(hs:kH G N c w s a){v rf:Nat}{d:Env}{st st':sw}(e:s.H[v]? = some (.gV rf d st)){L:Loc}(g:c.ι v 0=some L){r:Loop}(f:w.heap[L.b]? = some (.loop r))
  (b:Loop) (h1:b.tmps=r.tmps) (p:b.params=r.params) (o:b.assign=r.assign) (n:b.body=r.body) (m:st'.is b) :
  kH G N c { w with heap:=w.heap.setIfInBounds L.b (.loop b) } { s with H:=s.H.set v (.gV rf d st') } a/\Step s.H.length c s.H w c (s.H.set v (.gV rf d st')) { w with heap:=w.heap.setIfInBounds L.b (.loop b) } /\
   (setObj L.b (.loop b)).run P w = .ok () { w with heap:=w.heap.setIfInBounds L.b (.loop b) }:=by
 obtain⟨x,i,h,u,⟨M,t,q⟩,y⟩:=Mw hs e g;rw[f]at i;cases i
 obtain⟨k1,k2⟩:=zq hs.fG e rfl rfl (ob':=.gV rf d st') rfl g h (.loop b) (λw' l j=>by
  simp only[gK];refine⟨h,b,l,λk=>by rw[h1];exact j _ _ (u k),⟨M,?_,by rw[h1];exact q⟩,m⟩
  rw[hs.fG.rt,t,p,o,n])
 exact⟨⟨k1,λk=>(hs.env k).pc hs.fG.toHeapOK k2,hs.size,hs.marks⟩,k2,by simp[setObj,Sem.run,f]⟩
theorem ad8(a:Option Nat)(l:Nat):(FW a).inRound l=FW (some l):=rfl
theorem alM{s:St}{f:Option Nat}{n:Nat}{o:Oper}{X:iu}{next:Act->World->Prop}{Q:Exit->Act->World->Prop}(hs:kH G N c w s a)(Z:mQ P G o=some X)
  (hd:sF N o.dst=true) {v rf:Nat} {args:List D} {e0:Env} (jz:yieldOf s.env.get X=some (v,args)) (B:s.H[v]? = some (.gV rf e0 .ready)) {M:Nat} {ps:Array Tmp} {ac bc:Code} (uv:G.rt rf=some (M,ps,ac,bc))
  (m:args.length=ps.size) (LI:∀p∈ps.toList,p<M) {Ra Rb:Out->Prop}
  (hA:∀(f:Option Nat) (n:Nat) (Q:Exit->Act->World->Prop) (c:Ctx) (w:World) (a:Act),kH G M c w { env:=tf ps.toList args e0,H:=s.H,ik:=true } a ->
   wz G M s.H.length true c s.H w Ra Q->ac.wpIn (FW f) n P Q a w)
  (hn:∀o,Ra o->o.stop=false/\∃g,o.st.H[v]? = some (.gV rf g .ready))
  (hB:∀s1 g,Ra (.norm s1)->s1.ik=true->s1.H[v]? = some (.gV rf g .ready)->∀(f:Option Nat) (n:Nat) (Q:Exit->Act->World->Prop) (c:Ctx) (w:World) (a:Act),kH G M c w { s1 with H:=s1.H.set v (.gV rf g .busy) } a ->
   wz G M s1.H.length true c (s1.H.set v (.gV rf g .busy)) w Rb Q->bc.wpIn (FW f) n P Q a w)
  (hm:∀o,Rb o->∃e,o.st.H[v]? = some (.gV rf e .busy))
  (k:∀(q:Out) (e:Env) (c':Ctx) (w':World) (a':Act),Rb q->q.st.H[v]? = some (.gV rf e .busy)->s.H.length<=q.st.H.length->kH G N c' w' { s with env:=put s.env o.dst (.b !q.stop),H:=q.st.H.set v (.gV rf e q.zi) } a' ->
   Step s.H.length c s.H w c' (q.st.H.set v (.gV rf e q.zi)) w'->next a' w'):o.wpIn (FW f) n P a w next Q:=by
 obtain⟨L,r,vs,fM,gR,u,gW,gU⟩:=akL hs.fG hs.env Z jz B;obtain⟨r0,x,_,a3,⟨M',a4,a6⟩,a5⟩:=Mw hs B fM;rw[u]at x;cases x;rw[uv]at a4;cases a4;have Y:v<s.H.length:=(ae.1 B).1;have ij:vs.length=r.params.size:=by rw[gW.length];exact m
 refine⟨λ_ _=>trivial,?_⟩;rw[Oper.semAt_plain (FW f) a.eval o (A7 Z),gU ij];refine⟨λh=>by simp[Fence.wide]at h,roundIn_of_wpIn (F:=FW f) trivial ?_⟩;rw[ad8]
 have Vg:(r.params.zip vs.toArray).foldl (λtmps (t,a)=>tmps.setIfInBounds t a) r.tmps=(r.params.toList.zip vs).foldl (λ(tmps:Array Value) (p:Tmp×Value)=>tmps.setIfInBounds p.1 p.2) r.tmps:=by rw[<-Array.foldl_toList];simp
 refine hA (some L.b) _ _ c w _ ⟨hs.fG,λj=>?_,?_,.nil⟩ ?_
 .show fF c w (Array.getD ((r.params.zip vs.toArray).foldl (λtmps (t,a)=>tmps.setIfInBounds t a) r.tmps) j undef) _;rw[Vg];exact TH _ _ _ _ _ gW (λp hp=>aK (LI p hp) a6) a3 j
 .show M<=Array.size ((r.params.zip vs.toArray).foldl (λtmps (t,a)=>tmps.setIfInBounds t a) r.tmps);rw[Vg,Ur];exact a6
 .intro V c1 w1 x T J K W R;obtain⟨VP,g,A⟩:=hn V T
  cases V with
  | exit=>cases VP
  | ret=>cases VP
  | norm s1=>
   have y:c1.ι v 0=some L:=R.old v 0 L Y fM;obtain⟨l,b1,b2,b3,_,b5⟩:=Mw W A y;have Zy:l.state = .ready/\l.pending=none:=b5;obtain⟨k1,k2,k3⟩:=XL (P:=P) (st':=.busy) W A y b1 { l with state:=.busy } rfl rfl rfl rfl rfl;refine⟨{ w1 with heap:=w1.heap.setIfInBounds L.b (.loop { l with state:=.busy }) },?_,?_⟩
   .have hg:(Instr.getLoop L.b).run P w1 = .ok l w1:=by simp[Instr.getLoop,getObj,Sem.run,b1]
    simp only[Instr.beginRound,Sem.run_bind,hg,Result.andThen_ok,k3,Zy.1];simp
   .refine hB s1 g T J A (some L.b) _ _ c1 _ x k1 ?_;intro b c2 d h' S g9 Fg LN CQ;obtain⟨e,z⟩:=hm b S;have I:v<s1.H.length:=aK Y K;have O:c2.ι v 0=some L:=CQ.old v 0 L I y;obtain⟨i,d1,d2,d3,_,d5⟩:=Mw LN z O
    have key:∀(j:Option Code),b.zi.is { i with state:=if j.isNone then .ready else .done,pending:=j }->j.isNone = !b.stop->∃v w',(Instr.endRound L.b j).run P d = .ok v w'/\next (a.put o.dst v) w':=by
     intro j hj C;obtain⟨e1,e2,e3⟩:=XL (P:=P) (st':=b.zi) LN z O d1 { i with state:=if j.isNone then .ready else .done,pending:=j } rfl rfl rfl rfl hj;have hg:(Instr.getLoop L.b).run P d = .ok i d:=by simp[Instr.getLoop,getObj,Sem.run,d1]
     refine⟨.bool j.isNone,{ d with heap:=d.heap.setIfInBounds L.b (.loop { i with state:=if j.isNone then .ready else .done,pending:=j }) },?_,?_⟩
     .simp only[Instr.endRound,Sem.run_bind,hg,Result.andThen_ok,e3];rfl
     .have E:fF c2 { d with heap:=d.heap.setIfInBounds L.b (.loop { i with state:=if j.isNone then .ready else .done,pending:=j }) } (.bool j.isNone) (.b !b.stop):=by
       have:D.b (!b.stop)=D.val (.bool j.isNone):=by rw[C]
       rw[this];exact .val _
      have fR:Step s.H.length c s.H w c2 (b.st.H.set v (.gV rf e b.zi)) { d with heap:=d.heap.setIfInBounds L.b (.loop { i with state:=if j.isNone then .ready else .done,pending:=j }) }:=
       (R.trans (k2.trans (CQ.trans e2 Fg) (Nat.le_refl _)) K)
      refine k b e c2 _ _ S z (Nat.le_trans K Fg) (hs.next e1.fG fR hd E) fR
    cases b with
    | norm U=>exact key none ⟨rfl,rfl⟩ rfl
    | ret U=>exact key (some .ret) ⟨rfl,rfl⟩ rfl
    | exit id U=>exact key (some (.exit id)) ⟨rfl,rfl⟩ rfl
theorem aa1{s:St}(hs:kH G N c w s a){rf:Nat}{ps:Array Tmp}{ac bc:Code}(l:G.rt rf=some (N,ps,ac,bc))(live:List Nat)(fn:FuncId) :
  ∃(c2:Ctx) (w2:World) (g f:Loc),(Instr.enterLoop fn a.tmps ps ac bc none).run P w = .ok (f.b,[{ target:=.collected g.b,args:=#[] }]) w2/\g.jr=false/\f.jr=false /\
   c2.ι s.H.length 0=some g/\c2.ι (s.H.length+1) 0=some f/\gf G c2 (s.H ++ [.kD,.gV rf (forget live s.env) .ready]) w2/\Step s.H.length c s.H w c2 (s.H ++ [.kD,.gV rf (forget live s.env) .ready]) w2:=by
 obtain⟨d,_,b⟩:=Mg hs.fG (mC.last s.H) (.deferred (some [])) .kD rfl rfl (λ_ e=>by simp only[gK];exact .inr e);simp only[Al.last]at d b;generalize o:c.set s.H.length 0 ⟨w.heap.size,0,0,false⟩=c1 at d b;have k:c1.ι s.H.length 0=some ⟨w.heap.size,0,0,false⟩:=by rw[<-o];exact Ctx.rE _ _ _ _
 generalize h:w.alloc (.deferred (some []))=w1 at d b;have p:w1.heap.size=w.heap.size+1:=by rw[<-h];simp
 have n:(s.H ++ [Ob.kD]).length=s.H.length+1:=by simp
 obtain⟨mK,_,i⟩:=Mg d (mC.last (s.H ++ [.kD])) (.loop { state:=.ready,pending:=none,fn:=fn,tmps:=a.tmps,params:=ps,assign:=ac,body:=bc,defers:=w.heap.size }) (.gV rf (forget live s.env) .ready) rfl rfl (λm e=>by
  simp only[gK];refine⟨trivial,_,e,λj=>m _ _ ((B8 hs.env live j).pc hs.fG.toHeapOK b),⟨N,?_,hs.size⟩,rfl,rfl⟩
  rw[<-l,<-d.rt];rfl)
 simp only[Al.last,n,aI,fg]at mK i;refine⟨_,_,⟨w.heap.size,0,0,false⟩,⟨w1.heap.size,0,0,false⟩,?_,rfl,rfl,?_,Ctx.rE _ _ _ _,mK,b.trans i (by omega)⟩
 .subst h;simp[Instr.enterLoop]
 .rw[Ctx.u6 _ _ (by omega)];exact k
theorem alK{s:St}{n:Nat}{Q:Exit->Act->World->Prop}(hs:kH G N c w s a){g:Operand}{X:X}(hx:cX G g=some X){f:FuncId}{first cap:List D}(pQ:ev s.env.get X = .fn (.func f) first cap)
  (kd:rT P f=true) {rf:Nat} {ps:Array Tmp} {ac bc:Code} (uv:G.rt rf=some (N,ps,ac,bc)) {live:List Nat} {R1:D->U->Prop} {R:Out->Prop}
  (jh:tW P G f (first ++ [.iH (s.H.length+1)]++cap) (s.H ++ [.kD,.gV rf (forget live s.env) .ready]) R1)
  (k:∀d H',R1 d H'->∃env st o,H'[s.H.length+1]? = some (.gV rf env st)/\Be { s with H:=H'.set (s.H.length+1) .dead,marks:=s.H.length::s.marks } st=some o/\R o)
  (V:wz G N s.H.length s.ik c s.H w R Q):(Code.rangeFunc g ps ac bc).wpIn (FW none) n P Q a w:=by
 refine wpIn_rangeFunc λfn _=>?_;obtain⟨c2,w2,F,l,a',nG,oL,O,A,mK,VN⟩:=aa1 (P:=P) hs uv live fn;have VH:∀u d,fF c w u d->fF c2 w2 u d:=λu d hd=>hd.pc hs.fG.toHeapOK VN;have T:=iv hs.fG hs.env hx;rw[pQ]at T;generalize hu:a.eval g=u at T
 cases T with
 | fn _ fs cs _ _ q1 q2 q3 q4=>
  have a0:fF c2 w2 (.func (.yield l.b) #[] #[]) (.iH (s.H.length+1)):=.iH _ l A oL
  have gW:je c2 w2 (fs ++ [Value.func (.yield l.b) #[] #[]]++cs) (first ++ [.iH (s.H.length+1)]++cap):=
   ((je.Ge q1 λi v d h1 E=>VH _ _ (q3 i v d h1 E)).append (.cons a0 .nil)).append (je.Ge q2 λi v d h1 E=>VH _ _ (q4 i v d h1 E))
  have CN:(resolve a.eval (rangeCall g l.b) 0).run P w2 = .ok { target:=.fn (.func f) cs.toArray,args:=fs.toArray ++ #[Value.func (.yield l.b) #[] #[]] } w2:=by simp[resolve,hu,Deferred.ofValue];rfl
  have C:(invoke (.fn (.func f) cs.toArray) (fs.toArray ++ #[Value.func (.yield l.b) #[] #[]])).run P w2 = .ok (.enter f (fs ++ [Value.func (.yield l.b) #[] #[]]++cs).toArray) w2:=by have E:=MJ (P:=P) kd (fs ++ [Value.func (.yield l.b) #[] #[]]++cs).toArray w2;simpa[invoke]using E
  have Lu:=jh c2 w2 _ mK gW
  have km:CallsIn (FW none) (n-1) P f (fs ++ [Value.func (.yield l.b) #[] #[]]++cs).toArray w2 (rangePost (FW none) n P l.b Q { a with defers:=[{ target:=.collected F.b,args:=#[] }]++a.defers }):=by
   refine Ek.2 (Lu.mono ?_);rintro e m ⟨v,t,d,K,rfl,hR,r,Vz,_,CQ⟩;obtain⟨env,st,q,kc,B,ON⟩:=k d K hR;have M:(s.H ++ [Ob.kD,Ob.gV rf (forget live s.env) .ready]).length=s.H.length+2:=by simp
   have O:t.ι s.H.length 0=some F:=CQ.old _ 0 F (by rw[M];omega) O;have A:t.ι (s.H.length+1) 0=some l:=CQ.old _ 0 l (by rw[M];omega) A;have I:=Vz.ob _ _ kc;simp only[Ob.gen]at I;rw[A]at I;simp only[gK]at I;obtain⟨_,p,S,_,_,z⟩:=I;have e1:l.b<m.heap.size:=(aL.1 S).1;obtain⟨m1,m2⟩:=TC (w':={ m with heap:=m.heap.setIfInBounds l.b (.loop { p with state:=.exhausted }) }) Vz kc rfl A oL ⟨rfl,Nat.le_refl _⟩ rfl rfl (by simp) (λb hb=>by rw[cD (cF hb)])
   have y:Step s.H.length c s.H w t (K.set (s.H.length+1) .dead) { m with heap:=m.heap.setIfInBounds l.b (.loop { p with state:=.exhausted }) }:=
    VN.trans (CQ.trans m2 r) (by rw[M];omega)
   have J:kH G N t { m with heap:=m.heap.setIfInBounds l.b (.loop { p with state:=.exhausted }) } { s with H:=K.set (s.H.length+1) .dead,marks:=s.H.length::s.marks } { a with defers:=[{ target:=.collected F.b,args:=#[] }]++a.defers }:=by
    refine⟨m1,λj=>(hs.env j).pc hs.fG.toHeapOK y,hs.size,.cons F O nG (hs.marks.mono λv L h=>y.old v 0 L ?_ h)⟩;rcases bw v s.H.length with Z|Z
    .exact Z
    .rw[hs.fG.out v 0 Z]at h;cases h
   have Vw:p.state≠.busy:=by
    cases st with
    | busy=>cases B
    | ready=>rw[z.1];decide
    | zN=>rw[z.1];decide
    | ym=>rw[z.1];decide
   have Vc:(Instr.endLoop l.b).run P m = .ok p.pending { m with heap:=m.heap.setIfInBounds l.b (.loop { p with state:=.exhausted }) }:=by
    have hg:(Instr.getLoop l.b).run P m = .ok p m:=by have:m.heap[l.b]? = some (.loop p):=S;simp[Instr.getLoop,getObj,Sem.run,this]
    have tG:(setObj l.b (.loop { p with state:=.exhausted })).run P m = .ok () { m with heap:=m.heap.setIfInBounds l.b (.loop { p with state:=.exhausted }) }:=by have:m.heap[l.b]? = some (.loop p):=S;simp[setObj,Sem.run,this]
    have Y:(p.state == .busy)=false:=by generalize p.state=x at Vw;cases x<;>first|rfl|exact absurd rfl Vw
    simp only[Instr.endLoop,Sem.run_bind,hg,Result.andThen_ok,Y,tG];simp[tG]
   generalize ({ m with heap:=m.heap.setIfInBounds l.b (.loop { p with state:=.exhausted }) }:World)=W at J y Vc;refine⟨p.pending,W,Vc,?_⟩
   have Pm:s.H.length<=(K.set (s.H.length+1) .dead).length:=by rw[M]at r;simp;omega
   cases st with
   | busy=>cases B
   | ready=>
    cases B;rw[z.2];exact V _ t _ _ ON rfl Pm J y
   | zN=>
    cases B;rw[z.2];exact wpIn_ret (V _ t _ _ ON rfl Pm J y)
   | ym id=>
    cases B;rw[z.2];exact wpIn_exit (V _ t _ _ ON rfl Pm J y)
  exact⟨l.b,_,w2,_,w2,f,_,w2,a',CN,λ_ _=>trivial,C,λh=>by simp[Fence.wide]at h,km⟩

/- Part 6 of DisputeHonest. -/
import Derived.Shelf.SlSortCmp.NoneTotal
import Derived.Test.YtmehofoficaelaaGreatDoorH05
set_option linter.all false
namespace Go.AL
open Go Go.Proofs Go.Shelf Go.RowKit Go.Lib Go.Sort
structure vR(P:Program)(f:FuncId)(sz:Nat):Prop where
 pos:0<sz
 full:∀(α:Type) [Inhabited α] (enc:α->List Value) (_:∀x,(enc x).length=sz) (_:∀x,∀v∈enc x,v.oneCell'=true) (cf:α->α->Int) (_:SWO (ltOf cf)) (g kN off cap:Nat) (d:Array α) (w:World)
  (_:∀args w,(callFunc g args).run P w = .ok (.enter g args) w) (_:CmpLays P g #[] enc sz cf kN off d.size w) (_:HoldsK enc sz w kN off d) (_:kN<w.heap.size) (_:d.size<4611686018427387904),
  Calls P f #[.slice (some ⟨kN,off,none⟩) d.size cap,.func (.func g) #[] #[]] w λe w'=>e = .returned (.tuple #[])/\∃d' n os,PermIn 0 d.size d d'/\SortedIn (ltOf cf) 0 d.size d'/\w'=sortWorldK enc sz w kN off n d' os
 none:∀(p:Option Addr) (cap:Nat) (fv:Value) (w:World),Calls P f #[.slice p 0 cap,fv] w λe w'=>e = .returned (.tuple #[])/\w'=w
theorem vR.of{P:Program}{ρ:Ren}(L:SlLaysF0.n6 P ρ){k:Nat}(b:0<k)(c:∀w,(isAgg (ρ.t 24)).run P w = .ok true w)(a:∀w,(Go.sizeOf (ρ.t 24)).run P w = .ok k w):vR P (ρ.f 6) k where
 pos:=b
 full α _ enc h1 h2 cf hO g kN off cap d w eg hc hH hb hs:=AnyQ.slices_SortFunc L k c a enc h1 h2 cf hO g #[] kN off cap d w eg hc hH hb hs
 none:=AnyF.slices_SortFunc_none L
section
variable{P:Program}{G:GT}{c:Ctx}{H:U}{w:World}{α:Type}
structure El(c:Ctx)(w:World)(fc:α->List D)(l:List α) where
 vs:List Value
 a:α
 mem:a∈l
 cells:Cells (c.data c.F) w vs (fc a)
theorem XX{a:Type}[Inhabited a](enc:a->List Value)(k kN off m:Nat)(e:Array a)(os:Array Obj){b:Nat}(d:b<w.heap.size)(c:b≠kN):(sortWorldK enc k w kN off m e os).heap[b]? = w.heap[b]? := by simp only[sortWorldK,grow,putRowK,putRow,mapBlock,Go.Sort.ahead];rw[cu (by simpa using d),aW,if_neg (cF c)]
theorem Z9(h:fO G c H w){W:World}(hs:w.heap.size<=W.heap.size)(d:∀b,c.F b->W.heap[b]? = w.heap[b]?):fO G (c.data c.F) [] W where
 inj v v' L L' h1:=by obtain⟨o,a,_⟩:=h1;simp at a
 lt b hb:=by obtain⟨v,L,⟨o,a,_⟩,_⟩:=hb;simp at a
 nF b hb:=by obtain⟨v,L,⟨o,a,_⟩,_⟩:=hb;simp at a
 jX b hb:=aI (h.jX b hb) hs
 out _ _ _:=rfl
 lO _ _ _ _ _:=rfl
 ob v o a:=by simp at a
 gl g cs hg:=by obtain⟨h1,f⟩:=(J8 h).gl g cs hg;exact⟨h1,fr.carry (c:=c.data c.F) (c':=c.data c.F) (λ_ _ _ h=>h) (λ_ h=>h) (λb o e=>DP (d b e)) f⟩
 rt:=h.rt
theorem akZ{W w':World}(h:jy W w'):∃q a,w'=grow (W.drewN q) a:=by
 obtain⟨⟨h1,n⟩,g,f,m,e⟩:=h;refine⟨w'.drawn-W.drawn,w'.heap.extract W.heap.size w'.heap.size,?_⟩
 cases w' with
 | mk l tp dr o k=>
  cases W with
  | mk b c j o' d=>
   simp only at *;subst h1 g f;simp only[grow,World.drewN];congr 1
   .apply Array.ext_getElem?;intro i;rcases bw i b.size with hi|hi
    .rw[cu hi,e i hi]
    .rw[Array.getElem?_append_right hi,Array.getElem?_extract];split
     .congr 1;omega
     .exact dC (by omega)
   .omega
theorem iR.two{c:Ctx}{w:World}{vs:List Value}{d e:D}(h:iR c w vs [d,e]):∃u v,vs = [u,v]/\fr c w u d/\fr c w v e:=by
 cases h with
 | cons h1 h=>cases h with
  | cons a h=>cases h;exact⟨_,_,rfl,h1,a⟩
theorem akB{f g:FuncId}{sz:Nat}(hS:vR P f sz){x:D}{R:D->U->Prop}(k:R (.tup []) H):tE P G f [.fw,x] H R:=by intro c w vs ft b;obtain⟨u,v,rfl,h1,h⟩:=iR.two b;cases h1;refine(hS.none none 0 v w).mono ?_;rintro e w' ⟨rfl,rfl⟩;exact⟨_,c,_,H,rfl,k,Nat.le_refl _,ft,.tup [] [] rfl (λi v d a=>by simp at a),Step.refl _ _ _ _⟩
theorem akC{f g:FuncId}{sz:Nat}(hS:vR P f sz)(hg:rz P g=true)(fc:α->List D)(l:List α)(hl:∀a∈l,(fc a).length=sz)(gd:∀a∈l,fR (fc a)=true)(h0:0<l.length)(vc:l.length<4611686018427387904)
  (s:α->α->Int) (Cq:∀x∈l,¬s x x<0) (tr:∀x∈l,∀y∈l,∀z∈l,s x y<0->s y z<0->s x z<0) (nt:∀x∈l,∀y∈l,∀z∈l,¬s x y<0->¬s y z<0->¬s x z<0)
  (hc:∀x∈l,∀y∈l,tE P G g [.agg (fc x),.agg (fc y)] [] λd _=>d = .i (s x y)) {v gen:Nat} {t:TypeId} (S:H[v]? = some (.row t gen (l.map fc).flatten)) {R:D->U->Prop}
  (k:∀l':List α,l'.Perm l->l'.Pairwise (λx y=>¬s y x<0)->R (.tup []) (H.set v (.row t gen (l'.map fc).flatten))) :
  tE P G f [.fm v gen sz 0 l.length,.fn (.func g) [] []] H R:=by
 have Q:=hS.pos;intro c w vs ft B;obtain⟨u,v1,rfl,h1,h2⟩:=iR.two B;clear B;have hn:l.length=l.length:=rfl;revert hn;generalize hN:l.length=N at h1;intro hn
 have nj:v1 = .func (.func g) #[] #[]:=by
  cases h2 with
  | fn _ fs cs df dc iX jw _ _=>
   have q:fs = []:=az.1 iX;have J:cs = []:=az.1 jw;subst q;subst J;rfl
 subst nj;clear h2
 cases h1 with
 | lJ=>omega
 | fm _ _ _ _ _ cap L fD gI jv iB lP=>
 have Y:=ft.ob v _ S;simp only[Ob.gen]at Y;rw[fD]at Y;simp only[gA,gI]at Y;obtain⟨p,O,E5,F,oh⟩:=Y
 have jL:(l.map fc).flatten.length=N*sz:=by rw[Kw sz _ (by simpa using hl),List.length_map,hN]
 rw[jL]at F;have vo:lz c H L.b:=⟨v,L,⟨_,S,rfl,fD⟩,gI,rfl⟩;have T:=ft.lt _ vo
 have E:∀i,i<N->L.base+i*sz+sz<=p.size:=λi hi=>by have:(i+1)*sz<=N*sz:=bj _ hi;rw[bZ]at this;omega
 let mk:Fin l.length->El c w fc l:=λi=>{
  vs:=(p.toList.drop (L.base+i.val*sz)).take sz
  a:=l[i.val]
  mem:=bI _
  cells:=by
   have hi:i.val<N:=by rw[<-hN];exact i.isLt
   have hm:=E _ hi;have yd:(fc l[i.val]).length=sz:=hl _ (bI _)
   have iJ:∀r,r<sz->∃y d,((p.toList.drop (L.base+i.val*sz)).take sz)[r]? = some y/\(fc l[i.val])[r]? = some d/\y.oneCell'=true/\fr c w y d:=λr B=>by
    have K:(l.map fc).flatten[i.val*sz+r]? = (fc l[i.val])[r]? := by rw[Kv sz Q _ (by simpa using hl),show(i.val*sz+r) / sz=i.val from by rw[du,Nat.mul_add_div Q,Nat.div_eq_of_lt B];rfl,show(i.val*sz+r) % sz=r from by rw[du,Nat.mul_add_mod,eJ B]];simp
    have A:(fc l[i.val])[r]? = some (fc l[i.val])[r]:=List.getElem?_eq_getElem (by omega);obtain⟨y,Ak,Px,a1⟩:=oh (i.val*sz+r) _ (K.trans A);refine⟨y,_,?_,A,Px,a1⟩;rw[aC,if_pos B,aH,bq,<-Ak];congr 1;omega
   have rK:((p.toList.drop (L.base+i.val*sz)).take sz).length=sz:=by simp;omega
   refine⟨by rw[rK,yd],λy C=>?_,λr y d C K=>?_⟩
   .obtain⟨r,B⟩:=aA.1 C;have mI:r<sz:=by have:=(ae.1 B).1;omega
    obtain⟨y',d,q,_,e3,_⟩:=iJ r mI;rw[B]at q;cases q;exact e3
   .have mI:r<sz:=by have:=(ae.1 C).1;omega
    obtain⟨y',d',q,J,_,e4⟩:=iJ r mI;rw[C]at q;cases q;rw[K]at J;cases J
    exact fr.closed (c:=c) (c':=c.data c.F) (λb I=>I) e4 (v7 (gd _ (bI _)) K) }
 haveI:Inhabited (El c w fc l):=⟨mk ⟨0,h0⟩⟩
 let enc:El c w fc l->List Value:=λe=>e.vs
 let d:Array (El c w fc l):=Array.ofFn mk
 have M:d.size=N:=by simp[d,hN]
 have gV:∀x:El c w fc l,(enc x).length=sz:=λx=>by rw[show enc x=x.vs from rfl,x.cells.len,hl _ x.mem]
 have O2:∀x:El c w fc l,∀y∈enc x,y.oneCell'=true:=λx y C=>x.cells.one y C
 have a4:d.toList.map (λe=>e.a)=l:=by
  apply bL;intro i;simp only[d,aq,bq,Array.getElem?_ofFn]
  by_cases hi:i<l.length
  .simp[hi,mk]
  .simp[hi]
 have hO:SWO (ltOf λx y:El c w fc l=>s x.a y.a):=by
  refine⟨λx=>?_,λx y z=>?_,λx y z=>?_⟩
  .simpa[ltOf]using Cq x.a x.mem
  .simpa[ltOf]using tr x.a x.mem y.a y.mem z.a z.mem
  .simpa[ltOf]using nt x.a x.mem y.a y.mem z.a z.mem
 have wA:∀j,w.cell? ⟨L.b,j,none⟩=p[j]? := λj=>by simp[World.cell?,O]
 have hH:HoldsK enc sz w L.b (L.base+0*sz) d:=by
  intro j hj;have V:j<N*sz:=by simpa[M]using hj
  have hq:j / sz<N:=Nat.div_lt_of_lt_mul (by rw[du];exact V);have B:j % sz<sz:=Nat.mod_lt _ Q;have hm:=E _ hq;have EC:j / sz*sz+j % sz=j:=by rw[du];exact Nat.div_add_mod j sz
  rw[get_flatK _ _ _ _ (by rw[M];exact V)];refine⟨?_,?_⟩
  .have q:d[j / sz]! = mk ⟨j / sz,by omega⟩:=by rw[getElem!_pos d (j / sz) (by omega)];simp[d]
   rw[wA,q];show _=some (id ((p.toList.drop (L.base+j / sz*sz)).take sz)[j % sz]!);rw[getElem!_pos _ (j % sz) (by simp;omega),List.getElem_take,List.getElem_drop,Array.getElem_toList,bU (by omega)];simp only[id];congr 2;omega
  .simp[World.frozen?,O]
 have b1:CmpLays P g #[] enc sz (λx y:El c w fc l=>s x.a y.a) L.b (L.base+0*sz) d.size w:=by
  intro m os dk _ x y;have hW:∀b,c.F b->(sortWorldK enc sz w L.b (L.base+0*sz) m dk os).heap[b]? = w.heap[b]? := λb I=>XX _ _ _ _ _ _ _ (ft.jX b I) λe=>ft.nF _ vo (e▸I);have qt:fO G (c.data c.F) [] (sortWorldK enc sz w L.b (L.base+0*sz) m dk os):=Z9 ft (size_sortWorldK_c _ _ _ _ _ _ _ _) hW
  have sA:∀x:El c w fc l,fr (c.data c.F) (sortWorldK enc sz w L.b (L.base+0*sz) m dk os) (.agg (enc x).toArray) (.agg (fc x.a)):=λx=>
   .agg _ _ x.cells.len x.cells.one λi y d C K=>fr.carry (c:=c.data c.F) (c':=c.data c.F) (λ_ _ _ h=>h) (λ_ h=>h) (λb o hF=>DP (hW b hF)) (x.cells.rep i y d C K)
  have:=hc x.a x.mem y.a y.mem _ _ _ qt (.cons (sA x) (.cons (sA y) .nil));rw[show(#[Value.agg (enc x).toArray,Value.agg (enc y).toArray] ++ #[]:Array Value) = [Value.agg (enc x).toArray,Value.agg (enc y).toArray].toArray by simp];refine Calls.mono this ?_;rintro e w' ⟨u,c',d',H',he,rfl,_,_,hu,fG⟩;cases hu;exact⟨he,akZ (zy fG)⟩
 have eg:∀args w,(callFunc g args).run P w = .ok (.enter g args) w:=Mi hg;have iT:=hS.full (El c w fc l) enc gV O2 _ hO g L.b (L.base+0*sz) cap d w eg b1 hH T (by omega);rw[M]at iT;refine iT.mono ?_;rintro e w' ⟨rfl,d',n,os,⟨yf,_,sx⟩,b3,rfl⟩;have X:d'.size=N:=by rw[yf,M]
 have b0:(d'.toList.map λe=>e.a).Perm l:=by
  refine List.Perm.trans (List.Perm.map _ ?_) (List.Perm.of_eq a4);have q:(d'.extract 0 N).toList=d'.toList:=by rw[<-X];simp
  have J:(d.extract 0 N).toList=d.toList:=by rw[<-M];simp
  rw[q,J]at sx;exact sx
 have a2:(d'.toList.map λe=>e.a).Pairwise λx y=>¬s y x<0:=by
  rw[List.pairwise_map,bh];intro i j hi hj z6;have W:i<d'.size:=by simpa using hi
  have V:j<d'.size:=by simpa using hj
  have:=b3 i j (Nat.zero_le _) z6 (by omega);rw[getElem!_pos d' j V,getElem!_pos d' i W]at this;simpa[ltOf]using this
 have Aa:((d'.toList.map λe=>e.a).map fc).flatten.length=N*sz:=by
  rw[Kw sz _ (λx A=>?_)]
  .simp[X]
  .simp only[au]at A;obtain⟨a,⟨e,_,rfl⟩,rfl⟩:=A;exact hl _ e.mem
 have hF:(flatK enc sz d').size=N*sz:=by rw[size_flatK,X]
 have i':N*sz<=p.size-L.base:=by omega
 obtain⟨w1,w2⟩:=C3 ft S fD gI O (putCells id (L.base+0*sz) (flatK enc sz d') p) (by simp[putCells]) E5 ((d'.toList.map λe=>e.a).map fc).flatten (by rw[Aa];exact F) (λi dd hi=>by
  have W:i<N*sz:=by rw[<-Aa];exact(ae.1 hi).1
  have hq:i / sz<N:=Nat.div_lt_of_lt_mul (by rw[du];exact W);have B:i % sz<sz:=Nat.mod_lt _ Q;have A:=d'[i / sz].cells
  rw[Kv sz Q _ (λx A=>by
   simp only[au]at A;obtain⟨a,⟨e,_,rfl⟩,rfl⟩:=A
   exact hl _ e.mem)]at hi
  have q:(List.map fc (List.map (λe=>e.a) d'.toList))[i / sz]? = some (fc d'[i / sz].a):=by simp only[aq,bq];rw[bU (by omega)];rfl
  rw[q,Option.bind_some]at hi;have iC:(d'[i / sz].vs).length=sz:=gV d'[i / sz];have J:(d'[i / sz].vs)[i % sz]? = some (d'[i / sz].vs)[i % sz]:=List.getElem?_eq_getElem (by omega);refine⟨(d'[i / sz].vs)[i % sz],?_,A.one _ (bI _),fr.closed (c:=c.data c.F) (c':=c) (λb I=>I) (A.rep _ _ _ J hi) (v7 (gd _ d'[i / sz].mem) hi)⟩;rw[putCells,db,bU (by omega),aD,if_pos ⟨by omega,by rw[hF];omega⟩];rw[show L.base+i-(L.base+0*sz)=i by omega,get_flatK _ _ _ _ (by rw[X];exact W),getElem!_pos d' (i / sz) (by omega)];show some (id (d'[i / sz].vs)[i % sz]!)=_
  rw[getElem!_pos _ (i % sz) (by omega)];rfl)
 have x9:jy (w.setRow L.b (putCells id (L.base+0*sz) (flatK enc sz d') p)) (sortWorldK enc sz w L.b (L.base+0*sz) n d' os):=by
  refine⟨⟨rfl,eP _ _⟩,rfl,rfl,?_,λb I=>?_⟩
  .simp[World.setRow,sortWorldK,grow,putRowK,putRow,mapBlock,Go.Sort.ahead]
  .have tb:b<w.heap.size:=by simpa[World.setRow]using I
   by_cases Z:b=L.b
   .subst Z;rw[setRow_heap w L.b p _ t _ O];simp only[sortWorldK,grow,putRowK,putRow,mapBlock,Go.Sort.ahead];rw[cu (by simpa using tb),aW,if_pos rfl,O];rfl
   .rw[XX _ _ _ _ _ _ _ tb Z];simp only[World.setRow,aW];rw[if_neg (cF Z)]
 exact⟨_,c,_,_,rfl,k _ b0 a2,by simp,w1.oK x9,.tup [] [] rfl (λi v d S=>by simp at S),w2.trans (A1 _ x9) (Nat.le_refl _)⟩
end
end Go.AL
namespace Go.AL
open Go Go.Proofs Go.Shelf Go.RowKit Go.Lib Go.Sort
structure y8(P:Program)(f:FuncId):Prop where
 full:∀(kN off cap:Nat) (zs:List Int) (w:World) (_:Holds (Value.int .i64) w kN off zs.toArray) (_:kN<w.heap.size) (_:zs.length<4611686018427387904),
  Calls P f #[.slice (some ⟨kN,off,none⟩) zs.length cap] w λe w'=>e = .returned (.tuple #[])/\∃n os,w'=grow (putRow (Value.int .i64) (Go.Sort.ahead w n) kN off (zs.mergeSort λx y=>decide (x<=y)).toArray) os
section
variable{P:Program}{G:GT}{c:Ctx}{H:U}{w:World}
theorem akE{f:FuncId}(hS:y8 P f)(l:List Int)(h0:0<l.length)(M:l.length<4611686018427387904){v gen:Nat}{t:TypeId}(o:H[v]? = some (.row t gen (l.map λn=>D.i n))){R:D->U->Prop}
  (k:R (.tup []) (H.set v (.row t gen ((l.mergeSort λx y=>decide (x<=y)).map λn=>D.i n)))):tE P G f [.fm v gen 1 0 l.length] H R:=by
 intro c w vs ft s
 cases s with
 | @cons u _ _ _ h1 s=>
 cases s;have F:l.length=l.length:=rfl;revert F;generalize hN:l.length=N at h1;intro F
 cases h1 with
 | lJ=>omega
 | fm _ _ _ _ _ cap L A z jv iB lP=>
 have q:=ft.ob v _ o;simp only[Ob.gen]at q;rw[A]at q;simp only[gA,z]at q;obtain⟨g,m,Z,h,S⟩:=q;rw[List.length_map,hN]at h;have K:lz c H L.b:=⟨v,L,⟨_,o,rfl,A⟩,z,rfl⟩;have p:=ft.lt _ K;have J:∀j,w.cell? ⟨L.b,j,none⟩=g[j]? := λj=>by simp[World.cell?,m]
 have X:Holds (Value.int .i64) w L.b (L.base+0*1) l.toArray:=by
  intro j V;have C:j<l.length:=by simpa using V
  obtain⟨y,h1,h2,Y⟩:=S j (.i l[j]) (by simp[C]);cases Y;refine⟨?_,by simp[World.frozen?,m]⟩;rw[J,show L.base+0*1+j=L.base+j by omega,h1];simp[C]
 have E:=hS.full L.b (L.base+0*1) cap l w X p M;rw[hN]at E;refine E.mono ?_;rintro e w' ⟨rfl,n,os,rfl⟩;generalize T:(l.mergeSort λx y=>decide (x<=y))=l' at k ⊢;have Aa:l'.length=N:=by rw[<-T,eX,hN]
 obtain⟨w1,w2⟩:=C3 ft o A z m (putCells (Value.int .i64) (L.base+0*1) l'.toArray g) (by simp[putCells]) Z (l'.map λn=>D.i n) (by rw[List.length_map,Aa];exact h) (λi dd hi=>by
  rw[aq]at hi;obtain⟨a,I,rfl⟩:=aj.1 hi;have Q:i<l'.length:=(ae.1 I).1;refine⟨.int .i64 a,?_,rfl,.val _⟩;rw[putCells,db,bU (by omega),aD,if_pos ⟨by omega,by simp;omega⟩];rw[show L.base+i-(L.base+0*1)=i by omega,getElem!_pos l'.toArray i (by simpa using Q)];have:=(ae.1 I).2
  simp[this])
 have B:jy (w.setRow L.b (putCells (Value.int .i64) (L.base+0*1) l'.toArray g)) (grow (putRow (Value.int .i64) (Go.Sort.ahead w n) L.b (L.base+0*1) l'.toArray) os):=by
  refine⟨⟨rfl,eP _ _⟩,rfl,rfl,?_,λb W=>?_⟩
  .simp[World.setRow,grow,putRow,mapBlock,Go.Sort.ahead]
  .have O:b<w.heap.size:=by simpa[World.setRow]using W
   simp only[grow,putRow,mapBlock,Go.Sort.ahead];rw[cu (by simpa using O),aW]
   by_cases r:L.b=b
   .subst r;rw[setRow_heap w L.b g _ t _ m,if_pos rfl,m];rfl
   .simp only[World.setRow,aW];rw[if_neg r,if_neg r]
 exact⟨_,c,_,_,rfl,k,by simp,w1.oK B,.tup [] [] rfl (λi v d o=>by simp at o),w2.trans (A1 _ B) (Nat.le_refl _)⟩
end
end Go.AL
namespace Go.AL
open Go Go.Proofs Go.Shelf Go.RowKit Go.Lib Go.Sort
structure yX(P:Program)(f:FuncId):Prop where
 full:∀(kN off cap i:Nat) (zs:List Int) (w:World) (_:Holds (Value.int .i64) w kN off zs.toArray) (_:zs.length<=cap) (_:cap<=9223372036854775807) (_:i<zs.length),
  Calls P f #[.slice (some ⟨kN,off,none⟩) zs.length cap,.int .i64 i,.int .i64 ((i:Int)+1)] w λe w'=>e = .returned (.slice (some ⟨kN,off,none⟩) (zs.length-1) cap)/\∃n,w'=putRow (Value.int .i64) (Go.Sort.ahead w n) kN off (zs.take i++zs.drop (i+1) ++ [0]).toArray
section
variable{P:Program}{G:GT}{c:Ctx}{H:U}{w:World}
theorem aae{f:FuncId}(hS:yX P f)(l:List Int)(i:Nat)(hi:i<l.length){v gen:Nat}{t:TypeId}{zs:List D}(C:H[v]? = some (.row t gen (l.map (λn=>D.i n)++zs))){R:D->U->Prop}
  (k:R (.fm v gen 1 0 (l.length-1)) (H.set v (.row t gen ((l.take i++l.drop (i+1) ++ [0]).map (λn=>D.i n)++zs)))):tE P G f [.fm v gen 1 0 l.length,.i i,.i ((i:Int)+1)] H R:=by
 intro c w vs ft m
 cases m with
 | @cons u _ _ _ h1 m=>
 cases m with
 | @cons u2 _ _ _ r m=>
 cases m with
 | @cons u3 _ _ _ q m=>
 cases m;cases r;cases q;have O:l.length=l.length:=rfl;revert O;generalize hN:l.length=N at h1;intro O
 cases h1 with
 | lJ=>omega
 | fm _ _ _ _ _ cap L z s jv M X=>
 have x:=ft.ob v _ C;simp only[Ob.gen]at x;rw[z]at x;simp only[gA,s]at x;obtain⟨d,p,E5,g,I⟩:=x;rw[ar,List.length_map,hN]at g;have V:lz c H L.b:=⟨v,L,⟨_,C,rfl,z⟩,s,rfl⟩;have Q:=ft.lt _ V;have T:∀j,w.cell? ⟨L.b,j,none⟩=d[j]? := λj=>by simp[World.cell?,p]
 have hH:Holds (Value.int .i64) w L.b (L.base+0*1) l.toArray:=by
  intro j o;have A:j<l.length:=by simpa using o
  obtain⟨y,h1,r,q⟩:=I j (.i l[j]) (by rw[ah (by simpa using A)];simp[A]);cases q;refine⟨?_,by simp[World.frozen?,p]⟩;rw[T,show L.base+0*1+j=L.base+j by omega,h1];simp[A]
 have K:=hS.full L.b (L.base+0*1) cap i l w hH (by omega) (by unfold maxLen at M;omega) hi;rw[hN]at K k;refine K.mono ?_;rintro e w' ⟨rfl,n,rfl⟩;generalize Y:l.take i++l.drop (i+1) ++ [0]=l' at k ⊢
 have S:l'.length=N:=by rw[<-Y,ar,ar,aK,aQ,cy,hN];omega
 obtain⟨w1,w2⟩:=C3 ft C z s p (putCells (Value.int .i64) (L.base+0*1) l'.toArray d) (by simp[putCells]) E5 (l'.map (λn=>D.i n)++zs) (by rw[ar,List.length_map,S];exact g) (λj dd o=>by
  by_cases J:j<l'.length
  .rw[ah (by simpa using J),aq]at o;obtain⟨a,ha,rfl⟩:=aj.1 o;refine⟨.int .i64 a,?_,rfl,.val _⟩;rw[putCells,db,bU (by omega),aD,if_pos ⟨by omega,by simp;omega⟩];rw[show L.base+j-(L.base+0*1)=j by omega,getElem!_pos l'.toArray j (by simpa using J)];have:=(ae.1 ha).2;simp[this]
  .have E:l'.length<=j:=by omega
   rw[ai (by simpa using E),List.length_map,S]at o;obtain⟨y,h1,r,q⟩:=I j dd (by rw[ai (by rw[List.length_map];omega),List.length_map,hN];exact o);refine⟨y,?_,r,q⟩
   rw[putCells,db,h1,aD,if_neg (λh=>by have:=h.2;simp at this;omega)])
 have F:jy (w.setRow L.b (putCells (Value.int .i64) (L.base+0*1) l'.toArray d)) (putRow (Value.int .i64) (Go.Sort.ahead w n) L.b (L.base+0*1) l'.toArray):=by
  refine⟨⟨rfl,eP _ _⟩,rfl,rfl,?_,λb Z=>?_⟩
  .simp[World.setRow,putRow,mapBlock,Go.Sort.ahead]
  .have tb:b<w.heap.size:=by simpa[World.setRow]using Z
   simp only[putRow,mapBlock,Go.Sort.ahead];rw[aW]
   by_cases B:L.b=b
   .subst B;rw[setRow_heap w L.b d _ t _ p,if_pos rfl,p];rfl
   .simp only[World.setRow,aW];rw[if_neg B,if_neg B]
 have W:fr c (putRow (Value.int .i64) (Go.Sort.ahead w n) L.b (L.base+0*1) l'.toArray) (.slice (some ⟨L.b,L.base+0*1,none⟩) (N-1) cap) (.fm v gen 1 0 (N-1)):=.fm v gen 1 0 (N-1) cap L z s (by omega) M X;exact⟨_,c,_,_,rfl,k,by simp,w1.oK F,W,w2.trans (A1 _ F) (Nat.le_refl _)⟩
end
end Go.AL
namespace Go.AL
open Go
def Out.ex:Out->Exit
 | .norm _=>.normal
 | .exit id _=>.exit id
 | .ret _=>.ret
def ajc(A:Array Oper):List (List Nat):=A.toList.foldl (init:=[]) λa o=>
 a ++ [dedup ((o.after.toList.filter λe=>Region.binds .any e).flatMap λe=>e.on::a.getD e.on [])]
def ajk(l:List gy)(ord:List (List Nat)):List (Nat×Nat):=(List.range l.length).flatMap λi=>(List.range i).filterMap λk=>
 if (ord.getD i []).contains k then none else match l[k]?,l[i]? with
  | some a,some b=>if Mw a.op b.op then none else some (k,i)
  | _,_=>none
def VU:List FuncId:=[283]
def adu:gZ->Bool
 | .call f _=>VU.contains f
 | .callN f _=>VU.contains f
 | _=>false
def VV(l:List gy)(ord:List (List Nat))(n:Nat):Bool:=n<l.length&&(List.range l.length).all λi=>decide (i<n)||(List.range i).all λk=>(ord.getD i []).contains k
def S9(a:List (Nat×Nat))(l:List gy)(ord:List (List Nat)):IR:=
 let n:=l.findIdx λe=>adu e.op
 if VV l ord n then .l5 a (l.take n) (l.drop n)else .lh a l
def mK:Code->List (Array Tmp×Code×Code)
 | .seq a b=>mK a++mK b
 | .cond _ a b=>mK a++mK b
 | .block _ a=>mK a
 | .loop a=>mK a
 | .rangeFunc _ ps a b=>(ps,a,b)::(mK a++mK b)
 | _=>[]
def cC(P:Program)(G:GT)(N:Nat)(rf:Nat):List (List Nat)->Code->Option (IR×List (List Nat))
 | hs,.skip=>some (.skip,hs)
 | hs,.region _ ops false=>match oF P G N ops ops.toList with
  | some l=>some (.ops l,hs)
  | none=>some (.bad,hs)
 | hs,.region _ ops true=>match oF P G N ops ops.toList with
  | some l=>
   let ord:=ajc ops
   let d:=ajk l ord
   if xR ops&&xa ops ord&&Qj l ord d then some (S9 d l ord,hs)else some (.bad,hs)
  | none=>some (.bad,hs)
 | hs,.seq a b=>match cC P G N rf hs a with
  | some (x,kn)=>match cC P G N (rf+(mK a).length) kn b with
   | some (y,my)=>some (.seq x y,my)
   | none=>none
  | none=>none
 | hs,.cond c a b=>match cX G c with
  | some x=>match cC P G N rf hs a with
   | some (y,kn)=>match cC P G N (rf+(mK a).length) kn b with
    | some (z,my)=>some (.cond x y z,my)
    | none=>none
   | none=>none
  | none=>some (.bad,hs)
 | hs,.block id a=>match hs with
  | l::hs=>match cC P G N rf hs a with
   | some (x,kn)=>some (.block id l x,kn)
   | none=>none
  | []=>none
 | hs,.loop a=>match hs with
  | l::hs=>match cC P G N rf hs a with
   | some (x,kn)=>some (.loop l x,kn)
   | none=>none
  | []=>none
 | hs,.rangeFunc g _ _ _=>match cX G g,hs with
  | some x,l::hs=>some (.mZ rf l x,hs)
  | _,_=>some (.bad,hs)
 | hs,.exit id=>some (.exit id,hs)
 | hs,.ret=>some (.ret,hs)
 | hs,_=>some (.bad,hs)
inductive mM(P:Program)(G:GT)(N:Nat):IR->Code->Prop
 | skip:mM P G N .skip .skip
 | ops {l id A} (h:oF P G N A A.toList=some l):mM P G N (.ops l) (.region id A false)
 | lh {iY l id A} (ord:List (List Nat)) (h:oF P G N A A.toList=some l) (he:xR A=true) (ho:xa A ord=true) (hp:Qj l ord iY=true):mM P G N (.lh iY l) (.region id A true)
 | l5 {iY l es id A} (ord:List (List Nat)) (h:oF P G N A A.toList=some (l++es)) (he:xR A=true) (ho:xa A ord=true) (hp:Qj (l++es) ord iY=true) (yd:∀i,l.length<=i->i<(l++es).length->∀k,k<i->k∈ord.getD i []):mM P G N (.l5 iY l es) (.region id A true)
 | seq {a b x y} (h1:mM P G N x a) (h2:mM P G N y b):mM P G N (.seq x y) (.seq a b)
 | cond {c a b x y z} (hc:cX G c=some x) (h1:mM P G N y a) (h2:mM P G N z b):mM P G N (.cond x y z) (.cond c a b)
 | block {id l a x} (h:mM P G N x a):mM P G N (.block id l x) (.block id a)
 | loop {l a x} (h:mM P G N x a):mM P G N (.loop l x) (.loop a)
 | mZ {rf l x g ps ac bc} (hx:cX G g=some x) (h:G.rt rf=some (N,ps,ac,bc)):mM P G N (.mZ rf l x) (.rangeFunc g ps ac bc)
 | exit {id}:mM P G N (.exit id) (.exit id)
 | ret:mM P G N .ret .ret
 | bad {c}:mM P G N .bad c
def y6(G:GT)(N rf:Nat)(code:Code):Prop:=∀(i:Nat) (x:Array Tmp×Code×Code),(mK code)[i]? = some x->G.rt (rf+i)=some (N,x)
theorem y6.left{G:GT}{N rf:Nat}{a b:Code}{l:List (Array Tmp×Code×Code)}(hl:l=mK a++mK b)(h:∀(i:Nat) (x:Array Tmp×Code×Code),l[i]? = some x->G.rt (rf+i)=some (N,x)):y6 G N rf a/\y6 G N (rf+(mK a).length) b:=by
 subst hl;refine⟨λi x c=>h i x ?_,λi x c=>?_⟩
 .grind
 .rw[aU];exact h _ x (by rw[ai (by omega)];simpa using c)
theorem M5{P:Program}{G:GT}{N:Nat}:∀ {code:Code} {rf:Nat} {hs f:List (List Nat)} {e:IR},y6 G N rf code->cC P G N rf hs code=some (e,f)->mM P G N e code:=by
 intro code
 induction code with
 | skip=>intro rf hs f e d h;simp only[cC]at h;cases h;exact .skip
 | region id A lh=>
  intro rf hs f e d h;cases lh
  .simp only[cC]at h;split at h
   .rename_i l hl;cases h;exact .ops hl
   .cases h;exact .bad
  .simp only[cC]at h;split at h
   .rename_i l hl;split at h
    .rename_i m;cases h;simp only[Bool.and_eq_true]at m;unfold S9;dsimp only;split
     .rename_i u;unfold VV at u;simp only[Bool.and_eq_true,bV,decide_eq_true_eq,List.all_eq_true,a7,da]at u;refine .l5 _ (by rw[bM];exact hl) m.1.1 m.1.2 (by rw[bM];exact m.2) λi hi v k B=>?_;rw[bM]at v;rw[aK]at hi;rcases u.2 i v with h|h
      .omega
      .exact h k B
     .exact .lh _ hl m.1.1 m.1.2 m.2
    .cases h;exact .bad
   .cases h;exact .bad
 | seq a b j o=>
  intro rf hs f e d h;obtain⟨r,q⟩:=y6.left rfl d;simp only[cC]at h;split at h
  .rename_i x p n;split at h
   .rename_i y w t;cases h;exact .seq (j r n) (o q t)
   .cases h
  .cases h
 | cond c a b j o=>
  intro rf hs f e d h;obtain⟨r,q⟩:=y6.left rfl d;simp only[cC]at h;split at h
  .rename_i x s;split at h
   .rename_i y p n;split at h
    .rename_i z w t;cases h;exact .cond s (j r n) (o q t)
    .cases h
   .cases h
  .cases h;exact .bad
 | block id a j=>
  intro rf hs f e d h;simp only[cC]at h;split at h
  .split at h
   .rename_i x p n;cases h;exact .block (j d n)
   .cases h
  .cases h
 | loop a j=>
  intro rf hs f e d h;simp only[cC]at h;split at h
  .split at h
   .rename_i x p n;cases h;exact .loop (j d n)
   .cases h
  .cases h
 | rangeFunc g ps a b j o=>
  intro rf hs f e d h;simp only[cC]at h;split at h
  .rename_i x l p s;cases h;exact .mZ s (d 0 _ rfl)
  .cases h;exact .bad
 | exit id=>intro rf hs f e d h;simp only[cC]at h;cases h;exact .exit
 | ret=>intro rf hs f e d h;simp only[cC]at h;cases h;exact .ret
 | _=>intro rf hs f e d h;simp only[cC]at h;cases h;exact .bad
def cR(P:Program):ResultVar->Option tF
 | .tmp t=>some (.tmp t)
 | .cell a t=>match nW P t,jJ P t with
  | some false,some _=>some (.rZ a)
  | some true,some n=>some (.M7 n a)
  | _,_=>none
def za(P:Program):List ResultVar->Option (List tF)
 | []=>some []
 | x::r=>match cR P x,za P r with
  | some a,some l=>some (a::l)
  | _,_=>none
def yP(P:Program)(k:Nat):Option (Nat×Array Tmp×Code×Code):=match P.funcs[k / 64]? with
 | some fn=>match fn.body with
  | some code=>(mK code)[k % 64]?.map λx=>(fn.ntmps,x)
  | none=>none
 | none=>none
theorem ajv{P:Program}{G:GT}(d:G.rt=yP P){f:Nat}{fn:Func}{code:Code}(b:P.funcs[f]? = some fn)(c:fn.body=some code)(hl:(mK code).length<=64):y6 G fn.ntmps (64*f) code:=by intro i x a;have hi:i<64:=aI (ae.1 a).1 hl;rw[d];unfold yP;rw[show(64*f+i) / 64=f by omega,show(64*f+i) % 64=i by omega,b];simp[c,a]
structure Dq(P:Program)(G:GT)(f:FuncId)(fn:iE):Prop where
 ex:∃func code hs gG,P.funcs[f]? = some func/\func.body=some code/\rz P f=true/\(mK code).length<=64/\cC P G fn.ntmps (64*f) hs code=some (fn.body,gG)/\func.ntmps=fn.ntmps/\za P func.results.toList=some fn.results
structure tG(P:Program)(G:GT)(rf:Nat)(R:pq):Prop where
 ex:∃N ps ac bc,G.rt rf=some (N,ps,ac,bc)/\ps.toList=R.params/\(R.params.all λp=>decide (p<N))=true/\mM P G N R.a ac/\mM P G N R.b bc
structure MT(P:Program)(G:GT)(T:gO):Prop where
 rt:G.rt=yP P
 fn:∀f fn,T.fn f=some fn->Dq P G f fn
 round:∀rf R,T.round rf=some R->tG P G rf R
 sort:∀f sz,T.sort f=some sz->vR P f sz
 rR:∀f,T.rR f=true->y8 P f
 r7:∀f,T.r7 f=true->yX P f
def JB(F:Fence)(n:Nat)(P:Program)(c:Code)(Q:Exit->Act->World->Prop)(a:Act)(w:World):Prop:=
 ∀(b:Frame) (k:List Item) (cs:List Frame),b.roundOf=F.round->F.fn b.fn->F.room (cs.length+1+n) ->
  ∃e d w',Q e d w'/\ArrivesIn (Machine.fenced P F) P (lone (b.atR a (.code c :: .inLoop c::k)) cs w) b k cs e d w'
section
variable{F:Fence}{n:Nat}{P:Program}{Q:Exit->Act->World->Prop}{a:Act}{w:World}
theorem ad5{c:Code}(h:c.wpIn F n P (Exit.then (JB F n P c Q) Q) a w):JB F n P c Q a w:=by
 intro b k cs s m j;obtain⟨e,i,g,f,d⟩:=h b (.inLoop c::k) cs s m j
 cases e with
 | normal=>
  obtain⟨r,t,o,q,p⟩:=f b k cs s m j;exact⟨r,t,o,q,.of_steps (StepsIn.trans d (.one (fenced_calm m j rfl) stepR_inLoop)) p⟩
 | exit id=>exact⟨_,i,g,f,.pass (x:=.inLoop c) rfl (λ_ _=>.inl (by simp)) d⟩
 | goto l=>exact⟨_,i,g,f,.pass (x:=.inLoop c) rfl (λ_ _=>.inl (by simp)) d⟩
 | ret=>exact⟨_,i,g,f,.pass (x:=.inLoop c) rfl (λ_ _=>.inl (by simp)) d⟩
 | panic ch=>exact⟨_,i,g,f,.pass (x:=.inLoop c) rfl (λ_ _=>.inl (by simp)) d⟩
 | outgrown=>exact⟨_,i,g,f,.pass (x:=.inLoop c) rfl (λ_ _=>.inl (by simp)) d⟩
theorem ak0{c:Code}(h:JB F n P c Q a w):(Code.loop c).wpIn F n P Q a w:=by intro b k cs i f d;obtain⟨e,l,w',j,g⟩:=h b k cs i f d;exact⟨e,l,w',j,.of_steps (.one (fenced_calm f d rfl) stepR_loop) g⟩
end
section
variable{P:Program}{G:GT}{c:Ctx}{w:World}{a:Act}{N:Nat}
theorem MZ(δ:Dl)(H:U):H.length<=(δ.app H (Al.last H)).length:=by
 cases δ with
 | no=>exact Nat.le_refl _
 | cells v o xs=>simp only[Dl.app];split<;>simp
 | obj v ob=>simp[Dl.app]
 | new ob=>simp[Dl.app,Al.last]
theorem Mo(ks:mD)(H:U):(pJ ks H).length=ks.length:=by simp[pJ]
theorem Wp{ks:mD}{H:U}{f:Nat->Nat}:∀ {vs:List Nat} {ds:List Deferred},qk c vs ds->(∀v∈vs,∀L,c.ι v 0=some L->(c.fy ks H).ι (f v) 0=some L)->qk (c.fy ks H) (vs.map f) ds:=by
 intro vs ds h
 induction h with
 | nil=>intro _;exact .nil
 | cons L h1 e _ b=>intro a;exact .cons L (a _ (by simp) L h1) e (b λv d=>a v (by simp[d]))
theorem X9{n:Nat}{d:D}{v:Nat}(a:v∈iH n d):n<=v:=by cases d<;>simp only[iH]at a<;>first|(split at a<;>simp at a;omega)|(simp at a)
theorem WD{n:Nat}{o:Ob}{v:Nat}(a:v∈nN n o):n<=v:=by
 unfold nN at a;split at a
 .obtain⟨l2,b,c⟩:=aZ.1 a;obtain⟨d,_,rfl⟩:=au.1 b;exact X9 c
 .obtain⟨l2,b,c⟩:=aZ.1 a;obtain⟨d,_,rfl⟩:=au.1 b;exact X9 c
 .cases a
theorem zg{s:St}(hs:kr G N c w s a){n:Nat}(r:n<=s.H.length)(live:List Nat) :
  ∃c',kr G N c' w (cut n live s) a/\Step n c s.H w c' (cut n live s).H w/\n<=(cut n live s).H.length:=by
 unfold cut;split
 .exact⟨c,⟨hs.ft,BC hs.env live,hs.size,hs.marks⟩,Step.refl _ _ _ _,r⟩
 .dsimp only;generalize j:dedup _=K
  have m:∀v∈K,v∈(((forget live s.env).map λp=>iH n p.2).flatten++((s.H.take n).map (nN n)).flatten++s.marks.filter (n<=·)).filter (· < s.H.length):=λv b=>by rw[<-j]at b;exact Fz b
  have y:∀(d:D) (v:Nat),v∈iH n d->n<=v:=by intro d v b;cases d<;>simp only[iH]at b<;>first|(split at b<;>simp at b;omega)|(simp at b)
  have x:∀v∈K,n<=v:=by
   intro v b;have:=(aV.1 (m v b)).1;rcases List.mem_append.1 this with h|h
   .rcases List.mem_append.1 h with h|h
    .grind
    .obtain⟨l,hl,q⟩:=aZ.1 h;obtain⟨o,_,rfl⟩:=au.1 hl;exact WD q
   .grind
  have e:y4 (iv n K):=VL x (by rw[<-j];exact LP _);have u:=QR (ks:=iv n K) hs.ft (n:=n) VK;refine⟨c.fy (iv n K) s.H,⟨CP hs.ft e,Tg hs.ft (BC hs.env live),hs.size,?_⟩,u,?_⟩
  .refine Wp hs.marks λv b L g=>?_
   have t:v<s.H.length:=by
    rcases bw v s.H.length with h|h
    .exact h
    .rw[hs.ft.out v 0 h]at g;cases g
   have:∃i,gX (iv n K) v=some i:=by
    by_cases k:v<n
    .refine⟨v,QC e ?_⟩;unfold iv;rw[ah (by simpa using k)];simp[k]
    .have f:v∈K:=by rw[<-j];refine Kc (aV.2 ⟨bN _ (aV.2 ⟨b,by simpa using ff.1 k⟩),by simpa using t⟩)
     obtain⟨i,hi⟩:=aA.1 f;refine⟨n+i,QC e ?_⟩;unfold iv;rw[ai (by simp)];simp[hi]
   obtain⟨i,hi⟩:=this;rw[hi];simp only[aO];rw[C6 hi];exact g
  .rw[Mo];simp[iv]
theorem T5{s:St}(hs:kr G N c w s a)(S:List Nat):∃c',kr G N c' w (lk S s) a/\Step s.H.length c s.H w c' (lk S s).H w/\(lk S s).H.length=s.H.length:=by
 refine⟨c.fy (lN s.H S) s.H,⟨CP hs.ft T2,Tg hs.ft hs.env,hs.size,?_⟩,QR hs.ft T1,NS⟩
 have:=Wp (ks:=lN s.H S) (H:=s.H) (f:=id) hs.marks λv _ L b=>by
  have i:v<s.H.length:=by
   rcases bw v s.H.length with h|h
   .exact h
   .rw[hs.ft.out v 0 h]at b;cases b
  have d:=T1 (S:=S) v i;simp only[aj]at d;obtain⟨p,g,e⟩:=d;simp only[Ctx.fy,id,g,e];exact b
 simpa[lk]using this
theorem aje{n:Nat}{d:D}{v:Nat}(a:v∈CE n d):n<=v:=by
 unfold CE at a;split at a
 .grind
 .grind
 .simp at a
theorem yA{H:U}(ft:fO G c H w){n:Nat}(i:n<=H.length)(own:Nat){u:Value}{d:D}(b:fr c w u d) :
  ∃c',fO G c' (leave own n H d).2 w/\fr c' w u (leave own n H d).1/\Step n c H w c' (leave own n H d).2 w/\n<=(leave own n H d).2.length:=by
 unfold leave;split
 .exact⟨c,ft,b,Step.refl _ _ _ _,i⟩
 .dsimp only;generalize e:dedup _=K
  have j:∀v∈K,n<=v:=by
   intro v a;rw[<-e]at a;have:=(aV.1 (Fz a)).1;rcases List.mem_append.1 this with h|h
   .split at h
    .simp at h
    .exact aje h
    .grind
    .grind
   .obtain⟨l,hl,g⟩:=aZ.1 h;obtain⟨o,_,rfl⟩:=au.1 hl;exact WD g
  have f:y4 (iv n K):=VL j (by rw[<-e];exact LP _);exact⟨c.fy (iv n K) H,CP ft f,yJ ft 40 b,QR ft VK,by rw[Mo];simp[iv]⟩
theorem aem(args:List D)(k:Nat):(sJ args).get k=(args[k]?).getD .any:=by
 have key:∀(l:List D) (i k:Nat),Env.get ((l.zipIdx i).map λp=>(p.2,p.1)) k=if k<i then .any else(l[k-i]?).getD .any:=by
  intro l
  induction l with
  | nil=>intro i k;simp[Env.get]
  | cons d l a=>
   intro i k;simp only[List.zipIdx_cons,List.map_cons,Env.u9];split
   .grind
   .grind
 have:=key args 0 k;simpa[sJ]using this
theorem aap{vs:List Value}{args:List D}(b:iR c w vs args)(n:Nat):kc c w (sJ args).get { tmps:=vs.toArray++Array.replicate (n-vs.toArray.size) undef,defers:=[] }:=λk=>by
 rw[aem];have hl:=b.length
 cases f:args[k]? with
 | none=>exact .any _
 | some d=>
  have a:k<vs.length:=by rw[hl];exact(ae.1 f).1
  have g:vs[k]? = some vs[k]:=by simp[a]
  have:=b.get k vs[k] d g f;simp only[aO]
  have e:(vs.toArray++Array.replicate (n-vs.toArray.size) undef).getD k undef=vs[k]:=by rw[cJ,cu (by simpa using a)];simp[a]
  rw[e];exact this
theorem ad1{H:U}(h:fO G c H w){t:TypeId}(k:nW P t=some false){x d:D}{u:Value}(j:fr c w u x)(a:vA x H=some d) :
  ∃v,(Instr.loadAt t u).run P w = .ok v w/\fr c w v d/\∃b o,u = .pointer (some ⟨b,o,none⟩):=by
 unfold vA at a;split at a
 .rename_i v g o;split at a
  .rename_i n cs m;have l:=sP m;obtain⟨b,p,rfl,f⟩:=JU h l j;obtain⟨u,e,_,i⟩:=Mj k f (d:=d) (by simpa using a);exact⟨u,e,i,b,p,rfl⟩
  .cases a
 .rename_i cs;obtain⟨b,p,rfl,_,f⟩:=xJ j;obtain⟨u,e,_,i⟩:=Mj k f a;exact⟨u,e,i,b,p,rfl⟩
 .cases a
theorem ad2{H:U}(h:fO G c H w){t:TypeId}{n:Nat}(l:nW P t=some true)(hs:jJ P t=some n){x d:D}{u:Value}(k:fr c w u x)(a:uw n x H=some d) :
  ∃v,(Instr.loadAt t u).run P w = .ok v w/\fr c w v d/\∃b o,u = .pointer (some ⟨b,o,none⟩):=by
 unfold uw at a;split at a
 .rename_i v g o;split at a
  .rename_i r cs q;split at a
   .rename_i e;cases a;have m:=sP q;obtain⟨b,p,rfl,i⟩:=JU h m k;obtain⟨u,f,j⟩:=Mk (n:=n) l hs i (by simp;omega);exact⟨u,f,j,b,p,rfl⟩
   .cases a
  .cases a
 .rename_i cs;split at a
  .rename_i e;cases a;obtain⟨b,p,rfl,_,i⟩:=xJ k;obtain⟨u,f,j⟩:=Mk (n:=n) l hs i e;exact⟨u,f,j,b,p,rfl⟩
  .cases a
 .cases a
def AK(tmps:Array Value):ResultVar->Sem Value
 | .tmp t=>pure (tmps.getD t undef)
 | .cell a t=>do loadVar t (<-asAddr (tmps.getD a undef))
theorem ajF{s:St}(hs:kr G N c w s a){x:ResultVar}{X:tF}(e:cR P x=some X){d:D}(f:CL s X=some d) :
  ∃v,(AK a.tmps x).run P w = .ok v w/\fr c w v d:=by
 cases x with
 | tmp t=>
  cases e;simp only[CL,ak]at f;subst f;exact⟨_,rfl,hs.env t⟩
 | cell p t=>
  have j:=hs.env p;generalize q:a.tmps.getD p undef=u at j
  have key:∀v,(Instr.loadAt t u).run P w = .ok v w->(∃b o,u = .pointer (some ⟨b,o,none⟩))->(AK a.tmps (.cell p t)).run P w = .ok v w:=by rintro v h ⟨b,o,rfl⟩;simpa[Instr.loadAt,Instr.sureAddr,asAddr,AK,q]using h
  simp only[cR]at e;split at e
  .rename_i n k m;cases e;obtain⟨v,g,i,l⟩:=ad1 hs.ft k j f;exact⟨v,key v g l,i⟩
  .rename_i n k m;cases e;obtain⟨v,g,i,l⟩:=ad2 hs.ft k m j f;exact⟨v,key v g l,i⟩
  .cases e
theorem QB{s:St}(hs:kr G N c w s a):∀(l:List ResultVar) {xs:List tF} {ds:List D},za P l=some xs->tw s xs=some ds ->
  ∃vs:List Value,(l.mapM (AK a.tmps)).run P w = .ok vs w/\iR c w vs ds
 | [],xs,ds,h1,h2=>by cases h1;cases h2;exact⟨[],rfl,.nil⟩
 | x::l,xs,ds,h1,h2=>by
  simp only[za]at h1;split at h1
  .rename_i X k hX j;cases h1;simp only[tw]at h2;split at h2
   .rename_i d i h b;cases h2;obtain⟨v,f,g⟩:=ajF hs hX h;obtain⟨vs,e,sB⟩:=QB hs l j b;exact⟨v::vs,by simp[ef,f,e],.cons g sB⟩
   .cases h2
  .cases h1
theorem ajH{s:St}(hs:kr G N c w s a){func:Func}{fn:iE}(k:za P func.results.toList=some fn.results){d:D}(g:AL.results fn s=some d) :
  ∃v,(Go.results func a.tmps).run P w = .ok v w/\fr c w v d:=by
 have e:∀vs:List Value,(func.results.toList.mapM (AK a.tmps)).run P w = .ok vs w->(Go.results func a.tmps).run P w = .ok (if h:vs.toArray.size=1 then vs.toArray[0]else .tuple vs.toArray) w:=by
  intro vs b
  have h1:(func.results.mapM (AK a.tmps)).run P w = .ok vs.toArray w:=by rw[eH,Sem.run_map,b];rfl
  have j:Go.results func a.tmps=(do let vs <-func.results.mapM (AK a.tmps);pure (if h:vs.size=1 then vs[0]else .tuple vs)):=rfl;rw[j,Sem.run_bind,h1];rfl
 unfold AL.results at g;split at g
 .rename_i d' i;cases g;obtain⟨vs,b,f⟩:=QB hs _ k i
  cases f with
  | cons h t=>
   cases t;exact⟨_,e _ b,h⟩
 .rename_i ds l i;cases g;obtain⟨vs,b,f⟩:=QB hs _ k i;refine⟨_,e _ b,?_⟩
  have hl:vs.toArray.size≠1:=by
   intro h1;have j:ds.length=1:=by rw[<-f.length];simpa using h1
   match ds,j with
   | [d],_=>exact l d rfl
  rw[dif_neg hl];exact .tup vs ds f.length f.get
 .cases g
end
end Go.AL
namespace Go.AL
open Go
section
variable{P:Program}{G:GT}{c:Ctx}{H:U}{w:World}{env:gj}{a:Act}{N:Nat}
theorem Ta(h:fO G c H w){v:Nat}{ob:Ob}(x:H[v]? = some ob)(O:ob.alive=true){L:Loc}(Q:c.ι v ob.gen=some L)(z:L.jg=false)
  {w':World} (F:w'.os=w.os/\w.drawn<=w'.drawn) (R:w'.tape=w.tape) (I:w'.output=w.output) (C:w'.heap.size=w.heap.size) (t:∀b,b≠L.b->w'.heap[b]? = w.heap[b]?) :
  fO G c (H.set v .dead) w'/\Step H.length c H w c (H.set v .dead) w':=by
 have q:=(ae.1 x).1;have B:kX c H v L:=⟨ob,x,O,Q⟩;have D:lz c H L.b:=⟨v,L,B,z,rfl⟩
 have p:∀u l,kX c (H.set v .dead) u l->u≠v/\kX c H u l:=by
  rintro u l ⟨o,f,A,hi⟩;rw[qz q]at f;split at f
  .cases f;cases A
  .rename_i s;exact⟨s,o,f,A,hi⟩
 have m:∀b,lz c (H.set v .dead) b->lz c H b:=λb ⟨u,l,hl,r⟩=>⟨u,l,(p u l hl).2,r⟩
 have hs:Step H.length c H w c (H.set v .dead) w':=
  ⟨F,R,I,by omega,rfl,λ_ h=>h,λ_ h=>.inl h,λb _ N=>t b (λe=>N (e▸D)),λ_ _ _ _ h=>h,λb i=>.inr (m b i)⟩
 have y:∀u d,fr c w u d->fr c w' u d:=λu d n=>n.oW h.toHeapOK hs
 refine⟨{
  inj:=λu E l J h1 P=>h.inj u E l J (p _ _ h1).2 (p _ _ P).2
  lt:=λb i=>by rw[C];exact h.lt b (m b i)
  nF:=λb i=>h.nF b (m b i)
  jX:=λb i=>by rw[C];exact h.jX b i
  out:=λu k M=>h.out u k (by simpa using M)
  lO:=λu o k f j=>by
   rw[qz q]at f;split at f
   .cases f;rcases j with j|⟨j,_⟩<;>cases j
   .exact h.lO u o k f j
  ob:=λu o f=>by
   rw[qz q]at f;split at f
   .cases f;simp[gA]
   .rename_i s;refine gA.keep (c:=c) (c':=c) rfl y (λl hl K n=>t _ λe=>s (h.inj u v l L ⟨o,f,n,hl⟩ B K z e)) (h.ob u o f)
  gl:=λg cs hg=>let ⟨a,b⟩:=h.gl g cs hg;⟨a,y _ _ b⟩
  rt:=h.rt },hs⟩
theorem adT{fn:Func}{tmps:Array Value}{R:Ending->World->Prop}:∀ {ms:List Nat} {ds:List Deferred} {H H1:U} {w:World},qk c ms ds->fO G c H w->kill ms H=some H1 ->
  (∀w1,fO G c H1 w1->Step H.length c H w c H1 w1->H1.length=H.length->LeavesIn (FW none) 0 P fn tmps R [] .returning w1)->LeavesInM (FW none) 0 P fn tmps R ds .returning w:=by
 intro ms
 induction ms with
 | nil=>
  intro ds H H1 w e ft d k;cases e;cases d;exact k w ft (Step.refl _ _ _ _) rfl
 | cons v ms i=>
  intro ds H H1 w e ft d k
  cases e with
  | @cons _ _ ds L h1 h e=>
   simp only[kill]at d;split at d
   .rename_i g;have f:=ft.ob v _ g;simp only[Ob.gen]at f;rw[h1]at f;simp only[gA]at f;have a:=f.resolve_left (by simp[h]);have l:L.b<w.heap.size:=(aJ.1 a).1;obtain⟨k1,k2⟩:=Ta (w':={ w with heap:=w.heap.setIfInBounds L.b (.deferred none) }) ft g rfl h1 h ⟨rfl,Nat.le_refl _⟩ rfl rfl (by simp) (λb j=>by rw[cA (cF j)]);refine⟨by simp,.inl ⟨L.b,{ w with heap:=w.heap.setIfInBounds L.b (.deferred none) },rfl,?_,?_⟩⟩
    .simp[Instr.takeDeferred,getObj,setObj,Sem.run,a]
    .refine i e k1 d λw1 q1 q2 q3=>k w1 q1 (k2.trans q2 (by simp)) (by rw[q3];simp)
   .cases d
theorem aj6(ft:fO G c H w)(p:kc c w env a){o:Oper}{l:gZ}(b:mE P G o=some l){v:Nat}{args:List D}(f:yieldOf env l=some (v,args)){rf:Nat}{O:Env}(F:H[v]? = some (.gM rf O .ready)) :
  ∃(L:Loc) (r:Loop) (vs:List Value),c.ι v 0=some L/\L.jg=false/\w.heap[L.b]? = some (.loop r)/\iR c w vs args /\
   (vs.length=r.params.size->(execOp a.eval o).run P w = .ok (.round L.b r.fn ((r.params.zip vs.toArray).foldl (λtmps (t,a)=>tmps.setIfInBounds t a) r.tmps) r.assign r.body) w):=by
 unfold yieldOf at f;split at f
 .rename_i q Q;split at f
  .rename_i v' C;cases f;obtain⟨cl,m⟩:=SU b rfl;have S:=b;unfold mE at b;simp only[m,ax,ag]at b;obtain⟨xs,B,b⟩:=b;have M:=zb ft p cl.args.toList B
   have E:∃x X,cl.callee = .value x/\cX G x=some X/\X=q/\xs=Q:=by
    split at b
    .split at b
     .exfalso;simp only[aB,ak]at b;split at b<;>cases b
     .cases b
    .rename_i x R h;simp only[ag,aB,ak]at b;obtain⟨X,hX,J⟩:=b;cases J;exact⟨x,q,h,hX,rfl,rfl⟩
    .split at b
     .simp only[ag]at b;obtain⟨A,_,b⟩:=b;split at b
      .simp only[ag]at b;obtain⟨i,_,z,_,y,_,b⟩:=b;split at b
       .split at b
        .cases b
        .cases b
       .cases b
      .cases b
     .cases b
    .split at b
     .simp only[ag]at b;obtain⟨A,_,b⟩:=b;split at b
      .simp only[ag]at b;obtain⟨y,_,b⟩:=b;split at b
       .simp only[ag]at b;obtain⟨n,_,b⟩:=b;split at b
        .cases b
        .cases b
       .cases b
      .cases b
     .cases b
    .split at b
     .split at b
      .cases b
      .cases b
      .cases b
      .cases b
     .cases b
    .cases b
    .cases b
    .cases b
   obtain⟨x,X,h,hX,rfl,rfl⟩:=E;have j:=ia ft p hX;rw[C]at j;generalize I:a.eval x=u at j
   cases j with
   | iw _ L s N=>
    have g:=ft.ob v _ F;simp only[Ob.gen]at g;rw[s]at g;simp only[gA]at g;obtain⟨_,r,d,_⟩:=g;refine⟨L,r,_,s,N,d,M,λK=>?_⟩;have e:cl.args.map a.eval=(cl.args.toList.map a.eval).toArray:=by cases cl.args;simp
    have k:cl.args.size=r.params.size:=by simpa using K
    simp only[execOp,m,resolve,h,I,Deferred.ofValue,Sem.run_bind,Sem.run_pure,Result.andThen_ok,invoke,Instr.yield,Instr.getLoop,getObj,Sem.run,d];simp[Sem.run,d,k,e]
  .cases f
 .cases f
theorem Tf:∀(ps:List Tmp) (vs:List Value) (ds:List D) (tmps:Array Value) (a:Env),iR c w vs ds->(∀p∈ps,p<tmps.size)->(∀k,fr c w (tmps.getD k undef) (a.get k)) ->
  ∀k,fr c w (((ps.zip vs).foldl (λ(tmps:Array Value) (p:Tmp×Value)=>tmps.setIfInBounds p.1 p.2) tmps).getD k undef) ((sQ ps ds a).get k)
 | [],vs,ds,tmps,a,_,_,h,k=>by simpa[sQ]using h k
 | p::ps,[],ds,tmps,a,b,_,h,k=>by cases b;simpa[sQ]using h k
 | p::ps,v::vs,ds,tmps,a,b,hp,h,k=>by
  cases b with
  | @cons _ d _ ds g b=>
   simp only[List.zip_cons_cons,bT,sQ];refine Tf ps vs ds (tmps.setIfInBounds p v) ((p,d)::a) b (λq f=>by simpa using hp q (by simp[f])) (λj=>?_) k;have i:p<tmps.size:=hp p (by simp);simp only[Env.u9];split
   .rename_i e;subst e;have:(tmps.setIfInBounds p v).getD p undef=v:=by simp[Array.getD,i]
    rw[this];exact g
   .rename_i e
    have:(tmps.setIfInBounds p v).getD j undef=tmps.getD j undef:=by simp only[cJ,cA e]
    rw[this];exact h j
theorem TY:∀(l:List (Tmp×Value)) (tmps:Array Value),(l.foldl (λ(tmps:Array Value) (p:Tmp×Value)=>tmps.setIfInBounds p.1 p.2) tmps).size=tmps.size
 | [],_=>rfl
 | p::l,tmps=>by simp only[bT];rw[TY l];simp
def vO(G:GT)(N n:Nat)(gW:Bool)(c:Ctx)(H:U)(w:World)(R:Out->Prop)(Q:Exit->Act->World->Prop):Prop:=
 ∀(o:Out) (c':Ctx) (w':World) (a:Act),R o->o.st.gW=gW->n<=o.st.H.length->kr G N c' w' o.st a->Step n c H w c' o.st.H w'->Q o.ex a w'
theorem L5{s:St}(hs:kr G N c w s a){v rf:Nat}{e:Env}{st:rT}(f:s.H[v]? = some (.gM rf e st)){L:Loc}(j:c.ι v 0=some L) :
  ∃r:Loop,w.heap[L.b]? = some (.loop r)/\L.jg=false/\(∀k,fr c w (r.tmps.getD k undef) (e.get k))/\(∃M,G.rt rf=some (M,r.params,r.assign,r.body)/\M<=r.tmps.size)/\st.is r:=by
 have b:=hs.ft.ob v _ f;simp only[Ob.gen]at b;rw[j]at b;simp only[gA]at b;obtain⟨h1,r,i,h,d,g⟩:=b;rw[hs.ft.rt]at d;exact⟨r,i,h1,h,d,g⟩
theorem Xd{s:St}(hs:kr G N c w s a){v rf:Nat}{d:Env}{st st':rT}(e:s.H[v]? = some (.gM rf d st)){L:Loc}(g:c.ι v 0=some L){r:Loop}(f:w.heap[L.b]? = some (.loop r))
  (b:Loop) (h1:b.tmps=r.tmps) (p:b.params=r.params) (o:b.assign=r.assign) (n:b.body=r.body) (m:st'.is b) :
  kr G N c { w with heap:=w.heap.setIfInBounds L.b (.loop b) } { s with H:=s.H.set v (.gM rf d st') } a/\Step s.H.length c s.H w c (s.H.set v (.gM rf d st')) { w with heap:=w.heap.setIfInBounds L.b (.loop b) } /\
   (setObj L.b (.loop b)).run P w = .ok () { w with heap:=w.heap.setIfInBounds L.b (.loop b) }:=by
 obtain⟨x,i,h,u,⟨M,t,q⟩,y⟩:=L5 hs e g;rw[f]at i;cases i
 obtain⟨k1,k2⟩:=yW hs.ft e rfl rfl (ob':=.gM rf d st') rfl g h (.loop b) (λw' l j=>by
  simp only[gA];refine⟨h,b,l,λk=>by rw[h1];exact j _ _ (u k),⟨M,?_,by rw[h1];exact q⟩,m⟩
  rw[hs.ft.rt,t,p,o,n])
 exact⟨⟨k1,λk=>(hs.env k).oW hs.ft.toHeapOK k2,hs.size,hs.marks⟩,k2,by simp[setObj,Sem.run,f]⟩
theorem adr(a:Option Nat)(l:Nat):(FW a).inRound l=FW (some l):=rfl
theorem ak5{s:St}{f:Option Nat}{n:Nat}{o:Oper}{X:gZ}{next:Act->World->Prop}{Q:Exit->Act->World->Prop}(hs:kr G N c w s a)(Z:mE P G o=some X)
  (hd:r8 N o.dst=true) {v rf:Nat} {args:List D} {e0:Env} (jn:yieldOf s.env.get X=some (v,args)) (B:s.H[v]? = some (.gM rf e0 .ready)) {M:Nat} {ps:Array Tmp} {ac bc:Code} (tU:G.rt rf=some (M,ps,ac,bc))
  (m:args.length=ps.size) (Lf:∀p∈ps.toList,p<M) {Ra Rb:Out->Prop}
  (hA:∀(f:Option Nat) (n:Nat) (Q:Exit->Act->World->Prop) (c:Ctx) (w:World) (a:Act),kr G M c w { env:=sQ ps.toList args e0,H:=s.H,gW:=true } a ->
   vO G M s.H.length true c s.H w Ra Q->ac.wpIn (FW f) n P Q a w)
  (hn:∀o,Ra o->o.stop=false/\∃g,o.st.H[v]? = some (.gM rf g .ready))
  (hB:∀s1 g,Ra (.norm s1)->s1.gW=true->s1.H[v]? = some (.gM rf g .ready)->∀(f:Option Nat) (n:Nat) (Q:Exit->Act->World->Prop) (c:Ctx) (w:World) (a:Act),kr G M c w { s1 with H:=s1.H.set v (.gM rf g .busy) } a ->
   vO G M s1.H.length true c (s1.H.set v (.gM rf g .busy)) w Rb Q->bc.wpIn (FW f) n P Q a w)
  (hm:∀o,Rb o->∃e,o.st.H[v]? = some (.gM rf e .busy))
  (k:∀(q:Out) (e:Env) (c':Ctx) (w':World) (a':Act),Rb q->q.st.H[v]? = some (.gM rf e .busy)->s.H.length<=q.st.H.length->kr G N c' w' { s with env:=put s.env o.dst (.b !q.stop),H:=q.st.H.set v (.gM rf e q.yO) } a' ->
   Step s.H.length c s.H w c' (q.st.H.set v (.gM rf e q.yO)) w'->next a' w'):o.wpIn (FW f) n P a w next Q:=by
 obtain⟨L,r,vs,fD,gI,u,gR,gL⟩:=aj6 hs.ft hs.env Z jn B;obtain⟨r0,x,_,a3,⟨M',a4,a6⟩,a5⟩:=L5 hs B fD;rw[u]at x;cases x;rw[tU]at a4;cases a4;have Y:v<s.H.length:=(ae.1 B).1;have gV:vs.length=r.params.size:=by rw[gR.length];exact m
 refine⟨λ_ _=>trivial,?_⟩;rw[Oper.semAt_plain (FW f) a.eval o (AA Z),gL gV];refine⟨λh=>by simp[Fence.wide]at h,roundIn_of_wpIn (F:=FW f) trivial ?_⟩;rw[adr]
 have UQ:(r.params.zip vs.toArray).foldl (λtmps (t,a)=>tmps.setIfInBounds t a) r.tmps=(r.params.toList.zip vs).foldl (λ(tmps:Array Value) (p:Tmp×Value)=>tmps.setIfInBounds p.1 p.2) r.tmps:=by rw[<-Array.foldl_toList];simp
 refine hA (some L.b) _ _ c w _ ⟨hs.ft,λj=>?_,?_,.nil⟩ ?_
 .show fr c w (Array.getD ((r.params.zip vs.toArray).foldl (λtmps (t,a)=>tmps.setIfInBounds t a) r.tmps) j undef) _;rw[UQ];exact Tf _ _ _ _ _ gR (λp hp=>aI (Lf p hp) a6) a3 j
 .show M<=Array.size ((r.params.zip vs.toArray).foldl (λtmps (t,a)=>tmps.setIfInBounds t a) r.tmps);rw[UQ,TY];exact a6
 .intro V c1 w1 x T I K W R;obtain⟨Vl,g,A⟩:=hn V T
  cases V with
  | exit=>cases Vl
  | ret=>cases Vl
  | norm s1=>
   have y:c1.ι v 0=some L:=R.old v 0 L Y fD;obtain⟨l,b1,b2,b3,_,b5⟩:=L5 W A y;have YZ:l.state = .ready/\l.pending=none:=b5;obtain⟨k1,k2,k3⟩:=Xd (P:=P) (st':=.busy) W A y b1 { l with state:=.busy } rfl rfl rfl rfl rfl;refine⟨{ w1 with heap:=w1.heap.setIfInBounds L.b (.loop { l with state:=.busy }) },?_,?_⟩
   .have hg:(Instr.getLoop L.b).run P w1 = .ok l w1:=by simp[Instr.getLoop,getObj,Sem.run,b1]
    simp only[Instr.beginRound,Sem.run_bind,hg,Result.andThen_ok,k3,YZ.1];simp
   .refine hB s1 g T I A (some L.b) _ _ c1 _ x k1 ?_;intro b c2 d h' S g9 EI Lj Ch;obtain⟨e,z⟩:=hm b S;have J:v<s1.H.length:=aI Y K;have O:c2.ι v 0=some L:=Ch.old v 0 L J y;obtain⟨i,d1,d2,d3,_,d5⟩:=L5 Lj z O
    have key:∀(j:Option Code),b.yO.is { i with state:=if j.isNone then .ready else .done,pending:=j }->j.isNone = !b.stop->∃v w',(Instr.endRound L.b j).run P d = .ok v w'/\next (a.put o.dst v) w':=by
     intro j hj C;obtain⟨e1,e2,e3⟩:=Xd (P:=P) (st':=b.yO) Lj z O d1 { i with state:=if j.isNone then .ready else .done,pending:=j } rfl rfl rfl rfl hj;have hg:(Instr.getLoop L.b).run P d = .ok i d:=by simp[Instr.getLoop,getObj,Sem.run,d1]
     refine⟨.bool j.isNone,{ d with heap:=d.heap.setIfInBounds L.b (.loop { i with state:=if j.isNone then .ready else .done,pending:=j }) },?_,?_⟩
     .simp only[Instr.endRound,Sem.run_bind,hg,Result.andThen_ok,e3];rfl
     .have E:fr c2 { d with heap:=d.heap.setIfInBounds L.b (.loop { i with state:=if j.isNone then .ready else .done,pending:=j }) } (.bool j.isNone) (.b !b.stop):=by
       have:D.b (!b.stop)=D.val (.bool j.isNone):=by rw[C]
       rw[this];exact .val _
      have fG:Step s.H.length c s.H w c2 (b.st.H.set v (.gM rf e b.yO)) { d with heap:=d.heap.setIfInBounds L.b (.loop { i with state:=if j.isNone then .ready else .done,pending:=j }) }:=
       (R.trans (k2.trans (Ch.trans e2 EI) (Nat.le_refl _)) K)
      refine k b e c2 _ _ S z (Nat.le_trans K EI) (hs.next e1.ft fG hd E) fG
    cases b with
    | norm U=>exact key none ⟨rfl,rfl⟩ rfl
    | ret U=>exact key (some .ret) ⟨rfl,rfl⟩ rfl
    | exit id U=>exact key (some (.exit id)) ⟨rfl,rfl⟩ rfl
theorem aao{s:St}(hs:kr G N c w s a){rf:Nat}{ps:Array Tmp}{ac bc:Code}(m:G.rt rf=some (N,ps,ac,bc))(live:List Nat)(fn:FuncId) :
  ∃(c2:Ctx) (w2:World) (g f:Loc),(Instr.enterLoop fn a.tmps ps ac bc none).run P w = .ok (f.b,[{ target:=.collected g.b,args:=#[] }]) w2/\g.jg=false/\f.jg=false /\
   c2.ι s.H.length 0=some g/\c2.ι (s.H.length+1) 0=some f/\fO G c2 (s.H ++ [.km,.gM rf (forget live s.env) .ready]) w2/\Step s.H.length c s.H w c2 (s.H ++ [.km,.gM rf (forget live s.env) .ready]) w2:=by
 obtain⟨d,_,b⟩:=LM hs.ft (mj.last s.H) (.deferred (some [])) .km rfl rfl (λ_ e=>by simp only[gA];exact .inr e);simp only[Al.last]at d b;generalize k:c.set s.H.length 0 ⟨w.heap.size,0,0,false⟩=c1 at d b;have l:c1.ι s.H.length 0=some ⟨w.heap.size,0,0,false⟩:=by rw[<-k];exact Ctx.qJ _ _ _ _
 generalize h:w.alloc (.deferred (some []))=w1 at d b;have p:w1.heap.size=w.heap.size+1:=by rw[<-h];simp
 have o:(s.H ++ [Ob.km]).length=s.H.length+1:=by simp
 obtain⟨mw,_,i⟩:=LM d (mj.last (s.H ++ [.km])) (.loop { state:=.ready,pending:=none,fn:=fn,tmps:=a.tmps,params:=ps,assign:=ac,body:=bc,defers:=w.heap.size }) (.gM rf (forget live s.env) .ready) rfl rfl (λn e=>by
  simp only[gA];refine⟨trivial,_,e,λj=>n _ _ ((BC hs.env live j).oW hs.ft.toHeapOK b),⟨N,?_,hs.size⟩,rfl,rfl⟩
  rw[<-m,<-d.rt];rfl)
 simp only[Al.last,o,aM,eY]at mw i;refine⟨_,_,⟨w.heap.size,0,0,false⟩,⟨w1.heap.size,0,0,false⟩,?_,rfl,rfl,?_,Ctx.qJ _ _ _ _,mw,b.trans i (by omega)⟩
 .subst h;simp[Instr.enterLoop]
 .rw[Ctx.uG _ _ (by omega)];exact l
theorem ak3{s:St}{n:Nat}{Q:Exit->Act->World->Prop}(hs:kr G N c w s a){g:Operand}{X:X}(hx:cX G g=some X){f:FuncId}{first cap:List D}(py:ev s.env.get X = .fn (.func f) first cap)
  (jT:rz P f=true) {rf:Nat} {ps:Array Tmp} {ac bc:Code} (tU:G.rt rf=some (N,ps,ac,bc)) {live:List Nat} {R1:D->U->Prop} {R:Out->Prop}
  (iT:tE P G f (first ++ [.iw (s.H.length+1)]++cap) (s.H ++ [.km,.gM rf (forget live s.env) .ready]) R1)
  (k:∀d H',R1 d H'->∃env st o,H'[s.H.length+1]? = some (.gM rf env st)/\AJ { s with H:=H'.set (s.H.length+1) .dead,marks:=s.H.length::s.marks } st=some o/\R o)
  (V:vO G N s.H.length s.gW c s.H w R Q):(Code.rangeFunc g ps ac bc).wpIn (FW none) n P Q a w:=by
 refine wpIn_rangeFunc λfn _=>?_;obtain⟨c2,w2,F,l,a0,nj,ot,O,A,mw,Vj⟩:=aao (P:=P) hs tU live fn;have Ve:∀u d,fr c w u d->fr c2 w2 u d:=λu d hd=>hd.oW hs.ft.toHeapOK Vj;have T:=ia hs.ft hs.env hx;rw[py]at T;generalize hu:a.eval g=u at T
 cases T with
 | fn _ fs cs _ _ q1 q2 q3 q4=>
  have a':fr c2 w2 (.func (.yield l.b) #[] #[]) (.iw (s.H.length+1)):=.iw _ l A ot
  have gR:iR c2 w2 (fs ++ [Value.func (.yield l.b) #[] #[]]++cs) (first ++ [.iw (s.H.length+1)]++cap):=
   ((iR.FJ q1 λi v d h1 E=>Ve _ _ (q3 i v d h1 E)).append (.cons a' .nil)).append (iR.FJ q2 λi v d h1 E=>Ve _ _ (q4 i v d h1 E))
  have Ce:(resolve a.eval (rangeCall g l.b) 0).run P w2 = .ok { target:=.fn (.func f) cs.toArray,args:=fs.toArray ++ #[Value.func (.yield l.b) #[] #[]] } w2:=by simp[resolve,hu,Deferred.ofValue];rfl
  have C:(invoke (.fn (.func f) cs.toArray) (fs.toArray ++ #[Value.func (.yield l.b) #[] #[]])).run P w2 = .ok (.enter f (fs ++ [Value.func (.yield l.b) #[] #[]]++cs).toArray) w2:=by have E:=Mi (P:=P) jT (fs ++ [Value.func (.yield l.b) #[] #[]]++cs).toArray w2;simpa[invoke]using E
  have KZ:=iT c2 w2 _ mw gR
  have j':CallsIn (FW none) (n-1) P f (fs ++ [Value.func (.yield l.b) #[] #[]]++cs).toArray w2 (rangePost (FW none) n P l.b Q { a with defers:=[{ target:=.collected F.b,args:=#[] }]++a.defers }):=by
   refine DO.2 (KZ.mono ?_);rintro e m ⟨v,t,d,M,rfl,hR,r,U',_,Ch⟩;obtain⟨env,st,q,ky,B,Oh⟩:=k d M hR;have I:(s.H ++ [Ob.km,Ob.gM rf (forget live s.env) .ready]).length=s.H.length+2:=by simp
   have O:t.ι s.H.length 0=some F:=Ch.old _ 0 F (by rw[I];omega) O;have A:t.ι (s.H.length+1) 0=some l:=Ch.old _ 0 l (by rw[I];omega) A;have J:=U'.ob _ _ ky;simp only[Ob.gen]at J;rw[A]at J;simp only[gA]at J;obtain⟨_,p,S,_,_,y⟩:=J;have e1:l.b<m.heap.size:=(aJ.1 S).1;obtain⟨m1,m2⟩:=Ta (w':={ m with heap:=m.heap.setIfInBounds l.b (.loop { p with state:=.exhausted }) }) U' ky rfl A ot ⟨rfl,Nat.le_refl _⟩ rfl rfl (by simp) (λb hb=>by rw[cA (cF hb)])
   have z:Step s.H.length c s.H w t (M.set (s.H.length+1) .dead) { m with heap:=m.heap.setIfInBounds l.b (.loop { p with state:=.exhausted }) }:=
    Vj.trans (Ch.trans m2 r) (by rw[I];omega)
   have K:kr G N t { m with heap:=m.heap.setIfInBounds l.b (.loop { p with state:=.exhausted }) } { s with H:=M.set (s.H.length+1) .dead,marks:=s.H.length::s.marks } { a with defers:=[{ target:=.collected F.b,args:=#[] }]++a.defers }:=by
    refine⟨m1,λj=>(hs.env j).oW hs.ft.toHeapOK z,hs.size,.cons F O nj (hs.marks.mono λv L h=>z.old v 0 L ?_ h)⟩;rcases bw v s.H.length with Z|Z
    .exact Z
    .rw[hs.ft.out v 0 Z]at h;cases h
   have U7:p.state≠.busy:=by
    cases st with
    | busy=>cases B
    | ready=>rw[y.1];decide
    | zh=>rw[y.1];decide
    | xQ=>rw[y.1];decide
   have UP:(Instr.endLoop l.b).run P m = .ok p.pending { m with heap:=m.heap.setIfInBounds l.b (.loop { p with state:=.exhausted }) }:=by
    have hg:(Instr.getLoop l.b).run P m = .ok p m:=by have:m.heap[l.b]? = some (.loop p):=S;simp[Instr.getLoop,getObj,Sem.run,this]
    have tg:(setObj l.b (.loop { p with state:=.exhausted })).run P m = .ok () { m with heap:=m.heap.setIfInBounds l.b (.loop { p with state:=.exhausted }) }:=by have:m.heap[l.b]? = some (.loop p):=S;simp[setObj,Sem.run,this]
    have Y:(p.state == .busy)=false:=by generalize p.state=x at U7;cases x<;>first|rfl|exact absurd rfl U7
    simp only[Instr.endLoop,Sem.run_bind,hg,Result.andThen_ok,Y,tg];simp[tg]
   generalize ({ m with heap:=m.heap.setIfInBounds l.b (.loop { p with state:=.exhausted }) }:World)=W at K z UP;refine⟨p.pending,W,UP,?_⟩
   have OU:s.H.length<=(M.set (s.H.length+1) .dead).length:=by rw[I]at r;simp;omega
   cases st with
   | busy=>cases B
   | ready=>
    cases B;rw[y.2];exact V _ t _ _ Oh rfl OU K z
   | zh=>
    cases B;rw[y.2];exact wpIn_ret (V _ t _ _ Oh rfl OU K z)
   | xQ id=>
    cases B;rw[y.2];exact wpIn_exit (V _ t _ _ Oh rfl OU K z)
  exact⟨l.b,_,w2,_,w2,f,_,w2,a0,Ce,λ_ _=>trivial,C,λh=>by simp[Fence.wide]at h,j'⟩

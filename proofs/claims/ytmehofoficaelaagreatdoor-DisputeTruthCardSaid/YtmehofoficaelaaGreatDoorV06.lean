/- Part 6 of DisputeTruth. -/
import Derived.Shelf.SlSortCmp.NoneTotal
import Derived.Test.YtmehofoficaelaaGreatDoorV05
set_option linter.all false
namespace Go.AL
open Go Go.Proofs Go.Shelf Go.RowKit Go.Lib Go.Sort
structure xl(P:Program)(f:FuncId)(sz:Nat):Prop where
 pos:0<sz
 full:∀(α:Type) [Inhabited α] (enc:α->List Value) (_:∀x,(enc x).length=sz) (_:∀x,∀v∈enc x,v.oneCell'=true) (cf:α->α->Int) (_:SWO (ltOf cf)) (g lG off cap:Nat) (d:Array α) (w:World)
  (_:∀args w,(callFunc g args).run P w = .ok (.enter g args) w) (_:CmpLays P g #[] enc sz cf lG off d.size w) (_:HoldsK enc sz w lG off d) (_:lG<w.heap.size) (_:d.size<4611686018427387904),
  Calls P f #[.slice (some ⟨lG,off,none⟩) d.size cap,.func (.func g) #[] #[]] w λe w'=>e = .returned (.tuple #[])/\∃d' n os,PermIn 0 d.size d d'/\SortedIn (ltOf cf) 0 d.size d'/\w'=sortWorldK enc sz w lG off n d' os
 none:∀(p:Option Addr) (cap:Nat) (fv:Value) (w:World),Calls P f #[.slice p 0 cap,fv] w λe w'=>e = .returned (.tuple #[])/\w'=w
theorem xl.of{P:Program}{ρ:Ren}(L:SlLaysF0.n6 P ρ){k:Nat}(b:0<k)(c:∀w,(isAgg (ρ.t 24)).run P w = .ok true w)(a:∀w,(Go.sizeOf (ρ.t 24)).run P w = .ok k w):xl P (ρ.f 6) k where
 pos:=b
 full α _ enc h1 h2 cf hO g lG off cap d w eg hc hH hb hs:=AnyQ.slices_SortFunc L k c a enc h1 h2 cf hO g #[] lG off cap d w eg hc hH hb hs
 none:=AnyF.slices_SortFunc_none L
section
variable{P:Program}{G:GT}{c:Ctx}{H:U}{w:World}{α:Type}
structure El(c:Ctx)(w:World)(fc:α->List D)(l:List α) where
 vs:List Value
 a:α
 mem:a∈l
 cells:Cells (c.data c.F) w vs (fc a)
theorem aaG{a:Type}[Inhabited a](enc:a->List Value)(k lG off m:Nat)(e:Array a)(os:Array Obj){b:Nat}(d:b<w.heap.size)(c:b≠lG):(sortWorldK enc k w lG off m e os).heap[b]? = w.heap[b]? := by simp only[sortWorldK,grow,putRowK,putRow,mapBlock,Go.Sort.ahead];rw[cF (by simpa using d),bf,if_neg (cu c)]
theorem acP(h:gv G c H w){W:World}(hs:w.heap.size<=W.heap.size)(d:∀b,c.F b->W.heap[b]? = w.heap[b]?):gv G (c.data c.F) [] W where
 inj v v' L L' h1:=by obtain⟨o,a,_⟩:=h1;simp at a
 lt b hb:=by obtain⟨v,L,⟨o,a,_⟩,_⟩:=hb;simp at a
 nF b hb:=by obtain⟨v,L,⟨o,a,_⟩,_⟩:=hb;simp at a
 kG b hb:=aN (h.kG b hb) hs
 out _ _ _:=rfl
 mn _ _ _ _ _:=rfl
 ob v o a:=by simp at a
 gl g cs hg:=by obtain⟨h1,f⟩:=(Md h).gl g cs hg;exact⟨h1,fR.carry (c:=c.data c.F) (c':=c.data c.F) (λ_ _ _ h=>h) (λ_ h=>h) (λb o e=>FB (d b e)) f⟩
 rt:=h.rt
theorem an5{W w':World}(h:jZ W w'):∃q a,w'=grow (W.drewN q) a:=by
 obtain⟨⟨h1,n⟩,g,f,m,e⟩:=h;refine⟨w'.drawn-W.drawn,w'.heap.extract W.heap.size w'.heap.size,?_⟩
 cases w' with
 | mk l tp dr o k=>
  cases W with
  | mk b c j o' d=>
   simp only at *;subst h1 g f;simp only[grow,World.drewN];congr 1
   .apply Array.ext_getElem?;intro i;rcases bE i b.size with hi|hi
    .rw[cF hi,e i hi]
    .rw[Array.getElem?_append_right hi,Array.getElem?_extract];split
     .congr 1;omega
     .exact dW (by omega)
   .omega
theorem ju.two{c:Ctx}{w:World}{vs:List Value}{d e:D}(h:ju c w vs [d,e]):∃u v,vs = [u,v]/\fR c w u d/\fR c w v e:=by
 cases h with
 | cons h1 h=>cases h with
  | cons a h=>cases h;exact⟨_,_,rfl,h1,a⟩
theorem anD{f g:FuncId}{sz:Nat}(hS:xl P f sz){x:D}{R:D->U->Prop}(k:R (.tup []) H):uP P G f [.fX,x] H R:=by intro c w vs fV b;obtain⟨u,v,rfl,h1,h⟩:=ju.two b;cases h1;refine(hS.none none 0 v w).mono ?_;rintro e w' ⟨rfl,rfl⟩;exact⟨_,c,_,H,rfl,k,Nat.le_refl _,fV,.tup [] [] rfl (λi v d a=>by simp at a),Step.refl _ _ _ _⟩
theorem anE{f g:FuncId}{sz:Nat}(hS:xl P f sz)(hg:sF P g=true)(fc:α->List D)(l:List α)(hl:∀a∈l,(fc a).length=sz)(gG:∀a∈l,gw (fc a)=true)(h0:0<l.length)(wG:l.length<4611686018427387904)
  (q:α->α->Int) (D2:∀x∈l,¬q x x<0) (tr:∀x∈l,∀y∈l,∀z∈l,q x y<0->q y z<0->q x z<0) (nt:∀x∈l,∀y∈l,∀z∈l,¬q x y<0->¬q y z<0->¬q x z<0)
  (hc:∀x∈l,∀y∈l,uP P G g [.agg (fc x),.agg (fc y)] [] λd _=>d = .i (q x y)) {v gen:Nat} {t:TypeId} (Q:H[v]? = some (.row t gen (l.map fc).flatten)) {R:D->U->Prop}
  (k:∀l':List α,l'.Perm l->l'.Pairwise (λx y=>¬q y x<0)->R (.tup []) (H.set v (.row t gen (l'.map fc).flatten))) :
  uP P G f [.fM v gen sz 0 l.length,.fn (.func g) [] []] H R:=by
 have M:=hS.pos;intro c w vs fV A;obtain⟨u,v1,rfl,h1,h2⟩:=ju.two A;clear A;have hn:l.length=l.length:=rfl;revert hn;generalize hN:l.length=N at h1;intro hn
 have od:v1 = .func (.func g) #[] #[]:=by
  cases h2 with
  | fn _ fs cs df dc jR jy _ _=>
   have p:fs = []:=ay.1 jR;have I:cs = []:=ay.1 jy;subst p;subst I;rfl
 subst od;clear h2
 cases h1 with
 | mh=>omega
 | fM _ _ _ _ _ cap L gf ic jV iR mo=>
 have X:=fV.ob v _ Q;simp only[Ob.gen]at X;rw[gf]at X;simp only[gV,ic]at X;obtain⟨arr,O,G0,E,oZ⟩:=X
 have ka:(l.map fc).flatten.length=N*sz:=by rw[MC sz _ (by simpa using hl),List.length_map,hN]
 rw[ka]at E;have wN:l7 c H L.b:=⟨v,L,⟨_,Q,rfl,gf⟩,ic,rfl⟩;have S:=fV.lt _ wN
 have C:∀i,i<N->L.base+i*sz+sz<=arr.size:=λi hi=>by have:(i+1)*sz<=N*sz:=br _ hi;rw[cA]at this;omega
 let mk:Fin l.length->El c w fc l:=λi=>{
  vs:=(arr.toList.drop (L.base+i.val*sz)).take sz
  a:=l[i.val]
  mem:=bP _
  cells:=by
   have hi:i.val<N:=by rw[<-hN];exact i.isLt
   have hm:=C _ hi;have zu:(fc l[i.val]).length=sz:=hl _ (bP _)
   have jo:∀r,r<sz->∃y d,((arr.toList.drop (L.base+i.val*sz)).take sz)[r]? = some y/\(fc l[i.val])[r]? = some d/\y.oneCell'=true/\fR c w y d:=λr A=>by
    have J:(l.map fc).flatten[i.val*sz+r]? = (fc l[i.val])[r]? := by rw[MB sz M _ (by simpa using hl),show(i.val*sz+r) / sz=i.val from by rw[dK,Nat.mul_add_div M,Nat.div_eq_of_lt A];rfl,show(i.val*sz+r) % sz=r from by rw[dK,Nat.mul_add_mod,eZ A]];simp
    have s:(fc l[i.val])[r]? = some (fc l[i.val])[r]:=List.getElem?_eq_getElem (by omega);obtain⟨y,tB,G2,a1⟩:=oZ (i.val*sz+r) _ (J.trans s);refine⟨y,_,?_,s,G2,a1⟩;rw[aF,if_pos A,aI,bA,<-tB];congr 1;omega
   have rY:((arr.toList.drop (L.base+i.val*sz)).take sz).length=sz:=by simp;omega
   refine⟨by rw[rY,zu],λy B=>?_,λr y d B J=>?_⟩
   .obtain⟨r,A⟩:=aC.1 B;have Z:r<sz:=by have:=(ae.1 A).1;omega
    obtain⟨y',d,p,_,e3,_⟩:=jo r Z;rw[A]at p;cases p;exact e3
   .have Z:r<sz:=by have:=(ae.1 B).1;omega
    obtain⟨y',d',p,I,_,e4⟩:=jo r Z;rw[B]at p;cases p;rw[J]at I;cases I
    exact fR.closed (c:=c) (c':=c.data c.F) (λb F=>F) e4 (xA (gG _ (bP _)) J) }
 haveI:Inhabited (El c w fc l):=⟨mk ⟨0,h0⟩⟩
 let enc:El c w fc l->List Value:=λe=>e.vs
 let d:Array (El c w fc l):=Array.ofFn mk
 have K:d.size=N:=by simp[d,hN]
 have iA:∀x:El c w fc l,(enc x).length=sz:=λx=>by rw[show enc x=x.vs from rfl,x.cells.len,hl _ x.mem]
 have GK:∀x:El c w fc l,∀y∈enc x,y.oneCell'=true:=λx y B=>x.cells.one y B
 have a4:d.toList.map (λe=>e.a)=l:=by
  apply bT;intro i;simp only[d,av,bA,Array.getElem?_ofFn]
  by_cases hi:i<l.length
  .simp[hi,mk]
  .simp[hi]
 have hO:SWO (ltOf λx y:El c w fc l=>q x.a y.a):=by
  refine⟨λx=>?_,λx y z=>?_,λx y z=>?_⟩
  .simpa[ltOf]using D2 x.a x.mem
  .simpa[ltOf]using tr x.a x.mem y.a y.mem z.a z.mem
  .simpa[ltOf]using nt x.a x.mem y.a y.mem z.a z.mem
 have xL:∀j,w.cell? ⟨L.b,j,none⟩=arr[j]? := λj=>by simp[World.cell?,O]
 have hH:HoldsK enc sz w L.b (L.base+0*sz) d:=by
  intro j hj;have T:j<N*sz:=by simpa[K]using hj
  have hq:j / sz<N:=Nat.div_lt_of_lt_mul (by rw[dK];exact T);have A:j % sz<sz:=Nat.mod_lt _ M;have hm:=C _ hq;have Gp:j / sz*sz+j % sz=j:=by rw[dK];exact Nat.div_add_mod j sz
  rw[get_flatK _ _ _ _ (by rw[K];exact T)];refine⟨?_,?_⟩
  .have p:d[j / sz]! = mk ⟨j / sz,by omega⟩:=by rw[getElem!_pos d (j / sz) (by omega)];simp[d]
   rw[xL,p];show _=some (id ((arr.toList.drop (L.base+j / sz*sz)).take sz)[j % sz]!);rw[getElem!_pos _ (j % sz) (by simp;omega),List.getElem_take,List.getElem_drop,Array.getElem_toList,b9 (by omega)];simp only[id];congr 2;omega
  .simp[World.frozen?,O]
 have b':CmpLays P g #[] enc sz (λx y:El c w fc l=>q x.a y.a) L.b (L.base+0*sz) d.size w:=by
  intro m os dk _ x y;have hW:∀b,c.F b->(sortWorldK enc sz w L.b (L.base+0*sz) m dk os).heap[b]? = w.heap[b]? := λb F=>aaG _ _ _ _ _ _ _ (fV.kG b F) λe=>fV.nF _ wN (e▸F);have r7:gv G (c.data c.F) [] (sortWorldK enc sz w L.b (L.base+0*sz) m dk os):=acP fV (size_sortWorldK_c _ _ _ _ _ _ _ _) hW
  have tz:∀x:El c w fc l,fR (c.data c.F) (sortWorldK enc sz w L.b (L.base+0*sz) m dk os) (.agg (enc x).toArray) (.agg (fc x.a)):=λx=>
   .agg _ _ x.cells.len x.cells.one λi y d B J=>fR.carry (c:=c.data c.F) (c':=c.data c.F) (λ_ _ _ h=>h) (λ_ h=>h) (λb o hF=>FB (hW b hF)) (x.cells.rep i y d B J)
  have:=hc x.a x.mem y.a y.mem _ _ _ r7 (.cons (tz x) (.cons (tz y) .nil));rw[show(#[Value.agg (enc x).toArray,Value.agg (enc y).toArray] ++ #[]:Array Value) = [Value.agg (enc x).toArray,Value.agg (enc y).toArray].toArray by simp];refine Calls.mono this ?_;rintro e w' ⟨u,c',d',H',he,rfl,_,_,hu,gh⟩;cases hu;exact⟨he,an5 (AX gh)⟩
 have eg:∀args w,(callFunc g args).run P w = .ok (.enter g args) w:=Ol hg;have jw:=hS.full (El c w fc l) enc iA GK _ hO g L.b (L.base+0*sz) cap d w eg b' hH S (by omega);rw[K]at jw;refine jw.mono ?_;rintro e w' ⟨rfl,d',n,os,⟨r8,_,nk⟩,b0,rfl⟩;have W:d'.size=N:=by rw[r8,K]
 have b1:(d'.toList.map λe=>e.a).Perm l:=by
  refine List.Perm.trans (List.Perm.map _ ?_) (List.Perm.of_eq a4);have p:(d'.extract 0 N).toList=d'.toList:=by rw[<-W];simp
  have I:(d.extract 0 N).toList=d.toList:=by rw[<-K];simp
  rw[p,I]at nk;exact nk
 have a2:(d'.toList.map λe=>e.a).Pairwise λx y=>¬q y x<0:=by
  rw[eV,bG];intro i j hi hj Bp;have V:i<d'.size:=by simpa using hi
  have T:j<d'.size:=by simpa using hj
  have:=b0 i j (Nat.zero_le _) Bp (by omega);rw[getElem!_pos d' j T,getElem!_pos d' i V]at this;simpa[ltOf]using this
 have Bs:((d'.toList.map λe=>e.a).map fc).flatten.length=N*sz:=by
  rw[MC sz _ (λx s=>?_)]
  .simp[W]
  .simp only[ao]at s;obtain⟨a,⟨e,_,rfl⟩,rfl⟩:=s;exact hl _ e.mem
 have hF:(flatK enc sz d').size=N*sz:=by rw[size_flatK,W]
 have h9:N*sz<=arr.size-L.base:=by omega
 obtain⟨w1,w2⟩:=EH fV Q gf ic O (putCells id (L.base+0*sz) (flatK enc sz d') arr) (by simp[putCells]) G0 ((d'.toList.map λe=>e.a).map fc).flatten (by rw[Bs];exact E) (λi dd hi=>by
  have V:i<N*sz:=by rw[<-Bs];exact(ae.1 hi).1
  have hq:i / sz<N:=Nat.div_lt_of_lt_mul (by rw[dK];exact V);have A:i % sz<sz:=Nat.mod_lt _ M;have s:=d'[i / sz].cells
  rw[MB sz M _ (λx s=>by
   simp only[ao]at s;obtain⟨a,⟨e,_,rfl⟩,rfl⟩:=s
   exact hl _ e.mem)]at hi
  have p:(List.map fc (List.map (λe=>e.a) d'.toList))[i / sz]? = some (fc d'[i / sz].a):=by simp only[av,bA];rw[b9 (by omega)];rfl
  rw[p,Option.bind_some]at hi;have iG:(d'[i / sz].vs).length=sz:=iA d'[i / sz];have I:(d'[i / sz].vs)[i % sz]? = some (d'[i / sz].vs)[i % sz]:=List.getElem?_eq_getElem (by omega);refine⟨(d'[i / sz].vs)[i % sz],?_,s.one _ (bP _),fR.closed (c:=c.data c.F) (c':=c) (λb F=>F) (s.rep _ _ _ I hi) (xA (gG _ d'[i / sz].mem) hi)⟩;rw[putCells,dy,b9 (by omega),aG,if_pos ⟨by omega,by rw[hF];omega⟩];rw[show L.base+i-(L.base+0*sz)=i by omega,get_flatK _ _ _ _ (by rw[W];exact V),getElem!_pos d' (i / sz) (by omega)];show some (id (d'[i / sz].vs)[i % sz]!)=_
  rw[getElem!_pos _ (i % sz) (by omega)];rfl)
 have zq:jZ (w.setRow L.b (putCells id (L.base+0*sz) (flatK enc sz d') arr)) (sortWorldK enc sz w L.b (L.base+0*sz) n d' os):=by
  refine⟨⟨rfl,fe _ _⟩,rfl,rfl,?_,λb F=>?_⟩
  .simp[World.setRow,sortWorldK,grow,putRowK,putRow,mapBlock,Go.Sort.ahead]
  .have um:b<w.heap.size:=by simpa[World.setRow]using F
   by_cases Y:b=L.b
   .subst Y;rw[setRow_heap w L.b arr _ t _ O];simp only[sortWorldK,grow,putRowK,putRow,mapBlock,Go.Sort.ahead];rw[cF (by simpa using um),bf,if_pos rfl,O];rfl
   .rw[aaG _ _ _ _ _ _ _ um Y];simp only[World.setRow,bf];rw[if_neg (cu Y)]
 exact⟨_,c,_,_,rfl,k _ b1 a2,by simp,w1.po zq,.tup [] [] rfl (λi v d Q=>by simp at Q),w2.trans (Cj _ zq) (Nat.le_refl _)⟩
end
end Go.AL
namespace Go.AL
open Go Go.Proofs Go.Shelf Go.RowKit Go.Lib Go.Sort
structure Av(P:Program)(f:FuncId):Prop where
 full:∀(lG off cap:Nat) (zs:List Int) (w:World) (_:Holds (Value.int .i64) w lG off zs.toArray) (_:lG<w.heap.size) (_:zs.length<4611686018427387904),
  Calls P f #[.slice (some ⟨lG,off,none⟩) zs.length cap] w λe w'=>e = .returned (.tuple #[])/\∃n os,w'=grow (putRow (Value.int .i64) (Go.Sort.ahead w n) lG off (zs.mergeSort λx y=>decide (x<=y)).toArray) os
section
variable{P:Program}{G:GT}{c:Ctx}{H:U}{w:World}
theorem anG{f:FuncId}(hS:Av P f)(l:List Int)(h0:0<l.length)(K:l.length<4611686018427387904){v gen:Nat}{t:TypeId}(m:H[v]? = some (.row t gen (l.map λn=>D.i n))){R:D->U->Prop}
  (k:R (.tup []) (H.set v (.row t gen ((l.mergeSort λx y=>decide (x<=y)).map λn=>D.i n)))):uP P G f [.fM v gen 1 0 l.length] H R:=by
 intro c w vs fV s
 cases s with
 | @cons u _ _ _ h1 s=>
 cases s;have E:l.length=l.length:=rfl;revert E;generalize hN:l.length=N at h1;intro E
 cases h1 with
 | mh=>omega
 | fM _ _ _ _ _ cap L z r jV iR mo=>
 have p:=fV.ob v _ m;simp only[Ob.gen]at p;rw[z]at p;simp only[gV,r]at p;obtain⟨arr,h,Y,g,Q⟩:=p;rw[List.length_map,hN]at g;have J:l7 c H L.b:=⟨v,L,⟨_,m,rfl,z⟩,r,rfl⟩;have o:=fV.lt _ J;have I:∀j,w.cell? ⟨L.b,j,none⟩=arr[j]? := λj=>by simp[World.cell?,h]
 have W:Holds (Value.int .i64) w L.b (L.base+0*1) l.toArray:=by
  intro j T;have B:j<l.length:=by simpa using T
  obtain⟨y,h1,h2,X⟩:=Q j (.i l[j]) (by simp[B]);cases X;refine⟨?_,by simp[World.frozen?,h]⟩;rw[I,show L.base+0*1+j=L.base+j by omega,h1];simp[B]
 have C:=hS.full L.b (L.base+0*1) cap l w W o K;rw[hN]at C;refine C.mono ?_;rintro e w' ⟨rfl,n,os,rfl⟩;generalize S:(l.mergeSort λx y=>decide (x<=y))=l' at k ⊢;have Z:l'.length=N:=by rw[<-S,eu,hN]
 obtain⟨w1,w2⟩:=EH fV m z r h (putCells (Value.int .i64) (L.base+0*1) l'.toArray arr) (by simp[putCells]) Y (l'.map λn=>D.i n) (by rw[List.length_map,Z];exact g) (λi dd hi=>by
  rw[av]at hi;obtain⟨a,F,rfl⟩:=ak.1 hi;have O:i<l'.length:=(ae.1 F).1;refine⟨.int .i64 a,?_,rfl,.val _⟩;rw[putCells,dy,b9 (by omega),aG,if_pos ⟨by omega,by simp;omega⟩];rw[show L.base+i-(L.base+0*1)=i by omega,getElem!_pos l'.toArray i (by simpa using O)];have:=(ae.1 F).2
  simp[this])
 have A:jZ (w.setRow L.b (putCells (Value.int .i64) (L.base+0*1) l'.toArray arr)) (grow (putRow (Value.int .i64) (Go.Sort.ahead w n) L.b (L.base+0*1) l'.toArray) os):=by
  refine⟨⟨rfl,fe _ _⟩,rfl,rfl,?_,λb V=>?_⟩
  .simp[World.setRow,grow,putRow,mapBlock,Go.Sort.ahead]
  .have M:b<w.heap.size:=by simpa[World.setRow]using V
   simp only[grow,putRow,mapBlock,Go.Sort.ahead];rw[cF (by simpa using M),bf]
   by_cases q:L.b=b
   .subst q;rw[setRow_heap w L.b arr _ t _ h,if_pos rfl,h];rfl
   .simp only[World.setRow,bf];rw[if_neg q,if_neg q]
 exact⟨_,c,_,_,rfl,k,by simp,w1.po A,.tup [] [] rfl (λi v d m=>by simp at m),w2.trans (Cj _ A) (Nat.le_refl _)⟩
end
end Go.AL
namespace Go.AL
open Go Go.Proofs Go.Shelf Go.RowKit Go.Lib Go.Sort
structure An(P:Program)(f:FuncId):Prop where
 full:∀(lG off cap i:Nat) (zs:List Int) (w:World) (_:Holds (Value.int .i64) w lG off zs.toArray) (_:zs.length<=cap) (_:cap<=9223372036854775807) (_:i<zs.length),
  Calls P f #[.slice (some ⟨lG,off,none⟩) zs.length cap,.int .i64 i,.int .i64 ((i:Int)+1)] w λe w'=>e = .returned (.slice (some ⟨lG,off,none⟩) (zs.length-1) cap)/\∃n,w'=putRow (Value.int .i64) (Go.Sort.ahead w n) lG off (zs.take i++zs.drop (i+1) ++ [0]).toArray
section
variable{P:Program}{G:GT}{c:Ctx}{H:U}{w:World}
theorem acT{f:FuncId}(hS:An P f)(l:List Int)(i:Nat)(hi:i<l.length){v gen:Nat}{t:TypeId}{zs:List D}(B:H[v]? = some (.row t gen (l.map (λn=>D.i n)++zs))){R:D->U->Prop}
  (k:R (.fM v gen 1 0 (l.length-1)) (H.set v (.row t gen ((l.take i++l.drop (i+1) ++ [0]).map (λn=>D.i n)++zs)))):uP P G f [.fM v gen 1 0 l.length,.i i,.i ((i:Int)+1)] H R:=by
 intro c w vs fV g
 cases g with
 | @cons u _ _ _ h1 g=>
 cases g with
 | @cons u2 _ _ _ r g=>
 cases g with
 | @cons u3 _ _ _ p g=>
 cases g;cases r;cases p;have M:l.length=l.length:=rfl;revert M;generalize hN:l.length=N at h1;intro M
 cases h1 with
 | mh=>omega
 | fM _ _ _ _ _ cap L s q jV K W=>
 have x:=fV.ob v _ B;simp only[Ob.gen]at x;rw[s]at x;simp only[gV,q]at x;obtain⟨arr,o,G0,d,F⟩:=x;rw[aj,List.length_map,hN]at d;have T:l7 c H L.b:=⟨v,L,⟨_,B,rfl,s⟩,q,rfl⟩;have O:=fV.lt _ T;have S:∀j,w.cell? ⟨L.b,j,none⟩=arr[j]? := λj=>by simp[World.cell?,o]
 have hH:Holds (Value.int .i64) w L.b (L.base+0*1) l.toArray:=by
  intro j m;have z:j<l.length:=by simpa using m
  obtain⟨y,h1,r,p⟩:=F j (.i l[j]) (by rw[ah (by simpa using z)];simp[z]);cases p;refine⟨?_,by simp[World.frozen?,o]⟩;rw[S,show L.base+0*1+j=L.base+j by omega,h1];simp[z]
 have J:=hS.full L.b (L.base+0*1) cap i l w hH (by omega) (by unfold maxLen at K;omega) hi;rw[hN]at J k;refine J.mono ?_;rintro e w' ⟨rfl,n,rfl⟩;generalize X:l.take i++l.drop (i+1) ++ [0]=l' at k ⊢
 have Q:l'.length=N:=by rw[<-X,aj,aj,aK,aR,aV,hN];omega
 obtain⟨w1,w2⟩:=EH fV B s q o (putCells (Value.int .i64) (L.base+0*1) l'.toArray arr) (by simp[putCells]) G0 (l'.map (λn=>D.i n)++zs) (by rw[aj,List.length_map,Q];exact d) (λj dd m=>by
  by_cases I:j<l'.length
  .rw[ah (by simpa using I),av]at m;obtain⟨a,Z,rfl⟩:=ak.1 m;refine⟨.int .i64 a,?_,rfl,.val _⟩;rw[putCells,dy,b9 (by omega),aG,if_pos ⟨by omega,by simp;omega⟩];rw[show L.base+j-(L.base+0*1)=j by omega,getElem!_pos l'.toArray j (by simpa using I)];have:=(ae.1 Z).2;simp[this]
  .have C:l'.length<=j:=by omega
   rw[ai (by simpa using C),List.length_map,Q]at m;obtain⟨y,h1,r,p⟩:=F j dd (by rw[ai (by rw[List.length_map];omega),List.length_map,hN];exact m);refine⟨y,?_,r,p⟩
   rw[putCells,dy,h1,aG,if_neg (λh=>by have:=h.2;simp at this;omega)])
 have E:jZ (w.setRow L.b (putCells (Value.int .i64) (L.base+0*1) l'.toArray arr)) (putRow (Value.int .i64) (Go.Sort.ahead w n) L.b (L.base+0*1) l'.toArray):=by
  refine⟨⟨rfl,fe _ _⟩,rfl,rfl,?_,λb Y=>?_⟩
  .simp[World.setRow,putRow,mapBlock,Go.Sort.ahead]
  .have um:b<w.heap.size:=by simpa[World.setRow]using Y
   simp only[putRow,mapBlock,Go.Sort.ahead];rw[bf]
   by_cases A:L.b=b
   .subst A;rw[setRow_heap w L.b arr _ t _ o,if_pos rfl,o];rfl
   .simp only[World.setRow,bf];rw[if_neg A,if_neg A]
 have V:fR c (putRow (Value.int .i64) (Go.Sort.ahead w n) L.b (L.base+0*1) l'.toArray) (.slice (some ⟨L.b,L.base+0*1,none⟩) (N-1) cap) (.fM v gen 1 0 (N-1)):=.fM v gen 1 0 (N-1) cap L s q (by omega) K W;exact⟨_,c,_,_,rfl,k,by simp,w1.po E,V,w2.trans (Cj _ E) (Nat.le_refl _)⟩
end
end Go.AL
namespace Go.AL
open Go
def Out.ex:Out->Exit
 | .norm _=>.normal
 | .exit id _=>.exit id
 | .ret _=>.ret
def al6(A:Array Oper):List (List Nat):=A.toList.foldl (init:=[]) λa o=>
 a ++ [dedup ((o.after.toList.filter λe=>Region.binds .any e).flatMap λe=>e.on::a.getD e.on [])]
def amh(l:List gR)(ord:List (List Nat)):List (Nat×Nat):=(List.range l.length).flatMap λi=>(List.range i).filterMap λk=>
 if (ord.getD i []).contains k then none else match l[k]?,l[i]? with
  | some a,some b=>if OA a.op b.op then none else some (k,i)
  | _,_=>none
def YE:List FuncId:=[283]
def aga:iD->Bool
 | .call f _=>YE.contains f
 | .callN f _=>YE.contains f
 | _=>false
def YF(l:List gR)(ord:List (List Nat))(n:Nat):Bool:=n<l.length&&(List.range l.length).all λi=>decide (i<n)||(List.range i).all λk=>(ord.getD i []).contains k
def Vq(a:List (Nat×Nat))(l:List gR)(ord:List (List Nat)):IR:=
 let n:=l.findIdx λe=>aga e.op
 if YF l ord n then .mF a (l.take n) (l.drop n)else .lU a l
def nJ:Code->List (Array Tmp×Code×Code)
 | .seq a b=>nJ a++nJ b
 | .cond _ a b=>nJ a++nJ b
 | .block _ a=>nJ a
 | .loop a=>nJ a
 | .rangeFunc _ ps a b=>(ps,a,b)::(nJ a++nJ b)
 | _=>[]
def cC(P:Program)(G:GT)(N:Nat)(rf:Nat):List (List Nat)->Code->Option (IR×List (List Nat))
 | hs,.skip=>some (.skip,hs)
 | hs,.region _ ops false=>match ph P G N ops ops.toList with
  | some l=>some (.ops l,hs)
  | none=>some (.bad,hs)
 | hs,.region _ ops true=>match ph P G N ops ops.toList with
  | some l=>
   let ord:=al6 ops
   let d:=amh l ord
   if y7 ops&&yn ops ord&&SH l ord d then some (Vq d l ord,hs)else some (.bad,hs)
  | none=>some (.bad,hs)
 | hs,.seq a b=>match cC P G N rf hs a with
  | some (x,lM)=>match cC P G N (rf+(nJ a).length) lM b with
   | some (y,lN)=>some (.seq x y,lN)
   | none=>none
  | none=>none
 | hs,.cond c a b=>match cX G c with
  | some x=>match cC P G N rf hs a with
   | some (y,lM)=>match cC P G N (rf+(nJ a).length) lM b with
    | some (z,lN)=>some (.cond x y z,lN)
    | none=>none
   | none=>none
  | none=>some (.bad,hs)
 | hs,.block id a=>match hs with
  | l::hs=>match cC P G N rf hs a with
   | some (x,lM)=>some (.block id l x,lM)
   | none=>none
  | []=>none
 | hs,.loop a=>match hs with
  | l::hs=>match cC P G N rf hs a with
   | some (x,lM)=>some (.loop l x,lM)
   | none=>none
  | []=>none
 | hs,.rangeFunc g _ _ _=>match cX G g,hs with
  | some x,l::hs=>some (.nW rf l x,hs)
  | _,_=>some (.bad,hs)
 | hs,.exit id=>some (.exit id,hs)
 | hs,.ret=>some (.ret,hs)
 | hs,_=>some (.bad,hs)
inductive nL(P:Program)(G:GT)(N:Nat):IR->Code->Prop
 | skip:nL P G N .skip .skip
 | ops {l id A} (h:ph P G N A A.toList=some l):nL P G N (.ops l) (.region id A false)
 | lU {jz l id A} (ord:List (List Nat)) (h:ph P G N A A.toList=some l) (he:y7 A=true) (ho:yn A ord=true) (hp:SH l ord jz=true):nL P G N (.lU jz l) (.region id A true)
 | mF {jz l es id A} (ord:List (List Nat)) (h:ph P G N A A.toList=some (l++es)) (he:y7 A=true) (ho:yn A ord=true) (hp:SH (l++es) ord jz=true) (zu:∀i,l.length<=i->i<(l++es).length->∀k,k<i->k∈ord.getD i []):nL P G N (.mF jz l es) (.region id A true)
 | seq {a b x y} (h1:nL P G N x a) (h2:nL P G N y b):nL P G N (.seq x y) (.seq a b)
 | cond {c a b x y z} (hc:cX G c=some x) (h1:nL P G N y a) (h2:nL P G N z b):nL P G N (.cond x y z) (.cond c a b)
 | block {id l a x} (h:nL P G N x a):nL P G N (.block id l x) (.block id a)
 | loop {l a x} (h:nL P G N x a):nL P G N (.loop l x) (.loop a)
 | nW {rf l x g ps ac bc} (hx:cX G g=some x) (h:G.rt rf=some (N,ps,ac,bc)):nL P G N (.nW rf l x) (.rangeFunc g ps ac bc)
 | exit {id}:nL P G N (.exit id) (.exit id)
 | ret:nL P G N .ret .ret
 | bad {c}:nL P G N .bad c
def As(G:GT)(N rf:Nat)(code:Code):Prop:=∀(i:Nat) (x:Array Tmp×Code×Code),(nJ code)[i]? = some x->G.rt (rf+i)=some (N,x)
theorem As.left{G:GT}{N rf:Nat}{a b:Code}{l:List (Array Tmp×Code×Code)}(hl:l=nJ a++nJ b)(h:∀(i:Nat) (x:Array Tmp×Code×Code),l[i]? = some x->G.rt (rf+i)=some (N,x)):As G N rf a/\As G N (rf+(nJ a).length) b:=by
 subst hl;refine⟨λi x c=>h i x ?_,λi x c=>?_⟩
 .grind
 .rw[a7];exact h _ x (by rw[ai (by omega)];simpa using c)
theorem Pc{P:Program}{G:GT}{N:Nat}:∀ {code:Code} {rf:Nat} {hs f:List (List Nat)} {e:IR},As G N rf code->cC P G N rf hs code=some (e,f)->nL P G N e code:=by
 intro code
 induction code with
 | skip=>intro rf hs f e d h;simp only[cC]at h;cases h;exact .skip
 | region id A lU=>
  intro rf hs f e d h;cases lU
  .simp only[cC]at h;split at h
   .rename_i l hl;cases h;exact .ops hl
   .cases h;exact .bad
  .simp only[cC]at h;split at h
   .rename_i l hl;split at h
    .rename_i m;cases h;simp only[Bool.and_eq_true]at m;unfold Vq;dsimp only;split
     .rename_i u;unfold YF at u;simp only[Bool.and_eq_true,bM,decide_eq_true_eq,List.all_eq_true,bj,du]at u;refine .mF _ (by rw[bU];exact hl) m.1.1 m.1.2 (by rw[bU];exact m.2) λi hi v k B=>?_;rw[bU]at v;rw[aK]at hi;rcases u.2 i v with h|h
      .omega
      .exact h k B
     .exact .lU _ hl m.1.1 m.1.2 m.2
    .cases h;exact .bad
   .cases h;exact .bad
 | seq a b j o=>
  intro rf hs f e d h;obtain⟨r,q⟩:=As.left rfl d;simp only[cC]at h;split at h
  .rename_i x p n;split at h
   .rename_i y w t;cases h;exact .seq (j r n) (o q t)
   .cases h
  .cases h
 | cond c a b j o=>
  intro rf hs f e d h;obtain⟨r,q⟩:=As.left rfl d;simp only[cC]at h;split at h
  .rename_i x s;split at h
   .rename_i y p n;split at h
    .rename_i z w t;cases h;exact .cond s (j r n) (o q t)
    .cases h
   .cases h
  .cases h;exact .bad
 | block id a j=>
  intro rf hs f e d h;simp only[cC]at h;split at h
  .split at h
   .rename_i x p n;cases h;exact .block (j d n)
   .cases h
  .cases h
 | loop a j=>
  intro rf hs f e d h;simp only[cC]at h;split at h
  .split at h
   .rename_i x p n;cases h;exact .loop (j d n)
   .cases h
  .cases h
 | rangeFunc g ps a b j o=>
  intro rf hs f e d h;simp only[cC]at h;split at h
  .rename_i x l p s;cases h;exact .nW s (d 0 _ rfl)
  .cases h;exact .bad
 | exit id=>intro rf hs f e d h;simp only[cC]at h;cases h;exact .exit
 | ret=>intro rf hs f e d h;simp only[cC]at h;cases h;exact .ret
 | _=>intro rf hs f e d h;simp only[cC]at h;cases h;exact .bad
def cR(P:Program):ResultVar->Option uR
 | .tmp t=>some (.tmp t)
 | .cell a t=>match oQ P t,kl P t with
  | some false,some _=>some (.s6 a)
  | some true,some n=>some (.Pe n a)
  | _,_=>none
def Ax(P:Program):List ResultVar->Option (List uR)
 | []=>some []
 | x::r=>match cR P x,Ax P r with
  | some a,some l=>some (a::l)
  | _,_=>none
def Ae(P:Program)(k:Nat):Option (Nat×Array Tmp×Code×Code):=match P.funcs[k / 64]? with
 | some fn=>match fn.body with
  | some code=>(nJ code)[k % 64]?.map λx=>(fn.ntmps,x)
  | none=>none
 | none=>none
theorem ams{P:Program}{G:GT}(d:G.rt=Ae P){f:Nat}{fn:Func}{code:Code}(b:P.funcs[f]? = some fn)(c:fn.body=some code)(hl:(nJ code).length<=64):As G fn.ntmps (64*f) code:=by intro i x a;have hi:i<64:=aN (ae.1 a).1 hl;rw[d];unfold Ae;rw[show(64*f+i) / 64=f by omega,show(64*f+i) % 64=i by omega,b];simp[c,a]
structure E6(P:Program)(G:GT)(f:FuncId)(fn:je):Prop where
 ex:∃func code hs gZ,P.funcs[f]? = some func/\func.body=some code/\sF P f=true/\(nJ code).length<=64/\cC P G fn.ntmps (64*f) hs code=some (fn.body,gZ)/\func.ntmps=fn.ntmps/\Ax P func.results.toList=some fn.results
structure uS(P:Program)(G:GT)(rf:Nat)(R:qb):Prop where
 ex:∃N ps ac bc,G.rt rf=some (N,ps,ac,bc)/\ps.toList=R.params/\(R.params.all λp=>decide (p<N))=true/\nL P G N R.a ac/\nL P G N R.b bc
structure OY(P:Program)(G:GT)(T:il):Prop where
 rt:G.rt=Ae P
 fn:∀f fn,T.fn f=some fn->E6 P G f fn
 round:∀rf R,T.round rf=some R->uS P G rf R
 sort:∀f sz,T.sort f=some sz->xl P f sz
 sV:∀f,T.sV f=true->Av P f
 sD:∀f,T.sD f=true->An P f
def Ly(F:Fence)(n:Nat)(P:Program)(c:Code)(Q:Exit->Act->World->Prop)(a:Act)(w:World):Prop:=
 ∀(b:Frame) (k:List Item) (cs:List Frame),b.roundOf=F.round->F.fn b.fn->F.room (cs.length+1+n) ->
  ∃e d w',Q e d w'/\ArrivesIn (Machine.fenced P F) P (lone (b.atR a (.code c :: .inLoop c::k)) cs w) b k cs e d w'
section
variable{F:Fence}{n:Nat}{P:Program}{Q:Exit->Act->World->Prop}{a:Act}{w:World}
theorem agQ{c:Code}(h:c.wpIn F n P (Exit.then (Ly F n P c Q) Q) a w):Ly F n P c Q a w:=by
 intro b k cs t m j;obtain⟨e,i,g,f,d⟩:=h b (.inLoop c::k) cs t m j
 cases e with
 | normal=>
  obtain⟨r,s,o,p,q⟩:=f b k cs t m j;exact⟨r,s,o,p,.of_steps (StepsIn.trans d (.one (fenced_calm m j rfl) stepR_inLoop)) q⟩
 | exit id=>exact⟨_,i,g,f,.pass (x:=.inLoop c) rfl (λ_ _=>.inl (by simp)) d⟩
 | goto l=>exact⟨_,i,g,f,.pass (x:=.inLoop c) rfl (λ_ _=>.inl (by simp)) d⟩
 | ret=>exact⟨_,i,g,f,.pass (x:=.inLoop c) rfl (λ_ _=>.inl (by simp)) d⟩
 | panic ch=>exact⟨_,i,g,f,.pass (x:=.inLoop c) rfl (λ_ _=>.inl (by simp)) d⟩
 | outgrown=>exact⟨_,i,g,f,.pass (x:=.inLoop c) rfl (λ_ _=>.inl (by simp)) d⟩
theorem an6{c:Code}(h:Ly F n P c Q a w):(Code.loop c).wpIn F n P Q a w:=by intro b k cs i f d;obtain⟨e,l,w',j,g⟩:=h b k cs i f d;exact⟨e,l,w',j,.of_steps (.one (fenced_calm f d rfl) stepR_loop) g⟩
end
section
variable{P:Program}{G:GT}{c:Ctx}{w:World}{a:Act}{N:Nat}
theorem O7(δ:Dl)(H:U):H.length<=(δ.app H (Al.last H)).length:=by
 cases δ with
 | no=>exact Nat.le_refl _
 | cells v o xs=>simp only[Dl.app];split<;>simp
 | obj v ob=>simp[Dl.app]
 | new ob=>simp[Dl.app,Al.last]
theorem Ou(ks:ny)(H:U):(qq ks H).length=ks.length:=by simp[qq]
theorem Zd{ks:ny}{H:U}{f:Nat->Nat}:∀ {vs:List Nat} {ds:List Deferred},rO c vs ds->(∀v∈vs,∀L,c.ι v 0=some L->(c.gd ks H).ι (f v) 0=some L)->rO (c.gd ks H) (vs.map f) ds:=by
 intro vs ds h
 induction h with
 | nil=>intro _;exact .nil
 | cons L h1 e _ b=>intro a;exact .cons L (a _ (by simp) L h1) e (b λv d=>a v (by simp[d]))
theorem aaU{n:Nat}{d:D}{v:Nat}(a:v∈ji n d):n<=v:=by cases d<;>simp only[ji]at a<;>first|(split at a<;>simp at a;omega)|(simp at a)
theorem Zq{n:Nat}{o:Ob}{v:Nat}(a:v∈oG n o):n<=v:=by
 unfold oG at a;split at a
 .obtain⟨l2,b,c⟩:=bh.1 a;obtain⟨d,_,rfl⟩:=ao.1 b;exact aaU c
 .obtain⟨l2,b,c⟩:=bh.1 a;obtain⟨d,_,rfl⟩:=ao.1 b;exact aaU c
 .cases a
theorem AE{s:St}(hs:kX G N c w s a){n:Nat}(r:n<=s.H.length)(live:List Nat) :
  ∃c',kX G N c' w (cut n live s) a/\Step n c s.H w c' (cut n live s).H w/\n<=(cut n live s).H.length:=by
 unfold cut;split
 .exact⟨c,⟨hs.fV,C3 hs.env live,hs.size,hs.marks⟩,Step.refl _ _ _ _,r⟩
 .dsimp only;generalize j:dedup _=K
  have m:∀v∈K,v∈(((forget live s.env).map λp=>ji n p.2).flatten++((s.H.take n).map (oG n)).flatten++s.marks.filter (n<=·)).filter (· < s.H.length):=λv b=>by rw[<-j]at b;exact Hz b
  have y:∀(d:D) (v:Nat),v∈ji n d->n<=v:=by intro d v b;cases d<;>simp only[ji]at b<;>first|(split at b<;>simp at b;omega)|(simp at b)
  have x:∀v∈K,n<=v:=by
   intro v b;have:=(aM.1 (m v b)).1;rcases List.mem_append.1 this with h|h
   .rcases List.mem_append.1 h with h|h
    .grind
    .obtain⟨l,hl,q⟩:=bh.1 h;obtain⟨o,_,rfl⟩:=ao.1 hl;exact Zq q
   .grind
  have e:Aq (iV n K):=Yu x (by rw[<-j];exact NS _);have t:=Tj (ks:=iV n K) hs.fV (n:=n) Ys;refine⟨c.gd (iV n K) s.H,⟨Eo hs.fV e,Vx hs.fV (C3 hs.env live),hs.size,?_⟩,t,?_⟩
  .refine Zd hs.marks λv b L g=>?_
   have u:v<s.H.length:=by
    rcases bE v s.H.length with h|h
    .exact h
    .rw[hs.fV.out v 0 h]at g;cases g
   have:∃i,iB (iV n K) v=some i:=by
    by_cases k:v<n
    .refine⟨v,S3 e ?_⟩;unfold iV;rw[ah (by simpa using k)];simp[k]
    .have f:v∈K:=by rw[<-j];refine Mi (aM.2 ⟨bB _ (aM.2 ⟨b,by simpa using fG.1 k⟩),by simpa using u⟩)
     obtain⟨i,hi⟩:=aC.1 f;refine⟨n+i,S3 e ?_⟩;unfold iV;rw[ai (by simp)];simp[hi]
   obtain⟨i,hi⟩:=this;rw[hi];simp only[aW];rw[EK hi];exact g
  .rw[Ou];simp[iV]
theorem Wu{s:St}(hs:kX G N c w s a)(S:List Nat):∃c',kX G N c' w (lW S s) a/\Step s.H.length c s.H w c' (lW S s).H w/\(lW S s).H.length=s.H.length:=by
 refine⟨c.gd (mm s.H S) s.H,⟨Eo hs.fV Ws,Vx hs.fV hs.env,hs.size,?_⟩,Tj hs.fV Wr,P4⟩
 have:=Zd (ks:=mm s.H S) (H:=s.H) (f:=id) hs.marks λv _ L b=>by
  have i:v<s.H.length:=by
   rcases bE v s.H.length with h|h
   .exact h
   .rw[hs.fV.out v 0 h]at b;cases b
  have d:=Wr (S:=S) v i;simp only[ak]at d;obtain⟨p,g,e⟩:=d;simp only[Ctx.gd,id,g,e];exact b
 simpa[lW]using this
theorem amb{n:Nat}{d:D}{v:Nat}(a:v∈Ec n d):n<=v:=by
 unfold Ec at a;split at a
 .grind
 .grind
 .simp at a
theorem zQ{H:U}(fV:gv G c H w){n:Nat}(i:n<=H.length)(own:Nat){u:Value}{d:D}(b:fR c w u d) :
  ∃c',gv G c' (leave own n H d).2 w/\fR c' w u (leave own n H d).1/\Step n c H w c' (leave own n H d).2 w/\n<=(leave own n H d).2.length:=by
 unfold leave;split
 .exact⟨c,fV,b,Step.refl _ _ _ _,i⟩
 .dsimp only;generalize e:dedup _=K
  have j:∀v∈K,n<=v:=by
   intro v a;rw[<-e]at a;have:=(aM.1 (Hz a)).1;rcases List.mem_append.1 this with h|h
   .split at h
    .simp at h
    .exact amb h
    .grind
    .grind
   .obtain⟨l,hl,g⟩:=bh.1 h;obtain⟨o,_,rfl⟩:=ao.1 hl;exact Zq g
  have f:Aq (iV n K):=Yu j (by rw[<-e];exact NS _);exact⟨c.gd (iV n K) H,Eo fV f,z8 fV 40 b,Tj fV Ys,by rw[Ou];simp[iV]⟩
theorem ag8(args:List D)(k:Nat):(tJ args).get k=(args[k]?).getD .any:=by
 have key:∀(l:List D) (i k:Nat),Env.get ((l.zipIdx i).map λp=>(p.2,p.1)) k=if k<i then .any else(l[k-i]?).getD .any:=by
  intro l
  induction l with
  | nil=>intro i k;simp[Env.get]
  | cons d l a=>
   intro i k;simp only[List.zipIdx_cons,List.map_cons,Env.wD];split
   .grind
   .grind
 have:=key args 0 k;simpa[tJ]using this
theorem ac5{vs:List Value}{args:List D}(b:ju c w vs args)(n:Nat):kK c w (tJ args).get { tmps:=vs.toArray++Array.replicate (n-vs.toArray.size) undef,defers:=[] }:=λk=>by
 rw[ag8];have hl:=b.length
 cases f:args[k]? with
 | none=>exact .any _
 | some d=>
  have a:k<vs.length:=by rw[hl];exact(ae.1 f).1
  have g:vs[k]? = some vs[k]:=by simp[a]
  have:=b.get k vs[k] d g f;simp only[aW]
  have e:(vs.toArray++Array.replicate (n-vs.toArray.size) undef).getD k undef=vs[k]:=by rw[cS,cF (by simpa using a)];simp[a]
  rw[e];exact this
theorem agJ{H:U}(h:gv G c H w){t:TypeId}(k:oQ P t=some false){x d:D}{u:Value}(j:fR c w u x)(a:wW x H=some d) :
  ∃v,(Instr.loadAt t u).run P w = .ok v w/\fR c w v d/\∃b o,u = .pointer (some ⟨b,o,none⟩):=by
 unfold wW at a;split at a
 .rename_i v g o;split at a
  .rename_i n cs m;have l:=tQ m;obtain⟨b,p,rfl,f⟩:=LX h l j;obtain⟨u,e,_,i⟩:=Om k f (d:=d) (by simpa using a);exact⟨u,e,i,b,p,rfl⟩
  .cases a
 .rename_i cs;obtain⟨b,p,rfl,_,f⟩:=yV j;obtain⟨u,e,_,i⟩:=Om k f a;exact⟨u,e,i,b,p,rfl⟩
 .cases a
theorem agK{H:U}(h:gv G c H w){t:TypeId}{n:Nat}(l:oQ P t=some true)(hs:kl P t=some n){x d:D}{u:Value}(k:fR c w u x)(a:vI n x H=some d) :
  ∃v,(Instr.loadAt t u).run P w = .ok v w/\fR c w v d/\∃b o,u = .pointer (some ⟨b,o,none⟩):=by
 unfold vI at a;split at a
 .rename_i v g o;split at a
  .rename_i r cs q;split at a
   .rename_i e;cases a;have m:=tQ q;obtain⟨b,p,rfl,i⟩:=LX h m k;obtain⟨u,f,j⟩:=Oo (n:=n) l hs i (by simp;omega);exact⟨u,f,j,b,p,rfl⟩
   .cases a
  .cases a
 .rename_i cs;split at a
  .rename_i e;cases a;obtain⟨b,p,rfl,_,i⟩:=yV k;obtain⟨u,f,j⟩:=Oo (n:=n) l hs i e;exact⟨u,f,j,b,p,rfl⟩
  .cases a
 .cases a
def BY(tmps:Array Value):ResultVar->Sem Value
 | .tmp t=>pure (tmps.getD t undef)
 | .cell a t=>do loadVar t (<-asAddr (tmps.getD a undef))
theorem amC{s:St}(hs:kX G N c w s a){x:ResultVar}{X:uR}(e:cR P x=some X){d:D}(f:Ej s X=some d) :
  ∃v,(BY a.tmps x).run P w = .ok v w/\fR c w v d:=by
 cases x with
 | tmp t=>
  cases e;simp only[Ej,aq]at f;subst f;exact⟨_,rfl,hs.env t⟩
 | cell p t=>
  have j:=hs.env p;generalize q:a.tmps.getD p undef=u at j
  have key:∀v,(Instr.loadAt t u).run P w = .ok v w->(∃b o,u = .pointer (some ⟨b,o,none⟩))->(BY a.tmps (.cell p t)).run P w = .ok v w:=by rintro v h ⟨b,o,rfl⟩;simpa[Instr.loadAt,Instr.sureAddr,asAddr,BY,q]using h
  simp only[cR]at e;split at e
  .rename_i n l m;cases e;obtain⟨v,g,i,k⟩:=agJ hs.fV l j f;exact⟨v,key v g k,i⟩
  .rename_i n l m;cases e;obtain⟨v,g,i,k⟩:=agK hs.fV l m j f;exact⟨v,key v g k,i⟩
  .cases e
theorem S2{s:St}(hs:kX G N c w s a):∀(l:List ResultVar) {xs:List uR} {ds:List D},Ax P l=some xs->uJ s xs=some ds ->
  ∃vs:List Value,(l.mapM (BY a.tmps)).run P w = .ok vs w/\ju c w vs ds
 | [],xs,ds,h1,h2=>by cases h1;cases h2;exact⟨[],rfl,.nil⟩
 | x::l,xs,ds,h1,h2=>by
  simp only[Ax]at h1;split at h1
  .rename_i X k hX j;cases h1;simp only[uJ]at h2;split at h2
   .rename_i d i h b;cases h2;obtain⟨v,f,g⟩:=amC hs hX h;obtain⟨vs,e,rC⟩:=S2 hs l j b;exact⟨v::vs,by simp[eJ,f,e],.cons g rC⟩
   .cases h2
  .cases h1
theorem amE{s:St}(hs:kX G N c w s a){func:Func}{fn:je}(k:Ax P func.results.toList=some fn.results){d:D}(g:AL.results fn s=some d) :
  ∃v,(Go.results func a.tmps).run P w = .ok v w/\fR c w v d:=by
 have e:∀vs:List Value,(func.results.toList.mapM (BY a.tmps)).run P w = .ok vs w->(Go.results func a.tmps).run P w = .ok (if h:vs.toArray.size=1 then vs.toArray[0]else .tuple vs.toArray) w:=by
  intro vs b
  have h1:(func.results.mapM (BY a.tmps)).run P w = .ok vs.toArray w:=by rw[eX,Sem.run_map,b];rfl
  have j:Go.results func a.tmps=(do let vs <-func.results.mapM (BY a.tmps);pure (if h:vs.size=1 then vs[0]else .tuple vs)):=rfl;rw[j,Sem.run_bind,h1];rfl
 unfold AL.results at g;split at g
 .rename_i d' i;cases g;obtain⟨vs,b,f⟩:=S2 hs _ k i
  cases f with
  | cons h t=>
   cases t;exact⟨_,e _ b,h⟩
 .rename_i ds l i;cases g;obtain⟨vs,b,f⟩:=S2 hs _ k i;refine⟨_,e _ b,?_⟩
  have hl:vs.toArray.size≠1:=by
   intro h1;have j:ds.length=1:=by rw[<-f.length];simpa using h1
   match ds,j with
   | [d],_=>exact l d rfl
  rw[dif_neg hl];exact .tup vs ds f.length f.get
 .cases g
end
end Go.AL
namespace Go.AL
open Go
section
variable{P:Program}{G:GT}{c:Ctx}{H:U}{w:World}{env:gL}{a:Act}{N:Nat}
theorem Vr(h:gv G c H w){v:Nat}{ob:Ob}(z:H[v]? = some ob)(O:ob.alive=true){L:Loc}(Q:c.ι v ob.gen=some L)(x:L.jG=false)
  {w':World} (F:w'.os=w.os/\w.drawn<=w'.drawn) (R:w'.tape=w.tape) (I:w'.output=w.output) (C:w'.heap.size=w.heap.size) (t:∀b,b≠L.b->w'.heap[b]? = w.heap[b]?) :
  gv G c (H.set v .dead) w'/\Step H.length c H w c (H.set v .dead) w':=by
 have s:=(ae.1 z).1;have B:lQ c H v L:=⟨ob,z,O,Q⟩;have D:l7 c H L.b:=⟨v,L,B,x,rfl⟩
 have p:∀u l,lQ c (H.set v .dead) u l->u≠v/\lQ c H u l:=by
  rintro u l ⟨o,f,y,hi⟩;rw[sj s]at f;split at f
  .cases f;cases y
  .rename_i q;exact⟨q,o,f,y,hi⟩
 have m:∀b,l7 c (H.set v .dead) b->l7 c H b:=λb ⟨u,l,hl,r⟩=>⟨u,l,(p u l hl).2,r⟩
 have hs:Step H.length c H w c (H.set v .dead) w':=
  ⟨F,R,I,by omega,rfl,λ_ h=>h,λ_ h=>.inl h,λb _ N=>t b (λe=>N (e▸D)),λ_ _ _ _ h=>h,λb i=>.inr (m b i)⟩
 have A:∀u d,fR c w u d->fR c w' u d:=λu d n=>n.pJ h.toHeapOK hs
 refine⟨{
  inj:=λu E l K h1 P=>h.inj u E l K (p _ _ h1).2 (p _ _ P).2
  lt:=λb i=>by rw[C];exact h.lt b (m b i)
  nF:=λb i=>h.nF b (m b i)
  kG:=λb i=>by rw[C];exact h.kG b i
  out:=λu k M=>h.out u k (by simpa using M)
  mn:=λu o k f j=>by
   rw[sj s]at f;split at f
   .cases f;rcases j with j|⟨j,_⟩<;>cases j
   .exact h.mn u o k f j
  ob:=λu o f=>by
   rw[sj s]at f;split at f
   .cases f;simp[gV]
   .rename_i q;refine gV.keep (c:=c) (c':=c) rfl A (λl hl J n=>t _ λe=>q (h.inj u v l L ⟨o,f,n,hl⟩ B J x e)) (h.ob u o f)
  gl:=λg cs hg=>let ⟨a,b⟩:=h.gl g cs hg;⟨a,A _ _ b⟩
  rt:=h.rt },hs⟩
theorem agB{fn:Func}{tmps:Array Value}{R:Ending->World->Prop}:∀ {ms:List Nat} {ds:List Deferred} {H H1:U} {w:World},rO c ms ds->gv G c H w->kill ms H=some H1 ->
  (∀w1,gv G c H1 w1->Step H.length c H w c H1 w1->H1.length=H.length->LeavesIn (FW none) 0 P fn tmps R [] .returning w1)->LeavesInM (FW none) 0 P fn tmps R ds .returning w:=by
 intro ms
 induction ms with
 | nil=>
  intro ds H H1 w e fV d k;cases e;cases d;exact k w fV (Step.refl _ _ _ _) rfl
 | cons v ms i=>
  intro ds H H1 w e fV d k
  cases e with
  | @cons _ _ ds L h1 h e=>
   simp only[kill]at d;split at d
   .rename_i g;have f:=fV.ob v _ g;simp only[Ob.gen]at f;rw[h1]at f;simp only[gV]at f;have a:=f.resolve_left (by simp[h]);have l:L.b<w.heap.size:=(aP.1 a).1;obtain⟨k1,k2⟩:=Vr (w':={ w with heap:=w.heap.setIfInBounds L.b (.deferred none) }) fV g rfl h1 h ⟨rfl,Nat.le_refl _⟩ rfl rfl (by simp) (λb j=>by rw[cJ (cu j)]);refine⟨by simp,.inl ⟨L.b,{ w with heap:=w.heap.setIfInBounds L.b (.deferred none) },rfl,?_,?_⟩⟩
    .simp[Instr.takeDeferred,getObj,setObj,Sem.run,a]
    .refine i e k1 d λw1 q1 q2 q3=>k w1 q1 (k2.trans q2 (by simp)) (by rw[q3];simp)
   .cases d
theorem am6(fV:gv G c H w)(q:kK c w env a){o:Oper}{m:iD}(b:nz P G o=some m){v:Nat}{args:List D}(f:yieldOf env m=some (v,args)){rf:Nat}{Q:Env}(M:H[v]? = some (.ia rf Q .ready)) :
  ∃(L:Loc) (r:Loop) (vs:List Value),c.ι v 0=some L/\L.jG=false/\w.heap[L.b]? = some (.loop r)/\ju c w vs args /\
   (vs.length=r.params.size->(execOp a.eval o).run P w = .ok (.round L.b r.fn ((r.params.zip vs.toArray).foldl (λtmps (t,a)=>tmps.setIfInBounds t a) r.tmps) r.assign r.body) w):=by
 unfold yieldOf at f;split at f
 .rename_i y j;split at f
  .rename_i v' E;cases f;obtain⟨cl,p⟩:=Vc b rfl;have S:=b;unfold nz at b;simp only[p,aA,ag]at b;obtain⟨xs,B,b⟩:=b;have I:=Ay fV q cl.args.toList B
   have F:∃x X,cl.callee = .value x/\cX G x=some X/\X=y/\xs=j:=by
    split at b
    .split at b
     .exfalso;simp only[aD,aq]at b;split at b<;>cases b
     .cases b
    .rename_i x R l;simp only[ag,aD,aq]at b;obtain⟨X,hX,O⟩:=b;cases O;exact⟨x,y,l,hX,rfl,rfl⟩
    .split at b
     .simp only[ag]at b;obtain⟨C,_,b⟩:=b;split at b
      .simp only[ag]at b;obtain⟨i,_,z,_,A,_,b⟩:=b;split at b
       .split at b
        .cases b
        .cases b
       .cases b
      .cases b
     .cases b
    .split at b
     .simp only[ag]at b;obtain⟨C,_,b⟩:=b;split at b
      .simp only[ag]at b;obtain⟨A,_,b⟩:=b;split at b
       .simp only[ag]at b;obtain⟨n,_,b⟩:=b;split at b
        .cases b
        .cases b
       .cases b
      .cases b
     .cases b
    .split at b
     .split at b
      .cases b
      .cases b
      .cases b
      .cases b
     .cases b
    .cases b
    .cases b
    .cases b
   obtain⟨x,X,l,hX,rfl,rfl⟩:=F;have h:=iE fV q hX;rw[E]at h;generalize N:a.eval x=u at h
   cases h with
   | iP _ L s J=>
    have g:=fV.ob v _ M;simp only[Ob.gen]at g;rw[s]at g;simp only[gV]at g;obtain⟨_,r,d,_⟩:=g;refine⟨L,r,_,s,J,d,I,λK=>?_⟩;have e:cl.args.map a.eval=(cl.args.toList.map a.eval).toArray:=by cases cl.args;simp
    have k:cl.args.size=r.params.size:=by simpa using K
    simp only[execOp,p,resolve,l,N,Deferred.ofValue,Sem.run_bind,Sem.run_pure,Result.andThen_ok,invoke,Instr.yield,Instr.getLoop,getObj,Sem.run,d];simp[Sem.run,d,k,e]
  .cases f
 .cases f
theorem Vw:∀(ps:List Tmp) (vs:List Value) (ds:List D) (tmps:Array Value) (a:Env),ju c w vs ds->(∀p∈ps,p<tmps.size)->(∀k,fR c w (tmps.getD k undef) (a.get k)) ->
  ∀k,fR c w (((ps.zip vs).foldl (λ(tmps:Array Value) (p:Tmp×Value)=>tmps.setIfInBounds p.1 p.2) tmps).getD k undef) ((tR ps ds a).get k)
 | [],vs,ds,tmps,a,_,_,h,k=>by simpa[tR]using h k
 | p::ps,[],ds,tmps,a,b,_,h,k=>by cases b;simpa[tR]using h k
 | p::ps,v::vs,ds,tmps,a,b,hp,h,k=>by
  cases b with
  | @cons _ d _ ds g b=>
   simp only[List.zip_cons_cons,b7,tR];refine Vw ps vs ds (tmps.setIfInBounds p v) ((p,d)::a) b (λq f=>by simpa using hp q (by simp[f])) (λj=>?_) k;have i:p<tmps.size:=hp p (by simp);simp only[Env.wD];split
   .rename_i e;subst e;have:(tmps.setIfInBounds p v).getD p undef=v:=by simp[Array.getD,i]
    rw[this];exact g
   .rename_i e
    have:(tmps.setIfInBounds p v).getD j undef=tmps.getD j undef:=by simp only[cS,cJ e]
    rw[this];exact h j
theorem Wm:∀(l:List (Tmp×Value)) (tmps:Array Value),(l.foldl (λ(tmps:Array Value) (p:Tmp×Value)=>tmps.setIfInBounds p.1 p.2) tmps).size=tmps.size
 | [],_=>rfl
 | p::l,tmps=>by simp only[b7];rw[Wm l];simp
def xh(G:GT)(N n:Nat)(iq:Bool)(c:Ctx)(H:U)(w:World)(R:Out->Prop)(Q:Exit->Act->World->Prop):Prop:=
 ∀(o:Out) (c':Ctx) (w':World) (a:Act),R o->o.st.iq=iq->n<=o.st.H.length->kX G N c' w' o.st a->Step n c H w c' o.st.H w'->Q o.ex a w'
theorem N6{s:St}(hs:kX G N c w s a){v rf:Nat}{e:Env}{st:p9}(f:s.H[v]? = some (.ia rf e st)){L:Loc}(j:c.ι v 0=some L) :
  ∃r:Loop,w.heap[L.b]? = some (.loop r)/\L.jG=false/\(∀k,fR c w (r.tmps.getD k undef) (e.get k))/\(∃M,G.rt rf=some (M,r.params,r.assign,r.body)/\M<=r.tmps.size)/\st.is r:=by
 have b:=hs.fV.ob v _ f;simp only[Ob.gen]at b;rw[j]at b;simp only[gV]at b;obtain⟨h1,r,i,h,d,g⟩:=b;rw[hs.fV.rt]at d;exact⟨r,i,h1,h,d,g⟩
theorem Z4{s:St}(hs:kX G N c w s a){v rf:Nat}{d:Env}{st st':p9}(e:s.H[v]? = some (.ia rf d st)){L:Loc}(g:c.ι v 0=some L){r:Loop}(f:w.heap[L.b]? = some (.loop r))
  (b:Loop) (h1:b.tmps=r.tmps) (p:b.params=r.params) (o:b.assign=r.assign) (n:b.body=r.body) (m:st'.is b) :
  kX G N c { w with heap:=w.heap.setIfInBounds L.b (.loop b) } { s with H:=s.H.set v (.ia rf d st') } a/\Step s.H.length c s.H w c (s.H.set v (.ia rf d st')) { w with heap:=w.heap.setIfInBounds L.b (.loop b) } /\
   (setObj L.b (.loop b)).run P w = .ok () { w with heap:=w.heap.setIfInBounds L.b (.loop b) }:=by
 obtain⟨x,i,h,u,⟨M,t,q⟩,y⟩:=N6 hs e g;rw[f]at i;cases i
 obtain⟨k1,k2⟩:=Am hs.fV e rfl rfl (ob':=.ia rf d st') rfl g h (.loop b) (λw' l j=>by
  simp only[gV];refine⟨h,b,l,λk=>by rw[h1];exact j _ _ (u k),⟨M,?_,by rw[h1];exact q⟩,m⟩
  rw[hs.fV.rt,t,p,o,n])
 exact⟨⟨k1,λk=>(hs.env k).pJ hs.fV.toHeapOK k2,hs.size,hs.marks⟩,k2,by simp[setObj,Sem.run,f]⟩
theorem af7(a:Option Nat)(l:Nat):(FW a).inRound l=FW (some l):=rfl
theorem aob{s:St}{f:Option Nat}{n:Nat}{o:Oper}{Z:iD}{next:Act->World->Prop}{Q:Exit->Act->World->Prop}(hs:kX G N c w s a)(hc:nz P G o=some Z)
  (hd:s9 N o.dst=true) {v rf:Nat} {args:List D} {e0:Env} (jP:yieldOf s.env.get Z=some (v,args)) (B:s.H[v]? = some (.ia rf e0 .ready)) {M:Nat} {ps:Array Tmp} {ac bc:Code} (u9:G.rt rf=some (M,ps,ac,bc))
  (m:args.length=ps.size) (Ng:∀p∈ps.toList,p<M) {Ra Rb:Out->Prop}
  (hA:∀(f:Option Nat) (n:Nat) (Q:Exit->Act->World->Prop) (c:Ctx) (w:World) (a:Act),kX G M c w { env:=tR ps.toList args e0,H:=s.H,iq:=true } a ->
   xh G M s.H.length true c s.H w Ra Q->ac.wpIn (FW f) n P Q a w)
  (hn:∀o,Ra o->o.stop=false/\∃g,o.st.H[v]? = some (.ia rf g .ready))
  (hB:∀s1 g,Ra (.norm s1)->s1.iq=true->s1.H[v]? = some (.ia rf g .ready)->∀(f:Option Nat) (n:Nat) (Q:Exit->Act->World->Prop) (c:Ctx) (w:World) (a:Act),kX G M c w { s1 with H:=s1.H.set v (.ia rf g .busy) } a ->
   xh G M s1.H.length true c (s1.H.set v (.ia rf g .busy)) w Rb Q->bc.wpIn (FW f) n P Q a w)
  (hm:∀o,Rb o->∃e,o.st.H[v]? = some (.ia rf e .busy))
  (k:∀(q:Out) (e:Env) (c':Ctx) (w':World) (a':Act),Rb q->q.st.H[v]? = some (.ia rf e .busy)->s.H.length<=q.st.H.length->kX G N c' w' { s with env:=put s.env o.dst (.b !q.stop),H:=q.st.H.set v (.ia rf e q.Ad) } a' ->
   Step s.H.length c s.H w c' (q.st.H.set v (.ia rf e q.Ad)) w'->next a' w'):o.wpIn (FW f) n P a w next Q:=by
 obtain⟨L,r,vs,gf,ic,u,Y,ik⟩:=am6 hs.fV hs.env hc jP B;obtain⟨r0,x,_,a3,⟨M',a4,a6⟩,a5⟩:=N6 hs B gf;rw[u]at x;cases x;rw[u9]at a4;cases a4;have iG:v<s.H.length:=(ae.1 B).1;have iA:vs.length=r.params.size:=by rw[Y.length];exact m
 refine⟨λ_ _=>trivial,?_⟩;rw[Oper.semAt_plain (FW f) a.eval o (BS hc),ik iA];refine⟨λh=>by simp[Fence.wide]at h,roundIn_of_wpIn (F:=FW f) trivial ?_⟩;rw[af7]
 have Xi:(r.params.zip vs.toArray).foldl (λtmps (t,a)=>tmps.setIfInBounds t a) r.tmps=(r.params.toList.zip vs).foldl (λ(tmps:Array Value) (p:Tmp×Value)=>tmps.setIfInBounds p.1 p.2) r.tmps:=by rw[<-Array.foldl_toList];simp
 refine hA (some L.b) _ _ c w _ ⟨hs.fV,λj=>?_,?_,.nil⟩ ?_
 .show fR c w (Array.getD ((r.params.zip vs.toArray).foldl (λtmps (t,a)=>tmps.setIfInBounds t a) r.tmps) j undef) _;rw[Xi];exact Vw _ _ _ _ _ Y (λp hp=>aN (Ng p hp) a6) a3 j
 .show M<=Array.size ((r.params.zip vs.toArray).foldl (λtmps (t,a)=>tmps.setIfInBounds t a) r.tmps);rw[Xi,Wm];exact a6
 .intro W c1 w1 x S K O X U;obtain⟨XZ,g,z⟩:=hn W S
  cases W with
  | exit=>cases XZ
  | ret=>cases XZ
  | norm s1=>
   have y:c1.ι v 0=some L:=U.old v 0 L iG gf;obtain⟨l,b1,b2,b3,_,b5⟩:=N6 X z y;have E:l.state = .ready/\l.pending=none:=b5;obtain⟨k1,k2,k3⟩:=Z4 (P:=P) (st':=.busy) X z y b1 { l with state:=.busy } rfl rfl rfl rfl rfl;refine⟨{ w1 with heap:=w1.heap.setIfInBounds L.b (.loop { l with state:=.busy }) },?_,?_⟩
   .have hg:(Instr.getLoop L.b).run P w1 = .ok l w1:=by simp[Instr.getLoop,getObj,Sem.run,b1]
    simp only[Instr.beginRound,Sem.run_bind,hg,Result.andThen_ok,k3,E.1];simp
   .refine hB s1 g S K z (some L.b) _ _ c1 _ x k1 ?_;intro b c2 d h2 R h' Gw Nl DS;obtain⟨e,A⟩:=hm b R;have J:v<s1.H.length:=aN iG O;have T:c2.ι v 0=some L:=DS.old v 0 L J y;obtain⟨i,d1,d2,d3,_,d5⟩:=N6 Nl A T
    have key:∀(j:Option Code),b.Ad.is { i with state:=if j.isNone then .ready else .done,pending:=j }->j.isNone = !b.stop->∃v w',(Instr.endRound L.b j).run P d = .ok v w'/\next (a.put o.dst v) w':=by
     intro j hj C;obtain⟨e1,e2,e3⟩:=Z4 (P:=P) (st':=b.Ad) Nl A T d1 { i with state:=if j.isNone then .ready else .done,pending:=j } rfl rfl rfl rfl hj;have hg:(Instr.getLoop L.b).run P d = .ok i d:=by simp[Instr.getLoop,getObj,Sem.run,d1]
     refine⟨.bool j.isNone,{ d with heap:=d.heap.setIfInBounds L.b (.loop { i with state:=if j.isNone then .ready else .done,pending:=j }) },?_,?_⟩
     .simp only[Instr.endRound,Sem.run_bind,hg,Result.andThen_ok,e3];rfl
     .have I:fR c2 { d with heap:=d.heap.setIfInBounds L.b (.loop { i with state:=if j.isNone then .ready else .done,pending:=j }) } (.bool j.isNone) (.b !b.stop):=by
       have:D.b (!b.stop)=D.val (.bool j.isNone):=by rw[C]
       rw[this];exact .val _
      have gh:Step s.H.length c s.H w c2 (b.st.H.set v (.ia rf e b.Ad)) { d with heap:=d.heap.setIfInBounds L.b (.loop { i with state:=if j.isNone then .ready else .done,pending:=j }) }:=
       (U.trans (k2.trans (DS.trans e2 Gw) (Nat.le_refl _)) O)
      refine k b e c2 _ _ R A (Nat.le_trans O Gw) (hs.next e1.fV gh hd I) gh
    cases b with
    | norm V=>exact key none ⟨rfl,rfl⟩ rfl
    | ret V=>exact key (some .ret) ⟨rfl,rfl⟩ rfl
    | exit id V=>exact key (some (.exit id)) ⟨rfl,rfl⟩ rfl
theorem ac4{s:St}(hs:kX G N c w s a){rf:Nat}{ps:Array Tmp}{ac bc:Code}(l:G.rt rf=some (N,ps,ac,bc))(live:List Nat)(fn:FuncId) :
  ∃(c2:Ctx) (w2:World) (g f:Loc),(Instr.enterLoop fn a.tmps ps ac bc none).run P w = .ok (f.b,[{ target:=.collected g.b,args:=#[] }]) w2/\g.jG=false/\f.jG=false /\
   c2.ι s.H.length 0=some g/\c2.ι (s.H.length+1) 0=some f/\gv G c2 (s.H ++ [.jv,.ia rf (forget live s.env) .ready]) w2/\Step s.H.length c s.H w c2 (s.H ++ [.jv,.ia rf (forget live s.env) .ready]) w2:=by
 obtain⟨d,_,b⟩:=NP hs.fV (mW.last s.H) (.deferred (some [])) .jv rfl rfl (λ_ e=>by simp only[gV];exact .inr e);simp only[Al.last]at d b;generalize o:c.set s.H.length 0 ⟨w.heap.size,0,0,false⟩=c1 at d b;have k:c1.ι s.H.length 0=some ⟨w.heap.size,0,0,false⟩:=by rw[<-o];exact Ctx.sk _ _ _ _
 generalize h:w.alloc (.deferred (some []))=w1 at d b;have p:w1.heap.size=w.heap.size+1:=by rw[<-h];simp
 have n:(s.H ++ [Ob.jv]).length=s.H.length+1:=by simp
 obtain⟨nj,_,i⟩:=NP d (mW.last (s.H ++ [.jv])) (.loop { state:=.ready,pending:=none,fn:=fn,tmps:=a.tmps,params:=ps,assign:=ac,body:=bc,defers:=w.heap.size }) (.ia rf (forget live s.env) .ready) rfl rfl (λm e=>by
  simp only[gV];refine⟨trivial,_,e,λj=>m _ _ ((C3 hs.env live j).pJ hs.fV.toHeapOK b),⟨N,?_,hs.size⟩,rfl,rfl⟩
  rw[<-l,<-d.rt];rfl)
 simp only[Al.last,n,aJ,fy]at nj i;refine⟨_,_,⟨w.heap.size,0,0,false⟩,⟨w1.heap.size,0,0,false⟩,?_,rfl,rfl,?_,Ctx.sk _ _ _ _,nj,b.trans i (by omega)⟩
 .subst h;simp[Instr.enterLoop]
 .rw[Ctx.vQ _ _ (by omega)];exact k
theorem an9{s:St}{n:Nat}{Q:Exit->Act->World->Prop}(hs:kX G N c w s a){g:Operand}{X:X}(hx:cX G g=some X){f:FuncId}{first cap:List D}(qe:ev s.env.get X = .fn (.func f) first cap)
  (kC:sF P f=true) {rf:Nat} {ps:Array Tmp} {ac bc:Code} (u9:G.rt rf=some (N,ps,ac,bc)) {live:List Nat} {R1:D->U->Prop} {R:Out->Prop}
  (jw:uP P G f (first ++ [.iP (s.H.length+1)]++cap) (s.H ++ [.jv,.ia rf (forget live s.env) .ready]) R1)
  (k:∀d H',R1 d H'->∃env st o,H'[s.H.length+1]? = some (.ia rf env st)/\z6 { s with H:=H'.set (s.H.length+1) .dead,marks:=s.H.length::s.marks } st=some o/\R o)
  (V:xh G N s.H.length s.iq c s.H w R Q):(Code.rangeFunc g ps ac bc).wpIn (FW none) n P Q a w:=by
 refine wpIn_rangeFunc λfn _=>?_;obtain⟨c2,w2,F,l,a',od,o8,O,A,nj,XX⟩:=ac4 (P:=P) hs u9 live fn;have XQ:∀u d,fR c w u d->fR c2 w2 u d:=λu d hd=>hd.pJ hs.fV.toHeapOK XX;have T:=iE hs.fV hs.env hx;rw[qe]at T;generalize hu:a.eval g=u at T
 cases T with
 | fn _ fs cs _ _ q1 q2 q3 q4=>
  have a0:fR c2 w2 (.func (.yield l.b) #[] #[]) (.iP (s.H.length+1)):=.iP _ l A o8
  have iu:ju c2 w2 (fs ++ [Value.func (.yield l.b) #[] #[]]++cs) (first ++ [.iP (s.H.length+1)]++cap):=
   ((ju.HJ q1 λi v d h1 E=>XQ _ _ (q3 i v d h1 E)).append (.cons a0 .nil)).append (ju.HJ q2 λi v d h1 E=>XQ _ _ (q4 i v d h1 E))
  have DO:(resolve a.eval (rangeCall g l.b) 0).run P w2 = .ok { target:=.fn (.func f) cs.toArray,args:=fs.toArray ++ #[Value.func (.yield l.b) #[] #[]] } w2:=by simp[resolve,hu,Deferred.ofValue];rfl
  have C:(invoke (.fn (.func f) cs.toArray) (fs.toArray ++ #[Value.func (.yield l.b) #[] #[]])).run P w2 = .ok (.enter f (fs ++ [Value.func (.yield l.b) #[] #[]]++cs).toArray) w2:=by have E:=Ol (P:=P) kC (fs ++ [Value.func (.yield l.b) #[] #[]]++cs).toArray w2;simpa[invoke]using E
  have M0:=jw c2 w2 _ nj iu
  have kI:CallsIn (FW none) (n-1) P f (fs ++ [Value.func (.yield l.b) #[] #[]]++cs).toArray w2 (rangePost (FW none) n P l.b Q { a with defers:=[{ target:=.collected F.b,args:=#[] }]++a.defers }):=by
   refine FA.2 (M0.mono ?_);rintro e m ⟨v,t,d,K,rfl,hR,r,GJ,_,DS⟩;obtain⟨env,st,q,kP,B,QB⟩:=k d K hR;have M:(s.H ++ [Ob.jv,Ob.ia rf (forget live s.env) .ready]).length=s.H.length+2:=by simp
   have O:t.ι s.H.length 0=some F:=DS.old _ 0 F (by rw[M];omega) O;have A:t.ι (s.H.length+1) 0=some l:=DS.old _ 0 l (by rw[M];omega) A;have I:=GJ.ob _ _ kP;simp only[Ob.gen]at I;rw[A]at I;simp only[gV]at I;obtain⟨_,p,S,_,_,z⟩:=I;have e1:l.b<m.heap.size:=(aP.1 S).1;obtain⟨m1,m2⟩:=Vr (w':={ m with heap:=m.heap.setIfInBounds l.b (.loop { p with state:=.exhausted }) }) GJ kP rfl A o8 ⟨rfl,Nat.le_refl _⟩ rfl rfl (by simp) (λb hb=>by rw[cJ (cu hb)])
   have y:Step s.H.length c s.H w t (K.set (s.H.length+1) .dead) { m with heap:=m.heap.setIfInBounds l.b (.loop { p with state:=.exhausted }) }:=
    XX.trans (DS.trans m2 r) (by rw[M];omega)
   have J:kX G N t { m with heap:=m.heap.setIfInBounds l.b (.loop { p with state:=.exhausted }) } { s with H:=K.set (s.H.length+1) .dead,marks:=s.H.length::s.marks } { a with defers:=[{ target:=.collected F.b,args:=#[] }]++a.defers }:=by
    refine⟨m1,λj=>(hs.env j).pJ hs.fV.toHeapOK y,hs.size,.cons F O od (hs.marks.mono λv L h=>y.old v 0 L ?_ h)⟩;rcases bE v s.H.length with Z|Z
    .exact Z
    .rw[hs.fV.out v 0 Z]at h;cases h
   have XE:p.state≠.busy:=by
    cases st with
    | busy=>cases B
    | ready=>rw[z.1];decide
    | AG=>rw[z.1];decide
    | y6=>rw[z.1];decide
   have Xh:(Instr.endLoop l.b).run P m = .ok p.pending { m with heap:=m.heap.setIfInBounds l.b (.loop { p with state:=.exhausted }) }:=by
    have hg:(Instr.getLoop l.b).run P m = .ok p m:=by have:m.heap[l.b]? = some (.loop p):=S;simp[Instr.getLoop,getObj,Sem.run,this]
    have sM:(setObj l.b (.loop { p with state:=.exhausted })).run P m = .ok () { m with heap:=m.heap.setIfInBounds l.b (.loop { p with state:=.exhausted }) }:=by have:m.heap[l.b]? = some (.loop p):=S;simp[setObj,Sem.run,this]
    have Y:(p.state == .busy)=false:=by generalize p.state=x at XE;cases x<;>first|rfl|exact absurd rfl XE
    simp only[Instr.endLoop,Sem.run_bind,hg,Result.andThen_ok,Y,sM];simp[sM]
   generalize ({ m with heap:=m.heap.setIfInBounds l.b (.loop { p with state:=.exhausted }) }:World)=W at J y Xh;refine⟨p.pending,W,Xh,?_⟩
   have Q5:s.H.length<=(K.set (s.H.length+1) .dead).length:=by rw[M]at r;simp;omega
   cases st with
   | busy=>cases B
   | ready=>
    cases B;rw[z.2];exact V _ t _ _ QB rfl Q5 J y
   | AG=>
    cases B;rw[z.2];exact wpIn_ret (V _ t _ _ QB rfl Q5 J y)
   | y6 id=>
    cases B;rw[z.2];exact wpIn_exit (V _ t _ _ QB rfl Q5 J y)
  exact⟨l.b,_,w2,_,w2,f,_,w2,a',DO,λ_ _=>trivial,C,λh=>by simp[Fence.wide]at h,kI⟩

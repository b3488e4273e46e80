/- Part 6 of DisputeLocal. -/
import Derived.Shelf.SlSortCmp.NoneTotal
import Derived.Test.YtmehofoficaelaaGreatDoorL05
set_option linter.all false
namespace Go.AL
open Go Go.Proofs Go.Shelf Go.RowKit Go.Lib Go.Sort
structure tQ(P:Program)(f:FuncId)(sz:Nat):Prop where
 pos:0<sz
 full:∀ (α:Type) [Inhabited α] (enc:α→List Value) (_:∀ x,(enc x).length=sz) (_:∀ x,∀ v∈enc x,v.oneCell'=true) (cf:α→α→Int) (_:SWO (ltOf cf)) (g l7 off cap:Nat) (d:Array α) (w:World)
  (_:∀ args w,(callFunc g args).run P w = .ok (.enter g args) w) (_:CmpLays P g #[] enc sz cf l7 off d.size w) (_:HoldsK enc sz w l7 off d) (_:l7<w.heap.size) (_:d.size<4611686018427387904),
  Calls P f #[.slice (some ⟨l7,off,none⟩) d.size cap,.func (.func g) #[] #[]] w fun e w'=>e = .returned (.tuple #[])∧∃ d' n os,PermIn 0 d.size d d'∧SortedIn (ltOf cf) 0 d.size d'∧w'=sortWorldK enc sz w l7 off n d' os
 none:∀ (p:Option Addr) (cap:Nat) (fv:Value) (w:World),Calls P f #[.slice p 0 cap,fv] w fun e w'=>e = .returned (.tuple #[])∧w'=w
def tQ.of{P:Program}{ρ:Ren}(L:SlLaysF0.n6 P ρ){k:Nat}(hk:0<k)(aE:∀ w,(isAgg (ρ.t 24)).run P w = .ok true w)(zE:∀ w,(Go.sizeOf (ρ.t 24)).run P w = .ok k w):tQ P (ρ.f 6) k where
 pos:=hk
 full α _ enc h1 h2 cf hO g l7 off cap d w eg hc hH hb hs:=AnyQ.slices_SortFunc L k aE zE enc h1 h2 cf hO g #[] l7 off cap d w eg hc hH hb hs
 none:=AnyF.slices_SortFunc_none L
section
variable{P:Program}{G:GT}{c:Ctx}{H:U}{w:World}{α:Type}
structure El(c:Ctx)(w:World)(fc:α→List D)(l:List α) where
 vs:List Value
 a:α
 mem:a∈l
 cells:Cells (c.data c.F) w vs (fc a)
def Tn{β:Type}[Inhabited β](enc:β→List Value)(k l7 off m:Nat)(dk:Array β)(os:Array Obj){b:Nat}(hb:b<w.heap.size)(hn:b≠l7):(sortWorldK enc k w l7 off m dk os).heap[b]? = w.heap[b]? := by
 simp only[sortWorldK,grow,putRowK,putRow,mapBlock,Go.Sort.ahead]
 rw[bY (by simpa using hb),bk,if_neg (dB hn)]
def Vo(h:fr G c H w){W:World}(hs:w.heap.size≤W.heap.size)(hk:∀ b,c.F b→W.heap[b]? = w.heap[b]?):fr G (c.data c.F) [] W where
 inj v v' L L' h1:=by obtain⟨o,ho,_⟩:=h1;simp at ho
 lt b hb:=by obtain⟨v,L,⟨o,ho,_⟩,_⟩:=hb;simp at ho
 nF b hb:=by obtain⟨v,L,⟨o,ho,_⟩,_⟩:=hb;simp at ho
 jY b hb:=aJ (h.jY b hb) hs
 out _ _ _:=rfl
 lC _ _ _ _ _:=rfl
 ob v o ho:=by simp at ho
 gl g cs hg:=by
  obtain⟨h1,h2⟩:=(GN h).gl g cs hg
  exact⟨h1,eW.carry (c:=c.data c.F) (c':=c.data c.F) (fun _ _ _ h=>h) (fun _ h=>h) (fun b o hF=>Bh (hk b hF)) h2⟩
 rt:=h.rt
def agS{W w':World}(h:jz W w'):∃ q os',w'=grow (W.drewN q) os':=by
 obtain⟨⟨h1,h2⟩,h3,h4,h5,h6⟩:=h
 refine⟨w'.drawn-W.drawn,w'.heap.extract W.heap.size w'.heap.size,?_⟩
 cases w' with
 | mk hp tp dr o ou=>
  cases W with
  | mk rZ tp' dr' o' ou'=>
   simp only at *
   subst h1 h3 h4
   simp only[grow,World.drewN]
   congr 1
   ·apply Array.ext_getElem?
    intro i
    rcases a8 i rZ.size with hi|hi
    ·rw[bY hi,h6 i hi]
    ·rw[Array.getElem?_append_right hi,Array.getElem?_extract]
     split
     ·congr 1;omega
     ·exact dt (by omega)
   ·omega
def iS.two{c:Ctx}{w:World}{vs:List Value}{d e:D}(h:iS c w vs [d,e]):∃ u v,vs = [u,v]∧eW c w u d∧eW c w v e:=by
 cases h with
 | cons h1 h=>cases h with
  | cons h2 h=>cases h;exact⟨_,_,rfl,h1,h2⟩
def agr{f g:FuncId}{sz:Nat}(hS:tQ P f sz){x:D}{R:D→U→Prop}(k:R (.tup []) H):sE P G f [.eU,x] H R:=by
 intro c w vs eZ hr
 obtain⟨u,v,rfl,h1,h2⟩:=iS.two hr
 cases h1
 refine(hS.none none 0 v w).mono ?_
 rintro e w' ⟨rfl,rfl⟩
 exact⟨_,c,_,H,rfl,k,Nat.le_refl _,eZ,.tup [] [] rfl (fun i v d hv=>by simp at hv),Step.refl _ _ _ _⟩
def ags{f g:FuncId}{sz:Nat}(hS:tQ P f sz)(hg:p8 P g=true)(fc:α→List D)(l:List α)(hl:∀ a∈l,(fc a).length=sz)(gj:∀ a∈l,fE (fc a)=true)(h0:0<l.length)(vD:l.length<4611686018427387904)
  (cf:α→α→Int) (zZ:∀ x∈l,¬ cf x x<0) (tr:∀ x∈l,∀ y∈l,∀ z∈l,cf x y<0→cf y z<0→cf x z<0) (nt:∀ x∈l,∀ y∈l,∀ z∈l,¬ cf x y<0→¬ cf y z<0→¬ cf x z<0)
  (hc:∀ x∈l,∀ y∈l,sE P G g [.agg (fc x),.agg (fc y)] [] fun d _=>d = .i (cf x y)) {v gen:Nat} {t:TypeId} (hv:H[v]? = some (.row t gen (l.map fc).flatten)) {R:D→U→Prop}
  (k:∀ l':List α,l'.Perm l→l'.Pairwise (fun x y=>¬ cf y x<0)→R (.tup []) (H.set v (.row t gen (l'.map fc).flatten))) :
  sE P G f [.eX v gen sz 0 l.length,.fn (.func g) [] []] H R:=by
 have jQ:=hS.pos
 intro c w vs eZ hr
 obtain⟨u,v1,rfl,h1,h2⟩:=iS.two hr
 clear hr
 have hn:l.length=l.length:=rfl
 revert hn
 generalize hN:l.length=N at h1
 intro hn
 have my:v1 = .func (.func g) #[] #[]:=by
  cases h2 with
  | fn _ fs cs df dc ji iZ _ _=>
   have e1:fs = []:=aB.1 ji
   have e2:cs = []:=aB.1 iZ
   subst e1;subst e2;rfl
 subst my
 clear h2
 cases h1 with
 | lE=>omega
 | eX _ _ _ _ _ cap L e9 gI ju ix lJ=>
 have gD:=eZ.ob v _ hv
 simp only[Ob.gen]at gD
 rw[e9]at gD
 simp only[gq,gI]at gD
 obtain⟨arr,mo,Lu,hlen,oS⟩:=gD
 have qz:(l.map fc).flatten.length=N*sz:=by
  rw[Hb sz _ (by simpa using hl),List.length_map,hN]
 rw[qz]at hlen
 have vO:ly c H L.b:=⟨v,L,⟨_,hv,rfl,e9⟩,gI,rfl⟩
 have hblk:=eZ.lt _ vO
 have hmul:∀ i,i<N→L.base+i*sz+sz≤arr.size:=fun i hi=>by
  have:(i+1)*sz≤N*sz:=bf _ hi
  rw[bR]at this
  omega
 let mk:Fin l.length→El c w fc l:=fun i=>{
  vs:=(arr.toList.drop (L.base+i.val*sz)).take sz
  a:=l[i.val]
  mem:=bF _
  cells:=by
   have hi:i.val<N:=by rw[← hN];exact i.isLt
   have hm:=hmul _ hi
   have vM:(fc l[i.val]).length=sz:=hl _ (bF _)
   have iw:∀ r,r<sz→∃ y d,((arr.toList.drop (L.base+i.val*sz)).take sz)[r]? = some y∧(fc l[i.val])[r]? = some d∧y.oneCell'=true∧eW c w y d:=fun r hr=>by
    have hd:(l.map fc).flatten[i.val*sz+r]? = (fc l[i.val])[r]? := by
     rw[Ha sz jQ _ (by simpa using hl),show(i.val*sz+r) / sz=i.val from by rw[db,Nat.mul_add_div jQ,Nat.div_eq_of_lt hr];rfl,show(i.val*sz+r) % sz=r from by rw[db,Nat.mul_add_mod,ei hr]]
     simp
    have hx:(fc l[i.val])[r]? = some (fc l[i.val])[r]:=List.getElem?_eq_getElem (by omega)
    obtain⟨y,YP,YQ,YR⟩:=oS (i.val*sz+r) _ (hd.trans hx)
    refine⟨y,_,?_,hx,YQ,YR⟩
    rw[aC,if_pos hr,aD,bn,← YP]
    congr 1;omega
   have um:((arr.toList.drop (L.base+i.val*sz)).take sz).length=sz:=by simp;omega
   refine⟨by rw[um,vM],fun y hy=>?_,fun r y d hy hd=>?_⟩
   ·obtain⟨r,hr⟩:=aG.1 hy
    have mw:r<sz:=by have:=(af.1 hr).1;omega
    obtain⟨y',d,e1,_,e3,_⟩:=iw r mw
    rw[hr]at e1;cases e1;exact e3
   ·have mw:r<sz:=by have:=(af.1 hy).1;omega
    obtain⟨y',d',e1,e2,_,e4⟩:=iw r mw
    rw[hy]at e1;cases e1
    rw[hd]at e2;cases e2
    exact eW.closed (c:=c) (c':=c.data c.F) (fun b hb=>hb) e4 (tX (gj _ (bF _)) hd) }
 haveI:Inhabited (El c w fc l):=⟨mk ⟨0,h0⟩⟩
 let enc:El c w fc l→List Value:=fun e=>e.vs
 let d:Array (El c w fc l):=Array.ofFn mk
 have pg:d.size=N:=by simp[d,hN]
 have gV:∀ x:El c w fc l,(enc x).length=sz:=fun x=>by rw[show enc x=x.vs from rfl,x.cells.len,hl _ x.mem]
 have Lb:∀ x:El c w fc l,∀ y∈enc x,y.oneCell'=true:=fun x y hy=>x.cells.one y hy
 have XF:d.toList.map (fun e=>e.a)=l:=by
  apply bM
  intro i
  simp only[d,aq,bn,Array.getElem?_ofFn]
  by_cases hi:i<l.length
  ·simp[hi,mk]
  ·simp[hi]
 have hO:SWO (ltOf fun x y:El c w fc l=>cf x.a y.a):=by
  refine⟨fun x=>?_,fun x y z=>?_,fun x y z=>?_⟩
  ·simpa[ltOf]using zZ x.a x.mem
  ·simpa[ltOf]using tr x.a x.mem y.a y.mem z.a z.mem
  ·simpa[ltOf]using nt x.a x.mem y.a y.mem z.a z.mem
 have xB:∀ j,w.cell? ⟨L.b,j,none⟩=arr[j]? := fun j=>by simp[World.cell?,mo]
 have hH:HoldsK enc sz w L.b (L.base+0*sz) d:=by
  intro j hj
  have xH:j<N*sz:=by simpa[pg]using hj
  have hq:j / sz<N:=Nat.div_lt_of_lt_mul (by rw[db];exact xH)
  have hr:j % sz<sz:=Nat.mod_lt _ jQ
  have hm:=hmul _ hq
  have BV:j / sz*sz+j % sz=j:=by rw[db];exact Nat.div_add_mod j sz
  rw[get_flatK _ _ _ _ (by rw[pg];exact xH)]
  refine⟨?_,?_⟩
  ·have e1:d[j / sz]! = mk ⟨j / sz,by omega⟩:=by
    rw[getElem!_pos d (j / sz) (by omega)];simp[d]
   rw[xB,e1]
   show _=some (id ((arr.toList.drop (L.base+j / sz*sz)).take sz)[j % sz]!)
   rw[getElem!_pos _ (j % sz) (by simp;omega),List.getElem_take,List.getElem_drop,Array.getElem_toList,b7 (by omega)]
   simp only[id]
   congr 2;omega
  ·simp[World.frozen?,mo]
 have Xz:CmpLays P g #[] enc sz (fun x y:El c w fc l=>cf x.a y.a) L.b (L.base+0*sz) d.size w:=by
  intro m os dk _ x y
  have hW:∀ b,c.F b→(sortWorldK enc sz w L.b (L.base+0*sz) m dk os).heap[b]? = w.heap[b]? := fun b hb=>Tn _ _ _ _ _ _ _ (eZ.jY b hb) fun e=>eZ.nF _ vO (e▸hb)
  have pJ:fr G (c.data c.F) [] (sortWorldK enc sz w L.b (L.base+0*sz) m dk os):=Vo eZ (size_sortWorldK_c _ _ _ _ _ _ _ _) hW
  have se:∀ x:El c w fc l,eW (c.data c.F) (sortWorldK enc sz w L.b (L.base+0*sz) m dk os) (.agg (enc x).toArray) (.agg (fc x.a)):=fun x=>
   .agg _ _ x.cells.len x.cells.one fun i y d hy hd=>eW.carry (c:=c.data c.F) (c':=c.data c.F) (fun _ _ _ h=>h) (fun _ h=>h) (fun b o hF=>Bh (hW b hF)) (x.cells.rep i y d hy hd)
  have:=hc x.a x.mem y.a y.mem _ _ _ pJ (.cons (se x) (.cons (se y) .nil))
  rw[show(#[Value.agg (enc x).toArray,Value.agg (enc y).toArray] ++ #[]:Array Value) = [Value.agg (enc x).toArray,Value.agg (enc y).toArray].toArray by simp]
  refine Calls.mono this ?_
  rintro e w' ⟨u,c',d',H',he,rfl,_,_,hu,fm⟩
  cases hu
  exact⟨he,agS (xn fm)⟩
 have eg:∀ args w,(callFunc g args).run P w = .ok (.enter g args) w:=IM hg
 have jh:=hS.full (El c w fc l) enc gV Lb _ hO g L.b (L.base+0*sz) cap d w eg Xz hH hblk (by omega)
 rw[pg]at jh
 refine jh.mono ?_
 rintro e w' ⟨rfl,d',n,os,⟨B9,_,vP⟩,YB,rfl⟩
 have nR:d'.size=N:=by rw[B9,pg]
 have Yj:(d'.toList.map fun e=>e.a).Perm l:=by
  refine List.Perm.trans (List.Perm.map _ ?_) (List.Perm.of_eq XF)
  have e1:(d'.extract 0 N).toList=d'.toList:=by rw[← nR];simp
  have e2:(d.extract 0 N).toList=d.toList:=by rw[← pg];simp
  rw[e1,e2]at vP
  exact vP
 have Yl:(d'.toList.map fun e=>e.a).Pairwise fun x y=>¬ cf y x<0:=by
  rw[List.pairwise_map,bq]
  intro i j hi hj xG
  have zG:i<d'.size:=by simpa using hi
  have xH:j<d'.size:=by simpa using hj
  have:=YB i j (Nat.zero_le _) xG (by omega)
  rw[getElem!_pos d' j xH,getElem!_pos d' i zG]at this
  simpa[ltOf]using this
 have HB:((d'.toList.map fun e=>e.a).map fc).flatten.length=N*sz:=by
  rw[Hb sz _ (fun x hx=>?_)]
  ·simp[nR]
  ·simp only[aw]at hx
   obtain⟨a,⟨e,_,rfl⟩,rfl⟩:=hx
   exact hl _ e.mem
 have hF:(flatK enc sz d').size=N*sz:=by rw[size_flatK,nR]
 have hF2:N*sz≤arr.size-L.base:=by omega
 obtain⟨w1,w2⟩:=DB eZ hv e9 gI mo (putCells id (L.base+0*sz) (flatK enc sz d') arr) (by simp[putCells]) Lu ((d'.toList.map fun e=>e.a).map fc).flatten (by rw[HB];exact hlen) (fun i dd hi=>by
  have zG:i<N*sz:=by rw[← HB];exact(af.1 hi).1
  have hq:i / sz<N:=Nat.div_lt_of_lt_mul (by rw[db];exact zG)
  have hr:i % sz<sz:=Nat.mod_lt _ jQ
  have hx:=d'[i / sz].cells
  rw[Ha sz jQ _ (fun x hx=>by
   simp only[aw]at hx
   obtain⟨a,⟨e,_,rfl⟩,rfl⟩:=hx
   exact hl _ e.mem)]at hi
  have e1:(List.map fc (List.map (fun e=>e.a) d'.toList))[i / sz]? = some (fc d'[i / sz].a):=by
   simp only[aq,bn]
   rw[b7 (by omega)];rfl
  rw[e1,Option.bind_some]at hi
  have iV:(d'[i / sz].vs).length=sz:=gV d'[i / sz]
  have e2:(d'[i / sz].vs)[i % sz]? = some (d'[i / sz].vs)[i % sz]:=List.getElem?_eq_getElem (by omega)
  refine⟨(d'[i / sz].vs)[i % sz],?_,hx.one _ (bF _),eW.closed (c:=c.data c.F) (c':=c) (fun b hb=>hb) (hx.rep _ _ _ e2 hi) (tX (gj _ d'[i / sz].mem) hi)⟩
  rw[putCells,eE,b7 (by omega),aH,if_pos ⟨by omega,by rw[hF];omega⟩]
  rw[show L.base+i-(L.base+0*sz)=i by omega,get_flatK _ _ _ _ (by rw[nR];exact zG),getElem!_pos d' (i / sz) (by omega)]
  show some (id (d'[i / sz].vs)[i % sz]!)=_
  rw[getElem!_pos _ (i % sz) (by omega)];rfl)
 have BT:jz (w.setRow L.b (putCells id (L.base+0*sz) (flatK enc sz d') arr)) (sortWorldK enc sz w L.b (L.base+0*sz) n d' os):=by
  refine⟨⟨rfl,Nat.le_add_right _ _⟩,rfl,rfl,?_,fun b hb=>?_⟩
  ·simp[World.setRow,sortWorldK,grow,putRowK,putRow,mapBlock,Go.Sort.ahead]
  ·have rU:b<w.heap.size:=by simpa[World.setRow]using hb
   by_cases s5:b=L.b
   ·subst s5
    rw[setRow_heap w L.b arr _ t _ mo]
    simp only[sortWorldK,grow,putRowK,putRow,mapBlock,Go.Sort.ahead]
    rw[bY (by simpa using rU),bk,if_pos rfl,mo]
    rfl
   ·rw[Tn _ _ _ _ _ _ _ rU s5]
    simp only[World.setRow,bk]
    rw[if_neg (dB s5)]
 exact⟨_,c,_,_,rfl,k _ Yj Yl,by simp,w1.oD BT,.tup [] [] rfl (fun i v d hv=>by simp at hv),w2.trans (Au _ BT) (Nat.le_refl _)⟩
end
end Go.AL
namespace Go.AL
open Go Go.Proofs Go.Shelf Go.RowKit Go.Lib Go.Sort
structure wU(P:Program)(f:FuncId):Prop where
 full:∀ (l7 off cap:Nat) (zs:List Int) (w:World) (_:Holds (Value.int .i64) w l7 off zs.toArray) (_:l7<w.heap.size) (_:zs.length<4611686018427387904),
  Calls P f #[.slice (some ⟨l7,off,none⟩) zs.length cap] w fun e w'=>e = .returned (.tuple #[])∧∃ n os,w'=grow (putRow (Value.int .i64) (Go.Sort.ahead w n) l7 off (zs.mergeSort fun x y=>decide (x≤y)).toArray) os
section
variable{P:Program}{G:GT}{c:Ctx}{H:U}{w:World}
def agu{f:FuncId}(hS:wU P f)(l:List Int)(h0:0<l.length)(vD:l.length<4611686018427387904){v gen:Nat}{t:TypeId}(hv:H[v]? = some (.row t gen (l.map fun n=>D.i n))){R:D→U→Prop}
  (k:R (.tup []) (H.set v (.row t gen ((l.mergeSort fun x y=>decide (x≤y)).map fun n=>D.i n)))):sE P G f [.eX v gen 1 0 l.length] H R:=by
 intro c w vs eZ hr
 cases hr with
 | @cons u _ _ _ h1 hr=>
 cases hr
 have hn:l.length=l.length:=rfl
 revert hn
 generalize hN:l.length=N at h1
 intro hn
 cases h1 with
 | lE=>omega
 | eX _ _ _ _ _ cap L e9 gI ju ix lJ=>
 have gD:=eZ.ob v _ hv
 simp only[Ob.gen]at gD
 rw[e9]at gD
 simp only[gq,gI]at gD
 obtain⟨arr,mo,Lu,hlen,oS⟩:=gD
 rw[List.length_map,hN]at hlen
 have vO:ly c H L.b:=⟨v,L,⟨_,hv,rfl,e9⟩,gI,rfl⟩
 have hblk:=eZ.lt _ vO
 have xB:∀ j,w.cell? ⟨L.b,j,none⟩=arr[j]? := fun j=>by simp[World.cell?,mo]
 have hH:Holds (Value.int .i64) w L.b (L.base+0*1) l.toArray:=by
  intro j hj
  have xH:j<l.length:=by simpa using hj
  obtain⟨y,h1,h2,h3⟩:=oS j (.i l[j]) (by simp[xH])
  cases h3
  refine⟨?_,by simp[World.frozen?,mo]⟩
  rw[xB,show L.base+0*1+j=L.base+j by omega,h1]
  simp[xH]
 have jh:=hS.full L.b (L.base+0*1) cap l w hH hblk vD
 rw[hN]at jh
 refine jh.mono ?_
 rintro e w' ⟨rfl,n,os,rfl⟩
 generalize mc:(l.mergeSort fun x y=>decide (x≤y))=l' at k ⊢
 have HB:l'.length=N:=by rw[← mc,List.length_mergeSort,hN]
 obtain⟨w1,w2⟩:=DB eZ hv e9 gI mo (putCells (Value.int .i64) (L.base+0*1) l'.toArray arr) (by simp[putCells]) Lu (l'.map fun n=>D.i n) (by rw[List.length_map,HB];exact hlen) (fun i dd hi=>by
  rw[aq]at hi
  obtain⟨a,ha,rfl⟩:=aj.1 hi
  have zG:i<l'.length:=(af.1 ha).1
  refine⟨.int .i64 a,?_,rfl,.val _⟩
  rw[putCells,eE,b7 (by omega),aH,if_pos ⟨by omega,by simp;omega⟩]
  rw[show L.base+i-(L.base+0*1)=i by omega,getElem!_pos l'.toArray i (by simpa using zG)]
  have:=(af.1 ha).2
  simp[this])
 have BT:jz (w.setRow L.b (putCells (Value.int .i64) (L.base+0*1) l'.toArray arr)) (grow (putRow (Value.int .i64) (Go.Sort.ahead w n) L.b (L.base+0*1) l'.toArray) os):=by
  refine⟨⟨rfl,Nat.le_add_right _ _⟩,rfl,rfl,?_,fun b hb=>?_⟩
  ·simp[World.setRow,grow,putRow,mapBlock,Go.Sort.ahead]
  ·have rU:b<w.heap.size:=by simpa[World.setRow]using hb
   simp only[grow,putRow,mapBlock,Go.Sort.ahead]
   rw[bY (by simpa using rU),bk]
   by_cases s5:L.b=b
   ·subst s5
    rw[setRow_heap w L.b arr _ t _ mo,if_pos rfl,mo]
    rfl
   ·simp only[World.setRow,bk]
    rw[if_neg s5,if_neg s5]
 exact⟨_,c,_,_,rfl,k,by simp,w1.oD BT,.tup [] [] rfl (fun i v d hv=>by simp at hv),w2.trans (Au _ BT) (Nat.le_refl _)⟩
end
end Go.AL
namespace Go.AL
open Go
def Out.ex:Out→Exit
 | .norm _=>.normal
 | .exit id _=>.exit id
 | .ret _=>.ret
def ae3(A:Array Oper):List (List Nat):=A.toList.foldl (init:=[]) fun acc o=>
 acc ++ [dedup ((o.after.toList.filter fun e=>Region.binds .any e).flatMap fun e=>e.on::acc.getD e.on [])]
def afc(l:List ff)(ord:List (List Nat)):List (Nat×Nat):=(List.range l.length).flatMap fun i=>(List.range i).filterMap fun k=>
 if (ord.getD i []).contains k then none else match l[k]?,l[i]? with
  | some a,some b=>if IZ a.op b.op then none else some (k,i)
  | _,_=>none
def Rx:List FuncId:=[283]
def Y9:ij→Bool
 | .call f _=>Rx.contains f
 | .callN f _=>Rx.contains f
 | _=>false
def Ry(l:List ff)(ord:List (List Nat))(n:Nat):Bool:=n<l.length&&(List.range l.length).all fun i=>decide (i<n)||(List.range i).all fun k=>(ord.getD i []).contains k
def Pe(iW:List (Nat×Nat))(l:List ff)(ord:List (List Nat)):IR:=
 let n:=l.findIdx fun e=>Y9 e.op
 if Ry l ord n then .lP iW (l.take n) (l.drop n)else .kK iW l
def nu:Code→List (Array Tmp×Code×Code)
 | .seq a b=>nu a++nu b
 | .cond _ a b=>nu a++nu b
 | .block _ a=>nu a
 | .loop a=>nu a
 | .rangeFunc _ ps a b=>(ps,a,b)::(nu a++nu b)
 | _=>[]
def cC(P:Program)(G:GT)(N:Nat)(rf:Nat):List (List Nat)→Code→Option (IR×List (List Nat))
 | hs,.skip=>some (.skip,hs)
 | hs,.region _ ops false=>match n9 P G N ops ops.toList with
  | some l=>some (.ops l,hs)
  | none=>some (.bad,hs)
 | hs,.region _ ops true=>match n9 P G N ops ops.toList with
  | some l=>
   let ord:=ae3 ops
   let iW:=afc l ord
   if vx ops&&uM ops ord&&Mq l ord iW then some (Pe iW l ord,hs)else some (.bad,hs)
  | none=>some (.bad,hs)
 | hs,.seq a b=>match cC P G N rf hs a with
  | some (x,mT)=>match cC P G N (rf+(nu a).length) mT b with
   | some (y,mH)=>some (.seq x y,mH)
   | none=>none
  | none=>none
 | hs,.cond c a b=>match cX G c with
  | some x=>match cC P G N rf hs a with
   | some (y,mT)=>match cC P G N (rf+(nu a).length) mT b with
    | some (z,mH)=>some (.cond x y z,mH)
    | none=>none
   | none=>none
  | none=>some (.bad,hs)
 | hs,.block id a=>match hs with
  | l::hs=>match cC P G N rf hs a with
   | some (x,mT)=>some (.block id l x,mT)
   | none=>none
  | []=>none
 | hs,.loop a=>match hs with
  | l::hs=>match cC P G N rf hs a with
   | some (x,mT)=>some (.loop l x,mT)
   | none=>none
  | []=>none
 | hs,.rangeFunc g _ _ _=>match cX G g,hs with
  | some x,l::hs=>some (.lZ rf l x,hs)
  | _,_=>some (.bad,hs)
 | hs,.exit id=>some (.exit id,hs)
 | hs,.ret=>some (.ret,hs)
 | hs,_=>some (.bad,hs)
inductive mC(P:Program)(G:GT)(N:Nat):IR→Code→Prop
 | skip:mC P G N .skip .skip
 | ops {l id A} (h:n9 P G N A A.toList=some l):mC P G N (.ops l) (.region id A false)
 | kK {iW l id A} (ord:List (List Nat)) (h:n9 P G N A A.toList=some l) (he:vx A=true) (ho:uM A ord=true) (hp:Mq l ord iW=true):mC P G N (.kK iW l) (.region id A true)
 | lP {iW l es id A} (ord:List (List Nat)) (h:n9 P G N A A.toList=some (l++es)) (he:vx A=true) (ho:uM A ord=true) (hp:Mq (l++es) ord iW=true) (vM:∀ i,l.length≤i→i<(l++es).length→∀ k,k<i→k∈ord.getD i []):mC P G N (.lP iW l es) (.region id A true)
 | seq {a b x y} (h1:mC P G N x a) (h2:mC P G N y b):mC P G N (.seq x y) (.seq a b)
 | cond {c a b x y z} (hc:cX G c=some x) (h1:mC P G N y a) (h2:mC P G N z b):mC P G N (.cond x y z) (.cond c a b)
 | block {id l a x} (h:mC P G N x a):mC P G N (.block id l x) (.block id a)
 | loop {l a x} (h:mC P G N x a):mC P G N (.loop l x) (.loop a)
 | lZ {rf l x g ps ac bc} (hx:cX G g=some x) (h:G.rt rf=some (N,ps,ac,bc)):mC P G N (.lZ rf l x) (.rangeFunc g ps ac bc)
 | exit {id}:mC P G N (.exit id) (.exit id)
 | ret:mC P G N .ret .ret
 | bad {c}:mC P G N .bad c
def wR(G:GT)(N rf:Nat)(code:Code):Prop:=∀ (i:Nat) (x:Array Tmp×Code×Code),(nu code)[i]? = some x→G.rt (rf+i)=some (N,x)
def wR.left{G:GT}{N rf:Nat}{a b:Code}{l:List (Array Tmp×Code×Code)}(hl:l=nu a++nu b)(h:∀ (i:Nat) (x:Array Tmp×Code×Code),l[i]? = some x→G.rt (rf+i)=some (N,x)):wR G N rf a∧wR G N (rf+(nu a).length) b:=by
 subst hl
 refine⟨fun i x hx=>h i x ?_,fun i x hx=>?_⟩
 ·rw[ag (af.1 hx).1];exact hx
 ·rw[a7]
  exact h _ x (by rw[ao (by omega)];simpa using hx)
def Jy{P:Program}{G:GT}{N:Nat}:∀ {code:Code} {rf:Nat} {hs gw:List (List Nat)} {ir:IR},wR G N rf code→cC P G N rf hs code=some (ir,gw)→mC P G N ir code:=by
 intro code
 induction code with
 | skip=>intro rf hs gw ir hR h;simp only[cC]at h;cases h;exact .skip
 | region id A kK=>
  intro rf hs gw ir hR h
  cases kK
  ·simp only[cC]at h
   split at h
   ·rename_i l hl;cases h;exact .ops hl
   ·cases h;exact .bad
  ·simp only[cC]at h
   split at h
   ·rename_i l hl
    split at h
    ·rename_i hc
     cases h
     simp only[ah]at hc
     unfold Pe
     dsimp only
     split
     ·rename_i hL
      unfold Ry at hL
      simp only[ah,bP,decide_eq_true_eq,ar,bC,cV]at hL
      refine .lP _ (by rw[bI];exact hl) hc.1.1 hc.1.2 (by rw[bI];exact hc.2) fun i hi jP k hk=>?_
      rw[bI]at jP
      rw[aI]at hi
      rcases hL.2 i jP with h|h
      ·omega
      ·exact h k hk
     ·exact .kK _ hl hc.1.1 hc.1.2 hc.2
    ·cases h;exact .bad
   ·cases h;exact .bad
 | seq a b oH tg=>
  intro rf hs gw ir hR h
  obtain⟨vF,vG⟩:=wR.left rfl hR
  simp only[cC]at h
  split at h
  ·rename_i x mT ha
   split at h
   ·rename_i y mH hb;cases h;exact .seq (oH vF ha) (tg vG hb)
   ·cases h
  ·cases h
 | cond c a b oH tg=>
  intro rf hs gw ir hR h
  obtain⟨vF,vG⟩:=wR.left rfl hR
  simp only[cC]at h
  split at h
  ·rename_i x hx
   split at h
   ·rename_i y mT ha
    split at h
    ·rename_i z mH hb;cases h;exact .cond hx (oH vF ha) (tg vG hb)
    ·cases h
   ·cases h
  ·cases h;exact .bad
 | block id a oH=>
  intro rf hs gw ir hR h
  simp only[cC]at h
  split at h
  ·split at h
   ·rename_i x mT ha;cases h;exact .block (oH hR ha)
   ·cases h
  ·cases h
 | loop a oH=>
  intro rf hs gw ir hR h
  simp only[cC]at h
  split at h
  ·split at h
   ·rename_i x mT ha;cases h;exact .loop (oH hR ha)
   ·cases h
  ·cases h
 | rangeFunc g ps a b oH tg=>
  intro rf hs gw ir hR h
  simp only[cC]at h
  split at h
  ·rename_i x l mT hx
   cases h
   exact .lZ hx (hR 0 _ rfl)
  ·cases h;exact .bad
 | exit id=>intro rf hs gw ir hR h;simp only[cC]at h;cases h;exact .exit
 | ret=>intro rf hs gw ir hR h;simp only[cC]at h;cases h;exact .ret
 | _=>intro rf hs gw ir hR h;simp only[cC]at h;cases h;exact .bad
def cR(P:Program):ResultVar→Option sL
 | .tmp t=>some (.tmp t)
 | .cell a t=>match nG P t,jE P t with
  | some false,some _=>some (.vj a)
  | some true,some n=>some (.pZ n a)
  | _,_=>none
def wY(P:Program):List ResultVar→Option (List sL)
 | []=>some []
 | x::r=>match cR P x,wY P r with
  | some a,some l=>some (a::l)
  | _,_=>none
def wB(P:Program)(k:Nat):Option (Nat×Array Tmp×Code×Code):=match P.funcs[k / 64]? with
 | some fn=>match fn.body with
  | some code=>(nu code)[k % 64]?.map fun x=>(fn.ntmps,x)
  | none=>none
 | none=>none
def afl{P:Program}{G:GT}(hG:G.rt=wB P){f:Nat}{fn:Func}{code:Code}(hf:P.funcs[f]? = some fn)(hb:fn.body=some code)(hl:(nu code).length≤64):wR G fn.ntmps (64*f) code:=by
 intro i x hx
 have hi:i<64:=aJ (af.1 hx).1 hl
 rw[hG]
 unfold wB
 rw[show(64*f+i) / 64=f by omega,show(64*f+i) % 64=i by omega,hf]
 simp[hb,hx]
structure AZ(P:Program)(G:GT)(f:FuncId)(fn:eV):Prop where
 ex:∃ func code hs gw,P.funcs[f]? = some func∧func.body=some code∧p8 P f=true∧(nu code).length≤64∧cC P G fn.ntmps (64*f) hs code=some (fn.body,gw)∧func.ntmps=fn.ntmps∧wY P func.results.toList=some fn.results
structure rH(P:Program)(G:GT)(rf:Nat)(R:nD):Prop where
 ex:∃ N ps ac bc,G.rt rf=some (N,ps,ac,bc)∧ps.toList=R.params∧(R.params.all fun p=>decide (p<N))=true∧mC P G N R.a ac∧mC P G N R.b bc
structure Jj(P:Program)(G:GT)(T:gP):Prop where
 rt:G.rt=wB P
 fn:∀ f fn,T.fn f=some fn→AZ P G f fn
 round:∀ rf R,T.round rf=some R→rH P G rf R
 sort:∀ f sz,T.sort f=some sz→tQ P f sz
 qT:∀ f,T.qT f=true→wU P f
def Gh(F:Fence)(n:Nat)(P:Program)(c:Code)(Q:Exit→Act→World→Prop)(a:Act)(w:World):Prop:=
 ∀ (b:Frame) (k:List Item) (cs:List Frame),b.roundOf=F.round→F.fn b.fn→F.room (cs.length+1+n) →
  ∃ e a' w',Q e a' w'∧ArrivesIn (Machine.fenced P F) P (lone (b.atR a (.code c :: .inLoop c::k)) cs w) b k cs e a' w'
section
variable{F:Fence}{n:Nat}{P:Program}{Q:Exit→Act→World→Prop}{a:Act}{w:World}
def Z4{c:Code}(h:c.wpIn F n P (Exit.then (Gh F n P c Q) Q) a w):Gh F n P c Q a w:=by
 intro b k cs iq hb hr
 obtain⟨e,A9,DC,hq,mo⟩:=h b (.inLoop c::k) cs iq hb hr
 cases e with
 | normal=>
  obtain⟨VH,Ug,ag0,Ym,Xn⟩:=hq b k cs iq hb hr
  exact⟨VH,Ug,ag0,Ym,.of_steps (StepsIn.trans mo (.one (fenced_calm hb hr rfl) stepR_inLoop)) Xn⟩
 | exit id=>exact⟨_,A9,DC,hq,.pass (x:=.inLoop c) rfl (fun _ _=>.inl (by simp)) mo⟩
 | goto l=>exact⟨_,A9,DC,hq,.pass (x:=.inLoop c) rfl (fun _ _=>.inl (by simp)) mo⟩
 | ret=>exact⟨_,A9,DC,hq,.pass (x:=.inLoop c) rfl (fun _ _=>.inl (by simp)) mo⟩
 | panic ch=>exact⟨_,A9,DC,hq,.pass (x:=.inLoop c) rfl (fun _ _=>.inl (by simp)) mo⟩
 | outgrown=>exact⟨_,A9,DC,hq,.pass (x:=.inLoop c) rfl (fun _ _=>.inl (by simp)) mo⟩
def agT{c:Code}(h:Gh F n P c Q a w):(Code.loop c).wpIn F n P Q a w:=by
 intro b k cs iq hb hr
 obtain⟨e,a',w',hq,mo⟩:=h b k cs iq hb hr
 exact⟨e,a',w',hq,.of_steps (.one (fenced_calm hb hr rfl) stepR_loop) mo⟩
end
section
variable{P:Program}{G:GT}{c:Ctx}{w:World}{a:Act}{N:Nat}
def Jq(δ:Dl)(H:U):H.length≤(δ.app H (Al.last H)).length:=by
 cases δ with
 | no=>exact Nat.le_refl _
 | cells v o xs=>simp only[Dl.app];split<;>simp
 | obj v ob=>simp[Dl.app]
 | new ob=>simp[Dl.app,Al.last]
def IT(ks:mi)(H:U):(pB ks H).length=ks.length:=by simp[pB]
def R2{ks:mi}{H:U}{f:Nat→Nat}:∀ {vs:List Nat} {ds:List Deferred},pE c vs ds→(∀ v∈vs,∀ L,c.ι v 0=some L→(c.e7 ks H).ι (f v) 0=some L)→pE (c.e7 ks H) (vs.map f) ds:=by
 intro vs ds h
 induction h with
 | nil=>intro _;exact .nil
 | cons L h1 h2 _ ih=>intro hf;exact .cons L (hf _ (by simp) L h1) h2 (ih fun v hv=>hf v (by simp[hv]))
def TA{n:Nat}{d:D}{v:Nat}(hv:v∈iH n d):n≤v:=by
 cases d<;>simp only[iH]at hv<;>first|(split at hv<;>simp at hv;omega)|(simp at hv)
def Sf{n:Nat}{o:Ob}{v:Nat}(hv:v∈oo n o):n≤v:=by
 unfold oo at hv
 split at hv
 ·obtain⟨l2,iZ,Ly⟩:=aV.1 hv
  obtain⟨d,_,rfl⟩:=aw.1 iZ
  exact TA Ly
 ·obtain⟨l2,iZ,Ly⟩:=aV.1 hv
  obtain⟨d,_,rfl⟩:=aw.1 iZ
  exact TA Ly
 ·cases hv
def JN{s:St}(hs:kz G N c w s a){n:Nat}(hn:n≤s.H.length)(live:List Nat) :
  ∃ c',kz G N c' w (cut n live s) a∧Step n c s.H w c' (cut n live s).H w∧n≤(cut n live s).H.length:=by
 unfold cut
 split
 ·exact⟨c,⟨hs.eZ,zi hs.env live,hs.size,hs.marks⟩,Step.refl _ _ _ _,hn⟩
 ·dsimp only
  generalize hK:dedup _=K
  have oU:∀ v∈K,v∈(((forget live s.env).map fun p=>iH n p.2).flatten++((s.H.take n).map (oo n)).flatten++s.marks.filter (n≤·)).filter (· < s.H.length):=fun v hv=>by
   rw[← hK]at hv;exact CN hv
  have lJ:∀ (d:D) (v:Nat),v∈iH n d→n≤v:=by
   intro d v hv
   cases d<;>simp only[iH]at hv<;>first|(split at hv<;>simp at hv;omega)|(simp at hv)
  have KU:∀ v∈K,n≤v:=by
   intro v hv
   have:=(aP.1 (oU v hv)).1
   rcases List.mem_append.1 this with h|h
   ·rcases List.mem_append.1 h with h|h
    ·obtain⟨l,hl,iV⟩:=aV.1 h
     obtain⟨p,_,rfl⟩:=aw.1 hl
     exact lJ _ _ iV
    ·obtain⟨l,hl,iV⟩:=aV.1 h
     obtain⟨o,_,rfl⟩:=aw.1 hl
     exact Sf iV
   ·simpa using (aP.1 h).2
  have kY:wN (iF n K):=Rr KU (by rw[← hK];exact Il _)
  have fm:=MV (ks:=iF n K) hs.eZ (n:=n) Rq
  refine⟨c.e7 (iF n K) s.H,⟨Am hs.eZ kY,Pn hs.eZ (zi hs.env live),hs.size,?_⟩,fm,?_⟩
  ·refine R2 hs.marks fun v hv L hL=>?_
   have gi:v<s.H.length:=by
    rcases a8 v s.H.length with h|h
    ·exact h
    ·rw[hs.eZ.out v 0 h]at hL;cases hL
   have:∃ i,ic (iF n K) v=some i:=by
    by_cases Lz:v<n
    ·refine⟨v,MH kY ?_⟩
     unfold iF
     rw[ag (by simpa using Lz)]
     simp[Lz]
    ·have YH:v∈K:=by
      rw[← hK]
      refine GV (aP.2 ⟨bz _ (aP.2 ⟨hv,by simpa using eN.1 Lz⟩),by simpa using gi⟩)
     obtain⟨i,hi⟩:=aG.1 YH
     refine⟨n+i,MH kY ?_⟩
     unfold iF
     rw[ao (by simp)]
     simp[hi]
   obtain⟨i,hi⟩:=this
   rw[hi]
   simp only[aL]
   rw[AG hi]
   exact hL
  ·rw[IT];simp[iF]
def P0{s:St}(hs:kz G N c w s a)(S:List Nat):∃ c',kz G N c' w (kX S s) a∧Step s.H.length c s.H w c' (kX S s).H w∧(kX S s).H.length=s.H.length:=by
 refine⟨c.e7 (lB s.H S) s.H,⟨Am hs.eZ PZ,Pn hs.eZ hs.env,hs.size,?_⟩,MV hs.eZ PY,J'⟩
 have:=R2 (ks:=lB s.H S) (H:=s.H) (f:=id) hs.marks fun v _ L hL=>by
  have gi:v<s.H.length:=by
   rcases a8 v s.H.length with h|h
   ·exact h
   ·rw[hs.eZ.out v 0 h]at hL;cases hL
  have hk:=PY (S:=S) v gi
  simp only[aj]at hk
  obtain⟨p,hp,e⟩:=hk
  simp only[Ctx.e7,id,hp,e]
  exact hL
 simpa[kX]using this
def ae5{n:Nat}{d:D}{v:Nat}(hv:v∈Ae n d):n≤v:=by
 unfold Ae at hv
 split at hv
 ·split at hv
  ·simp at hv;omega
  ·simp at hv
 ·obtain⟨l,hl,iV⟩:=aV.1 hv
  obtain⟨d,_,rfl⟩:=aw.1 hl
  split at iV
  ·split at iV
   ·simp at iV;omega
   ·simp at iV
  ·simp at iV
 ·simp at hv
def ZP{H:U}(eZ:fr G c H w){n:Nat}(hn:n≤H.length)(own:Nat){u:Value}{d:D}(hr:eW c w u d) :
  ∃ c',fr G c' (leave own n H d).2 w∧eW c' w u (leave own n H d).1∧Step n c H w c' (leave own n H d).2 w∧n≤(leave own n H d).2.length:=by
 unfold leave
 split
 ·exact⟨c,eZ,hr,Step.refl _ _ _ _,hn⟩
 ·dsimp only
  generalize hK:dedup _=K
  have KU:∀ v∈K,n≤v:=by
   intro v hv
   rw[← hK]at hv
   have:=(aP.1 (CN hv)).1
   rcases List.mem_append.1 this with h|h
   ·split at h
    ·simp at h
    ·exact ae5 h
    ·simpa using (aP.1 (aN h)).2
    ·simpa using (aP.1 h).2
   ·obtain⟨l,hl,iV⟩:=aV.1 h
    obtain⟨o,_,rfl⟩:=aw.1 hl
    exact Sf iV
  have kY:wN (iF n K):=Rr KU (by rw[← hK];exact Il _)
  exact⟨c.e7 (iF n K) H,Am eZ kY,wv eZ 40 hr,MV eZ Rq,by rw[IT];simp[iF]⟩
def aai(args:List D)(k:Nat):(qI args).get k=(args[k]?).getD .any:=by
 have key:∀ (l:List D) (i k:Nat),Env.get ((l.zipIdx i).map fun p=>(p.2,p.1)) k=if k<i then .any else(l[k-i]?).getD .any:=by
  intro l
  induction l with
  | nil=>intro i k;simp[Env.get]
  | cons d l ih=>
   intro i k
   simp only[List.zipIdx_cons,List.map_cons,Env.sZ]
   split
   ·rename_i e;subst e;simp
   ·rename_i e
    rw[ih (i+1) k]
    by_cases hk:k<i
    ·rw[if_pos (by omega),if_pos hk]
    ·rw[if_neg (by omega),if_neg hk]
     rw[show k-i=(k-(i+1))+1 by omega,ey]
 have:=key args 0 k
 simpa[qI]using this
def Vz{vs:List Value}{args:List D}(hr:iS c w vs args)(n:Nat):kb c w (qI args).get { tmps:=vs.toArray++Array.replicate (n-vs.toArray.size) undef,defers:=[] }:=fun k=>by
 rw[aai]
 have hl:=hr.length
 cases hk:args[k]? with
 | none=>exact .any _
 | some d=>
  have gi:k<vs.length:=by rw[hl];exact(af.1 hk).1
  have hv:vs[k]? = some vs[k]:=by simp[gi]
  have:=hr.get k vs[k] d hv hk
  simp only[aL]
  have e:(vs.toArray++Array.replicate (n-vs.toArray.size) undef).getD k undef=vs[k]:=by
   rw[bJ,bY (by simpa using gi)]
   simp[gi]
  rw[e];exact this
def ZZ{H:U}(h:fr G c H w){t:TypeId}(ha:nG P t=some false){x d:D}{u:Value}(hr:eW c w u x)(hk:tl x H=some d) :
  ∃ v,(Instr.loadAt t u).run P w = .ok v w∧eW c w v d∧∃ b o,u = .pointer (some ⟨b,o,none⟩):=by
 unfold tl at hk
 split at hk
 ·rename_i v g o
  split at hk
  ·rename_i t' cs gH
   have hv:=qP gH
   obtain⟨b,p,rfl,hc⟩:=Gv h hv hr
   obtain⟨u,hu,_,h2⟩:=IN ha hc (d:=d) (by simpa using hk)
   exact⟨u,hu,h2,b,p,rfl⟩
  ·cases hk
 ·rename_i cs
  obtain⟨b,p,rfl,_,hc⟩:=vm hr
  obtain⟨u,hu,_,h2⟩:=IN ha hc hk
  exact⟨u,hu,h2,b,p,rfl⟩
 ·cases hk
def Z0{H:U}(h:fr G c H w){t:TypeId}{n:Nat}(ha:nG P t=some true)(hs:jE P t=some n){x d:D}{u:Value}(hr:eW c w u x)(hk:tm n x H=some d) :
  ∃ v,(Instr.loadAt t u).run P w = .ok v w∧eW c w v d∧∃ b o,u = .pointer (some ⟨b,o,none⟩):=by
 unfold tm at hk
 split at hk
 ·rename_i v g o
  split at hk
  ·rename_i t' cs gH
   split at hk
   ·rename_i hle
    cases hk
    have hv:=qP gH
    obtain⟨b,p,rfl,hc⟩:=Gv h hv hr
    obtain⟨u,hu,h2⟩:=IP (n:=n) ha hs hc (by simp;omega)
    exact⟨u,hu,h2,b,p,rfl⟩
   ·cases hk
  ·cases hk
 ·rename_i cs
  split at hk
  ·rename_i hle
   cases hk
   obtain⟨b,p,rfl,_,hc⟩:=vm hr
   obtain⟨u,hu,h2⟩:=IP (n:=n) ha hs hc hle
   exact⟨u,hu,h2,b,p,rfl⟩
  ·cases hk
 ·cases hk
def yn(tmps:Array Value):ResultVar→Sem Value
 | .tmp t=>pure (tmps.getD t undef)
 | .cell a t=>do loadVar t (← asAddr (tmps.getD a undef))
def afx{s:St}(hs:kz G N c w s a){x:ResultVar}{X:sL}(hx:cR P x=some X){d:D}(hd:Ai s X=some d) :
  ∃ v,(yn a.tmps x).run P w = .ok v w∧eW c w v d:=by
 cases x with
 | tmp t=>
  cases hx
  simp only[Ai,ak]at hd
  subst hd
  exact⟨_,rfl,hs.env t⟩
 | cell p t=>
  have hp:=hs.env p
  generalize hu:a.tmps.getD p undef=u at hp
  have key:∀ v,(Instr.loadAt t u).run P w = .ok v w→(∃ b o,u = .pointer (some ⟨b,o,none⟩))→(yn a.tmps (.cell p t)).run P w = .ok v w:=by
   rintro v h ⟨b,o,rfl⟩
   simpa[Instr.loadAt,Instr.sureAddr,asAddr,yn,hu]using h
  simp only[cR]at hx
  split at hx
  ·rename_i n Kz gV
   cases hx
   obtain⟨v,hv,hr,Li⟩:=ZZ hs.eZ Kz hp hd
   exact⟨v,key v hv Li,hr⟩
  ·rename_i n Kz gV
   cases hx
   obtain⟨v,hv,hr,Li⟩:=Z0 hs.eZ Kz gV hp hd
   exact⟨v,key v hv Li,hr⟩
  ·cases hx
theorem MG{s:St}(hs:kz G N c w s a):∀ (l:List ResultVar) {xs:List sL} {ds:List D},wY P l=some xs→rC s xs=some ds →
  ∃ vs:List Value,(l.mapM (yn a.tmps)).run P w = .ok vs w∧iS c w vs ds
 | [],xs,ds,h1,h2=>by
  cases h1;cases h2
  exact⟨[],rfl,.nil⟩
 | x::l,xs,ds,h1,h2=>by
  simp only[wY]at h1
  split at h1
  ·rename_i X Nh hX LC
   cases h1
   simp only[rC]at h2
   split at h2
   ·rename_i d ds' hd pg
    cases h2
    obtain⟨v,hv,hr⟩:=afx hs hX hd
    obtain⟨vs,jF,uu⟩:=MG hs l LC pg
    exact⟨v::vs,by simp[dM,hv,jF],.cons hr uu⟩
   ·cases h2
  ·cases h1
def afz{s:St}(hs:kz G N c w s a){func:Func}{fn:eV}(hx:wY P func.results.toList=some fn.results){d:D}(hd:AL.results fn s=some d) :
  ∃ v,(Go.results func a.tmps).run P w = .ok v w∧eW c w v d:=by
 have e:∀ vs:List Value,(func.results.toList.mapM (yn a.tmps)).run P w = .ok vs w→(Go.results func a.tmps).run P w = .ok (if h:vs.toArray.size=1 then vs.toArray[0]else .tuple vs.toArray) w:=by
  intro vs jF
  have h1:(func.results.mapM (yn a.tmps)).run P w = .ok vs.toArray w:=by
   rw[dZ,Sem.run_map,jF];rfl
  have h2:Go.results func a.tmps=(do let vs ← func.results.mapM (yn a.tmps);pure (if h:vs.size=1 then vs[0]else .tuple vs)):=rfl
  rw[h2,Sem.run_bind,h1]
  rfl
 unfold AL.results at hd
 split at hd
 ·rename_i d' jO
  cases hd
  obtain⟨vs,jF,hr⟩:=MG hs _ hx jO
  cases hr with
  | cons h t=>
   cases t
   exact⟨_,e _ jF,h⟩
 ·rename_i ds gE jO
  cases hd
  obtain⟨vs,jF,hr⟩:=MG hs _ hx jO
  refine⟨_,e _ jF,?_⟩
  have hl:vs.toArray.size≠1:=by
   intro h1
   have h2:ds.length=1:=by rw[← hr.length];simpa using h1
   match ds,h2 with
   | [d],_=>exact gE d rfl
  rw[dif_neg hl]
  exact .tup vs ds hr.length hr.get
 ·cases hd
end
end Go.AL
namespace Go.AL
open Go
section
variable{P:Program}{G:GT}{c:Ctx}{H:U}{w:World}{env:gd}{a:Act}{N:Nat}
def Pf(h:fr G c H w){v:Nat}{ob:Ob}(hv:H[v]? = some ob)(ha:ob.alive=true){L:Loc}(e9:c.ι v ob.gen=some L)(gI:L.jc=false)
  {w':World} (pk:w'.os=w.os∧w.drawn≤w'.drawn) (Ls:w'.tape=w.tape) (mf:w'.output=w.output) (Cg:w'.heap.size=w.heap.size) (kY:∀ b,b≠L.b→w'.heap[b]? = w.heap[b]?) :
  fr G c (H.set v .dead) w'∧Step H.length c H w c (H.set v .dead) w':=by
 have gi:=(af.1 hv).1
 have B1:kR c H v L:=⟨ob,hv,ha,e9⟩
 have vO:ly c H L.b:=⟨v,L,B1,gI,rfl⟩
 have hL:∀ u l,kR c (H.set v .dead) u l→u≠v∧kR c H u l:=by
  rintro u l ⟨o,ho,gu,hi⟩
  rw[pP gi]at ho
  split at ho
  ·cases ho;cases gu
  ·rename_i gE;exact⟨gE,o,ho,gu,hi⟩
 have qb:∀ b,ly c (H.set v .dead) b→ly c H b:=fun b ⟨u,l,hl,r⟩=>⟨u,l,(hL u l hl).2,r⟩
 have hs:Step H.length c H w c (H.set v .dead) w':=
  ⟨pk,Ls,mf,by omega,rfl,fun _ h=>h,fun _ h=>.inl h,fun b _ hn=>kY b (fun e=>hn (e▸vO)),fun _ _ _ _ h=>h,fun b hb=>.inr (qb b hb)⟩
 have hr:∀ u d,eW c w u d→eW c w' u d:=fun u d hd=>hd.ox h.toHeapOK hs
 refine⟨{
  inj:=fun u u' l l' h1 h2=>h.inj u u' l l' (hL _ _ h1).2 (hL _ _ h2).2
  lt:=fun b hb=>by rw[Cg];exact h.lt b (qb b hb)
  nF:=fun b hb=>h.nF b (qb b hb)
  jY:=fun b hb=>by rw[Cg];exact h.jY b hb
  out:=fun u k hu=>h.out u k (by simpa using hu)
  lC:=fun u o k ho hk=>by
   rw[pP gi]at ho
   split at ho
   ·cases ho
    rcases hk with hk|⟨hk,_⟩<;>cases hk
   ·exact h.lC u o k ho hk
  ob:=fun u o ho=>by
   rw[pP gi]at ho
   split at ho
   ·cases ho;simp[gq]
   ·rename_i gE
    refine gq.pN (c:=c) (c':=c) rfl hr (fun l hl kP hd=>kY _ fun e=>gE (h.inj u v l L ⟨o,ho,hd,hl⟩ B1 kP gI e)) (h.ob u o ho)
  gl:=fun g cs hg=>let ⟨a,b⟩:=h.gl g cs hg;⟨a,hr _ _ b⟩
  rt:=h.rt },hs⟩
def ZQ{fn:Func}{tmps:Array Value}{R:Ending→World→Prop}:∀ {ms:List Nat} {ds:List Deferred} {H H1:U} {w:World},pE c ms ds→fr G c H w→kill ms H=some H1 →
  (∀ w1,fr G c H1 w1→Step H.length c H w c H1 w1→H1.length=H.length→LeavesIn (FW none) 0 P fn tmps R [] .returning w1)→LeavesInM (FW none) 0 P fn tmps R ds .returning w:=by
 intro ms
 induction ms with
 | nil=>
  intro ds H H1 w hm eZ hk k
  cases hm
  cases hk
  exact k w eZ (Step.refl _ _ _ _) rfl
 | cons v ms ih=>
  intro ds H H1 w hm eZ hk k
  cases hm with
  | @cons _ _ ds L h1 h2 hm=>
   simp only[kill]at hk
   split at hk
   ·rename_i hv
    have gD:=eZ.ob v _ hv
    simp only[Ob.gen]at gD
    rw[h1]at gD
    simp only[gq]at gD
    have hblk:=gD.resolve_left (by simp[h2])
    have gi:L.b<w.heap.size:=(aK.1 hblk).1
    obtain⟨k1,k2⟩:=Pf (w':={ w with heap:=w.heap.setIfInBounds L.b (.deferred none) }) eZ hv rfl h1 h2 ⟨rfl,Nat.le_refl _⟩ rfl rfl (by simp) (fun b hb=>by rw[bB (dB hb)])
    refine⟨by simp,.inl ⟨L.b,{ w with heap:=w.heap.setIfInBounds L.b (.deferred none) },rfl,?_,?_⟩⟩
    ·simp[Instr.takeDeferred,getObj,setObj,Sem.run,hblk]
    ·refine ih hm k1 hk fun w1 q1 q2 q3=>k w1 q1 (k2.trans q2 (by simp)) (by rw[q3];simp)
   ·cases hk
def afW(eZ:fr G c H w)(he:kb c w env a){o:Oper}{io:ij}(hc:ml P G o=some io){v:Nat}{args:List D}(jn:yieldOf env io=some (v,args)){rf:Nat}{e0:Env}(hv:H[v]? = some (.gL rf e0 .ready)) :
  ∃ (L:Loc) (r:Loop) (vs:List Value),c.ι v 0=some L∧L.jc=false∧w.heap[L.b]? = some (.loop r)∧iS c w vs args ∧
   (vs.length=r.params.size→(execOp a.eval o).run P w = .ok (.round L.b r.fn ((r.params.zip vs.toArray).foldl (fun tmps (t,a)=>tmps.setIfInBounds t a) r.tmps) r.assign r.body) w):=by
 unfold yieldOf at jn
 split at jn
 ·rename_i fx Uf
  split at jn
  ·rename_i v' oT
   cases jn
   obtain⟨cl,ho⟩:=O5 hc rfl
   have Hu:=hc
   unfold ml at hc
   simp only[ho,ax,ae]at hc
   obtain⟨xs,qw,hc⟩:=hc
   have iy:=wZ eZ he cl.args.toList qw
   have lD:∃ x X,cl.callee = .value x∧cX G x=some X∧X=fx∧xs=Uf:=by
    split at hc
    ·split at hc
     ·exfalso
      simp only[aF,ak]at hc
      split at hc<;>cases hc
     ·cases hc
    ·rename_i x gE xA
     simp only[ae,aF,ak]at hc
     obtain⟨X,hX,hh⟩:=hc
     cases hh
     exact⟨x,fx,xA,hX,rfl,rfl⟩
    ·split at hc
     ·simp only[ae]at hc
      obtain⟨td,_,hc⟩:=hc
      split at hc
      ·simp only[ae]at hc
       obtain⟨i,_,z,_,ud,_,hc⟩:=hc
       split at hc
       ·split at hc
        ·cases hc
        ·cases hc
       ·cases hc
      ·cases hc
     ·cases hc
    ·split at hc
     ·simp only[ae]at hc
      obtain⟨td,_,hc⟩:=hc
      split at hc
      ·simp only[ae]at hc
       obtain⟨ud,_,hc⟩:=hc
       split at hc
       ·simp only[ae]at hc
        obtain⟨n,_,hc⟩:=hc
        split at hc
        ·cases hc
        ·cases hc
       ·cases hc
      ·cases hc
     ·cases hc
    ·split at hc
     ·split at hc
      ·cases hc
      ·cases hc
      ·cases hc
      ·cases hc
     ·cases hc
    ·cases hc
    ·cases hc
    ·cases hc
   obtain⟨x,X,xA,hX,rfl,rfl⟩:=lD
   have hr:=ia eZ he hX
   rw[oT]at hr
   generalize hu:a.eval x=u at hr
   cases hr with
   | iA _ L e9 gI=>
    have gD:=eZ.ob v _ hv
    simp only[Ob.gen]at gD
    rw[e9]at gD
    simp only[gq]at gD
    obtain⟨_,r,hblk,_⟩:=gD
    refine⟨L,r,_,e9,gI,hblk,iy,fun gV=>?_⟩
    have e:cl.args.map a.eval=(cl.args.toList.map a.eval).toArray:=by cases cl.args;simp
    have YC:cl.args.size=r.params.size:=by simpa using gV
    simp only[execOp,ho,resolve,xA,hu,Deferred.ofValue,Sem.run_bind,Sem.run_pure,Result.andThen_ok,invoke,Instr.yield,Instr.getLoop,getObj,Sem.run,hblk]
    simp[Sem.run,hblk,YC,e]
  ·cases jn
 ·cases jn
theorem Pm:∀ (ps:List Tmp) (vs:List Value) (ds:List D) (tmps:Array Value) (e0:Env),iS c w vs ds→(∀ p∈ps,p<tmps.size)→(∀ k,eW c w (tmps.getD k undef) (e0.get k)) →
  ∀ k,eW c w (((ps.zip vs).foldl (fun(tmps:Array Value) (p:Tmp×Value)=>tmps.setIfInBounds p.1 p.2) tmps).getD k undef) ((qQ ps ds e0).get k)
 | [],vs,ds,tmps,e0,_,_,h,k=>by simpa[qQ]using h k
 | p::ps,[],ds,tmps,e0,hr,_,h,k=>by cases hr;simpa[qQ]using h k
 | p::ps,v::vs,ds,tmps,e0,hr,hp,h,k=>by
  cases hr with
  | @cons _ d _ ds hd hr=>
   simp only[List.zip_cons_cons,bV,qQ]
   refine Pm ps vs ds (tmps.setIfInBounds p v) ((p,d)::e0) hr (fun q hq=>by simpa using hp q (by simp[hq])) (fun j=>?_) k
   have gi:p<tmps.size:=hp p (by simp)
   simp only[Env.sZ]
   split
   ·rename_i e;subst e
    have:(tmps.setIfInBounds p v).getD p undef=v:=by simp[Array.getD,gi]
    rw[this];exact hd
   ·rename_i e
    have:(tmps.setIfInBounds p v).getD j undef=tmps.getD j undef:=by
     simp only[bJ,bB e]
    rw[this];exact h j
theorem PU:∀ (l:List (Tmp×Value)) (tmps:Array Value),(l.foldl (fun(tmps:Array Value) (p:Tmp×Value)=>tmps.setIfInBounds p.1 p.2) tmps).size=tmps.size
 | [],_=>rfl
 | p::l,tmps=>by simp only[bV];rw[PU l];simp
def tM(G:GT)(N n:Nat)(gZ:Bool)(c:Ctx)(H:U)(w:World)(R:Out→Prop)(Q:Exit→Act→World→Prop):Prop:=
 ∀ (o:Out) (c':Ctx) (w':World) (a':Act),R o→o.st.gZ=gZ→n≤o.st.H.length→kz G N c' w' o.st a'→Step n c H w c' o.st.H w'→Q o.ex a' w'
def IB{s:St}(hs:kz G N c w s a){v rf:Nat}{e0:Env}{st:qp}(hv:s.H[v]? = some (.gL rf e0 st)){L:Loc}(e9:c.ι v 0=some L) :
  ∃ r:Loop,w.heap[L.b]? = some (.loop r)∧L.jc=false∧(∀ k,eW c w (r.tmps.getD k undef) (e0.get k))∧(∃ M,G.rt rf=some (M,r.params,r.assign,r.body)∧M≤r.tmps.size)∧st.is r:=by
 have gD:=hs.eZ.ob v _ hv
 simp only[Ob.gen]at gD
 rw[e9]at gD
 simp only[gq]at gD
 obtain⟨h1,r,h2,h3,h4,h5⟩:=gD
 rw[hs.eZ.rt]at h4
 exact⟨r,h2,h1,h3,h4,h5⟩
def SJ{s:St}(hs:kz G N c w s a){v rf:Nat}{e0:Env}{st st':qp}(hv:s.H[v]? = some (.gL rf e0 st)){L:Loc}(e9:c.ι v 0=some L){r:Loop}(hr:w.heap[L.b]? = some (.loop r))
  (r':Loop) (h1:r'.tmps=r.tmps) (h2:r'.params=r.params) (h3:r'.assign=r.assign) (h4:r'.body=r.body) (h5:st'.is r') :
  kz G N c { w with heap:=w.heap.setIfInBounds L.b (.loop r') } { s with H:=s.H.set v (.gL rf e0 st') } a∧Step s.H.length c s.H w c (s.H.set v (.gL rf e0 st')) { w with heap:=w.heap.setIfInBounds L.b (.loop r') } ∧
   (setObj L.b (.loop r')).run P w = .ok () { w with heap:=w.heap.setIfInBounds L.b (.loop r') }:=by
 obtain⟨r0,a1,a2,a3,⟨M,a4,a6⟩,a5⟩:=IB hs hv e9
 rw[hr]at a1
 cases a1
 obtain⟨k1,k2⟩:=wI hs.eZ hv rfl rfl (ob':=.gL rf e0 st') rfl e9 a2 (.loop r') (fun w' oW se=>by
  simp only[gq]
  refine⟨a2,r',oW,fun k=>by rw[h1];exact se _ _ (a3 k),⟨M,?_,by rw[h1];exact a6⟩,h5⟩
  rw[hs.eZ.rt,a4,h2,h3,h4])
 exact⟨⟨k1,fun k=>(hs.env k).ox hs.eZ.toHeapOK k2,hs.size,hs.marks⟩,k2,by simp[setObj,Sem.run,hr]⟩
def Y6(ro:Option Nat)(l:Nat):(FW ro).inRound l=FW (some l):=rfl
def agY{s:St}{ro:Option Nat}{n:Nat}{o:Oper}{io:ij}{next:Act→World→Prop}{Q:Exit→Act→World→Prop}(hs:kz G N c w s a)(hc:ml P G o=some io)
  (hd:qt N o.dst=true) {v rf:Nat} {args:List D} {e0:Env} (jn:yieldOf s.env.get io=some (v,args)) (hv:s.H[v]? = some (.gL rf e0 .ready)) {M:Nat} {ps:Array Tmp} {ac bc:Code} (rT:G.rt rf=some (M,ps,ac,bc))
  (hlen:args.length=ps.size) (HH:∀ p∈ps.toList,p<M) {Ra Rb:Out→Prop}
  (hA:∀ (ro:Option Nat) (n:Nat) (Q:Exit→Act→World→Prop) (c:Ctx) (w:World) (a:Act),kz G M c w { env:=qQ ps.toList args e0,H:=s.H,gZ:=true } a →
   tM G M s.H.length true c s.H w Ra Q→ac.wpIn (FW ro) n P Q a w)
  (hn:∀ o,Ra o→o.stop=false∧∃ kA,o.st.H[v]? = some (.gL rf kA .ready))
  (hB:∀ s1 kA,Ra (.norm s1)→s1.gZ=true→s1.H[v]? = some (.gL rf kA .ready)→∀ (ro:Option Nat) (n:Nat) (Q:Exit→Act→World→Prop) (c:Ctx) (w:World) (a:Act),kz G M c w { s1 with H:=s1.H.set v (.gL rf kA .busy) } a →
   tM G M s1.H.length true c (s1.H.set v (.gL rf kA .busy)) w Rb Q→bc.wpIn (FW ro) n P Q a w)
  (hm:∀ o,Rb o→∃ kj,o.st.H[v]? = some (.gL rf kj .busy))
  (k:∀ (q:Out) (kj:Env) (c':Ctx) (w':World) (a':Act),Rb q→q.st.H[v]? = some (.gL rf kj .busy)→s.H.length≤q.st.H.length→kz G N c' w' { s with env:=put s.env o.dst (.b !q.stop),H:=q.st.H.set v (.gL rf kj q.wA) } a' →
   Step s.H.length c s.H w c' (q.st.H.set v (.gL rf kj q.wA)) w'→next a' w'):o.wpIn (FW ro) n P a w next Q:=by
 obtain⟨L,r,vs,e9,gI,hblk,iy,gK⟩:=afW hs.eZ hs.env hc jn hv
 obtain⟨r0,a1,_,a3,⟨M',a4,a6⟩,a5⟩:=IB hs hv e9
 rw[hblk]at a1
 cases a1
 rw[rT]at a4
 cases a4
 have iV:v<s.H.length:=(af.1 hv).1
 have gV:vs.length=r.params.size:=by rw[iy.length];exact hlen
 refine⟨fun _ _=>trivial,?_⟩
 rw[Oper.semAt_plain (FW ro) a.eval o (yg hc),gK gV]
 refine⟨fun h=>by simp[Fence.wide]at h,roundIn_of_wpIn (F:=FW ro) trivial ?_⟩
 rw[Y6]
 have Qu:(r.params.zip vs.toArray).foldl (fun tmps (t,a)=>tmps.setIfInBounds t a) r.tmps=(r.params.toList.zip vs).foldl (fun(tmps:Array Value) (p:Tmp×Value)=>tmps.setIfInBounds p.1 p.2) r.tmps:=by
  rw[← Array.foldl_toList];simp
 refine hA (some L.b) _ _ c w _ ⟨hs.eZ,fun j=>?_,?_,.nil⟩ ?_
 ·show eW c w (Array.getD ((r.params.zip vs.toArray).foldl (fun tmps (t,a)=>tmps.setIfInBounds t a) r.tmps) j undef) _
  rw[Qu]
  exact Pm _ _ _ _ _ iy (fun p hp=>aJ (HH p hp) a6) a3 j
 ·show M≤Array.size ((r.params.zip vs.toArray).foldl (fun tmps (t,a)=>tmps.setIfInBounds t a) r.tmps)
  rw[Qu,PU];exact a6
 ·intro o1 c1 w1 a1 vF Ys BZ mT vU
  obtain⟨Q3,kA,my⟩:=hn o1 vF
  cases o1 with
  | exit=>cases Q3
  | ret=>cases Q3
  | norm s1=>
   have uB:c1.ι v 0=some L:=vU.old v 0 L iV e9
   obtain⟨r1,b1,b2,b3,_,b5⟩:=IB mT my uB
   have Uj:r1.state = .ready∧r1.pending=none:=b5
   obtain⟨k1,k2,k3⟩:=SJ (P:=P) (st':=.busy) mT my uB b1 { r1 with state:=.busy } rfl rfl rfl rfl rfl
   refine⟨{ w1 with heap:=w1.heap.setIfInBounds L.b (.loop { r1 with state:=.busy }) },?_,?_⟩
   ·have hg:(Instr.getLoop L.b).run P w1 = .ok r1 w1:=by simp[Instr.getLoop,getObj,Sem.run,b1]
    simp only[Instr.beginRound,Sem.run_bind,hg,Result.andThen_ok,k3,Uj.1]
    simp
   ·refine hB s1 kA vF Ys my (some L.b) _ _ c1 _ a1 k1 ?_
    intro o2 c2 w3 a3' vG al9 zI HK zS
    obtain⟨kj,ng⟩:=hm o2 vG
    have YI:v<s1.H.length:=aJ iV BZ
    have vY:c2.ι v 0=some L:=zS.old v 0 L YI uB
    obtain⟨r2,d1,d2,d3,_,d5⟩:=IB HK ng vY
    have key:∀ (j:Option Code),o2.wA.is { r2 with state:=if j.isNone then .ready else .done,pending:=j }→j.isNone = !o2.stop→∃ v w',(Instr.endRound L.b j).run P w3 = .ok v w'∧next (a.put o.dst v) w':=by
     intro j hj XV
     obtain⟨e1,e2,e3⟩:=SJ (P:=P) (st':=o2.wA) HK ng vY d1 { r2 with state:=if j.isNone then .ready else .done,pending:=j } rfl rfl rfl rfl hj
     have hg:(Instr.getLoop L.b).run P w3 = .ok r2 w3:=by simp[Instr.getLoop,getObj,Sem.run,d1]
     refine⟨.bool j.isNone,{ w3 with heap:=w3.heap.setIfInBounds L.b (.loop { r2 with state:=if j.isNone then .ready else .done,pending:=j }) },?_,?_⟩
     ·simp only[Instr.endRound,Sem.run_bind,hg,Result.andThen_ok,e3]
      rfl
     ·have Xq:eW c2 { w3 with heap:=w3.heap.setIfInBounds L.b (.loop { r2 with state:=if j.isNone then .ready else .done,pending:=j }) } (.bool j.isNone) (.b !o2.stop):=by
       have:D.b (!o2.stop)=D.val (.bool j.isNone):=by rw[XV]
       rw[this];exact .val _
      have fm:Step s.H.length c s.H w c2 (o2.st.H.set v (.gL rf kj o2.wA)) { w3 with heap:=w3.heap.setIfInBounds L.b (.loop { r2 with state:=if j.isNone then .ready else .done,pending:=j }) }:=
       (vU.trans (k2.trans (zS.trans e2 zI) (Nat.le_refl _)) BZ)
      refine k o2 kj c2 _ _ vG ng (Nat.le_trans BZ zI) (hs.next e1.eZ fm hd Xq) fm
    cases o2 with
    | norm s2=>exact key none ⟨rfl,rfl⟩ rfl
    | ret s2=>exact key (some .ret) ⟨rfl,rfl⟩ rfl
    | exit id s2=>exact key (some (.exit id)) ⟨rfl,rfl⟩ rfl
def Vy{s:St}(hs:kz G N c w s a){rf:Nat}{ps:Array Tmp}{ac bc:Code}(rT:G.rt rf=some (N,ps,ac,bc))(live:List Nat)(fn:FuncId) :
  ∃ (c2:Ctx) (w2:World) (L1 L2:Loc),(Instr.enterLoop fn a.tmps ps ac bc none).run P w = .ok (L2.b,[{ target:=.collected L1.b,args:=#[] }]) w2∧L1.jc=false∧L2.jc=false ∧
   c2.ι s.H.length 0=some L1∧c2.ι (s.H.length+1) 0=some L2∧fr G c2 (s.H ++ [.kJ,.gL rf (forget live s.env) .ready]) w2∧Step s.H.length c s.H w c2 (s.H ++ [.kJ,.gL rf (forget live s.env) .ready]) w2:=by
 obtain⟨xP,_,vU⟩:=Ii hs.eZ (l5.last s.H) (.deferred (some [])) .kJ rfl rfl (fun _ hb=>by simp only[gq];exact .inr hb)
 simp only[Al.last]at xP vU
 generalize xy:c.set s.H.length 0 ⟨w.heap.size,0,0,false⟩=c1 at xP vU
 have uB:c1.ι s.H.length 0=some ⟨w.heap.size,0,0,false⟩:=by rw[← xy];exact Ctx.qR _ _ _ _
 generalize vW:w.alloc (.deferred (some []))=w1 at xP vU
 have Ci:w1.heap.size=w.heap.size+1:=by rw[← vW];simp
 have BZ:(s.H ++ [Ob.kJ]).length=s.H.length+1:=by simp
 obtain⟨me,_,qg⟩:=Ii xP (l5.last (s.H ++ [.kJ])) (.loop { state:=.ready,pending:=none,fn:=fn,tmps:=a.tmps,params:=ps,assign:=ac,body:=bc,defers:=w.heap.size }) (.gL rf (forget live s.env) .ready) rfl rfl (fun se hb=>by
  simp only[gq]
  refine⟨trivial,_,hb,fun j=>se _ _ ((zi hs.env live j).ox hs.eZ.toHeapOK vU),⟨N,?_,hs.size⟩,rfl,rfl⟩
  rw[← rT,← xP.rt];rfl)
 simp only[Al.last,BZ,aZ,eF]at me qg
 refine⟨_,_,⟨w.heap.size,0,0,false⟩,⟨w1.heap.size,0,0,false⟩,?_,rfl,rfl,?_,Ctx.qR _ _ _ _,me,vU.trans qg (by omega)⟩
 ·subst vW
  simp[Instr.enterLoop]
 ·rw[Ctx.sA _ _ (by omega)];exact uB
def agW{s:St}{n:Nat}{Q:Exit→Act→World→Prop}(hs:kz G N c w s a){g:Operand}{X:X}(hx:cX G g=some X){f:FuncId}{first cap:List D}(oT:ev s.env.get X = .fn (.func f) first cap)
  (kn:p8 P f=true) {rf:Nat} {ps:Array Tmp} {ac bc:Code} (rT:G.rt rf=some (N,ps,ac,bc)) {live:List Nat} {R1:D→U→Prop} {R:Out→Prop}
  (jh:sE P G f (first ++ [.iA (s.H.length+1)]++cap) (s.H ++ [.kJ,.gL rf (forget live s.env) .ready]) R1)
  (k:∀ d H',R1 d H'→∃ env st o,H'[s.H.length+1]? = some (.gL rf env st)∧ym { s with H:=H'.set (s.H.length+1) .dead,marks:=s.H.length::s.marks } st=some o∧R o)
  (hk:tM G N s.H.length s.gZ c s.H w R Q):(Code.rangeFunc g ps ac bc).wpIn (FW none) n P Q a w:=by
 refine wpIn_rangeFunc fun fn _=>?_
 obtain⟨c2,w2,L1,L2,XH,my,ng,uB,vY,me,Q1⟩:=Vy (P:=P) hs rT live fn
 have QU:∀ u d,eW c w u d→eW c2 w2 u d:=fun u d hd=>hd.ox hs.eZ.toHeapOK Q1
 have hr:=ia hs.eZ hs.env hx
 rw[oT]at hr
 generalize hu:a.eval g=u at hr
 cases hr with
 | fn _ fs cs _ _ q1 q2 q3 q4=>
  have YT:eW c2 w2 (.func (.yield L2.b) #[] #[]) (.iA (s.H.length+1)):=.iA _ L2 vY ng
  have iy:iS c2 w2 (fs ++ [Value.func (.yield L2.b) #[] #[]]++cs) (first ++ [.iA (s.H.length+1)]++cap):=
   ((iS.CT q1 fun i v d h1 h2=>QU _ _ (q3 i v d h1 h2)).append (.cons YT .nil)).append (iS.CT q2 fun i v d h1 h2=>QU _ _ (q4 i v d h1 h2))
  have zQ:(resolve a.eval (rangeCall g L2.b) 0).run P w2 = .ok { target:=.fn (.func f) cs.toArray,args:=fs.toArray ++ #[Value.func (.yield L2.b) #[] #[]] } w2:=by
   simp[resolve,hu,Deferred.ofValue]
   rfl
  have hinv:(invoke (.fn (.func f) cs.toArray) (fs.toArray ++ #[Value.func (.yield L2.b) #[] #[]])).run P w2 = .ok (.enter f (fs ++ [Value.func (.yield L2.b) #[] #[]]++cs).toArray) w2:=by
   have h2:=IM (P:=P) kn (fs ++ [Value.func (.yield L2.b) #[] #[]]++cs).toArray w2
   simpa[invoke]using h2
  have Hu:=jh c2 w2 _ me iy
  have lD:CallsIn (FW none) (n-1) P f (fs ++ [Value.func (.yield L2.b) #[] #[]]++cs).toArray w2 (rangePost (FW none) n P L2.b Q { a with defers:=[{ target:=.collected L1.b,args:=#[] }]++a.defers }):=by
   refine Bg.2 (Hu.mono ?_)
   rintro e w3 ⟨v,c3,d,H3,rfl,hR,hlen,QP,_,zS⟩
   obtain⟨env,st,q,kf,mf,Kx⟩:=k d H3 hR
   have Ho:(s.H ++ [Ob.kJ,Ob.gL rf (forget live s.env) .ready]).length=s.H.length+2:=by simp
   have uB:c3.ι s.H.length 0=some L1:=zS.old _ 0 L1 (by rw[Ho];omega) uB
   have vY:c3.ι (s.H.length+1) 0=some L2:=zS.old _ 0 L2 (by rw[Ho];omega) vY
   have gD:=QP.ob _ _ kf
   simp only[Ob.gen]at gD
   rw[vY]at gD
   simp only[gq]at gD
   obtain⟨_,r3,KD,_,_,zH⟩:=gD
   have al6:L2.b<w3.heap.size:=(aK.1 KD).1
   obtain⟨m1,m2⟩:=Pf (w':={ w3 with heap:=w3.heap.setIfInBounds L2.b (.loop { r3 with state:=.exhausted }) }) QP kf rfl vY ng ⟨rfl,Nat.le_refl _⟩ rfl rfl (by simp) (fun b hb=>by rw[bB (dB hb)])
   have zF:Step s.H.length c s.H w c3 (H3.set (s.H.length+1) .dead) { w3 with heap:=w3.heap.setIfInBounds L2.b (.loop { r3 with state:=.exhausted }) }:=
    Q1.trans (zS.trans m2 hlen) (by rw[Ho];omega)
   have HO:kz G N c3 { w3 with heap:=w3.heap.setIfInBounds L2.b (.loop { r3 with state:=.exhausted }) } { s with H:=H3.set (s.H.length+1) .dead,marks:=s.H.length::s.marks } { a with defers:=[{ target:=.collected L1.b,args:=#[] }]++a.defers }:=by
    refine⟨m1,fun j=>(hs.env j).ox hs.eZ.toHeapOK zF,hs.size,.cons L1 uB my (hs.marks.mono fun v L h=>zF.old v 0 L ?_ h)⟩
    rcases a8 v s.H.length with h'|h'
    ·exact h'
    ·rw[hs.eZ.out v 0 h']at h;cases h
   have QK:r3.state≠.busy:=by
    cases st with
    | busy=>cases mf
    | ready=>rw[zH.1];decide
    | w9=>rw[zH.1];decide
    | vw=>rw[zH.1];decide
   have Qr:(Instr.endLoop L2.b).run P w3 = .ok r3.pending { w3 with heap:=w3.heap.setIfInBounds L2.b (.loop { r3 with state:=.exhausted }) }:=by
    have hg:(Instr.getLoop L2.b).run P w3 = .ok r3 w3:=by
     have:w3.heap[L2.b]? = some (.loop r3):=KD
     simp[Instr.getLoop,getObj,Sem.run,this]
    have QZ:(setObj L2.b (.loop { r3 with state:=.exhausted })).run P w3 = .ok () { w3 with heap:=w3.heap.setIfInBounds L2.b (.loop { r3 with state:=.exhausted }) }:=by
     have:w3.heap[L2.b]? = some (.loop r3):=KD
     simp[setObj,Sem.run,this]
    have Xt:(r3.state == .busy)=false:=by
     generalize r3.state=x at QK
     cases x<;>first|rfl|exact absurd rfl QK
    simp only[Instr.endLoop,Sem.run_bind,hg,Result.andThen_ok,Xt,QZ]
    simp[QZ]
   generalize ({ w3 with heap:=w3.heap.setIfInBounds L2.b (.loop { r3 with state:=.exhausted }) }:World)=W at HO zF Qr
   refine⟨r3.pending,W,Qr,?_⟩
   have K4:s.H.length≤(H3.set (s.H.length+1) .dead).length:=by
    rw[Ho]at hlen
    simp;omega
   cases st with
   | busy=>cases mf
   | ready=>
    cases mf
    rw[zH.2]
    exact hk _ c3 _ _ Kx rfl K4 HO zF
   | w9=>
    cases mf
    rw[zH.2]
    exact wpIn_ret (hk _ c3 _ _ Kx rfl K4 HO zF)
   | vw id=>
    cases mf
    rw[zH.2]
    exact wpIn_exit (hk _ c3 _ _ Kx rfl K4 HO zF)
  exact⟨L2.b,_,w2,_,w2,f,_,w2,XH,zQ,fun _ _=>trivial,hinv,fun h=>by simp[Fence.wide]at h,lD⟩

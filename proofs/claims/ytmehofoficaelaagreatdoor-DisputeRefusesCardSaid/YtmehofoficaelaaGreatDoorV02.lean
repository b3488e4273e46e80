/- 2 -/
import Derived.Test.YtmehofoficaelaaGreatDoorV01
set_option linter.all false
open Go renaming run_underlying→aE,Value→bs,grownCap→cp,TypeId→dr,run_sliceBound→ez,Operand→e8,grownCap_le_maxLen→gb,maxLen→iK,run_firstCells_some→iV,size_zeroCells→jk,World→jm,run_storeCells_at→j',grownCap_ge→ku,Addr→kx,heap_alloc_new→kJ,sizeOf→lp,asIntOf→lz,TypeInfo→mn,typeInfo→mX,newRow→nf,storeCells→ns,Program→nB,Field→ou,IntKind→oy
open Option renaming some→bb,none→fp
open Go.Result renaming andThen_ok→b4
open Go.Addr renaming add_lit→cc,add→o7
open Go.Builtin renaming firstCells→di,zeroCells→dx,append_→er,len_→eK,lenOf→eL,copy_→hY,max_→lU,min_→lX,min2→oc,max2→om
open Go.Instr renaming sliceAt→eh,sliceBounds→ep,indexAt→ga,sureAddr→hh,storeAt→hU,index→kf,fieldAt→lb,slice→mV,buildSlice→nm,makeSlice→nK,extract→nT,makeMap→nU,field→ox
open Go.Sem renaming run_bind→ek,run_pure→en,run_ite→hI
open Nat renaming le_refl→eB,mod_eq_sub_mod→nC,div_add_mod'→n4,mul_eq_zero→n',min_le_left→ot,le_succ→pd
open Array renaming range→fa,map→oY
open Bool renaming false→fb
open List renaming replicate→fx,take→iN,getElem?_eq_getElem→la,getElem?_of_mem→mU,drop→nP,take_left→oJ,length→List.l
open Int renaming toNat→Int.n
namespace Go.AL
open Go
section
variable{P:nB}{G:GT}{c:Ctx}{H:gd}{w:jm}{K:jO}{env:gZ}{a:Act}
theorem IF{L:Loc}(a:L.jN=fb)(h0:L.base=0)(v k sz len cap:Nat)(b:L.top=cap*sz)(e:len<=cap)(d:cap<=iK) :
  gj (c.set v k L) w (.slice (bb ⟨L.b,0,fp⟩) len cap) (.gf v k sz 0 len):=by
 have:=gj.gf (c:=c.set v k L) (w:=w) v k sz 0 len cap L (Ctx.sP _ _ _ _) a e d (by simp[h0,b]);simpa[h0]using this
theorem Ng(zs:List bs)(z:List D)(b:∀c w,Cells c w zs z)(n:Nat):Cells c w (fx n zs).flatten (fx n z).flatten:=by
 induction n with
 | zero=>exact Cells.nil
 | succ n a=>rw[br,br,a7,a7];exact(b c w).append a
theorem OR(zs:Array bs)(n:Nat)(h0:0<zs.size):((fa (n*zs.size)).map (λi=>zs[i % zs.size]!)).toList=(fx n zs.toList).flatten:=by
 apply bU;intro i;simp only[Array.toList_map,Array.toList_range,ax]
 by_cases hi:i<n*zs.size
 .rw[bS hi]
  have key:∀(n i:Nat),i<n*zs.size->(fx n zs.toList).flatten[i]? = bb (zs[i % zs.size]!):=by
   intro n
   induction n with
   | zero=>intro i hi;simp at hi
   | succ n a=>
    intro i hi;rw[br,a7]
    by_cases hl:i<zs.size
    .rw[ah (by simpa using hl),ff hl];simp[hl]
    .rw[ak (by simpa using hl)];have:i-zs.size<n*zs.size:=by rw[bq]at hi;omega
     rw[(fZ:i-zs.toList.l=i-zs.size),a _ this,<-nC U]
  rw[key n i hi];rfl
 .simp_all
theorem al0(h:gI G c H w){al:Al}(W:np H al)(he:lj c w env a){t e:dr}{sz n:Nat}{z:List D}{ops:Array (Nat×e8)}{ps:List (Nat×X)}
  (Z:P.underlying t=bb (.slice e)) (Y:rH P e=bb z) (hs:kG P e=bb sz) (k:zt G ops.toList=bb ps) (N:z.l=sz) (V:0<sz) (ng:n*sz<=16777216)
  (f:Gc env e sz z n ps al K):∃r w',(nm t n (ops.map λ(i,x)=>(i,a.eval x))).run P w = .ok r w'/\ju G c H w K r w':=by
 unfold Gc at f;split at f
 .rename_i l hl;split at f
  .rename_i cs E;obtain⟨b,O,_,B⟩:=AO Y w;obtain⟨C,T⟩:=Mt h he ops.toList k;obtain⟨S,R⟩:=Tc hl;have Q:b.cells.size=sz:=by have:=(B c w).len;simp at this;omega
   have J:Cells c w ((fa (n*sz)).map (λi=>b.cells[i % b.cells.size]!)).toList (fx n z).flatten:=by rw[<-Q,OR b.cells n U];exact Ng _ _ B n
   obtain⟨d,j,s⟩:=Na (c:=c) (w:=w) (λi=>bb (i*sz,sz)) (ops.toList.map λx=>(x.1,a.eval x.2)) l _ _ cs J (by simp[S,C]) (λi x q I HN=>by
    simp only[ax,ao]at I;obtain⟨y,F,rfl⟩:=I;have hi:i<ops.toList.l:=(ae.1 F).1;obtain⟨p,A⟩:=Nj C hi;obtain⟨e1,e2⟩:=T i y p F A;obtain⟨e4,e5,e6⟩:=R i (p.1*sz,sz,p.2) q (by simp[A]) HN
    exact⟨by simp[e4,e5,e1],Dv e2 e6⟩) E
   have g:d.size=n*sz:=by
    have h1:=s.len
    have u:cs.l=(fx n z).flatten.l:=by
     clear f s j h1 J
     have key:∀(ps:List (Nat×Nat×List D)) (cs rs:List D),lay ps cs=bb rs->rs.l=cs.l:=by
      intro ps
      induction ps with
      | nil=>intro cs rs h;simp[lay]at h;subst h;rfl
      | cons p ps ih=>
       intro cs rs h;obtain⟨o,m,xs⟩:=p;simp only[lay]at h;split at h
       .grind
       .cases h
     exact key _ _ _ E
    rw[u]at h1;simp[N]at h1;exact h1
   obtain⟨L,h1,u,h3,h4,h5,h6⟩:=ES h w (ko.refl w) e d.toList cs d.size d (W _).uv s (by rw[<-dj,db]) (eB _);refine⟨.slice (bb ⟨w.heap.size,0,fp⟩) n n,w.alloc (.cells d e),?_,?_⟩
   .have v:¬n*sz>2 ^ 24:=by omega
    simp only[nm,ek,aE Z,b4,rA hs,hI];rw[if_neg v];have M:(oY (λx=>(x.fst,a.eval x.snd)) ops).toList=ops.toList.map λx=>(x.1,a.eval x.2):=fZ
    by_cases h0:n*sz=0
    .have hn:n=0:=by rcases n'.1 h0 with h|h<;>omega
     subst hn;simp only[cS]at j;simp only[cS,if_true,en,b4,M];have e0:(oY (λx=>(#[]:Array bs)[x % (#[]:Array bs).size]!) (fa 0))=oY (λi=>b.cells[i % b.cells.size]!) (fa 0):=fZ;rw[e0,j];simp[nf]
    .rw[if_neg h0];simp only[ek,O,b4,en,M,j];simp[nf]
   .have k:=IF (c:=c) (w:=w.alloc (.cells d e)) h1 h3 al.1 0 sz n n (by rw[h4,g]) (eB _) (by
     have:n<=n*sz:=Nat.le_mul_of_pos_right n V
     unfold iK;omega)
    rw[u]at k;exact⟨_,_,_,f,h5,k,h6⟩
  .exact f.elim
 .grind
theorem anB{t:dr}{n:Nat}(hs:kG P t=bb n){v:bs}(a:v.cells.size=n)(b o:Nat) :
  (hU t (.pointer (bb ⟨b,o,fp⟩)) v).run P w=(ns ⟨b,o,fp⟩ v.cells.toList).run P w:=by
 simp[hU,hh,storeVar,rA hs,a]
theorem Z'(h:gI G c H w){v g o:Nat}{t a:dr}{cs xs:List D}(l:H[v]? = bb (.row a g cs)){u x:bs}(B:gj c w u (.ptr v g o)){n:Nat}(hs:kG P t=bb n)
  (b:Cells c w x.cells.toList xs) (C:xs.l=n) (O:o+n<=cs.l) (E:K .any (H.set v (.row a g (cs.take o++xs++cs.drop (o+n))))) :
  ∃w',(hU t u x).run P w = .ok () w'/\ju G c H w K undef w':=by
 cases B with
 | ptr _ _ _ L p j=>
  obtain⟨arr,h1,M,Q,J⟩:=yU h l p j;have f:x.cells.size=n:=by have:=b.len;simp at this;omega
  have q:=j' P L.b (L.base+o) a x.cells.toList 0 arr w h1 gL b.one;simp only[cA]at q
  have k:=Ft h l p j h1 (arr.toList.take (L.base+o)++x.cells.toList++arr.toList.drop (L.base+o+x.cells.toList.l)).toArray
   gL M (cs.take o++xs++cs.drop (o+n)) gL (λi d m=>by
    have r:=J.sQ b o;rw[C]at r;obtain⟨y,A,I,F⟩:=r.get m;refine⟨y,?_,I,F⟩;rw[<-A];simp only[dy];have e:x.cells.toList.l=n:=by simpa using f
    have s:(iN (L.base+o) arr.toList).l=L.base+o:=gL;have z:(iN o (iN cs.l (nP L.base arr.toList))).l=o:=gL
    by_cases R:i<o
    .grind
    .by_cases c2:i<o+n
     .grind
     .have N:i<cs.l:=by have:=(ae.1 m).1;simp at this;omega
      rw[ak gL,ak gL];simp only[aK,aG,aq,s,z,e];rw[if_pos U];congr 1
      omega)
  exact⟨_,by rw[anB hs f];exact q,.any,_,c,E,k.1,.any _,k.2⟩
theorem amt(h:gI G c H w){t:dr}(hs:kG P t=bb 1){p x:D}{u v:bs}(h1:gj c w u p)(f:gj c w v x)(a:I9 p x H K) :
  ∃w',(hU t u v).run P w = .ok () w'/\ju G c H w K undef w':=by
 unfold I9 at a;split at a
 .rename_i v0 k o;split at a
  .rename_i j cs d;obtain⟨g,i,a⟩:=a;have b:=uo d;dsimp only at b;refine Z' h b h1 hs (Dv f (amw i)) rfl U ?_
   have e:cs.take o ++ [x]++cs.drop (o+1)=cs.set o x:=by rw[cG,if_pos g];simp
   rw[e];exact a
  .exact a.elim
 .grind
theorem amu(h:gI G c H w){t:dr}{n:Nat}(hs:kG P t=bb n){p x:D}{u v:bs}(h1:gj c w u p)(f:gj c w v x)(a:I' n p x H K) :
  ∃w',(hU t u v).run P w = .ok () w'/\ju G c H w K undef w':=by
 unfold I' at a;split at a
 .rename_i v' j o xs g;split at a
  .rename_i i cs d;obtain⟨e,b,a⟩:=a;exact Z' h (uo d) h1 hs (Dv f g) e b a
  .exact a.elim
 .grind
theorem al9(h:gI G c H w){t:dr}{f n:Nat}{fs:Array ou}{a:ou}(j:P.underlying t=bb (.struct fs))(k:fs[f]? = bb a)(hs:kG P a.type=bb n)(s:0<n)
  {x:D} {u:bs} (h1:gj c w u x) (d:GF a.offset x H K):∃r,(lb t u f).run P w = .ok r w/\ju G c H w K r w:=by
 have e:∀b o,(lb t (.pointer (bb ⟨b,o,fp⟩)) f).run P w = .ok (.pointer (bb ⟨b,o+a.offset,fp⟩)) w:=λb o=>by simp only[lb,ek,aE j,b4,k];simp only[hh,en,b4,fieldPlace,ek,rA hs,hI];rw[if_neg U];simp[cc]
 unfold GF at d;split at d
 .rename_i v g o
  cases h1 with
  | ptr _ _ _ L q i=>
   refine⟨_,e _ _,.plain h d ?_⟩;have:=gj.ptr (c:=c) (w:=w) v g (o+a.offset) L q i;rwa [<-a8]at this
 .obtain⟨b,p,rfl,m,l⟩:=zu h1;exact⟨_,e _ _,.plain h d (Qy m (l.drop _))⟩
 .grind
theorem Z9(h:gI G c H w){t:dr}{n:Nat}{b:Bool}(f:pj P t=bb b)(hs:kG P t=bb n){vs:List bs}{cs:List D}(e:Cells c w vs cs){off:Nat}
  (a:Bp off n b (.agg cs) H K):∃r,(part t vs.toArray off).run P w = .ok r w/\ju G c H w K r w:=by
 simp only[Bp]at a
 cases b with
 | true=>
  simp only[if_true]at a;refine⟨.agg ((vs.drop off).take n).toArray,?_,.plain h a.2 ((e.drop off).take n).agg⟩;simp[part,CF f,rA hs,List.extract_toArray,List.take_drop]
 | false=>
  simp only[bC,if_false]at a;split at a
  .rename_i d j;obtain⟨v,g,_,i⟩:=e.get j;refine⟨v,?_,.plain h a i⟩;simp[part,CF f,g]
  .grind
theorem al8(h:gI G c H w){t:dr}{f n:Nat}{b:Bool}{fs:Array ou}{a:ou}(g:P.underlying t=bb (.struct fs))(k:fs[f]? = bb a)(l:pj P a.type=bb b)(hs:kG P a.type=bb n)
  {x:D} {u:bs} (h1:gj c w u x) (d:Bp a.offset n b x H K):∃r,(ox t u f).run P w = .ok r w/\ju G c H w K r w:=by
 have e:∃cs,x = .agg cs:=by cases x<;>first|exact⟨_,rfl⟩|exact(show False from d).elim
 obtain⟨cs,rfl⟩:=e
 cases h1 with
 | agg vs _ hl h1 m=>
  obtain⟨r,i,j⟩:=Z9 h l hs ⟨hl,h1,m⟩ d;exact⟨r,by simp[ox,aE g,k,asAgg,i],j⟩
theorem amb(h:gI G c H w){t e:dr}{sz:Nat}(N:P.underlying t=bb (.slice e))(hs:kG P e=bb sz)(W:0<sz){x i:D}{u v:bs}(h1:gj c w u x)(z:gj c w v i)(a:H7 sz x i H K) :
  ∃r,(ga t u v).run P w = .ok r w/\ju G c H w K r w:=by
 have s:∀(ad:kx) (len cap:Nat) (k:oy) (n:Int),0<=n/\n<len->(ga t (.slice (bb ad) len cap) (.int k n)).run P w = .ok (.pointer (bb (ad.add (n.n*sz)))) w:=λad len cap k n f=>by simp only[ga,ek,lz,en,b4,aE N,rA hs,hI];rw[if_pos f]
 unfold H7 at a;split at a
 .rename_i q es k n;obtain⟨rfl,f,a⟩:=a;cases z
  cases h1 with
  | sl ad len cap _ _ g E I C J B p O=>
   have hi:n.n<es.l:=U
   cases ad with
   | none=>have:=B rfl;omega
   | some ad=>
    refine⟨_,s ad len cap k n ⟨f.1,U⟩,.plain h a ?_⟩;have m:es[n.n]? = bb es[n.n]:=by simp[hi]
    have A:es.getD n.n []=es[n.n]:=by simp[hi]
    rw[A];have hl:es[n.n].l=q:=J _ (bP hi);obtain⟨d0,F⟩:∃d0,es[n.n][0]? = bb d0:=⟨es[n.n][0]' U,fZ⟩;obtain⟨b,o,e,y,_,_⟩:=p n.n _ 0 d0 m F;cases e;rw[cc];refine .gC b (o+n.n*q) _ (g n.n) y (λj d l=>?_) (λj d l=>O _ _ j d m l);obtain⟨Y,o',e,_,R,Q⟩:=p n.n _ j d m l;cases e;exact⟨by rw[a8];exact R,Q⟩
 .rename_i vs k n;obtain⟨rfl,f,a⟩:=a;cases z
  cases h1 with
  | kW ad _ C B p=>
   have hi:n.n<vs.l:=U;have m:vs[n.n]? = bb vs[n.n]:=by simp[hi]
   have A:vs.getD n.n undef=vs[n.n]:=by simp[hi]
   obtain⟨b,o,e,y,T,h1⟩:=p _ _ m;subst e;refine⟨_,s _ vs.l vs.l k n f,.plain h a ?_⟩;rw[A,cc];refine .gC b (o+n.n*1) _ (λ_=>vs[n.n]) y (λj d l=>?_) (λj d l=>?_)
   .grind
   .have:j=0:=by have:=(ae.1 l).1;simp at this;exact this
    subst this;cases l;exact .val _
 .rename_i v0 X q off len k n;obtain⟨rfl,f,a⟩:=a;cases z
  cases h1 with
  | gf _ _ _ _ _ cap L S M I C V=>
   refine⟨_,s _ len cap k n f,.plain h a ?_⟩;rw[cc,a8,<-bq];exact .ptr _ _ _ L S M
  | lB=>omega
 .exact a.elim
end
section
variable{P:nB}{G:GT}{c:Ctx}{H:gd}{w:jm}{K:jO}{env:gZ}{a:Act}
theorem amc(h:gI G c H w){t e:dr}{sz n:Nat}(l:P.underlying t=bb (.array n e))(hs:kG P e=bb sz){x i:D}{u v:bs}(h1:gj c w u x)(g:gj c w v i)(a:H8 sz n x i H K) :
  ∃r,(ga t u v).run P w = .ok r w/\ju G c H w K r w:=by
 have f:∀(ad:kx) (k:oy) (m:Int),0<=m/\m<n->(ga t (.pointer (bb ad)) (.int k m)).run P w = .ok (.pointer (bb (ad.add (m.n*sz)))) w:=λad k m d=>by simp only[ga,ek,lz,en,b4,aE l,rA hs,hI,hh];rw[if_pos d]
 unfold H8 at a;split at a
 .rename_i v0 z o k m;obtain⟨d,a⟩:=a;cases g
  cases h1 with
  | ptr _ _ _ L y j=>
   refine⟨_,f _ k m d,.plain h a ?_⟩;rw[cc,a8];exact .ptr _ _ _ L y j
 .rename_i cs k m;obtain⟨d,a⟩:=a;cases g;obtain⟨b,p,rfl,s,q⟩:=zu h1;refine⟨_,f _ k m d,.plain h a ?_⟩;rw[cc];exact Qy s (q.drop _)
 .exact a.elim
theorem ama(h:gI G c H w){t e:dr}{sz n:Nat}{b:Bool}(f:P.underlying t=bb (.array n e))(hs:kG P e=bb sz)(o:pj P e=bb b){x i:D}{u v:bs}(h1:gj c w u x)(d:gj c w v i)(a:Ia sz n b x i H K) :
  ∃r,(kf t u v).run P w = .ok r w/\ju G c H w K r w:=by
 unfold Ia at a;split at a
 .rename_i cs k m;obtain⟨l,a⟩:=a;cases d
  cases h1 with
  | agg vs _ hl h1 d=>
   obtain⟨r,g,j⟩:=Z9 (off:=m.n*sz) h o hs ⟨hl,h1,d⟩ a;refine⟨r,?_,j⟩;simp only[kf,ek,lz,en,b4,aE f,hI];rw[if_pos l];simp[rA hs,g]
 .exact a.elim
theorem amd(h:gI G c H w){t:dr}(d:P.underlying t=bb .string){x i:D}{u v:bs}(h1:gj c w u x)(f:gj c w v i)(a:Ib x i H K) :
  ∃r,(kf t u v).run P w = .ok r w/\ju G c H w K r w:=by
 unfold Ib at a;split at a
 .rename_i s k m;obtain⟨e,a⟩:=a;cases h1;cases f;have b:m.n<s.size:=U
  have hl:s.data.toList.getD m.n 0=s[m.n]:=by have g:m.n<s.data.size:=b;show(s.data.toList[m.n]?).getD 0=s.data[m.n];rw[bE,bR g];rfl
  rw[hl]at a;refine⟨_,?_,.val h a⟩;simp only[kf,ek,lz,en,b4,aE d];rw[if_pos e.1];simp[b]
 .exact a.elim
theorem al7(h:gI G c H w){x:D}{i:Nat}{u:bs}(h1:gj c w u x)(a:Gy x i H K):∃r,(nT u i).run P w = .ok r w/\ju G c H w K r w:=by
 unfold Gy at a;split at a
 .split at a
  .rename_i ds d b
   cases h1 with
   | tup vs _ hl h1=>
    have hi:i<vs.l:=by rw[hl];exact(ae.1 b).1
    refine⟨vs[i],?_,.plain h a (h1 i _ d (by simp[hi]) b)⟩;simp[nT,hi]
  .exact a.elim
 .exact a.elim
theorem ami(h:gI G c H w)(j:lj c w env a){f:Fn}{first cap:Array e8}{b d:List X}(h1:xV G first.toList=bb b)(m:xV G cap.toList=bb d)
  (k:K (.fn f (b.map (ev env)) (d.map (ev env))) H):ju G c H w K (.func f (first.map a.eval) (cap.map a.eval)) w:=by
 have i:=A8 h j first.toList h1
 have g:=A8 h j cap.toList m;refine .plain h k ?_;have:=gj.fn (c:=c) (w:=w) f (first.toList.map a.eval) (cap.toList.map a.eval) (b.map (ev env)) (d.map (ev env)) i.l g.l i.get g.get;have e:∀l:Array e8,(l.toList.map a.eval).toArray=l.map a.eval:=λl=>by cases l;simp
 rwa [e,e]at this
theorem amj(h:gI G c H w){al:Al}(e:np H al)(t:dr)(kk:KK)(f:K (.gH al.1) (al.2 (.map kk []))):∃r w',(nU t fp).run P w = .ok r w'/\ju G c H w K r w':=by
 have a:=ko.alloc w (.map #[] 0);have d:(⟨w.heap.size,0,0,fb⟩:Loc).jN=fb->w.heap.size<=(⟨w.heap.size,0,0,fb⟩:Loc).b/\(⟨w.heap.size,0,0,fb⟩:Loc).b<(w.alloc (.map #[] 0)).heap.size:=λ_=>⟨eB _,fZ⟩;have b:=(e (.map kk [])).uv;have hs:=Pp h b a ⟨w.heap.size,0,0,fb⟩ d;refine⟨.map (bb w.heap.size),w.alloc (.map #[] 0),by simp[nU],_,_,_,f,TV h b a _ d rfl ?_,?_,hs⟩
 .simp only[ik];exact⟨trivial,fZ,#[],0,kJ _ _,⟨rfl,fZ,fZ⟩⟩
 .exact .gH (c:=c.set al.1 0 ⟨w.heap.size,0,0,fb⟩) al.1 ⟨w.heap.size,0,0,fb⟩ (Ctx.sP _ _ _ _) rfl
theorem amk(h:gI G c H w){al:Al}(x:np H al){t e:dr}{i:mn}{z:List D}(A:P.underlying t=bb (.slice e))(hi:P.info? e=bb i)(y:rH P e=bb z)(V:z.l=i.size)(X:0<i.size)
  {l m:D} {u v:bs} (h1:gj c w u l) (C:gj c w v m) (b:Ix e i.size i.bytes z l m al K):∃r w',(nK t u v).run P w = .ok r w'/\ju G c H w K r w':=by
 unfold Ix at b;split at b
 .rename_i k n Y q;obtain⟨⟨W,B,Z,hb⟩,b⟩:=b;cases h1;cases C;obtain⟨a,o,_,d⟩:=AO y w;have p:a.cells.size=i.size:=by have:=(d c w).len;simp at this;omega
  have wn:IntKind.i64.wrap n=n:=wrap_i64 (by unfold nX;omega);have g:IntKind.i64.wrap q=q:=wrap_i64 (by unfold nX;omega)
  have s:Cells c w ((fa (q.n*i.size)).map (λj=>a.cells[j % a.cells.size]!)).toList (fx q.n z).flatten:=by rw[<-p,OR a.cells q.n U];exact Ng _ _ d _
  obtain⟨L,O,N,M,J,I,F⟩:=ES h w (ko.refl w) e _ _ ((fa (q.n*i.size)).map (λj=>a.cells[j % a.cells.size]!)).size ((fa (q.n*i.size)).map (λj=>a.cells[j % a.cells.size]!)) (x _).uv s (by rw[<-dj,db]) (eB _);refine⟨.slice (bb ⟨w.heap.size,0,fp⟩) n.n q.n,w.alloc (.cells ((fa (q.n*i.size)).map (λj=>a.cells[j % a.cells.size]!)) e),?_,?_⟩
  .have S:¬((i.bytes:Int)*q>2 ^ 48):=by omega
   have c2:¬q<0:=U;have R:¬n<0:=U;have Q:¬n>q:=U;simp only[nK,ek,aE A,b4,asInt,lz,en,run_typeInfo hi,wn,g,hI];rw[if_neg (by simp[S,c2,R,Q];omega)]
   by_cases h0:q.n*i.size=0
   .have T:q.n=0:=by rcases n'.1 h0 with h|h<;>omega
    have E:fa 0=(#[]:Array Nat):=rfl;simp[lp,run_typeInfo hi,T,nf,E]
   .simp[lp,run_typeInfo hi,h0,o,nf]
  .have f:=IF (c:=c) (w:=w.alloc (.cells ((fa (q.n*i.size)).map (λj=>a.cells[j % a.cells.size]!)) e)) O M al.1 0 i.size n.n q.n (by rw[J];simp) U (by unfold iK;omega);rw[N]at f;exact⟨_,_,_,b,I,f,F⟩
 .exact b.elim
end
section
variable{P:nB}{G:GT}{c:Ctx}{H:gd}{w:jm}{K:jO}{env:gZ}{a:Act}
theorem Nd{α:Type}(sz:Nat)(c:0<sz):∀(ls:List (List α)),(∀l∈ls,l.l=sz)->∀j:Nat,ls.flatten[j]? = (ls[j / sz]?).bind (·[j % sz]?)
 | [],_,j=>fZ
 | l::ls,h,j=>by
  have hl:l.l=sz:=h l fZ;rw[a7]
  by_cases d:j<sz
  .rw[ah U,Nat.div_eq_of_lt d,ff d];simp
  .rw[ak U,hl,Nd sz c ls (λl hl=>h l (by simp[hl])),Nat.div_eq_sub_div (a:=j) (b:=sz) c U,nC (a:=j) (b:=sz) U];simp
theorem Nf{α:Type}(sz:Nat):∀(ls:List (List α)),(∀l∈ls,l.l=sz)->ls.flatten.l=ls.l*sz
 | [],_=>fZ
 | l::ls,h=>by rw[a7,aq,Nf sz ls (λl hl=>h l (by simp[hl])),h l fZ,aI,bq];omega
theorem TQ(h:gI G c H w){sz:Nat}(R:0<sz){d:D}{u:bs}(p:gj c w u d){x:List D}{n:Nat}(f:lu sz H d=bb (x,n)) :
  ∃y E vs,u = .slice y n E/\Cells c w vs x/\x.l=n*sz/\n<=E/\(y=fp->n=0)/\(∀ad,y=bb ad->∀(j:Nat) (v:bs),vs[j]? = bb v->w.cell? (ad.add j)=bb v):=by
 unfold lu at f;split at f
 .rename_i k es;split at f
  .rename_i e;subst e;cases f
   cases p with
   | sl ad len cap _ _ g q J K M A r p=>
    have Hy:=Nf k es M
    have I:∀(j:Nat) (d:D),es.flatten[j]? = bb d->∃e,es[j / k]? = bb e/\e[j % k]? = bb d:=λj d l=>by
     rw[Nd k R es M]at l
     cases N:es[j / k]? with
     | none=>simp[N]at l
     | some e=>exact⟨e,rfl,by simpa[N]using l⟩
    refine⟨ad,cap,(List.range es.flatten.l).map λj=>g (j / k) (j % k),by rw[q],⟨fZ,λv a=>?_,λi v d a l=>?_⟩,Hy,U,λe=>by have:=A e;omega,λb m j v a=>?_⟩
    .simp only[az,bp]at a;obtain⟨j,s,rfl⟩:=a;obtain⟨e,C,z⟩:=I j _ (by rw[la s]);obtain⟨_,_,_,_,_,h1⟩:=r _ e _ _ C z;exact h1
    .grind
    .have s:j<es.flatten.l:=by have:=(ae.1 a).1;simpa using this
     simp only[ax,bS s,aH,ar]at a;subst a;obtain⟨e,C,z⟩:=I j _ (by rw[la s]);obtain⟨Z,o,F,_,O,_⟩:=r _ e _ _ C z;rw[m]at F;cases F;rw[cc];have B:=O;rw[n4 j k]at B;exact B
  .cases f
 .cases f
  cases p with
  | gi=>exact⟨fp,0,[],rfl,Cells.nil,fZ,eB _,λ_=>rfl,λ_ _ j v a=>by simp at a⟩
 .rename_i vs;split at f
  .rename_i Y;subst Y;cases f
   cases p with
   | kW ad _ K A r=>
    refine⟨ad,vs.l,vs,rfl,⟨fZ,λv a=>?_,λi v d a l=>?_⟩,fZ,eB _,λe=>by rw[A e];rfl,λb m j v a=>?_⟩
    .obtain⟨i,hi⟩:=mU a;obtain⟨_,_,_,_,_,h1⟩:=r i v hi;exact h1
    .simp only[ax,a,aH,ar]at l;subst l;exact .val _
    .obtain⟨Z,o,W,_,Q,_⟩:=r j v a;rw[W]at m;cases m;rw[cc];exact Q
  .cases f
 .rename_i v0 g0 k off len;split at f
  .rename_i t cs T;split at f
   .rename_i S;obtain⟨rfl,ng⟩:=S;cases f;have a:=uo T;dsimp only at a
    cases p with
    | gf _ _ _ _ _ cap L P V J K lV=>
     obtain⟨arr,h1,O,B,X⟩:=yU h a P V;refine⟨_,cap,_,rfl,((X.drop (off*k)).take (n*k)),?_,J,(λe=>nomatch e),λad m j v a=>?_⟩
     .grind
     .cases m;rw[cc];rw[aG]at a;split at a
      .rw[aK,aG]at a;split at a
       .rw[aK]at a;simp[World.cell?,h1];rw[a8];simpa using a
       .cases a
      .cases a
    | lB _ _ _ _ L P ad=>
     refine⟨ad,0,[],rfl,?_,fZ,eB _,λ_=>rfl,λ_ _ j v a=>by simp at a⟩;simp only[cS,eP];exact Cells.nil
   .cases f
  .cases f
 .cases f
theorem U2:∀ {vs:List bs} {a:List D} {b:List Int},vs.l=a.l->(∀(i:Nat) (v:bs) (d:D),vs[i]? = bb v->a[i]? = bb d->gj c w v d)->bytesOf a=bb b->vs=b.map (Value.int .u8)
 | [],[],b,_,_,h=>by cases h;rfl
 | v::vs,y::a,b,hl,hr,h=>by
  unfold bytesOf at h;split at h
  .grind
  .rename_i n r f;cases f;split at h
   .rename_i l g;cases h;have h0:=hr 0 v _ rfl rfl;cases h0;have e:=U2 (vs:=vs) (by simpa using hl) (λi v d j k=>hr (i+1) v d (by simpa using j) (by simpa using k)) g;rw[e];rfl
   .cases h
  .cases h
theorem alW(h:gI G c H w){s d e:dr}(hs:P.underlying s=bb (.slice e))(p:P.underlying e=bb (.int .u8))(q:P.underlying d=bb .string){x:D}{u:bs}(h1:gj c w u x)(a:F9 x H K) :
  ∃r,(convert s d u).run P w = .ok r w/\ju G c H w K r w:=by
 unfold F9 at a;split at a
 .rename_i y n l;obtain⟨j,i,vs,m,b,k,z,v,HX⟩:=TQ h U h1 l;subst m;split at a
  .rename_i f t;have g:=U2 b.len b.rep t;refine⟨_,?_,.val h a⟩;rw[run_convert_bytes_string w s d e j n i hs p q]
   cases j with
   | none=>
    have o:=v rfl;subst o
    have:f = []:=by
     have:vs = []:=aV (by rw[b.len,k]);rw[this]at g
     cases f with
     | nil=>rfl
     | cons=>cases g
    subst this;simp[Conv.bytesToString]
   | some ad=>
    refine run_bytesToString w ad n i f ?_;have hl:vs.l=n:=by rw[b.len,k];simp
    have:=run_loadCells_list (P:=P) w ad vs (HX ad rfl);rw[hl]at this;rw[this,g]
  .exact a.elim
 .grind
theorem ace(h:gI G c H w)(i:lj c w env a){x:Option e8}{X:Option X}(e:sv G x=bb X){d:Int}{n:Int}(b:iq env X d=bb n) :
  (x=fp/\n=d)\/∃k o,x=bb o/\a.eval o = .int k n:=by
 cases x with
 | none=>cases e;simp[iq]at b;exact .inl ⟨rfl,b.symm⟩
 | some o=>
  simp only[sv,ao]at e;obtain⟨j,hX,rfl⟩:=e;have:=iU h i hX;simp only[iq]at b;split at b
  .rename_i k m f;cases b;rw[f]at this;generalize g:a.eval o=v at this;cases this;exact .inr ⟨k,o,rfl,g⟩
  .cases b
theorem O4(a:Bool)(len cap:Nat)(lo hi:Option bs)(l h:Int)(e:(lo=fp/\l=0)\/∃k,lo=bb (.int k l))(d:(hi=fp/\h=len)\/∃k,hi=bb (.int k h))
  (h0:0<=l) (h1:l<=h) (c:h<=cap):(ep a len cap lo hi fp).run P w = .ok (l.n,h.n,cap) w:=by
 have f:(h.n:Int)=h:=cd U;rcases e with⟨rfl,rfl⟩|⟨k,rfl⟩<;>rcases d with⟨rfl,rfl⟩|⟨b,rfl⟩
 .simp[ep]
 .simp[ep,ez w b h cap _ U c]
 .simp[ep,ez w k l len _ h0 h1]
 .simp[ep,ez w b h cap _ U c,ez w k l h.n _ h0 U]
theorem vg(h:gI G c H w)(e:lj c w env a){x:Option e8}{X:Option X}(b:sv G x=bb X){d:Int}{n:Int}(f:iq env X d=bb n) :
  (x.map a.eval=fp/\n=d)\/∃k,x.map a.eval=bb (.int k n):=by
 rcases ace h e b f with⟨rfl,rfl⟩|⟨k,o,rfl,g⟩
 .grind
 .grind
theorem amr(h:gI G c H w)(E:lj c w env a){t e:dr}{sz:Nat}(V:P.underlying t=bb (.slice e))(hs:kG P e=bb sz){lo hi:Option e8}{L M:Option X}(hl:sv G lo=bb L)(Y:sv G hi=bb M)
  {x:D} {u:bs} (h1:gj c w u x) (f:I6 env sz x L M H K):∃r,(eh t u (lo.map a.eval) (hi.map a.eval) fp).run P w = .ok r w/\ju G c H w K r w:=by
 have y:∀(b:Option kx) (len cap:Nat) (l m:Int),iq env L 0=bb l->iq env M len=bb m->0<=l->l<=m->m<=cap ->
   (eh t (.slice b len cap) (lo.map a.eval) (hi.map a.eval) fp).run P w = .ok (.slice (if cap=l.n then b else b.map (·.add (l.n*sz))) (m.n-l.n) (cap-l.n)) w:=by
  intro b len cap l m n k h0 p RG;have hb:=O4 (P:=P) (w:=w) true len cap (lo.map a.eval) (hi.map a.eval) l m (vg h E hl n) (vg h E Y k) h0 p RG;simp only[eh,ek,aE V,b4,mV,hb,rA hs,en]
 unfold I6 at f;split at f
 .rename_i q es;split at f
  .rename_i l m n k;obtain⟨rfl,⟨h0,p,I⟩,f⟩:=f
   cases h1 with
   | sl ad len cap _ _ g s Q R S kQ hc hr=>
    refine⟨_,y ad len cap l m n (by rw[<-s];exact k) h0 p U,.plain h f ?_⟩;have O:∀(i:Nat) (e:List D),((es.drop l.n).take (m.n-l.n))[i]? = bb e->es[l.n+i]? = bb e/\i<m.n-l.n:=λi e hi=>jS;refine .sl _ _ _ q _ (λi j=>g (l.n+i) j) gL U U (λe J=>S e (bt (aX J))) ?_ ?_ ?_
    .intro W;split at W
     .omega
     .simp_all
    .intro i e j d hi Z;obtain⟨h3,h4⟩:=O i e hi;obtain⟨b,o,F,hF,oo,h1⟩:=hc _ e j d h3 Z;refine⟨b,o+l.n*q,?_,hF,?_,h1⟩
     .rw[if_neg U,F];simp[cc]
     .grind
    .grind
  .exact f.elim
 .rename_i v B q off len;split at f
  .rename_i l m n k;obtain⟨rfl,⟨h0,p,I⟩,f⟩:=f
   cases h1 with
   | gf _ _ _ _ _ cap A z T Q R N=>
    refine⟨_,y _ len cap l m n k h0 p U,.plain h f ?_⟩
    by_cases C:cap=l.n
    .rw[if_pos C,(U:m.n-l.n=0),(U:cap-l.n=0)];exact .lB v B q (off+l.n) A z _
    .rw[if_neg C];have:=gj.gf (c:=c) (w:=w) v B q (off+l.n) (m.n-l.n) (cap-l.n) A z T U U (by rw[(U:off+l.n+(cap-l.n)=off+cap)];exact N);simp only[aH,cc];rw[a8,<-bq];exact this
   | lB _ _ _ _ A z ad=>
    have:l=0:=U;subst this;have:m=0:=U;subst this;refine⟨_,y ad 0 0 0 0 n k h0 p U,.plain h f ?_⟩;simp only[eQ,if_true,fg,cA];exact .lB v B q off A z ad
  .exact f.elim
 .split at f
  .rename_i l m n k;obtain⟨⟨rfl,rfl⟩,f⟩:=f
   cases h1 with
   | gi=>
    refine⟨_,y fp 0 0 0 0 n k U U U,.plain h f ?_⟩;simp only[eQ,if_true,fg];exact .gi
  .exact f.elim
 .grind
theorem anA(a:Bool)(len cap:Nat)(lo:Option bs)(k b:oy)(l h m:Int)(d:(lo=fp/\l=0)\/∃k,lo=bb (.int k l))
  (h0:0<=l) (h1:l<=h) (e:h<=m) (c:m<=cap):(ep a len cap lo (bb (.int k h)) (bb (.int b m))).run P w = .ok (l.n,h.n,m.n) w:=by
 have em:(m.n:Int)=m:=cd U;rcases d with⟨rfl,rfl⟩|⟨k0,rfl⟩
 .simp[ep,ez w b m cap _ U c,ez w k h m.n _ U U]
 .simp[ep,ez w b m cap _ U c,ez w k h m.n _ U U,ez w k0 l h.n _ h0 U]
theorem abq:∀ {es:List (List D)} {vs:List bs},Fq es=bb vs->es=vs.map (λv=>[.val v])/\∀v∈vs,v.oneCell'=true
 | [],vs,h=>by cases h;exact⟨rfl,fZ⟩
 | e::es,vs,h=>by
  unfold Fq at h;split at h
  .grind
  .rename_i v r a;cases a;split at h
   .rename_i h1;split at h
    .rename_i l hl;cases h;obtain⟨b,d⟩:=abq hl;exact⟨by rw[b];rfl,λv c=>jS⟩
    .cases h
   .cases h
  .cases h
theorem acH{ad:Option kx}{len sz:Nat}{es:List (List D)}(h1:gj c w (.slice ad len len) (.sl sz es)):gj c w (.slice ad len len) (clip sz es):=by
 unfold clip;split
 .rename_i vs h;split
  .rename_i t;subst t;obtain⟨s,z⟩:=abq h;subst s
   cases h1 with
   | sl _ _ _ _ _ g a x j y f n l=>
    simp only[List.length_map]at a;subst a;refine .kW ad vs j (λe=>aA.1 (f e)) λi v k=>?_;have hi:(vs.map λv=>[D.val v])[i]? = bb [.val v]:=by simp[k]
    obtain⟨b,o,p,q,d,h1⟩:=n i _ 0 _ hi rfl;have hg:=l i _ 0 _ hi rfl
    have r:g i 0=v:=by generalize m:g i 0=u at hg;cases hg;rfl
    rw[r]at d h1;exact⟨b,o,p,q,by simpa using d,h1⟩
  .exact h1
 .exact h1
theorem amp(h:gI G c H w)(I:lj c w env a){t e:dr}{sz:Nat}(hu:P.underlying t=bb (.slice e))(hs:kG P e=bb sz){lo:Option e8}{hi mx:e8}{L:Option X}{M N:X}(hl:sv G lo=bb L)(hm:cX G hi=bb M)(C:cX G mx=bb N)
  {x:D} {u:bs} (h1:gj c w u x) (n:I4 env sz x L M N H K):∃r,(eh t u (lo.map a.eval) (bb (a.eval hi)) (bb (a.eval mx))).run P w = .ok r w/\ju G c H w K r w:=by
 have B:∀(b:Option kx) (len cap:Nat) (l f m:Int),iq env L 0=bb l->iq env (bb M) 0=bb f->iq env (bb N) 0=bb m->0<=l->l<=f->f<=m->m<=cap ->
   (eh t (.slice b len cap) (lo.map a.eval) (bb (a.eval hi)) (bb (a.eval mx))).run P w = .ok (.slice (if m.n=l.n then b else b.map (·.add (l.n*sz))) (f.n-l.n) (m.n-l.n)) w:=by
  intro b len cap l f m s p z h0 q A RG
  obtain⟨k1,V⟩:∃k,a.eval hi = .int k f:=by
   rcases vg h I (x:=bb hi) (X:=bb M) (by simp only[sv,hm,aH]) p with⟨e,_⟩|⟨k,e⟩
   .cases e
   .grind
  obtain⟨k2,W⟩:∃k,a.eval mx = .int k m:=by
   rcases vg h I (x:=bb mx) (X:=bb N) (by simp only[sv,C,aH]) z with⟨e,_⟩|⟨k,e⟩
   .cases e
   .grind
  have hb:=anA (P:=P) (w:=w) true len cap (lo.map a.eval) k1 k2 l f m (vg h I hl s) h0 q A RG;simp only[eh,ek,aE hu,b4,mV,V,W,hb,rA hs,en]
 unfold I4 at n;split at n
 .rename_i l f m s p z;split at n
  .rename_i y es;obtain⟨rfl,⟨h0,q,rfl,S⟩,n⟩:=n
   cases h1 with
   | sl ad len cap _ _ g Q jE iO iL Z hc hr=>
    refine⟨_,B ad len cap l f f s p z h0 q (dZ _) U,.plain h n (acH ?_)⟩;have jF:∀(i:Nat) (e:List D),((es.drop l.n).take (f.n-l.n))[i]? = bb e->es[l.n+i]? = bb e/\i<f.n-l.n:=λi e hi=>jS;refine .sl _ _ _ y _ (λi j=>g (l.n+i) j) gL U U (λe T=>iL e (bt (aX T))) ?_ ?_ ?_
    .intro C;split at C
     .omega
     .cases ad with
      | none=>have:=Z rfl;omega
      | some ad=>simp at C
    .intro i e j d hi hd;obtain⟨h3,h4⟩:=jF i e hi;obtain⟨b,o,R,hF,oo,h1⟩:=hc _ e j d h3 hd;refine⟨b,o+l.n*y,?_,hF,?_,h1⟩
     .rw[if_neg U,R];simp[cc]
     .grind
    .grind
  .rename_i v J y off len;obtain⟨rfl,⟨h0,q,A,S⟩,n⟩:=n
   cases h1 with
   | gf _ _ _ _ _ cap F E hv jE iO Y=>
    refine⟨_,B _ len cap l f m s p z h0 q A U,.plain h n ?_⟩
    by_cases O:m.n=l.n
    .rw[if_pos O,(U:f.n-l.n=0),(U:m.n-l.n=0)];exact .lB v J y (off+l.n) F E _
    .rw[if_neg O]
     have:=gj.gf (c:=c) (w:=w) v J y (off+l.n) (f.n-l.n) (m.n-l.n) F E hv U U (by
      refine Nat.le_trans (Nat.add_le_add_left (bw _ ?_) _) Y
      omega)
     simp only[aH,cc];rw[a8,<-bq];exact this
   | lB _ _ _ _ F E ad=>
    have:l=0:=U;subst this;have:f=0:=U;subst this;have:m=0:=U;subst this;refine⟨_,B ad 0 0 0 0 0 s p z h0 q A U,.plain h n ?_⟩;simp only[eQ,if_true,fg,cA];exact .lB v J y off F E ad
  .obtain⟨⟨rfl,rfl,rfl⟩,n⟩:=n
   cases h1 with
   | gi=>
    refine⟨_,B fp 0 0 0 0 0 s p z U U U U,.plain h n ?_⟩;simp only[eQ,if_true,fg];exact .gi
  .exact n.elim
 .grind
theorem amq(h:gI G c H w)(s:lj c w env a){t e:dr}{sz n:Nat}(S:P.underlying t=bb (.array n e))(hs:kG P e=bb sz){lo hi:Option e8}{L M:Option X}(hl:sv G lo=bb L)(V:sv G hi=bb M)
  {x:D} {u:bs} (h1:gj c w u x) (f:I5 env sz n x L M H K):∃r,(eh t u (lo.map a.eval) (hi.map a.eval) fp).run P w = .ok r w/\ju G c H w K r w:=by
 unfold I5 at f;split at f
 .rename_i cs l m B z;obtain⟨⟨rfl,Z,iO,h0,A,Y⟩,f⟩:=f;obtain⟨b,p,rfl,hF,js⟩:=zu h1;obtain⟨vs,W,lq⟩:=js;have F:=O4 (P:=P) (w:=w) fb n n (lo.map a.eval) (hi.map a.eval) l m (vg h s hl B) (vg h s V z) h0 A U
  have C:(eh t (.pointer (bb ⟨b,p,fp⟩)) (lo.map a.eval) (hi.map a.eval) fp).run P w = .ok (.slice (bb (if n=l.n then⟨b,p,fp⟩else o7 ⟨b,p,fp⟩ (l.n*1))) (m.n-l.n) (n-l.n)) w:=by simp only[eh,ek,aE S,b4,hh,F,rA hs,en]
  refine⟨_,C,.plain h f ?_⟩;have O:∀(i:Nat) (e:List D),(((cs.drop l.n).take (m.n-l.n)).map λd=>[d])[i]? = bb e->∃d,cs[l.n+i]? = bb d/\e = [d]/\i<m.n-l.n:=λi e hi=>jS;refine .sl _ _ _ 1 _ (λi _=>vs.getD (l.n+i) undef) gL U (by unfold iK;omega) (λe pT=>?_) (λe=>nomatch e) ?_ ?_
  .grind
  .intro i e j d hi y;obtain⟨d0,I,rfl,h4⟩:=O i e hi;have E:j=0:=by have:=(ae.1 y).1;simp at this;exact this
   subst E;obtain⟨v,q,nW,N⟩:=W.get I;refine⟨b,p+l.n,?_,hF,?_,?_⟩
   .rw[if_neg U,cc,eT]
   .grind
   .grind
  .intro i e j d hi y;obtain⟨d0,I,rfl,h4⟩:=O i e hi;have E:j=0:=by have:=(ae.1 y).1;simp at this;exact this
   subst E;cases y;obtain⟨v,q,nW,N⟩:=W.get I;rw[List.getD_eq_getElem?_getD,q,aZ];exact N
 .rename_i v g o l m B z;split at f
  .rename_i t' cs ig;obtain⟨⟨a5,Z,iO,h0,A,Y⟩,f⟩:=f;have q:=uo ig;dsimp only at q
   cases h1 with
   | ptr _ _ _ k J Q=>
    obtain⟨arr,BG,Ny,XD,Nz⟩:=yU h q J Q;have F:=O4 (P:=P) (w:=w) fb n n (lo.map a.eval) (hi.map a.eval) l m (vg h s hl B) (vg h s V z) h0 A U
    have C:(eh t (.pointer (bb ⟨k.b,k.base+o,fp⟩)) (lo.map a.eval) (hi.map a.eval) fp).run P w = .ok (.slice (bb (if n=l.n then⟨k.b,k.base+o,fp⟩else o7 ⟨k.b,k.base+o,fp⟩ (l.n*sz))) (m.n-l.n) (n-l.n)) w:=by simp only[eh,ek,aE S,b4,hh,F,rA hs,en]
    refine⟨_,C,.plain h f ?_⟩;have T:o=o / sz*sz:=by have:=n4 o sz;omega
    by_cases R:n=l.n
    .rw[if_pos R,(U:m.n-l.n=0),(U:n-l.n=0)];exact .lB v g sz (o / sz+l.n) k J _
    .rw[if_neg R]
     have:=gj.gf (c:=c) (w:=w) v g sz (o / sz+l.n) (m.n-l.n) (n-l.n) k J Q U (by unfold iK;omega) (by
      rw[(U:o / sz+l.n+(n-l.n)=o / sz+n),bq,<-T]
      omega)
     rw[cc];rw[bq,<-T,<-a8]at this;exact this
  .exact f.elim
 .grind
theorem ams(h:gI G c H w)(d:lj c w env a){t:dr}(j:P.underlying t=bb .string){lo hi:Option e8}{L M:Option X}(hl:sv G lo=bb L)(k:sv G hi=bb M)
  {s:ByteArray} (b:Fb env (.val (.string s)) L M H K):∃r,(eh t (.string s) (lo.map a.eval) (hi.map a.eval) fp).run P w = .ok r w/\ju G c H w K r w:=by
 simp only[Fb]at b;split at b
 .rename_i l m i f;obtain⟨⟨h0,g,e⟩,b⟩:=b;have n:=O4 (P:=P) (w:=w) fb s.size s.size (lo.map a.eval) (hi.map a.eval) l m (vg h d hl i) (vg h d k f) h0 g e;exact⟨.string (s.extract l.n m.n),by simp[eh,aE j,mV,n],.val h b⟩
 .grind
theorem uc{v:Nat}{x:KK×List (bs×D)}(h:lW H v=bb x):H[v]? = bb (.map x.1 x.2):=by
 unfold lW at h;split at h
 .grind
 .cases h
theorem S8(h:gI G c H w){t ty:dr}{k:A0}{d:TypeDesc}(f:P.underlying t=bb d)(b:match k with | .slice=>∃e,d = .slice e | .string=>d = .string | .map=>∃k e,d = .map k e)
  {x:D} {u:bs} (h1:gj c w u x) (a:Ij k x H K):∃r,(eK #[t] ty #[u]).run P w = .ok r w/\ju G c H w K r w:=by
 unfold Ij at a;split at a
 .obtain⟨e,rfl⟩:=b
  cases h1 with
  | sl ad len cap _ _ g i s m n p A E=>
   refine⟨goInt len,by simp[eK,aE f],.plain h a ?_⟩;rw[i];exact .val _
 .obtain⟨e,rfl⟩:=b
  cases h1 with
  | gi=>exact⟨goInt 0,by simp[eK,aE f],.plain h a (.val _)⟩
 .rename_i vs;obtain⟨e,rfl⟩:=b
  cases h1 with
  | kW ad _ m p A=>exact⟨goInt vs.l,by simp[eK,aE f],.plain h a (.val _)⟩
 .rename_i v F sz off len;obtain⟨e,rfl⟩:=b
  cases h1 with
  | gf _ _ _ _ _ cap L o y s m C=>exact⟨goInt len,by simp[eK,aE f],.plain h a (.val _)⟩
  | lB=>exact⟨goInt 0,by simp[eK,aE f],.plain h a (.val _)⟩
 .have b:d = .string:=b;subst b;cases h1;exact⟨_,by simp[eK,aE f]<;>rfl,.plain h a (.val _)⟩
 .rename_i v;obtain⟨kk,e,rfl⟩:=b;split at a
  .rename_i B es q
   cases h1 with
   | gH _ L o y=>
    have j:=h.ob v _ (uc q);simp only[Ob.gen]at j;rw[o]at j;simp only[ik]at j;obtain⟨_,_,arr,l,z,n,_⟩:=j;refine⟨goInt arr.size,by simp[eK,aE f,getObj,Sem.run,z],.plain h a ?_⟩;rw[<-n];exact .val _
  .exact a.elim
 .grind
theorem Z6(h:gI G c H w)(u:lj c w env a){xs:List X}{ops:Array e8}(t:xV G ops.toList=bb xs)(b:Bool)(j:Array dr)(ty:dr)(f:Iw env b xs H K) :
  ∃r,(if b then lU j ty (ops.map a.eval)else lX j ty (ops.map a.eval)).run P w = .ok r w/\ju G c H w K r w:=by
 have d:=A8 h u ops.toList t
 have key:∀(xs:List X) (vs:List bs) (l:List Int),r8 env xs=bb l->jK c w vs (xs.map (ev env))->vs=l.map (Value.int .i64 ·):=by
  intro xs
  induction xs with
  | nil=>intro vs l hl d;simp[r8]at hl;subst hl;cases d;rfl
  | cons x xs o=>
   intro vs l hl d;simp only[r8]at hl;split at hl
   .rename_i n y k m;cases hl;simp only[List.map_cons]at d
    cases d with
    | cons h1 v=>
     rw[k]at h1;cases h1;rw[o _ _ m v];rfl
   .cases hl
 have e:∀l:Array e8,(l.toList.map a.eval).toArray=l.map a.eval:=λl=>by cases l;simp
 unfold Iw at f;split at f
 .rename_i p q hi;have i:=key _ _ _ hi d;have g:ops.map a.eval = #[.int .i64 p,.int .i64 q]:=by rw[<-e,i];rfl
  cases b
  .refine⟨.int .i64 (min p q),?_,.val h (by simpa using f)⟩;simp only[bC,if_false,g];have:(if q<p then q else p)=min p q:=U;simp[lX,oc,this]
  .refine⟨.int .i64 (max p q),?_,.val h (by simpa using f)⟩;simp only[if_true,g];have:(if q>p then q else p)=max p q:=U;simp[lU,om];omega
 .rename_i p q s hi;have i:=key _ _ _ hi d;have g:ops.map a.eval = #[.int .i64 p,.int .i64 q,.int .i64 s]:=by rw[<-e,i];rfl
  cases b
  .refine⟨.int .i64 (min (min p q) s),?_,.val h (by simpa using f)⟩;simp only[bC,if_false,g];simp[lX,oc];omega
  .refine⟨.int .i64 (max (max p q) s),?_,.val h (by simpa using f)⟩;simp only[if_true,g];simp[lU,om];omega
 .exact f.elim
end
section
variable{P:nB}{G:GT}{c:Ctx}{H:gd}{w:jm}{K:jO}{env:gZ}{a:Act}
theorem ZM{G:GT}{c:Ctx}{H:gd}{w w':jm}(h:gI G c H w){v g:Nat}{t:dr}{cs:List D}(A:H[v]? = bb (.row t g cs)){L:Loc}(gv:c.ι v g=bb L)(a:Loc)
  (hg:(w'.os=w.os/\w.drawn<=w'.drawn)/\w'.tape=w.tape/\w'.output=w.output/\w.heap.size<=w'.heap.size) (T:∀b,b<w.heap.size->¬(L.jN=fb/\b=L.b)->w'.heap[b]? = w.heap[b]?)
  (y:a.jN=fb->(w.heap.size<=a.b\/(L.jN=fb/\a.b=L.b))/\a.b<w'.heap.size) (m:List D)
  (X:(∀u d,gj c w u d->gj (c.set v (g+1) a) w' u d)->ik (c.set v (g+1) a) w' (bb a) (.row t (g+1) m)) :
  gI G (c.set v (g+1) a) (H.set v (.row t (g+1) m)) w'/\Step H.l c H w (c.set v (g+1) a) (H.set v (.row t (g+1) m)) w':=by
 have K:v<H.l:=(ae.1 A).1;have p:lM c H v L:=⟨_,A,rfl,gv⟩;have S:zm H v (.row t (g+1) m) (H.set v (.row t (g+1) m)):=⟨sO K,.inr (.inr ⟨_,A,rfl,Nat.lt_succ_self _⟩),fZ⟩;have Q:∀b,c.F b->¬(L.jN=fb/\b=L.b):=λb x e=>h.nF b ⟨v,L,p,e.1,e.2.symm⟩ x;have J:∀u l,lM (c.set v (g+1) a) (H.set v (.row t (g+1) m)) u l->(u=v/\l=a)\/(u≠v/\lM c H u l):=λu l hl=>Fj S hl
 have I:∀b,l3 (c.set v (g+1) a) (H.set v (.row t (g+1) m)) b->(a.jN=fb/\b=a.b)\/(l3 c H b/\¬(L.jN=fb/\b=L.b)):=by
  rintro b ⟨u,l,hl,j,rfl⟩;rcases J u l hl with⟨_,rfl⟩|⟨z,h1⟩
  .exact .inl ⟨j,rfl⟩
  .exact .inr ⟨⟨u,l,h1,j,rfl⟩,λe=>z (h.inj u v l L h1 p j e.1 e.2)⟩
 have hs:Step H.l c H w (c.set v (g+1) a) (H.set v (.row t (g+1) m)) w':={
  os:=hg.1
  tape:=hg.2.1
  output:=hg.2.2.1
  size:=hg.2.2.2
  RT:=rfl
  Fm:=λ_ h=>h
  Fn:=λ_ h=>.inl h
  kept:=λb f Y=>T b f λe=>Y ⟨v,L,p,e.1,e.2.symm⟩
  old:=λu k l _ B=>abi h S u k l B
  own:=λb f=>by
   rcases I b f with⟨j,rfl⟩|⟨f,_⟩
   .rcases(y j).1 with h1|⟨h1,O⟩
    .exact .inl h1
    .exact .inr ⟨v,L,p,h1,O.symm⟩
   .exact .inr f }
 have M:∀u d,gj c w u d->gj (c.set v (g+1) a) w' u d:=λu d C=>C.p8 h.toHeapOK hs
 refine⟨{
  inj:=λu r l s h1 O F E Z=>by
   rcases J u l h1 with⟨rfl,rfl⟩|⟨n1,P⟩<;>rcases J r s O with⟨rfl,rfl⟩|⟨n2,b2⟩
   .rfl
   .exfalso;have gM:=h.lt s.b ⟨r,s,b2,E,rfl⟩;rcases(y F).1 with n|⟨n,N⟩
    .omega
    .exact n2 (h.inj r u s L b2 p E n U)
   .exfalso;have gM:=h.lt l.b ⟨u,l,P,F,rfl⟩;rcases(y E).1 with n|⟨n,N⟩
    .omega
    .exact n1 (h.inj u r l L P p F n U)
   .exact h.inj u r l s P b2 F E Z
  lt:=λb f=>by
   rcases I b f with⟨j,rfl⟩|⟨f,_⟩
   .exact(y j).2
   .exact aO (h.lt b f) hg.2.2.2
  nF:=λb f x=>by
   rcases I b f with⟨j,rfl⟩|⟨f,_⟩
   .rcases(y j).1 with n|⟨n,N⟩
    .have:=h.kO _ x;omega
    .exact Q _ x ⟨n,N⟩
   .exact h.nF b f x
  kO:=λb f=>aO (h.kO b f) hg.2.2.2
  out:=λu k B=>by simp only[aw]at B;rw[Ctx.wz _ _ (by rintro⟨rfl,_⟩;omega)];exact h.out u k B
  mB:=λu o k i q=>by
   rw[sO K]at i;split at i
   .rename_i e;cases i;subst e;rcases q with q|⟨_,q⟩
    .cases q
    .simp only[Ob.gen]at q;rw[Ctx.wz _ _ (by rintro⟨_,rfl⟩;omega)];exact h.mB u _ k A (.inr ⟨rfl,by simp only[Ob.gen];omega⟩)
   .rename_i e;rw[Ctx.wz _ _ (λh=>e h.1)];exact h.mB u o k i q
  ob:=λu o i=>by
   rw[sO K]at i;split at i
   .rename_i e;cases i;subst e;simp only[Ob.gen];rw[Ctx.sP];exact X M
   .rename_i z;rw[Ctx.wz _ _ (λh=>z h.1)];exact ik.keep (c:=c) (c':=c.set v (g+1) a) rfl M (λl hl R C=>T _ (h.lt _ ⟨u,l,⟨o,i,C,hl⟩,R,rfl⟩) λe=>z (h.inj u v l L ⟨o,i,C,hl⟩ p R e.1 e.2)) (h.ob u o i)
  gl:=λg' cs V=>by obtain⟨gQ,W⟩:=h.gl g' cs V;exact⟨gQ,M _ _ W⟩
  rt:=h.rt },hs⟩
theorem S0{G:GT}{c:Ctx}{H:gd}{w w':jm}(h:gI G c H w){v g:Nat}{t:dr}{cs:List D}(o:H[v]? = bb (.row t g cs)){L:Loc}(s:c.ι v g=bb L)(a:Loc)(n:a.jN=fb)
  (hg:(w'.os=w.os/\w.drawn<=w'.drawn)/\w'.tape=w.tape/\w'.output=w.output/\w.heap.size<=w'.heap.size) (y:∀b,b<w.heap.size->¬(L.jN=fb/\b=L.b)->w'.heap[b]? = w.heap[b]?)
  (A:(w.heap.size<=a.b\/(L.jN=fb/\a.b=L.b))/\a.b<w'.heap.size)
  (arr:Array bs) (k:w'.heap[a.b]? = bb (.cells arr t (0,0))) (j:a.top=arr.size) (e:List D) (f:a.base+e.l<=a.top)
  (r:∀(i:Nat) (d:D),e[i]? = bb d->∃u,arr[a.base+i]? = bb u/\u.oneCell'=true/\gj c w u d) :
  gI G (c.set v (g+1) a) (H.set v (.row t (g+1) e)) w'/\Step H.l c H w (c.set v (g+1) a) (H.set v (.row t (g+1) e)) w':=by
 refine ZM h o s a hg y (λ_=>A) e λp=>?_;simp only[ik,n];refine⟨arr,k,j,f,λi d q=>?_⟩;obtain⟨x,l,m,z⟩:=r i d q;exact⟨x,l,m,p _ _ z⟩
theorem adt{G:GT}{c:Ctx}{H:gd}{w:jm}(h:gI G c H w){v g:Nat}{t:dr}{cs:List D}(b:H[v]? = bb (.row t g cs)){L:Loc}(d:c.ι v g=bb L) :
  gI G (c.set v (g+1) L) (H.set v (.row t (g+1) [])) w/\Step H.l c H w (c.set v (g+1) L) (H.set v (.row t (g+1) [])) w:=by
 refine ZM h b d L ⟨⟨rfl,eB _⟩,rfl,rfl,eB _⟩ (λ_ _ _=>rfl) (λa=>⟨.inr ⟨a,rfl⟩,h.lt _ ⟨v,L,⟨_,b,rfl,d⟩,a,rfl⟩⟩) [] λ_=>?_;have h0:=h.ob v _ b;simp only[Ob.gen]at h0;rw[d]at h0;simp only[ik]at h0 ⊢;split
 .simp
 .rename_i a;simp only[a]at h0;obtain⟨arr,h1,e,f,_⟩:=h0;exact⟨arr,h1,e,gL,fZ⟩
theorem O3{t u ty e:dr}{i:mn}{j:bs}(r:P.underlying t=bb (.slice e))(h:∃k,P.underlying u=bb (.slice k))(hi:P.info? e=bb i)(p:i.zero=bb j)
  (b:Option kx) (a d:Nat) (y:bs) (m:Option kx) (n l:Nat) (q:y = .slice m n l) (g c:List bs)
  (f:(di i.size a (.slice b a d)).run P w.drew = .ok g.toArray w.drew) (o:(di i.size n y).run P w.drew = .ok c.toArray w.drew)
  (hg:d<a+n) (A:a+n<=9223372036854775807) (v:(a+n)*i.bytes<=140737488355328) :
  (er #[t,u] ty #[.slice b a d,y]).run P w = .ok (.slice (bb ⟨w.heap.size,0,fp⟩) (a+n) (cp w (a+n) d e))
    (w.drew.alloc (.cells (g.toArray++c.toArray++dx j.cells (cp w (a+n) d e-(a+n))) e)):=by
 subst q;obtain⟨k,h⟩:=h;have s:¬(a+n<=d):=U;have x:¬(9223372036854775807<((a:Int)+(n:Int))):=U;have z:¬(281474976710656<Builtin.nextslicecap (a+n) d*i.bytes):=by have:=growslice_fits hg v;omega
 simp[er,aE r,aE h,lp,mX,zeroValue,hi,p,eL,s,x,z,Question.forced,nf,cp,f,o];congr 2;apply Array.ext';simp[aL]
theorem anz{t u ty e:dr}{i:mn}(q:P.underlying t=bb (.slice e))(f:∃h,P.underlying u=bb (.slice h))(hi:P.info? e=bb i)
  (b o:Nat) (c d:Nat) (y:bs) (k:Option kx) (n j:Nat) (p:y = .slice k n j) (a:List bs) (arr:Array bs) (hg:w.heap[b]? = bb (.cells arr e (0,0)))
  (m:(di i.size n y).run P w = .ok a.toArray w) (h1:∀v∈a,v.oneCell'=true) (r:c+n<=d) (l:o+c*i.size+a.l<=arr.size) :
  (er #[t,u] ty #[.slice (bb ⟨b,o,fp⟩) c d,y]).run P w = .ok (.slice (bb ⟨b,o,fp⟩) (c+n) d)
    (w.setRow b (arr.toList.take (o+c*i.size)++a++arr.toList.drop (o+c*i.size+a.l)).toArray):=by
 subst p;obtain⟨h,f⟩:=f;have g:=j' P b (o+c*i.size) e a 0 arr w hg (by simpa using l) h1;simp only[cA]at g;simp[er,aE q,aE f,lp,mX,hi,eL,r,m,cc,g]
theorem Nc{sz:Nat}{w':jm}{a:Option kx}{b n:Nat}{vs:List bs}(hl:vs.l=n*sz)(c:a=fp->n=0)(d:∀ad,a=bb ad->∀(j:Nat) (v:bs),vs[j]? = bb v->w'.cell? (ad.add j)=bb v) :
  (di sz n (.slice a n b)).run P w' = .ok vs.toArray w':=by
 cases a with
 | none=>
  have:=c rfl;subst this;have:vs = []:=aV (by simpa using hl);subst this;exact run_firstCells_none w' sz 0 0 b
 | some ad=>exact iV w' sz n ad n b vs hl (d ad rfl)
theorem W2(w:jm)(o:Obj):ko w (w.drew.alloc o):=(ko.drew w).trans (ko.alloc _ _)
theorem alT(h:gI G c H w){al:Al}(iy:np H al){t u ty e:dr}{i:mn}{z:List D}(R:P.underlying t=bb (.slice e))(s:∃e',P.underlying u=bb (.slice e'))(hi:P.info? e=bb i)(hz:rH P e=bb z)(yB:z.l=i.size)(ky:0<i.size)
  {x y:D} {ux A:bs} (h1:gj c w ux x) (h2:gj c w A y) (f:F5 e i.size i.bytes x y H al K):∃r w',(er #[t,u] ty #[ux,A]).run P w = .ok r w'/\ju G c H w K r w':=by
 obtain⟨m,v8,N5,tV⟩:=AO hz w;have EG:i.zero=bb m:=by simpa[hi]using N5
 have v7:m.cells.size=i.size:=by have:=(tV c w).len;simp at this;omega
 unfold F5 at f;split at f
 .rename_i V n r7;obtain⟨yb,Z,vs,C,E,ka,YM,HZ,HX⟩:=TQ h ky h2 r7;have Q:vs.l=n*i.size:=by rw[E.len,ka]
  have O:∀w',(∀b,w'.cell? b=w.cell? b)->(di i.size n A).run P w' = .ok vs.toArray w':=λw' rm=>by rw[C];exact Nc Q HZ (λad ha j v k=>by rw[rm];exact HX ad ha j v k)
  split at f
  .rename_i v g ia off len;split at f
   .rename_i t' cs ig;have p:=uo ig;dsimp only at p;obtain⟨⟨rfl,YD,a4,M,Y⟩,f⟩:=f;have d':=YD.symm;subst d';clear YD;have h9:v<H.l:=(ae.1 p).1
    cases h1 with
    | gf _ _ _ _ _ cap L S iA jE iO lV=>
     obtain⟨arr,BG,Ny,XD,Nz⟩:=yU h p S iA;have X:Cells c w (((((arr.toList.drop L.base).take cs.l)).drop (off*i.size)).take (len*i.size)) ((cs.drop (off*i.size)).take (len*i.size)):=(Nz.drop _).take _;rw[bq]at lV a4;generalize off*i.size=q at *
     by_cases HO:len+n<=cap
     .have ng:L.base+q+len*i.size+vs.l<=arr.size:=by have hm:=bw i.size HO;rw[bq]at hm;omega
      have l:=anz (ty:=ty) R s hi L.b (L.base+q) len cap A yb n Z C vs arr BG (O w λ_=>rfl) E.one HO ng;refine⟨_,_,l,?_⟩;have iL:(arr.toList.take (L.base+q+len*i.size)++vs++arr.toList.drop (L.base+q+len*i.size+vs.l)).toArray.size=arr.size:=gL
      obtain⟨m1,m2⟩:=S0 (w':=w.setRow L.b (arr.toList.take (L.base+q+len*i.size)++vs++arr.toList.drop (L.base+q+len*i.size+vs.l)).toArray) h p S ⟨L.b,L.base+q,L.top,fb⟩ rfl
       ⟨⟨rfl,eB _⟩,rfl,rfl,by simp[World.setRow]⟩ (λb _ I=>by simp only[World.setRow,bh];rw[if_neg (λe=>I ⟨iA,e.symm⟩)])
       ⟨.inr ⟨iA,rfl⟩,by have:=h.lt _ ⟨v,L,⟨_,p,rfl,S⟩,iA,rfl⟩;simpa[World.setRow]using this⟩
       _ (setRow_heap w L.b arr _ _ _ BG) (by show L.top=_;rw[Ny,iL]) ((cs.drop q).take (len*i.size)++V) (by simp only[aq,aJ,aU];rw[<-E.len];omega) (λj d J=>by
        obtain⟨x,F,lA,kR⟩:=(X.append E).get J;refine⟨x,?_,lA,kR⟩;rw[<-F];simp only[dy];have jl:(iN (L.base+q+len*i.size) arr.toList).l=L.base+q+len*i.size:=gL;have jP:(iN (len*i.size) (nP q (iN cs.l (nP L.base arr.toList)))).l=len*i.size:=gL
        by_cases c1:j<len*i.size
        .rw[ah gL,ah (by rw[jl];omega),ah (by rw[jP];omega)];simp only[aG,aK];rw[if_pos U,if_pos U,if_pos U];congr 1;omega
        .have nD:j<len*i.size+vs.l:=by have:=(ae.1 F).1;rw[aq,jP]at this;omega
         rw[ah (by rw[aq,jl];omega),ak (by rw[jl];omega),ak (by rw[jP];omega),jl,jP];congr 1
         omega)
      refine⟨_,_,_,f,m1,?_,m2⟩;have:=gj.gf (c:=c.set v (g+1) ⟨L.b,L.base+q,L.top,fb⟩) (w:=w.setRow L.b (arr.toList.take (L.base+q+len*i.size)++vs++arr.toList.drop (L.base+q+len*i.size+vs.l)).toArray) v (g+1) i.size 0 (len+n) cap ⟨L.b,L.base+q,L.top,fb⟩ (Ctx.sP _ _ _ _) rfl HO iO gL;simpa using this
     .have a:(di i.size len (.slice (bb ⟨L.b,L.base+q,fp⟩) len cap)).run P w.drew = .ok ((((arr.toList.drop L.base).take cs.l).drop q).take (len*i.size)).toArray w.drew:=by
       refine iV _ _ _ _ _ _ _ (by rw[X.len];simp;omega) (λj v k=>?_);rw[aG]at k;split at k
       .rw[aK,aG]at k;split at k
        .rw[aK]at k;rw[cc];show w.cell? ⟨L.b,L.base+q+j,fp⟩=bb v;simp[World.cell?,BG];rw[a8];simpa using k
        .cases k
       .cases k
      have l:=O3 (ty:=ty) R s hi EG (bb ⟨L.b,L.base+q,fp⟩) len cap A yb n Z C _ vs a (O _ λ_=>rfl) U Y M;refine⟨_,_,l,?_⟩;have HT:((((arr.toList.drop L.base).take cs.l).drop q).take (len*i.size)).toArray.size=len*i.size:=by have:=X.len;simp at this ⊢;omega
      have B:=ku w (len+n) cap e;have N:=gb w (len+n) cap e (by unfold iK;omega)
      obtain⟨m1,m2⟩:=S0 (w':=w.drew.alloc (.cells (((((arr.toList.drop L.base).take cs.l).drop q).take (len*i.size)).toArray++vs.toArray++dx m.cells (cp w (len+n) cap e-(len+n))) e)) h p S
       ⟨w.heap.size,0,cp w (len+n) cap e*i.size,fb⟩ rfl ⟨⟨rfl,pd _⟩,rfl,rfl,fZ⟩ (λb W _=>(W2 w _).kept b W) ⟨.inl (eB _),fZ⟩
       _ (kJ w.drew _) (by
        simp only[cF,HT,c9,Q,jk,v7,<-bq]
        congr 1;omega) ((cs.drop q).take (len*i.size)++V) (by
        simp only[aq,aJ,aU,ka,aR];have:=bw i.size B;rw[bq]at this
        omega) (λj d J=>by
        obtain⟨x,F,lA,kR⟩:=(X.append E).get J;refine⟨x,?_,lA,kR⟩;rw[<-F,aR,<-bE];have gM:=(ae.1 F).1;simp only[dm]
        rw[ah (by simpa using gM)])
      refine⟨_,_,_,f,m1,?_,m2⟩
      have:=gj.gf (c:=c.set v (g+1) ⟨w.heap.size,0,cp w (len+n) cap e*i.size,fb⟩) (w:=w.drew.alloc (.cells (((((arr.toList.drop L.base).take cs.l).drop q).take (len*i.size)).toArray++vs.toArray++dx m.cells (cp w (len+n) cap e-(len+n))) e))
       v (g+1) i.size 0 (len+n) (cp w (len+n) cap e) ⟨w.heap.size,0,cp w (len+n) cap e*i.size,fb⟩ (Ctx.sP _ _ _ _) rfl B N fZ
      simpa using this
    | lB _ _ _ _ L S ad=>
     simp only[aR,cA,cS,eP,bI]at f M Y ⊢
     by_cases I:n=0
     .subst I;have Sf:vs = []:=aV (by simpa using Q);have e0:V = []:=aV (by simpa using ka);subst e0
      have l:(er #[t,u] ty #[.slice ad 0 0,A]).run P w = .ok (.slice ad 0 0) w:=by obtain⟨e',s⟩:=s;have T:=O w λ_=>rfl;rw[Sf]at T;rw[C]at T ⊢;simp[er,aE R,aE s,lp,mX,hi,eL,T];cases ad<;>simp[ns]
      obtain⟨m1,m2⟩:=adt h p S;exact⟨_,_,l,_,_,_,f,m1,.lB v (g+1) i.size 0 L (Ctx.sP _ _ _ _) ad,m2⟩
     .have a:(di i.size 0 (.slice ad 0 0)).run P w.drew = .ok ([]:List bs).toArray w.drew:=Nc fZ (λ_=>rfl) (λ_ _ j v k=>by simp at k);have l:=O3 (w:=w) (ty:=ty) R s hi EG ad 0 0 A yb n Z C [] vs a (O _ λ_=>rfl) U U (by simpa using M);simp only[aR]at l;refine⟨_,_,l,?_⟩;have B:=ku w n 0 e;have N:=gb w n 0 e (by unfold iK;omega)
      obtain⟨m1,m2⟩:=S0 (w':=w.drew.alloc (.cells (([]:List bs).toArray++vs.toArray++dx m.cells (cp w n 0 e-n)) e)) h p S
       ⟨w.heap.size,0,cp w n 0 e*i.size,fb⟩ rfl ⟨⟨rfl,pd _⟩,rfl,rfl,fZ⟩ (λb W _=>(W2 w _).kept b W) ⟨.inl (eB _),fZ⟩
       _ (kJ w.drew _) (by
        simp only[cF,c9,cW,Q,jk,v7,aR,<-bq]
        congr 1;omega) V (by
        simp only[ka,aR]
        exact bw i.size B) (λj d J=>by
        obtain⟨x,F,lA,kR⟩:=E.get J;refine⟨x,?_,lA,kR⟩;rw[<-F,aR,<-bE];have gM:=(ae.1 F).1;simp only[dm,bI]
        rw[ah (by simpa using gM)])
      refine⟨_,_,_,f,m1,?_,m2⟩
      have:=gj.gf (c:=c.set v (g+1) ⟨w.heap.size,0,cp w n 0 e*i.size,fb⟩) (w:=w.drew.alloc (.cells (([]:List bs).toArray++vs.toArray++dx m.cells (cp w n 0 e-n)) e))
       v (g+1) i.size 0 n (cp w n 0 e) ⟨w.heap.size,0,cp w n 0 e*i.size,fb⟩ (Ctx.sP _ _ _ _) rfl B N fZ
      simpa using this
   .exact f.elim
  .rename_i us;obtain⟨⟨I,HT,M,Y⟩,f⟩:=f
   cases h1 with
   | kW ad _ iO kQ hc=>
    have X:Cells c w us (us.map .val):=⟨fZ,λv p=>by
     obtain⟨i,hi⟩:=mU p;obtain⟨_,_,_,_,_,h1⟩:=hc i v hi
     exact h1,λi v d p J=>by
     simp only[ax,p,aH,ar]at J;subst J
     exact .val _⟩
    have a:(di i.size us.l (.slice ad us.l us.l)).run P w.drew = .ok us.toArray w.drew:=Nc (by rw[HT];simp) (λe=>by rw[kQ e];rfl) (λb W j v k=>by
     obtain⟨b',o,ha,_,oo,_⟩:=hc j v k;rw[ha]at W;cases W;rw[cc]
     exact oo)
    have l:=O3 (w:=w) (ty:=ty) R s hi EG ad us.l us.l A yb n Z C us vs a (O _ λ_=>rfl) U Y M;refine⟨_,_,l,?_⟩;have B:=ku w (us.l+n) us.l e;have N:=gb w (us.l+n) us.l e (by unfold iK;omega)
    have iL:(us.toArray++vs.toArray++dx m.cells (cp w (us.l+n) us.l e-(us.l+n))).size=cp w (us.l+n) us.l e*i.size:=by simp only[cF,c9,Q,jk,v7,HT,eT];omega
    obtain⟨L,e1,e2,e3,e4,e5,e6⟩:=ES h w.drew (ko.drew w) e (us++vs) (us.map .val++V) (us++vs).l (us.toArray++vs.toArray++dx m.cells (cp w (us.l+n) us.l e-(us.l+n))) (iy _).uv (X.append E) (by
     simp only[dm]
     exact oJ) (by simp only[cF,c9,aq];omega)
    have hp:=IF (c:=c) (w:=w.drew.alloc (.cells (us.toArray++vs.toArray++dx m.cells (cp w (us.l+n) us.l e-(us.l+n))) e)) e1 e3 al.1 0 i.size (us.l+n) (cp w (us.l+n) us.l e) (by rw[e4,iL]) B N;rw[e2]at hp;exact⟨_,_,_,f,e5,hp,e6⟩
  .cases h1 with
   | gi=>
    by_cases I:n=0
    .rw[if_pos I]at f;subst I;have Sf:vs = []:=aV (by simpa using Q)
     have l:(er #[t,u] ty #[.slice fp 0 0,A]).run P w = .ok (.slice fp 0 0) w:=by obtain⟨e',s⟩:=s;have T:=O w λ_=>rfl;rw[Sf]at T;rw[C]at T ⊢;simp[er,aE R,aE s,lp,mX,hi,eL,T]
     exact⟨_,_,l,.plain h f .gi⟩
    .rw[if_neg I]at f;obtain⟨⟨M,Y⟩,f⟩:=f;have a:(di i.size 0 (.slice fp 0 0)).run P w.drew = .ok ([]:List bs).toArray w.drew:=Nc fZ (λ_=>rfl) (λ_ _ j v k=>by simp at k);have l:=O3 (w:=w) (ty:=ty) R s hi EG fp 0 0 A yb n Z C [] vs a (O _ λ_=>rfl) U U (by simpa using M);simp only[aR]at l;refine⟨_,_,l,?_⟩;have B:=ku w n 0 e;have N:=gb w n 0 e (by unfold iK;omega)
     have iL:(([]:List bs).toArray++vs.toArray++dx m.cells (cp w n 0 e-n)).size=cp w n 0 e*i.size:=by simp only[cF,c9,cW,Q,jk,v7,aR,<-bq];congr 1;omega
     obtain⟨L,e1,e2,e3,e4,e5,e6⟩:=ES h w.drew (ko.drew w) e vs V vs.l (([]:List bs).toArray++vs.toArray++dx m.cells (cp w n 0 e-n)) (iy _).uv E (by
      simp only[dm,bI]
      exact oJ) (by simp only[cF,c9];omega)
     have hp:=IF (c:=c) (w:=w.drew.alloc (.cells (([]:List bs).toArray++vs.toArray++dx m.cells (cp w n 0 e-n)) e)) e1 e3 al.1 0 i.size n (cp w n 0 e) (by rw[e4,iL]) B N;rw[e2]at hp;exact⟨_,_,_,f,e5,hp,e6⟩
  .exact f.elim
 .exact f.elim
theorem al4(h:gI G c H w){t u ty e:dr}{sz:Nat}(N:P.underlying t=bb (.slice e))(hs:kG P e=bb sz)(ky:0<sz){x y:D}{S E:bs}(h1:gj c w S x)(h2:gj c w E y)(b:Gs sz x y H K) :
  ∃r w',(hY #[t,u] ty #[S,E]).run P w = .ok r w'/\ju G c H w K r w':=by
 have key:∀(f:List D) (n:Nat),lu sz H y=bb (f,n)->∃vs A z,E = .slice A n z/\Cells c w vs f/\f.l=n*sz/\∀m,m<=n->(di sz m E).run P w = .ok (vs.take (m*sz)).toArray w:=by
  intro f n F;obtain⟨A,z,vs,p,l,I,YM,HZ,HX⟩:=TQ h ky h2 F;refine⟨vs,A,z,p,l,I,λm s=>?_⟩;have i:vs.l=n*sz:=by rw[l.len,I]
  have O:=bw sz s;rw[p]
  cases A with
  | none=>
   have:=HZ rfl;subst this;have:m=0:=U;subst this;simp[di]
  | some ad=>
   refine iV w sz m ad n z _ gL (λj v J=>?_);rw[aG]at J;split at J
   .exact HX ad rfl j v J
   .cases J
 unfold Gs at b;split at b
 .rename_i v g a off len f n F;obtain⟨vs,A,z,p,l,I,M⟩:=key f n F;split at b
  .rename_i T cs ig;have o:=uo ig;dsimp only at o;obtain⟨⟨rfl,ng⟩,b⟩:=b;have k:=M (min n len) (ot _ _);have O:min n len*a<=vs.l:=by rw[l.len,I];exact bw _ (ot _ _)
   have b0:min n len*a<=len*a:=bw _ (Nat.min_le_right _ _);rw[bq]at ng
   cases h1 with
   | gf _ _ _ _ _ cap L Q V jE iO lV=>
    obtain⟨arr,Z,Ny,XD,Nz⟩:=yU h o Q V;have X:=j' P L.b (L.base+off*a) T (vs.take (min n len*a)) 0 arr w Z gL (λv o=>l.one v (aX o));simp only[cA]at X
    have iE:(hY #[t,u] ty #[.slice (bb ⟨L.b,L.base+off*a,fp⟩) len cap,E]).run P w = .ok (goInt (min n len:Nat)) (w.setRow L.b (arr.toList.take (L.base+off*a)++vs.take (min n len*a)++arr.toList.drop (L.base+off*a+(vs.take (min n len*a)).l)).toArray):=by rw[p]at k ⊢;have s:n.min len=min n len:=rfl;simp[hY,aE N,eL,rA hs,s,k,X]
    have i:(vs.take (min n len*a)).l=min n len*a:=gL;have Y:=Nz.sQ (l.take (min n len*a)) (off*a);have R:(f.take (min n len*a)).l=min n len*a:=by rw[aJ,<-l.len];omega
    obtain⟨m1,m2⟩:=Ft h o Q V Z (arr.toList.take (L.base+off*a)++vs.take (min n len*a)++arr.toList.drop (L.base+off*a+(vs.take (min n len*a)).l)).toArray gL Ny
     (cs.take (off*a)++f.take (min n len*a)++cs.drop (off*a+min n len*a)) (by simp only[aq,aJ,aU];omega) (λj d W=>by
      rw[R,i]at Y;obtain⟨x,hx,lA,kR⟩:=Y.get W;refine⟨x,?_,lA,kR⟩;rw[<-hx];simp only[dy,i];have B:(iN (L.base+off*a) arr.toList).l=L.base+off*a:=gL;have C:(iN (off*a) (iN cs.l (nP L.base arr.toList))).l=off*a:=gL
      by_cases c1:j<off*a
      .rw[ah gL,ah (by rw[B];omega),ah gL,ah (by rw[C];omega)];simp only[aG,aK];rw[if_pos U,if_pos c1,if_pos U]
      .by_cases c2:j<off*a+min n len*a
       .rw[ah (by rw[aq,B,i];omega),ak (by rw[B];omega),ah (by rw[aq,C,i];omega),ak (by rw[C];omega),B,C];congr 1;omega
       .have oH:j<cs.l:=by have:=(ae.1 W).1;simp at this;omega
        rw[ak (by rw[aq,B,i];omega),ak (by rw[aq,C,i];omega)];simp only[aK,aG,aq,B,C,i];rw[if_pos U];congr 1
        omega)
    exact⟨_,_,iE,_,_,c,b,m1,.val _,m2⟩
   | lB _ _ _ _ L Q ad=>
    have Hz:min n 0=0:=fX n;simp only[Hz,cS,eP,aB,cA,bV]at b k
    have nE:H.set v (.row T g cs)=H:=by
     apply bU;intro j;rw[bT];have i:v<H.l:=(ae.1 o).1;split
     .rename_i e;subst e
      first|(rw[if_pos i];exact o.symm)|exact o.symm
     .rfl
    rw[nE]at b;refine⟨goInt 0,w,?_,.plain h b (.val _)⟩;rw[p]at k ⊢;have s:n.min 0=0:=fX n;simp[hY,aE N,eL,rA hs,s,k];cases ad<;>simp[ns]
  .exact b.elim
 .rename_i q F;obtain⟨f,n⟩:=q;obtain⟨vs,A,z,p,l,I,M⟩:=key f n F
  cases h1 with
  | gi=>
   have k:=M 0 (Nat.zero_le _);refine⟨goInt 0,w,?_,.plain h b (.val _)⟩;rw[p]at k ⊢;have s:n.min 0=0:=fX n;simp only[cS,eP]at k;simp[hY,aE N,eL,rA hs,s,k]
 .exact b.elim

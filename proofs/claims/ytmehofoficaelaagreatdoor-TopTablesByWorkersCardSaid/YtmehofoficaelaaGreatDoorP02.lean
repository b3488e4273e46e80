/- 2 -/
import Derived.Test.YtmehofoficaelaaGreatDoorP01
set_option linter.all false
open Go renaming run_underlying→aE,Value→cc,grownCap→dx,TypeId→ej,run_sliceBound→eL,Operand→fx,grownCap_le_maxLen→iK,maxLen→j',run_firstCells_some→kl,size_zeroCells→ku,World→kx,run_storeCells_at→kD,grownCap_ge→lb,Addr→lp,heap_alloc_new→lu,sizeOf→mz,asIntOf→mP,TypeInfo→mV,typeInfo→nB,newRow→nK,storeCells→n4,Program→oc,Field→pX,IntKind→qd
open Option renaming some→bf,none→hI
open Go.Result renaming andThen_ok→cp
open Go.Addr renaming add_lit→di,add→qJ
open Go.Builtin renaming firstCells→eh,zeroCells→ek,append_→eK,len_→fb,lenOf→fp,copy_→jX,max_→mR,min_→mT,min2→o0,max2→px
open Go.Instr renaming sliceAt→ep,sliceBounds→eB,indexAt→hY,sureAddr→iN,storeAt→jI,index→la,fieldAt→ml,slice→ns,buildSlice→n3,makeSlice→ox,extract→oJ,makeMap→oL,field→pZ
open Go.Sem renaming run_bind→er,run_pure→ez,run_ite→jA
open Nat renaming le_refl→fa,mod_eq_sub_mod→ou,div_add_mod'→oM,mul_eq_zero→oY,min_le_left→pA,le_succ→rb
open Array renaming range→ga,map→qx
open Bool renaming false→gb
open List renaming replicate→hU,take→kb,getElem?_eq_getElem→lK,getElem?_of_mem→nm,drop→oy,take_left→qg,length→List.l
open Int renaming toNat→Int.n
namespace Go.AL
open Go
section
variable{P:oc}{G:GT}{c:Ctx}{H:gQ}{w:kx}{K:kH}{env:iM}{a:Act}
theorem Lq{L:Loc}(a:L.kQ=gb)(h0:L.base=0)(v k sz len cap:Nat)(b:L.top=cap*sz)(e:len<=cap)(d:cap<=j') :
  gX (c.set v k L) w (.slice (bf ⟨L.b,0,hI⟩) len cap) (.gR v k sz 0 len):=by
 have:=gX.gR (c:=c.set v k L) (w:=w) v k sz 0 len cap L (Ctx.uH _ _ _ _) a e d (by simp[h0,b]);simpa[h0]using this
theorem Qp(zs:List cc)(z:List D)(b:∀c w,Cells c w zs z)(n:Nat):Cells c w (hU n zs).flatten (hU n z).flatten:=by
 induction n with
 | zero=>exact Cells.nil
 | succ n a=>rw[bL,bL,bg,bg];exact(b c w).append a
theorem Sc(zs:Array cc)(n:Nat)(h0:0<zs.size):((ga (n*zs.size)).map (λi=>zs[i % zs.size]!)).toList=(hU n zs.toList).flatten:=by
 apply bN;intro i;simp only[Array.toList_map,Array.toList_range,aw]
 by_cases hi:i<n*zs.size
 .rw[cF hi]
  have key:∀(n i:Nat),i<n*zs.size->(hU n zs.toList).flatten[i]? = bf (zs[i % zs.size]!):=by
   intro n
   induction n with
   | zero=>intro i hi;simp at hi
   | succ n a=>
    intro i hi;rw[bL,bg]
    by_cases hl:i<zs.size
    .rw[ah (by simpa using hl),fX hl];simp[hl]
    .rw[ao (by simpa using hl)];have:i-zs.size<n*zs.size:=by rw[bJ]at hi;omega
     rw[(gP:i-zs.toList.l=i-zs.size),a _ this,<-ou U]
  rw[key n i hi];rfl
 .simp_all
theorem arh(h:iy G c H w){al:Al}(V:o7 H al)(he:mg c w env a){t e:ej}{sz n:Nat}{z:List D}{ops:Array (Nat×fx)}{ps:List (Nat×X)}
  (Y:P.underlying t=bf (.slice e)) (W:tv P e=bf z) (hs:lH P e=bf sz) (s:Bm G ops.toList=bf ps) (Ej:z.l=sz) (T:0<sz) (oZ:n*sz<=16777216)
  (f:I7 env e sz z n ps al K):∃r w',(n3 t n (ops.map λ(i,x)=>(i,a.eval x))).run P w = .ok r w'/\kj G c H w K r w':=by
 unfold I7 at f;split at f
 .rename_i l hl;split at f
  .rename_i cs I;obtain⟨b,N,_,C⟩:=CF W w;obtain⟨F,S⟩:=PE h he ops.toList s;obtain⟨R,Q⟩:=WU hl;have O:b.cells.size=sz:=by have:=(C c w).len;simp at this;omega
   have k:Cells c w ((ga (n*sz)).map (λi=>b.cells[i % b.cells.size]!)).toList (hU n z).flatten:=by rw[<-O,Sc b.cells n U];exact Qp _ _ C n
   obtain⟨d,u,v⟩:=Qk (c:=c) (w:=w) (λi=>bf (i*sz,sz)) (ops.toList.map λx=>(x.1,a.eval x.2)) l _ _ cs k (by simp[R,F]) (λi x q M Ky=>by
    simp only[aw,ar]at M;obtain⟨y,J,rfl⟩:=M;have hi:i<ops.toList.l:=(ae.1 J).1;obtain⟨p,E⟩:=Qt F hi;obtain⟨e1,e2⟩:=S i y p J E;obtain⟨e4,e5,e6⟩:=Q i (p.1*sz,sz,p.2) q (by simp[E]) Ky
    exact⟨by simp[e4,e5,e1],FU e2 e6⟩) I
   have g:d.size=n*sz:=by
    have h1:=v.len
    have A:cs.l=(hU n z).flatten.l:=by
     clear f v u h1 k
     have key:∀(ps:List (Nat×Nat×List D)) (cs rs:List D),lay ps cs=bf rs->rs.l=cs.l:=by
      intro ps
      induction ps with
      | nil=>intro cs rs h;simp[lay]at h;subst h;rfl
      | cons p ps ih=>
       intro cs rs h;obtain⟨o,m,xs⟩:=p;simp only[lay]at h;split at h
       .grind
       .cases h
     exact key _ _ _ I
    rw[A]at h1;simp[Ej]at h1;exact h1
   obtain⟨L,h1,A,h3,h4,h5,h6⟩:=Hq h w (ly.refl w) e d.toList cs d.size d (V _).wQ v (by rw[<-dK,cY]) (fa _);refine⟨.slice (bf ⟨w.heap.size,0,hI⟩) n n,w.alloc (.cells d e),?_,?_⟩
   .have B:¬n*sz>2 ^ 24:=by omega
    simp only[n3,er,aE Y,cp,ti hs,jA];rw[if_neg B];have j:(qx (λx=>(x.fst,a.eval x.snd)) ops).toList=ops.toList.map λx=>(x.1,a.eval x.2):=gP
    by_cases h0:n*sz=0
    .have Z:n=0:=by rcases oY.1 h0 with h|h<;>omega
     subst Z;simp only[dm]at u;simp only[dm,if_true,ez,cp,j];have e0:(qx (λx=>(#[]:Array cc)[x % (#[]:Array cc).size]!) (ga 0))=qx (λi=>b.cells[i % b.cells.size]!) (ga 0):=gP;rw[e0,u];simp[nK]
    .rw[if_neg h0];simp only[er,N,cp,ez,j,u];simp[nK]
   .have s:=Lq (c:=c) (w:=w.alloc (.cells d e)) h1 h3 al.1 0 sz n n (by rw[h4,g]) (fa _) (by
     have:n<=n*sz:=Nat.le_mul_of_pos_right n T
     unfold j';omega)
    rw[A]at s;exact⟨_,_,_,f,h5,s,h6⟩
  .exact f.elim
 .grind
theorem asW{t:ej}{n:Nat}(hs:lH P t=bf n){v:cc}(a:v.cells.size=n)(b o:Nat) :
  (jI t (.pointer (bf ⟨b,o,hI⟩)) v).run P w=(n4 ⟨b,o,hI⟩ v.cells.toList).run P w:=by
 simp[jI,iN,storeVar,ti hs,a]
theorem adL(h:iy G c H w){v g o:Nat}{t a:ej}{cs xs:List D}(p:H[v]? = bf (.row a g cs)){u x:cc}(B:gX c w u (.ptr v g o)){n:Nat}(hs:lH P t=bf n)
  (b:Cells c w x.cells.toList xs) (C:xs.l=n) (O:o+n<=cs.l) (E:K .any (H.set v (.row a g (cs.take o++xs++cs.drop (o+n))))) :
  ∃w',(jI t u x).run P w = .ok () w'/\kj G c H w K undef w':=by
 cases B with
 | ptr _ _ _ L l j=>
  obtain⟨arr,h1,M,Q,J⟩:=AS h p l j;have f:x.cells.size=n:=by have:=b.len;simp at this;omega
  have k:=kD P L.b (L.base+o) a x.cells.toList 0 arr w h1 iz b.one;simp only[cu]at k
  have m:=Ig h p l j h1 (arr.toList.take (L.base+o)++x.cells.toList++arr.toList.drop (L.base+o+x.cells.toList.l)).toArray
   iz M (cs.take o++xs++cs.drop (o+n)) iz (λi d q=>by
    have r:=J.uJ b o;rw[C]at r;obtain⟨y,A,I,F⟩:=r.get q;refine⟨y,?_,I,F⟩;rw[<-A];simp only[dT];have e:x.cells.toList.l=n:=by simpa using f
    have z:(kb (L.base+o) arr.toList).l=L.base+o:=iz;have s:(kb o (kb cs.l (oy L.base arr.toList))).l=o:=iz
    by_cases R:i<o
    .grind
    .by_cases c2:i<o+n
     .grind
     .have N:i<cs.l:=by have:=(ae.1 q).1;simp at this;omega
      rw[ao iz,ao iz];simp only[aD,aJ,aq,z,s,e];rw[if_pos U];congr 1
      omega)
  exact⟨_,by rw[asW hs f];exact k,.any,_,c,E,m.1,.any _,m.2⟩
theorem arN(h:iy G c H w){t:ej}(hs:lH P t=bf 1){p x:D}{u v:cc}(h1:gX c w u p)(g:gX c w v x)(a:Ma p x H K) :
  ∃w',(jI t u v).run P w = .ok () w'/\kj G c H w K undef w':=by
 unfold Ma at a;split at a
 .rename_i j l o;split at a
  .rename_i k cs d;obtain⟨f,i,a⟩:=a;have b:=wO d;dsimp only at b;refine adL h b h1 hs (FU g (arQ i)) rfl U ?_
   have e:cs.take o ++ [x]++cs.drop (o+1)=cs.set o x:=by rw[bX,if_pos f];simp
   rw[e];exact a
  .exact a.elim
 .grind
theorem arO(h:iy G c H w){t:ej}{n:Nat}(hs:lH P t=bf n){p x:D}{u v:cc}(h1:gX c w u p)(f:gX c w v x)(a:Mb n p x H K) :
  ∃w',(jI t u v).run P w = .ok () w'/\kj G c H w K undef w':=by
 unfold Mb at a;split at a
 .rename_i v' j o xs g;split at a
  .rename_i i cs d;obtain⟨e,b,a⟩:=a;exact adL h (wO d) h1 hs (FU f g) e b a
  .exact a.elim
 .grind
theorem art(h:iy G c H w){t:ej}{f n:Nat}{fs:Array pX}{a:pX}(k:P.underlying t=bf (.struct fs))(l:fs[f]? = bf a)(hs:lH P a.type=bf n)(s:0<n)
  {x:D} {u:cc} (h1:gX c w u x) (d:JA a.offset x H K):∃r,(ml t u f).run P w = .ok r w/\kj G c H w K r w:=by
 have e:∀b o,(ml t (.pointer (bf ⟨b,o,hI⟩)) f).run P w = .ok (.pointer (bf ⟨b,o+a.offset,hI⟩)) w:=λb o=>by simp only[ml,er,aE k,cp,l];simp only[iN,ez,cp,fieldPlace,er,ti hs,jA];rw[if_neg U];simp[di]
 unfold JA at d;split at d
 .rename_i v g o
  cases h1 with
  | ptr _ _ _ L i j=>
   refine⟨_,e _ _,.plain h d ?_⟩;have:=gX.ptr (c:=c) (w:=w) v g (o+a.offset) L i j;rwa [<-bk]at this
 .obtain⟨b,p,rfl,q,m⟩:=Bn h1;exact⟨_,e _ _,.plain h d (T9 q (m.drop _))⟩
 .grind
theorem adK(h:iy G c H w){t:ej}{n:Nat}{b:Bool}(f:ry P t=bf b)(hs:lH P t=bf n){vs:List cc}{cs:List D}(e:Cells c w vs cs){off:Nat}
  (a:Ds off n b (.agg cs) H K):∃r,(part t vs.toArray off).run P w = .ok r w/\kj G c H w K r w:=by
 simp only[Ds]at a
 cases b with
 | true=>
  simp only[if_true]at a;refine⟨.agg ((vs.drop off).take n).toArray,?_,.plain h a.2 ((e.drop off).take n).agg⟩;simp[part,EW f,ti hs,List.extract_toArray,List.take_drop]
 | false=>
  simp only[bQ,if_false]at a;split at a
  .rename_i d j;obtain⟨v,g,_,i⟩:=e.get j;refine⟨v,?_,.plain h a i⟩;simp[part,EW f,g]
  .grind
theorem arq(h:iy G c H w){t:ej}{f n:Nat}{b:Bool}{fs:Array pX}{a:pX}(g:P.underlying t=bf (.struct fs))(k:fs[f]? = bf a)(l:ry P a.type=bf b)(hs:lH P a.type=bf n)
  {x:D} {u:cc} (h1:gX c w u x) (d:Ds a.offset n b x H K):∃r,(pZ t u f).run P w = .ok r w/\kj G c H w K r w:=by
 have e:∃cs,x = .agg cs:=by cases x<;>first|exact⟨_,rfl⟩|exact(show False from d).elim
 obtain⟨cs,rfl⟩:=e
 cases h1 with
 | agg vs _ hl h1 m=>
  obtain⟨r,i,j⟩:=adK h l hs ⟨hl,h1,m⟩ d;exact⟨r,by simp[pZ,aE g,k,asAgg,i],j⟩
theorem arv(h:iy G c H w){t e:ej}{sz:Nat}(O:P.underlying t=bf (.slice e))(hs:lH P e=bf sz)(X:0<sz){x i:D}{u v:cc}(h1:gX c w u x)(z:gX c w v i)(a:KU sz x i H K) :
  ∃r,(hY t u v).run P w = .ok r w/\kj G c H w K r w:=by
 have q:∀(ad:lp) (len cap:Nat) (k:qd) (n:Int),0<=n/\n<len->(hY t (.slice (bf ad) len cap) (.int k n)).run P w = .ok (.pointer (bf (ad.add (n.n*sz)))) w:=λad len cap k n f=>by simp only[hY,er,mP,ez,cp,aE O,ti hs,jA];rw[if_pos f]
 unfold KU at a;split at a
 .rename_i s es k n;obtain⟨rfl,f,a⟩:=a;cases z
  cases h1 with
  | sl ad len cap _ _ g E I C J B p Q=>
   have hi:n.n<es.l:=U
   cases ad with
   | none=>have:=B rfl;omega
   | some ad=>
    refine⟨_,q ad len cap k n ⟨f.1,U⟩,.plain h a ?_⟩;have m:es[n.n]? = bf es[n.n]:=by simp[hi]
    have A:es.getD n.n []=es[n.n]:=by simp[hi]
    rw[A];have hl:es[n.n].l=s:=J _ (cD hi);obtain⟨d0,F⟩:∃d0,es[n.n][0]? = bf d0:=⟨es[n.n][0]' U,gP⟩;obtain⟨b,o,e,y,_,_⟩:=p n.n _ 0 d0 m F;cases e;rw[di];refine .ie b (o+n.n*s) _ (g n.n) y (λj d l=>?_) (λj d l=>Q _ _ j d m l);obtain⟨Z,o',e,_,S,R⟩:=p n.n _ j d m l;cases e;exact⟨by rw[bk];exact S,R⟩
 .rename_i vs k n;obtain⟨rfl,f,a⟩:=a;cases z
  cases h1 with
  | nj ad _ C B p=>
   have hi:n.n<vs.l:=U;have m:vs[n.n]? = bf vs[n.n]:=by simp[hi]
   have A:vs.getD n.n undef=vs[n.n]:=by simp[hi]
   obtain⟨b,o,e,y,V,h1⟩:=p _ _ m;subst e;refine⟨_,q _ vs.l vs.l k n f,.plain h a ?_⟩;rw[A,di];refine .ie b (o+n.n*1) _ (λ_=>vs[n.n]) y (λj d l=>?_) (λj d l=>?_)
   .grind
   .have:j=0:=by have:=(ae.1 l).1;simp at this;exact this
    subst this;cases l;exact .val _
 .rename_i T Y s off len k n;obtain⟨rfl,f,a⟩:=a;cases z
  cases h1 with
  | gR _ _ _ _ _ cap L M N I C W=>
   refine⟨_,q _ len cap k n f,.plain h a ?_⟩;rw[di,bk,<-bJ];exact .ptr _ _ _ L M N
  | nU=>omega
 .exact a.elim
end
section
variable{P:oc}{G:GT}{c:Ctx}{H:gQ}{w:kx}{K:kH}{env:iM}{a:Act}
theorem arw(h:iy G c H w){t e:ej}{sz n:Nat}(q:P.underlying t=bf (.array n e))(hs:lH P e=bf sz){x i:D}{u v:cc}(h1:gX c w u x)(g:gX c w v i)(a:KV sz n x i H K) :
  ∃r,(hY t u v).run P w = .ok r w/\kj G c H w K r w:=by
 have f:∀(ad:lp) (k:qd) (m:Int),0<=m/\m<n->(hY t (.pointer (bf ad)) (.int k m)).run P w = .ok (.pointer (bf (ad.add (m.n*sz)))) w:=λad k m d=>by simp only[hY,er,mP,ez,cp,aE q,ti hs,jA,iN];rw[if_pos d]
 unfold KV at a;split at a
 .rename_i z A o k m;obtain⟨d,a⟩:=a;cases g
  cases h1 with
  | ptr _ _ _ L j l=>
   refine⟨_,f _ k m d,.plain h a ?_⟩;rw[di,bk];exact .ptr _ _ _ L j l
 .rename_i cs k m;obtain⟨d,a⟩:=a;cases g;obtain⟨b,p,rfl,y,s⟩:=Bn h1;refine⟨_,f _ k m d,.plain h a ?_⟩;rw[di];exact T9 y (s.drop _)
 .exact a.elim
theorem aru(h:iy G c H w){t e:ej}{sz n:Nat}{b:Bool}(f:P.underlying t=bf (.array n e))(hs:lH P e=bf sz)(o:ry P e=bf b){x i:D}{u v:cc}(h1:gX c w u x)(d:gX c w v i)(a:KX sz n b x i H K) :
  ∃r,(la t u v).run P w = .ok r w/\kj G c H w K r w:=by
 unfold KX at a;split at a
 .rename_i cs k m;obtain⟨l,a⟩:=a;cases d
  cases h1 with
  | agg vs _ hl h1 d=>
   obtain⟨r,g,j⟩:=adK (off:=m.n*sz) h o hs ⟨hl,h1,d⟩ a;refine⟨r,?_,j⟩;simp only[la,er,mP,ez,cp,aE f,jA];rw[if_pos l];simp[ti hs,g]
 .exact a.elim
theorem arx(h:iy G c H w){t:ej}(d:P.underlying t=bf .string){x i:D}{u v:cc}(h1:gX c w u x)(f:gX c w v i)(a:KY x i H K) :
  ∃r,(la t u v).run P w = .ok r w/\kj G c H w K r w:=by
 unfold KY at a;split at a
 .rename_i s k m;obtain⟨e,a⟩:=a;cases h1;cases f;have b:m.n<s.size:=U
  have hl:s.data.toList.getD m.n 0=s[m.n]:=by have g:m.n<s.data.size:=b;show(s.data.toList[m.n]?).getD 0=s.data[m.n];rw[bS,cL g];rfl
  rw[hl]at a;refine⟨_,?_,.val h a⟩;simp only[la,er,mP,ez,cp,aE d];rw[if_pos e.1];simp[b]
 .exact a.elim
theorem arp(h:iy G c H w){x:D}{i:Nat}{u:cc}(h1:gX c w u x)(a:Jw x i H K):∃r,(oJ u i).run P w = .ok r w/\kj G c H w K r w:=by
 unfold Jw at a;split at a
 .split at a
  .rename_i ds d b
   cases h1 with
   | tup vs _ hl h1=>
    have hi:i<vs.l:=by rw[hl];exact(ae.1 b).1
    refine⟨vs[i],?_,.plain h a (h1 i _ d (by simp[hi]) b)⟩;simp[oJ,hi]
  .exact a.elim
 .exact a.elim
theorem arC(h:iy G c H w)(j:mg c w env a){f:Fn}{first cap:Array fx}{b d:List X}(h1:zS G first.toList=bf b)(m:zS G cap.toList=bf d)
  (k:K (.fn f (b.map (ev env)) (d.map (ev env))) H):kj G c H w K (.func f (first.map a.eval) (cap.map a.eval)) w:=by
 have i:=C9 h j first.toList h1
 have g:=C9 h j cap.toList m;refine .plain h k ?_;have:=gX.fn (c:=c) (w:=w) f (first.toList.map a.eval) (cap.toList.map a.eval) (b.map (ev env)) (d.map (ev env)) i.l g.l i.get g.get;have e:∀l:Array fx,(l.toList.map a.eval).toArray=l.map a.eval:=λl=>by cases l;simp
 rwa [e,e]at this
theorem arD(h:iy G c H w){al:Al}(e:o7 H al)(t:ej)(kk:KK)(f:K (.im al.1) (al.2 (.map kk []))):∃r w',(oL t hI).run P w = .ok r w'/\kj G c H w K r w':=by
 have a:=ly.alloc w (.map #[] 0);have d:(⟨w.heap.size,0,0,gb⟩:Loc).kQ=gb->w.heap.size<=(⟨w.heap.size,0,0,gb⟩:Loc).b/\(⟨w.heap.size,0,0,gb⟩:Loc).b<(w.alloc (.map #[] 0)).heap.size:=λ_=>⟨fa _,gP⟩;have b:=(e (.map kk [])).wQ;have hs:=SM h b a ⟨w.heap.size,0,0,gb⟩ d;refine⟨.map (bf w.heap.size),w.alloc (.map #[] 0),by simp[oL],_,_,_,f,Xy h b a _ d rfl ?_,?_,hs⟩
 .simp only[iY];exact⟨trivial,gP,#[],0,lu _ _,⟨rfl,gP,gP⟩⟩
 .exact .im (c:=c.set al.1 0 ⟨w.heap.size,0,0,gb⟩) al.1 ⟨w.heap.size,0,0,gb⟩ (Ctx.uH _ _ _ _) rfl
theorem arE(h:iy G c H w){al:Al}(x:o7 H al){t e:ej}{i:mV}{z:List D}(A:P.underlying t=bf (.slice e))(hi:P.info? e=bf i)(y:tv P e=bf z)(Z:z.l=i.size)(V:0<i.size)
  {l m:D} {u v:cc} (h1:gX c w u l) (C:gX c w v m) (b:Li e i.size i.bytes z l m al K):∃r w',(ox t u v).run P w = .ok r w'/\kj G c H w K r w':=by
 unfold Li at b;split at b
 .rename_i k n W q;obtain⟨⟨T,B,X,Y⟩,b⟩:=b;cases h1;cases C;obtain⟨a,g,_,d⟩:=CF y w;have o:a.cells.size=i.size:=by have:=(d c w).len;simp at this;omega
  have wn:IntKind.i64.wrap n=n:=wrap_i64 (by unfold p6;omega);have p:IntKind.i64.wrap q=q:=wrap_i64 (by unfold p6;omega)
  have s:Cells c w ((ga (q.n*i.size)).map (λj=>a.cells[j % a.cells.size]!)).toList (hU q.n z).flatten:=by rw[<-o,Sc a.cells q.n U];exact Qp _ _ d _
  obtain⟨L,N,e2,M,J,I,F⟩:=Hq h w (ly.refl w) e _ _ ((ga (q.n*i.size)).map (λj=>a.cells[j % a.cells.size]!)).size ((ga (q.n*i.size)).map (λj=>a.cells[j % a.cells.size]!)) (x _).wQ s (by rw[<-dK,cY]) (fa _);refine⟨.slice (bf ⟨w.heap.size,0,hI⟩) n.n q.n,w.alloc (.cells ((ga (q.n*i.size)).map (λj=>a.cells[j % a.cells.size]!)) e),?_,?_⟩
  .have R:¬((i.bytes:Int)*q>2 ^ 48):=by omega
   have c2:¬q<0:=U;have Q:¬n<0:=U;have O:¬n>q:=U;simp only[ox,er,aE A,cp,asInt,mP,ez,run_typeInfo hi,wn,p,jA];rw[if_neg (by simp[R,c2,Q,O];omega)]
   by_cases h0:q.n*i.size=0
   .have S:q.n=0:=by rcases oY.1 h0 with h|h<;>omega
    have E:ga 0=(#[]:Array Nat):=rfl;simp[mz,run_typeInfo hi,S,nK,E]
   .simp[mz,run_typeInfo hi,h0,g,nK]
  .have f:=Lq (c:=c) (w:=w.alloc (.cells ((ga (q.n*i.size)).map (λj=>a.cells[j % a.cells.size]!)) e)) N M al.1 0 i.size n.n q.n (by rw[J];simp) U (by unfold j';omega);rw[e2]at f;exact⟨_,_,_,b,I,f,F⟩
 .exact b.elim
end
section
variable{P:oc}{G:GT}{c:Ctx}{H:gQ}{w:kx}{K:kH}{env:iM}{a:Act}
theorem Qn{α:Type}(sz:Nat)(c:0<sz):∀(ls:List (List α)),(∀l∈ls,l.l=sz)->∀j:Nat,ls.flatten[j]? = (ls[j / sz]?).bind (·[j % sz]?)
 | [],_,j=>gP
 | l::ls,h,j=>by
  have hl:l.l=sz:=h l gP;rw[bg]
  by_cases d:j<sz
  .rw[ah U,Nat.div_eq_of_lt d,fX d];simp
  .rw[ao U,hl,Qn sz c ls (λl hl=>h l (by simp[hl])),Nat.div_eq_sub_div (a:=j) (b:=sz) c U,ou (a:=j) (b:=sz) U];simp
theorem Qo{α:Type}(sz:Nat):∀(ls:List (List α)),(∀l∈ls,l.l=sz)->ls.flatten.l=ls.l*sz
 | [],_=>gP
 | l::ls,h=>by rw[bg,aq,Qo sz ls (λl hl=>h l (by simp[hl])),h l gP,aF,bJ];omega
theorem Xt(h:iy G c H w){sz:Nat}(R:0<sz){d:D}{u:cc}(p:gX c w u d){x:List D}{n:Nat}(f:lX sz H d=bf (x,n)) :
  ∃y E vs,u = .slice y n E/\Cells c w vs x/\x.l=n*sz/\n<=E/\(y=hI->n=0)/\(∀ad,y=bf ad->∀(j:Nat) (v:cc),vs[j]? = bf v->w.cell? (ad.add j)=bf v):=by
 unfold lX at f;split at f
 .rename_i k es;split at f
  .rename_i e;subst e;cases f
   cases p with
   | sl ad len cap _ _ g q I K J A r p=>
    have Ki:=Qo k es J
    have M:∀(j:Nat) (d:D),es.flatten[j]? = bf d->∃e,es[j / k]? = bf e/\e[j % k]? = bf d:=λj d l=>by
     rw[Qn k R es J]at l
     cases O:es[j / k]? with
     | none=>simp[O]at l
     | some e=>exact⟨e,rfl,by simpa[O]using l⟩
    refine⟨ad,cap,(List.range es.flatten.l).map λj=>g (j / k) (j % k),by rw[q],⟨gP,λv a=>?_,λi v d a l=>?_⟩,Ki,U,λe=>by have:=A e;omega,λb m j v a=>?_⟩
    .simp only[aj,aZ]at a;obtain⟨j,s,rfl⟩:=a;obtain⟨e,C,z⟩:=M j _ (by rw[lK s]);obtain⟨_,_,_,_,_,h1⟩:=r _ e _ _ C z;exact h1
    .grind
    .have s:j<es.flatten.l:=by have:=(ae.1 a).1;simpa using this
     simp only[aw,cF s,aK,ax]at a;subst a;obtain⟨e,C,z⟩:=M j _ (by rw[lK s]);obtain⟨Z,o,F,_,P,_⟩:=r _ e _ _ C z;rw[m]at F;cases F;rw[di];have B:=P;rw[oM j k]at B;exact B
  .cases f
 .cases f
  cases p with
  | gV=>exact⟨hI,0,[],rfl,Cells.nil,gP,fa _,λ_=>rfl,λ_ _ j v a=>by simp at a⟩
 .rename_i vs;split at f
  .rename_i Y;subst Y;cases f
   cases p with
   | nj ad _ K A r=>
    refine⟨ad,vs.l,vs,rfl,⟨gP,λv a=>?_,λi v d a l=>?_⟩,gP,fa _,λe=>by rw[A e];rfl,λb m j v a=>?_⟩
    .obtain⟨i,hi⟩:=nm a;obtain⟨_,_,_,_,_,h1⟩:=r i v hi;exact h1
    .simp only[aw,a,aK,ax]at l;subst l;exact .val _
    .obtain⟨Z,o,W,_,Q,_⟩:=r j v a;rw[W]at m;cases m;rw[di];exact Q
  .cases f
 .rename_i v0 g0 k off len;split at f
  .rename_i t cs V;split at f
   .rename_i S;obtain⟨rfl,oZ⟩:=S;cases f;have a:=wO V;dsimp only at a
    cases p with
    | gR _ _ _ _ _ cap L N T I K mS=>
     obtain⟨arr,h1,P,B,X⟩:=AS h a N T;refine⟨_,cap,_,rfl,((X.drop (off*k)).take (n*k)),?_,I,(λe=>nomatch e),λad m j v a=>?_⟩
     .grind
     .cases m;rw[di];rw[aJ]at a;split at a
      .rw[aD,aJ]at a;split at a
       .rw[aD]at a;simp[World.cell?,h1];rw[bk];simpa using a
       .cases a
      .cases a
    | nU _ _ _ _ L N ad=>
     refine⟨ad,0,[],rfl,?_,gP,fa _,λ_=>rfl,λ_ _ j v a=>by simp at a⟩;simp only[dm,eI];exact Cells.nil
   .cases f
  .cases f
 .cases f
theorem Zt:∀ {vs:List cc} {a:List D} {b:List Int},vs.l=a.l->(∀(i:Nat) (v:cc) (d:D),vs[i]? = bf v->a[i]? = bf d->gX c w v d)->bytesOf a=bf b->vs=b.map (Value.int .u8)
 | [],[],b,_,_,h=>by cases h;rfl
 | v::vs,y::a,b,hl,hr,h=>by
  unfold bytesOf at h;split at h
  .grind
  .rename_i n r f;cases f;split at h
   .rename_i l g;cases h;have h0:=hr 0 v _ rfl rfl;cases h0;have e:=Zt (vs:=vs) (by simpa using hl) (λi v d j k=>hr (i+1) v d (by simpa using j) (by simpa using k)) g;rw[e];rfl
   .cases h
  .cases h
theorem arc(h:iy G c H w){s d e:ej}(hs:P.underlying s=bf (.slice e))(q:P.underlying e=bf (.int .u8))(t:P.underlying d=bf .string){x:D}{u:cc}(h1:gX c w u x)(a:I1 x H K) :
  ∃r,(convert s d u).run P w = .ok r w/\kj G c H w K r w:=by
 unfold I1 at a;split at a
 .rename_i A n l;obtain⟨j,i,vs,m,b,k,o,y,z⟩:=Xt h U h1 l;subst m;split at a
  .rename_i f v;have g:=Zt b.len b.rep v;refine⟨_,?_,.val h a⟩;rw[run_convert_bytes_string w s d e j n i hs q t]
   cases j with
   | none=>
    have p:=y rfl;subst p
    have:f = []:=by
     have:vs = []:=bj (by rw[b.len,k]);rw[this]at g
     cases f with
     | nil=>rfl
     | cons=>cases g
    subst this;simp[Conv.bytesToString]
   | some ad=>
    refine run_bytesToString w ad n i f ?_;have hl:vs.l=n:=by rw[b.len,k];simp
    have:=run_loadCells_list (P:=P) w ad vs (z ad rfl);rw[hl]at this;rw[this,g]
  .exact a.elim
 .grind
theorem agd(h:iy G c H w)(i:mg c w env a){x:Option fx}{X:Option X}(e:uc G x=bf X){d:Int}{n:Int}(b:jd env X d=bf n) :
  (x=hI/\n=d)\/∃k o,x=bf o/\a.eval o = .int k n:=by
 cases x with
 | none=>cases e;simp[jd]at b;exact .inl ⟨rfl,b.symm⟩
 | some o=>
  simp only[uc,ar]at e;obtain⟨j,hX,rfl⟩:=e;have:=jH h i hX;simp only[jd]at b;split at b
  .rename_i k m f;cases b;rw[f]at this;generalize g:a.eval o=v at this;cases this;exact .inr ⟨k,o,rfl,g⟩
  .cases b
theorem Sp(a:Bool)(len cap:Nat)(lo hi:Option cc)(l h:Int)(d:(lo=hI/\l=0)\/∃k,lo=bf (.int k l))(e:(hi=hI/\h=len)\/∃k,hi=bf (.int k h))
  (h0:0<=l) (h1:l<=h) (c:h<=cap):(eB a len cap lo hi hI).run P w = .ok (l.n,h.n,cap) w:=by
 have f:(h.n:Int)=h:=Int.toNat_of_nonneg U;rcases d with⟨rfl,rfl⟩|⟨k,rfl⟩<;>rcases e with⟨rfl,rfl⟩|⟨b,rfl⟩
 .simp[eB]
 .simp[eB,eL w b h cap _ U c]
 .simp[eB,eL w k l len _ h0 h1]
 .simp[eB,eL w b h cap _ U c,eL w k l h.n _ h0 U]
theorem xD(h:iy G c H w)(e:mg c w env a){x:Option fx}{X:Option X}(b:uc G x=bf X){d:Int}{n:Int}(f:jd env X d=bf n) :
  (x.map a.eval=hI/\n=d)\/∃k,x.map a.eval=bf (.int k n):=by
 rcases agd h e b f with⟨rfl,rfl⟩|⟨k,o,rfl,g⟩
 .grind
 .grind
theorem arL(h:iy G c H w)(E:mg c w env a){t e:ej}{sz:Nat}(V:P.underlying t=bf (.slice e))(hs:lH P e=bf sz){lo hi:Option fx}{L M:Option X}(hl:uc G lo=bf L)(Y:uc G hi=bf M)
  {x:D} {u:cc} (h1:gX c w u x) (f:L6 env sz x L M H K):∃r,(ep t u (lo.map a.eval) (hi.map a.eval) hI).run P w = .ok r w/\kj G c H w K r w:=by
 have y:∀(b:Option lp) (len cap:Nat) (l m:Int),jd env L 0=bf l->jd env M len=bf m->0<=l->l<=m->m<=cap ->
   (ep t (.slice b len cap) (lo.map a.eval) (hi.map a.eval) hI).run P w = .ok (.slice (if cap=l.n then b else b.map (·.add (l.n*sz))) (m.n-l.n) (cap-l.n)) w:=by
  intro b len cap l m n k h0 p Ve;have hb:=Sp (P:=P) (w:=w) true len cap (lo.map a.eval) (hi.map a.eval) l m (xD h E hl n) (xD h E Y k) h0 p Ve;simp only[ep,er,aE V,cp,ns,hb,ti hs,ez]
 unfold L6 at f;split at f
 .rename_i q es;split at f
  .rename_i l m n k;obtain⟨rfl,⟨h0,p,I⟩,f⟩:=f
   cases h1 with
   | sl ad len cap _ _ g s O R Q mQ hc hr=>
    refine⟨_,y ad len cap l m n (by rw[<-s];exact k) h0 p U,.plain h f ?_⟩;have S:∀(i:Nat) (e:List D),((es.drop l.n).take (m.n-l.n))[i]? = bf e->es[l.n+i]? = bf e/\i<m.n-l.n:=λi e hi=>kM;refine .sl _ _ _ q _ (λi j=>g (l.n+i) j) iz U U (λe J=>Q e (bO (aQ J))) ?_ ?_ ?_
    .intro W;split at W
     .omega
     .simp_all
    .intro i e j d hi Z;obtain⟨h3,h4⟩:=S i e hi;obtain⟨b,o,F,hF,qy,h1⟩:=hc _ e j d h3 Z;refine⟨b,o+l.n*q,?_,hF,?_,h1⟩
     .rw[if_neg U,F];simp[di]
     .grind
    .grind
  .exact f.elim
 .rename_i v B q off len;split at f
  .rename_i l m n k;obtain⟨rfl,⟨h0,p,I⟩,f⟩:=f
   cases h1 with
   | gR _ _ _ _ _ cap A z T O R N=>
    refine⟨_,y _ len cap l m n k h0 p U,.plain h f ?_⟩
    by_cases C:cap=l.n
    .rw[if_pos C,(U:m.n-l.n=0),(U:cap-l.n=0)];exact .nU v B q (off+l.n) A z _
    .rw[if_neg C];have:=gX.gR (c:=c) (w:=w) v B q (off+l.n) (m.n-l.n) (cap-l.n) A z T U U (by rw[(U:off+l.n+(cap-l.n)=off+cap)];exact N);simp only[aK,di];rw[bk,<-bJ];exact this
   | nU _ _ _ _ A z ad=>
    have:l=0:=U;subst this;have:m=0:=U;subst this;refine⟨_,y ad 0 0 0 0 n k h0 p U,.plain h f ?_⟩;simp only[fy,if_true,fY,cu];exact .nU v B q off A z ad
  .exact f.elim
 .split at f
  .rename_i l m n k;obtain⟨⟨rfl,rfl⟩,f⟩:=f
   cases h1 with
   | gV=>
    refine⟨_,y hI 0 0 0 0 n k U U U,.plain h f ?_⟩;simp only[fy,if_true,fY];exact .gV
  .exact f.elim
 .grind
theorem asV(a:Bool)(len cap:Nat)(lo:Option cc)(k b:qd)(l h m:Int)(d:(lo=hI/\l=0)\/∃k,lo=bf (.int k l))
  (h0:0<=l) (h1:l<=h) (e:h<=m) (c:m<=cap):(eB a len cap lo (bf (.int k h)) (bf (.int b m))).run P w = .ok (l.n,h.n,m.n) w:=by
 have em:(m.n:Int)=m:=Int.toNat_of_nonneg U;rcases d with⟨rfl,rfl⟩|⟨k0,rfl⟩
 .simp[eB,eL w b m cap _ U c,eL w k h m.n _ U U]
 .simp[eB,eL w b m cap _ U c,eL w k h m.n _ U U,eL w k0 l h.n _ h0 U]
theorem afa:∀ {es:List (List D)} {vs:List cc},Ic es=bf vs->es=vs.map (λv=>[.val v])/\∀v∈vs,v.oneCell'=true
 | [],vs,h=>by cases h;exact⟨rfl,gP⟩
 | e::es,vs,h=>by
  unfold Ic at h;split at h
  .grind
  .rename_i v r a;cases a;split at h
   .rename_i h1;split at h
    .rename_i l hl;cases h;obtain⟨b,e2⟩:=afa hl;exact⟨by rw[b];rfl,λv c=>kM⟩
    .cases h
   .cases h
  .cases h
theorem agJ{ad:Option lp}{len sz:Nat}{es:List (List D)}(h1:gX c w (.slice ad len len) (.sl sz es)):gX c w (.slice ad len len) (clip sz es):=by
 unfold clip;split
 .rename_i vs h;split
  .rename_i s;subst s;obtain⟨e2,y⟩:=afa h;subst e2
   cases h1 with
   | sl _ _ _ _ _ g a t j x f n l=>
    simp only[List.length_map]at a;subst a;refine .nj ad vs j (λe=>aA.1 (f e)) λi v k=>?_;have hi:(vs.map λv=>[D.val v])[i]? = bf [.val v]:=by simp[k]
    obtain⟨b,o,p,q,d,h1⟩:=n i _ 0 _ hi rfl;have hg:=l i _ 0 _ hi rfl
    have r:g i 0=v:=by generalize m:g i 0=u at hg;cases hg;rfl
    rw[r]at d h1;exact⟨b,o,p,q,by simpa using d,h1⟩
  .exact h1
 .exact h1
theorem arJ(h:iy G c H w)(I:mg c w env a){t e:ej}{sz:Nat}(hu:P.underlying t=bf (.slice e))(hs:lH P e=bf sz){lo:Option fx}{hi mx:fx}{L:Option X}{M N:X}(hl:uc G lo=bf L)(hm:cX G hi=bf M)(E:cX G mx=bf N)
  {x:D} {u:cc} (h1:gX c w u x) (n:L4 env sz x L M N H K):∃r,(ep t u (lo.map a.eval) (bf (a.eval hi)) (bf (a.eval mx))).run P w = .ok r w/\kj G c H w K r w:=by
 have B:∀(b:Option lp) (len cap:Nat) (l f m:Int),jd env L 0=bf l->jd env (bf M) 0=bf f->jd env (bf N) 0=bf m->0<=l->l<=f->f<=m->m<=cap ->
   (ep t (.slice b len cap) (lo.map a.eval) (bf (a.eval hi)) (bf (a.eval mx))).run P w = .ok (.slice (if m.n=l.n then b else b.map (·.add (l.n*sz))) (f.n-l.n) (m.n-l.n)) w:=by
  intro b len cap l f m s p z h0 q A Ve
  obtain⟨k1,T⟩:∃k,a.eval hi = .int k f:=by
   rcases xD h I (x:=bf hi) (X:=bf M) (by simp only[uc,hm,aK]) p with⟨e,_⟩|⟨k,e⟩
   .cases e
   .grind
  obtain⟨k2,lS⟩:∃k,a.eval mx = .int k m:=by
   rcases xD h I (x:=bf mx) (X:=bf N) (by simp only[uc,E,aK]) z with⟨e,_⟩|⟨k,e⟩
   .cases e
   .grind
  have hb:=asV (P:=P) (w:=w) true len cap (lo.map a.eval) k1 k2 l f m (xD h I hl s) h0 q A Ve;simp only[ep,er,aE hu,cp,ns,T,lS,hb,ti hs,ez]
 unfold L4 at n;split at n
 .rename_i l f m s p z;split at n
  .rename_i y es;obtain⟨rfl,⟨h0,q,rfl,S⟩,n⟩:=n
   cases h1 with
   | sl ad len cap _ _ g Q Z jW js Y hc hr=>
    refine⟨_,B ad len cap l f f s p z h0 q (cI _) U,.plain h n (agJ ?_)⟩;have jS:∀(i:Nat) (e:List D),((es.drop l.n).take (f.n-l.n))[i]? = bf e->es[l.n+i]? = bf e/\i<f.n-l.n:=λi e hi=>kM;refine .sl _ _ _ y _ (λi j=>g (l.n+i) j) iz U U (λe V=>js e (bO (aQ V))) ?_ ?_ ?_
    .intro E;split at E
     .omega
     .cases ad with
      | none=>have:=Y rfl;omega
      | some ad=>simp at E
    .intro i e j d hi hd;obtain⟨h3,h4⟩:=jS i e hi;obtain⟨b,o,R,hF,qy,h1⟩:=hc _ e j d h3 hd;refine⟨b,o+l.n*y,?_,hF,?_,h1⟩
     .rw[if_neg U,R];simp[di]
     .grind
    .grind
  .rename_i v J y off len;obtain⟨rfl,⟨h0,q,A,S⟩,n⟩:=n
   cases h1 with
   | gR _ _ _ _ _ cap F C hv Z jW W=>
    refine⟨_,B _ len cap l f m s p z h0 q A U,.plain h n ?_⟩
    by_cases O:m.n=l.n
    .rw[if_pos O,(U:f.n-l.n=0),(U:m.n-l.n=0)];exact .nU v J y (off+l.n) F C _
    .rw[if_neg O]
     have:=gX.gR (c:=c) (w:=w) v J y (off+l.n) (f.n-l.n) (m.n-l.n) F C hv U U (by
      refine Nat.le_trans (Nat.add_le_add_left (bP _ ?_) _) W
      omega)
     simp only[aK,di];rw[bk,<-bJ];exact this
   | nU _ _ _ _ F C ad=>
    have:l=0:=U;subst this;have:f=0:=U;subst this;have:m=0:=U;subst this;refine⟨_,B ad 0 0 0 0 0 s p z h0 q A U,.plain h n ?_⟩;simp only[fy,if_true,fY,cu];exact .nU v J y off F C ad
  .obtain⟨⟨rfl,rfl,rfl⟩,n⟩:=n
   cases h1 with
   | gV=>
    refine⟨_,B hI 0 0 0 0 0 s p z U U U U,.plain h n ?_⟩;simp only[fy,if_true,fY];exact .gV
  .exact n.elim
 .grind
theorem arK(h:iy G c H w)(s:mg c w env a){t e:ej}{sz n:Nat}(T:P.underlying t=bf (.array n e))(hs:lH P e=bf sz){lo hi:Option fx}{L M:Option X}(hl:uc G lo=bf L)(W:uc G hi=bf M)
  {x:D} {u:cc} (h1:gX c w u x) (f:L5 env sz n x L M H K):∃r,(ep t u (lo.map a.eval) (hi.map a.eval) hI).run P w = .ok r w/\kj G c H w K r w:=by
 unfold L5 at f;split at f
 .rename_i cs l m B z;obtain⟨⟨rfl,Z,jW,h0,A,Y⟩,f⟩:=f;obtain⟨b,p,rfl,hF,ka⟩:=Bn h1;obtain⟨vs,N,mE⟩:=ka;have I:=Sp (P:=P) (w:=w) gb n n (lo.map a.eval) (hi.map a.eval) l m (xD h s hl B) (xD h s W z) h0 A U
  have C:(ep t (.pointer (bf ⟨b,p,hI⟩)) (lo.map a.eval) (hi.map a.eval) hI).run P w = .ok (.slice (bf (if n=l.n then⟨b,p,hI⟩else qJ ⟨b,p,hI⟩ (l.n*1))) (m.n-l.n) (n-l.n)) w:=by simp only[ep,er,aE T,cp,iN,I,ti hs,ez]
  refine⟨_,C,.plain h f ?_⟩;have R:∀(i:Nat) (e:List D),(((cs.drop l.n).take (m.n-l.n)).map λd=>[d])[i]? = bf e->∃d,cs[l.n+i]? = bf d/\e = [d]/\i<m.n-l.n:=λi e hi=>kM;refine .sl _ _ _ 1 _ (λi _=>vs.getD (l.n+i) undef) iz U (by unfold j';omega) (λe mm=>?_) (λe=>nomatch e) ?_ ?_
  .grind
  .intro i e j d hi y;obtain⟨d0,J,rfl,h4⟩:=R i e hi;have F:j=0:=by have:=(ae.1 y).1;simp at this;exact this
   subst F;obtain⟨v,q,nC,O⟩:=N.get J;refine⟨b,p+l.n,?_,hF,?_,?_⟩
   .rw[if_neg U,di,fD]
   .grind
   .grind
  .intro i e j d hi y;obtain⟨d0,J,rfl,h4⟩:=R i e hi;have F:j=0:=by have:=(ae.1 y).1;simp at this;exact this
   subst F;cases y;obtain⟨v,q,nC,O⟩:=N.get J;rw[List.getD_eq_getElem?_getD,q,bh];exact O
 .rename_i v g o l m B z;split at f
  .rename_i t' cs iX;obtain⟨⟨a6,Z,jW,h0,A,Y⟩,f⟩:=f;have q:=wO iX;dsimp only at q
   cases h1 with
   | ptr _ _ _ k E Q=>
    obtain⟨arr,DK,QO,a3,QP⟩:=AS h q E Q;have I:=Sp (P:=P) (w:=w) gb n n (lo.map a.eval) (hi.map a.eval) l m (xD h s hl B) (xD h s W z) h0 A U
    have C:(ep t (.pointer (bf ⟨k.b,k.base+o,hI⟩)) (lo.map a.eval) (hi.map a.eval) hI).run P w = .ok (.slice (bf (if n=l.n then⟨k.b,k.base+o,hI⟩else qJ ⟨k.b,k.base+o,hI⟩ (l.n*sz))) (m.n-l.n) (n-l.n)) w:=by simp only[ep,er,aE T,cp,iN,I,ti hs,ez]
    refine⟨_,C,.plain h f ?_⟩;have V:o=o / sz*sz:=by have:=oM o sz;omega
    by_cases S:n=l.n
    .rw[if_pos S,(U:m.n-l.n=0),(U:n-l.n=0)];exact .nU v g sz (o / sz+l.n) k E _
    .rw[if_neg S]
     have:=gX.gR (c:=c) (w:=w) v g sz (o / sz+l.n) (m.n-l.n) (n-l.n) k E Q U (by unfold j';omega) (by
      rw[(U:o / sz+l.n+(n-l.n)=o / sz+n),bJ,<-V]
      omega)
     rw[di];rw[bJ,<-V,<-bk]at this;exact this
  .exact f.elim
 .grind
theorem arM(h:iy G c H w)(d:mg c w env a){t:ej}(j:P.underlying t=bf .string){lo hi:Option fx}{L M:Option X}(hl:uc G lo=bf L)(k:uc G hi=bf M)
  {s:ByteArray} (b:HR env (.val (.string s)) L M H K):∃r,(ep t (.string s) (lo.map a.eval) (hi.map a.eval) hI).run P w = .ok r w/\kj G c H w K r w:=by
 simp only[HR]at b;split at b
 .rename_i l m i f;obtain⟨⟨h0,g,e⟩,b⟩:=b;have n:=Sp (P:=P) (w:=w) gb s.size s.size (lo.map a.eval) (hi.map a.eval) l m (xD h d hl i) (xD h d k f) h0 g e;exact⟨.string (s.extract l.n m.n),by simp[ep,aE j,ns,n],.val h b⟩
 .grind
theorem wG{v:Nat}{x:KK×List (cc×D)}(h:mU H v=bf x):H[v]? = bf (.map x.1 x.2):=by
 unfold mU at h;split at h
 .grind
 .cases h
theorem WO(h:iy G c H w){t ty:ej}{k:CZ}{d:TypeDesc}(f:P.underlying t=bf d)(b:match k with | .slice=>∃e,d = .slice e | .string=>d = .string | .map=>∃k e,d = .map k e)
  {x:D} {u:cc} (h1:gX c w u x) (a:K8 k x H K):∃r,(fb #[t] ty #[u]).run P w = .ok r w/\kj G c H w K r w:=by
 unfold K8 at a;split at a
 .obtain⟨e,rfl⟩:=b
  cases h1 with
  | sl ad len cap _ _ g i q n m p A E=>
   refine⟨goInt len,by simp[fb,aE f],.plain h a ?_⟩;rw[i];exact .val _
 .obtain⟨e,rfl⟩:=b
  cases h1 with
  | gV=>exact⟨goInt 0,by simp[fb,aE f],.plain h a (.val _)⟩
 .rename_i vs;obtain⟨e,rfl⟩:=b
  cases h1 with
  | nj ad _ n p A=>exact⟨goInt vs.l,by simp[fb,aE f],.plain h a (.val _)⟩
 .rename_i v F sz off len;obtain⟨e,rfl⟩:=b
  cases h1 with
  | gR _ _ _ _ _ cap L o y q n C=>exact⟨goInt len,by simp[fb,aE f],.plain h a (.val _)⟩
  | nU=>exact⟨goInt 0,by simp[fb,aE f],.plain h a (.val _)⟩
 .have b:d = .string:=b;subst b;cases h1;exact⟨_,by simp[fb,aE f]<;>rfl,.plain h a (.val _)⟩
 .rename_i v;obtain⟨kk,e,rfl⟩:=b;split at a
  .rename_i B es s
   cases h1 with
   | im _ L o y=>
    have j:=h.ob v _ (wG s);simp only[Ob.gen]at j;rw[o]at j;simp only[iY]at j;obtain⟨_,_,arr,l,z,m,_⟩:=j;refine⟨goInt arr.size,by simp[fb,aE f,getObj,Sem.run,z],.plain h a ?_⟩;rw[<-m];exact .val _
  .exact a.elim
 .grind
theorem adH(h:iy G c H w)(u:mg c w env a){xs:List X}{ops:Array fx}(t:zS G ops.toList=bf xs)(b:Bool)(j:Array ej)(ty:ej)(f:Lh env b xs H K) :
  ∃r,(if b then mR j ty (ops.map a.eval)else mT j ty (ops.map a.eval)).run P w = .ok r w/\kj G c H w K r w:=by
 have d:=C9 h u ops.toList t
 have key:∀(xs:List X) (vs:List cc) (l:List Int),tQ env xs=bf l->kF c w vs (xs.map (ev env))->vs=l.map (Value.int .i64 ·):=by
  intro xs
  induction xs with
  | nil=>intro vs l hl d;simp[tQ]at hl;subst hl;cases d;rfl
  | cons x xs o=>
   intro vs l hl d;simp only[tQ]at hl;split at hl
   .rename_i n y k m;cases hl;simp only[List.map_cons]at d
    cases d with
    | cons h1 v=>
     rw[k]at h1;cases h1;rw[o _ _ m v];rfl
   .cases hl
 have e:∀l:Array fx,(l.toList.map a.eval).toArray=l.map a.eval:=λl=>by cases l;simp
 unfold Lh at f;split at f
 .rename_i p q hi;have i:=key _ _ _ hi d;have g:ops.map a.eval = #[.int .i64 p,.int .i64 q]:=by rw[<-e,i];rfl
  cases b
  .refine⟨.int .i64 (min p q),?_,.val h (by simpa using f)⟩;simp only[bQ,if_false,g];have:(if q<p then q else p)=min p q:=U;simp[mT,o0,this]
  .refine⟨.int .i64 (max p q),?_,.val h (by simpa using f)⟩;simp only[if_true,g];have:(if q>p then q else p)=max p q:=U;simp[mR,px];omega
 .rename_i p q s hi;have i:=key _ _ _ hi d;have g:ops.map a.eval = #[.int .i64 p,.int .i64 q,.int .i64 s]:=by rw[<-e,i];rfl
  cases b
  .refine⟨.int .i64 (min (min p q) s),?_,.val h (by simpa using f)⟩;simp only[bQ,if_false,g];simp[mT,o0];omega
  .refine⟨.int .i64 (max (max p q) s),?_,.val h (by simpa using f)⟩;simp only[if_true,g];simp[mR,px];omega
 .exact f.elim
end
section
variable{P:oc}{G:GT}{c:Ctx}{H:gQ}{w:kx}{K:kH}{env:iM}{a:Act}
theorem ado{G:GT}{c:Ctx}{H:gQ}{w w':kx}(h:iy G c H w){v g:Nat}{t:ej}{cs:List D}(A:H[v]? = bf (.row t g cs)){L:Loc}(X:c.ι v g=bf L)(a:Loc)
  (hg:(w'.os=w.os/\w.drawn<=w'.drawn)/\w'.tape=w.tape/\w'.output=w.output/\w.heap.size<=w'.heap.size) (T:∀b,b<w.heap.size->¬(L.kQ=gb/\b=L.b)->w'.heap[b]? = w.heap[b]?)
  (y:a.kQ=gb->(w.heap.size<=a.b\/(L.kQ=gb/\a.b=L.b))/\a.b<w'.heap.size) (m:List D)
  (W:(∀u d,gX c w u d->gX (c.set v (g+1) a) w' u d)->iY (c.set v (g+1) a) w' (bf a) (.row t (g+1) m)) :
  iy G (c.set v (g+1) a) (H.set v (.row t (g+1) m)) w'/\Step H.l c H w (c.set v (g+1) a) (H.set v (.row t (g+1) m)) w':=by
 have K:v<H.l:=(ae.1 A).1;have p:nh c H v L:=⟨_,A,rfl,X⟩;have S:Bg H v (.row t (g+1) m) (H.set v (.row t (g+1) m)):=⟨uG K,.inr (.inr ⟨_,A,rfl,Nat.lt_succ_self _⟩),gP⟩;have Q:∀b,c.F b->¬(L.kQ=gb/\b=L.b):=λb x e=>h.nF b ⟨v,L,p,e.1,e.2.symm⟩ x;have J:∀u l,nh (c.set v (g+1) a) (H.set v (.row t (g+1) m)) u l->(u=v/\l=a)\/(u≠v/\nh c H u l):=λu l hl=>H8 S hl
 have I:∀b,nH (c.set v (g+1) a) (H.set v (.row t (g+1) m)) b->(a.kQ=gb/\b=a.b)\/(nH c H b/\¬(L.kQ=gb/\b=L.b)):=by
  rintro b ⟨u,l,hl,j,rfl⟩;rcases J u l hl with⟨_,rfl⟩|⟨z,h1⟩
  .exact .inl ⟨j,rfl⟩
  .exact .inr ⟨⟨u,l,h1,j,rfl⟩,λe=>z (h.inj u v l L h1 p j e.1 e.2)⟩
 have hs:Step H.l c H w (c.set v (g+1) a) (H.set v (.row t (g+1) m)) w':={
  os:=hg.1
  tape:=hg.2.1
  output:=hg.2.2.1
  size:=hg.2.2.2
  RT:=rfl
  Fm:=λ_ h=>h
  Fn:=λ_ h=>.inl h
  kept:=λb f hn=>T b f λe=>hn ⟨v,L,p,e.1,e.2.symm⟩
  old:=λu k l _ B=>ae2 h S u k l B
  own:=λb f=>by
   rcases I b f with⟨j,rfl⟩|⟨f,_⟩
   .rcases(y j).1 with h1|⟨h1,O⟩
    .exact .inl h1
    .exact .inr ⟨v,L,p,h1,O.symm⟩
   .exact .inr f }
 have M:∀u d,gX c w u d->gX (c.set v (g+1) a) w' u d:=λu d C=>C.sv h.toHeapOK hs
 refine⟨{
  inj:=λu r l s h1 O F E he=>by
   rcases J u l h1 with⟨rfl,rfl⟩|⟨n1,P⟩<;>rcases J r s O with⟨rfl,rfl⟩|⟨n2,b2⟩
   .rfl
   .exfalso;have Z:=h.lt s.b ⟨r,s,b2,E,rfl⟩;rcases(y F).1 with n|⟨n,N⟩
    .omega
    .exact n2 (h.inj r u s L b2 p E n U)
   .exfalso;have Z:=h.lt l.b ⟨u,l,P,F,rfl⟩;rcases(y E).1 with n|⟨n,N⟩
    .omega
    .exact n1 (h.inj u r l L P p F n U)
   .exact h.inj u r l s P b2 F E he
  lt:=λb f=>by
   rcases I b f with⟨j,rfl⟩|⟨f,_⟩
   .exact(y j).2
   .exact aW (h.lt b f) hg.2.2.2
  nF:=λb f x=>by
   rcases I b f with⟨j,rfl⟩|⟨f,_⟩
   .rcases(y j).1 with n|⟨n,N⟩
    .have:=h.l9 _ x;omega
    .exact Q _ x ⟨n,N⟩
   .exact h.nF b f x
  l9:=λb f=>aW (h.l9 b f) hg.2.2.2
  out:=λu k B=>by simp only[av]at B;rw[Ctx.yv _ _ (by rintro⟨rfl,_⟩;omega)];exact h.out u k B
  n5:=λu o k i q=>by
   rw[uG K]at i;split at i
   .rename_i e;cases i;subst e;rcases q with q|⟨_,q⟩
    .cases q
    .simp only[Ob.gen]at q;rw[Ctx.yv _ _ (by rintro⟨_,rfl⟩;omega)];exact h.n5 u _ k A (.inr ⟨rfl,by simp only[Ob.gen];omega⟩)
   .rename_i e;rw[Ctx.yv _ _ (λh=>e h.1)];exact h.n5 u o k i q
  ob:=λu o i=>by
   rw[uG K]at i;split at i
   .rename_i e;cases i;subst e;simp only[Ob.gen];rw[Ctx.uH];exact W M
   .rename_i z;rw[Ctx.yv _ _ (λh=>z h.1)];exact iY.keep (c:=c) (c':=c.set v (g+1) a) rfl M (λl hl R C=>T _ (h.lt _ ⟨u,l,⟨o,i,C,hl⟩,R,rfl⟩) λe=>z (h.inj u v l L ⟨o,i,C,hl⟩ p R e.1 e.2)) (h.ob u o i)
  gl:=λg' cs Ai=>by obtain⟨Y,V⟩:=h.gl g' cs Ai;exact⟨Y,M _ _ V⟩
  rt:=h.rt },hs⟩
theorem WE{G:GT}{c:Ctx}{H:gQ}{w w':kx}(h:iy G c H w){v g:Nat}{t:ej}{cs:List D}(p:H[v]? = bf (.row t g cs)){L:Loc}(o:c.ι v g=bf L)(a:Loc)(n:a.kQ=gb)
  (hg:(w'.os=w.os/\w.drawn<=w'.drawn)/\w'.tape=w.tape/\w'.output=w.output/\w.heap.size<=w'.heap.size) (y:∀b,b<w.heap.size->¬(L.kQ=gb/\b=L.b)->w'.heap[b]? = w.heap[b]?)
  (A:(w.heap.size<=a.b\/(L.kQ=gb/\a.b=L.b))/\a.b<w'.heap.size)
  (arr:Array cc) (l:w'.heap[a.b]? = bf (.cells arr t (0,0))) (k:a.top=arr.size) (e:List D) (f:a.base+e.l<=a.top)
  (s:∀(i:Nat) (d:D),e[i]? = bf d->∃u,arr[a.base+i]? = bf u/\u.oneCell'=true/\gX c w u d) :
  iy G (c.set v (g+1) a) (H.set v (.row t (g+1) e)) w'/\Step H.l c H w (c.set v (g+1) a) (H.set v (.row t (g+1) e)) w':=by
 refine ado h p o a hg y (λ_=>A) e λq=>?_;simp only[iY,n];refine⟨arr,l,k,f,λi d r=>?_⟩;obtain⟨x,j,m,z⟩:=s i d r;exact⟨x,j,m,q _ _ z⟩
theorem ahw{G:GT}{c:Ctx}{H:gQ}{w:kx}(h:iy G c H w){v g:Nat}{t:ej}{cs:List D}(d:H[v]? = bf (.row t g cs)){L:Loc}(b:c.ι v g=bf L) :
  iy G (c.set v (g+1) L) (H.set v (.row t (g+1) [])) w/\Step H.l c H w (c.set v (g+1) L) (H.set v (.row t (g+1) [])) w:=by
 refine ado h d b L ⟨⟨rfl,fa _⟩,rfl,rfl,fa _⟩ (λ_ _ _=>rfl) (λa=>⟨.inr ⟨a,rfl⟩,h.lt _ ⟨v,L,⟨_,d,rfl,b⟩,a,rfl⟩⟩) [] λ_=>?_;have h0:=h.ob v _ d;simp only[Ob.gen]at h0;rw[b]at h0;simp only[iY]at h0 ⊢;split
 .simp
 .rename_i a;simp only[a]at h0;obtain⟨arr,h1,e,f,_⟩:=h0;exact⟨arr,h1,e,iz,gP⟩
theorem Sn{t u ty e:ej}{i:mV}{k:cc}(s:P.underlying t=bf (.slice e))(h:∃l,P.underlying u=bf (.slice l))(hi:P.info? e=bf i)(q:i.zero=bf k)
  (b:Option lp) (a d:Nat) (y:cc) (o:Option lp) (n m:Nat) (r:y = .slice o n m) (g c:List cc)
  (f:(eh i.size a (.slice b a d)).run P w.drew = .ok g.toArray w.drew) (p:(eh i.size n y).run P w.drew = .ok c.toArray w.drew)
  (hg:d<a+n) (A:a+n<=9223372036854775807) (x:(a+n)*i.bytes<=140737488355328) :
  (eK #[t,u] ty #[.slice b a d,y]).run P w = .ok (.slice (bf ⟨w.heap.size,0,hI⟩) (a+n) (dx w (a+n) d e))
    (w.drew.alloc (.cells (g.toArray++c.toArray++ek k.cells (dx w (a+n) d e-(a+n))) e)):=by
 subst r;obtain⟨l,h⟩:=h;have v:¬(a+n<=d):=U;have j:¬(9223372036854775807<((a:Int)+(n:Int))):=U;have z:¬(281474976710656<Builtin.nextslicecap (a+n) d*i.bytes):=by have:=growslice_fits hg x;omega
 simp[eK,aE s,aE h,mz,nB,zeroValue,hi,q,fp,v,j,z,Question.forced,nK,dx,f,p];congr 2;apply Array.ext';simp[aO]
theorem asU{t u ty e:ej}{i:mV}(q:P.underlying t=bf (.slice e))(f:∃h,P.underlying u=bf (.slice h))(hi:P.info? e=bf i)
  (b o:Nat) (c d:Nat) (y:cc) (k:Option lp) (n j:Nat) (p:y = .slice k n j) (a:List cc) (arr:Array cc) (hg:w.heap[b]? = bf (.cells arr e (0,0)))
  (m:(eh i.size n y).run P w = .ok a.toArray w) (h1:∀v∈a,v.oneCell'=true) (r:c+n<=d) (l:o+c*i.size+a.l<=arr.size) :
  (eK #[t,u] ty #[.slice (bf ⟨b,o,hI⟩) c d,y]).run P w = .ok (.slice (bf ⟨b,o,hI⟩) (c+n) d)
    (w.setRow b (arr.toList.take (o+c*i.size)++a++arr.toList.drop (o+c*i.size+a.l)).toArray):=by
 subst p;obtain⟨h,f⟩:=f;have g:=kD P b (o+c*i.size) e a 0 arr w hg (by simpa using l) h1;simp only[cu]at g;simp[eK,aE q,aE f,mz,nB,hi,fp,r,m,di,g]
theorem Qm{sz:Nat}{w':kx}{a:Option lp}{b n:Nat}{vs:List cc}(hl:vs.l=n*sz)(c:a=hI->n=0)(d:∀ad,a=bf ad->∀(j:Nat) (v:cc),vs[j]? = bf v->w'.cell? (ad.add j)=bf v) :
  (eh sz n (.slice a n b)).run P w' = .ok vs.toArray w':=by
 cases a with
 | none=>
  have:=c rfl;subst this;have:vs = []:=bj (by simpa using hl);subst this;exact run_firstCells_none w' sz 0 0 b
 | some ad=>exact kl w' sz n ad n b vs hl (d ad rfl)
theorem abu(w:kx)(o:Obj):ly w (w.drew.alloc o):=(ly.drew w).trans (ly.alloc _ _)
theorem aq9(h:iy G c H w){al:Al}(jj:o7 H al){t u ty e:ej}{i:mV}{z:List D}(S:P.underlying t=bf (.slice e))(s:∃e',P.underlying u=bf (.slice e'))(hi:P.info? e=bf i)(hz:tv P e=bf z)(Ej:z.l=i.size)(lD:0<i.size)
  {x y:D} {ux A:cc} (h1:gX c w ux x) (h2:gX c w A y) (f:IW e i.size i.bytes x y H al K):∃r w',(eK #[t,u] ty #[ux,A]).run P w = .ok r w'/\kj G c H w K r w':=by
 obtain⟨m,x8,Ru,wA⟩:=CF hz w;have G3:i.zero=bf m:=by simpa[hi]using Ru
 have x7:m.cells.size=i.size:=by have:=(wA c w).len;simp at this;omega
 unfold IW at f;split at f
 .rename_i V n tP;obtain⟨Z,Y,vs,C,E,kS,h7,KR,KP⟩:=Xt h lD h2 tP;have Q:vs.l=n*i.size:=by rw[E.len,kS]
  have O:∀w',(∀b,w'.cell? b=w.cell? b)->(eh i.size n A).run P w' = .ok vs.toArray w':=λw' ta=>by rw[C];exact Qm Q KR (λad ha j v k=>by rw[ta];exact KP ad ha j v k)
  split at f
  .rename_i v g iR off len;split at f
   .rename_i t' cs iX;have p:=wO iX;dsimp only at p;obtain⟨⟨rfl,a2,a4,M,BG⟩,f⟩:=f;have e8:=a2.symm;subst e8;clear a2;have i1:v<H.l:=(ae.1 p).1
    cases h1 with
    | gR _ _ _ _ _ cap L R jk lk jW mS=>
     obtain⟨arr,DK,QO,h9,QP⟩:=AS h p R jk;have X:Cells c w (((((arr.toList.drop L.base).take cs.l)).drop (off*i.size)).take (len*i.size)) ((cs.drop (off*i.size)).take (len*i.size)):=(QP.drop _).take _;rw[bJ]at mS a4;generalize off*i.size=q at *
     by_cases Kz:len+n<=cap
     .have oZ:L.base+q+len*i.size+vs.l<=arr.size:=by have hm:=bP i.size Kz;rw[bJ]at hm;omega
      have l:=asU (ty:=ty) S s hi L.b (L.base+q) len cap A Z n Y C vs arr DK (O w λ_=>rfl) E.one Kz oZ;refine⟨_,_,l,?_⟩;have js:(arr.toList.take (L.base+q+len*i.size)++vs++arr.toList.drop (L.base+q+len*i.size+vs.l)).toArray.size=arr.size:=iz
      obtain⟨m1,m2⟩:=WE (w':=w.setRow L.b (arr.toList.take (L.base+q+len*i.size)++vs++arr.toList.drop (L.base+q+len*i.size+vs.l)).toArray) h p R ⟨L.b,L.base+q,L.top,gb⟩ rfl
       ⟨⟨rfl,fa _⟩,rfl,rfl,by simp[World.setRow]⟩ (λb _ I=>by simp only[World.setRow,bB];rw[if_neg (λe=>I ⟨jk,e.symm⟩)])
       ⟨.inr ⟨jk,rfl⟩,by have:=h.lt _ ⟨v,L,⟨_,p,rfl,R⟩,jk,rfl⟩;simpa[World.setRow]using this⟩
       _ (setRow_heap w L.b arr _ _ _ DK) (by show L.top=_;rw[QO,js]) ((cs.drop q).take (len*i.size)++V) (by simp only[aq,aM,aU];rw[<-E.len];omega) (λj d J=>by
        obtain⟨x,F,nS,l6⟩:=(X.append E).get J;refine⟨x,?_,nS,l6⟩;rw[<-F];simp only[dT];have jK:(kb (L.base+q+len*i.size) arr.toList).l=L.base+q+len*i.size:=iz;have ki:(kb (len*i.size) (oy q (kb cs.l (oy L.base arr.toList)))).l=len*i.size:=iz
        by_cases c1:j<len*i.size
        .rw[ah iz,ah (by rw[jK];omega),ah (by rw[ki];omega)];simp only[aJ,aD];rw[if_pos U,if_pos U,if_pos U];congr 1;omega
        .have oK:j<len*i.size+vs.l:=by have:=(ae.1 F).1;rw[aq,ki]at this;omega
         rw[ah (by rw[aq,jK];omega),ao (by rw[jK];omega),ao (by rw[ki];omega),jK,ki];congr 1
         omega)
      refine⟨_,_,_,f,m1,?_,m2⟩;have:=gX.gR (c:=c.set v (g+1) ⟨L.b,L.base+q,L.top,gb⟩) (w:=w.setRow L.b (arr.toList.take (L.base+q+len*i.size)++vs++arr.toList.drop (L.base+q+len*i.size+vs.l)).toArray) v (g+1) i.size 0 (len+n) cap ⟨L.b,L.base+q,L.top,gb⟩ (Ctx.uH _ _ _ _) rfl Kz jW iz;simpa using this
     .have a:(eh i.size len (.slice (bf ⟨L.b,L.base+q,hI⟩) len cap)).run P w.drew = .ok ((((arr.toList.drop L.base).take cs.l).drop q).take (len*i.size)).toArray w.drew:=by
       refine kl _ _ _ _ _ _ _ (by rw[X.len];simp;omega) (λj v k=>?_);rw[aJ]at k;split at k
       .rw[aD,aJ]at k;split at k
        .rw[aD]at k;rw[di];show w.cell? ⟨L.b,L.base+q+j,hI⟩=bf v;simp[World.cell?,DK];rw[bk];simpa using k
        .cases k
       .cases k
      have l:=Sn (ty:=ty) S s hi G3 (bf ⟨L.b,L.base+q,hI⟩) len cap A Z n Y C _ vs a (O _ λ_=>rfl) U BG M;refine⟨_,_,l,?_⟩;have KG:((((arr.toList.drop L.base).take cs.l).drop q).take (len*i.size)).toArray.size=len*i.size:=by have:=X.len;simp at this ⊢;omega
      have B:=lb w (len+n) cap e;have N:=iK w (len+n) cap e (by unfold j';omega)
      obtain⟨m1,m2⟩:=WE (w':=w.drew.alloc (.cells (((((arr.toList.drop L.base).take cs.l).drop q).take (len*i.size)).toArray++vs.toArray++ek m.cells (dx w (len+n) cap e-(len+n))) e)) h p R
       ⟨w.heap.size,0,dx w (len+n) cap e*i.size,gb⟩ rfl ⟨⟨rfl,rb _⟩,rfl,rfl,gP⟩ (λb W _=>(abu w _).kept b W) ⟨.inl (fa _),gP⟩
       _ (lu w.drew _) (by
        simp only[cQ,KG,dF,Q,ku,x7,<-bJ]
        congr 1;omega) ((cs.drop q).take (len*i.size)++V) (by
        simp only[aq,aM,aU,kS,aR];have:=bP i.size B;rw[bJ]at this
        omega) (λj d J=>by
        obtain⟨x,F,nS,l6⟩:=(X.append E).get J;refine⟨x,?_,nS,l6⟩;rw[<-F,aR,<-bS];have iA:=(ae.1 F).1;simp only[dM]
        rw[ah (by simpa using iA)])
      refine⟨_,_,_,f,m1,?_,m2⟩
      have:=gX.gR (c:=c.set v (g+1) ⟨w.heap.size,0,dx w (len+n) cap e*i.size,gb⟩) (w:=w.drew.alloc (.cells (((((arr.toList.drop L.base).take cs.l).drop q).take (len*i.size)).toArray++vs.toArray++ek m.cells (dx w (len+n) cap e-(len+n))) e))
       v (g+1) i.size 0 (len+n) (dx w (len+n) cap e) ⟨w.heap.size,0,dx w (len+n) cap e*i.size,gb⟩ (Ctx.uH _ _ _ _) rfl B N gP
      simpa using this
    | nU _ _ _ _ L R ad=>
     simp only[aR,cu,dm,eI,aS]at f M BG ⊢
     by_cases I:n=0
     .subst I;have VL:vs = []:=bj (by simpa using Q);have e0:V = []:=bj (by simpa using kS);subst e0
      have l:(eK #[t,u] ty #[.slice ad 0 0,A]).run P w = .ok (.slice ad 0 0) w:=by obtain⟨e',s⟩:=s;have T:=O w λ_=>rfl;rw[VL]at T;rw[C]at T ⊢;simp[eK,aE S,aE s,mz,nB,hi,fp,T];cases ad<;>simp[n4]
      obtain⟨m1,m2⟩:=ahw h p R;exact⟨_,_,l,_,_,_,f,m1,.nU v (g+1) i.size 0 L (Ctx.uH _ _ _ _) ad,m2⟩
     .have a:(eh i.size 0 (.slice ad 0 0)).run P w.drew = .ok ([]:List cc).toArray w.drew:=Qm gP (λ_=>rfl) (λ_ _ j v k=>by simp at k);have l:=Sn (w:=w) (ty:=ty) S s hi G3 ad 0 0 A Z n Y C [] vs a (O _ λ_=>rfl) U U (by simpa using M);simp only[aR]at l;refine⟨_,_,l,?_⟩;have B:=lb w n 0 e;have N:=iK w n 0 e (by unfold j';omega)
      obtain⟨m1,m2⟩:=WE (w':=w.drew.alloc (.cells (([]:List cc).toArray++vs.toArray++ek m.cells (dx w n 0 e-n)) e)) h p R
       ⟨w.heap.size,0,dx w n 0 e*i.size,gb⟩ rfl ⟨⟨rfl,rb _⟩,rfl,rfl,gP⟩ (λb W _=>(abu w _).kept b W) ⟨.inl (fa _),gP⟩
       _ (lu w.drew _) (by
        simp only[cQ,dF,dp,Q,ku,x7,aR,<-bJ]
        congr 1;omega) V (by
        simp only[kS,aR]
        exact bP i.size B) (λj d J=>by
        obtain⟨x,F,nS,l6⟩:=E.get J;refine⟨x,?_,nS,l6⟩;rw[<-F,aR,<-bS];have iA:=(ae.1 F).1;simp only[dM,aS]
        rw[ah (by simpa using iA)])
      refine⟨_,_,_,f,m1,?_,m2⟩
      have:=gX.gR (c:=c.set v (g+1) ⟨w.heap.size,0,dx w n 0 e*i.size,gb⟩) (w:=w.drew.alloc (.cells (([]:List cc).toArray++vs.toArray++ek m.cells (dx w n 0 e-n)) e))
       v (g+1) i.size 0 n (dx w n 0 e) ⟨w.heap.size,0,dx w n 0 e*i.size,gb⟩ (Ctx.uH _ _ _ _) rfl B N gP
      simpa using this
   .exact f.elim
  .rename_i us;obtain⟨⟨I,KG,M,BG⟩,f⟩:=f
   cases h1 with
   | nj ad _ jW mQ hc=>
    have X:Cells c w us (us.map .val):=⟨gP,λv p=>by
     obtain⟨i,hi⟩:=nm p;obtain⟨_,_,_,_,_,h1⟩:=hc i v hi
     exact h1,λi v d p J=>by
     simp only[aw,p,aK,ax]at J;subst J
     exact .val _⟩
    have a:(eh i.size us.l (.slice ad us.l us.l)).run P w.drew = .ok us.toArray w.drew:=Qm (by rw[KG];simp) (λe=>by rw[mQ e];rfl) (λb W j v k=>by
     obtain⟨b',o,ha,_,qy,_⟩:=hc j v k;rw[ha]at W;cases W;rw[di]
     exact qy)
    have l:=Sn (w:=w) (ty:=ty) S s hi G3 ad us.l us.l A Z n Y C us vs a (O _ λ_=>rfl) U BG M;refine⟨_,_,l,?_⟩;have B:=lb w (us.l+n) us.l e;have N:=iK w (us.l+n) us.l e (by unfold j';omega)
    have js:(us.toArray++vs.toArray++ek m.cells (dx w (us.l+n) us.l e-(us.l+n))).size=dx w (us.l+n) us.l e*i.size:=by simp only[cQ,dF,Q,ku,x7,KG,fD];omega
    obtain⟨L,e1,e2,e3,e4,e5,e6⟩:=Hq h w.drew (ly.drew w) e (us++vs) (us.map .val++V) (us++vs).l (us.toArray++vs.toArray++ek m.cells (dx w (us.l+n) us.l e-(us.l+n))) (jj _).wQ (X.append E) (by
     simp only[dM]
     exact qg) (by simp only[cQ,dF,aq];omega)
    have hp:=Lq (c:=c) (w:=w.drew.alloc (.cells (us.toArray++vs.toArray++ek m.cells (dx w (us.l+n) us.l e-(us.l+n))) e)) e1 e3 al.1 0 i.size (us.l+n) (dx w (us.l+n) us.l e) (by rw[e4,js]) B N;rw[e2]at hp;exact⟨_,_,_,f,e5,hp,e6⟩
  .cases h1 with
   | gV=>
    by_cases I:n=0
    .rw[if_pos I]at f;subst I;have VL:vs = []:=bj (by simpa using Q)
     have l:(eK #[t,u] ty #[.slice hI 0 0,A]).run P w = .ok (.slice hI 0 0) w:=by obtain⟨e',s⟩:=s;have T:=O w λ_=>rfl;rw[VL]at T;rw[C]at T ⊢;simp[eK,aE S,aE s,mz,nB,hi,fp,T]
     exact⟨_,_,l,.plain h f .gV⟩
    .rw[if_neg I]at f;obtain⟨⟨M,BG⟩,f⟩:=f;have a:(eh i.size 0 (.slice hI 0 0)).run P w.drew = .ok ([]:List cc).toArray w.drew:=Qm gP (λ_=>rfl) (λ_ _ j v k=>by simp at k);have l:=Sn (w:=w) (ty:=ty) S s hi G3 hI 0 0 A Z n Y C [] vs a (O _ λ_=>rfl) U U (by simpa using M);simp only[aR]at l;refine⟨_,_,l,?_⟩;have B:=lb w n 0 e;have N:=iK w n 0 e (by unfold j';omega)
     have js:(([]:List cc).toArray++vs.toArray++ek m.cells (dx w n 0 e-n)).size=dx w n 0 e*i.size:=by simp only[cQ,dF,dp,Q,ku,x7,aR,<-bJ];congr 1;omega
     obtain⟨L,e1,e2,e3,e4,e5,e6⟩:=Hq h w.drew (ly.drew w) e vs V vs.l (([]:List cc).toArray++vs.toArray++ek m.cells (dx w n 0 e-n)) (jj _).wQ E (by
      simp only[dM,aS]
      exact qg) (by simp only[cQ,dF];omega)
     have hp:=Lq (c:=c) (w:=w.drew.alloc (.cells (([]:List cc).toArray++vs.toArray++ek m.cells (dx w n 0 e-n)) e)) e1 e3 al.1 0 i.size n (dx w n 0 e) (by rw[e4,js]) B N;rw[e2]at hp;exact⟨_,_,_,f,e5,hp,e6⟩
  .exact f.elim
 .exact f.elim
theorem arl(h:iy G c H w){t u ty e:ej}{sz:Nat}(Q:P.underlying t=bf (.slice e))(hs:lH P e=bf sz)(lD:0<sz){x y:D}{T E:cc}(h1:gX c w T x)(h2:gX c w E y)(b:Jp sz x y H K) :
  ∃r w',(jX #[t,u] ty #[T,E]).run P w = .ok r w'/\kj G c H w K r w':=by
 have key:∀(f:List D) (n:Nat),lX sz H y=bf (f,n)->∃vs A z,E = .slice A n z/\Cells c w vs f/\f.l=n*sz/\∀m,m<=n->(eh sz m E).run P w = .ok (vs.take (m*sz)).toArray w:=by
  intro f n F;obtain⟨A,z,vs,p,l,I,a6,KR,KP⟩:=Xt h lD h2 F;refine⟨vs,A,z,p,l,I,λm s=>?_⟩;have i:vs.l=n*sz:=by rw[l.len,I]
  have R:=bP sz s;rw[p]
  cases A with
  | none=>
   have:=KR rfl;subst this;have:m=0:=U;subst this;simp[eh]
  | some ad=>
   refine kl w sz m ad n z _ iz (λj v M=>?_);rw[aJ]at M;split at M
   .exact KP ad rfl j v M
   .cases M
 unfold Jp at b;split at b
 .rename_i v g a off len f n F;obtain⟨vs,A,z,p,l,I,N⟩:=key f n F;split at b
  .rename_i V cs iX;have o:=wO iX;dsimp only at o;obtain⟨⟨rfl,oZ⟩,b⟩:=b;have k:=N (min n len) (pA _ _);have R:min n len*a<=vs.l:=by rw[l.len,I];exact bP _ (pA _ _)
   have b3:min n len*a<=len*a:=bP _ (Nat.min_le_right _ _);rw[bJ]at oZ
   cases h1 with
   | gR _ _ _ _ _ cap L O W lk jW mS=>
    obtain⟨arr,Z,QO,b',QP⟩:=AS h o O W;have X:=kD P L.b (L.base+off*a) V (vs.take (min n len*a)) 0 arr w Z iz (λv o=>l.one v (aQ o));simp only[cu]at X
    have jr:(jX #[t,u] ty #[.slice (bf ⟨L.b,L.base+off*a,hI⟩) len cap,E]).run P w = .ok (goInt (min n len:Nat)) (w.setRow L.b (arr.toList.take (L.base+off*a)++vs.take (min n len*a)++arr.toList.drop (L.base+off*a+(vs.take (min n len*a)).l)).toArray):=by rw[p]at k ⊢;have s:n.min len=min n len:=rfl;simp[jX,aE Q,fp,ti hs,s,k,X]
    have i:(vs.take (min n len*a)).l=min n len*a:=iz;have J:=QP.uJ (l.take (min n len*a)) (off*a);have S:(f.take (min n len*a)).l=min n len*a:=by rw[aM,<-l.len];omega
    obtain⟨m1,m2⟩:=Ig h o O W Z (arr.toList.take (L.base+off*a)++vs.take (min n len*a)++arr.toList.drop (L.base+off*a+(vs.take (min n len*a)).l)).toArray iz QO
     (cs.take (off*a)++f.take (min n len*a)++cs.drop (off*a+min n len*a)) (by simp only[aq,aM,aU];omega) (λj d Y=>by
      rw[S,i]at J;obtain⟨x,hx,nS,l6⟩:=J.get Y;refine⟨x,?_,nS,l6⟩;rw[<-hx];simp only[dT,i];have C:(kb (L.base+off*a) arr.toList).l=L.base+off*a:=iz;have B:(kb (off*a) (kb cs.l (oy L.base arr.toList))).l=off*a:=iz
      by_cases c1:j<off*a
      .rw[ah iz,ah (by rw[C];omega),ah iz,ah (by rw[B];omega)];simp only[aJ,aD];rw[if_pos U,if_pos c1,if_pos U]
      .by_cases c2:j<off*a+min n len*a
       .rw[ah (by rw[aq,C,i];omega),ao (by rw[C];omega),ah (by rw[aq,B,i];omega),ao (by rw[B];omega),C,B];congr 1;omega
       .have qf:j<cs.l:=by have:=(ae.1 Y).1;simp at this;omega
        rw[ao (by rw[aq,C,i];omega),ao (by rw[aq,B,i];omega)];simp only[aD,aJ,aq,C,B,i];rw[if_pos U];congr 1
        omega)
    exact⟨_,_,jr,_,_,c,b,m1,.val _,m2⟩
   | nU _ _ _ _ L O ad=>
    have B3:min n 0=0:=gN n;simp only[B3,dm,eI,az,cu,cj]at b k
    have my:H.set v (.row V g cs)=H:=by
     apply bN;intro j;rw[bI];have i:v<H.l:=(ae.1 o).1;split
     .rename_i e;subst e
      first|(rw[if_pos i];exact o.symm)|exact o.symm
     .rfl
    rw[my]at b;refine⟨goInt 0,w,?_,.plain h b (.val _)⟩;rw[p]at k ⊢;have s:n.min 0=0:=gN n;simp[jX,aE Q,fp,ti hs,s,k];cases ad<;>simp[n4]
  .exact b.elim
 .rename_i q F;obtain⟨f,n⟩:=q;obtain⟨vs,A,z,p,l,I,N⟩:=key f n F
  cases h1 with
  | gV=>
   have k:=N 0 (Nat.zero_le _);refine⟨goInt 0,w,?_,.plain h b (.val _)⟩;rw[p]at k ⊢;have s:n.min 0=0:=gN n;simp only[dm,eI]at k;simp[jX,aE Q,fp,ti hs,s,k]
 .exact b.elim

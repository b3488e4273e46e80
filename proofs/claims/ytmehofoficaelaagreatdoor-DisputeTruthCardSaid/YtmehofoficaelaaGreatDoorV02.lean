/- Part 2 of DisputeTruth. -/
import Derived.Test.YtmehofoficaelaaGreatDoorV01
set_option linter.all false
namespace Go.AL
open Go
section
variable{P:Program}{G:GT}{c:Ctx}{H:U}{w:World}{K:jx}{env:gL}{a:Act}
theorem HM{L:Loc}(a:L.jG=false)(h0:L.base=0)(v k sz len cap:Nat)(b:L.top=cap*sz)(e:len<=cap)(d:cap<=maxLen) :
  fR (c.set v k L) w (.slice (some ⟨L.b,0,none⟩) len cap) (.fM v k sz 0 len):=by
 have:=fR.fM (c:=c.set v k L) (w:=w) v k sz 0 len cap L (Ctx.sk _ _ _ _) a e d (by simp[h0,b]);simpa[h0]using this
theorem MD(zs:List Value)(z:List D)(b:∀c w,Cells c w zs z)(n:Nat):Cells c w (List.replicate n zs).flatten (List.replicate n z).flatten:=by
 induction n with
 | zero=>exact Cells.nil
 | succ n a=>rw[bn,bn,aX,aX];exact(b c w).append a
theorem N5(zs:Array Value)(n:Nat)(h0:0<zs.size):((Array.range (n*zs.size)).map (λi=>zs[i % zs.size]!)).toList=(List.replicate n zs.toList).flatten:=by
 apply bT;intro i;simp only[Array.toList_map,Array.toList_range,av]
 by_cases hi:i<n*zs.size
 .rw[bJ hi]
  have key:∀(n i:Nat),i<n*zs.size->(List.replicate n zs.toList).flatten[i]? = some (zs[i % zs.size]!):=by
   intro n
   induction n with
   | zero=>intro i hi;simp at hi
   | succ n a=>
    intro i hi;rw[bn,aX]
    by_cases hl:i<zs.size
    .rw[ah (by simpa using hl),eZ hl];simp[hl]
    .rw[ai (by simpa using hl)];have:i-zs.size<n*zs.size:=by rw[bk]at hi;omega
     rw[show i-zs.toList.length=i-zs.size by simp,a _ this,<-Nat.mod_eq_sub_mod (by omega)]
  rw[key n i hi];rfl
 .simp_all
theorem alx(h:gv G c H w){al:Al}(U:mW H al)(Z:kK c w env a){t e:TypeId}{sz n:Nat}{z:List D}{ops:Array (Nat×Operand)}{ps:List (Nat×X)}
  (W:P.underlying t=some (.slice e)) (V:qx P e=some z) (hs:kl P e=some sz) (k:yU G ops.toList=some ps) (M:z.length=sz) (T:0<sz) (mR:n*sz<=16777216)
  (f:Fv env e sz z n ps al K):∃r w',(Instr.buildSlice t n (ops.map λ(i,x)=>(i,a.eval x))).run P w = .ok r w'/\ja G c H w K r w':=by
 unfold Fv at f;split at f
 .rename_i l hl;split at f
  .rename_i cs E;obtain⟨b,N,_,B⟩:=Af V w;obtain⟨C,S⟩:=LQ h Z ops.toList k;obtain⟨R,Q⟩:=SK hl;have O:b.cells.size=sz:=by have:=(B c w).len;simp at this;omega
   have J:Cells c w ((Array.range (n*sz)).map (λi=>b.cells[i % b.cells.size]!)).toList (List.replicate n z).flatten:=by rw[<-O,N5 b.cells n (by omega)];exact MD _ _ B n
   obtain⟨d,j,s⟩:=My (c:=c) (w:=w) (λi=>some (i*sz,sz)) (ops.toList.map λx=>(x.1,a.eval x.2)) l _ _ cs J (by simp[R,C]) (λi x q I GQ=>by
    simp only[av,ak]at I;obtain⟨y,F,rfl⟩:=I;have hi:i<ops.toList.length:=(ae.1 F).1;obtain⟨p,A⟩:=MH C hi;obtain⟨e1,e2⟩:=S i y p F A;obtain⟨e4,e5,e6⟩:=Q i (p.1*sz,sz,p.2) q (by simp[A]) GQ
    exact⟨by simp[e4,e5,e1],CW e2 e6⟩) E
   have g:d.size=n*sz:=by
    have h1:=s.len
    have u:cs.length=(List.replicate n z).flatten.length:=by
     clear f s j h1 J
     have key:∀(ps:List (Nat×Nat×List D)) (cs rs:List D),lay ps cs=some rs->rs.length=cs.length:=by
      intro ps
      induction ps with
      | nil=>intro cs rs h;simp[lay]at h;subst h;rfl
      | cons p ps ih=>
       intro cs rs h;obtain⟨o,m,xs⟩:=p;simp only[lay]at h;split at h
       .grind
       .cases h
     exact key _ _ _ E
    rw[u]at h1;simp[M]at h1;exact h1
   obtain⟨L,h1,u,h3,h4,h5,h6⟩:=D9 h w (jZ.refl w) e d.toList cs d.size d (U _).tT s (by rw[<-c9,dA]) (Nat.le_refl _);refine⟨.slice (some ⟨w.heap.size,0,none⟩) n n,w.alloc (.cells d e),?_,?_⟩
   .have v:¬n*sz>2 ^ 24:=by omega
    simp only[Instr.buildSlice,Sem.run_bind,run_underlying W,Result.andThen_ok,qo hs,Sem.run_ite];rw[if_neg v];have Xy:(Array.map (λx=>(x.fst,a.eval x.snd)) ops).toList=ops.toList.map λx=>(x.1,a.eval x.2):=by simp
    by_cases h0:n*sz=0
    .have Y:n=0:=by rcases Nat.mul_eq_zero.1 h0 with h|h<;>omega
     subst Y;simp only[cQ]at j;simp only[cQ,if_true,Sem.run_pure,Result.andThen_ok,Xy];have e0:(Array.map (λx=>(#[]:Array Value)[x % (#[]:Array Value).size]!) (Array.range 0))=Array.map (λi=>b.cells[i % b.cells.size]!) (Array.range 0):=by simp
     rw[e0,j];simp[newRow]
    .rw[if_neg h0];simp only[Sem.run_bind,N,Result.andThen_ok,Sem.run_pure,Xy,j];simp[newRow]
   .have k:=HM (c:=c) (w:=w.alloc (.cells d e)) h1 h3 al.1 0 sz n n (by rw[h4,g]) (Nat.le_refl _) (by
     have:n<=n*sz:=Nat.le_mul_of_pos_right n T
     unfold maxLen;omega)
    rw[u]at k;exact⟨_,_,_,f,h5,k,h6⟩
  .exact f.elim
 .grind
theorem am5{t:TypeId}{n:Nat}(hs:kl P t=some n){v:Value}(a:v.cells.size=n)(b o:Nat) :
  (Instr.storeAt t (.pointer (some ⟨b,o,none⟩)) v).run P w=(storeCells ⟨b,o,none⟩ v.cells.toList).run P w:=by
 simp[Instr.storeAt,Instr.sureAddr,storeVar,qo hs,a]
theorem ZD(h:gv G c H w){v g o:Nat}{t a:TypeId}{cs xs:List D}(l:H[v]? = some (.row a g cs)){u x:Value}(B:fR c w u (.ptr v g o)){n:Nat}(hs:kl P t=some n)
  (b:Cells c w x.cells.toList xs) (C:xs.length=n) (O:o+n<=cs.length) (E:K .any (H.set v (.row a g (cs.take o++xs++cs.drop (o+n))))) :
  ∃w',(Instr.storeAt t u x).run P w = .ok () w'/\ja G c H w K undef w':=by
 cases B with
 | ptr _ _ _ L q j=>
  obtain⟨arr,h1,M,Q,J⟩:=yq h l q j;have f:x.cells.size=n:=by have:=b.len;simp at this;omega
  have p:=run_storeCells_at P L.b (L.base+o) a x.cells.toList 0 arr w h1 (by simp;omega) b.one;simp only[cz]at p
  have k:=EH h l q j h1 (arr.toList.take (L.base+o)++x.cells.toList++arr.toList.drop (L.base+o+x.cells.toList.length)).toArray
   (by simp;omega) M (cs.take o++xs++cs.drop (o+n)) (by simp;omega) (λi d m=>by
    have r:=J.sq b o;rw[C]at r;obtain⟨y,A,I,F⟩:=r.get m;refine⟨y,?_,I,F⟩;rw[<-A];simp only[dt];have e:x.cells.toList.length=n:=by simpa using f
    have z:(List.take (L.base+o) arr.toList).length=L.base+o:=by simp;omega
    have s:(List.take o (List.take cs.length (List.drop L.base arr.toList))).length=o:=by simp;omega
    by_cases R:i<o
    .grind
    .by_cases c2:i<o+n
     .grind
     .have N:i<cs.length:=by have:=(ae.1 m).1;simp at this;omega
      rw[ai (by simp;omega),ai (by simp;omega)];simp only[aI,aF,aj,z,s,e];rw[if_pos (by omega)];congr 1
      omega)
  exact⟨_,by rw[am5 hs f];exact p,.any,_,c,E,k.1,.any _,k.2⟩
theorem al0(h:gv G c H w){t:TypeId}(hs:kl P t=some 1){p x:D}{u v:Value}(h1:fR c w u p)(d:fR c w v x)(a:Ip p x H K) :
  ∃w',(Instr.storeAt t u v).run P w = .ok () w'/\ja G c H w K undef w':=by
 unfold Ip at a;split at a
 .rename_i v0 k o;split at a
  .rename_i j cs f;obtain⟨g,i,a⟩:=a;have b:=tQ f;dsimp only at b;refine ZD h b h1 hs (CW d (al3 i)) rfl (by omega) ?_
   have e:cs.take o ++ [x]++cs.drop (o+1)=cs.set o x:=by rw[cE,if_pos g];simp
   rw[e];exact a
  .exact a.elim
 .grind
theorem al1(h:gv G c H w){t:TypeId}{n:Nat}(hs:kl P t=some n){p x:D}{u v:Value}(h1:fR c w u p)(e:fR c w v x)(a:Iq n p x H K) :
  ∃w',(Instr.storeAt t u v).run P w = .ok () w'/\ja G c H w K undef w':=by
 unfold Iq at a;split at a
 .rename_i v' j o xs g;split at a
  .rename_i i cs f;obtain⟨d,b,a⟩:=a;exact ZD h (tQ f) h1 hs (CW e g) d b a
  .exact a.elim
 .grind
theorem alG(h:gv G c H w){t:TypeId}{f n:Nat}{fs:Array Field}{a:Field}(j:P.underlying t=some (.struct fs))(k:fs[f]? = some a)(hs:kl P a.type=some n)(s:0<n)
  {x:D} {u:Value} (h1:fR c w u x) (d:FY a.offset x H K):∃r,(Instr.fieldAt t u f).run P w = .ok r w/\ja G c H w K r w:=by
 have e:∀b o,(Instr.fieldAt t (.pointer (some ⟨b,o,none⟩)) f).run P w = .ok (.pointer (some ⟨b,o+a.offset,none⟩)) w:=λb o=>by simp only[Instr.fieldAt,Sem.run_bind,run_underlying j,Result.andThen_ok,k];simp only[Instr.sureAddr,Sem.run_pure,Result.andThen_ok,fieldPlace,Sem.run_bind,qo hs,Sem.run_ite];rw[if_neg (by omega)];simp[Addr.add_lit]
 unfold FY at d;split at d
 .rename_i v g o
  cases h1 with
  | ptr _ _ _ L q i=>
   refine⟨_,e _ _,.plain h d ?_⟩;have:=fR.ptr (c:=c) (w:=w) v g (o+a.offset) L q i;rwa [<-a7]at this
 .obtain⟨b,p,rfl,m,l⟩:=yV h1;exact⟨_,e _ _,.plain h d (P3 m (l.drop _))⟩
 .grind
theorem ZC(h:gv G c H w){t:TypeId}{n:Nat}{b:Bool}(f:oQ P t=some b)(hs:kl P t=some n){vs:List Value}{cs:List D}(e:Cells c w vs cs){off:Nat}
  (a:AT off n b (.agg cs) H K):∃r,(part t vs.toArray off).run P w = .ok r w/\ja G c H w K r w:=by
 simp only[AT]at a
 cases b with
 | true=>
  simp only[if_true]at a;refine⟨.agg ((vs.drop off).take n).toArray,?_,.plain h a.2 ((e.drop off).take n).agg⟩;simp[part,B9 f,qo hs,List.extract_toArray,List.take_drop]
 | false=>
  simp only[bz,if_false]at a;split at a
  .rename_i d j;obtain⟨v,g,_,i⟩:=e.get j;refine⟨v,?_,.plain h a i⟩;simp[part,B9 f,g]
  .grind
theorem alF(h:gv G c H w){t:TypeId}{f n:Nat}{b:Bool}{fs:Array Field}{a:Field}(g:P.underlying t=some (.struct fs))(k:fs[f]? = some a)(l:oQ P a.type=some b)(hs:kl P a.type=some n)
  {x:D} {u:Value} (h1:fR c w u x) (d:AT a.offset n b x H K):∃r,(Instr.field t u f).run P w = .ok r w/\ja G c H w K r w:=by
 have e:∃cs,x = .agg cs:=by cases x<;>first|exact⟨_,rfl⟩|exact(show False from d).elim
 obtain⟨cs,rfl⟩:=e
 cases h1 with
 | agg vs _ hl h1 m=>
  obtain⟨r,i,j⟩:=ZC h l hs ⟨hl,h1,m⟩ d;exact⟨r,by simp[Instr.field,run_underlying g,k,asAgg,i],j⟩
theorem alI(h:gv G c H w){t e:TypeId}{sz:Nat}(N:P.underlying t=some (.slice e))(hs:kl P e=some sz)(V:0<sz){x i:D}{u v:Value}(h1:fR c w u x)(y:fR c w v i)(a:G7 sz x i H K) :
  ∃r,(Instr.indexAt t u v).run P w = .ok r w/\ja G c H w K r w:=by
 have q:∀(ad:Addr) (len cap:Nat) (k:IntKind) (n:Int),0<=n/\n<len->(Instr.indexAt t (.slice (some ad) len cap) (.int k n)).run P w = .ok (.pointer (some (ad.add (n.toNat*sz)))) w:=λad len cap k n f=>by simp only[Instr.indexAt,Sem.run_bind,asIntOf,Sem.run_pure,Result.andThen_ok,run_underlying N,qo hs,Sem.run_ite];rw[if_pos f]
 unfold G7 at a;split at a
 .rename_i z es k n;obtain⟨rfl,f,a⟩:=a;cases y
  cases h1 with
  | sl ad len cap _ _ g E I C J B p O=>
   have hi:n.toNat<es.length:=by omega
   cases ad with
   | none=>have:=B rfl;omega
   | some ad=>
    refine⟨_,q ad len cap k n ⟨f.1,by omega⟩,.plain h a ?_⟩;have m:es[n.toNat]? = some es[n.toNat]:=by simp[hi]
    have A:es.getD n.toNat []=es[n.toNat]:=by simp[hi]
    rw[A];have hl:es[n.toNat].length=z:=J _ (bP hi);obtain⟨d0,F⟩:∃d0,es[n.toNat][0]? = some d0:=⟨es[n.toNat][0]'(by omega),by simp⟩;obtain⟨b,o,e,s,_,_⟩:=p n.toNat _ 0 d0 m F;cases e;rw[Addr.add_lit];refine .gi b (o+n.toNat*z) _ (g n.toNat) s (λj d l=>?_) (λj d l=>O _ _ j d m l);obtain⟨X,o',e,_,R,Q⟩:=p n.toNat _ j d m l;cases e;exact⟨by rw[a7];exact R,Q⟩
 .rename_i vs k n;obtain⟨rfl,f,a⟩:=a;cases y
  cases h1 with
  | lS ad _ C B p=>
   have hi:n.toNat<vs.length:=by omega
   have m:vs[n.toNat]? = some vs[n.toNat]:=by simp[hi]
   have A:vs.getD n.toNat undef=vs[n.toNat]:=by simp[hi]
   obtain⟨b,o,e,s,T,h1⟩:=p _ _ m;subst e;refine⟨_,q _ vs.length vs.length k n f,.plain h a ?_⟩;rw[A,Addr.add_lit];refine .gi b (o+n.toNat*1) _ (λ_=>vs[n.toNat]) s (λj d l=>?_) (λj d l=>?_)
   .grind
   .have:j=0:=by have:=(ae.1 l).1;simp at this;exact this
    subst this;cases l;exact .val _
 .rename_i v0 W z off len k n;obtain⟨rfl,f,a⟩:=a;cases y
  cases h1 with
  | fM _ _ _ _ _ cap L S M I C U=>
   refine⟨_,q _ len cap k n f,.plain h a ?_⟩;rw[Addr.add_lit,a7,<-bk];exact .ptr _ _ _ L S M
  | mh=>omega
 .exact a.elim
end
end Go.AL
namespace Go.AL
open Go
section
variable{P:Program}{G:GT}{c:Ctx}{H:U}{w:World}{K:jx}{env:gL}{a:Act}
theorem alJ(h:gv G c H w){t e:TypeId}{sz n:Nat}(l:P.underlying t=some (.array n e))(hs:kl P e=some sz){x i:D}{u v:Value}(h1:fR c w u x)(g:fR c w v i)(a:G8 sz n x i H K) :
  ∃r,(Instr.indexAt t u v).run P w = .ok r w/\ja G c H w K r w:=by
 have f:∀(ad:Addr) (k:IntKind) (m:Int),0<=m/\m<n->(Instr.indexAt t (.pointer (some ad)) (.int k m)).run P w = .ok (.pointer (some (ad.add (m.toNat*sz)))) w:=λad k m d=>by simp only[Instr.indexAt,Sem.run_bind,asIntOf,Sem.run_pure,Result.andThen_ok,run_underlying l,qo hs,Sem.run_ite,Instr.sureAddr];rw[if_pos d]
 unfold G8 at a;split at a
 .rename_i v0 z o k m;obtain⟨d,a⟩:=a;cases g
  cases h1 with
  | ptr _ _ _ L y j=>
   refine⟨_,f _ k m d,.plain h a ?_⟩;rw[Addr.add_lit,a7];exact .ptr _ _ _ L y j
 .rename_i cs k m;obtain⟨d,a⟩:=a;cases g;obtain⟨b,p,rfl,s,q⟩:=yV h1;refine⟨_,f _ k m d,.plain h a ?_⟩;rw[Addr.add_lit];exact P3 s (q.drop _)
 .exact a.elim
theorem alH(h:gv G c H w){t e:TypeId}{sz n:Nat}{b:Bool}(f:P.underlying t=some (.array n e))(hs:kl P e=some sz)(o:oQ P e=some b){x i:D}{u v:Value}(h1:fR c w u x)(d:fR c w v i)(a:Ha sz n b x i H K) :
  ∃r,(Instr.index t u v).run P w = .ok r w/\ja G c H w K r w:=by
 unfold Ha at a;split at a
 .rename_i cs k m;obtain⟨l,a⟩:=a;cases d
  cases h1 with
  | agg vs _ hl h1 d=>
   obtain⟨r,g,j⟩:=ZC (off:=m.toNat*sz) h o hs ⟨hl,h1,d⟩ a;refine⟨r,?_,j⟩;simp only[Instr.index,Sem.run_bind,asIntOf,Sem.run_pure,Result.andThen_ok,run_underlying f,Sem.run_ite];rw[if_pos l];simp[qo hs,g]
 .exact a.elim
theorem alK(h:gv G c H w){t:TypeId}(d:P.underlying t=some .string){x i:D}{u v:Value}(h1:fR c w u x)(f:fR c w v i)(a:Hf x i H K) :
  ∃r,(Instr.index t u v).run P w = .ok r w/\ja G c H w K r w:=by
 unfold Hf at a;split at a
 .rename_i s k m;obtain⟨e,a⟩:=a;cases h1;cases f;have b:m.toNat<s.size:=by omega
  have hl:s.data.toList.getD m.toNat 0=s[m.toNat]:=by have g:m.toNat<s.data.size:=b;show(s.data.toList[m.toNat]?).getD 0=s.data[m.toNat];rw[bA,b9 g];rfl
  rw[hl]at a;refine⟨_,?_,.val h a⟩;simp only[Instr.index,Sem.run_bind,asIntOf,Sem.run_pure,Result.andThen_ok,run_underlying d];rw[if_pos e.1];simp[b]
 .exact a.elim
theorem alE(h:gv G c H w){x:D}{i:Nat}{u:Value}(h1:fR c w u x)(a:FT x i H K):∃r,(Instr.extract u i).run P w = .ok r w/\ja G c H w K r w:=by
 unfold FT at a;split at a
 .split at a
  .rename_i ds d b
   cases h1 with
   | tup vs _ hl h1=>
    have hi:i<vs.length:=by rw[hl];exact(ae.1 b).1
    refine⟨vs[i],?_,.plain h a (h1 i _ d (by simp[hi]) b)⟩;simp[Instr.extract,hi]
  .exact a.elim
 .exact a.elim
theorem alP(h:gv G c H w)(j:kK c w env a){f:Fn}{first cap:Array Operand}{b d:List X}(h1:xv G first.toList=some b)(m:xv G cap.toList=some d)
  (k:K (.fn f (b.map (ev env)) (d.map (ev env))) H):ja G c H w K (.func f (first.map a.eval) (cap.map a.eval)) w:=by
 have i:=Ay h j first.toList h1
 have g:=Ay h j cap.toList m;refine .plain h k ?_;have:=fR.fn (c:=c) (w:=w) f (first.toList.map a.eval) (cap.toList.map a.eval) (b.map (ev env)) (d.map (ev env)) i.length g.length i.get g.get;have e:∀l:Array Operand,(l.toList.map a.eval).toArray=l.map a.eval:=λl=>by cases l;simp
 rwa [e,e]at this
theorem alQ(h:gv G c H w){al:Al}(e:mW H al)(t:TypeId)(kk:KK)(f:K (.gx al.1) (al.2 (.map kk []))):∃r w',(Instr.makeMap t none).run P w = .ok r w'/\ja G c H w K r w':=by
 have a:=jZ.alloc w (.map #[] 0);have d:(⟨w.heap.size,0,0,false⟩:Loc).jG=false->w.heap.size<=(⟨w.heap.size,0,0,false⟩:Loc).b/\(⟨w.heap.size,0,0,false⟩:Loc).b<(w.alloc (.map #[] 0)).heap.size:=λ_=>⟨Nat.le_refl _,by simp⟩;have b:=(e (.map kk [])).tT;have hs:=OF h b a ⟨w.heap.size,0,0,false⟩ d;refine⟨.map (some w.heap.size),w.alloc (.map #[] 0),by simp[Instr.makeMap],_,_,_,f,Tv h b a _ d rfl ?_,?_,hs⟩
 .simp only[gV];exact⟨trivial,by simp,#[],0,heap_alloc_new _ _,⟨rfl,by simp,by simp⟩⟩
 .exact .gx (c:=c.set al.1 0 ⟨w.heap.size,0,0,false⟩) al.1 ⟨w.heap.size,0,0,false⟩ (Ctx.sk _ _ _ _) rfl
theorem alR(h:gv G c H w){al:Al}(x:mW H al){t e:TypeId}{i:TypeInfo}{z:List D}(A:P.underlying t=some (.slice e))(hi:P.info? e=some i)(y:qx P e=some z)(U:z.length=i.size)(W:0<i.size)
  {l m:D} {u v:Value} (h1:fR c w u l) (C:fR c w v m) (b:HB e i.size i.bytes z l m al K):∃r w',(Instr.makeSlice t u v).run P w = .ok r w'/\ja G c H w K r w':=by
 unfold HB at b;split at b
 .rename_i k n X q;obtain⟨⟨V,B,Y,Z⟩,b⟩:=b;cases h1;cases C;obtain⟨a,o,_,d⟩:=Af y w;have p:a.cells.size=i.size:=by have:=(d c w).len;simp at this;omega
  have wn:IntKind.i64.wrap n=n:=wrap_i64 (by unfold nU;omega);have g:IntKind.i64.wrap q=q:=wrap_i64 (by unfold nU;omega)
  have s:Cells c w ((Array.range (q.toNat*i.size)).map (λj=>a.cells[j % a.cells.size]!)).toList (List.replicate q.toNat z).flatten:=by rw[<-p,N5 a.cells q.toNat (by omega)];exact MD _ _ d _
  obtain⟨L,O,N,M,J,I,F⟩:=D9 h w (jZ.refl w) e _ _ ((Array.range (q.toNat*i.size)).map (λj=>a.cells[j % a.cells.size]!)).size ((Array.range (q.toNat*i.size)).map (λj=>a.cells[j % a.cells.size]!)) (x _).tT s (by rw[<-c9,dA]) (Nat.le_refl _);refine⟨.slice (some ⟨w.heap.size,0,none⟩) n.toNat q.toNat,w.alloc (.cells ((Array.range (q.toNat*i.size)).map (λj=>a.cells[j % a.cells.size]!)) e),?_,?_⟩
  .have S:¬((i.bytes:Int)*q>2 ^ 48):=by omega
   have c2:¬q<0:=by omega
   have R:¬n<0:=by omega
   have Q:¬n>q:=by omega
   simp only[Instr.makeSlice,Sem.run_bind,run_underlying A,Result.andThen_ok,asInt,asIntOf,Sem.run_pure,run_typeInfo hi,wn,g,Sem.run_ite];rw[if_neg (by simp[S,c2,R,Q];omega)]
   by_cases h0:q.toNat*i.size=0
   .have T:q.toNat=0:=by rcases Nat.mul_eq_zero.1 h0 with h|h<;>omega
    have E:Array.range 0=(#[]:Array Nat):=rfl;simp[sizeOf,run_typeInfo hi,T,newRow,E]
   .simp[sizeOf,run_typeInfo hi,h0,o,newRow]
  .have f:=HM (c:=c) (w:=w.alloc (.cells ((Array.range (q.toNat*i.size)).map (λj=>a.cells[j % a.cells.size]!)) e)) O M al.1 0 i.size n.toNat q.toNat (by rw[J];simp) (by omega) (by unfold maxLen;omega);rw[N]at f;exact⟨_,_,_,b,I,f,F⟩
 .exact b.elim
end
end Go.AL
namespace Go.AL
open Go
section
variable{P:Program}{G:GT}{c:Ctx}{H:U}{w:World}{K:jx}{env:gL}{a:Act}
theorem MB{α:Type}(sz:Nat)(c:0<sz):∀(ls:List (List α)),(∀l∈ls,l.length=sz)->∀j:Nat,ls.flatten[j]? = (ls[j / sz]?).bind (·[j % sz]?)
 | [],_,j=>by simp
 | l::ls,h,j=>by
  have hl:l.length=sz:=h l (by simp);rw[aX]
  by_cases d:j<sz
  .rw[ah (by omega),Nat.div_eq_of_lt d,eZ d];simp
  .rw[ai (by omega),hl,MB sz c ls (λl hl=>h l (by simp[hl])),Nat.div_eq_sub_div (a:=j) (b:=sz) c (by omega),Nat.mod_eq_sub_mod (a:=j) (b:=sz) (by omega)];simp
theorem MC{α:Type}(sz:Nat):∀(ls:List (List α)),(∀l∈ls,l.length=sz)->ls.flatten.length=ls.length*sz
 | [],_=>by simp
 | l::ls,h=>by rw[aX,aj,MC sz ls (λl hl=>h l (by simp[hl])),h l (by simp),aH,bk];omega
theorem Tq(h:gv G c H w){sz:Nat}(R:0<sz){d:D}{u:Value}(p:fR c w u d){x:List D}{n:Nat}(f:kR sz H d=some (x,n)) :
  ∃y F vs,u = .slice y n F/\Cells c w vs x/\x.length=n*sz/\n<=F/\(y=none->n=0)/\(∀ad,y=some ad->∀(j:Nat) (v:Value),vs[j]? = some v->w.cell? (ad.add j)=some v):=by
 unfold kR at f;split at f
 .rename_i k es;split at f
  .rename_i e;subst e;cases f
   cases p with
   | sl ad len cap _ _ g q J K M A r p=>
    have Z:=MC k es M
    have I:∀(j:Nat) (d:D),es.flatten[j]? = some d->∃e,es[j / k]? = some e/\e[j % k]? = some d:=λj d l=>by
     rw[MB k R es M]at l
     cases N:es[j / k]? with
     | none=>simp[N]at l
     | some e=>exact⟨e,rfl,by simpa[N]using l⟩
    refine⟨ad,cap,(List.range es.flatten.length).map λj=>g (j / k) (j % k),by rw[q],⟨by simp,λv a=>?_,λi v d a l=>?_⟩,Z,by omega,λe=>by have:=A e;omega,λb m j v a=>?_⟩
    .simp only[ao,bj]at a;obtain⟨j,s,rfl⟩:=a;obtain⟨e,C,z⟩:=I j _ (by rw[List.getElem?_eq_getElem s]);obtain⟨_,_,_,_,_,h1⟩:=r _ e _ _ C z;exact h1
    .grind
    .have s:j<es.flatten.length:=by have:=(ae.1 a).1;simpa using this
     simp only[av,bJ s,aG,aq]at a;subst a;obtain⟨e,C,z⟩:=I j _ (by rw[List.getElem?_eq_getElem s]);obtain⟨Y,o,E,_,O,_⟩:=r _ e _ _ C z;rw[m]at E;cases E;rw[Addr.add_lit];have B:=O;rw[Nat.div_add_mod' j k]at B;exact B
  .cases f
 .cases f
  cases p with
  | fX=>exact⟨none,0,[],rfl,Cells.nil,by simp,Nat.le_refl _,λ_=>rfl,λ_ _ j v a=>by simp at a⟩
 .rename_i vs;split at f
  .rename_i X;subst X;cases f
   cases p with
   | lS ad _ K A r=>
    refine⟨ad,vs.length,vs,rfl,⟨by simp,λv a=>?_,λi v d a l=>?_⟩,by simp,Nat.le_refl _,λe=>by rw[A e];rfl,λb m j v a=>?_⟩
    .obtain⟨i,hi⟩:=List.getElem?_of_mem a;obtain⟨_,_,_,_,_,h1⟩:=r i v hi;exact h1
    .simp only[av,a,aG,aq]at l;subst l;exact .val _
    .obtain⟨Y,o,U,_,Q,_⟩:=r j v a;rw[U]at m;cases m;rw[Addr.add_lit];exact Q
  .cases f
 .rename_i v0 g0 k off len;split at f
  .rename_i t cs W;split at f
   .rename_i S;obtain⟨rfl,mR⟩:=S;cases f;have a:=tQ W;dsimp only at a
    cases p with
    | fM _ _ _ _ _ cap L P T J K mo=>
     obtain⟨arr,h1,O,B,V⟩:=yq h a P T;refine⟨_,cap,_,rfl,((V.drop (off*k)).take (n*k)),?_,J,(λe=>nomatch e),λad m j v a=>?_⟩
     .grind
     .cases m;rw[Addr.add_lit];rw[aF]at a;split at a
      .rw[aI,aF]at a;split at a
       .rw[aI]at a;simp[World.cell?,h1];rw[a7];simpa using a
       .cases a
      .cases a
    | mh _ _ _ _ L P ad=>
     refine⟨ad,0,[],rfl,?_,by simp,Nat.le_refl _,λ_=>rfl,λ_ _ j v a=>by simp at a⟩;simp only[cQ,eM];exact Cells.nil
   .cases f
  .cases f
 .cases f
theorem UL:∀ {vs:List Value} {a:List D} {b:List Int},vs.length=a.length->(∀(i:Nat) (v:Value) (d:D),vs[i]? = some v->a[i]? = some d->fR c w v d)->bytesOf a=some b->vs=b.map (Value.int .u8)
 | [],[],b,_,_,h=>by cases h;rfl
 | v::vs,y::a,b,hl,hr,h=>by
  unfold bytesOf at h;split at h
  .grind
  .rename_i n r f;cases f;split at h
   .rename_i l g;cases h;have h0:=hr 0 v _ rfl rfl;cases h0;have e:=UL (vs:=vs) (by simpa using hl) (λi v d j k=>hr (i+1) v d (by simpa using j) (by simpa using k)) g;rw[e];rfl
   .cases h
  .cases h
theorem als(h:gv G c H w){s d e:TypeId}(hs:P.underlying s=some (.slice e))(p:P.underlying e=some (.int .u8))(q:P.underlying d=some .string){x:D}{u:Value}(h1:fR c w u x)(a:Fq x H K) :
  ∃r,(convert s d u).run P w = .ok r w/\ja G c H w K r w:=by
 unfold Fq at a;split at a
 .rename_i z n l;obtain⟨j,i,vs,m,b,k,A,v,y⟩:=Tq h (by omega) h1 l;subst m;split at a
  .rename_i f t;have g:=UL b.len b.rep t;refine⟨_,?_,.val h a⟩;rw[run_convert_bytes_string w s d e j n i hs p q]
   cases j with
   | none=>
    have o:=v rfl;subst o
    have:f = []:=by
     have:vs = []:=aZ (by rw[b.len,k]);rw[this]at g
     cases f with
     | nil=>rfl
     | cons=>cases g
    subst this;simp[Conv.bytesToString]
   | some ad=>
    refine run_bytesToString w ad n i f ?_;have hl:vs.length=n:=by rw[b.len,k];simp
    have:=run_loadCells_list (P:=P) w ad vs (y ad rfl);rw[hl]at this;rw[this,g]
  .exact a.elim
 .grind
theorem abQ(h:gv G c H w)(i:kK c w env a){x:Option Operand}{X:Option X}(e:rP G x=some X){d:Int}{n:Int}(b:gY env X d=some n) :
  (x=none/\n=d)\/∃k o,x=some o/\a.eval o = .int k n:=by
 cases x with
 | none=>cases e;simp[gY]at b;exact .inl ⟨rfl,b.symm⟩
 | some o=>
  simp only[rP,ak]at e;obtain⟨j,hX,rfl⟩:=e;have:=iE h i hX;simp only[gY]at b;split at b
  .rename_i k m f;cases b;rw[f]at this;generalize g:a.eval o=v at this;cases this;exact .inr ⟨k,o,rfl,g⟩
  .cases b
theorem Oi(a:Bool)(len cap:Nat)(lo hi:Option Value)(l h:Int)(d:(lo=none/\l=0)\/∃k,lo=some (.int k l))(e:(hi=none/\h=len)\/∃k,hi=some (.int k h))
  (h0:0<=l) (h1:l<=h) (c:h<=cap):(Instr.sliceBounds a len cap lo hi none).run P w = .ok (l.toNat,h.toNat,cap) w:=by
 have f:(h.toNat:Int)=h:=b6 (by omega);rcases d with⟨rfl,rfl⟩|⟨k,rfl⟩<;>rcases e with⟨rfl,rfl⟩|⟨b,rfl⟩
 .simp[Instr.sliceBounds]
 .simp[Instr.sliceBounds,run_sliceBound w b h cap _ (by omega) c]
 .simp[Instr.sliceBounds,run_sliceBound w k l len _ h0 h1]
 .simp[Instr.sliceBounds,run_sliceBound w b h cap _ (by omega) c,run_sliceBound w k l h.toNat _ h0 (by omega)]
theorem uT(h:gv G c H w)(e:kK c w env a){x:Option Operand}{X:Option X}(b:rP G x=some X){d:Int}{n:Int}(f:gY env X d=some n) :
  (x.map a.eval=none/\n=d)\/∃k,x.map a.eval=some (.int k n):=by
 rcases abQ h e b f with⟨rfl,rfl⟩|⟨k,o,rfl,g⟩
 .grind
 .grind
theorem alY(h:gv G c H w)(E:kK c w env a){t e:TypeId}{sz:Nat}(U:P.underlying t=some (.slice e))(hs:kl P e=some sz){lo hi:Option Operand}{L M:Option X}(hl:rP G lo=some L)(W:rP G hi=some M)
  {x:D} {u:Value} (h1:fR c w u x) (f:Ik env sz x L M H K):∃r,(Instr.sliceAt t u (lo.map a.eval) (hi.map a.eval) none).run P w = .ok r w/\ja G c H w K r w:=by
 have y:∀(b:Option Addr) (len cap:Nat) (l m:Int),gY env L 0=some l->gY env M len=some m->0<=l->l<=m->m<=cap ->
   (Instr.sliceAt t (.slice b len cap) (lo.map a.eval) (hi.map a.eval) none).run P w = .ok (.slice (if cap=l.toNat then b else b.map (·.add (l.toNat*sz))) (m.toNat-l.toNat) (cap-l.toNat)) w:=by
  intro b len cap l m n k h0 p Q9;have hb:=Oi (P:=P) (w:=w) true len cap (lo.map a.eval) (hi.map a.eval) l m (uT h E hl n) (uT h E W k) h0 p Q9;simp only[Instr.sliceAt,Sem.run_bind,run_underlying U,Result.andThen_ok,Instr.slice,hb,qo hs,Sem.run_pure]
 unfold Ik at f;split at f
 .rename_i q es;split at f
  .rename_i l m n k;obtain⟨rfl,⟨h0,p,I⟩,f⟩:=f
   cases h1 with
   | sl ad len cap _ _ g s Q R S lA Z hr=>
    refine⟨_,y ad len cap l m n (by rw[<-s];exact k) h0 p (by omega),.plain h f ?_⟩;have O:∀(i:Nat) (e:List D),((es.drop l.toNat).take (m.toNat-l.toNat))[i]? = some e->es[l.toNat+i]? = some e/\i<m.toNat-l.toNat:=λi e hi=>by grind
    refine .sl _ _ _ q _ (λi j=>g (l.toNat+i) j) (by simp;omega) (by omega) (by omega) (λe J=>S e (bq (aS J))) ?_ ?_ ?_
    .intro V;split at V
     .omega
     .simp_all
    .intro i e j d hi Y;obtain⟨h3,h4⟩:=O i e hi;obtain⟨b,o,F,hF,oy,h1⟩:=Z _ e j d h3 Y;refine⟨b,o+l.toNat*q,?_,hF,?_,h1⟩
     .rw[if_neg (by omega),F];simp[Addr.add_lit]
     .grind
    .grind
  .exact f.elim
 .rename_i v B q off len;split at f
  .rename_i l m n k;obtain⟨rfl,⟨h0,p,I⟩,f⟩:=f
   cases h1 with
   | fM _ _ _ _ _ cap A z T Q R N=>
    refine⟨_,y _ len cap l m n k h0 p (by omega),.plain h f ?_⟩
    by_cases C:cap=l.toNat
    .rw[if_pos C,show m.toNat-l.toNat=0 by omega,show cap-l.toNat=0 by omega];exact .mh v B q (off+l.toNat) A z _
    .rw[if_neg C];have:=fR.fM (c:=c) (w:=w) v B q (off+l.toNat) (m.toNat-l.toNat) (cap-l.toNat) A z T (by omega) (by omega) (by rw[show off+l.toNat+(cap-l.toNat)=off+cap by omega];exact N);simp only[aG,Addr.add_lit];rw[a7,<-bk];exact this
   | mh _ _ _ _ A z ad=>
    have:l=0:=by omega
    subst this;have:m=0:=by omega
    subst this;refine⟨_,y ad 0 0 0 0 n k h0 p (by omega),.plain h f ?_⟩;simp only[eN,if_true,e7,cz];exact .mh v B q off A z ad
  .exact f.elim
 .split at f
  .rename_i l m n k;obtain⟨⟨rfl,rfl⟩,f⟩:=f
   cases h1 with
   | fX=>
    refine⟨_,y none 0 0 0 0 n k (by omega) (by omega) (by omega),.plain h f ?_⟩;simp only[eN,if_true,e7];exact .fX
  .exact f.elim
 .grind
theorem am4(a:Bool)(len cap:Nat)(lo:Option Value)(k b:IntKind)(l h m:Int)(d:(lo=none/\l=0)\/∃k,lo=some (.int k l))
  (h0:0<=l) (h1:l<=h) (e:h<=m) (c:m<=cap):(Instr.sliceBounds a len cap lo (some (.int k h)) (some (.int b m))).run P w = .ok (l.toNat,h.toNat,m.toNat) w:=by
 have em:(m.toNat:Int)=m:=b6 (by omega);rcases d with⟨rfl,rfl⟩|⟨k0,rfl⟩
 .simp[Instr.sliceBounds,run_sliceBound w b m cap _ (by omega) c,run_sliceBound w k h m.toNat _ (by omega) (by omega)]
 .simp[Instr.sliceBounds,run_sliceBound w b m cap _ (by omega) c,run_sliceBound w k h m.toNat _ (by omega) (by omega),run_sliceBound w k0 l h.toNat _ h0 (by omega)]
theorem aaY:∀ {es:List (List D)} {vs:List Value},EF es=some vs->es=vs.map (λv=>[.val v])/\∀v∈vs,v.oneCell'=true
 | [],vs,h=>by cases h;exact⟨rfl,by simp⟩
 | e::es,vs,h=>by
  unfold EF at h;split at h
  .grind
  .rename_i v r a;cases a;split at h
   .rename_i h1;split at h
    .rename_i l hl;cases h;obtain⟨b,d⟩:=aaY hl;exact⟨by rw[b];rfl,λv c=>by grind⟩
    .cases h
   .cases h
  .cases h
theorem acj{ad:Option Addr}{len sz:Nat}{es:List (List D)}(h1:fR c w (.slice ad len len) (.sl sz es)):fR c w (.slice ad len len) (clip sz es):=by
 unfold clip;split
 .rename_i vs h;split
  .rename_i t;subst t;obtain⟨s,z⟩:=aaY h;subst s
   cases h1 with
   | sl _ _ _ _ _ g a x j y f n l=>
    simp only[List.length_map]at a;subst a;refine .lS ad vs j (λe=>ay.1 (f e)) λi v k=>?_;have hi:(vs.map λv=>[D.val v])[i]? = some [.val v]:=by simp[k]
    obtain⟨b,o,p,q,d,h1⟩:=n i _ 0 _ hi rfl;have hg:=l i _ 0 _ hi rfl
    have r:g i 0=v:=by generalize m:g i 0=u at hg;cases hg;rfl
    rw[r]at d h1;exact⟨b,o,p,q,by simpa using d,h1⟩
  .exact h1
 .exact h1
theorem alW(h:gv G c H w)(I:kK c w env a){t e:TypeId}{sz:Nat}(hu:P.underlying t=some (.slice e))(hs:kl P e=some sz){lo:Option Operand}{hi mx:Operand}{L:Option X}{M N:X}(hl:rP G lo=some L)(hm:cX G hi=some M)(C:cX G mx=some N)
  {x:D} {u:Value} (h1:fR c w u x) (n:Ii env sz x L M N H K):∃r,(Instr.sliceAt t u (lo.map a.eval) (some (a.eval hi)) (some (a.eval mx))).run P w = .ok r w/\ja G c H w K r w:=by
 have B:∀(b:Option Addr) (len cap:Nat) (l f m:Int),gY env L 0=some l->gY env (some M) 0=some f->gY env (some N) 0=some m->0<=l->l<=f->f<=m->m<=cap ->
   (Instr.sliceAt t (.slice b len cap) (lo.map a.eval) (some (a.eval hi)) (some (a.eval mx))).run P w = .ok (.slice (if m.toNat=l.toNat then b else b.map (·.add (l.toNat*sz))) (f.toNat-l.toNat) (m.toNat-l.toNat)) w:=by
  intro b len cap l f m s p z h0 q A Q9
  obtain⟨k1,U⟩:∃k,a.eval hi = .int k f:=by
   rcases uT h I (x:=some hi) (X:=some M) (by simp only[rP,hm,aG]) p with⟨e,_⟩|⟨k,e⟩
   .cases e
   .grind
  obtain⟨k2,V⟩:∃k,a.eval mx = .int k m:=by
   rcases uT h I (x:=some mx) (X:=some N) (by simp only[rP,C,aG]) z with⟨e,_⟩|⟨k,e⟩
   .cases e
   .grind
  have hb:=am4 (P:=P) (w:=w) true len cap (lo.map a.eval) k1 k2 l f m (uT h I hl s) h0 q A Q9;simp only[Instr.sliceAt,Sem.run_bind,run_underlying hu,Result.andThen_ok,Instr.slice,U,V,hb,qo hs,Sem.run_pure]
 unfold Ii at n;split at n
 .rename_i l f m s p z;split at n
  .rename_i y es;obtain⟨rfl,⟨h0,q,rfl,S⟩,n⟩:=n
   cases h1 with
   | sl ad len cap _ _ g Q jV iR iA Y hc hr=>
    refine⟨_,B ad len cap l f f s p z h0 q (dS _) (by omega),.plain h n (acj ?_)⟩;have Z:∀(i:Nat) (e:List D),((es.drop l.toNat).take (f.toNat-l.toNat))[i]? = some e->es[l.toNat+i]? = some e/\i<f.toNat-l.toNat:=λi e hi=>by grind
    refine .sl _ _ _ y _ (λi j=>g (l.toNat+i) j) (by simp;omega) (by omega) (by omega) (λe T=>iA e (bq (aS T))) ?_ ?_ ?_
    .intro C;split at C
     .omega
     .cases ad with
      | none=>have:=Y rfl;omega
      | some ad=>simp at C
    .intro i e j d hi hd;obtain⟨h3,h4⟩:=Z i e hi;obtain⟨b,o,R,hF,oy,h1⟩:=hc _ e j d h3 hd;refine⟨b,o+l.toNat*y,?_,hF,?_,h1⟩
     .rw[if_neg (by omega),R];simp[Addr.add_lit]
     .grind
    .grind
  .rename_i v J y off len;obtain⟨rfl,⟨h0,q,A,S⟩,n⟩:=n
   cases h1 with
   | fM _ _ _ _ _ cap F E hv jV iR W=>
    refine⟨_,B _ len cap l f m s p z h0 q A (by omega),.plain h n ?_⟩
    by_cases O:m.toNat=l.toNat
    .rw[if_pos O,show f.toNat-l.toNat=0 by omega,show m.toNat-l.toNat=0 by omega];exact .mh v J y (off+l.toNat) F E _
    .rw[if_neg O]
     have:=fR.fM (c:=c) (w:=w) v J y (off+l.toNat) (f.toNat-l.toNat) (m.toNat-l.toNat) F E hv (by omega) (by omega) (by
      refine Nat.le_trans (Nat.add_le_add_left (br _ ?_) _) W
      omega)
     simp only[aG,Addr.add_lit];rw[a7,<-bk];exact this
   | mh _ _ _ _ F E ad=>
    have:l=0:=by omega
    subst this;have:f=0:=by omega
    subst this;have:m=0:=by omega
    subst this;refine⟨_,B ad 0 0 0 0 0 s p z h0 q A (by omega),.plain h n ?_⟩;simp only[eN,if_true,e7,cz];exact .mh v J y off F E ad
  .obtain⟨⟨rfl,rfl,rfl⟩,n⟩:=n
   cases h1 with
   | fX=>
    refine⟨_,B none 0 0 0 0 0 s p z (by omega) (by omega) (by omega) (by omega),.plain h n ?_⟩;simp only[eN,if_true,e7];exact .fX
  .exact n.elim
 .grind
theorem alX(h:gv G c H w)(s:kK c w env a){t e:TypeId}{sz n:Nat}(S:P.underlying t=some (.array n e))(hs:kl P e=some sz){lo hi:Option Operand}{L M:Option X}(hl:rP G lo=some L)(U:rP G hi=some M)
  {x:D} {u:Value} (h1:fR c w u x) (f:Ij env sz n x L M H K):∃r,(Instr.sliceAt t u (lo.map a.eval) (hi.map a.eval) none).run P w = .ok r w/\ja G c H w K r w:=by
 unfold Ij at f;split at f
 .rename_i cs l m B z;obtain⟨⟨rfl,Z,iR,h0,A,W⟩,f⟩:=f;obtain⟨b,p,rfl,hF,jr⟩:=yV h1;obtain⟨vs,V,kP⟩:=jr;have F:=Oi (P:=P) (w:=w) false n n (lo.map a.eval) (hi.map a.eval) l m (uT h s hl B) (uT h s U z) h0 A (by omega)
  have C:(Instr.sliceAt t (.pointer (some ⟨b,p,none⟩)) (lo.map a.eval) (hi.map a.eval) none).run P w = .ok (.slice (some (if n=l.toNat then⟨b,p,none⟩else Addr.add ⟨b,p,none⟩ (l.toNat*1))) (m.toNat-l.toNat) (n-l.toNat)) w:=by simp only[Instr.sliceAt,Sem.run_bind,run_underlying S,Result.andThen_ok,Instr.sureAddr,F,qo hs,Sem.run_pure]
  refine⟨_,C,.plain h f ?_⟩;have O:∀(i:Nat) (e:List D),(((cs.drop l.toNat).take (m.toNat-l.toNat)).map λd=>[d])[i]? = some e->∃d,cs[l.toNat+i]? = some d/\e = [d]/\i<m.toNat-l.toNat:=λi e hi=>by grind
  refine .sl _ _ _ 1 _ (λi _=>vs.getD (l.toNat+i) undef) (by simp;omega) (by omega) (by unfold maxLen;omega) (λe pU=>?_) (λe=>nomatch e) ?_ ?_
  .grind
  .intro i e j d hi y;obtain⟨d0,I,rfl,h4⟩:=O i e hi;have E:j=0:=by have:=(ae.1 y).1;simp at this;exact this
   subst E;obtain⟨v,q,Y,N⟩:=V.get I;refine⟨b,p+l.toNat,?_,hF,?_,?_⟩
   .rw[if_neg (by omega),Addr.add_lit,eP]
   .grind
   .grind
  .intro i e j d hi y;obtain⟨d0,I,rfl,h4⟩:=O i e hi;have E:j=0:=by have:=(ae.1 y).1;simp at this;exact this
   subst E;cases y;obtain⟨v,q,Y,N⟩:=V.get I;rw[List.getD_eq_getElem?_getD,q,aW];exact N
 .rename_i v g o l m B z;split at f
  .rename_i t' cs gP;obtain⟨⟨a4,Z,iR,h0,A,W⟩,f⟩:=f;have q:=tQ gP;dsimp only at q
   cases h1 with
   | ptr _ _ _ k J Q=>
    obtain⟨arr,A9,MX,W4,MY⟩:=yq h q J Q;have F:=Oi (P:=P) (w:=w) false n n (lo.map a.eval) (hi.map a.eval) l m (uT h s hl B) (uT h s U z) h0 A (by omega)
    have C:(Instr.sliceAt t (.pointer (some ⟨k.b,k.base+o,none⟩)) (lo.map a.eval) (hi.map a.eval) none).run P w = .ok (.slice (some (if n=l.toNat then⟨k.b,k.base+o,none⟩else Addr.add ⟨k.b,k.base+o,none⟩ (l.toNat*sz))) (m.toNat-l.toNat) (n-l.toNat)) w:=by simp only[Instr.sliceAt,Sem.run_bind,run_underlying S,Result.andThen_ok,Instr.sureAddr,F,qo hs,Sem.run_pure]
    refine⟨_,C,.plain h f ?_⟩;have T:o=o / sz*sz:=by have:=Nat.div_add_mod' o sz;omega
    by_cases R:n=l.toNat
    .rw[if_pos R,show m.toNat-l.toNat=0 by omega,show n-l.toNat=0 by omega];exact .mh v g sz (o / sz+l.toNat) k J _
    .rw[if_neg R]
     have:=fR.fM (c:=c) (w:=w) v g sz (o / sz+l.toNat) (m.toNat-l.toNat) (n-l.toNat) k J Q (by omega) (by unfold maxLen;omega) (by
      rw[show o / sz+l.toNat+(n-l.toNat)=o / sz+n by omega,bk,<-T]
      omega)
     rw[Addr.add_lit];rw[bk,<-T,<-a7]at this;exact this
  .exact f.elim
 .grind
theorem alZ(h:gv G c H w)(d:kK c w env a){t:TypeId}(j:P.underlying t=some .string){lo hi:Option Operand}{L M:Option X}(hl:rP G lo=some L)(k:rP G hi=some M)
  {s:ByteArray} (b:Et env (.val (.string s)) L M H K):∃r,(Instr.sliceAt t (.string s) (lo.map a.eval) (hi.map a.eval) none).run P w = .ok r w/\ja G c H w K r w:=by
 simp only[Et]at b;split at b
 .rename_i l m i f;obtain⟨⟨h0,g,e⟩,b⟩:=b;have n:=Oi (P:=P) (w:=w) false s.size s.size (lo.map a.eval) (hi.map a.eval) l m (uT h d hl i) (uT h d k f) h0 g e;exact⟨.string (s.extract l.toNat m.toNat),by simp[Instr.sliceAt,run_underlying j,Instr.slice,n],.val h b⟩
 .grind
theorem tI{v:Nat}{x:KK×List (Value×D)}(h:lD H v=some x):H[v]? = some (.map x.1 x.2):=by
 unfold lD at h;split at h
 .grind
 .cases h
theorem SF(h:gv G c H w){t ty:TypeId}{k:Ar}{d:TypeDesc}(f:P.underlying t=some d)(b:match k with | .slice=>∃e,d = .slice e | .string=>d = .string | .map=>∃k e,d = .map k e)
  {x:D} {u:Value} (h1:fR c w u x) (a:Hq k x H K):∃r,(Builtin.len_ #[t] ty #[u]).run P w = .ok r w/\ja G c H w K r w:=by
 unfold Hq at a;split at a
 .obtain⟨e,rfl⟩:=b
  cases h1 with
  | sl ad len cap _ _ g i s m n p A E=>
   refine⟨goInt len,by simp[Builtin.len_,run_underlying f],.plain h a ?_⟩;rw[i];exact .val _
 .obtain⟨e,rfl⟩:=b
  cases h1 with
  | fX=>exact⟨goInt 0,by simp[Builtin.len_,run_underlying f],.plain h a (.val _)⟩
 .rename_i vs;obtain⟨e,rfl⟩:=b
  cases h1 with
  | lS ad _ m p A=>exact⟨goInt vs.length,by simp[Builtin.len_,run_underlying f],.plain h a (.val _)⟩
 .rename_i v F sz off len;obtain⟨e,rfl⟩:=b
  cases h1 with
  | fM _ _ _ _ _ cap L o y s m C=>exact⟨goInt len,by simp[Builtin.len_,run_underlying f],.plain h a (.val _)⟩
  | mh=>exact⟨goInt 0,by simp[Builtin.len_,run_underlying f],.plain h a (.val _)⟩
 .have b:d = .string:=b;subst b;cases h1;exact⟨_,by simp[Builtin.len_,run_underlying f]<;>rfl,.plain h a (.val _)⟩
 .rename_i v;obtain⟨kk,e,rfl⟩:=b;split at a
  .rename_i B es q
   cases h1 with
   | gx _ L o y=>
    have j:=h.ob v _ (tI q);simp only[Ob.gen]at j;rw[o]at j;simp only[gV]at j;obtain⟨_,_,arr,l,z,n,_⟩:=j;refine⟨goInt arr.size,by simp[Builtin.len_,run_underlying f,getObj,Sem.run,z],.plain h a ?_⟩;rw[<-n];exact .val _
  .exact a.elim
 .grind
theorem Zz(h:gv G c H w)(u:kK c w env a){xs:List X}{ops:Array Operand}(t:xv G ops.toList=some xs)(b:Bool)(j:Array TypeId)(ty:TypeId)(f:HA env b xs H K) :
  ∃r,(if b then Builtin.max_ j ty (ops.map a.eval)else Builtin.min_ j ty (ops.map a.eval)).run P w = .ok r w/\ja G c H w K r w:=by
 have d:=Ay h u ops.toList t
 have key:∀(xs:List X) (vs:List Value) (l:List Int),rE env xs=some l->ju c w vs (xs.map (ev env))->vs=l.map (Value.int .i64 ·):=by
  intro xs
  induction xs with
  | nil=>intro vs l hl d;simp[rE]at hl;subst hl;cases d;rfl
  | cons x xs o=>
   intro vs l hl d;simp only[rE]at hl;split at hl
   .rename_i n y k m;cases hl;simp only[List.map_cons]at d
    cases d with
    | cons h1 v=>
     rw[k]at h1;cases h1;rw[o _ _ m v];rfl
   .cases hl
 have e:∀l:Array Operand,(l.toList.map a.eval).toArray=l.map a.eval:=λl=>by cases l;simp
 unfold HA at f;split at f
 .rename_i p q hi;have i:=key _ _ _ hi d;have g:ops.map a.eval = #[.int .i64 p,.int .i64 q]:=by rw[<-e,i];rfl
  cases b
  .refine⟨.int .i64 (min p q),?_,.val h (by simpa using f)⟩;simp only[bz,if_false,g];have:(if q<p then q else p)=min p q:=by omega
   simp[Builtin.min_,Builtin.min2,this]
  .refine⟨.int .i64 (max p q),?_,.val h (by simpa using f)⟩;simp only[if_true,g];have:(if q>p then q else p)=max p q:=by omega
   simp[Builtin.max_,Builtin.max2];omega
 .rename_i p q s hi;have i:=key _ _ _ hi d;have g:ops.map a.eval = #[.int .i64 p,.int .i64 q,.int .i64 s]:=by rw[<-e,i];rfl
  cases b
  .refine⟨.int .i64 (min (min p q) s),?_,.val h (by simpa using f)⟩;simp only[bz,if_false,g];simp[Builtin.min_,Builtin.min2];omega
  .refine⟨.int .i64 (max (max p q) s),?_,.val h (by simpa using f)⟩;simp only[if_true,g];simp[Builtin.max_,Builtin.max2];omega
 .exact f.elim
end
end Go.AL
namespace Go.AL
open Go
section
variable{P:Program}{G:GT}{c:Ctx}{H:U}{w:World}{K:jx}{env:gL}{a:Act}
theorem Ze{G:GT}{c:Ctx}{H:U}{w w':World}(h:gv G c H w){v g:Nat}{t:TypeId}{cs:List D}(z:H[v]? = some (.row t g cs)){L:Loc}(Z:c.ι v g=some L)(a:Loc)
  (hg:(w'.os=w.os/\w.drawn<=w'.drawn)/\w'.tape=w.tape/\w'.output=w.output/\w.heap.size<=w'.heap.size) (T:∀b,b<w.heap.size->¬(L.jG=false/\b=L.b)->w'.heap[b]? = w.heap[b]?)
  (y:a.jG=false->(w.heap.size<=a.b\/(L.jG=false/\a.b=L.b))/\a.b<w'.heap.size) (m:List D)
  (gW:(∀u d,fR c w u d->fR (c.set v (g+1) a) w' u d)->gV (c.set v (g+1) a) w' (some a) (.row t (g+1) m)) :
  gv G (c.set v (g+1) a) (H.set v (.row t (g+1) m)) w'/\Step H.length c H w (c.set v (g+1) a) (H.set v (.row t (g+1) m)) w':=by
 have K:v<H.length:=(ae.1 z).1;have p:lQ c H v L:=⟨_,z,rfl,Z⟩;have S:yO H v (.row t (g+1) m) (H.set v (.row t (g+1) m)):=⟨sj K,.inr (.inr ⟨_,z,rfl,Nat.lt_succ_self _⟩),by simp⟩;have Q:∀b,c.F b->¬(L.jG=false/\b=L.b):=λb x e=>h.nF b ⟨v,L,p,e.1,e.2.symm⟩ x;have J:∀u l,lQ (c.set v (g+1) a) (H.set v (.row t (g+1) m)) u l->(u=v/\l=a)\/(u≠v/\lQ c H u l):=λu l hl=>EC S hl
 have I:∀b,l7 (c.set v (g+1) a) (H.set v (.row t (g+1) m)) b->(a.jG=false/\b=a.b)\/(l7 c H b/\¬(L.jG=false/\b=L.b)):=by
  rintro b ⟨u,l,hl,j,rfl⟩;rcases J u l hl with⟨_,rfl⟩|⟨F,h1⟩
  .exact .inl ⟨j,rfl⟩
  .exact .inr ⟨⟨u,l,h1,j,rfl⟩,λe=>F (h.inj u v l L h1 p j e.1 e.2)⟩
 have hs:Step H.length c H w (c.set v (g+1) a) (H.set v (.row t (g+1) m)) w':={
  os:=hg.1
  tape:=hg.2.1
  output:=hg.2.2.1
  size:=hg.2.2.2
  RT:=rfl
  Fm:=λ_ h=>h
  Fn:=λ_ h=>.inl h
  kept:=λb f X=>T b f λe=>X ⟨v,L,p,e.1,e.2.symm⟩
  old:=λu k l _ A=>aaR h S u k l A
  own:=λb f=>by
   rcases I b f with⟨j,rfl⟩|⟨f,_⟩
   .rcases(y j).1 with h1|⟨h1,O⟩
    .exact .inl h1
    .exact .inr ⟨v,L,p,h1,O.symm⟩
   .exact .inr f }
 have M:∀u d,fR c w u d->fR (c.set v (g+1) a) w' u d:=λu d B=>B.pJ h.toHeapOK hs
 refine⟨{
  inj:=λu r l s h1 O E C Y=>by
   rcases J u l h1 with⟨rfl,rfl⟩|⟨n1,P⟩<;>rcases J r s O with⟨rfl,rfl⟩|⟨n2,b2⟩
   .rfl
   .exfalso;have gE:=h.lt s.b ⟨r,s,b2,C,rfl⟩;rcases(y E).1 with n|⟨n,N⟩
    .omega
    .exact n2 (h.inj r u s L b2 p C n (by omega))
   .exfalso;have gE:=h.lt l.b ⟨u,l,P,E,rfl⟩;rcases(y C).1 with n|⟨n,N⟩
    .omega
    .exact n1 (h.inj u r l L P p E n (by omega))
   .exact h.inj u r l s P b2 E C Y
  lt:=λb f=>by
   rcases I b f with⟨j,rfl⟩|⟨f,_⟩
   .exact(y j).2
   .exact aN (h.lt b f) hg.2.2.2
  nF:=λb f x=>by
   rcases I b f with⟨j,rfl⟩|⟨f,_⟩
   .rcases(y j).1 with n|⟨n,N⟩
    .have:=h.kG _ x;omega
    .exact Q _ x ⟨n,N⟩
   .exact h.nF b f x
  kG:=λb f=>aN (h.kG b f) hg.2.2.2
  out:=λu k A=>by simp only[ar]at A;rw[Ctx.vQ _ _ (by rintro⟨rfl,_⟩;omega)];exact h.out u k A
  mn:=λu o k i q=>by
   rw[sj K]at i;split at i
   .rename_i e;cases i;subst e;rcases q with q|⟨_,q⟩
    .cases q
    .simp only[Ob.gen]at q;rw[Ctx.vQ _ _ (by rintro⟨_,rfl⟩;omega)];exact h.mn u _ k z (.inr ⟨rfl,by simp only[Ob.gen];omega⟩)
   .rename_i e;rw[Ctx.vQ _ _ (λh=>e h.1)];exact h.mn u o k i q
  ob:=λu o i=>by
   rw[sj K]at i;split at i
   .rename_i e;cases i;subst e;simp only[Ob.gen];rw[Ctx.sk];exact gW M
   .rename_i F;rw[Ctx.vQ _ _ (λh=>F h.1)];exact gV.keep (c:=c) (c':=c.set v (g+1) a) rfl M (λl hl R B=>T _ (h.lt _ ⟨u,l,⟨o,i,B,hl⟩,R,rfl⟩) λe=>F (h.inj u v l L ⟨o,i,B,hl⟩ p R e.1 e.2)) (h.ob u o i)
  gl:=λg' cs V=>by obtain⟨gG,W⟩:=h.gl g' cs V;exact⟨gG,M _ _ W⟩
  rt:=h.rt },hs⟩
theorem Sx{G:GT}{c:Ctx}{H:U}{w w':World}(h:gv G c H w){v g:Nat}{t:TypeId}{cs:List D}(o:H[v]? = some (.row t g cs)){L:Loc}(s:c.ι v g=some L)(a:Loc)(n:a.jG=false)
  (hg:(w'.os=w.os/\w.drawn<=w'.drawn)/\w'.tape=w.tape/\w'.output=w.output/\w.heap.size<=w'.heap.size) (y:∀b,b<w.heap.size->¬(L.jG=false/\b=L.b)->w'.heap[b]? = w.heap[b]?)
  (z:(w.heap.size<=a.b\/(L.jG=false/\a.b=L.b))/\a.b<w'.heap.size)
  (arr:Array Value) (l:w'.heap[a.b]? = some (.cells arr t (0,0))) (j:a.top=arr.size) (e:List D) (f:a.base+e.length<=a.top)
  (r:∀(i:Nat) (d:D),e[i]? = some d->∃u,arr[a.base+i]? = some u/\u.oneCell'=true/\fR c w u d) :
  gv G (c.set v (g+1) a) (H.set v (.row t (g+1) e)) w'/\Step H.length c H w (c.set v (g+1) a) (H.set v (.row t (g+1) e)) w':=by
 refine Ze h o s a hg y (λ_=>z) e λp=>?_;simp only[gV,n];refine⟨arr,l,j,f,λi d q=>?_⟩;obtain⟨x,k,m,A⟩:=r i d q;exact⟨x,k,m,p _ _ A⟩
theorem ac1{G:GT}{c:Ctx}{H:U}{w:World}(h:gv G c H w){v g:Nat}{t:TypeId}{cs:List D}(b:H[v]? = some (.row t g cs)){L:Loc}(d:c.ι v g=some L) :
  gv G (c.set v (g+1) L) (H.set v (.row t (g+1) [])) w/\Step H.length c H w (c.set v (g+1) L) (H.set v (.row t (g+1) [])) w:=by
 refine Ze h b d L ⟨⟨rfl,Nat.le_refl _⟩,rfl,rfl,Nat.le_refl _⟩ (λ_ _ _=>rfl) (λa=>⟨.inr ⟨a,rfl⟩,h.lt _ ⟨v,L,⟨_,b,rfl,d⟩,a,rfl⟩⟩) [] λ_=>?_;have h0:=h.ob v _ b;simp only[Ob.gen]at h0;rw[d]at h0;simp only[gV]at h0 ⊢;split
 .simp
 .rename_i a;simp only[a]at h0;obtain⟨arr,h1,e,f,_⟩:=h0;exact⟨arr,h1,e,by simp;omega,by simp⟩
theorem Oh{t u ty e:TypeId}{i:TypeInfo}{h:Value}(r:P.underlying t=some (.slice e))(g:∃j,P.underlying u=some (.slice j))(hi:P.info? e=some i)(p:i.zero=some h)
  (b:Option Addr) (a d:Nat) (y:Value) (m:Option Addr) (n l:Nat) (q:y = .slice m n l) (k c:List Value)
  (f:(Builtin.firstCells i.size a (.slice b a d)).run P w.drew = .ok k.toArray w.drew) (o:(Builtin.firstCells i.size n y).run P w.drew = .ok c.toArray w.drew)
  (hg:d<a+n) (A:a+n<=9223372036854775807) (v:(a+n)*i.bytes<=140737488355328) :
  (Builtin.append_ #[t,u] ty #[.slice b a d,y]).run P w = .ok (.slice (some ⟨w.heap.size,0,none⟩) (a+n) (grownCap w (a+n) d e))
    (w.drew.alloc (.cells (k.toArray++c.toArray++Builtin.zeroCells h.cells (grownCap w (a+n) d e-(a+n))) e)):=by
 subst q;obtain⟨j,g⟩:=g;have s:¬(a+n<=d):=by omega
 have x:¬(9223372036854775807<((a:Int)+(n:Int))):=by omega
 have z:¬(281474976710656<Builtin.nextslicecap (a+n) d*i.bytes):=by have:=growslice_fits hg v;omega
 simp[Builtin.append_,run_underlying r,run_underlying g,sizeOf,typeInfo,zeroValue,hi,p,Builtin.lenOf,s,x,z,Question.forced,newRow,grownCap,f,o];congr 2;apply Array.ext';simp[aJ]
theorem am3{t u ty e:TypeId}{i:TypeInfo}(q:P.underlying t=some (.slice e))(f:∃h,P.underlying u=some (.slice h))(hi:P.info? e=some i)
  (b o:Nat) (c d:Nat) (y:Value) (k:Option Addr) (n j:Nat) (p:y = .slice k n j) (a:List Value) (arr:Array Value) (hg:w.heap[b]? = some (.cells arr e (0,0)))
  (l:(Builtin.firstCells i.size n y).run P w = .ok a.toArray w) (h1:∀v∈a,v.oneCell'=true) (r:c+n<=d) (m:o+c*i.size+a.length<=arr.size) :
  (Builtin.append_ #[t,u] ty #[.slice (some ⟨b,o,none⟩) c d,y]).run P w = .ok (.slice (some ⟨b,o,none⟩) (c+n) d)
    (w.setRow b (arr.toList.take (o+c*i.size)++a++arr.toList.drop (o+c*i.size+a.length)).toArray):=by
 subst p;obtain⟨h,f⟩:=f;have g:=run_storeCells_at P b (o+c*i.size) e a 0 arr w hg (by simpa using m) h1;simp only[cz]at g;simp[Builtin.append_,run_underlying q,run_underlying f,sizeOf,typeInfo,hi,Builtin.lenOf,r,l,Addr.add_lit,g]
theorem MA{sz:Nat}{w':World}{a:Option Addr}{b n:Nat}{vs:List Value}(hl:vs.length=n*sz)(c:a=none->n=0)(d:∀ad,a=some ad->∀(j:Nat) (v:Value),vs[j]? = some v->w'.cell? (ad.add j)=some v) :
  (Builtin.firstCells sz n (.slice a n b)).run P w' = .ok vs.toArray w':=by
 cases a with
 | none=>
  have:=c rfl;subst this;have:vs = []:=aZ (by simpa using hl);subst this;exact run_firstCells_none w' sz 0 0 b
 | some ad=>exact run_firstCells_some w' sz n ad n b vs hl (d ad rfl)
theorem WB(w:World)(o:Obj):jZ w (w.drew.alloc o):=(jZ.drew w).trans (jZ.alloc _ _)
theorem alp(h:gv G c H w){al:Al}(ib:mW H al){t u ty e:TypeId}{i:TypeInfo}{z:List D}(R:P.underlying t=some (.slice e))(s:∃e',P.underlying u=some (.slice e'))(hi:P.info? e=some i)(hz:qx P e=some z)(x6:z.length=i.size)(kb:0<i.size)
  {x y:D} {ux A:Value} (h1:fR c w ux x) (h2:fR c w A y) (f:Fh e i.size i.bytes x y H al K):∃r w',(Builtin.append_ #[t,u] ty #[ux,A]).run P w = .ok r w'/\ja G c H w K r w':=by
 obtain⟨m,vB,Nw,tC⟩:=Af hz w;have DZ:i.zero=some m:=by simpa[hi]using Nw
 have vA:m.cells.size=i.size:=by have:=(tC c w).len;simp at this;omega
 unfold Fh at f;split at f
 .rename_i U n rD;obtain⟨Z,Y,vs,C,E,jK,X9,G5,G3⟩:=Tq h kb h2 rD;have Q:vs.length=n*i.size:=by rw[E.len,jK]
  have N:∀w',(∀b,w'.cell? b=w.cell? b)->(Builtin.firstCells i.size n A).run P w' = .ok vs.toArray w':=λw' qh=>by rw[C];exact MA Q G5 (λad ha j v k=>by rw[qh];exact G3 ad ha j v k)
  split at f
  .rename_i v g gM off len;split at f
   .rename_i t' cs gP;have p:=tQ gP;dsimp only at p;obtain⟨⟨rfl,X1,a3,M,X⟩,f⟩:=f;have e0:=X1.symm;subst e0;clear X1;have h9:v<H.length:=(ae.1 p).1
    cases h1 with
    | fM _ _ _ _ _ cap L S ic jV iR mo=>
     obtain⟨arr,A9,MX,W4,MY⟩:=yq h p S ic;have W:Cells c w (((((arr.toList.drop L.base).take cs.length)).drop (off*i.size)).take (len*i.size)) ((cs.drop (off*i.size)).take (len*i.size)):=(MY.drop _).take _;rw[bk]at mo a3;generalize off*i.size=q at *
     by_cases GR:len+n<=cap
     .have mR:L.base+q+len*i.size+vs.length<=arr.size:=by have hm:=br i.size GR;rw[bk]at hm;omega
      have l:=am3 (ty:=ty) R s hi L.b (L.base+q) len cap A Z n Y C vs arr A9 (N w λ_=>rfl) E.one GR mR;refine⟨_,_,l,?_⟩;have iA:(arr.toList.take (L.base+q+len*i.size)++vs++arr.toList.drop (L.base+q+len*i.size+vs.length)).toArray.size=arr.size:=by simp;omega
      obtain⟨m1,m2⟩:=Sx (w':=w.setRow L.b (arr.toList.take (L.base+q+len*i.size)++vs++arr.toList.drop (L.base+q+len*i.size+vs.length)).toArray) h p S ⟨L.b,L.base+q,L.top,false⟩ rfl
       ⟨⟨rfl,Nat.le_refl _⟩,rfl,rfl,by simp[World.setRow]⟩ (λb _ I=>by simp only[World.setRow,bf];rw[if_neg (λe=>I ⟨ic,e.symm⟩)])
       ⟨.inr ⟨ic,rfl⟩,by have:=h.lt _ ⟨v,L,⟨_,p,rfl,S⟩,ic,rfl⟩;simpa[World.setRow]using this⟩
       _ (setRow_heap w L.b arr _ _ _ A9) (by show L.top=_;rw[MX,iA]) ((cs.drop q).take (len*i.size)++U) (by simp only[aj,aK,aR];rw[<-E.len];omega) (λj d J=>by
        obtain⟨x,F,lh,kE⟩:=(W.append E).get J;refine⟨x,?_,lh,kE⟩;rw[<-F];simp only[dt];have jR:(List.take (L.base+q+len*i.size) arr.toList).length=L.base+q+len*i.size:=by simp;omega
        have jy:(List.take (len*i.size) (List.drop q (List.take cs.length (List.drop L.base arr.toList)))).length=len*i.size:=by simp;omega
        by_cases c1:j<len*i.size
        .rw[ah (by simp;omega),ah (by rw[jR];omega),ah (by rw[jy];omega)];simp only[aF,aI];rw[if_pos (by omega),if_pos (by omega),if_pos (by omega)];congr 1;omega
        .have ni:j<len*i.size+vs.length:=by have:=(ae.1 F).1;rw[aj,jy]at this;omega
         rw[ah (by rw[aj,jR];omega),ai (by rw[jR];omega),ai (by rw[jy];omega),jR,jy];congr 1
         omega)
      refine⟨_,_,_,f,m1,?_,m2⟩;have:=fR.fM (c:=c.set v (g+1) ⟨L.b,L.base+q,L.top,false⟩) (w:=w.setRow L.b (arr.toList.take (L.base+q+len*i.size)++vs++arr.toList.drop (L.base+q+len*i.size+vs.length)).toArray) v (g+1) i.size 0 (len+n) cap ⟨L.b,L.base+q,L.top,false⟩ (Ctx.sk _ _ _ _) rfl GR iR (by simp;omega);simpa using this
     .have a:(Builtin.firstCells i.size len (.slice (some ⟨L.b,L.base+q,none⟩) len cap)).run P w.drew = .ok ((((arr.toList.drop L.base).take cs.length).drop q).take (len*i.size)).toArray w.drew:=by
       refine run_firstCells_some _ _ _ _ _ _ _ (by rw[W.len];simp;omega) (λj v k=>?_);rw[aF]at k;split at k
       .rw[aI,aF]at k;split at k
        .rw[aI]at k;rw[Addr.add_lit];show w.cell? ⟨L.b,L.base+q+j,none⟩=some v;simp[World.cell?,A9];rw[a7];simpa using k
        .cases k
       .cases k
      have l:=Oh (ty:=ty) R s hi DZ (some ⟨L.b,L.base+q,none⟩) len cap A Z n Y C _ vs a (N _ λ_=>rfl) (by omega) X M;refine⟨_,_,l,?_⟩;have GZ:((((arr.toList.drop L.base).take cs.length).drop q).take (len*i.size)).toArray.size=len*i.size:=by have:=W.len;simp at this ⊢;omega
      have B:=grownCap_ge w (len+n) cap e;have O:=grownCap_le_maxLen w (len+n) cap e (by unfold maxLen;omega)
      obtain⟨m1,m2⟩:=Sx (w':=w.drew.alloc (.cells (((((arr.toList.drop L.base).take cs.length).drop q).take (len*i.size)).toArray++vs.toArray++Builtin.zeroCells m.cells (grownCap w (len+n) cap e-(len+n))) e)) h p S
       ⟨w.heap.size,0,grownCap w (len+n) cap e*i.size,false⟩ rfl ⟨⟨rfl,Nat.le_succ _⟩,rfl,rfl,by simp⟩ (λb V _=>(WB w _).kept b V) ⟨.inl (Nat.le_refl _),by simp⟩
       _ (heap_alloc_new w.drew _) (by
        simp only[cD,GZ,cY,Q,size_zeroCells,vA,<-bk]
        congr 1;omega) ((cs.drop q).take (len*i.size)++U) (by
        simp only[aj,aK,aR,jK,aQ];have:=br i.size B;rw[bk]at this
        omega) (λj d J=>by
        obtain⟨x,F,lh,kE⟩:=(W.append E).get J;refine⟨x,?_,lh,kE⟩;rw[<-F,aQ,<-bA];have gE:=(ae.1 F).1;simp only[da]
        rw[ah (by simpa using gE)])
      refine⟨_,_,_,f,m1,?_,m2⟩
      have:=fR.fM (c:=c.set v (g+1) ⟨w.heap.size,0,grownCap w (len+n) cap e*i.size,false⟩) (w:=w.drew.alloc (.cells (((((arr.toList.drop L.base).take cs.length).drop q).take (len*i.size)).toArray++vs.toArray++Builtin.zeroCells m.cells (grownCap w (len+n) cap e-(len+n))) e))
       v (g+1) i.size 0 (len+n) (grownCap w (len+n) cap e) ⟨w.heap.size,0,grownCap w (len+n) cap e*i.size,false⟩ (Ctx.sk _ _ _ _) rfl B O (by simp)
      simpa using this
    | mh _ _ _ _ L S ad=>
     simp only[aQ,cz,cQ,eM,bp]at f M X ⊢
     by_cases I:n=0
     .subst I;have RM:vs = []:=aZ (by simpa using Q);have d':U = []:=aZ (by simpa using jK);subst d'
      have l:(Builtin.append_ #[t,u] ty #[.slice ad 0 0,A]).run P w = .ok (.slice ad 0 0) w:=by obtain⟨e',s⟩:=s;have T:=N w λ_=>rfl;rw[RM]at T;rw[C]at T ⊢;simp[Builtin.append_,run_underlying R,run_underlying s,sizeOf,typeInfo,hi,Builtin.lenOf,T];cases ad<;>simp[storeCells]
      obtain⟨m1,m2⟩:=ac1 h p S;exact⟨_,_,l,_,_,_,f,m1,.mh v (g+1) i.size 0 L (Ctx.sk _ _ _ _) ad,m2⟩
     .have a:(Builtin.firstCells i.size 0 (.slice ad 0 0)).run P w.drew = .ok ([]:List Value).toArray w.drew:=MA (by simp) (λ_=>rfl) (λ_ _ j v k=>by simp at k);have l:=Oh (w:=w) (ty:=ty) R s hi DZ ad 0 0 A Z n Y C [] vs a (N _ λ_=>rfl) (by omega) (by omega) (by simpa using M);simp only[aQ]at l;refine⟨_,_,l,?_⟩;have B:=grownCap_ge w n 0 e;have O:=grownCap_le_maxLen w n 0 e (by unfold maxLen;omega)
      obtain⟨m1,m2⟩:=Sx (w':=w.drew.alloc (.cells (([]:List Value).toArray++vs.toArray++Builtin.zeroCells m.cells (grownCap w n 0 e-n)) e)) h p S
       ⟨w.heap.size,0,grownCap w n 0 e*i.size,false⟩ rfl ⟨⟨rfl,Nat.le_succ _⟩,rfl,rfl,by simp⟩ (λb V _=>(WB w _).kept b V) ⟨.inl (Nat.le_refl _),by simp⟩
       _ (heap_alloc_new w.drew _) (by
        simp only[cD,cY,cV,Q,size_zeroCells,vA,aQ,<-bk]
        congr 1;omega) U (by
        simp only[jK,aQ]
        exact br i.size B) (λj d J=>by
        obtain⟨x,F,lh,kE⟩:=E.get J;refine⟨x,?_,lh,kE⟩;rw[<-F,aQ,<-bA];have gE:=(ae.1 F).1;simp only[da,bp]
        rw[ah (by simpa using gE)])
      refine⟨_,_,_,f,m1,?_,m2⟩
      have:=fR.fM (c:=c.set v (g+1) ⟨w.heap.size,0,grownCap w n 0 e*i.size,false⟩) (w:=w.drew.alloc (.cells (([]:List Value).toArray++vs.toArray++Builtin.zeroCells m.cells (grownCap w n 0 e-n)) e))
       v (g+1) i.size 0 n (grownCap w n 0 e) ⟨w.heap.size,0,grownCap w n 0 e*i.size,false⟩ (Ctx.sk _ _ _ _) rfl B O (by simp)
      simpa using this
   .exact f.elim
  .rename_i us;obtain⟨⟨I,GZ,M,X⟩,f⟩:=f
   cases h1 with
   | lS ad _ iR lA hc=>
    have W:Cells c w us (us.map .val):=⟨by simp,λv p=>by
     obtain⟨i,hi⟩:=List.getElem?_of_mem p;obtain⟨_,_,_,_,_,h1⟩:=hc i v hi
     exact h1,λi v d p J=>by
     simp only[av,p,aG,aq]at J;subst J
     exact .val _⟩
    have a:(Builtin.firstCells i.size us.length (.slice ad us.length us.length)).run P w.drew = .ok us.toArray w.drew:=MA (by rw[GZ];simp) (λe=>by rw[lA e];rfl) (λb V j v k=>by
     obtain⟨b',o,ha,_,oy,_⟩:=hc j v k;rw[ha]at V;cases V;rw[Addr.add_lit]
     exact oy)
    have l:=Oh (w:=w) (ty:=ty) R s hi DZ ad us.length us.length A Z n Y C us vs a (N _ λ_=>rfl) (by omega) X M;refine⟨_,_,l,?_⟩;have B:=grownCap_ge w (us.length+n) us.length e;have O:=grownCap_le_maxLen w (us.length+n) us.length e (by unfold maxLen;omega)
    have iA:(us.toArray++vs.toArray++Builtin.zeroCells m.cells (grownCap w (us.length+n) us.length e-(us.length+n))).size=grownCap w (us.length+n) us.length e*i.size:=by simp only[cD,cY,Q,size_zeroCells,vA,GZ,eP];omega
    obtain⟨L,e1,e2,e3,e4,e5,e6⟩:=D9 h w.drew (jZ.drew w) e (us++vs) (us.map .val++U) (us++vs).length (us.toArray++vs.toArray++Builtin.zeroCells m.cells (grownCap w (us.length+n) us.length e-(us.length+n))) (ib _).tT (W.append E) (by
     simp only[da]
     exact List.take_left) (by simp only[cD,cY,aj];omega)
    have hp:=HM (c:=c) (w:=w.drew.alloc (.cells (us.toArray++vs.toArray++Builtin.zeroCells m.cells (grownCap w (us.length+n) us.length e-(us.length+n))) e)) e1 e3 al.1 0 i.size (us.length+n) (grownCap w (us.length+n) us.length e) (by rw[e4,iA]) B O;rw[e2]at hp;exact⟨_,_,_,f,e5,hp,e6⟩
  .cases h1 with
   | fX=>
    by_cases I:n=0
    .rw[if_pos I]at f;subst I;have RM:vs = []:=aZ (by simpa using Q)
     have l:(Builtin.append_ #[t,u] ty #[.slice none 0 0,A]).run P w = .ok (.slice none 0 0) w:=by obtain⟨e',s⟩:=s;have T:=N w λ_=>rfl;rw[RM]at T;rw[C]at T ⊢;simp[Builtin.append_,run_underlying R,run_underlying s,sizeOf,typeInfo,hi,Builtin.lenOf,T]
     exact⟨_,_,l,.plain h f .fX⟩
    .rw[if_neg I]at f;obtain⟨⟨M,X⟩,f⟩:=f;have a:(Builtin.firstCells i.size 0 (.slice none 0 0)).run P w.drew = .ok ([]:List Value).toArray w.drew:=MA (by simp) (λ_=>rfl) (λ_ _ j v k=>by simp at k);have l:=Oh (w:=w) (ty:=ty) R s hi DZ none 0 0 A Z n Y C [] vs a (N _ λ_=>rfl) (by omega) (by omega) (by simpa using M);simp only[aQ]at l;refine⟨_,_,l,?_⟩;have B:=grownCap_ge w n 0 e;have O:=grownCap_le_maxLen w n 0 e (by unfold maxLen;omega)
     have iA:(([]:List Value).toArray++vs.toArray++Builtin.zeroCells m.cells (grownCap w n 0 e-n)).size=grownCap w n 0 e*i.size:=by simp only[cD,cY,cV,Q,size_zeroCells,vA,aQ,<-bk];congr 1;omega
     obtain⟨L,e1,e2,e3,e4,e5,e6⟩:=D9 h w.drew (jZ.drew w) e vs U vs.length (([]:List Value).toArray++vs.toArray++Builtin.zeroCells m.cells (grownCap w n 0 e-n)) (ib _).tT E (by
      simp only[da,bp]
      exact List.take_left) (by simp only[cD,cY];omega)
     have hp:=HM (c:=c) (w:=w.drew.alloc (.cells (([]:List Value).toArray++vs.toArray++Builtin.zeroCells m.cells (grownCap w n 0 e-n)) e)) e1 e3 al.1 0 i.size n (grownCap w n 0 e) (by rw[e4,iA]) B O;rw[e2]at hp;exact⟨_,_,_,f,e5,hp,e6⟩
  .exact f.elim
 .exact f.elim
theorem alB(h:gv G c H w){t u ty e:TypeId}{sz:Nat}(N:P.underlying t=some (.slice e))(hs:kl P e=some sz)(kb:0<sz){x y:D}{S E:Value}(h1:fR c w S x)(h2:fR c w E y)(b:FM sz x y H K) :
  ∃r w',(Builtin.copy_ #[t,u] ty #[S,E]).run P w = .ok r w'/\ja G c H w K r w':=by
 have key:∀(f:List D) (n:Nat),kR sz H y=some (f,n)->∃vs A z,E = .slice A n z/\Cells c w vs f/\f.length=n*sz/\∀m,m<=n->(Builtin.firstCells sz m E).run P w = .ok (vs.take (m*sz)).toArray w:=by
  intro f n F;obtain⟨A,z,vs,p,l,I,X9,G5,G3⟩:=Tq h kb h2 F;refine⟨vs,A,z,p,l,I,λm s=>?_⟩;have i:vs.length=n*sz:=by rw[l.len,I]
  have O:=br sz s;rw[p]
  cases A with
  | none=>
   have:=G5 rfl;subst this;have:m=0:=by omega
   subst this;simp[Builtin.firstCells]
  | some ad=>
   refine run_firstCells_some w sz m ad n z _ (by simp;omega) (λj v J=>?_);rw[aF]at J;split at J
   .exact G3 ad rfl j v J
   .cases J
 unfold FM at b;split at b
 .rename_i v g a off len f n F;obtain⟨vs,A,z,p,l,I,M⟩:=key f n F;split at b
  .rename_i T cs gP;have o:=tQ gP;dsimp only at o;obtain⟨⟨rfl,Z⟩,b⟩:=b;have k:=M (min n len) (Nat.min_le_left _ _);have O:min n len*a<=vs.length:=by rw[l.len,I];exact br _ (Nat.min_le_left _ _)
   have a9:min n len*a<=len*a:=br _ (Nat.min_le_right _ _);rw[bk]at Z
   cases h1 with
   | fM _ _ _ _ _ cap L Q U jV iR mo=>
    obtain⟨arr,X,MX,W4,MY⟩:=yq h o Q U;have W:=run_storeCells_at P L.b (L.base+off*a) T (vs.take (min n len*a)) 0 arr w X (by simp;omega) (λv o=>l.one v (aS o));simp only[cz]at W
    have ik:(Builtin.copy_ #[t,u] ty #[.slice (some ⟨L.b,L.base+off*a,none⟩) len cap,E]).run P w = .ok (goInt (min n len:Nat)) (w.setRow L.b (arr.toList.take (L.base+off*a)++vs.take (min n len*a)++arr.toList.drop (L.base+off*a+(vs.take (min n len*a)).length)).toArray):=by rw[p]at k ⊢;have s:n.min len=min n len:=rfl;simp[Builtin.copy_,run_underlying N,Builtin.lenOf,qo hs,s,k,W]
    have i:(vs.take (min n len*a)).length=min n len*a:=by simp;omega
    have Xb:=MY.sq (l.take (min n len*a)) (off*a);have R:(f.take (min n len*a)).length=min n len*a:=by rw[aK,<-l.len];omega
    obtain⟨m1,m2⟩:=EH h o Q U X (arr.toList.take (L.base+off*a)++vs.take (min n len*a)++arr.toList.drop (L.base+off*a+(vs.take (min n len*a)).length)).toArray (by simp;omega) MX
     (cs.take (off*a)++f.take (min n len*a)++cs.drop (off*a+min n len*a)) (by simp only[aj,aK,aR];omega) (λj d V=>by
      rw[R,i]at Xb;obtain⟨x,hx,lh,kE⟩:=Xb.get V;refine⟨x,?_,lh,kE⟩;rw[<-hx];simp only[dt,i];have C:(List.take (L.base+off*a) arr.toList).length=L.base+off*a:=by simp;omega
      have B:(List.take (off*a) (List.take cs.length (List.drop L.base arr.toList))).length=off*a:=by simp;omega
      by_cases c1:j<off*a
      .rw[ah (by simp;omega),ah (by rw[C];omega),ah (by simp;omega),ah (by rw[B];omega)];simp only[aF,aI];rw[if_pos (by omega),if_pos c1,if_pos (by omega)]
      .by_cases c2:j<off*a+min n len*a
       .rw[ah (by rw[aj,C,i];omega),ai (by rw[C];omega),ah (by rw[aj,B,i];omega),ai (by rw[B];omega),C,B];congr 1;omega
       .have oa:j<cs.length:=by have:=(ae.1 V).1;simp at this;omega
        rw[ai (by rw[aj,C,i];omega),ai (by rw[aj,B,i];omega)];simp only[aI,aF,aj,C,B,i];rw[if_pos (by omega)];congr 1
        omega)
    exact⟨_,_,ik,_,_,c,b,m1,.val _,m2⟩
   | mh _ _ _ _ L Q ad=>
    have Gz:min n 0=0:=fJ n;simp only[Gz,cQ,eM,az,cz,bU]at b k
    have Y:H.set v (.row T g cs)=H:=by
     apply bT;intro j;rw[bS];have i:v<H.length:=(ae.1 o).1;split
     .rename_i e;subst e
      first|(rw[if_pos i];exact o.symm)|exact o.symm
     .rfl
    rw[Y]at b;refine⟨goInt 0,w,?_,.plain h b (.val _)⟩;rw[p]at k ⊢;have s:n.min 0=0:=fJ n;simp[Builtin.copy_,run_underlying N,Builtin.lenOf,qo hs,s,k];cases ad<;>simp[storeCells]
  .exact b.elim
 .rename_i q F;obtain⟨f,n⟩:=q;obtain⟨vs,A,z,p,l,I,M⟩:=key f n F
  cases h1 with
  | fX=>
   have k:=M 0 (Nat.zero_le _);refine⟨goInt 0,w,?_,.plain h b (.val _)⟩;rw[p]at k ⊢;have s:n.min 0=0:=fJ n;simp only[cQ,eM]at k;simp[Builtin.copy_,run_underlying N,Builtin.lenOf,qo hs,s,k]
 .exact b.elim

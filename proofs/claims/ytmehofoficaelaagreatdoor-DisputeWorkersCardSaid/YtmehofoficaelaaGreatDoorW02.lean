/- Part 2 of DisputeWorkers. -/
import Derived.Test.YtmehofoficaelaaGreatDoorW01
set_option linter.all false
namespace Go.AL
open Go
section
variable{P:Program}{G:GT}{c:Ctx}{H:U}{w:World}{K:jE}{env:gP}{a:Act}
theorem Iu{L:Loc}(a:L.jO=false)(h0:L.base=0)(v k sz len cap:Nat)(b:L.top=cap*sz)(e:len<=cap)(d:cap<=maxLen) :
  gh (c.set v k L) w (.slice (some ⟨L.b,0,none⟩) len cap) (.fY v k sz 0 len):=by
 have:=gh.fY (c:=c.set v k L) (w:=w) v k sz 0 len cap L (Ctx.sN _ _ _ _) a e d (by simp[h0,b]);simpa[h0]using this
theorem Ni(zs:List Value)(z:List D)(b:∀c w,Cells c w zs z)(n:Nat):Cells c w (List.replicate n zs).flatten (List.replicate n z).flatten:=by
 induction n with
 | zero=>exact Cells.nil
 | succ n a=>rw[bp,bp,a7,a7];exact(b c w).append a
theorem OL(zs:Array Value)(n:Nat)(h0:0<zs.size):((Array.range (n*zs.size)).map (λi=>zs[i % zs.size]!)).toList=(List.replicate n zs.toList).flatten:=by
 apply bI;intro i;simp only[Array.toList_map,Array.toList_range,au]
 by_cases hi:i<n*zs.size
 .rw[bN hi]
  have key:∀(n i:Nat),i<n*zs.size->(List.replicate n zs.toList).flatten[i]? = some (zs[i % zs.size]!):=by
   intro n
   induction n with
   | zero=>intro i hi;simp at hi
   | succ n a=>
    intro i hi;rw[bp,a7]
    by_cases hl:i<zs.size
    .rw[ah (by simpa using hl),ff hl];simp[hl]
    .rw[ai (by simpa using hl)];have:i-zs.size<n*zs.size:=by rw[bn]at hi;omega
     rw[show i-zs.toList.length=i-zs.size by simp,a _ this,<-Nat.mod_eq_sub_mod (by omega)]
  rw[key n i hi];rfl
 .simp_all
theorem amc(h:gE G c H w){al:Al}(V:nk H al)(he:kT c w env a){t e:TypeId}{sz n:Nat}{z:List D}{ops:Array (Nat×Operand)}{ps:List (Nat×X)}
  (Y:P.underlying t=some (.slice e)) (W:rG P e=some z) (hs:ky P e=some sz) (k:zo G ops.toList=some ps) (N:z.length=sz) (U:0<sz) (nc:n*sz<=16777216)
  (f:F0 env e sz z n ps al K):∃r w',(Instr.buildSlice t n (ops.map λ(i,x)=>(i,a.eval x))).run P w = .ok r w'/\jm G c H w K r w':=by
 unfold F0 at f;split at f
 .rename_i l hl;split at f
  .rename_i cs E;obtain⟨b,O,_,B⟩:=AJ W w;obtain⟨C,T⟩:=Mx h he ops.toList k;obtain⟨S,R⟩:=Tb hl;have Q:b.cells.size=sz:=by have:=(B c w).len;simp at this;omega
   have J:Cells c w ((Array.range (n*sz)).map (λi=>b.cells[i % b.cells.size]!)).toList (List.replicate n z).flatten:=by rw[<-Q,OL b.cells n (by omega)];exact Ni _ _ B n
   obtain⟨d,j,s⟩:=Nc (c:=c) (w:=w) (λi=>some (i*sz,sz)) (ops.toList.map λx=>(x.1,a.eval x.2)) l _ _ cs J (by simp[S,C]) (λi x q I Hy=>by
    simp only[au,aj]at I;obtain⟨y,F,rfl⟩:=I;have hi:i<ops.toList.length:=(ae.1 F).1;obtain⟨p,A⟩:=Nn C hi;obtain⟨e1,e2⟩:=T i y p F A;obtain⟨e4,e5,e6⟩:=R i (p.1*sz,sz,p.2) q (by simp[A]) Hy
    exact⟨by simp[e4,e5,e1],Dr e2 e6⟩) E
   have g:d.size=n*sz:=by
    have h1:=s.len
    have u:cs.length=(List.replicate n z).flatten.length:=by
     clear f s j h1 J
     have key:∀(ps:List (Nat×Nat×List D)) (cs rs:List D),lay ps cs=some rs->rs.length=cs.length:=by
      intro ps
      induction ps with
      | nil=>intro cs rs h;simp[lay]at h;subst h;rfl
      | cons p ps ih=>
       intro cs rs h;obtain⟨o,m,xs⟩:=p;simp only[lay]at h;split at h
       .grind
       .cases h
     exact key _ _ _ E
    rw[u]at h1;simp[N]at h1;exact h1
   obtain⟨L,h1,u,h3,h4,h5,h6⟩:=EE h w (kj.refl w) e d.toList cs d.size d (V _).uz s (by rw[<-db,dB]) (Nat.le_refl _);refine⟨.slice (some ⟨w.heap.size,0,none⟩) n n,w.alloc (.cells d e),?_,?_⟩
   .have v:¬n*sz>2 ^ 24:=by omega
    simp only[Instr.buildSlice,Sem.run_bind,run_underlying Y,Result.andThen_ok,rz hs,Sem.run_ite];rw[if_neg v];have M:(Array.map (λx=>(x.fst,a.eval x.snd)) ops).toList=ops.toList.map λx=>(x.1,a.eval x.2):=by simp
    by_cases h0:n*sz=0
    .have Z:n=0:=by rcases Nat.mul_eq_zero.1 h0 with h|h<;>omega
     subst Z;simp only[cQ]at j;simp only[cQ,if_true,Sem.run_pure,Result.andThen_ok,M];have e0:(Array.map (λx=>(#[]:Array Value)[x % (#[]:Array Value).size]!) (Array.range 0))=Array.map (λi=>b.cells[i % b.cells.size]!) (Array.range 0):=by simp
     rw[e0,j];simp[newRow]
    .rw[if_neg h0];simp only[Sem.run_bind,O,Result.andThen_ok,Sem.run_pure,M,j];simp[newRow]
   .have k:=Iu (c:=c) (w:=w.alloc (.cells d e)) h1 h3 al.1 0 sz n n (by rw[h4,g]) (Nat.le_refl _) (by
     have:n<=n*sz:=Nat.le_mul_of_pos_right n U
     unfold maxLen;omega)
    rw[u]at k;exact⟨_,_,_,f,h5,k,h6⟩
  .exact f.elim
 .grind
theorem anL{t:TypeId}{n:Nat}(hs:ky P t=some n){v:Value}(a:v.cells.size=n)(b o:Nat) :
  (Instr.storeAt t (.pointer (some ⟨b,o,none⟩)) v).run P w=(storeCells ⟨b,o,none⟩ v.cells.toList).run P w:=by
 simp[Instr.storeAt,Instr.sureAddr,storeVar,rz hs,a]
theorem Z1(h:gE G c H w){v g o:Nat}{t a:TypeId}{cs xs:List D}(l:H[v]? = some (.row a g cs)){u x:Value}(B:gh c w u (.ptr v g o)){n:Nat}(hs:ky P t=some n)
  (b:Cells c w x.cells.toList xs) (C:xs.length=n) (O:o+n<=cs.length) (E:K .any (H.set v (.row a g (cs.take o++xs++cs.drop (o+n))))) :
  ∃w',(Instr.storeAt t u x).run P w = .ok () w'/\jm G c H w K undef w':=by
 cases B with
 | ptr _ _ _ L q j=>
  obtain⟨arr,h1,M,Q,J⟩:=yQ h l q j;have f:x.cells.size=n:=by have:=b.len;simp at this;omega
  have p:=run_storeCells_at P L.b (L.base+o) a x.cells.toList 0 arr w h1 (by simp;omega) b.one;simp only[cy]at p
  have k:=Fc h l q j h1 (arr.toList.take (L.base+o)++x.cells.toList++arr.toList.drop (L.base+o+x.cells.toList.length)).toArray
   (by simp;omega) M (cs.take o++xs++cs.drop (o+n)) (by simp;omega) (λi d m=>by
    have r:=J.sP b o;rw[C]at r;obtain⟨y,A,I,F⟩:=r.get m;refine⟨y,?_,I,F⟩;rw[<-A];simp only[du];have e:x.cells.toList.length=n:=by simpa using f
    have z:(List.take (L.base+o) arr.toList).length=L.base+o:=by simp;omega
    have s:(List.take o (List.take cs.length (List.drop L.base arr.toList))).length=o:=by simp;omega
    by_cases R:i<o
    .grind
    .by_cases c2:i<o+n
     .grind
     .have N:i<cs.length:=by have:=(ae.1 m).1;simp at this;omega
      rw[ai (by simp;omega),ai (by simp;omega)];simp only[aG,aF,ak,z,s,e];rw[if_pos (by omega)];congr 1
      omega)
  exact⟨_,by rw[anL hs f];exact p,.any,_,c,E,k.1,.any _,k.2⟩
theorem amF(h:gE G c H w){t:TypeId}(hs:ky P t=some 1){p x:D}{u v:Value}(h1:gh c w u p)(d:gh c w v x)(a:I0 p x H K) :
  ∃w',(Instr.storeAt t u v).run P w = .ok () w'/\jm G c H w K undef w':=by
 unfold I0 at a;split at a
 .rename_i v0 k o;split at a
  .rename_i j cs f;obtain⟨g,i,a⟩:=a;have b:=uv f;dsimp only at b;refine Z1 h b h1 hs (Dr d (amI i)) rfl (by omega) ?_
   have e:cs.take o ++ [x]++cs.drop (o+1)=cs.set o x:=by rw[bY,if_pos g];simp
   rw[e];exact a
  .exact a.elim
 .grind
theorem amG(h:gE G c H w){t:TypeId}{n:Nat}(hs:ky P t=some n){p x:D}{u v:Value}(h1:gh c w u p)(e:gh c w v x)(a:I1 n p x H K) :
  ∃w',(Instr.storeAt t u v).run P w = .ok () w'/\jm G c H w K undef w':=by
 unfold I1 at a;split at a
 .rename_i v' j o xs g;split at a
  .rename_i i cs f;obtain⟨d,b,a⟩:=a;exact Z1 h (uv f) h1 hs (Dr e g) d b a
  .exact a.elim
 .grind
theorem aml(h:gE G c H w){t:TypeId}{f n:Nat}{fs:Array Field}{a:Field}(j:P.underlying t=some (.struct fs))(k:fs[f]? = some a)(hs:ky P a.type=some n)(s:0<n)
  {x:D} {u:Value} (h1:gh c w u x) (d:Gu a.offset x H K):∃r,(Instr.fieldAt t u f).run P w = .ok r w/\jm G c H w K r w:=by
 have e:∀b o,(Instr.fieldAt t (.pointer (some ⟨b,o,none⟩)) f).run P w = .ok (.pointer (some ⟨b,o+a.offset,none⟩)) w:=λb o=>by simp only[Instr.fieldAt,Sem.run_bind,run_underlying j,Result.andThen_ok,k];simp only[Instr.sureAddr,Sem.run_pure,Result.andThen_ok,fieldPlace,Sem.run_bind,rz hs,Sem.run_ite];rw[if_neg (by omega)];simp[Addr.add_lit]
 unfold Gu at d;split at d
 .rename_i v g o
  cases h1 with
  | ptr _ _ _ L q i=>
   refine⟨_,e _ _,.plain h d ?_⟩;have:=gh.ptr (c:=c) (w:=w) v g (o+a.offset) L q i;rwa [<-a8]at this
 .obtain⟨b,p,rfl,m,l⟩:=zp h1;exact⟨_,e _ _,.plain h d (Qu m (l.drop _))⟩
 .grind
theorem Z0(h:gE G c H w){t:TypeId}{n:Nat}{b:Bool}(f:pb P t=some b)(hs:ky P t=some n){vs:List Value}{cs:List D}(e:Cells c w vs cs){off:Nat}
  (a:Bj off n b (.agg cs) H K):∃r,(part t vs.toArray off).run P w = .ok r w/\jm G c H w K r w:=by
 simp only[Bj]at a
 cases b with
 | true=>
  simp only[if_true]at a;refine⟨.agg ((vs.drop off).take n).toArray,?_,.plain h a.2 ((e.drop off).take n).agg⟩;simp[part,CA f,rz hs,List.extract_toArray,List.take_drop]
 | false=>
  simp only[bC,if_false]at a;split at a
  .rename_i d j;obtain⟨v,g,_,i⟩:=e.get j;refine⟨v,?_,.plain h a i⟩;simp[part,CA f,g]
  .grind
theorem amk(h:gE G c H w){t:TypeId}{f n:Nat}{b:Bool}{fs:Array Field}{a:Field}(g:P.underlying t=some (.struct fs))(k:fs[f]? = some a)(l:pb P a.type=some b)(hs:ky P a.type=some n)
  {x:D} {u:Value} (h1:gh c w u x) (d:Bj a.offset n b x H K):∃r,(Instr.field t u f).run P w = .ok r w/\jm G c H w K r w:=by
 have e:∃cs,x = .agg cs:=by cases x<;>first|exact⟨_,rfl⟩|exact(show False from d).elim
 obtain⟨cs,rfl⟩:=e
 cases h1 with
 | agg vs _ hl h1 m=>
  obtain⟨r,i,j⟩:=Z0 h l hs ⟨hl,h1,m⟩ d;exact⟨r,by simp[Instr.field,run_underlying g,k,asAgg,i],j⟩
theorem amn(h:gE G c H w){t e:TypeId}{sz:Nat}(N:P.underlying t=some (.slice e))(hs:ky P e=some sz)(V:0<sz){x i:D}{u v:Value}(h1:gh c w u x)(y:gh c w v i)(a:HR sz x i H K) :
  ∃r,(Instr.indexAt t u v).run P w = .ok r w/\jm G c H w K r w:=by
 have q:∀(ad:Addr) (len cap:Nat) (k:IntKind) (n:Int),0<=n/\n<len->(Instr.indexAt t (.slice (some ad) len cap) (.int k n)).run P w = .ok (.pointer (some (ad.add (n.toNat*sz)))) w:=λad len cap k n f=>by simp only[Instr.indexAt,Sem.run_bind,asIntOf,Sem.run_pure,Result.andThen_ok,run_underlying N,rz hs,Sem.run_ite];rw[if_pos f]
 unfold HR at a;split at a
 .rename_i z es k n;obtain⟨rfl,f,a⟩:=a;cases y
  cases h1 with
  | sl ad len cap _ _ g E I C J B p O=>
   have hi:n.toNat<es.length:=by omega
   cases ad with
   | none=>have:=B rfl;omega
   | some ad=>
    refine⟨_,q ad len cap k n ⟨f.1,by omega⟩,.plain h a ?_⟩;have m:es[n.toNat]? = some es[n.toNat]:=by simp[hi]
    have A:es.getD n.toNat []=es[n.toNat]:=by simp[hi]
    rw[A];have hl:es[n.toNat].length=z:=J _ (bT hi);obtain⟨d0,F⟩:∃d0,es[n.toNat][0]? = some d0:=⟨es[n.toNat][0]'(by omega),by simp⟩;obtain⟨b,o,e,s,_,_⟩:=p n.toNat _ 0 d0 m F;cases e;rw[Addr.add_lit];refine .gu b (o+n.toNat*z) _ (g n.toNat) s (λj d l=>?_) (λj d l=>O _ _ j d m l);obtain⟨X,o',e,_,R,Q⟩:=p n.toNat _ j d m l;cases e;exact⟨by rw[a8];exact R,Q⟩
 .rename_i vs k n;obtain⟨rfl,f,a⟩:=a;cases y
  cases h1 with
  | l4 ad _ C B p=>
   have hi:n.toNat<vs.length:=by omega
   have m:vs[n.toNat]? = some vs[n.toNat]:=by simp[hi]
   have A:vs.getD n.toNat undef=vs[n.toNat]:=by simp[hi]
   obtain⟨b,o,e,s,T,h1⟩:=p _ _ m;subst e;refine⟨_,q _ vs.length vs.length k n f,.plain h a ?_⟩;rw[A,Addr.add_lit];refine .gu b (o+n.toNat*1) _ (λ_=>vs[n.toNat]) s (λj d l=>?_) (λj d l=>?_)
   .grind
   .have:j=0:=by have:=(ae.1 l).1;simp at this;exact this
    subst this;cases l;exact .val _
 .rename_i v0 W z off len k n;obtain⟨rfl,f,a⟩:=a;cases y
  cases h1 with
  | fY _ _ _ _ _ cap L S M I C U=>
   refine⟨_,q _ len cap k n f,.plain h a ?_⟩;rw[Addr.add_lit,a8,<-bn];exact .ptr _ _ _ L S M
  | mw=>omega
 .exact a.elim
end
end Go.AL
namespace Go.AL
open Go
section
variable{P:Program}{G:GT}{c:Ctx}{H:U}{w:World}{K:jE}{env:gP}{a:Act}
theorem amo(h:gE G c H w){t e:TypeId}{sz n:Nat}(l:P.underlying t=some (.array n e))(hs:ky P e=some sz){x i:D}{u v:Value}(h1:gh c w u x)(g:gh c w v i)(a:HS sz n x i H K) :
  ∃r,(Instr.indexAt t u v).run P w = .ok r w/\jm G c H w K r w:=by
 have f:∀(ad:Addr) (k:IntKind) (m:Int),0<=m/\m<n->(Instr.indexAt t (.pointer (some ad)) (.int k m)).run P w = .ok (.pointer (some (ad.add (m.toNat*sz)))) w:=λad k m d=>by simp only[Instr.indexAt,Sem.run_bind,asIntOf,Sem.run_pure,Result.andThen_ok,run_underlying l,rz hs,Sem.run_ite,Instr.sureAddr];rw[if_pos d]
 unfold HS at a;split at a
 .rename_i v0 z o k m;obtain⟨d,a⟩:=a;cases g
  cases h1 with
  | ptr _ _ _ L y j=>
   refine⟨_,f _ k m d,.plain h a ?_⟩;rw[Addr.add_lit,a8];exact .ptr _ _ _ L y j
 .rename_i cs k m;obtain⟨d,a⟩:=a;cases g;obtain⟨b,p,rfl,s,q⟩:=zp h1;refine⟨_,f _ k m d,.plain h a ?_⟩;rw[Addr.add_lit];exact Qu s (q.drop _)
 .exact a.elim
theorem amm(h:gE G c H w){t e:TypeId}{sz n:Nat}{b:Bool}(f:P.underlying t=some (.array n e))(hs:ky P e=some sz)(o:pb P e=some b){x i:D}{u v:Value}(h1:gh c w u x)(d:gh c w v i)(a:HU sz n b x i H K) :
  ∃r,(Instr.index t u v).run P w = .ok r w/\jm G c H w K r w:=by
 unfold HU at a;split at a
 .rename_i cs k m;obtain⟨l,a⟩:=a;cases d
  cases h1 with
  | agg vs _ hl h1 d=>
   obtain⟨r,g,j⟩:=Z0 (off:=m.toNat*sz) h o hs ⟨hl,h1,d⟩ a;refine⟨r,?_,j⟩;simp only[Instr.index,Sem.run_bind,asIntOf,Sem.run_pure,Result.andThen_ok,run_underlying f,Sem.run_ite];rw[if_pos l];simp[rz hs,g]
 .exact a.elim
theorem amp(h:gE G c H w){t:TypeId}(d:P.underlying t=some .string){x i:D}{u v:Value}(h1:gh c w u x)(f:gh c w v i)(a:HV x i H K) :
  ∃r,(Instr.index t u v).run P w = .ok r w/\jm G c H w K r w:=by
 unfold HV at a;split at a
 .rename_i s k m;obtain⟨e,a⟩:=a;cases h1;cases f;have b:m.toNat<s.size:=by omega
  have hl:s.data.toList.getD m.toNat 0=s[m.toNat]:=by have g:m.toNat<s.data.size:=b;show(s.data.toList[m.toNat]?).getD 0=s.data[m.toNat];rw[bF,cd g];rfl
  rw[hl]at a;refine⟨_,?_,.val h a⟩;simp only[Instr.index,Sem.run_bind,asIntOf,Sem.run_pure,Result.andThen_ok,run_underlying d];rw[if_pos e.1];simp[b]
 .exact a.elim
theorem amj(h:gE G c H w){x:D}{i:Nat}{u:Value}(h1:gh c w u x)(a:Gp x i H K):∃r,(Instr.extract u i).run P w = .ok r w/\jm G c H w K r w:=by
 unfold Gp at a;split at a
 .split at a
  .rename_i ds d b
   cases h1 with
   | tup vs _ hl h1=>
    have hi:i<vs.length:=by rw[hl];exact(ae.1 b).1
    refine⟨vs[i],?_,.plain h a (h1 i _ d (by simp[hi]) b)⟩;simp[Instr.extract,hi]
  .exact a.elim
 .exact a.elim
theorem amu(h:gE G c H w)(j:kT c w env a){f:Fn}{first cap:Array Operand}{b d:List X}(h1:xU G first.toList=some b)(m:xU G cap.toList=some d)
  (k:K (.fn f (b.map (ev env)) (d.map (ev env))) H):jm G c H w K (.func f (first.map a.eval) (cap.map a.eval)) w:=by
 have i:=A1 h j first.toList h1
 have g:=A1 h j cap.toList m;refine .plain h k ?_;have:=gh.fn (c:=c) (w:=w) f (first.toList.map a.eval) (cap.toList.map a.eval) (b.map (ev env)) (d.map (ev env)) i.length g.length i.get g.get;have e:∀l:Array Operand,(l.toList.map a.eval).toArray=l.map a.eval:=λl=>by cases l;simp
 rwa [e,e]at this
theorem amv(h:gE G c H w){al:Al}(e:nk H al)(t:TypeId)(kk:KK)(f:K (.gD al.1) (al.2 (.map kk []))):∃r w',(Instr.makeMap t none).run P w = .ok r w'/\jm G c H w K r w':=by
 have a:=kj.alloc w (.map #[] 0);have d:(⟨w.heap.size,0,0,false⟩:Loc).jO=false->w.heap.size<=(⟨w.heap.size,0,0,false⟩:Loc).b/\(⟨w.heap.size,0,0,false⟩:Loc).b<(w.alloc (.map #[] 0)).heap.size:=λ_=>⟨Nat.le_refl _,by simp⟩;have b:=(e (.map kk [])).uz;have hs:=Ph h b a ⟨w.heap.size,0,0,false⟩ d;refine⟨.map (some w.heap.size),w.alloc (.map #[] 0),by simp[Instr.makeMap],_,_,_,f,TR h b a _ d rfl ?_,?_,hs⟩
 .simp only[ia];exact⟨trivial,by simp,#[],0,heap_alloc_new _ _,⟨rfl,by simp,by simp⟩⟩
 .exact .gD (c:=c.set al.1 0 ⟨w.heap.size,0,0,false⟩) al.1 ⟨w.heap.size,0,0,false⟩ (Ctx.sN _ _ _ _) rfl
theorem amw(h:gE G c H w){al:Al}(x:nk H al){t e:TypeId}{i:TypeInfo}{z:List D}(A:P.underlying t=some (.slice e))(hi:P.info? e=some i)(y:rG P e=some z)(U:z.length=i.size)(W:0<i.size)
  {l m:D} {u v:Value} (h1:gh c w u l) (C:gh c w v m) (b:Ij e i.size i.bytes z l m al K):∃r w',(Instr.makeSlice t u v).run P w = .ok r w'/\jm G c H w K r w':=by
 unfold Ij at b;split at b
 .rename_i k n X q;obtain⟨⟨V,B,Y,Z⟩,b⟩:=b;cases h1;cases C;obtain⟨a,o,_,d⟩:=AJ y w;have p:a.cells.size=i.size:=by have:=(d c w).len;simp at this;omega
  have wn:IntKind.i64.wrap n=n:=wrap_i64 (by unfold oq;omega);have g:IntKind.i64.wrap q=q:=wrap_i64 (by unfold oq;omega)
  have s:Cells c w ((Array.range (q.toNat*i.size)).map (λj=>a.cells[j % a.cells.size]!)).toList (List.replicate q.toNat z).flatten:=by rw[<-p,OL a.cells q.toNat (by omega)];exact Ni _ _ d _
  obtain⟨L,O,N,M,J,I,F⟩:=EE h w (kj.refl w) e _ _ ((Array.range (q.toNat*i.size)).map (λj=>a.cells[j % a.cells.size]!)).size ((Array.range (q.toNat*i.size)).map (λj=>a.cells[j % a.cells.size]!)) (x _).uz s (by rw[<-db,dB]) (Nat.le_refl _);refine⟨.slice (some ⟨w.heap.size,0,none⟩) n.toNat q.toNat,w.alloc (.cells ((Array.range (q.toNat*i.size)).map (λj=>a.cells[j % a.cells.size]!)) e),?_,?_⟩
  .have S:¬((i.bytes:Int)*q>2 ^ 48):=by omega
   have c2:¬q<0:=by omega
   have R:¬n<0:=by omega
   have Q:¬n>q:=by omega
   simp only[Instr.makeSlice,Sem.run_bind,run_underlying A,Result.andThen_ok,asInt,asIntOf,Sem.run_pure,run_typeInfo hi,wn,g,Sem.run_ite];rw[if_neg (by simp[S,c2,R,Q];omega)]
   by_cases h0:q.toNat*i.size=0
   .have T:q.toNat=0:=by rcases Nat.mul_eq_zero.1 h0 with h|h<;>omega
    have E:Array.range 0=(#[]:Array Nat):=rfl;simp[sizeOf,run_typeInfo hi,T,newRow,E]
   .simp[sizeOf,run_typeInfo hi,h0,o,newRow]
  .have f:=Iu (c:=c) (w:=w.alloc (.cells ((Array.range (q.toNat*i.size)).map (λj=>a.cells[j % a.cells.size]!)) e)) O M al.1 0 i.size n.toNat q.toNat (by rw[J];simp) (by omega) (by unfold maxLen;omega);rw[N]at f;exact⟨_,_,_,b,I,f,F⟩
 .exact b.elim
end
end Go.AL
namespace Go.AL
open Go
section
variable{P:Program}{G:GT}{c:Ctx}{H:U}{w:World}{K:jE}{env:gP}{a:Act}
theorem Ng{α:Type}(sz:Nat)(c:0<sz):∀(ls:List (List α)),(∀l∈ls,l.length=sz)->∀j:Nat,ls.flatten[j]? = (ls[j / sz]?).bind (·[j % sz]?)
 | [],_,j=>by simp
 | l::ls,h,j=>by
  have hl:l.length=sz:=h l (by simp);rw[a7]
  by_cases d:j<sz
  .rw[ah (by omega),Nat.div_eq_of_lt d,ff d];simp
  .rw[ai (by omega),hl,Ng sz c ls (λl hl=>h l (by simp[hl])),Nat.div_eq_sub_div (a:=j) (b:=sz) c (by omega),Nat.mod_eq_sub_mod (a:=j) (b:=sz) (by omega)];simp
theorem Nh{α:Type}(sz:Nat):∀(ls:List (List α)),(∀l∈ls,l.length=sz)->ls.flatten.length=ls.length*sz
 | [],_=>by simp
 | l::ls,h=>by rw[a7,ak,Nh sz ls (λl hl=>h l (by simp[hl])),h l (by simp),aJ,bn];omega
theorem TM(h:gE G c H w){sz:Nat}(R:0<sz){d:D}{u:Value}(p:gh c w u d){x:List D}{n:Nat}(f:kS sz H d=some (x,n)) :
  ∃y E vs,u = .slice y n E/\Cells c w vs x/\x.length=n*sz/\n<=E/\(y=none->n=0)/\(∀ad,y=some ad->∀(j:Nat) (v:Value),vs[j]? = some v->w.cell? (ad.add j)=some v):=by
 unfold kS at f;split at f
 .rename_i k es;split at f
  .rename_i e;subst e;cases f
   cases p with
   | sl ad len cap _ _ g q I K M A r p=>
    have Z:=Nh k es M
    have J:∀(j:Nat) (d:D),es.flatten[j]? = some d->∃e,es[j / k]? = some e/\e[j % k]? = some d:=λj d l=>by
     rw[Ng k R es M]at l
     cases N:es[j / k]? with
     | none=>simp[N]at l
     | some e=>exact⟨e,rfl,by simpa[N]using l⟩
    refine⟨ad,cap,(List.range es.flatten.length).map λj=>g (j / k) (j % k),by rw[q],⟨by simp,λv a=>?_,λi v d a l=>?_⟩,Z,by omega,λe=>by have:=A e;omega,λb m j v a=>?_⟩
    .simp only[ar,bj]at a;obtain⟨j,s,rfl⟩:=a;obtain⟨e,C,z⟩:=J j _ (by rw[List.getElem?_eq_getElem s]);obtain⟨_,_,_,_,_,h1⟩:=r _ e _ _ C z;exact h1
    .grind
    .have s:j<es.flatten.length:=by have:=(ae.1 a).1;simpa using this
     simp only[au,bN s,aH,aq]at a;subst a;obtain⟨e,C,z⟩:=J j _ (by rw[List.getElem?_eq_getElem s]);obtain⟨Y,o,F,_,O,_⟩:=r _ e _ _ C z;rw[m]at F;cases F;rw[Addr.add_lit];have B:=O;rw[Nat.div_add_mod' j k]at B;exact B
  .cases f
 .cases f
  cases p with
  | gg=>exact⟨none,0,[],rfl,Cells.nil,by simp,Nat.le_refl _,λ_=>rfl,λ_ _ j v a=>by simp at a⟩
 .rename_i vs;split at f
  .rename_i X;subst X;cases f
   cases p with
   | l4 ad _ K A r=>
    refine⟨ad,vs.length,vs,rfl,⟨by simp,λv a=>?_,λi v d a l=>?_⟩,by simp,Nat.le_refl _,λe=>by rw[A e];rfl,λb m j v a=>?_⟩
    .obtain⟨i,hi⟩:=List.getElem?_of_mem a;obtain⟨_,_,_,_,_,h1⟩:=r i v hi;exact h1
    .simp only[au,a,aH,aq]at l;subst l;exact .val _
    .obtain⟨Y,o,U,_,Q,_⟩:=r j v a;rw[U]at m;cases m;rw[Addr.add_lit];exact Q
  .cases f
 .rename_i v0 g0 k off len;split at f
  .rename_i t cs W;split at f
   .rename_i S;obtain⟨rfl,nc⟩:=S;cases f;have a:=uv W;dsimp only at a
    cases p with
    | fY _ _ _ _ _ cap L P T I K mG=>
     obtain⟨arr,h1,O,B,V⟩:=yQ h a P T;refine⟨_,cap,_,rfl,((V.drop (off*k)).take (n*k)),?_,I,(λe=>nomatch e),λad m j v a=>?_⟩
     .grind
     .cases m;rw[Addr.add_lit];rw[aF]at a;split at a
      .rw[aG,aF]at a;split at a
       .rw[aG]at a;simp[World.cell?,h1];rw[a8];simpa using a
       .cases a
      .cases a
    | mw _ _ _ _ L P ad=>
     refine⟨ad,0,[],rfl,?_,by simp,Nat.le_refl _,λ_=>rfl,λ_ _ j v a=>by simp at a⟩;simp only[cQ,eR];exact Cells.nil
   .cases f
  .cases f
 .cases f
theorem U4:∀ {vs:List Value} {a:List D} {b:List Int},vs.length=a.length->(∀(i:Nat) (v:Value) (d:D),vs[i]? = some v->a[i]? = some d->gh c w v d)->bytesOf a=some b->vs=b.map (Value.int .u8)
 | [],[],b,_,_,h=>by cases h;rfl
 | v::vs,y::a,b,hl,hr,h=>by
  unfold bytesOf at h;split at h
  .grind
  .rename_i n r f;cases f;split at h
   .rename_i l g;cases h;have h0:=hr 0 v _ rfl rfl;cases h0;have e:=U4 (vs:=vs) (by simpa using hl) (λi v d j k=>hr (i+1) v d (by simpa using j) (by simpa using k)) g;rw[e];rfl
   .cases h
  .cases h
theorem al8(h:gE G c H w){s d e:TypeId}(hs:P.underlying s=some (.slice e))(p:P.underlying e=some (.int .u8))(q:P.underlying d=some .string){x:D}{u:Value}(h1:gh c w u x)(a:FV x H K) :
  ∃r,(convert s d u).run P w = .ok r w/\jm G c H w K r w:=by
 unfold FV at a;split at a
 .rename_i z n l;obtain⟨j,i,vs,m,b,k,A,v,y⟩:=TM h (by omega) h1 l;subst m;split at a
  .rename_i f t;have g:=U4 b.len b.rep t;refine⟨_,?_,.val h a⟩;rw[run_convert_bytes_string w s d e j n i hs p q]
   cases j with
   | none=>
    have o:=v rfl;subst o
    have:f = []:=by
     have:vs = []:=aU (by rw[b.len,k]);rw[this]at g
     cases f with
     | nil=>rfl
     | cons=>cases g
    subst this;simp[Conv.bytesToString]
   | some ad=>
    refine run_bytesToString w ad n i f ?_;have hl:vs.length=n:=by rw[b.len,k];simp
    have:=run_loadCells_list (P:=P) w ad vs (y ad rfl);rw[hl]at this;rw[this,g]
  .exact a.elim
 .grind
theorem ab7(h:gE G c H w)(i:kT c w env a){x:Option Operand}{X:Option X}(e:su G x=some X){d:Int}{n:Int}(b:ig env X d=some n) :
  (x=none/\n=d)\/∃k o,x=some o/\a.eval o = .int k n:=by
 cases x with
 | none=>cases e;simp[ig]at b;exact .inl ⟨rfl,b.symm⟩
 | some o=>
  simp only[su,aj]at e;obtain⟨j,hX,rfl⟩:=e;have:=iM h i hX;simp only[ig]at b;split at b
  .rename_i k m f;cases b;rw[f]at this;generalize g:a.eval o=v at this;cases this;exact .inr ⟨k,o,rfl,g⟩
  .cases b
theorem OZ(a:Bool)(len cap:Nat)(lo hi:Option Value)(l h:Int)(d:(lo=none/\l=0)\/∃k,lo=some (.int k l))(e:(hi=none/\h=len)\/∃k,hi=some (.int k h))
  (h0:0<=l) (h1:l<=h) (c:h<=cap):(Instr.sliceBounds a len cap lo hi none).run P w = .ok (l.toNat,h.toNat,cap) w:=by
 have f:(h.toNat:Int)=h:=b7 (by omega);rcases d with⟨rfl,rfl⟩|⟨k,rfl⟩<;>rcases e with⟨rfl,rfl⟩|⟨b,rfl⟩
 .simp[Instr.sliceBounds]
 .simp[Instr.sliceBounds,run_sliceBound w b h cap _ (by omega) c]
 .simp[Instr.sliceBounds,run_sliceBound w k l len _ h0 h1]
 .simp[Instr.sliceBounds,run_sliceBound w b h cap _ (by omega) c,run_sliceBound w k l h.toNat _ h0 (by omega)]
theorem vg(h:gE G c H w)(e:kT c w env a){x:Option Operand}{X:Option X}(b:su G x=some X){d:Int}{n:Int}(f:ig env X d=some n) :
  (x.map a.eval=none/\n=d)\/∃k,x.map a.eval=some (.int k n):=by
 rcases ab7 h e b f with⟨rfl,rfl⟩|⟨k,o,rfl,g⟩
 .grind
 .grind
theorem amD(h:gE G c H w)(E:kT c w env a){t e:TypeId}{sz:Nat}(U:P.underlying t=some (.slice e))(hs:ky P e=some sz){lo hi:Option Operand}{L M:Option X}(hl:su G lo=some L)(W:su G hi=some M)
  {x:D} {u:Value} (h1:gh c w u x) (f:IW env sz x L M H K):∃r,(Instr.sliceAt t u (lo.map a.eval) (hi.map a.eval) none).run P w = .ok r w/\jm G c H w K r w:=by
 have y:∀(b:Option Addr) (len cap:Nat) (l m:Int),ig env L 0=some l->ig env M len=some m->0<=l->l<=m->m<=cap ->
   (Instr.sliceAt t (.slice b len cap) (lo.map a.eval) (hi.map a.eval) none).run P w = .ok (.slice (if cap=l.toNat then b else b.map (·.add (l.toNat*sz))) (m.toNat-l.toNat) (cap-l.toNat)) w:=by
  intro b len cap l m n k h0 p RE;have hb:=OZ (P:=P) (w:=w) true len cap (lo.map a.eval) (hi.map a.eval) l m (vg h E hl n) (vg h E W k) h0 p RE;simp only[Instr.sliceAt,Sem.run_bind,run_underlying U,Result.andThen_ok,Instr.slice,hb,rz hs,Sem.run_pure]
 unfold IW at f;split at f
 .rename_i q es;split at f
  .rename_i l m n k;obtain⟨rfl,⟨h0,p,J⟩,f⟩:=f
   cases h1 with
   | sl ad len cap _ _ g s O R S lJ Z hr=>
    refine⟨_,y ad len cap l m n (by rw[<-s];exact k) h0 p (by omega),.plain h f ?_⟩;have Q:∀(i:Nat) (e:List D),((es.drop l.toNat).take (m.toNat-l.toNat))[i]? = some e->es[l.toNat+i]? = some e/\i<m.toNat-l.toNat:=λi e hi=>by grind
    refine .sl _ _ _ q _ (λi j=>g (l.toNat+i) j) (by simp;omega) (by omega) (by omega) (λe I=>S e (bw (aW I))) ?_ ?_ ?_
    .intro V;split at V
     .omega
     .simp_all
    .intro i e j d hi Y;obtain⟨h3,h4⟩:=Q i e hi;obtain⟨b,o,F,hF,oS,h1⟩:=Z _ e j d h3 Y;refine⟨b,o+l.toNat*q,?_,hF,?_,h1⟩
     .rw[if_neg (by omega),F];simp[Addr.add_lit]
     .grind
    .grind
  .exact f.elim
 .rename_i v B q off len;split at f
  .rename_i l m n k;obtain⟨rfl,⟨h0,p,J⟩,f⟩:=f
   cases h1 with
   | fY _ _ _ _ _ cap A z T O R N=>
    refine⟨_,y _ len cap l m n k h0 p (by omega),.plain h f ?_⟩
    by_cases C:cap=l.toNat
    .rw[if_pos C,show m.toNat-l.toNat=0 by omega,show cap-l.toNat=0 by omega];exact .mw v B q (off+l.toNat) A z _
    .rw[if_neg C];have:=gh.fY (c:=c) (w:=w) v B q (off+l.toNat) (m.toNat-l.toNat) (cap-l.toNat) A z T (by omega) (by omega) (by rw[show off+l.toNat+(cap-l.toNat)=off+cap by omega];exact N);simp only[aH,Addr.add_lit];rw[a8,<-bn];exact this
   | mw _ _ _ _ A z ad=>
    have:l=0:=by omega
    subst this;have:m=0:=by omega
    subst this;refine⟨_,y ad 0 0 0 0 n k h0 p (by omega),.plain h f ?_⟩;simp only[eT,if_true,fg,cy];exact .mw v B q off A z ad
  .exact f.elim
 .split at f
  .rename_i l m n k;obtain⟨⟨rfl,rfl⟩,f⟩:=f
   cases h1 with
   | gg=>
    refine⟨_,y none 0 0 0 0 n k (by omega) (by omega) (by omega),.plain h f ?_⟩;simp only[eT,if_true,fg];exact .gg
  .exact f.elim
 .grind
theorem anK(a:Bool)(len cap:Nat)(lo:Option Value)(k b:IntKind)(l h m:Int)(d:(lo=none/\l=0)\/∃k,lo=some (.int k l))
  (h0:0<=l) (h1:l<=h) (e:h<=m) (c:m<=cap):(Instr.sliceBounds a len cap lo (some (.int k h)) (some (.int b m))).run P w = .ok (l.toNat,h.toNat,m.toNat) w:=by
 have em:(m.toNat:Int)=m:=b7 (by omega);rcases d with⟨rfl,rfl⟩|⟨k0,rfl⟩
 .simp[Instr.sliceBounds,run_sliceBound w b m cap _ (by omega) c,run_sliceBound w k h m.toNat _ (by omega) (by omega)]
 .simp[Instr.sliceBounds,run_sliceBound w b m cap _ (by omega) c,run_sliceBound w k h m.toNat _ (by omega) (by omega),run_sliceBound w k0 l h.toNat _ h0 (by omega)]
theorem abh:∀ {es:List (List D)} {vs:List Value},Fa es=some vs->es=vs.map (λv=>[.val v])/\∀v∈vs,v.oneCell'=true
 | [],vs,h=>by cases h;exact⟨rfl,by simp⟩
 | e::es,vs,h=>by
  unfold Fa at h;split at h
  .grind
  .rename_i v r a;cases a;split at h
   .rename_i h1;split at h
    .rename_i l hl;cases h;obtain⟨b,d⟩:=abh hl;exact⟨by rw[b];rfl,λv c=>by grind⟩
    .cases h
   .cases h
  .cases h
theorem acC{ad:Option Addr}{len sz:Nat}{es:List (List D)}(h1:gh c w (.slice ad len len) (.sl sz es)):gh c w (.slice ad len len) (clip sz es):=by
 unfold clip;split
 .rename_i vs h;split
  .rename_i t;subst t;obtain⟨s,z⟩:=abh h;subst s
   cases h1 with
   | sl _ _ _ _ _ g a x j y f n l=>
    simp only[List.length_map]at a;subst a;refine .l4 ad vs j (λe=>ay.1 (f e)) λi v k=>?_;have hi:(vs.map λv=>[D.val v])[i]? = some [.val v]:=by simp[k]
    obtain⟨b,o,p,q,d,h1⟩:=n i _ 0 _ hi rfl;have hg:=l i _ 0 _ hi rfl
    have r:g i 0=v:=by generalize m:g i 0=u at hg;cases hg;rfl
    rw[r]at d h1;exact⟨b,o,p,q,by simpa using d,h1⟩
  .exact h1
 .exact h1
theorem amB(h:gE G c H w)(I:kT c w env a){t e:TypeId}{sz:Nat}(hu:P.underlying t=some (.slice e))(hs:ky P e=some sz){lo:Option Operand}{hi mx:Operand}{L:Option X}{M N:X}(hl:su G lo=some L)(hm:cX G hi=some M)(C:cX G mx=some N)
  {x:D} {u:Value} (h1:gh c w u x) (n:IU env sz x L M N H K):∃r,(Instr.sliceAt t u (lo.map a.eval) (some (a.eval hi)) (some (a.eval mx))).run P w = .ok r w/\jm G c H w K r w:=by
 have B:∀(b:Option Addr) (len cap:Nat) (l f m:Int),ig env L 0=some l->ig env (some M) 0=some f->ig env (some N) 0=some m->0<=l->l<=f->f<=m->m<=cap ->
   (Instr.sliceAt t (.slice b len cap) (lo.map a.eval) (some (a.eval hi)) (some (a.eval mx))).run P w = .ok (.slice (if m.toNat=l.toNat then b else b.map (·.add (l.toNat*sz))) (f.toNat-l.toNat) (m.toNat-l.toNat)) w:=by
  intro b len cap l f m s p z h0 q A RE
  obtain⟨k1,U⟩:∃k,a.eval hi = .int k f:=by
   rcases vg h I (x:=some hi) (X:=some M) (by simp only[su,hm,aH]) p with⟨e,_⟩|⟨k,e⟩
   .cases e
   .grind
  obtain⟨k2,V⟩:∃k,a.eval mx = .int k m:=by
   rcases vg h I (x:=some mx) (X:=some N) (by simp only[su,C,aH]) z with⟨e,_⟩|⟨k,e⟩
   .cases e
   .grind
  have hb:=anK (P:=P) (w:=w) true len cap (lo.map a.eval) k1 k2 l f m (vg h I hl s) h0 q A RE;simp only[Instr.sliceAt,Sem.run_bind,run_underlying hu,Result.andThen_ok,Instr.slice,U,V,hb,rz hs,Sem.run_pure]
 unfold IU at n;split at n
 .rename_i l f m s p z;split at n
  .rename_i y es;obtain⟨rfl,⟨h0,q,rfl,T⟩,n⟩:=n
   cases h1 with
   | sl ad len cap _ _ g Q Z jb iA Y hc hr=>
    refine⟨_,B ad len cap l f f s p z h0 q (dX _) (by omega),.plain h n (acC ?_)⟩;have jz:∀(i:Nat) (e:List D),((es.drop l.toNat).take (f.toNat-l.toNat))[i]? = some e->es[l.toNat+i]? = some e/\i<f.toNat-l.toNat:=λi e hi=>by grind
    refine .sl _ _ _ y _ (λi j=>g (l.toNat+i) j) (by simp;omega) (by omega) (by omega) (λe S=>iA e (bw (aW S))) ?_ ?_ ?_
    .intro C;split at C
     .omega
     .cases ad with
      | none=>have:=Y rfl;omega
      | some ad=>simp at C
    .intro i e j d hi hd;obtain⟨h3,h4⟩:=jz i e hi;obtain⟨b,o,R,hF,oS,h1⟩:=hc _ e j d h3 hd;refine⟨b,o+l.toNat*y,?_,hF,?_,h1⟩
     .rw[if_neg (by omega),R];simp[Addr.add_lit]
     .grind
    .grind
  .rename_i v J y off len;obtain⟨rfl,⟨h0,q,A,T⟩,n⟩:=n
   cases h1 with
   | fY _ _ _ _ _ cap F E hv Z jb W=>
    refine⟨_,B _ len cap l f m s p z h0 q A (by omega),.plain h n ?_⟩
    by_cases O:m.toNat=l.toNat
    .rw[if_pos O,show f.toNat-l.toNat=0 by omega,show m.toNat-l.toNat=0 by omega];exact .mw v J y (off+l.toNat) F E _
    .rw[if_neg O]
     have:=gh.fY (c:=c) (w:=w) v J y (off+l.toNat) (f.toNat-l.toNat) (m.toNat-l.toNat) F E hv (by omega) (by omega) (by
      refine Nat.le_trans (Nat.add_le_add_left (bz _ ?_) _) W
      omega)
     simp only[aH,Addr.add_lit];rw[a8,<-bn];exact this
   | mw _ _ _ _ F E ad=>
    have:l=0:=by omega
    subst this;have:f=0:=by omega
    subst this;have:m=0:=by omega
    subst this;refine⟨_,B ad 0 0 0 0 0 s p z h0 q A (by omega),.plain h n ?_⟩;simp only[eT,if_true,fg,cy];exact .mw v J y off F E ad
  .obtain⟨⟨rfl,rfl,rfl⟩,n⟩:=n
   cases h1 with
   | gg=>
    refine⟨_,B none 0 0 0 0 0 s p z (by omega) (by omega) (by omega) (by omega),.plain h n ?_⟩;simp only[eT,if_true,fg];exact .gg
  .exact n.elim
 .grind
theorem amC(h:gE G c H w)(s:kT c w env a){t e:TypeId}{sz n:Nat}(T:P.underlying t=some (.array n e))(hs:ky P e=some sz){lo hi:Option Operand}{L M:Option X}(hl:su G lo=some L)(V:su G hi=some M)
  {x:D} {u:Value} (h1:gh c w u x) (f:IV env sz n x L M H K):∃r,(Instr.sliceAt t u (lo.map a.eval) (hi.map a.eval) none).run P w = .ok r w/\jm G c H w K r w:=by
 unfold IV at f;split at f
 .rename_i cs l m B z;obtain⟨⟨rfl,Z,jb,h0,A,W⟩,f⟩:=f;obtain⟨b,p,rfl,hF,jk⟩:=zp h1;obtain⟨vs,N,kY⟩:=jk;have F:=OZ (P:=P) (w:=w) false n n (lo.map a.eval) (hi.map a.eval) l m (vg h s hl B) (vg h s V z) h0 A (by omega)
  have C:(Instr.sliceAt t (.pointer (some ⟨b,p,none⟩)) (lo.map a.eval) (hi.map a.eval) none).run P w = .ok (.slice (some (if n=l.toNat then⟨b,p,none⟩else Addr.add ⟨b,p,none⟩ (l.toNat*1))) (m.toNat-l.toNat) (n-l.toNat)) w:=by simp only[Instr.sliceAt,Sem.run_bind,run_underlying T,Result.andThen_ok,Instr.sureAddr,F,rz hs,Sem.run_pure]
  refine⟨_,C,.plain h f ?_⟩;have Q:∀(i:Nat) (e:List D),(((cs.drop l.toNat).take (m.toNat-l.toNat)).map λd=>[d])[i]? = some e->∃d,cs[l.toNat+i]? = some d/\e = [d]/\i<m.toNat-l.toNat:=λi e hi=>by grind
  refine .sl _ _ _ 1 _ (λi _=>vs.getD (l.toNat+i) undef) (by simp;omega) (by omega) (by unfold maxLen;omega) (λe pW=>?_) (λe=>nomatch e) ?_ ?_
  .grind
  .intro i e j d hi y;obtain⟨d0,I,rfl,h4⟩:=Q i e hi;have E:j=0:=by have:=(ae.1 y).1;simp at this;exact this
   subst E;obtain⟨v,q,Y,O⟩:=N.get I;refine⟨b,p+l.toNat,?_,hF,?_,?_⟩
   .rw[if_neg (by omega),Addr.add_lit,eV]
   .grind
   .grind
  .intro i e j d hi y;obtain⟨d0,I,rfl,h4⟩:=Q i e hi;have E:j=0:=by have:=(ae.1 y).1;simp at this;exact this
   subst E;cases y;obtain⟨v,q,Y,O⟩:=N.get I;rw[List.getD_eq_getElem?_getD,q,aZ];exact O
 .rename_i v g o l m B z;split at f
  .rename_i t' cs gX;obtain⟨⟨a4,Z,jb,h0,A,W⟩,f⟩:=f;have q:=uv gX;dsimp only at q
   cases h1 with
   | ptr _ _ _ k J R=>
    obtain⟨arr,BA,NB,Xq,NC⟩:=yQ h q J R;have F:=OZ (P:=P) (w:=w) false n n (lo.map a.eval) (hi.map a.eval) l m (vg h s hl B) (vg h s V z) h0 A (by omega)
    have C:(Instr.sliceAt t (.pointer (some ⟨k.b,k.base+o,none⟩)) (lo.map a.eval) (hi.map a.eval) none).run P w = .ok (.slice (some (if n=l.toNat then⟨k.b,k.base+o,none⟩else Addr.add ⟨k.b,k.base+o,none⟩ (l.toNat*sz))) (m.toNat-l.toNat) (n-l.toNat)) w:=by simp only[Instr.sliceAt,Sem.run_bind,run_underlying T,Result.andThen_ok,Instr.sureAddr,F,rz hs,Sem.run_pure]
    refine⟨_,C,.plain h f ?_⟩;have U:o=o / sz*sz:=by have:=Nat.div_add_mod' o sz;omega
    by_cases S:n=l.toNat
    .rw[if_pos S,show m.toNat-l.toNat=0 by omega,show n-l.toNat=0 by omega];exact .mw v g sz (o / sz+l.toNat) k J _
    .rw[if_neg S]
     have:=gh.fY (c:=c) (w:=w) v g sz (o / sz+l.toNat) (m.toNat-l.toNat) (n-l.toNat) k J R (by omega) (by unfold maxLen;omega) (by
      rw[show o / sz+l.toNat+(n-l.toNat)=o / sz+n by omega,bn,<-U]
      omega)
     rw[Addr.add_lit];rw[bn,<-U,<-a8]at this;exact this
  .exact f.elim
 .grind
theorem amE(h:gE G c H w)(d:kT c w env a){t:TypeId}(j:P.underlying t=some .string){lo hi:Option Operand}{L M:Option X}(hl:su G lo=some L)(k:su G hi=some M)
  {s:ByteArray} (b:EX env (.val (.string s)) L M H K):∃r,(Instr.sliceAt t (.string s) (lo.map a.eval) (hi.map a.eval) none).run P w = .ok r w/\jm G c H w K r w:=by
 simp only[EX]at b;split at b
 .rename_i l m i f;obtain⟨⟨h0,g,e⟩,b⟩:=b;have n:=OZ (P:=P) (w:=w) false s.size s.size (lo.map a.eval) (hi.map a.eval) l m (vg h d hl i) (vg h d k f) h0 g e;exact⟨.string (s.extract l.toNat m.toNat),by simp[Instr.sliceAt,run_underlying j,Instr.slice,n],.val h b⟩
 .grind
theorem ue{v:Nat}{x:KK×List (Value×D)}(h:lM H v=some x):H[v]? = some (.map x.1 x.2):=by
 unfold lM at h;split at h
 .grind
 .cases h
theorem S7(h:gE G c H w){t ty:TypeId}{k:AV}{d:TypeDesc}(f:P.underlying t=some d)(b:match k with | .slice=>∃e,d = .slice e | .string=>d = .string | .map=>∃k e,d = .map k e)
  {x:D} {u:Value} (h1:gh c w u x) (a:H7 k x H K):∃r,(Builtin.len_ #[t] ty #[u]).run P w = .ok r w/\jm G c H w K r w:=by
 unfold H7 at a;split at a
 .obtain⟨e,rfl⟩:=b
  cases h1 with
  | sl ad len cap _ _ g i q m n p A E=>
   refine⟨goInt len,by simp[Builtin.len_,run_underlying f],.plain h a ?_⟩;rw[i];exact .val _
 .obtain⟨e,rfl⟩:=b
  cases h1 with
  | gg=>exact⟨goInt 0,by simp[Builtin.len_,run_underlying f],.plain h a (.val _)⟩
 .rename_i vs;obtain⟨e,rfl⟩:=b
  cases h1 with
  | l4 ad _ m p A=>exact⟨goInt vs.length,by simp[Builtin.len_,run_underlying f],.plain h a (.val _)⟩
 .rename_i v F sz off len;obtain⟨e,rfl⟩:=b
  cases h1 with
  | fY _ _ _ _ _ cap L o y q m C=>exact⟨goInt len,by simp[Builtin.len_,run_underlying f],.plain h a (.val _)⟩
  | mw=>exact⟨goInt 0,by simp[Builtin.len_,run_underlying f],.plain h a (.val _)⟩
 .have b:d = .string:=b;subst b;cases h1;exact⟨_,by simp[Builtin.len_,run_underlying f]<;>rfl,.plain h a (.val _)⟩
 .rename_i v;obtain⟨kk,e,rfl⟩:=b;split at a
  .rename_i B es s
   cases h1 with
   | gD _ L o y=>
    have j:=h.ob v _ (ue s);simp only[Ob.gen]at j;rw[o]at j;simp only[ia]at j;obtain⟨_,_,arr,l,z,n,_⟩:=j;refine⟨goInt arr.size,by simp[Builtin.len_,run_underlying f,getObj,Sem.run,z],.plain h a ?_⟩;rw[<-n];exact .val _
  .exact a.elim
 .grind
theorem ZX(h:gE G c H w)(u:kT c w env a){xs:List X}{ops:Array Operand}(t:xU G ops.toList=some xs)(b:Bool)(j:Array TypeId)(ty:TypeId)(f:Ii env b xs H K) :
  ∃r,(if b then Builtin.max_ j ty (ops.map a.eval)else Builtin.min_ j ty (ops.map a.eval)).run P w = .ok r w/\jm G c H w K r w:=by
 have d:=A1 h u ops.toList t
 have key:∀(xs:List X) (vs:List Value) (l:List Int),r9 env xs=some l->jC c w vs (xs.map (ev env))->vs=l.map (Value.int .i64 ·):=by
  intro xs
  induction xs with
  | nil=>intro vs l hl d;simp[r9]at hl;subst hl;cases d;rfl
  | cons x xs o=>
   intro vs l hl d;simp only[r9]at hl;split at hl
   .rename_i n y k m;cases hl;simp only[List.map_cons]at d
    cases d with
    | cons h1 v=>
     rw[k]at h1;cases h1;rw[o _ _ m v];rfl
   .cases hl
 have e:∀l:Array Operand,(l.toList.map a.eval).toArray=l.map a.eval:=λl=>by cases l;simp
 unfold Ii at f;split at f
 .rename_i p q hi;have i:=key _ _ _ hi d;have g:ops.map a.eval = #[.int .i64 p,.int .i64 q]:=by rw[<-e,i];rfl
  cases b
  .refine⟨.int .i64 (min p q),?_,.val h (by simpa using f)⟩;simp only[bC,if_false,g];have:(if q<p then q else p)=min p q:=by omega
   simp[Builtin.min_,Builtin.min2,this]
  .refine⟨.int .i64 (max p q),?_,.val h (by simpa using f)⟩;simp only[if_true,g];have:(if q>p then q else p)=max p q:=by omega
   simp[Builtin.max_,Builtin.max2];omega
 .rename_i p q s hi;have i:=key _ _ _ hi d;have g:ops.map a.eval = #[.int .i64 p,.int .i64 q,.int .i64 s]:=by rw[<-e,i];rfl
  cases b
  .refine⟨.int .i64 (min (min p q) s),?_,.val h (by simpa using f)⟩;simp only[bC,if_false,g];simp[Builtin.min_,Builtin.min2];omega
  .refine⟨.int .i64 (max (max p q) s),?_,.val h (by simpa using f)⟩;simp only[if_true,g];simp[Builtin.max_,Builtin.max2];omega
 .exact f.elim
end
end Go.AL
namespace Go.AL
open Go
section
variable{P:Program}{G:GT}{c:Ctx}{H:U}{w:World}{K:jE}{env:gP}{a:Act}
theorem ZC{G:GT}{c:Ctx}{H:U}{w w':World}(h:gE G c H w){v g:Nat}{t:TypeId}{cs:List D}(A:H[v]? = some (.row t g cs)){L:Loc}(gp:c.ι v g=some L)(a:Loc)
  (hg:(w'.os=w.os/\w.drawn<=w'.drawn)/\w'.tape=w.tape/\w'.output=w.output/\w.heap.size<=w'.heap.size) (T:∀b,b<w.heap.size->¬(L.jO=false/\b=L.b)->w'.heap[b]? = w.heap[b]?)
  (y:a.jO=false->(w.heap.size<=a.b\/(L.jO=false/\a.b=L.b))/\a.b<w'.heap.size) (m:List D)
  (X:(∀u d,gh c w u d->gh (c.set v (g+1) a) w' u d)->ia (c.set v (g+1) a) w' (some a) (.row t (g+1) m)) :
  gE G (c.set v (g+1) a) (H.set v (.row t (g+1) m)) w'/\Step H.length c H w (c.set v (g+1) a) (H.set v (.row t (g+1) m)) w':=by
 have K:v<H.length:=(ae.1 A).1;have p:lY c H v L:=⟨_,A,rfl,gp⟩;have S:zi H v (.row t (g+1) m) (H.set v (.row t (g+1) m)):=⟨sM K,.inr (.inr ⟨_,A,rfl,Nat.lt_succ_self _⟩),by simp⟩;have Q:∀b,c.F b->¬(L.jO=false/\b=L.b):=λb x e=>h.nF b ⟨v,L,p,e.1,e.2.symm⟩ x;have J:∀u l,lY (c.set v (g+1) a) (H.set v (.row t (g+1) m)) u l->(u=v/\l=a)\/(u≠v/\lY c H u l):=λu l hl=>E7 S hl
 have I:∀b,mh (c.set v (g+1) a) (H.set v (.row t (g+1) m)) b->(a.jO=false/\b=a.b)\/(mh c H b/\¬(L.jO=false/\b=L.b)):=by
  rintro b ⟨u,l,hl,j,rfl⟩;rcases J u l hl with⟨_,rfl⟩|⟨z,h1⟩
  .exact .inl ⟨j,rfl⟩
  .exact .inr ⟨⟨u,l,h1,j,rfl⟩,λe=>z (h.inj u v l L h1 p j e.1 e.2)⟩
 have hs:Step H.length c H w (c.set v (g+1) a) (H.set v (.row t (g+1) m)) w':={
  os:=hg.1
  tape:=hg.2.1
  output:=hg.2.2.1
  size:=hg.2.2.2
  RT:=rfl
  Fm:=λ_ h=>h
  Fn:=λ_ h=>.inl h
  kept:=λb f Y=>T b f λe=>Y ⟨v,L,p,e.1,e.2.symm⟩
  old:=λu k l _ B=>aa7 h S u k l B
  own:=λb f=>by
   rcases I b f with⟨j,rfl⟩|⟨f,_⟩
   .rcases(y j).1 with h1|⟨h1,O⟩
    .exact .inl h1
    .exact .inr ⟨v,L,p,h1,O.symm⟩
   .exact .inr f }
 have M:∀u d,gh c w u d->gh (c.set v (g+1) a) w' u d:=λu d C=>C.qb h.toHeapOK hs
 refine⟨{
  inj:=λu r l s h1 O F E Z=>by
   rcases J u l h1 with⟨rfl,rfl⟩|⟨n1,P⟩<;>rcases J r s O with⟨rfl,rfl⟩|⟨n2,b2⟩
   .rfl
   .exfalso;have gG:=h.lt s.b ⟨r,s,b2,E,rfl⟩;rcases(y F).1 with n|⟨n,N⟩
    .omega
    .exact n2 (h.inj r u s L b2 p E n (by omega))
   .exfalso;have gG:=h.lt l.b ⟨u,l,P,F,rfl⟩;rcases(y E).1 with n|⟨n,N⟩
    .omega
    .exact n1 (h.inj u r l L P p F n (by omega))
   .exact h.inj u r l s P b2 F E Z
  lt:=λb f=>by
   rcases I b f with⟨j,rfl⟩|⟨f,_⟩
   .exact(y j).2
   .exact aO (h.lt b f) hg.2.2.2
  nF:=λb f x=>by
   rcases I b f with⟨j,rfl⟩|⟨f,_⟩
   .rcases(y j).1 with n|⟨n,N⟩
    .have:=h.kO _ x;omega
    .exact Q _ x ⟨n,N⟩
   .exact h.nF b f x
  kO:=λb f=>aO (h.kO b f) hg.2.2.2
  out:=λu k B=>by simp only[ao]at B;rw[Ctx.wz _ _ (by rintro⟨rfl,_⟩;omega)];exact h.out u k B
  mD:=λu o k i q=>by
   rw[sM K]at i;split at i
   .rename_i e;cases i;subst e;rcases q with q|⟨_,q⟩
    .cases q
    .simp only[Ob.gen]at q;rw[Ctx.wz _ _ (by rintro⟨_,rfl⟩;omega)];exact h.mD u _ k A (.inr ⟨rfl,by simp only[Ob.gen];omega⟩)
   .rename_i e;rw[Ctx.wz _ _ (λh=>e h.1)];exact h.mD u o k i q
  ob:=λu o i=>by
   rw[sM K]at i;split at i
   .rename_i e;cases i;subst e;simp only[Ob.gen];rw[Ctx.sN];exact X M
   .rename_i z;rw[Ctx.wz _ _ (λh=>z h.1)];exact ia.keep (c:=c) (c':=c.set v (g+1) a) rfl M (λl hl R C=>T _ (h.lt _ ⟨u,l,⟨o,i,C,hl⟩,R,rfl⟩) λe=>z (h.inj u v l L ⟨o,i,C,hl⟩ p R e.1 e.2)) (h.ob u o i)
  gl:=λg' cs V=>by obtain⟨gI,W⟩:=h.gl g' cs V;exact⟨gI,M _ _ W⟩
  rt:=h.rt },hs⟩
theorem SY{G:GT}{c:Ctx}{H:U}{w w':World}(h:gE G c H w){v g:Nat}{t:TypeId}{cs:List D}(o:H[v]? = some (.row t g cs)){L:Loc}(s:c.ι v g=some L)(a:Loc)(n:a.jO=false)
  (hg:(w'.os=w.os/\w.drawn<=w'.drawn)/\w'.tape=w.tape/\w'.output=w.output/\w.heap.size<=w'.heap.size) (y:∀b,b<w.heap.size->¬(L.jO=false/\b=L.b)->w'.heap[b]? = w.heap[b]?)
  (z:(w.heap.size<=a.b\/(L.jO=false/\a.b=L.b))/\a.b<w'.heap.size)
  (arr:Array Value) (k:w'.heap[a.b]? = some (.cells arr t (0,0))) (j:a.top=arr.size) (e:List D) (f:a.base+e.length<=a.top)
  (r:∀(i:Nat) (d:D),e[i]? = some d->∃u,arr[a.base+i]? = some u/\u.oneCell'=true/\gh c w u d) :
  gE G (c.set v (g+1) a) (H.set v (.row t (g+1) e)) w'/\Step H.length c H w (c.set v (g+1) a) (H.set v (.row t (g+1) e)) w':=by
 refine ZC h o s a hg y (λ_=>z) e λp=>?_;simp only[ia,n];refine⟨arr,k,j,f,λi d q=>?_⟩;obtain⟨x,l,m,A⟩:=r i d q;exact⟨x,l,m,p _ _ A⟩
theorem ado{G:GT}{c:Ctx}{H:U}{w:World}(h:gE G c H w){v g:Nat}{t:TypeId}{cs:List D}(b:H[v]? = some (.row t g cs)){L:Loc}(d:c.ι v g=some L) :
  gE G (c.set v (g+1) L) (H.set v (.row t (g+1) [])) w/\Step H.length c H w (c.set v (g+1) L) (H.set v (.row t (g+1) [])) w:=by
 refine ZC h b d L ⟨⟨rfl,Nat.le_refl _⟩,rfl,rfl,Nat.le_refl _⟩ (λ_ _ _=>rfl) (λa=>⟨.inr ⟨a,rfl⟩,h.lt _ ⟨v,L,⟨_,b,rfl,d⟩,a,rfl⟩⟩) [] λ_=>?_;have h0:=h.ob v _ b;simp only[Ob.gen]at h0;rw[d]at h0;simp only[ia]at h0 ⊢;split
 .simp
 .rename_i a;simp only[a]at h0;obtain⟨arr,h1,e,f,_⟩:=h0;exact⟨arr,h1,e,by simp;omega,by simp⟩
theorem OY{t u ty e:TypeId}{i:TypeInfo}{h:Value}(r:P.underlying t=some (.slice e))(g:∃j,P.underlying u=some (.slice j))(hi:P.info? e=some i)(p:i.zero=some h)
  (b:Option Addr) (a d:Nat) (y:Value) (m:Option Addr) (n l:Nat) (q:y = .slice m n l) (k c:List Value)
  (f:(Builtin.firstCells i.size a (.slice b a d)).run P w.drew = .ok k.toArray w.drew) (o:(Builtin.firstCells i.size n y).run P w.drew = .ok c.toArray w.drew)
  (hg:d<a+n) (A:a+n<=9223372036854775807) (v:(a+n)*i.bytes<=140737488355328) :
  (Builtin.append_ #[t,u] ty #[.slice b a d,y]).run P w = .ok (.slice (some ⟨w.heap.size,0,none⟩) (a+n) (grownCap w (a+n) d e))
    (w.drew.alloc (.cells (k.toArray++c.toArray++Builtin.zeroCells h.cells (grownCap w (a+n) d e-(a+n))) e)):=by
 subst q;obtain⟨j,g⟩:=g;have s:¬(a+n<=d):=by omega
 have x:¬(9223372036854775807<((a:Int)+(n:Int))):=by omega
 have z:¬(281474976710656<Builtin.nextslicecap (a+n) d*i.bytes):=by have:=growslice_fits hg v;omega
 simp[Builtin.append_,run_underlying r,run_underlying g,sizeOf,typeInfo,zeroValue,hi,p,Builtin.lenOf,s,x,z,Question.forced,newRow,grownCap,f,o];congr 2;apply Array.ext';simp[aL]
theorem anJ{t u ty e:TypeId}{i:TypeInfo}(q:P.underlying t=some (.slice e))(f:∃h,P.underlying u=some (.slice h))(hi:P.info? e=some i)
  (b o:Nat) (c d:Nat) (y:Value) (k:Option Addr) (n j:Nat) (p:y = .slice k n j) (a:List Value) (arr:Array Value) (hg:w.heap[b]? = some (.cells arr e (0,0)))
  (m:(Builtin.firstCells i.size n y).run P w = .ok a.toArray w) (h1:∀v∈a,v.oneCell'=true) (r:c+n<=d) (l:o+c*i.size+a.length<=arr.size) :
  (Builtin.append_ #[t,u] ty #[.slice (some ⟨b,o,none⟩) c d,y]).run P w = .ok (.slice (some ⟨b,o,none⟩) (c+n) d)
    (w.setRow b (arr.toList.take (o+c*i.size)++a++arr.toList.drop (o+c*i.size+a.length)).toArray):=by
 subst p;obtain⟨h,f⟩:=f;have g:=run_storeCells_at P b (o+c*i.size) e a 0 arr w hg (by simpa using l) h1;simp only[cy]at g;simp[Builtin.append_,run_underlying q,run_underlying f,sizeOf,typeInfo,hi,Builtin.lenOf,r,m,Addr.add_lit,g]
theorem Nf{sz:Nat}{w':World}{a:Option Addr}{b n:Nat}{vs:List Value}(hl:vs.length=n*sz)(c:a=none->n=0)(d:∀ad,a=some ad->∀(j:Nat) (v:Value),vs[j]? = some v->w'.cell? (ad.add j)=some v) :
  (Builtin.firstCells sz n (.slice a n b)).run P w' = .ok vs.toArray w':=by
 cases a with
 | none=>
  have:=c rfl;subst this;have:vs = []:=aU (by simpa using hl);subst this;exact run_firstCells_none w' sz 0 0 b
 | some ad=>exact run_firstCells_some w' sz n ad n b vs hl (d ad rfl)
theorem WZ(w:World)(o:Obj):kj w (w.drew.alloc o):=(kj.drew w).trans (kj.alloc _ _)
theorem al5(h:gE G c H w){al:Al}(iq:nk H al){t u ty e:TypeId}{i:TypeInfo}{z:List D}(R:P.underlying t=some (.slice e))(s:∃e',P.underlying u=some (.slice e'))(hi:P.info? e=some i)(hz:rG P e=some z)(xk:z.length=i.size)(ke:0<i.size)
  {x y:D} {ux A:Value} (h1:gh c w ux x) (h2:gh c w A y) (f:FP e i.size i.bytes x y H al K):∃r w',(Builtin.append_ #[t,u] ty #[ux,A]).run P w = .ok r w'/\jm G c H w K r w':=by
 obtain⟨m,vW,N7,tX⟩:=AJ hz w;have Es:i.zero=some m:=by simpa[hi]using N7
 have vV:m.cells.size=i.size:=by have:=(tX c w).len;simp at this;omega
 unfold FP at f;split at f
 .rename_i U n r8;obtain⟨Z,Y,vs,C,E,jR,YA,HP,HN⟩:=TM h ke h2 r8;have Q:vs.length=n*i.size:=by rw[E.len,jR]
  have N:∀w',(∀b,w'.cell? b=w.cell? b)->(Builtin.firstCells i.size n A).run P w' = .ok vs.toArray w':=λw' rl=>by rw[C];exact Nf Q HP (λad ha j v k=>by rw[rl];exact HN ad ha j v k)
  split at f
  .rename_i v g gU off len;split at f
   .rename_i t' cs gX;have p:=uv gX;dsimp only at p;obtain⟨⟨rfl,Ym,a3,M,X⟩,f⟩:=f;have e0:=Ym.symm;subst e0;clear Ym;have h9:v<H.length:=(ae.1 p).1
    cases h1 with
    | fY _ _ _ _ _ cap L S iu ka jb mG=>
     obtain⟨arr,BA,NB,Xq,NC⟩:=yQ h p S iu;have W:Cells c w (((((arr.toList.drop L.base).take cs.length)).drop (off*i.size)).take (len*i.size)) ((cs.drop (off*i.size)).take (len*i.size)):=(NC.drop _).take _;rw[bn]at mG a3;generalize off*i.size=q at *
     by_cases Hz:len+n<=cap
     .have nc:L.base+q+len*i.size+vs.length<=arr.size:=by have hm:=bz i.size Hz;rw[bn]at hm;omega
      have l:=anJ (ty:=ty) R s hi L.b (L.base+q) len cap A Z n Y C vs arr BA (N w λ_=>rfl) E.one Hz nc;refine⟨_,_,l,?_⟩;have iA:(arr.toList.take (L.base+q+len*i.size)++vs++arr.toList.drop (L.base+q+len*i.size+vs.length)).toArray.size=arr.size:=by simp;omega
      obtain⟨m1,m2⟩:=SY (w':=w.setRow L.b (arr.toList.take (L.base+q+len*i.size)++vs++arr.toList.drop (L.base+q+len*i.size+vs.length)).toArray) h p S ⟨L.b,L.base+q,L.top,false⟩ rfl
       ⟨⟨rfl,Nat.le_refl _⟩,rfl,rfl,by simp[World.setRow]⟩ (λb _ I=>by simp only[World.setRow,bg];rw[if_neg (λe=>I ⟨iu,e.symm⟩)])
       ⟨.inr ⟨iu,rfl⟩,by have:=h.lt _ ⟨v,L,⟨_,p,rfl,S⟩,iu,rfl⟩;simpa[World.setRow]using this⟩
       _ (setRow_heap w L.b arr _ _ _ BA) (by show L.top=_;rw[NB,iA]) ((cs.drop q).take (len*i.size)++U) (by simp only[ak,aK,aR];rw[<-E.len];omega) (λj d J=>by
        obtain⟨x,F,lW,kM⟩:=(W.append E).get J;refine⟨x,?_,lW,kM⟩;rw[<-F];simp only[du];have jL:(List.take (L.base+q+len*i.size) arr.toList).length=L.base+q+len*i.size:=by simp;omega
        have kd:(List.take (len*i.size) (List.drop q (List.take cs.length (List.drop L.base arr.toList)))).length=len*i.size:=by simp;omega
        by_cases c1:j<len*i.size
        .rw[ah (by simp;omega),ah (by rw[jL];omega),ah (by rw[kd];omega)];simp only[aF,aG];rw[if_pos (by omega),if_pos (by omega),if_pos (by omega)];congr 1;omega
        .have nD:j<len*i.size+vs.length:=by have:=(ae.1 F).1;rw[ak,kd]at this;omega
         rw[ah (by rw[ak,jL];omega),ai (by rw[jL];omega),ai (by rw[kd];omega),jL,kd];congr 1
         omega)
      refine⟨_,_,_,f,m1,?_,m2⟩;have:=gh.fY (c:=c.set v (g+1) ⟨L.b,L.base+q,L.top,false⟩) (w:=w.setRow L.b (arr.toList.take (L.base+q+len*i.size)++vs++arr.toList.drop (L.base+q+len*i.size+vs.length)).toArray) v (g+1) i.size 0 (len+n) cap ⟨L.b,L.base+q,L.top,false⟩ (Ctx.sN _ _ _ _) rfl Hz jb (by simp;omega);simpa using this
     .have a:(Builtin.firstCells i.size len (.slice (some ⟨L.b,L.base+q,none⟩) len cap)).run P w.drew = .ok ((((arr.toList.drop L.base).take cs.length).drop q).take (len*i.size)).toArray w.drew:=by
       refine run_firstCells_some _ _ _ _ _ _ _ (by rw[W.len];simp;omega) (λj v k=>?_);rw[aF]at k;split at k
       .rw[aG,aF]at k;split at k
        .rw[aG]at k;rw[Addr.add_lit];show w.cell? ⟨L.b,L.base+q+j,none⟩=some v;simp[World.cell?,BA];rw[a8];simpa using k
        .cases k
       .cases k
      have l:=OY (ty:=ty) R s hi Es (some ⟨L.b,L.base+q,none⟩) len cap A Z n Y C _ vs a (N _ λ_=>rfl) (by omega) X M;refine⟨_,_,l,?_⟩;have HH:((((arr.toList.drop L.base).take cs.length).drop q).take (len*i.size)).toArray.size=len*i.size:=by have:=W.len;simp at this ⊢;omega
      have B:=grownCap_ge w (len+n) cap e;have O:=grownCap_le_maxLen w (len+n) cap e (by unfold maxLen;omega)
      obtain⟨m1,m2⟩:=SY (w':=w.drew.alloc (.cells (((((arr.toList.drop L.base).take cs.length).drop q).take (len*i.size)).toArray++vs.toArray++Builtin.zeroCells m.cells (grownCap w (len+n) cap e-(len+n))) e)) h p S
       ⟨w.heap.size,0,grownCap w (len+n) cap e*i.size,false⟩ rfl ⟨⟨rfl,Nat.le_succ _⟩,rfl,rfl,by simp⟩ (λb V _=>(WZ w _).kept b V) ⟨.inl (Nat.le_refl _),by simp⟩
       _ (heap_alloc_new w.drew _) (by
        simp only[cD,HH,c8,Q,size_zeroCells,vV,<-bn]
        congr 1;omega) ((cs.drop q).take (len*i.size)++U) (by
        simp only[ak,aK,aR,jR,aQ];have:=bz i.size B;rw[bn]at this
        omega) (λj d J=>by
        obtain⟨x,F,lW,kM⟩:=(W.append E).get J;refine⟨x,?_,lW,kM⟩;rw[<-F,aQ,<-bF];have gG:=(ae.1 F).1;simp only[de]
        rw[ah (by simpa using gG)])
      refine⟨_,_,_,f,m1,?_,m2⟩
      have:=gh.fY (c:=c.set v (g+1) ⟨w.heap.size,0,grownCap w (len+n) cap e*i.size,false⟩) (w:=w.drew.alloc (.cells (((((arr.toList.drop L.base).take cs.length).drop q).take (len*i.size)).toArray++vs.toArray++Builtin.zeroCells m.cells (grownCap w (len+n) cap e-(len+n))) e))
       v (g+1) i.size 0 (len+n) (grownCap w (len+n) cap e) ⟨w.heap.size,0,grownCap w (len+n) cap e*i.size,false⟩ (Ctx.sN _ _ _ _) rfl B O (by simp)
      simpa using this
    | mw _ _ _ _ L S ad=>
     simp only[aQ,cy,cQ,eR,bq]at f M X ⊢
     by_cases I:n=0
     .subst I;have Sd:vs = []:=aU (by simpa using Q);have d':U = []:=aU (by simpa using jR);subst d'
      have l:(Builtin.append_ #[t,u] ty #[.slice ad 0 0,A]).run P w = .ok (.slice ad 0 0) w:=by obtain⟨e',s⟩:=s;have T:=N w λ_=>rfl;rw[Sd]at T;rw[C]at T ⊢;simp[Builtin.append_,run_underlying R,run_underlying s,sizeOf,typeInfo,hi,Builtin.lenOf,T];cases ad<;>simp[storeCells]
      obtain⟨m1,m2⟩:=ado h p S;exact⟨_,_,l,_,_,_,f,m1,.mw v (g+1) i.size 0 L (Ctx.sN _ _ _ _) ad,m2⟩
     .have a:(Builtin.firstCells i.size 0 (.slice ad 0 0)).run P w.drew = .ok ([]:List Value).toArray w.drew:=Nf (by simp) (λ_=>rfl) (λ_ _ j v k=>by simp at k);have l:=OY (w:=w) (ty:=ty) R s hi Es ad 0 0 A Z n Y C [] vs a (N _ λ_=>rfl) (by omega) (by omega) (by simpa using M);simp only[aQ]at l;refine⟨_,_,l,?_⟩;have B:=grownCap_ge w n 0 e;have O:=grownCap_le_maxLen w n 0 e (by unfold maxLen;omega)
      obtain⟨m1,m2⟩:=SY (w':=w.drew.alloc (.cells (([]:List Value).toArray++vs.toArray++Builtin.zeroCells m.cells (grownCap w n 0 e-n)) e)) h p S
       ⟨w.heap.size,0,grownCap w n 0 e*i.size,false⟩ rfl ⟨⟨rfl,Nat.le_succ _⟩,rfl,rfl,by simp⟩ (λb V _=>(WZ w _).kept b V) ⟨.inl (Nat.le_refl _),by simp⟩
       _ (heap_alloc_new w.drew _) (by
        simp only[cD,c8,cW,Q,size_zeroCells,vV,aQ,<-bn]
        congr 1;omega) U (by
        simp only[jR,aQ]
        exact bz i.size B) (λj d J=>by
        obtain⟨x,F,lW,kM⟩:=E.get J;refine⟨x,?_,lW,kM⟩;rw[<-F,aQ,<-bF];have gG:=(ae.1 F).1;simp only[de,bq]
        rw[ah (by simpa using gG)])
      refine⟨_,_,_,f,m1,?_,m2⟩
      have:=gh.fY (c:=c.set v (g+1) ⟨w.heap.size,0,grownCap w n 0 e*i.size,false⟩) (w:=w.drew.alloc (.cells (([]:List Value).toArray++vs.toArray++Builtin.zeroCells m.cells (grownCap w n 0 e-n)) e))
       v (g+1) i.size 0 n (grownCap w n 0 e) ⟨w.heap.size,0,grownCap w n 0 e*i.size,false⟩ (Ctx.sN _ _ _ _) rfl B O (by simp)
      simpa using this
   .exact f.elim
  .rename_i us;obtain⟨⟨I,HH,M,X⟩,f⟩:=f
   cases h1 with
   | l4 ad _ jb lJ hc=>
    have W:Cells c w us (us.map .val):=⟨by simp,λv p=>by
     obtain⟨i,hi⟩:=List.getElem?_of_mem p;obtain⟨_,_,_,_,_,h1⟩:=hc i v hi
     exact h1,λi v d p J=>by
     simp only[au,p,aH,aq]at J;subst J
     exact .val _⟩
    have a:(Builtin.firstCells i.size us.length (.slice ad us.length us.length)).run P w.drew = .ok us.toArray w.drew:=Nf (by rw[HH];simp) (λe=>by rw[lJ e];rfl) (λb V j v k=>by
     obtain⟨b',o,ha,_,oS,_⟩:=hc j v k;rw[ha]at V;cases V;rw[Addr.add_lit]
     exact oS)
    have l:=OY (w:=w) (ty:=ty) R s hi Es ad us.length us.length A Z n Y C us vs a (N _ λ_=>rfl) (by omega) X M;refine⟨_,_,l,?_⟩;have B:=grownCap_ge w (us.length+n) us.length e;have O:=grownCap_le_maxLen w (us.length+n) us.length e (by unfold maxLen;omega)
    have iA:(us.toArray++vs.toArray++Builtin.zeroCells m.cells (grownCap w (us.length+n) us.length e-(us.length+n))).size=grownCap w (us.length+n) us.length e*i.size:=by simp only[cD,c8,Q,size_zeroCells,vV,HH,eV];omega
    obtain⟨L,e1,e2,e3,e4,e5,e6⟩:=EE h w.drew (kj.drew w) e (us++vs) (us.map .val++U) (us++vs).length (us.toArray++vs.toArray++Builtin.zeroCells m.cells (grownCap w (us.length+n) us.length e-(us.length+n))) (iq _).uz (W.append E) (by
     simp only[de]
     exact List.take_left) (by simp only[cD,c8,ak];omega)
    have hp:=Iu (c:=c) (w:=w.drew.alloc (.cells (us.toArray++vs.toArray++Builtin.zeroCells m.cells (grownCap w (us.length+n) us.length e-(us.length+n))) e)) e1 e3 al.1 0 i.size (us.length+n) (grownCap w (us.length+n) us.length e) (by rw[e4,iA]) B O;rw[e2]at hp;exact⟨_,_,_,f,e5,hp,e6⟩
  .cases h1 with
   | gg=>
    by_cases I:n=0
    .rw[if_pos I]at f;subst I;have Sd:vs = []:=aU (by simpa using Q)
     have l:(Builtin.append_ #[t,u] ty #[.slice none 0 0,A]).run P w = .ok (.slice none 0 0) w:=by obtain⟨e',s⟩:=s;have T:=N w λ_=>rfl;rw[Sd]at T;rw[C]at T ⊢;simp[Builtin.append_,run_underlying R,run_underlying s,sizeOf,typeInfo,hi,Builtin.lenOf,T]
     exact⟨_,_,l,.plain h f .gg⟩
    .rw[if_neg I]at f;obtain⟨⟨M,X⟩,f⟩:=f;have a:(Builtin.firstCells i.size 0 (.slice none 0 0)).run P w.drew = .ok ([]:List Value).toArray w.drew:=Nf (by simp) (λ_=>rfl) (λ_ _ j v k=>by simp at k);have l:=OY (w:=w) (ty:=ty) R s hi Es none 0 0 A Z n Y C [] vs a (N _ λ_=>rfl) (by omega) (by omega) (by simpa using M);simp only[aQ]at l;refine⟨_,_,l,?_⟩;have B:=grownCap_ge w n 0 e;have O:=grownCap_le_maxLen w n 0 e (by unfold maxLen;omega)
     have iA:(([]:List Value).toArray++vs.toArray++Builtin.zeroCells m.cells (grownCap w n 0 e-n)).size=grownCap w n 0 e*i.size:=by simp only[cD,c8,cW,Q,size_zeroCells,vV,aQ,<-bn];congr 1;omega
     obtain⟨L,e1,e2,e3,e4,e5,e6⟩:=EE h w.drew (kj.drew w) e vs U vs.length (([]:List Value).toArray++vs.toArray++Builtin.zeroCells m.cells (grownCap w n 0 e-n)) (iq _).uz E (by
      simp only[de,bq]
      exact List.take_left) (by simp only[cD,c8];omega)
     have hp:=Iu (c:=c) (w:=w.drew.alloc (.cells (([]:List Value).toArray++vs.toArray++Builtin.zeroCells m.cells (grownCap w n 0 e-n)) e)) e1 e3 al.1 0 i.size n (grownCap w n 0 e) (by rw[e4,iA]) B O;rw[e2]at hp;exact⟨_,_,_,f,e5,hp,e6⟩
  .exact f.elim
 .exact f.elim
theorem amg(h:gE G c H w){t u ty e:TypeId}{sz:Nat}(N:P.underlying t=some (.slice e))(hs:ky P e=some sz)(ke:0<sz){x y:D}{S E:Value}(h1:gh c w S x)(h2:gh c w E y)(b:Gh sz x y H K) :
  ∃r w',(Builtin.copy_ #[t,u] ty #[S,E]).run P w = .ok r w'/\jm G c H w K r w':=by
 have key:∀(f:List D) (n:Nat),kS sz H y=some (f,n)->∃vs A z,E = .slice A n z/\Cells c w vs f/\f.length=n*sz/\∀m,m<=n->(Builtin.firstCells sz m E).run P w = .ok (vs.take (m*sz)).toArray w:=by
  intro f n F;obtain⟨A,z,vs,p,l,I,YA,HP,HN⟩:=TM h ke h2 F;refine⟨vs,A,z,p,l,I,λm s=>?_⟩;have i:vs.length=n*sz:=by rw[l.len,I]
  have O:=bz sz s;rw[p]
  cases A with
  | none=>
   have:=HP rfl;subst this;have:m=0:=by omega
   subst this;simp[Builtin.firstCells]
  | some ad=>
   refine run_firstCells_some w sz m ad n z _ (by simp;omega) (λj v J=>?_);rw[aF]at J;split at J
   .exact HN ad rfl j v J
   .cases J
 unfold Gh at b;split at b
 .rename_i v g a off len f n F;obtain⟨vs,A,z,p,l,I,M⟩:=key f n F;split at b
  .rename_i T cs gX;have o:=uv gX;dsimp only at o;obtain⟨⟨rfl,Z⟩,b⟩:=b;have k:=M (min n len) (Nat.min_le_left _ _);have O:min n len*a<=vs.length:=by rw[l.len,I];exact bz _ (Nat.min_le_left _ _)
   have b':min n len*a<=len*a:=bz _ (Nat.min_le_right _ _);rw[bn]at Z
   cases h1 with
   | fY _ _ _ _ _ cap L Q U ka jb mG=>
    obtain⟨arr,X,NB,Xq,NC⟩:=yQ h o Q U;have W:=run_storeCells_at P L.b (L.base+off*a) T (vs.take (min n len*a)) 0 arr w X (by simp;omega) (λv o=>l.one v (aW o));simp only[cy]at W
    have iz:(Builtin.copy_ #[t,u] ty #[.slice (some ⟨L.b,L.base+off*a,none⟩) len cap,E]).run P w = .ok (goInt (min n len:Nat)) (w.setRow L.b (arr.toList.take (L.base+off*a)++vs.take (min n len*a)++arr.toList.drop (L.base+off*a+(vs.take (min n len*a)).length)).toArray):=by rw[p]at k ⊢;have s:n.min len=min n len:=rfl;simp[Builtin.copy_,run_underlying N,Builtin.lenOf,rz hs,s,k,W]
    have i:(vs.take (min n len*a)).length=min n len*a:=by simp;omega
    have Xy:=NC.sP (l.take (min n len*a)) (off*a);have R:(f.take (min n len*a)).length=min n len*a:=by rw[aK,<-l.len];omega
    obtain⟨m1,m2⟩:=Fc h o Q U X (arr.toList.take (L.base+off*a)++vs.take (min n len*a)++arr.toList.drop (L.base+off*a+(vs.take (min n len*a)).length)).toArray (by simp;omega) NB
     (cs.take (off*a)++f.take (min n len*a)++cs.drop (off*a+min n len*a)) (by simp only[ak,aK,aR];omega) (λj d V=>by
      rw[R,i]at Xy;obtain⟨x,hx,lW,kM⟩:=Xy.get V;refine⟨x,?_,lW,kM⟩;rw[<-hx];simp only[du,i];have C:(List.take (L.base+off*a) arr.toList).length=L.base+off*a:=by simp;omega
      have B:(List.take (off*a) (List.take cs.length (List.drop L.base arr.toList))).length=off*a:=by simp;omega
      by_cases c1:j<off*a
      .rw[ah (by simp;omega),ah (by rw[C];omega),ah (by simp;omega),ah (by rw[B];omega)];simp only[aF,aG];rw[if_pos (by omega),if_pos c1,if_pos (by omega)]
      .by_cases c2:j<off*a+min n len*a
       .rw[ah (by rw[ak,C,i];omega),ai (by rw[C];omega),ah (by rw[ak,B,i];omega),ai (by rw[B];omega),C,B];congr 1;omega
       .have oF:j<cs.length:=by have:=(ae.1 V).1;simp at this;omega
        rw[ai (by rw[ak,C,i];omega),ai (by rw[ak,B,i];omega)];simp only[aG,aF,ak,C,B,i];rw[if_pos (by omega)];congr 1
        omega)
    exact⟨_,_,iz,_,_,c,b,m1,.val _,m2⟩
   | mw _ _ _ _ L Q ad=>
    have Y:min n 0=0:=fV n;simp only[Y,cQ,eR,az,cy,bX]at b k
    have nG:H.set v (.row T g cs)=H:=by
     apply bI;intro j;rw[bW];have i:v<H.length:=(ae.1 o).1;split
     .rename_i e;subst e
      first|(rw[if_pos i];exact o.symm)|exact o.symm
     .rfl
    rw[nG]at b;refine⟨goInt 0,w,?_,.plain h b (.val _)⟩;rw[p]at k ⊢;have s:n.min 0=0:=fV n;simp[Builtin.copy_,run_underlying N,Builtin.lenOf,rz hs,s,k];cases ad<;>simp[storeCells]
  .exact b.elim
 .rename_i q F;obtain⟨f,n⟩:=q;obtain⟨vs,A,z,p,l,I,M⟩:=key f n F
  cases h1 with
  | gg=>
   have k:=M 0 (Nat.zero_le _);refine⟨goInt 0,w,?_,.plain h b (.val _)⟩;rw[p]at k ⊢;have s:n.min 0=0:=fV n;simp only[cQ,eR]at k;simp[Builtin.copy_,run_underlying N,Builtin.lenOf,rz hs,s,k]
 .exact b.elim

/- Part 2 of DisputeReferee. -/
import Derived.Test.YtmehofoficaelaaGreatDoorR01
set_option linter.all false
namespace Go.AL
open Go
section
variable{P:Program}{G:GT}{c:Ctx}{H:U}{w:World}{K:ji}{env:gD}{a:Act}
theorem Gi{L:Loc}(a:L.jr=false)(h0:L.base=0)(v k sz len cap:Nat)(b:L.top=cap*sz)(e:len<=cap)(d:cap<=maxLen) :
  fF (c.set v k L) w (.slice (some ⟨L.b,0,none⟩) len cap) (.fy v k sz 0 len):=by
 have:=fF.fy (c:=c.set v k L) (w:=w) v k sz 0 len cap L (Ctx.rE _ _ _ _) a e d (by simp[h0,b]);simpa[h0]using this
theorem K4(zs:List Value)(z:List D)(b:∀c w,Cells c w zs z)(n:Nat):Cells c w (List.replicate n zs).flatten (List.replicate n z).flatten:=by
 induction n with
 | zero=>exact Cells.nil
 | succ n a=>rw[bt,bt,aQ,aQ];exact(b c w).append a
theorem Mv(zs:Array Value)(n:Nat)(h0:0<zs.size):((Array.range (n*zs.size)).map (λi=>zs[i % zs.size]!)).toList=(List.replicate n zs.toList).flatten:=by
 apply bN;intro i;simp only[Array.toList_map,Array.toList_range,ar]
 by_cases hi:i<n*zs.size
 .rw[bE hi]
  have key:∀(n i:Nat),i<n*zs.size->(List.replicate n zs.toList).flatten[i]? = some (zs[i % zs.size]!):=by
   intro n
   induction n with
   | zero=>intro i hi;simp at hi
   | succ n a=>
    intro i hi;rw[bt,aQ]
    by_cases hl:i<zs.size
    .rw[ah (by simpa using hl),eR hl];simp[hl]
    .rw[ai (by simpa using hl)];have:i-zs.size<n*zs.size:=by rw[bh]at hi;omega
     rw[show i-zs.toList.length=i-zs.size by simp,a _ this,<-Nat.mod_eq_sub_mod (by omega)]
  rw[key n i hi];rfl
 .simp_all
theorem aji(h:gf G c H w){al:Al}(gQ:mC H al)(Z:kq c w env a){t e:TypeId}{sz n:Nat}{z:List D}{ops:Array (Nat×Operand)}{ps:List (Nat×X)}
  (W:P.underlying t=some (.slice e)) (V:qb P e=some z) (hs:jU P e=some sz) (k:ya G ops.toList=some ps) (N:z.length=sz) (U:0<sz) (mA:n*sz<=16777216)
  (f:Ee env e sz z n ps al K):∃r w',(Instr.buildSlice t n (ops.map λ(i,x)=>(i,a.eval x))).run P w = .ok r w'/\iJ G c H w K r w':=by
 unfold Ee at f;split at f
 .rename_i l hl;split at f
  .rename_i cs E;obtain⟨b,O,_,B⟩:=zk V w;obtain⟨C,T⟩:=Kf h Z ops.toList k;obtain⟨S,R⟩:=QN hl;have Q:b.cells.size=sz:=by have:=(B c w).len;simp at this;omega
   have M:Cells c w ((Array.range (n*sz)).map (λi=>b.cells[i % b.cells.size]!)).toList (List.replicate n z).flatten:=by rw[<-Q,Mv b.cells n (by omega)];exact K4 _ _ B n
   obtain⟨d,j,s⟩:=KY (c:=c) (w:=w) (λi=>some (i*sz,sz)) (ops.toList.map λx=>(x.1,a.eval x.2)) l _ _ cs M (by simp[S,C]) (λi x q I Fw=>by
    simp only[ar,aj]at I;obtain⟨y,F,rfl⟩:=I;have hi:i<ops.toList.length:=(ae.1 F).1;obtain⟨p,A⟩:=K9 C hi;obtain⟨e1,e2⟩:=T i y p F A;obtain⟨e4,e5,e6⟩:=R i (p.1*sz,sz,p.2) q (by simp[A]) Fw
    exact⟨by simp[e4,e5,e1],BZ e2 e6⟩) E
   have g:d.size=n*sz:=by
    have h1:=s.len
    have u:cs.length=(List.replicate n z).flatten.length:=by
     clear f s j h1 M
     have key:∀(ps:List (Nat×Nat×List D)) (cs rs:List D),lay ps cs=some rs->rs.length=cs.length:=by
      intro ps
      induction ps with
      | nil=>intro cs rs h;simp[lay]at h;subst h;rfl
      | cons p ps ih=>
       intro cs rs h;obtain⟨o,m,xs⟩:=p;simp only[lay]at h;split at h
       .grind
       .cases h
     exact key _ _ _ E
    rw[u]at h1;simp[N]at h1;exact h1
   obtain⟨L,h1,u,h3,h4,h5,h6⟩:=C8 h w (jJ.refl w) e d.toList cs d.size d (gQ _).th s (by rw[<-cU,cQ]) (Nat.le_refl _);refine⟨.slice (some ⟨w.heap.size,0,none⟩) n n,w.alloc (.cells d e),?_,?_⟩
   .have v:¬n*sz>2 ^ 24:=by omega
    simp only[Instr.buildSlice,Sem.run_bind,run_underlying W,Result.andThen_ok,pZ hs,Sem.run_ite];rw[if_neg v];have J:(Array.map (λx=>(x.fst,a.eval x.snd)) ops).toList=ops.toList.map λx=>(x.1,a.eval x.2):=by simp
    by_cases h0:n*sz=0
    .have Y:n=0:=by rcases Nat.mul_eq_zero.1 h0 with h|h<;>omega
     subst Y;simp only[cI]at j;simp only[cI,if_true,Sem.run_pure,Result.andThen_ok,J];have e0:(Array.map (λx=>(#[]:Array Value)[x % (#[]:Array Value).size]!) (Array.range 0))=Array.map (λi=>b.cells[i % b.cells.size]!) (Array.range 0):=by simp
     rw[e0,j];simp[newRow]
    .rw[if_neg h0];simp only[Sem.run_bind,O,Result.andThen_ok,Sem.run_pure,J,j];simp[newRow]
   .have k:=Gi (c:=c) (w:=w.alloc (.cells d e)) h1 h3 al.1 0 sz n n (by rw[h4,g]) (Nat.le_refl _) (by
     have:n<=n*sz:=Nat.le_mul_of_pos_right n U
     unfold maxLen;omega)
    rw[u]at k;exact⟨_,_,_,f,h5,k,h6⟩
  .exact f.elim
 .grind
theorem akK{t:TypeId}{n:Nat}(hs:jU P t=some n){v:Value}(a:v.cells.size=n)(b o:Nat) :
  (Instr.storeAt t (.pointer (some ⟨b,o,none⟩)) v).run P w=(storeCells ⟨b,o,none⟩ v.cells.toList).run P w:=by
 simp[Instr.storeAt,Instr.sureAddr,storeVar,pZ hs,a]
theorem Xl(h:gf G c H w){v g o:Nat}{t b:TypeId}{cs xs:List D}(l:H[v]? = some (.row b g cs)){u x:Value}(C:fF c w u (.ptr v g o)){n:Nat}(hs:jU P t=some n)
  (e:Cells c w x.cells.toList xs) (E:xs.length=n) (Q:o+n<=cs.length) (F:K .any (H.set v (.row b g (cs.take o++xs++cs.drop (o+n))))) :
  ∃w',(Instr.storeAt t u x).run P w = .ok () w'/\iJ G c H w K undef w':=by
 cases C with
 | ptr _ _ _ L r p=>
  obtain⟨a,h1,N,R,M⟩:=xD h l r p;have j:x.cells.size=n:=by have:=e.len;simp at this;omega
  have q:=run_storeCells_at P L.b (L.base+o) b x.cells.toList 0 a w h1 (by simp;omega) e.one;simp only[cd]at q
  have k:=DB h l r p h1 (a.toList.take (L.base+o)++x.cells.toList++a.toList.drop (L.base+o+x.cells.toList.length)).toArray
   (by simp;omega) N (cs.take o++xs++cs.drop (o+n)) (by simp;omega) (λi d m=>by
    have s:=M.rG e o;rw[E]at s;obtain⟨y,B,J,I⟩:=s.get m;refine⟨y,?_,J,I⟩;rw[<-B];simp only[db];have f:x.cells.toList.length=n:=by simpa using j
    have z:(List.take (L.base+o) a.toList).length=L.base+o:=by simp;omega
    have A:(List.take o (List.take cs.length (List.drop L.base a.toList))).length=o:=by simp;omega
    by_cases S:i<o
    .grind
    .by_cases c2:i<o+n
     .grind
     .have O:i<cs.length:=by have:=(ae.1 m).1;simp at this;omega
      rw[ai (by simp;omega),ai (by simp;omega)];simp only[aH,aC,au,z,A,f];rw[if_pos (by omega)];congr 1
      omega)
  exact⟨_,by rw[akK hs j];exact q,.any,_,c,F,k.1,.any _,k.2⟩
theorem ajL(h:gf G c H w){t:TypeId}(hs:jU P t=some 1){p x:D}{u v:Value}(h1:fF c w u p)(d:fF c w v x)(a:GV p x H K) :
  ∃w',(Instr.storeAt t u v).run P w = .ok () w'/\iJ G c H w K undef w':=by
 unfold GV at a;split at a
 .rename_i v0 k o;split at a
  .rename_i j cs f;obtain⟨g,i,a⟩:=a;have b:=te f;dsimp only at b;refine Xl h b h1 hs (BZ d (ajO i)) rfl (by omega) ?_
   have e:cs.take o ++ [x]++cs.drop (o+1)=cs.set o x:=by rw[cP,if_pos g];simp
   rw[e];exact a
  .exact a.elim
 .grind
theorem ajM(h:gf G c H w){t:TypeId}{n:Nat}(hs:jU P t=some n){p x:D}{u v:Value}(h1:fF c w u p)(e:fF c w v x)(a:GX n p x H K) :
  ∃w',(Instr.storeAt t u v).run P w = .ok () w'/\iJ G c H w K undef w':=by
 unfold GX at a;split at a
 .rename_i v' j o xs g;split at a
  .rename_i i cs f;obtain⟨d,b,a⟩:=a;exact Xl h (te f) h1 hs (BZ e g) d b a
  .exact a.elim
 .grind
theorem ajr(h:gf G c H w){t:TypeId}{f n:Nat}{fs:Array Field}{a:Field}(j:P.underlying t=some (.struct fs))(k:fs[f]? = some a)(hs:jU P a.type=some n)(s:0<n)
  {x:D} {u:Value} (h1:fF c w u x) (d:EJ a.offset x H K):∃r,(Instr.fieldAt t u f).run P w = .ok r w/\iJ G c H w K r w:=by
 have e:∀b o,(Instr.fieldAt t (.pointer (some ⟨b,o,none⟩)) f).run P w = .ok (.pointer (some ⟨b,o+a.offset,none⟩)) w:=λb o=>by simp only[Instr.fieldAt,Sem.run_bind,run_underlying j,Result.andThen_ok,k];simp only[Instr.sureAddr,Sem.run_pure,Result.andThen_ok,fieldPlace,Sem.run_bind,pZ hs,Sem.run_ite];rw[if_neg (by omega)];simp[Addr.add_lit]
 unfold EJ at d;split at d
 .rename_i v g o
  cases h1 with
  | ptr _ _ _ L q i=>
   refine⟨_,e _ _,.plain h d ?_⟩;have:=fF.ptr (c:=c) (w:=w) v g (o+a.offset) L q i;rwa [<-aW]at this
 .obtain⟨b,p,rfl,m,l⟩:=yd h1;exact⟨_,e _ _,.plain h d (Oh m (l.drop _))⟩
 .grind
theorem Xj(h:gf G c H w){t:TypeId}{n:Nat}{b:Bool}(f:oj P t=some b)(hs:jU P t=some n){vs:List Value}{cs:List D}(e:Cells c w vs cs){off:Nat}
  (a:zY off n b (.agg cs) H K):∃r,(part t vs.toArray off).run P w = .ok r w/\iJ G c H w K r w:=by
 simp only[zY]at a
 cases b with
 | true=>
  simp only[if_true]at a;refine⟨.agg ((vs.drop off).take n).toArray,?_,.plain h a.2 ((e.drop off).take n).agg⟩;simp[part,Bo f,pZ hs,List.extract_toArray,List.take_drop]
 | false=>
  simp only[bq,if_false]at a;split at a
  .rename_i d j;obtain⟨v,g,_,i⟩:=e.get j;refine⟨v,?_,.plain h a i⟩;simp[part,Bo f,g]
  .grind
theorem ajq(h:gf G c H w){t:TypeId}{f n:Nat}{b:Bool}{fs:Array Field}{a:Field}(g:P.underlying t=some (.struct fs))(k:fs[f]? = some a)(l:oj P a.type=some b)(hs:jU P a.type=some n)
  {x:D} {u:Value} (h1:fF c w u x) (d:zY a.offset n b x H K):∃r,(Instr.field t u f).run P w = .ok r w/\iJ G c H w K r w:=by
 have e:∃cs,x = .agg cs:=by cases x<;>first|exact⟨_,rfl⟩|exact(show False from d).elim
 obtain⟨cs,rfl⟩:=e
 cases h1 with
 | agg vs _ hl h1 m=>
  obtain⟨r,i,j⟩:=Xj h l hs ⟨hl,h1,m⟩ d;exact⟨r,by simp[Instr.field,run_underlying g,k,asAgg,i],j⟩
theorem ajt(h:gf G c H w){t e:TypeId}{sz:Nat}(N:P.underlying t=some (.slice e))(hs:jU P e=some sz)(V:0<sz){x i:D}{u v:Value}(h1:fF c w u x)(s:fF c w v i)(a:FM sz x i H K) :
  ∃r,(Instr.indexAt t u v).run P w = .ok r w/\iJ G c H w K r w:=by
 have y:∀(ad:Addr) (len cap:Nat) (k:IntKind) (n:Int),0<=n/\n<len->(Instr.indexAt t (.slice (some ad) len cap) (.int k n)).run P w = .ok (.pointer (some (ad.add (n.toNat*sz)))) w:=λad len cap k n f=>by simp only[Instr.indexAt,Sem.run_bind,asIntOf,Sem.run_pure,Result.andThen_ok,run_underlying N,pZ hs,Sem.run_ite];rw[if_pos f]
 unfold FM at a;split at a
 .rename_i z es k n;obtain⟨rfl,f,a⟩:=a;cases s
  cases h1 with
  | sl ad len cap _ _ g E I C J B p O=>
   have hi:n.toNat<es.length:=by omega
   cases ad with
   | none=>have:=B rfl;omega
   | some ad=>
    refine⟨_,y ad len cap k n ⟨f.1,by omega⟩,.plain h a ?_⟩;have m:es[n.toNat]? = some es[n.toNat]:=by simp[hi]
    have A:es.getD n.toNat []=es[n.toNat]:=by simp[hi]
    rw[A];have hl:es[n.toNat].length=z:=J _ (bK hi);obtain⟨d0,F⟩:∃d0,es[n.toNat][0]? = some d0:=⟨es[n.toNat][0]'(by omega),by simp⟩;obtain⟨b,o,e,q,_,_⟩:=p n.toNat _ 0 d0 m F;cases e;rw[Addr.add_lit];refine .fV b (o+n.toNat*z) _ (g n.toNat) q (λj d l=>?_) (λj d l=>O _ _ j d m l);obtain⟨X,o',e,_,R,Q⟩:=p n.toNat _ j d m l;cases e;exact⟨by rw[aW];exact R,Q⟩
 .rename_i vs k n;obtain⟨rfl,f,a⟩:=a;cases s
  cases h1 with
  | lD ad _ C B p=>
   have hi:n.toNat<vs.length:=by omega
   have m:vs[n.toNat]? = some vs[n.toNat]:=by simp[hi]
   have A:vs.getD n.toNat undef=vs[n.toNat]:=by simp[hi]
   obtain⟨b,o,e,q,T,h1⟩:=p _ _ m;subst e;refine⟨_,y _ vs.length vs.length k n f,.plain h a ?_⟩;rw[A,Addr.add_lit];refine .fV b (o+n.toNat*1) _ (λ_=>vs[n.toNat]) q (λj d l=>?_) (λj d l=>?_)
   .grind
   .have:j=0:=by have:=(ae.1 l).1;simp at this;exact this
    subst this;cases l;exact .val _
 .rename_i v0 W z off len k n;obtain⟨rfl,f,a⟩:=a;cases s
  cases h1 with
  | fy _ _ _ _ _ cap L S M I C U=>
   refine⟨_,y _ len cap k n f,.plain h a ?_⟩;rw[Addr.add_lit,aW,<-bh];exact .ptr _ _ _ L S M
  | l3=>omega
 .exact a.elim
end
end Go.AL
namespace Go.AL
open Go
section
variable{P:Program}{G:GT}{c:Ctx}{H:U}{w:World}{K:ji}{env:gD}{a:Act}
theorem aju(h:gf G c H w){t e:TypeId}{sz n:Nat}(l:P.underlying t=some (.array n e))(hs:jU P e=some sz){x i:D}{u v:Value}(h1:fF c w u x)(f:fF c w v i)(a:FN sz n x i H K) :
  ∃r,(Instr.indexAt t u v).run P w = .ok r w/\iJ G c H w K r w:=by
 have g:∀(ad:Addr) (k:IntKind) (m:Int),0<=m/\m<n->(Instr.indexAt t (.pointer (some ad)) (.int k m)).run P w = .ok (.pointer (some (ad.add (m.toNat*sz)))) w:=λad k m d=>by simp only[Instr.indexAt,Sem.run_bind,asIntOf,Sem.run_pure,Result.andThen_ok,run_underlying l,pZ hs,Sem.run_ite,Instr.sureAddr];rw[if_pos d]
 unfold FN at a;split at a
 .rename_i v0 z o k m;obtain⟨d,a⟩:=a;cases f
  cases h1 with
  | ptr _ _ _ L y j=>
   refine⟨_,g _ k m d,.plain h a ?_⟩;rw[Addr.add_lit,aW];exact .ptr _ _ _ L y j
 .rename_i cs k m;obtain⟨d,a⟩:=a;cases f;obtain⟨b,p,rfl,s,q⟩:=yd h1;refine⟨_,g _ k m d,.plain h a ?_⟩;rw[Addr.add_lit];exact Oh s (q.drop _)
 .exact a.elim
theorem ajs(h:gf G c H w){t e:TypeId}{sz n:Nat}{b:Bool}(f:P.underlying t=some (.array n e))(hs:jU P e=some sz)(o:oj P e=some b){x i:D}{u v:Value}(h1:fF c w u x)(d:fF c w v i)(a:FP sz n b x i H K) :
  ∃r,(Instr.index t u v).run P w = .ok r w/\iJ G c H w K r w:=by
 unfold FP at a;split at a
 .rename_i cs k m;obtain⟨l,a⟩:=a;cases d
  cases h1 with
  | agg vs _ hl h1 d=>
   obtain⟨r,g,j⟩:=Xj (off:=m.toNat*sz) h o hs ⟨hl,h1,d⟩ a;refine⟨r,?_,j⟩;simp only[Instr.index,Sem.run_bind,asIntOf,Sem.run_pure,Result.andThen_ok,run_underlying f,Sem.run_ite];rw[if_pos l];simp[pZ hs,g]
 .exact a.elim
theorem ajv(h:gf G c H w){t:TypeId}(d:P.underlying t=some .string){x i:D}{u v:Value}(h1:fF c w u x)(f:fF c w v i)(a:FQ x i H K) :
  ∃r,(Instr.index t u v).run P w = .ok r w/\iJ G c H w K r w:=by
 unfold FQ at a;split at a
 .rename_i s k m;obtain⟨e,a⟩:=a;cases h1;cases f;have b:m.toNat<s.size:=by omega
  have hl:s.data.toList.getD m.toNat 0=s[m.toNat]:=by have g:m.toNat<s.data.size:=b;show(s.data.toList[m.toNat]?).getD 0=s.data[m.toNat];rw[br,bX g];rfl
  rw[hl]at a;refine⟨_,?_,.val h a⟩;simp only[Instr.index,Sem.run_bind,asIntOf,Sem.run_pure,Result.andThen_ok,run_underlying d];rw[if_pos e.1];simp[b]
 .exact a.elim
theorem ajp(h:gf G c H w){x:D}{i:Nat}{u:Value}(h1:fF c w u x)(a:EG x i H K):∃r,(Instr.extract u i).run P w = .ok r w/\iJ G c H w K r w:=by
 unfold EG at a;split at a
 .split at a
  .rename_i ds d b
   cases h1 with
   | tup vs _ hl h1=>
    have hi:i<vs.length:=by rw[hl];exact(ae.1 b).1
    refine⟨vs[i],?_,.plain h a (h1 i _ d (by simp[hi]) b)⟩;simp[Instr.extract,hi]
  .exact a.elim
 .exact a.elim
theorem ajA(h:gf G c H w)(j:kq c w env a){f:Fn}{first cap:Array Operand}{b d:List X}(h1:wI G first.toList=some b)(m:wI G cap.toList=some d)
  (k:K (.fn f (b.map (ev env)) (d.map (ev env))) H):iJ G c H w K (.func f (first.map a.eval) (cap.map a.eval)) w:=by
 have i:=zH h j first.toList h1
 have g:=zH h j cap.toList m;refine .plain h k ?_;have:=fF.fn (c:=c) (w:=w) f (first.toList.map a.eval) (cap.toList.map a.eval) (b.map (ev env)) (d.map (ev env)) i.length g.length i.get g.get;have e:∀l:Array Operand,(l.toList.map a.eval).toArray=l.map a.eval:=λl=>by cases l;simp
 rwa [e,e]at this
theorem ajB(h:gf G c H w){al:Al}(f:mC H al)(t:TypeId)(kk:KK)(e:K (.gg al.1) (al.2 (.map kk []))):∃r w',(Instr.makeMap t none).run P w = .ok r w'/\iJ G c H w K r w':=by
 have a:=jJ.alloc w (.map #[] 0);have d:(⟨w.heap.size,0,0,false⟩:Loc).jr=false->w.heap.size<=(⟨w.heap.size,0,0,false⟩:Loc).b/\(⟨w.heap.size,0,0,false⟩:Loc).b<(w.alloc (.map #[] 0)).heap.size:=λ_=>⟨Nat.le_refl _,by simp⟩;have b:=(f (.map kk [])).th;have hs:=M3 h b a ⟨w.heap.size,0,0,false⟩ d;refine⟨.map (some w.heap.size),w.alloc (.map #[] 0),by simp[Instr.makeMap],_,_,_,e,Rz h b a _ d rfl ?_,?_,hs⟩
 .simp only[gK];exact⟨trivial,by simp,#[],0,heap_alloc_new _ _,⟨rfl,by simp,by simp⟩⟩
 .exact .gg (c:=c.set al.1 0 ⟨w.heap.size,0,0,false⟩) al.1 ⟨w.heap.size,0,0,false⟩ (Ctx.rE _ _ _ _) rfl
theorem ajC(h:gf G c H w){al:Al}(E:mC H al){t e:TypeId}{i:TypeInfo}{z:List D}(A:P.underlying t=some (.slice e))(hi:P.info? e=some i)(y:qb P e=some z)(U:z.length=i.size)(W:0<i.size)
  {l m:D} {u v:Value} (h1:fF c w u l) (C:fF c w v m) (b:F' e i.size i.bytes z l m al K):∃r w',(Instr.makeSlice t u v).run P w = .ok r w'/\iJ G c H w K r w':=by
 unfold F' at b;split at b
 .rename_i k n V q;obtain⟨⟨Z,B,X,Y⟩,b⟩:=b;cases h1;cases C;obtain⟨a,p,_,f⟩:=zk y w;have s:a.cells.size=i.size:=by have:=(f c w).len;simp at this;omega
  have wn:IntKind.i64.wrap n=n:=wrap_i64 (by unfold nq;omega);have o:IntKind.i64.wrap q=q:=wrap_i64 (by unfold nq;omega)
  have x:Cells c w ((Array.range (q.toNat*i.size)).map (λj=>a.cells[j % a.cells.size]!)).toList (List.replicate q.toNat z).flatten:=by rw[<-s,Mv a.cells q.toNat (by omega)];exact K4 _ _ f _
  obtain⟨L,Q,O,N,M,J,I⟩:=C8 h w (jJ.refl w) e _ _ ((Array.range (q.toNat*i.size)).map (λj=>a.cells[j % a.cells.size]!)).size ((Array.range (q.toNat*i.size)).map (λj=>a.cells[j % a.cells.size]!)) (E _).th x (by rw[<-cU,cQ]) (Nat.le_refl _);refine⟨.slice (some ⟨w.heap.size,0,none⟩) n.toNat q.toNat,w.alloc (.cells ((Array.range (q.toNat*i.size)).map (λj=>a.cells[j % a.cells.size]!)) e),?_,?_⟩
  .have T:¬((i.bytes:Int)*q>2 ^ 48):=by omega
   have c2:¬q<0:=by omega
   have S:¬n<0:=by omega
   have R:¬n>q:=by omega
   simp only[Instr.makeSlice,Sem.run_bind,run_underlying A,Result.andThen_ok,asInt,asIntOf,Sem.run_pure,run_typeInfo hi,wn,o,Sem.run_ite];rw[if_neg (by simp[T,c2,S,R];omega)]
   by_cases h0:q.toNat*i.size=0
   .have d:q.toNat=0:=by rcases Nat.mul_eq_zero.1 h0 with h|h<;>omega
    have F:Array.range 0=(#[]:Array Nat):=rfl;simp[sizeOf,run_typeInfo hi,d,newRow,F]
   .simp[sizeOf,run_typeInfo hi,h0,p,newRow]
  .have g:=Gi (c:=c) (w:=w.alloc (.cells ((Array.range (q.toNat*i.size)).map (λj=>a.cells[j % a.cells.size]!)) e)) Q N al.1 0 i.size n.toNat q.toNat (by rw[M];simp) (by omega) (by unfold maxLen;omega);rw[O]at g;exact⟨_,_,_,b,J,g,I⟩
 .exact b.elim
end
end Go.AL
namespace Go.AL
open Go
section
variable{P:Program}{G:GT}{c:Ctx}{H:U}{w:World}{K:ji}{env:gD}{a:Act}
theorem K2{α:Type}(sz:Nat)(c:0<sz):∀(ls:List (List α)),(∀l∈ls,l.length=sz)->∀j:Nat,ls.flatten[j]? = (ls[j / sz]?).bind (·[j % sz]?)
 | [],_,j=>by simp
 | l::ls,h,j=>by
  have hl:l.length=sz:=h l (by simp);rw[aQ]
  by_cases d:j<sz
  .rw[ah (by omega),Nat.div_eq_of_lt d,eR d];simp
  .rw[ai (by omega),hl,K2 sz c ls (λl hl=>h l (by simp[hl])),Nat.div_eq_sub_div (a:=j) (b:=sz) c (by omega),Nat.mod_eq_sub_mod (a:=j) (b:=sz) (by omega)];simp
theorem K3{α:Type}(sz:Nat):∀(ls:List (List α)),(∀l∈ls,l.length=sz)->ls.flatten.length=ls.length*sz
 | [],_=>by simp
 | l::ls,h=>by rw[aQ,au,K3 sz ls (λl hl=>h l (by simp[hl])),h l (by simp),aG,bh];omega
theorem Rt(h:gf G c H w){sz:Nat}(R:0<sz){d:D}{u:Value}(p:fF c w u d){x:List D}{n:Nat}(f:ko sz H d=some (x,n)) :
  ∃y E vs,u = .slice y n E/\Cells c w vs x/\x.length=n*sz/\n<=E/\(y=none->n=0)/\(∀ad,y=some ad->∀(j:Nat) (v:Value),vs[j]? = some v->w.cell? (ad.add j)=some v):=by
 unfold ko at f;split at f
 .rename_i k es;split at f
  .rename_i e;subst e;cases f
   cases p with
   | sl ad len cap _ _ g q I M J A r p=>
    have Fh:=K3 k es J
    have K:∀(j:Nat) (d:D),es.flatten[j]? = some d->∃e,es[j / k]? = some e/\e[j % k]? = some d:=λj d l=>by
     rw[K2 k R es J]at l
     cases N:es[j / k]? with
     | none=>simp[N]at l
     | some e=>exact⟨e,rfl,by simpa[N]using l⟩
    refine⟨ad,cap,(List.range es.flatten.length).map λj=>g (j / k) (j % k),by rw[q],⟨by simp,λv a=>?_,λi v d a l=>?_⟩,Fh,by omega,λe=>by have:=A e;omega,λb m j v a=>?_⟩
    .simp only[aq,a8]at a;obtain⟨j,s,rfl⟩:=a;obtain⟨e,C,z⟩:=K j _ (by rw[List.getElem?_eq_getElem s]);obtain⟨_,_,_,_,_,h1⟩:=r _ e _ _ C z;exact h1
    .grind
    .have s:j<es.flatten.length:=by have:=(ae.1 a).1;simpa using this
     simp only[ar,bE s,aD,ao]at a;subst a;obtain⟨e,C,z⟩:=K j _ (by rw[List.getElem?_eq_getElem s]);obtain⟨Y,o,F,_,O,_⟩:=r _ e _ _ C z;rw[m]at F;cases F;rw[Addr.add_lit];have B:=O;rw[Nat.div_add_mod' j k]at B;exact B
  .cases f
 .cases f
  cases p with
  | fJ=>exact⟨none,0,[],rfl,Cells.nil,by simp,Nat.le_refl _,λ_=>rfl,λ_ _ j v a=>by simp at a⟩
 .rename_i vs;split at f
  .rename_i X;subst X;cases f
   cases p with
   | lD ad _ M A r=>
    refine⟨ad,vs.length,vs,rfl,⟨by simp,λv a=>?_,λi v d a l=>?_⟩,by simp,Nat.le_refl _,λe=>by rw[A e];rfl,λb m j v a=>?_⟩
    .obtain⟨i,hi⟩:=List.getElem?_of_mem a;obtain⟨_,_,_,_,_,h1⟩:=r i v hi;exact h1
    .simp only[ar,a,aD,ao]at l;subst l;exact .val _
    .obtain⟨Y,o,T,_,Q,_⟩:=r j v a;rw[T]at m;cases m;rw[Addr.add_lit];exact Q
  .cases f
 .rename_i v0 g0 k off len;split at f
  .rename_i t cs V;split at f
   .rename_i S;obtain⟨rfl,mA⟩:=S;cases f;have a:=te V;dsimp only at a
    cases p with
    | fy _ _ _ _ _ cap L P W I M l9=>
     obtain⟨Z,h1,O,B,U⟩:=xD h a P W;refine⟨_,cap,_,rfl,((U.drop (off*k)).take (n*k)),?_,I,(λe=>nomatch e),λad m j v a=>?_⟩
     .grind
     .cases m;rw[Addr.add_lit];rw[aC]at a;split at a
      .rw[aH,aC]at a;split at a
       .rw[aH]at a;simp[World.cell?,h1];rw[aW];simpa using a
       .cases a
      .cases a
    | l3 _ _ _ _ L P ad=>
     refine⟨ad,0,[],rfl,?_,by simp,Nat.le_refl _,λ_=>rfl,λ_ _ j v a=>by simp at a⟩;simp only[cI,dC];exact Cells.nil
   .cases f
  .cases f
 .cases f
theorem SQ:∀ {vs:List Value} {a:List D} {b:List Int},vs.length=a.length->(∀(i:Nat) (v:Value) (d:D),vs[i]? = some v->a[i]? = some d->fF c w v d)->bytesOf a=some b->vs=b.map (Value.int .u8)
 | [],[],b,_,_,h=>by cases h;rfl
 | v::vs,y::a,b,hl,hr,h=>by
  unfold bytesOf at h;split at h
  .grind
  .rename_i n r f;cases f;split at h
   .rename_i l g;cases h;have h0:=hr 0 v _ rfl rfl;cases h0;have e:=SQ (vs:=vs) (by simpa using hl) (λi v d j k=>hr (i+1) v d (by simpa using j) (by simpa using k)) g;rw[e];rfl
   .cases h
  .cases h
theorem aje(h:gf G c H w){s d e:TypeId}(hs:P.underlying s=some (.slice e))(p:P.underlying e=some (.int .u8))(q:P.underlying d=some .string){x:D}{u:Value}(h1:fF c w u x)(a:Ea x H K) :
  ∃r,(convert s d u).run P w = .ok r w/\iJ G c H w K r w:=by
 unfold Ea at a;split at a
 .rename_i z n l;obtain⟨j,i,vs,m,b,k,A,v,y⟩:=Rt h (by omega) h1 l;subst m;split at a
  .rename_i f t;have g:=SQ b.len b.rep t;refine⟨_,?_,.val h a⟩;rw[run_convert_bytes_string w s d e j n i hs p q]
   cases j with
   | none=>
    have o:=v rfl;subst o
    have:f = []:=by
     have:vs = []:=bg (by rw[b.len,k]);rw[this]at g
     cases f with
     | nil=>rfl
     | cons=>cases g
    subst this;simp[Conv.bytesToString]
   | some ad=>
    refine run_bytesToString w ad n i f ?_;have hl:vs.length=n:=by rw[b.len,k];simp
    have:=run_loadCells_list (P:=P) w ad vs (y ad rfl);rw[hl]at this;rw[this,g]
  .exact a.elim
 .grind
theorem ZH(h:gf G c H w)(i:kq c w env a){x:Option Operand}{X:Option X}(e:rj G x=some X){d:Int}{n:Int}(b:gN env X d=some n) :
  (x=none/\n=d)\/∃k o,x=some o/\a.eval o = .int k n:=by
 cases x with
 | none=>cases e;simp[gN]at b;exact .inl ⟨rfl,b.symm⟩
 | some o=>
  simp only[rj,aj]at e;obtain⟨j,hX,rfl⟩:=e;have:=iv h i hX;simp only[gN]at b;split at b
  .rename_i k m f;cases b;rw[f]at this;generalize g:a.eval o=v at this;cases this;exact .inr ⟨k,o,rfl,g⟩
  .cases b
theorem MH(a:Bool)(len cap:Nat)(lo hi:Option Value)(l h:Int)(d:(lo=none/\l=0)\/∃k,lo=some (.int k l))(e:(hi=none/\h=len)\/∃k,hi=some (.int k h))
  (h0:0<=l) (h1:l<=h) (c:h<=cap):(Instr.sliceBounds a len cap lo hi none).run P w = .ok (l.toNat,h.toNat,cap) w:=by
 have f:(h.toNat:Int)=h:=bV (by omega);rcases d with⟨rfl,rfl⟩|⟨k,rfl⟩<;>rcases e with⟨rfl,rfl⟩|⟨b,rfl⟩
 .simp[Instr.sliceBounds]
 .simp[Instr.sliceBounds,run_sliceBound w b h cap _ (by omega) c]
 .simp[Instr.sliceBounds,run_sliceBound w k l len _ h0 h1]
 .simp[Instr.sliceBounds,run_sliceBound w b h cap _ (by omega) c,run_sliceBound w k l h.toNat _ h0 (by omega)]
theorem ua(h:gf G c H w)(e:kq c w env a){x:Option Operand}{X:Option X}(b:rj G x=some X){d:Int}{n:Int}(f:gN env X d=some n) :
  (x.map a.eval=none/\n=d)\/∃k,x.map a.eval=some (.int k n):=by
 rcases ZH h e b f with⟨rfl,rfl⟩|⟨k,o,rfl,g⟩
 .grind
 .grind
theorem ajJ(h:gf G c H w)(E:kq c w env a){t e:TypeId}{sz:Nat}(U:P.underlying t=some (.slice e))(hs:jU P e=some sz){lo hi:Option Operand}{L M:Option X}(hl:rj G lo=some L)(W:rj G hi=some M)
  {x:D} {u:Value} (h1:fF c w u x) (f:GQ env sz x L M H K):∃r,(Instr.sliceAt t u (lo.map a.eval) (hi.map a.eval) none).run P w = .ok r w/\iJ G c H w K r w:=by
 have y:∀(b:Option Addr) (len cap:Nat) (l m:Int),gN env L 0=some l->gN env M len=some m->0<=l->l<=m->m<=cap ->
   (Instr.sliceAt t (.slice b len cap) (lo.map a.eval) (hi.map a.eval) none).run P w = .ok (.slice (if cap=l.toNat then b else b.map (·.add (l.toNat*sz))) (m.toNat-l.toNat) (cap-l.toNat)) w:=by
  intro b len cap l m n k h0 p Po;have hb:=MH (P:=P) (w:=w) true len cap (lo.map a.eval) (hi.map a.eval) l m (ua h E hl n) (ua h E W k) h0 p Po;simp only[Instr.sliceAt,Sem.run_bind,run_underlying U,Result.andThen_ok,Instr.slice,hb,pZ hs,Sem.run_pure]
 unfold GQ at f;split at f
 .rename_i q es;split at f
  .rename_i l m n k;obtain⟨rfl,⟨h0,p,J⟩,f⟩:=f
   cases h1 with
   | sl ad len cap _ _ g s O S Q kU Z hr=>
    refine⟨_,y ad len cap l m n (by rw[<-s];exact k) h0 p (by omega),.plain h f ?_⟩;have R:∀(i:Nat) (e:List D),((es.drop l.toNat).take (m.toNat-l.toNat))[i]? = some e->es[l.toNat+i]? = some e/\i<m.toNat-l.toNat:=λi e hi=>by grind
    refine .sl _ _ _ q _ (λi j=>g (l.toNat+i) j) (by simp;omega) (by omega) (by omega) (λe I=>Q e (bj (aN I))) ?_ ?_ ?_
    .intro V;split at V
     .omega
     .simp_all
    .intro i e j d hi Y;obtain⟨h3,h4⟩:=R i e hi;obtain⟨b,o,F,hF,mc,h1⟩:=Z _ e j d h3 Y;refine⟨b,o+l.toNat*q,?_,hF,?_,h1⟩
     .rw[if_neg (by omega),F];simp[Addr.add_lit]
     .grind
    .grind
  .exact f.elim
 .rename_i v B q off len;split at f
  .rename_i l m n k;obtain⟨rfl,⟨h0,p,J⟩,f⟩:=f
   cases h1 with
   | fy _ _ _ _ _ cap A z T O S N=>
    refine⟨_,y _ len cap l m n k h0 p (by omega),.plain h f ?_⟩
    by_cases C:cap=l.toNat
    .rw[if_pos C,show m.toNat-l.toNat=0 by omega,show cap-l.toNat=0 by omega];exact .l3 v B q (off+l.toNat) A z _
    .rw[if_neg C];have:=fF.fy (c:=c) (w:=w) v B q (off+l.toNat) (m.toNat-l.toNat) (cap-l.toNat) A z T (by omega) (by omega) (by rw[show off+l.toNat+(cap-l.toNat)=off+cap by omega];exact N);simp only[aD,Addr.add_lit];rw[aW,<-bh];exact this
   | l3 _ _ _ _ A z ad=>
    have:l=0:=by omega
    subst this;have:m=0:=by omega
    subst this;refine⟨_,y ad 0 0 0 0 n k h0 p (by omega),.plain h f ?_⟩;simp only[eu,if_true,eS,cd];exact .l3 v B q off A z ad
  .exact f.elim
 .split at f
  .rename_i l m n k;obtain⟨⟨rfl,rfl⟩,f⟩:=f
   cases h1 with
   | fJ=>
    refine⟨_,y none 0 0 0 0 n k (by omega) (by omega) (by omega),.plain h f ?_⟩;simp only[eu,if_true,eS];exact .fJ
  .exact f.elim
 .grind
theorem akJ(a:Bool)(len cap:Nat)(lo:Option Value)(k b:IntKind)(l h m:Int)(d:(lo=none/\l=0)\/∃k,lo=some (.int k l))
  (h0:0<=l) (h1:l<=h) (e:h<=m) (c:m<=cap):(Instr.sliceBounds a len cap lo (some (.int k h)) (some (.int b m))).run P w = .ok (l.toNat,h.toNat,m.toNat) w:=by
 have em:(m.toNat:Int)=m:=bV (by omega);rcases d with⟨rfl,rfl⟩|⟨k0,rfl⟩
 .simp[Instr.sliceBounds,run_sliceBound w b m cap _ (by omega) c,run_sliceBound w k h m.toNat _ (by omega) (by omega)]
 .simp[Instr.sliceBounds,run_sliceBound w b m cap _ (by omega) c,run_sliceBound w k h m.toNat _ (by omega) (by omega),run_sliceBound w k0 l h.toNat _ h0 (by omega)]
theorem YM:∀ {es:List (List D)} {vs:List Value},Dz es=some vs->es=vs.map (λv=>[.val v])/\∀v∈vs,v.oneCell'=true
 | [],vs,h=>by cases h;exact⟨rfl,by simp⟩
 | e::es,vs,h=>by
  unfold Dz at h;split at h
  .grind
  .rename_i v r a;cases a;split at h
   .rename_i h1;split at h
    .rename_i l hl;cases h;obtain⟨b,d⟩:=YM hl;exact⟨by rw[b];rfl,λv c=>by grind⟩
    .cases h
   .cases h
  .cases h
theorem aag{ad:Option Addr}{len sz:Nat}{es:List (List D)}(h1:fF c w (.slice ad len len) (.sl sz es)):fF c w (.slice ad len len) (clip sz es):=by
 unfold clip;split
 .rename_i vs h;split
  .rename_i t;subst t;obtain⟨s,z⟩:=YM h;subst s
   cases h1 with
   | sl _ _ _ _ _ g a x j y f n l=>
    simp only[List.length_map]at a;subst a;refine .lD ad vs j (λe=>az.1 (f e)) λi v k=>?_;have hi:(vs.map λv=>[D.val v])[i]? = some [.val v]:=by simp[k]
    obtain⟨b,o,p,q,d,h1⟩:=n i _ 0 _ hi rfl;have hg:=l i _ 0 _ hi rfl
    have r:g i 0=v:=by generalize m:g i 0=u at hg;cases hg;rfl
    rw[r]at d h1;exact⟨b,o,p,q,by simpa using d,h1⟩
  .exact h1
 .exact h1
theorem ajH(h:gf G c H w)(I:kq c w env a){t e:TypeId}{sz:Nat}(hu:P.underlying t=some (.slice e))(hs:jU P e=some sz){lo:Option Operand}{hi mx:Operand}{L:Option X}{M N:X}(hl:rj G lo=some L)(hm:cX G hi=some M)(B:cX G mx=some N)
  {x:D} {u:Value} (h1:fF c w u x) (n:GN env sz x L M N H K):∃r,(Instr.sliceAt t u (lo.map a.eval) (some (a.eval hi)) (some (a.eval mx))).run P w = .ok r w/\iJ G c H w K r w:=by
 have C:∀(b:Option Addr) (len cap:Nat) (l f m:Int),gN env L 0=some l->gN env (some M) 0=some f->gN env (some N) 0=some m->0<=l->l<=f->f<=m->m<=cap ->
   (Instr.sliceAt t (.slice b len cap) (lo.map a.eval) (some (a.eval hi)) (some (a.eval mx))).run P w = .ok (.slice (if m.toNat=l.toNat then b else b.map (·.add (l.toNat*sz))) (f.toNat-l.toNat) (m.toNat-l.toNat)) w:=by
  intro b len cap l f m s p z h0 q A Po
  obtain⟨k1,U⟩:∃k,a.eval hi = .int k f:=by
   rcases ua h I (x:=some hi) (X:=some M) (by simp only[rj,hm,aD]) p with⟨e,_⟩|⟨k,e⟩
   .cases e
   .grind
  obtain⟨k2,V⟩:∃k,a.eval mx = .int k m:=by
   rcases ua h I (x:=some mx) (X:=some N) (by simp only[rj,B,aD]) z with⟨e,_⟩|⟨k,e⟩
   .cases e
   .grind
  have hb:=akJ (P:=P) (w:=w) true len cap (lo.map a.eval) k1 k2 l f m (ua h I hl s) h0 q A Po;simp only[Instr.sliceAt,Sem.run_bind,run_underlying hu,Result.andThen_ok,Instr.slice,U,V,hb,pZ hs,Sem.run_pure]
 unfold GN at n;split at n
 .rename_i l f m s p z;split at n
  .rename_i y es;obtain⟨rfl,⟨h0,q,rfl,T⟩,n⟩:=n
   cases h1 with
   | sl ad len cap _ _ g Q Z iL ij Y hc hr=>
    refine⟨_,C ad len cap l f f s p z h0 q (Int.le_refl _) (by omega),.plain h n (aag ?_)⟩;have iZ:∀(i:Nat) (e:List D),((es.drop l.toNat).take (f.toNat-l.toNat))[i]? = some e->es[l.toNat+i]? = some e/\i<f.toNat-l.toNat:=λi e hi=>by grind
    refine .sl _ _ _ y _ (λi j=>g (l.toNat+i) j) (by simp;omega) (by omega) (by omega) (λe S=>ij e (bj (aN S))) ?_ ?_ ?_
    .intro B;split at B
     .omega
     .cases ad with
      | none=>have:=Y rfl;omega
      | some ad=>simp at B
    .intro i e j d hi hd;obtain⟨h3,h4⟩:=iZ i e hi;obtain⟨b,o,R,hF,mc,h1⟩:=hc _ e j d h3 hd;refine⟨b,o+l.toNat*y,?_,hF,?_,h1⟩
     .rw[if_neg (by omega),R];simp[Addr.add_lit]
     .grind
    .grind
  .rename_i v J y off len;obtain⟨rfl,⟨h0,q,A,T⟩,n⟩:=n
   cases h1 with
   | fy _ _ _ _ _ cap F E hv Z iL W=>
    refine⟨_,C _ len cap l f m s p z h0 q A (by omega),.plain h n ?_⟩
    by_cases O:m.toNat=l.toNat
    .rw[if_pos O,show f.toNat-l.toNat=0 by omega,show m.toNat-l.toNat=0 by omega];exact .l3 v J y (off+l.toNat) F E _
    .rw[if_neg O]
     have:=fF.fy (c:=c) (w:=w) v J y (off+l.toNat) (f.toNat-l.toNat) (m.toNat-l.toNat) F E hv (by omega) (by omega) (by
      refine Nat.le_trans (Nat.add_le_add_left (bk _ ?_) _) W
      omega)
     simp only[aD,Addr.add_lit];rw[aW,<-bh];exact this
   | l3 _ _ _ _ F E ad=>
    have:l=0:=by omega
    subst this;have:f=0:=by omega
    subst this;have:m=0:=by omega
    subst this;refine⟨_,C ad 0 0 0 0 0 s p z h0 q A (by omega),.plain h n ?_⟩;simp only[eu,if_true,eS,cd];exact .l3 v J y off F E ad
  .obtain⟨⟨rfl,rfl,rfl⟩,n⟩:=n
   cases h1 with
   | fJ=>
    refine⟨_,C none 0 0 0 0 0 s p z (by omega) (by omega) (by omega) (by omega),.plain h n ?_⟩;simp only[eu,if_true,eS];exact .fJ
  .exact n.elim
 .grind
theorem ajI(h:gf G c H w)(s:kq c w env a){t e:TypeId}{sz n:Nat}(S:P.underlying t=some (.array n e))(hs:jU P e=some sz){lo hi:Option Operand}{L M:Option X}(hl:rj G lo=some L)(U:rj G hi=some M)
  {x:D} {u:Value} (h1:fF c w u x) (f:GO env sz n x L M H K):∃r,(Instr.sliceAt t u (lo.map a.eval) (hi.map a.eval) none).run P w = .ok r w/\iJ G c H w K r w:=by
 unfold GO at f;split at f
 .rename_i cs l m B z;obtain⟨⟨rfl,Z,iL,h0,A,W⟩,f⟩:=f;obtain⟨b,p,rfl,hF,iV⟩:=yd h1;obtain⟨vs,N,kc⟩:=iV;have E:=MH (P:=P) (w:=w) false n n (lo.map a.eval) (hi.map a.eval) l m (ua h s hl B) (ua h s U z) h0 A (by omega)
  have I:(Instr.sliceAt t (.pointer (some ⟨b,p,none⟩)) (lo.map a.eval) (hi.map a.eval) none).run P w = .ok (.slice (some (if n=l.toNat then⟨b,p,none⟩else Addr.add ⟨b,p,none⟩ (l.toNat*1))) (m.toNat-l.toNat) (n-l.toNat)) w:=by simp only[Instr.sliceAt,Sem.run_bind,run_underlying S,Result.andThen_ok,Instr.sureAddr,E,pZ hs,Sem.run_pure]
  refine⟨_,I,.plain h f ?_⟩;have Q:∀(i:Nat) (e:List D),(((cs.drop l.toNat).take (m.toNat-l.toNat)).map λd=>[d])[i]? = some e->∃d,cs[l.toNat+i]? = some d/\e = [d]/\i<m.toNat-l.toNat:=λi e hi=>by grind
  refine .sl _ _ _ 1 _ (λi _=>vs.getD (l.toNat+i) undef) (by simp;omega) (by omega) (by unfold maxLen;omega) (λe py=>?_) (λe=>nomatch e) ?_ ?_
  .grind
  .intro i e j d hi y;obtain⟨d0,F,rfl,h4⟩:=Q i e hi;have C:j=0:=by have:=(ae.1 y).1;simp at this;exact this
   subst C;obtain⟨v,q,Y,O⟩:=N.get F;refine⟨b,p+l.toNat,?_,hF,?_,?_⟩
   .rw[if_neg (by omega),Addr.add_lit,ey]
   .grind
   .grind
  .intro i e j d hi y;obtain⟨d0,F,rfl,h4⟩:=Q i e hi;have C:j=0:=by have:=(ae.1 y).1;simp at this;exact this
   subst C;cases y;obtain⟨v,q,Y,O⟩:=N.get F;rw[List.getD_eq_getElem?_getD,q,aP];exact O
 .rename_i v g o l m B z;split at f
  .rename_i t' cs gw;obtain⟨⟨a5,Z,iL,h0,A,W⟩,f⟩:=f;have q:=te gw;dsimp only at q
   cases h1 with
   | ptr _ _ _ k J V=>
    obtain⟨a4,Am,Lr,U2,Ls⟩:=xD h q J V;have E:=MH (P:=P) (w:=w) false n n (lo.map a.eval) (hi.map a.eval) l m (ua h s hl B) (ua h s U z) h0 A (by omega)
    have I:(Instr.sliceAt t (.pointer (some ⟨k.b,k.base+o,none⟩)) (lo.map a.eval) (hi.map a.eval) none).run P w = .ok (.slice (some (if n=l.toNat then⟨k.b,k.base+o,none⟩else Addr.add ⟨k.b,k.base+o,none⟩ (l.toNat*sz))) (m.toNat-l.toNat) (n-l.toNat)) w:=by simp only[Instr.sliceAt,Sem.run_bind,run_underlying S,Result.andThen_ok,Instr.sureAddr,E,pZ hs,Sem.run_pure]
    refine⟨_,I,.plain h f ?_⟩;have T:o=o / sz*sz:=by have:=Nat.div_add_mod' o sz;omega
    by_cases R:n=l.toNat
    .rw[if_pos R,show m.toNat-l.toNat=0 by omega,show n-l.toNat=0 by omega];exact .l3 v g sz (o / sz+l.toNat) k J _
    .rw[if_neg R]
     have:=fF.fy (c:=c) (w:=w) v g sz (o / sz+l.toNat) (m.toNat-l.toNat) (n-l.toNat) k J V (by omega) (by unfold maxLen;omega) (by
      rw[show o / sz+l.toNat+(n-l.toNat)=o / sz+n by omega,bh,<-T]
      omega)
     rw[Addr.add_lit];rw[bh,<-T,<-aW]at this;exact this
  .exact f.elim
 .grind
theorem ajK(h:gf G c H w)(d:kq c w env a){t:TypeId}(j:P.underlying t=some .string){lo hi:Option Operand}{L M:Option X}(hl:rj G lo=some L)(k:rj G hi=some M)
  {s:ByteArray} (b:Dq env (.val (.string s)) L M H K):∃r,(Instr.sliceAt t (.string s) (lo.map a.eval) (hi.map a.eval) none).run P w = .ok r w/\iJ G c H w K r w:=by
 simp only[Dq]at b;split at b
 .rename_i l m i f;obtain⟨⟨h0,g,e⟩,b⟩:=b;have n:=MH (P:=P) (w:=w) false s.size s.size (lo.map a.eval) (hi.map a.eval) l m (ua h d hl i) (ua h d k f) h0 g e;exact⟨.string (s.extract l.toNat m.toNat),by simp[Instr.sliceAt,run_underlying j,Instr.slice,n],.val h b⟩
 .grind
theorem s6{v:Nat}{x:KK×List (Value×D)}(h:kY H v=some x):H[v]? = some (.map x.1 x.2):=by
 unfold kY at h;split at h
 .grind
 .cases h
theorem QJ(h:gf G c H w){t ty:TypeId}{k:zy}{d:TypeDesc}(f:P.underlying t=some d)(b:match k with | .slice=>∃e,d = .slice e | .string=>d = .string | .map=>∃k e,d = .map k e)
  {x:D} {u:Value} (h1:fF c w u x) (a:FY k x H K):∃r,(Builtin.len_ #[t] ty #[u]).run P w = .ok r w/\iJ G c H w K r w:=by
 unfold FY at a;split at a
 .obtain⟨e,rfl⟩:=b
  cases h1 with
  | sl ad len cap _ _ g i s o n q B F=>
   refine⟨goInt len,by simp[Builtin.len_,run_underlying f],.plain h a ?_⟩;rw[i];exact .val _
 .obtain⟨e,rfl⟩:=b
  cases h1 with
  | fJ=>exact⟨goInt 0,by simp[Builtin.len_,run_underlying f],.plain h a (.val _)⟩
 .rename_i vs;obtain⟨e,rfl⟩:=b
  cases h1 with
  | lD ad _ o q B=>exact⟨goInt vs.length,by simp[Builtin.len_,run_underlying f],.plain h a (.val _)⟩
 .rename_i v I sz off len;obtain⟨e,rfl⟩:=b
  cases h1 with
  | fy _ _ _ _ _ cap L p z s o E=>exact⟨goInt len,by simp[Builtin.len_,run_underlying f],.plain h a (.val _)⟩
  | l3=>exact⟨goInt 0,by simp[Builtin.len_,run_underlying f],.plain h a (.val _)⟩
 .have b:d = .string:=b;subst b;cases h1;exact⟨_,by simp[Builtin.len_,run_underlying f]<;>rfl,.plain h a (.val _)⟩
 .rename_i v;obtain⟨kk,e,rfl⟩:=b;split at a
  .rename_i C es y
   cases h1 with
   | gg _ L p z=>
    have j:=h.ob v _ (s6 y);simp only[Ob.gen]at j;rw[p]at j;simp only[gK]at j;obtain⟨_,_,m,l,A,n,_⟩:=j;refine⟨goInt m.size,by simp[Builtin.len_,run_underlying f,getObj,Sem.run,A],.plain h a ?_⟩;rw[<-n];exact .val _
  .exact a.elim
 .grind
theorem Xf(h:gf G c H w)(u:kq c w env a){xs:List X}{ops:Array Operand}(t:wI G ops.toList=some xs)(b:Bool)(j:Array TypeId)(ty:TypeId)(f:F9 env b xs H K) :
  ∃r,(if b then Builtin.max_ j ty (ops.map a.eval)else Builtin.min_ j ty (ops.map a.eval)).run P w = .ok r w/\iJ G c H w K r w:=by
 have d:=zH h u ops.toList t
 have key:∀(xs:List X) (vs:List Value) (l:List Int),qt env xs=some l->je c w vs (xs.map (ev env))->vs=l.map (Value.int .i64 ·):=by
  intro xs
  induction xs with
  | nil=>intro vs l hl d;simp[qt]at hl;subst hl;cases d;rfl
  | cons x xs o=>
   intro vs l hl d;simp only[qt]at hl;split at hl
   .rename_i n y k m;cases hl;simp only[List.map_cons]at d
    cases d with
    | cons h1 v=>
     rw[k]at h1;cases h1;rw[o _ _ m v];rfl
   .cases hl
 have e:∀l:Array Operand,(l.toList.map a.eval).toArray=l.map a.eval:=λl=>by cases l;simp
 unfold F9 at f;split at f
 .rename_i p q hi;have i:=key _ _ _ hi d;have g:ops.map a.eval = #[.int .i64 p,.int .i64 q]:=by rw[<-e,i];rfl
  cases b
  .refine⟨.int .i64 (min p q),?_,.val h (by simpa using f)⟩;simp only[bq,if_false,g];have:(if q<p then q else p)=min p q:=by omega
   simp[Builtin.min_,Builtin.min2,this]
  .refine⟨.int .i64 (max p q),?_,.val h (by simpa using f)⟩;simp only[if_true,g];have:(if q>p then q else p)=max p q:=by omega
   simp[Builtin.max_,Builtin.max2];omega
 .rename_i p q s hi;have i:=key _ _ _ hi d;have g:ops.map a.eval = #[.int .i64 p,.int .i64 q,.int .i64 s]:=by rw[<-e,i];rfl
  cases b
  .refine⟨.int .i64 (min (min p q) s),?_,.val h (by simpa using f)⟩;simp only[bq,if_false,g];simp[Builtin.min_,Builtin.min2];omega
  .refine⟨.int .i64 (max (max p q) s),?_,.val h (by simpa using f)⟩;simp only[if_true,g];simp[Builtin.max_,Builtin.max2];omega
 .exact f.elim
end
end Go.AL
namespace Go.AL
open Go
section
variable{P:Program}{G:GT}{c:Ctx}{H:U}{w:World}{K:ji}{env:gD}{a:Act}
theorem WW{G:GT}{c:Ctx}{H:U}{w w':World}(h:gf G c H w){v g:Nat}{t:TypeId}{cs:List D}(z:H[v]? = some (.row t g cs)){L:Loc}(fM:c.ι v g=some L)(a:Loc)
  (hg:(w'.os=w.os/\w.drawn<=w'.drawn)/\w'.tape=w.tape/\w'.output=w.output/\w.heap.size<=w'.heap.size) (T:∀b,b<w.heap.size->¬(L.jr=false/\b=L.b)->w'.heap[b]? = w.heap[b]?)
  (y:a.jr=false->(w.heap.size<=a.b\/(L.jr=false/\a.b=L.b))/\a.b<w'.heap.size) (m:List D)
  (gL:(∀u d,fF c w u d->fF (c.set v (g+1) a) w' u d)->gK (c.set v (g+1) a) w' (some a) (.row t (g+1) m)) :
  gf G (c.set v (g+1) a) (H.set v (.row t (g+1) m)) w'/\Step H.length c H w (c.set v (g+1) a) (H.set v (.row t (g+1) m)) w':=by
 have K:v<H.length:=(ae.1 z).1;have p:lB c H v L:=⟨_,z,rfl,fM⟩;have S:xZ H v (.row t (g+1) m) (H.set v (.row t (g+1) m)):=⟨rD K,.inr (.inr ⟨_,z,rfl,Nat.lt_succ_self _⟩),by simp⟩;have Q:∀b,c.F b->¬(L.jr=false/\b=L.b):=λb x e=>h.nF b ⟨v,L,p,e.1,e.2.symm⟩ x;have J:∀u l,lB (c.set v (g+1) a) (H.set v (.row t (g+1) m)) u l->(u=v/\l=a)\/(u≠v/\lB c H u l):=λu l hl=>Dw S hl
 have I:∀b,lN (c.set v (g+1) a) (H.set v (.row t (g+1) m)) b->(a.jr=false/\b=a.b)\/(lN c H b/\¬(L.jr=false/\b=L.b)):=by
  rintro b ⟨u,l,hl,j,rfl⟩;rcases J u l hl with⟨_,rfl⟩|⟨F,h1⟩
  .exact .inl ⟨j,rfl⟩
  .exact .inr ⟨⟨u,l,h1,j,rfl⟩,λe=>F (h.inj u v l L h1 p j e.1 e.2)⟩
 have hs:Step H.length c H w (c.set v (g+1) a) (H.set v (.row t (g+1) m)) w':={
  os:=hg.1
  tape:=hg.2.1
  output:=hg.2.2.1
  size:=hg.2.2.2
  RT:=rfl
  Fm:=λ_ h=>h
  Fn:=λ_ h=>.inl h
  kept:=λb f X=>T b f λe=>X ⟨v,L,p,e.1,e.2.symm⟩
  old:=λu k l _ A=>YG h S u k l A
  own:=λb f=>by
   rcases I b f with⟨j,rfl⟩|⟨f,_⟩
   .rcases(y j).1 with h1|⟨h1,O⟩
    .exact .inl h1
    .exact .inr ⟨v,L,p,h1,O.symm⟩
   .exact .inr f }
 have M:∀u d,fF c w u d->fF (c.set v (g+1) a) w' u d:=λu d B=>B.pc h.toHeapOK hs
 refine⟨{
  inj:=λu r l s h1 O E C Y=>by
   rcases J u l h1 with⟨rfl,rfl⟩|⟨n1,P⟩<;>rcases J r s O with⟨rfl,rfl⟩|⟨n2,b2⟩
   .rfl
   .exfalso;have gC:=h.lt s.b ⟨r,s,b2,C,rfl⟩;rcases(y E).1 with n|⟨n,N⟩
    .omega
    .exact n2 (h.inj r u s L b2 p C n (by omega))
   .exfalso;have gC:=h.lt l.b ⟨u,l,P,E,rfl⟩;rcases(y C).1 with n|⟨n,N⟩
    .omega
    .exact n1 (h.inj u r l L P p E n (by omega))
   .exact h.inj u r l s P b2 E C Y
  lt:=λb f=>by
   rcases I b f with⟨j,rfl⟩|⟨f,_⟩
   .exact(y j).2
   .exact aK (h.lt b f) hg.2.2.2
  nF:=λb f x=>by
   rcases I b f with⟨j,rfl⟩|⟨f,_⟩
   .rcases(y j).1 with n|⟨n,N⟩
    .have:=h.ki _ x;omega
    .exact Q _ x ⟨n,N⟩
   .exact h.nF b f x
  ki:=λb f=>aK (h.ki b f) hg.2.2.2
  out:=λu k A=>by simp only[aF]at A;rw[Ctx.u6 _ _ (by rintro⟨rfl,_⟩;omega)];exact h.out u k A
  l7:=λu o k i q=>by
   rw[rD K]at i;split at i
   .rename_i e;cases i;subst e;rcases q with q|⟨_,q⟩
    .cases q
    .simp only[Ob.gen]at q;rw[Ctx.u6 _ _ (by rintro⟨_,rfl⟩;omega)];exact h.l7 u _ k z (.inr ⟨rfl,by simp only[Ob.gen];omega⟩)
   .rename_i e;rw[Ctx.u6 _ _ (λh=>e h.1)];exact h.l7 u o k i q
  ob:=λu o i=>by
   rw[rD K]at i;split at i
   .rename_i e;cases i;subst e;simp only[Ob.gen];rw[Ctx.rE];exact gL M
   .rename_i F;rw[Ctx.u6 _ _ (λh=>F h.1)];exact gK.keep (c:=c) (c':=c.set v (g+1) a) rfl M (λl hl R B=>T _ (h.lt _ ⟨u,l,⟨o,i,B,hl⟩,R,rfl⟩) λe=>F (h.inj u v l L ⟨o,i,B,hl⟩ p R e.1 e.2)) (h.ob u o i)
  gl:=λg' cs V=>by obtain⟨Z,W⟩:=h.gl g' cs V;exact⟨Z,M _ _ W⟩
  rt:=h.rt },hs⟩
theorem QA{G:GT}{c:Ctx}{H:U}{w w':World}(h:gf G c H w){v g:Nat}{t:TypeId}{cs:List D}(o:H[v]? = some (.row t g cs)){L:Loc}(y:c.ι v g=some L)(a:Loc)(s:a.jr=false)
  (hg:(w'.os=w.os/\w.drawn<=w'.drawn)/\w'.tape=w.tape/\w'.output=w.output/\w.heap.size<=w'.heap.size) (z:∀b,b<w.heap.size->¬(L.jr=false/\b=L.b)->w'.heap[b]? = w.heap[b]?)
  (B:(w.heap.size<=a.b\/(L.jr=false/\a.b=L.b))/\a.b<w'.heap.size)
  (e:Array Value) (l:w'.heap[a.b]? = some (.cells e t (0,0))) (m:a.top=e.size) (f:List D) (j:a.base+f.length<=a.top)
  (r:∀(i:Nat) (d:D),f[i]? = some d->∃u,e[a.base+i]? = some u/\u.oneCell'=true/\fF c w u d) :
  gf G (c.set v (g+1) a) (H.set v (.row t (g+1) f)) w'/\Step H.length c H w (c.set v (g+1) a) (H.set v (.row t (g+1) f)) w':=by
 refine WW h o y a hg z (λ_=>B) f λp=>?_;simp only[gK,s];refine⟨e,l,m,j,λi d q=>?_⟩;obtain⟨x,k,n,A⟩:=r i d q;exact⟨x,k,n,p _ _ A⟩
theorem aaY{G:GT}{c:Ctx}{H:U}{w:World}(h:gf G c H w){v g:Nat}{t:TypeId}{cs:List D}(b:H[v]? = some (.row t g cs)){L:Loc}(d:c.ι v g=some L) :
  gf G (c.set v (g+1) L) (H.set v (.row t (g+1) [])) w/\Step H.length c H w (c.set v (g+1) L) (H.set v (.row t (g+1) [])) w:=by
 refine WW h b d L ⟨⟨rfl,Nat.le_refl _⟩,rfl,rfl,Nat.le_refl _⟩ (λ_ _ _=>rfl) (λa=>⟨.inr ⟨a,rfl⟩,h.lt _ ⟨v,L,⟨_,b,rfl,d⟩,a,rfl⟩⟩) [] λ_=>?_;have h0:=h.ob v _ b;simp only[Ob.gen]at h0;rw[d]at h0;simp only[gK]at h0 ⊢;split
 .simp
 .rename_i a;simp only[a]at h0;obtain⟨e,h1,f,i,_⟩:=h0;exact⟨e,h1,f,by simp;omega,by simp⟩
theorem MG{t u ty e:TypeId}{i:TypeInfo}{h:Value}(r:P.underlying t=some (.slice e))(g:∃j,P.underlying u=some (.slice j))(hi:P.info? e=some i)(p:i.zero=some h)
  (b:Option Addr) (a d:Nat) (y:Value) (m:Option Addr) (n l:Nat) (q:y = .slice m n l) (k c:List Value)
  (f:(Builtin.firstCells i.size a (.slice b a d)).run P w.drew = .ok k.toArray w.drew) (o:(Builtin.firstCells i.size n y).run P w.drew = .ok c.toArray w.drew)
  (hg:d<a+n) (A:a+n<=9223372036854775807) (v:(a+n)*i.bytes<=140737488355328) :
  (Builtin.append_ #[t,u] ty #[.slice b a d,y]).run P w = .ok (.slice (some ⟨w.heap.size,0,none⟩) (a+n) (grownCap w (a+n) d e))
    (w.drew.alloc (.cells (k.toArray++c.toArray++Builtin.zeroCells h.cells (grownCap w (a+n) d e-(a+n))) e)):=by
 subst q;obtain⟨j,g⟩:=g;have s:¬(a+n<=d):=by omega
 have x:¬(9223372036854775807<((a:Int)+(n:Int))):=by omega
 have z:¬(281474976710656<Builtin.nextslicecap (a+n) d*i.bytes):=by have:=growslice_fits hg v;omega
 simp[Builtin.append_,run_underlying r,run_underlying g,sizeOf,typeInfo,zeroValue,hi,p,Builtin.lenOf,s,x,z,Question.forced,newRow,grownCap,f,o];congr 2;apply Array.ext';simp[aI]
theorem akI{t u ty e:TypeId}{i:TypeInfo}(r:P.underlying t=some (.slice e))(g:∃j,P.underlying u=some (.slice j))(hi:P.info? e=some i)
  (b o:Nat) (d f:Nat) (y:Value) (l:Option Addr) (n k:Nat) (q:y = .slice l n k) (a:List Value) (c:Array Value) (hg:w.heap[b]? = some (.cells c e (0,0)))
  (p:(Builtin.firstCells i.size n y).run P w = .ok a.toArray w) (h1:∀v∈a,v.oneCell'=true) (s:d+n<=f) (m:o+d*i.size+a.length<=c.size) :
  (Builtin.append_ #[t,u] ty #[.slice (some ⟨b,o,none⟩) d f,y]).run P w = .ok (.slice (some ⟨b,o,none⟩) (d+n) f)
    (w.setRow b (c.toList.take (o+d*i.size)++a++c.toList.drop (o+d*i.size+a.length)).toArray):=by
 subst q;obtain⟨j,g⟩:=g;have h:=run_storeCells_at P b (o+d*i.size) e a 0 c w hg (by simpa using m) h1;simp only[cd]at h;simp[Builtin.append_,run_underlying r,run_underlying g,sizeOf,typeInfo,hi,Builtin.lenOf,s,p,Addr.add_lit,h]
theorem K1{sz:Nat}{w':World}{a:Option Addr}{b n:Nat}{vs:List Value}(hl:vs.length=n*sz)(c:a=none->n=0)(d:∀ad,a=some ad->∀(j:Nat) (v:Value),vs[j]? = some v->w'.cell? (ad.add j)=some v) :
  (Builtin.firstCells sz n (.slice a n b)).run P w' = .ok vs.toArray w':=by
 cases a with
 | none=>
  have:=c rfl;subst this;have:vs = []:=bg (by simpa using hl);subst this;exact run_firstCells_none w' sz 0 0 b
 | some ad=>exact run_firstCells_some w' sz n ad n b vs hl (d ad rfl)
theorem UC(w:World)(o:Obj):jJ w (w.drew.alloc o):=(jJ.drew w).trans (jJ.alloc _ _)
theorem ajb(h:gf G c H w){al:Al}(gQ:mC H al){t u ty e:TypeId}{i:TypeInfo}{z:List D}(S:P.underlying t=some (.slice e))(A:∃e',P.underlying u=some (.slice e'))(hi:P.info? e=some i)(hz:qb P e=some z)(xi:z.length=i.size)(jM:0<i.size)
  {x y:D} {ux B:Value} (h1:fF c w ux x) (h2:fF c w B y) (k:D8 e i.size i.bytes x y H al K):∃r w',(Builtin.append_ #[t,u] ty #[ux,B]).run P w = .ok r w'/\iJ G c H w K r w':=by
 obtain⟨p,uR,LV,sX⟩:=zk hz w;have CX:i.zero=some p:=by simpa[hi]using LV
 have uQ:p.cells.size=i.size:=by have:=(sX c w).len;simp at this;omega
 unfold D8 at k;split at k
 .rename_i V n qq;obtain⟨yb,Z,vs,E,F,kF,VY,FK,FH⟩:=Rt h jM h2 qq;have R:vs.length=n*i.size:=by rw[F.len,kF]
  have Q:∀w',(∀b,w'.cell? b=w.cell? b)->(Builtin.firstCells i.size n B).run P w' = .ok vs.toArray w':=λw' pV=>by rw[E];exact K1 R FK (λad ha j v l=>by rw[pV];exact FH ad ha j v l)
  split at k
  .rename_i v g gE off len;split at k
   .rename_i t' cs gw;have s:=te gw;dsimp only at s;obtain⟨⟨rfl,VQ,a4,O,Y⟩,k⟩:=k;have e8:=VQ.symm;subst e8;clear VQ;have i':v<H.length:=(ae.1 s).1
    cases h1 with
    | fy _ _ _ _ _ cap L T gR jG iL l9=>
     obtain⟨a,Am,Lr,U2,Ls⟩:=xD h s T gR;have X:Cells c w (((((a.toList.drop L.base).take cs.length)).drop (off*i.size)).take (len*i.size)) ((cs.drop (off*i.size)).take (len*i.size)):=(Ls.drop _).take _;rw[bh]at l9 a4;generalize off*i.size=q at *
     by_cases Fy:len+n<=cap
     .have mA:L.base+q+len*i.size+vs.length<=a.size:=by have hm:=bk i.size Fy;rw[bh]at hm;omega
      have m:=akI (ty:=ty) S A hi L.b (L.base+q) len cap B yb n Z E vs a Am (Q w λ_=>rfl) F.one Fy mA;refine⟨_,_,m,?_⟩;have ij:(a.toList.take (L.base+q+len*i.size)++vs++a.toList.drop (L.base+q+len*i.size+vs.length)).toArray.size=a.size:=by simp;omega
      obtain⟨m1,m2⟩:=QA (w':=w.setRow L.b (a.toList.take (L.base+q+len*i.size)++vs++a.toList.drop (L.base+q+len*i.size+vs.length)).toArray) h s T ⟨L.b,L.base+q,L.top,false⟩ rfl
       ⟨⟨rfl,Nat.le_refl _⟩,rfl,rfl,by simp[World.setRow]⟩ (λb _ J=>by simp only[World.setRow,aX];rw[if_neg (λe=>J ⟨gR,e.symm⟩)])
       ⟨.inr ⟨gR,rfl⟩,by have:=h.lt _ ⟨v,L,⟨_,s,rfl,T⟩,gR,rfl⟩;simpa[World.setRow]using this⟩
       _ (setRow_heap w L.b a _ _ _ Am) (by show L.top=_;rw[Lr,ij]) ((cs.drop q).take (len*i.size)++V) (by simp only[au,aJ,aR];rw[<-F.len];omega) (λj d M=>by
        obtain⟨x,I,lz,kf⟩:=(X.append F).get M;refine⟨x,?_,lz,kf⟩;rw[<-I];simp only[db];have ja:(List.take (L.base+q+len*i.size) a.toList).length=L.base+q+len*i.size:=by simp;omega
        have jH:(List.take (len*i.size) (List.drop q (List.take cs.length (List.drop L.base a.toList)))).length=len*i.size:=by simp;omega
        by_cases c1:j<len*i.size
        .rw[ah (by simp;omega),ah (by rw[ja];omega),ah (by rw[jH];omega)];simp only[aC,aH];rw[if_pos (by omega),if_pos (by omega),if_pos (by omega)];congr 1;omega
        .have mJ:j<len*i.size+vs.length:=by have:=(ae.1 I).1;rw[au,jH]at this;omega
         rw[ah (by rw[au,ja];omega),ai (by rw[ja];omega),ai (by rw[jH];omega),ja,jH];congr 1
         omega)
      refine⟨_,_,_,k,m1,?_,m2⟩;have:=fF.fy (c:=c.set v (g+1) ⟨L.b,L.base+q,L.top,false⟩) (w:=w.setRow L.b (a.toList.take (L.base+q+len*i.size)++vs++a.toList.drop (L.base+q+len*i.size+vs.length)).toArray) v (g+1) i.size 0 (len+n) cap ⟨L.b,L.base+q,L.top,false⟩ (Ctx.rE _ _ _ _) rfl Fy iL (by simp;omega);simpa using this
     .have f:(Builtin.firstCells i.size len (.slice (some ⟨L.b,L.base+q,none⟩) len cap)).run P w.drew = .ok ((((a.toList.drop L.base).take cs.length).drop q).take (len*i.size)).toArray w.drew:=by
       refine run_firstCells_some _ _ _ _ _ _ _ (by rw[X.len];simp;omega) (λj v l=>?_);rw[aC]at l;split at l
       .rw[aH,aC]at l;split at l
        .rw[aH]at l;rw[Addr.add_lit];show w.cell? ⟨L.b,L.base+q+j,none⟩=some v;simp[World.cell?,Am];rw[aW];simpa using l
        .cases l
       .cases l
      have m:=MG (ty:=ty) S A hi CX (some ⟨L.b,L.base+q,none⟩) len cap B yb n Z E _ vs f (Q _ λ_=>rfl) (by omega) Y O;refine⟨_,_,m,?_⟩;have FE:((((a.toList.drop L.base).take cs.length).drop q).take (len*i.size)).toArray.size=len*i.size:=by have:=X.len;simp at this ⊢;omega
      have C:=grownCap_ge w (len+n) cap e;have N:=grownCap_le_maxLen w (len+n) cap e (by unfold maxLen;omega)
      obtain⟨m1,m2⟩:=QA (w':=w.drew.alloc (.cells (((((a.toList.drop L.base).take cs.length).drop q).take (len*i.size)).toArray++vs.toArray++Builtin.zeroCells p.cells (grownCap w (len+n) cap e-(len+n))) e)) h s T
       ⟨w.heap.size,0,grownCap w (len+n) cap e*i.size,false⟩ rfl ⟨⟨rfl,Nat.le_succ _⟩,rfl,rfl,by simp⟩ (λb W _=>(UC w _).kept b W) ⟨.inl (Nat.le_refl _),by simp⟩
       _ (heap_alloc_new w.drew _) (by
        simp only[b9,FE,cO,R,size_zeroCells,uQ,<-bh]
        congr 1;omega) ((cs.drop q).take (len*i.size)++V) (by
        simp only[au,aJ,aR,kF,aM];have:=bk i.size C;rw[bh]at this
        omega) (λj d M=>by
        obtain⟨x,I,lz,kf⟩:=(X.append F).get M;refine⟨x,?_,lz,kf⟩;rw[<-I,aM,<-br];have gC:=(ae.1 I).1;simp only[cV]
        rw[ah (by simpa using gC)])
      refine⟨_,_,_,k,m1,?_,m2⟩
      have:=fF.fy (c:=c.set v (g+1) ⟨w.heap.size,0,grownCap w (len+n) cap e*i.size,false⟩) (w:=w.drew.alloc (.cells (((((a.toList.drop L.base).take cs.length).drop q).take (len*i.size)).toArray++vs.toArray++Builtin.zeroCells p.cells (grownCap w (len+n) cap e-(len+n))) e))
       v (g+1) i.size 0 (len+n) (grownCap w (len+n) cap e) ⟨w.heap.size,0,grownCap w (len+n) cap e*i.size,false⟩ (Ctx.rE _ _ _ _) rfl C N (by simp)
      simpa using this
    | l3 _ _ _ _ L T ad=>
     simp only[aM,cd,cI,dC,bG]at k O Y ⊢
     by_cases J:n=0
     .subst J;have PX:vs = []:=bg (by simpa using R);have e0:V = []:=bg (by simpa using kF);subst e0
      have m:(Builtin.append_ #[t,u] ty #[.slice ad 0 0,B]).run P w = .ok (.slice ad 0 0) w:=by obtain⟨e',A⟩:=A;have U:=Q w λ_=>rfl;rw[PX]at U;rw[E]at U ⊢;simp[Builtin.append_,run_underlying S,run_underlying A,sizeOf,typeInfo,hi,Builtin.lenOf,U];cases ad<;>simp[storeCells]
      obtain⟨m1,m2⟩:=aaY h s T;exact⟨_,_,m,_,_,_,k,m1,.l3 v (g+1) i.size 0 L (Ctx.rE _ _ _ _) ad,m2⟩
     .have f:(Builtin.firstCells i.size 0 (.slice ad 0 0)).run P w.drew = .ok ([]:List Value).toArray w.drew:=K1 (by simp) (λ_=>rfl) (λ_ _ j v l=>by simp at l);have m:=MG (w:=w) (ty:=ty) S A hi CX ad 0 0 B yb n Z E [] vs f (Q _ λ_=>rfl) (by omega) (by omega) (by simpa using O);simp only[aM]at m;refine⟨_,_,m,?_⟩;have C:=grownCap_ge w n 0 e;have N:=grownCap_le_maxLen w n 0 e (by unfold maxLen;omega)
      obtain⟨m1,m2⟩:=QA (w':=w.drew.alloc (.cells (([]:List Value).toArray++vs.toArray++Builtin.zeroCells p.cells (grownCap w n 0 e-n)) e)) h s T
       ⟨w.heap.size,0,grownCap w n 0 e*i.size,false⟩ rfl ⟨⟨rfl,Nat.le_succ _⟩,rfl,rfl,by simp⟩ (λb W _=>(UC w _).kept b W) ⟨.inl (Nat.le_refl _),by simp⟩
       _ (heap_alloc_new w.drew _) (by
        simp only[b9,cO,cM,R,size_zeroCells,uQ,aM,<-bh]
        congr 1;omega) V (by
        simp only[kF,aM]
        exact bk i.size C) (λj d M=>by
        obtain⟨x,I,lz,kf⟩:=F.get M;refine⟨x,?_,lz,kf⟩;rw[<-I,aM,<-br];have gC:=(ae.1 I).1;simp only[cV,bG]
        rw[ah (by simpa using gC)])
      refine⟨_,_,_,k,m1,?_,m2⟩
      have:=fF.fy (c:=c.set v (g+1) ⟨w.heap.size,0,grownCap w n 0 e*i.size,false⟩) (w:=w.drew.alloc (.cells (([]:List Value).toArray++vs.toArray++Builtin.zeroCells p.cells (grownCap w n 0 e-n)) e))
       v (g+1) i.size 0 n (grownCap w n 0 e) ⟨w.heap.size,0,grownCap w n 0 e*i.size,false⟩ (Ctx.rE _ _ _ _) rfl C N (by simp)
      simpa using this
   .exact k.elim
  .rename_i us;obtain⟨⟨J,FE,O,Y⟩,k⟩:=k
   cases h1 with
   | lD ad _ iL kU hc=>
    have X:Cells c w us (us.map .val):=⟨by simp,λv s=>by
     obtain⟨i,hi⟩:=List.getElem?_of_mem s;obtain⟨_,_,_,_,_,h1⟩:=hc i v hi
     exact h1,λi v d s M=>by
     simp only[ar,s,aD,ao]at M;subst M
     exact .val _⟩
    have f:(Builtin.firstCells i.size us.length (.slice ad us.length us.length)).run P w.drew = .ok us.toArray w.drew:=K1 (by rw[FE];simp) (λe=>by rw[kU e];rfl) (λb W j v l=>by
     obtain⟨b',o,ha,_,mc,_⟩:=hc j v l;rw[ha]at W;cases W;rw[Addr.add_lit]
     exact mc)
    have m:=MG (w:=w) (ty:=ty) S A hi CX ad us.length us.length B yb n Z E us vs f (Q _ λ_=>rfl) (by omega) Y O;refine⟨_,_,m,?_⟩;have C:=grownCap_ge w (us.length+n) us.length e;have N:=grownCap_le_maxLen w (us.length+n) us.length e (by unfold maxLen;omega)
    have ij:(us.toArray++vs.toArray++Builtin.zeroCells p.cells (grownCap w (us.length+n) us.length e-(us.length+n))).size=grownCap w (us.length+n) us.length e*i.size:=by simp only[b9,cO,R,size_zeroCells,uQ,FE,ey];omega
    obtain⟨L,e1,e2,e3,e4,e5,e6⟩:=C8 h w.drew (jJ.drew w) e (us++vs) (us.map .val++V) (us++vs).length (us.toArray++vs.toArray++Builtin.zeroCells p.cells (grownCap w (us.length+n) us.length e-(us.length+n))) (gQ _).th (X.append F) (by
     simp only[cV]
     exact List.take_left) (by simp only[b9,cO,au];omega)
    have hp:=Gi (c:=c) (w:=w.drew.alloc (.cells (us.toArray++vs.toArray++Builtin.zeroCells p.cells (grownCap w (us.length+n) us.length e-(us.length+n))) e)) e1 e3 al.1 0 i.size (us.length+n) (grownCap w (us.length+n) us.length e) (by rw[e4,ij]) C N;rw[e2]at hp;exact⟨_,_,_,k,e5,hp,e6⟩
  .cases h1 with
   | fJ=>
    by_cases J:n=0
    .rw[if_pos J]at k;subst J;have PX:vs = []:=bg (by simpa using R)
     have m:(Builtin.append_ #[t,u] ty #[.slice none 0 0,B]).run P w = .ok (.slice none 0 0) w:=by obtain⟨e',A⟩:=A;have U:=Q w λ_=>rfl;rw[PX]at U;rw[E]at U ⊢;simp[Builtin.append_,run_underlying S,run_underlying A,sizeOf,typeInfo,hi,Builtin.lenOf,U]
     exact⟨_,_,m,.plain h k .fJ⟩
    .rw[if_neg J]at k;obtain⟨⟨O,Y⟩,k⟩:=k;have f:(Builtin.firstCells i.size 0 (.slice none 0 0)).run P w.drew = .ok ([]:List Value).toArray w.drew:=K1 (by simp) (λ_=>rfl) (λ_ _ j v l=>by simp at l);have m:=MG (w:=w) (ty:=ty) S A hi CX none 0 0 B yb n Z E [] vs f (Q _ λ_=>rfl) (by omega) (by omega) (by simpa using O);simp only[aM]at m;refine⟨_,_,m,?_⟩;have C:=grownCap_ge w n 0 e;have N:=grownCap_le_maxLen w n 0 e (by unfold maxLen;omega)
     have ij:(([]:List Value).toArray++vs.toArray++Builtin.zeroCells p.cells (grownCap w n 0 e-n)).size=grownCap w n 0 e*i.size:=by simp only[b9,cO,cM,R,size_zeroCells,uQ,aM,<-bh];congr 1;omega
     obtain⟨L,e1,e2,e3,e4,e5,e6⟩:=C8 h w.drew (jJ.drew w) e vs V vs.length (([]:List Value).toArray++vs.toArray++Builtin.zeroCells p.cells (grownCap w n 0 e-n)) (gQ _).th F (by
      simp only[cV,bG]
      exact List.take_left) (by simp only[b9,cO];omega)
     have hp:=Gi (c:=c) (w:=w.drew.alloc (.cells (([]:List Value).toArray++vs.toArray++Builtin.zeroCells p.cells (grownCap w n 0 e-n)) e)) e1 e3 al.1 0 i.size n (grownCap w n 0 e) (by rw[e4,ij]) C N;rw[e2]at hp;exact⟨_,_,_,k,e5,hp,e6⟩
  .exact k.elim
 .exact k.elim
theorem ajm(h:gf G c H w){t u ty e:TypeId}{sz:Nat}(O:P.underlying t=some (.slice e))(hs:jU P e=some sz)(jM:0<sz){x y:D}{T F:Value}(h1:fF c w T x)(h2:fF c w F y)(f:Ez sz x y H K) :
  ∃r w',(Builtin.copy_ #[t,u] ty #[T,F]).run P w = .ok r w'/\iJ G c H w K r w':=by
 have key:∀(i:List D) (n:Nat),ko sz H y=some (i,n)->∃vs B A,F = .slice B n A/\Cells c w vs i/\i.length=n*sz/\∀m,m<=n->(Builtin.firstCells sz m F).run P w = .ok (vs.take (m*sz)).toArray w:=by
  intro i n I;obtain⟨B,A,vs,s,o,J,VY,FK,FH⟩:=Rt h jM h2 I;refine⟨vs,B,A,s,o,J,λm z=>?_⟩;have k:vs.length=n*sz:=by rw[o.len,J]
  have Q:=bk sz z;rw[s]
  cases B with
  | none=>
   have:=FK rfl;subst this;have:m=0:=by omega
   subst this;simp[Builtin.firstCells]
  | some ad=>
   refine run_firstCells_some w sz m ad n A _ (by simp;omega) (λj v M=>?_);rw[aC]at M;split at M
   .exact FH ad rfl j v M
   .cases M
 unfold Ez at f;split at f
 .rename_i v g a off len i n I;obtain⟨vs,B,A,s,o,J,N⟩:=key i n I;split at f
  .rename_i U cs gw;have p:=te gw;dsimp only at p;obtain⟨⟨rfl,mA⟩,f⟩:=f;have l:=N (min n len) (Nat.min_le_left _ _);have Q:min n len*a<=vs.length:=by rw[o.len,J];exact bk _ (Nat.min_le_left _ _)
   have b1:min n len*a<=len*a:=bk _ (Nat.min_le_right _ _);rw[bh]at mA
   cases h1 with
   | fy _ _ _ _ _ cap L R W jG iL l9=>
    obtain⟨b,Z,Lr,U2,Ls⟩:=xD h p R W;have X:=run_storeCells_at P L.b (L.base+off*a) U (vs.take (min n len*a)) 0 b w Z (by simp;omega) (λv p=>o.one v (aN p));simp only[cd]at X
    have gU:(Builtin.copy_ #[t,u] ty #[.slice (some ⟨L.b,L.base+off*a,none⟩) len cap,F]).run P w = .ok (goInt (min n len:Nat)) (w.setRow L.b (b.toList.take (L.base+off*a)++vs.take (min n len*a)++b.toList.drop (L.base+off*a+(vs.take (min n len*a)).length)).toArray):=by rw[s]at l ⊢;have z:n.min len=min n len:=rfl;simp[Builtin.copy_,run_underlying O,Builtin.lenOf,pZ hs,z,l,X]
    have k:(vs.take (min n len*a)).length=min n len*a:=by simp;omega
    have Y:=Ls.rG (o.take (min n len*a)) (off*a);have S:(i.take (min n len*a)).length=min n len*a:=by rw[aJ,<-o.len];omega
    obtain⟨m1,m2⟩:=DB h p R W Z (b.toList.take (L.base+off*a)++vs.take (min n len*a)++b.toList.drop (L.base+off*a+(vs.take (min n len*a)).length)).toArray (by simp;omega) Lr
     (cs.take (off*a)++i.take (min n len*a)++cs.drop (off*a+min n len*a)) (by simp only[au,aJ,aR];omega) (λj d V=>by
      rw[S,k]at Y;obtain⟨x,hx,lz,kf⟩:=Y.get V;refine⟨x,?_,lz,kf⟩;rw[<-hx];simp only[db,k];have C:(List.take (L.base+off*a) b.toList).length=L.base+off*a:=by simp;omega
      have E:(List.take (off*a) (List.take cs.length (List.drop L.base b.toList))).length=off*a:=by simp;omega
      by_cases c1:j<off*a
      .rw[ah (by simp;omega),ah (by rw[C];omega),ah (by simp;omega),ah (by rw[E];omega)];simp only[aC,aH];rw[if_pos (by omega),if_pos c1,if_pos (by omega)]
      .by_cases c2:j<off*a+min n len*a
       .rw[ah (by rw[au,C,k];omega),ai (by rw[C];omega),ah (by rw[au,E,k];omega),ai (by rw[E];omega),C,E];congr 1;omega
       .have nC:j<cs.length:=by have:=(ae.1 V).1;simp at this;omega
        rw[ai (by rw[au,C,k];omega),ai (by rw[au,E,k];omega)];simp only[aH,aC,au,C,E,k];rw[if_pos (by omega)];congr 1
        omega)
    exact⟨_,_,gU,_,_,c,f,m1,.val _,m2⟩
   | l3 _ _ _ _ L R ad=>
    have yJ:min n 0=0:=fu n;simp only[yJ,cI,dC,ax,cd,bO]at f l
    have mL:H.set v (.row U g cs)=H:=by
     apply bN;intro j;rw[bM];have k:v<H.length:=(ae.1 p).1;split
     .rename_i e;subst e
      first|(rw[if_pos k];exact p.symm)|exact p.symm
     .rfl
    rw[mL]at f;refine⟨goInt 0,w,?_,.plain h f (.val _)⟩;rw[s]at l ⊢;have z:n.min 0=0:=fu n;simp[Builtin.copy_,run_underlying O,Builtin.lenOf,pZ hs,z,l];cases ad<;>simp[storeCells]
  .exact f.elim
 .rename_i q I;obtain⟨i,n⟩:=q;obtain⟨vs,B,A,s,o,J,N⟩:=key i n I
  cases h1 with
  | fJ=>
   have l:=N 0 (Nat.zero_le _);refine⟨goInt 0,w,?_,.plain h f (.val _)⟩;rw[s]at l ⊢;have z:n.min 0=0:=fu n;simp only[cI,dC]at l;simp[Builtin.copy_,run_underlying O,Builtin.lenOf,pZ hs,z,l]
 .exact f.elim

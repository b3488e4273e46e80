/- Part 2 of DisputeMatchesReference. -/
import Derived.Test.YtmehofoficaelaaGreatDoorM01
set_option linter.all false
open Option renaming some→aE,none→cj
open Nat renaming le_refl→bb,mod_eq_sub_mod→eh,div_add_mod'→en,mul_eq_zero→ep,min_le_left→er,le_succ→eK
open Array renaming range→bs,map→eB
open Bool renaming false→b4
open List renaming replicate→cp,take→di,getElem?_eq_getElem→dr,getElem?_of_mem→dx,drop→ek,take_left→ez,length→List.l
open Int renaming toNat→Int.n
namespace Go.AL
open Go
section
variable{P:Program}{G:GT}{c:Ctx}{H:gg}{w:World}{K:kd}{env:il}{a:Act}
theorem Jx{L:Loc}(a:L.ko=b4)(h0:L.base=0)(v k sz len cap:Nat)(b:L.top=cap*sz)(e:len<=cap)(d:cap<=maxLen) :
  gq (c.set v k L) w (.slice (aE ⟨L.b,0,cj⟩) len cap) (.gh v k sz 0 len):=by
 have:=gq.gh (c:=c.set v k L) (w:=w) v k sz 0 len cap L (Ctx.tZ _ _ _ _) a e d (by simp[h0,b]);simpa[h0]using this
theorem Ou(zs:List Value)(z:List D)(b:∀c w,Cells c w zs z)(n:Nat):Cells c w (cp n zs).flatten (cp n z).flatten:=by
 induction n with
 | zero=>exact Cells.nil
 | succ n a=>rw[bw,bw,a8,a8];exact(b c w).append a
theorem P8(zs:Array Value)(n:Nat)(h0:0<zs.size):((bs (n*zs.size)).map (λi=>zs[i % zs.size]!)).toList=(cp n zs.toList).flatten:=by
 apply bY;intro i;simp only[Array.toList_map,Array.toList_range,ax]
 by_cases hi:i<n*zs.size
 .rw[bW hi]
  have key:∀(n i:Nat),i<n*zs.size->(cp n zs.toList).flatten[i]? = aE (zs[i % zs.size]!):=by
   intro n
   induction n with
   | zero=>intro i hi;simp at hi
   | succ n a=>
    intro i hi;rw[bw,a8]
    by_cases hl:i<zs.size
    .rw[ah (by simpa using hl),fj hl];simp[hl]
    .rw[ak (by simpa using hl)];have:i-zs.size<n*zs.size:=by rw[bt]at hi;omega
     rw[(gf:i-zs.toList.l=i-zs.size),a _ this,<-eh U]
  rw[key n i hi];rfl
 .simp_all
theorem anH(h:gL G c H w){al:Al}(W:oD H al)(he:lO c w env a){t e:TypeId}{sz n:Nat}{z:List D}{ops:Array (Nat×Operand)}{ps:List (Nat×X)}
  (Z:P.underlying t=aE (.slice e)) (Y:sZ P e=aE z) (hs:lg P e=aE sz) (j:AB G ops.toList=aE ps) (N:z.l=sz) (V:0<sz) (oq:n*sz<=16777216)
  (f:Hr env e sz z n ps al K):∃r w',(Instr.buildSlice t n (ops.map λ(i,x)=>(i,a.eval x))).run P w = .ok r w'/\jJ G c H w K r w':=by
 unfold Hr at f;split at f
 .rename_i l hl;split at f
  .rename_i cs E;obtain⟨b,O,_,A⟩:=BP Y w;obtain⟨C,T⟩:=NH h he ops.toList j;obtain⟨S,R⟩:=Uy hl;have Q:b.cells.size=sz:=by have:=(A c w).len;simp at this;omega
   have M:Cells c w ((bs (n*sz)).map (λi=>b.cells[i % b.cells.size]!)).toList (cp n z).flatten:=by rw[<-Q,P8 b.cells n U];exact Ou _ _ A n
   obtain⟨d,k,s⟩:=Ol (c:=c) (w:=w) (λi=>aE (i*sz,sz)) (ops.toList.map λx=>(x.1,a.eval x.2)) l _ _ cs M (by simp[S,C]) (λi x q I IT=>by
    simp only[ax,aq]at I;obtain⟨y,F,rfl⟩:=I;have hi:i<ops.toList.l:=(ae.1 F).1;obtain⟨p,B⟩:=Oy C hi;obtain⟨e1,e2⟩:=T i y p F B;obtain⟨e4,e5,e6⟩:=R i (p.1*sz,sz,p.2) q (by simp[B]) IT
    exact⟨by simp[e4,e5,e1],EC e2 e6⟩) E
   have g:d.size=n*sz:=by
    have h1:=s.len
    have u:cs.l=(cp n z).flatten.l:=by
     clear f s k h1 M
     have key:∀(ps:List (Nat×Nat×List D)) (cs rs:List D),lay ps cs=aE rs->rs.l=cs.l:=by
      intro ps
      induction ps with
      | nil=>intro cs rs h;simp[lay]at h;subst h;rfl
      | cons p ps ih=>
       intro cs rs h;obtain⟨o,m,xs⟩:=p;simp only[lay]at h;split at h
       .grind
       .cases h
     exact key _ _ _ E
    rw[u]at h1;simp[N]at h1;exact h1
   obtain⟨L,h1,u,h3,h4,h5,h6⟩:=FY h w (kN.refl w) e d.toList cs d.size d (W _).vK s (by rw[<-du,cQ]) (bb _);refine⟨.slice (aE ⟨w.heap.size,0,cj⟩) n n,w.alloc (.cells d e),?_,?_⟩
   .have v:¬n*sz>2 ^ 24:=by omega
    simp only[Instr.buildSlice,Sem.run_bind,run_underlying Z,Result.andThen_ok,sT hs,Sem.run_ite];rw[if_neg v];have J:(eB (λx=>(x.fst,a.eval x.snd)) ops).toList=ops.toList.map λx=>(x.1,a.eval x.2):=gf
    by_cases h0:n*sz=0
    .have hn:n=0:=by rcases ep.1 h0 with h|h<;>omega
     subst hn;simp only[c9]at k;simp only[c9,if_true,Sem.run_pure,Result.andThen_ok,J];have e0:(eB (λx=>(#[]:Array Value)[x % (#[]:Array Value).size]!) (bs 0))=eB (λi=>b.cells[i % b.cells.size]!) (bs 0):=gf;rw[e0,k];simp[newRow]
    .rw[if_neg h0];simp only[Sem.run_bind,O,Result.andThen_ok,Sem.run_pure,J,k];simp[newRow]
   .have j:=Jx (c:=c) (w:=w.alloc (.cells d e)) h1 h3 al.1 0 sz n n (by rw[h4,g]) (bb _) (by
     have:n<=n*sz:=Nat.le_mul_of_pos_right n V
     unfold maxLen;omega)
    rw[u]at j;exact⟨_,_,_,f,h5,j,h6⟩
  .exact f.elim
 .grind
theorem apk{t:TypeId}{n:Nat}(hs:lg P t=aE n){v:Value}(a:v.cells.size=n)(b o:Nat) :
  (Instr.storeAt t (.pointer (aE ⟨b,o,cj⟩)) v).run P w=(storeCells ⟨b,o,cj⟩ v.cells.toList).run P w:=by
 simp[Instr.storeAt,Instr.sureAddr,storeVar,sT hs,a]
theorem abK(h:gL G c H w){v g o:Nat}{t a:TypeId}{cs xs:List D}(l:H[v]? = aE (.row a g cs)){u x:Value}(B:gq c w u (.ptr v g o)){n:Nat}(hs:lg P t=aE n)
  (b:Cells c w x.cells.toList xs) (C:xs.l=n) (O:o+n<=cs.l) (E:K .any (H.set v (.row a g (cs.take o++xs++cs.drop (o+n))))) :
  ∃w',(Instr.storeAt t u x).run P w = .ok () w'/\jJ G c H w K undef w':=by
 cases B with
 | ptr _ _ _ L q j=>
  obtain⟨arr,h1,M,Q,J⟩:=zW h l q j;have f:x.cells.size=n:=by have:=b.len;simp at this;omega
  have p:=run_storeCells_at P L.b (L.base+o) a x.cells.toList 0 arr w h1 gO b.one;simp only[cJ]at p
  have k:=Gw h l q j h1 (arr.toList.take (L.base+o)++x.cells.toList++arr.toList.drop (L.base+o+x.cells.toList.l)).toArray
   gO M (cs.take o++xs++cs.drop (o+n)) gO (λi d m=>by
    have r:=J.ub b o;rw[C]at r;obtain⟨y,A,I,F⟩:=r.get m;refine⟨y,?_,I,F⟩;rw[<-A];simp only[dC];have e:x.cells.toList.l=n:=by simpa using f
    have s:(di (L.base+o) arr.toList).l=L.base+o:=gO;have z:(di o (di cs.l (ek L.base arr.toList))).l=o:=gO
    by_cases R:i<o
    .grind
    .by_cases c2:i<o+n
     .grind
     .have N:i<cs.l:=by have:=(ae.1 m).1;simp at this;omega
      rw[ak gO,ak gO];simp only[aM,aJ,ar,s,z,e];rw[if_pos U];congr 1
      omega)
  exact⟨_,by rw[apk hs f];exact p,.any,_,c,E,k.1,.any _,k.2⟩
theorem aoa(h:gL G c H w){t:TypeId}(hs:lg P t=aE 1){p x:D}{u v:Value}(h1:gq c w u p)(f:gq c w v x)(a:J0 p x H K) :
  ∃w',(Instr.storeAt t u v).run P w = .ok () w'/\jJ G c H w K undef w':=by
 unfold J0 at a;split at a
 .rename_i v0 k o;split at a
  .rename_i j cs d;obtain⟨g,i,a⟩:=a;have b:=vF d;dsimp only at b;refine abK h b h1 hs (EC f (aod i)) rfl U ?_
   have e:cs.take o ++ [x]++cs.drop (o+1)=cs.set o x:=by rw[cM,if_pos g];simp
   rw[e];exact a
  .exact a.elim
 .grind
theorem aob(h:gL G c H w){t:TypeId}{n:Nat}(hs:lg P t=aE n){p x:D}{u v:Value}(h1:gq c w u p)(f:gq c w v x)(a:J2 n p x H K) :
  ∃w',(Instr.storeAt t u v).run P w = .ok () w'/\jJ G c H w K undef w':=by
 unfold J2 at a;split at a
 .rename_i v' j o xs g;split at a
  .rename_i i cs d;obtain⟨e,b,a⟩:=a;exact abK h (vF d) h1 hs (EC f g) e b a
  .exact a.elim
 .grind
theorem anQ(h:gL G c H w){t:TypeId}{f n:Nat}{fs:Array Field}{a:Field}(j:P.underlying t=aE (.struct fs))(k:fs[f]? = aE a)(hs:lg P a.type=aE n)(s:0<n)
  {x:D} {u:Value} (h1:gq c w u x) (d:HY a.offset x H K):∃r,(Instr.fieldAt t u f).run P w = .ok r w/\jJ G c H w K r w:=by
 have e:∀b o,(Instr.fieldAt t (.pointer (aE ⟨b,o,cj⟩)) f).run P w = .ok (.pointer (aE ⟨b,o+a.offset,cj⟩)) w:=λb o=>by simp only[Instr.fieldAt,Sem.run_bind,run_underlying j,Result.andThen_ok,k];simp only[Instr.sureAddr,Sem.run_pure,Result.andThen_ok,fieldPlace,Sem.run_bind,sT hs,Sem.run_ite];rw[if_neg U];simp[Addr.add_lit]
 unfold HY at d;split at d
 .rename_i v g o
  cases h1 with
  | ptr _ _ _ L q i=>
   refine⟨_,e _ _,.plain h d ?_⟩;have:=gq.ptr (c:=c) (w:=w) v g (o+a.offset) L q i;rwa [<-bg]at this
 .obtain⟨b,p,rfl,m,l⟩:=AD h1;exact⟨_,e _ _,.plain h d (RS m (l.drop _))⟩
 .grind
theorem abJ(h:gL G c H w){t:TypeId}{n:Nat}{b:Bool}(f:qc P t=aE b)(hs:lg P t=aE n){vs:List Value}{cs:List D}(e:Cells c w vs cs){off:Nat}
  (a:Cx off n b (.agg cs) H K):∃r,(part t vs.toArray off).run P w = .ok r w/\jJ G c H w K r w:=by
 simp only[Cx]at a
 cases b with
 | true=>
  simp only[if_true]at a;refine⟨.agg ((vs.drop off).take n).toArray,?_,.plain h a.2 ((e.drop off).take n).agg⟩;simp[part,DO f,sT hs,List.extract_toArray,List.take_drop]
 | false=>
  simp only[bG,if_false]at a;split at a
  .rename_i d j;obtain⟨v,g,_,i⟩:=e.get j;refine⟨v,?_,.plain h a i⟩;simp[part,DO f,g]
  .grind
theorem anP(h:gL G c H w){t:TypeId}{f n:Nat}{b:Bool}{fs:Array Field}{a:Field}(g:P.underlying t=aE (.struct fs))(k:fs[f]? = aE a)(l:qc P a.type=aE b)(hs:lg P a.type=aE n)
  {x:D} {u:Value} (h1:gq c w u x) (d:Cx a.offset n b x H K):∃r,(Instr.field t u f).run P w = .ok r w/\jJ G c H w K r w:=by
 have e:∃cs,x = .agg cs:=by cases x<;>first|exact⟨_,rfl⟩|exact(show False from d).elim
 obtain⟨cs,rfl⟩:=e
 cases h1 with
 | agg vs _ hl h1 m=>
  obtain⟨r,i,j⟩:=abJ h l hs ⟨hl,h1,m⟩ d;exact⟨r,by simp[Instr.field,run_underlying g,k,asAgg,i],j⟩
theorem anS(h:gL G c H w){t e:TypeId}{sz:Nat}(N:P.underlying t=aE (.slice e))(hs:lg P e=aE sz)(W:0<sz){x i:D}{u v:Value}(h1:gq c w u x)(z:gq c w v i)(a:I6 sz x i H K) :
  ∃r,(Instr.indexAt t u v).run P w = .ok r w/\jJ G c H w K r w:=by
 have s:∀(ad:Addr) (len cap:Nat) (k:IntKind) (n:Int),0<=n/\n<len->(Instr.indexAt t (.slice (aE ad) len cap) (.int k n)).run P w = .ok (.pointer (aE (ad.add (n.n*sz)))) w:=λad len cap k n f=>by simp only[Instr.indexAt,Sem.run_bind,asIntOf,Sem.run_pure,Result.andThen_ok,run_underlying N,sT hs,Sem.run_ite];rw[if_pos f]
 unfold I6 at a;split at a
 .rename_i q es k n;obtain⟨rfl,f,a⟩:=a;cases z
  cases h1 with
  | sl ad len cap _ _ g E I C J B p O=>
   have hi:n.n<es.l:=U
   cases ad with
   | none=>have:=B rfl;omega
   | some ad=>
    refine⟨_,s ad len cap k n ⟨f.1,U⟩,.plain h a ?_⟩;have m:es[n.n]? = aE es[n.n]:=by simp[hi]
    have A:es.getD n.n []=es[n.n]:=by simp[hi]
    rw[A];have hl:es[n.n].l=q:=J _ (bU hi);obtain⟨d0,F⟩:∃d0,es[n.n][0]? = aE d0:=⟨es[n.n][0]' U,gf⟩;obtain⟨b,o,e,y,_,_⟩:=p n.n _ 0 d0 m F;cases e;rw[Addr.add_lit];refine .gH b (o+n.n*q) _ (g n.n) y (λj d l=>?_) (λj d l=>O _ _ j d m l);obtain⟨Y,o',e,_,R,Q⟩:=p n.n _ j d m l;cases e;exact⟨by rw[bg];exact R,Q⟩
 .rename_i vs k n;obtain⟨rfl,f,a⟩:=a;cases z
  cases h1 with
  | mM ad _ C B p=>
   have hi:n.n<vs.l:=U;have m:vs[n.n]? = aE vs[n.n]:=by simp[hi]
   have A:vs.getD n.n undef=vs[n.n]:=by simp[hi]
   obtain⟨b,o,e,y,T,h1⟩:=p _ _ m;subst e;refine⟨_,s _ vs.l vs.l k n f,.plain h a ?_⟩;rw[A,Addr.add_lit];refine .gH b (o+n.n*1) _ (λ_=>vs[n.n]) y (λj d l=>?_) (λj d l=>?_)
   .grind
   .have:j=0:=by have:=(ae.1 l).1;simp at this;exact this
    subst this;cases l;exact .val _
 .rename_i v0 X q off len k n;obtain⟨rfl,f,a⟩:=a;cases z
  cases h1 with
  | gh _ _ _ _ _ cap L S M I C V=>
   refine⟨_,s _ len cap k n f,.plain h a ?_⟩;rw[Addr.add_lit,bg,<-bt];exact .ptr _ _ _ L S M
  | nq=>omega
 .exact a.elim
end
section
variable{P:Program}{G:GT}{c:Ctx}{H:gg}{w:World}{K:kd}{env:il}{a:Act}
theorem anT(h:gL G c H w){t e:TypeId}{sz n:Nat}(l:P.underlying t=aE (.array n e))(hs:lg P e=aE sz){x i:D}{u v:Value}(h1:gq c w u x)(g:gq c w v i)(a:I7 sz n x i H K) :
  ∃r,(Instr.indexAt t u v).run P w = .ok r w/\jJ G c H w K r w:=by
 have f:∀(ad:Addr) (k:IntKind) (m:Int),0<=m/\m<n->(Instr.indexAt t (.pointer (aE ad)) (.int k m)).run P w = .ok (.pointer (aE (ad.add (m.n*sz)))) w:=λad k m d=>by simp only[Instr.indexAt,Sem.run_bind,asIntOf,Sem.run_pure,Result.andThen_ok,run_underlying l,sT hs,Sem.run_ite,Instr.sureAddr];rw[if_pos d]
 unfold I7 at a;split at a
 .rename_i v0 z o k m;obtain⟨d,a⟩:=a;cases g
  cases h1 with
  | ptr _ _ _ L y j=>
   refine⟨_,f _ k m d,.plain h a ?_⟩;rw[Addr.add_lit,bg];exact .ptr _ _ _ L y j
 .rename_i cs k m;obtain⟨d,a⟩:=a;cases g;obtain⟨b,p,rfl,s,q⟩:=AD h1;refine⟨_,f _ k m d,.plain h a ?_⟩;rw[Addr.add_lit];exact RS s (q.drop _)
 .exact a.elim
theorem anR(h:gL G c H w){t e:TypeId}{sz n:Nat}{b:Bool}(f:P.underlying t=aE (.array n e))(hs:lg P e=aE sz)(o:qc P e=aE b){x i:D}{u v:Value}(h1:gq c w u x)(d:gq c w v i)(a:I9 sz n b x i H K) :
  ∃r,(Instr.index t u v).run P w = .ok r w/\jJ G c H w K r w:=by
 unfold I9 at a;split at a
 .rename_i cs k m;obtain⟨l,a⟩:=a;cases d
  cases h1 with
  | agg vs _ hl h1 d=>
   obtain⟨r,g,j⟩:=abJ (off:=m.n*sz) h o hs ⟨hl,h1,d⟩ a;refine⟨r,?_,j⟩;simp only[Instr.index,Sem.run_bind,asIntOf,Sem.run_pure,Result.andThen_ok,run_underlying f,Sem.run_ite];rw[if_pos l];simp[sT hs,g]
 .exact a.elim
theorem anU(h:gL G c H w){t:TypeId}(d:P.underlying t=aE .string){x i:D}{u v:Value}(h1:gq c w u x)(f:gq c w v i)(a:I' x i H K) :
  ∃r,(Instr.index t u v).run P w = .ok r w/\jJ G c H w K r w:=by
 unfold I' at a;split at a
 .rename_i s k m;obtain⟨e,a⟩:=a;cases h1;cases f;have b:m.n<s.size:=U
  have hl:s.data.toList.getD m.n 0=s[m.n]:=by have g:m.n<s.data.size:=b;show(s.data.toList[m.n]?).getD 0=s.data[m.n];rw[bH,cE g];rfl
  rw[hl]at a;refine⟨_,?_,.val h a⟩;simp only[Instr.index,Sem.run_bind,asIntOf,Sem.run_pure,Result.andThen_ok,run_underlying d];rw[if_pos e.1];simp[b]
 .exact a.elim
theorem anO(h:gL G c H w){x:D}{i:Nat}{u:Value}(h1:gq c w u x)(a:HT x i H K):∃r,(Instr.extract u i).run P w = .ok r w/\jJ G c H w K r w:=by
 unfold HT at a;split at a
 .split at a
  .rename_i ds d b
   cases h1 with
   | tup vs _ hl h1=>
    have hi:i<vs.l:=by rw[hl];exact(ae.1 b).1
    refine⟨vs[i],?_,.plain h a (h1 i _ d (by simp[hi]) b)⟩;simp[Instr.extract,hi]
  .exact a.elim
 .exact a.elim
theorem anZ(h:gL G c H w)(j:lO c w env a){f:Fn}{first cap:Array Operand}{b d:List X}(h1:y5 G first.toList=aE b)(m:y5 G cap.toList=aE d)
  (k:K (.fn f (b.map (ev env)) (d.map (ev env))) H):jJ G c H w K (.func f (first.map a.eval) (cap.map a.eval)) w:=by
 have i:=Cd h j first.toList h1
 have g:=Cd h j cap.toList m;refine .plain h k ?_;have:=gq.fn (c:=c) (w:=w) f (first.toList.map a.eval) (cap.toList.map a.eval) (b.map (ev env)) (d.map (ev env)) i.l g.l i.get g.get;have e:∀l:Array Operand,(l.toList.map a.eval).toArray=l.map a.eval:=λl=>by cases l;simp
 rwa [e,e]at this
theorem an0(h:gL G c H w){al:Al}(e:oD H al)(t:TypeId)(kk:KK)(f:K (.gM al.1) (al.2 (.map kk []))):∃r w',(Instr.makeMap t cj).run P w = .ok r w'/\jJ G c H w K r w':=by
 have a:=kN.alloc w (.map #[] 0);have d:(⟨w.heap.size,0,0,b4⟩:Loc).ko=b4->w.heap.size<=(⟨w.heap.size,0,0,b4⟩:Loc).b/\(⟨w.heap.size,0,0,b4⟩:Loc).b<(w.alloc (.map #[] 0)).heap.size:=λ_=>⟨bb _,gf⟩;have b:=(e (.map kk [])).vK;have hs:=QE h b a ⟨w.heap.size,0,0,b4⟩ d;refine⟨.map (aE w.heap.size),w.alloc (.map #[] 0),by simp[Instr.makeMap],_,_,_,f,Vg h b a _ d rfl ?_,?_,hs⟩
 .simp only[iy];exact⟨trivial,gf,#[],0,heap_alloc_new _ _,⟨rfl,gf,gf⟩⟩
 .exact .gM (c:=c.set al.1 0 ⟨w.heap.size,0,0,b4⟩) al.1 ⟨w.heap.size,0,0,b4⟩ (Ctx.tZ _ _ _ _) rfl
theorem an1(h:gL G c H w){al:Al}(x:oD H al){t e:TypeId}{i:TypeInfo}{z:List D}(A:P.underlying t=aE (.slice e))(hi:P.info? e=aE i)(y:sZ P e=aE z)(V:z.l=i.size)(Y:0<i.size)
  {l m:D} {u v:Value} (h1:gq c w u l) (C:gq c w v m) (b:Jq e i.size i.bytes z l m al K):∃r w',(Instr.makeSlice t u v).run P w = .ok r w'/\jJ G c H w K r w':=by
 unfold Jq at b;split at b
 .rename_i k n X q;obtain⟨⟨W,B,Z,hb⟩,b⟩:=b;cases h1;cases C;obtain⟨a,g,_,d⟩:=BP y w;have o:a.cells.size=i.size:=by have:=(d c w).len;simp at this;omega
  have wn:IntKind.i64.wrap n=n:=wrap_i64 (by unfold pj;omega);have p:IntKind.i64.wrap q=q:=wrap_i64 (by unfold pj;omega)
  have s:Cells c w ((bs (q.n*i.size)).map (λj=>a.cells[j % a.cells.size]!)).toList (cp q.n z).flatten:=by rw[<-o,P8 a.cells q.n U];exact Ou _ _ d _
  obtain⟨L,O,N,M,J,I,F⟩:=FY h w (kN.refl w) e _ _ ((bs (q.n*i.size)).map (λj=>a.cells[j % a.cells.size]!)).size ((bs (q.n*i.size)).map (λj=>a.cells[j % a.cells.size]!)) (x _).vK s (by rw[<-du,cQ]) (bb _);refine⟨.slice (aE ⟨w.heap.size,0,cj⟩) n.n q.n,w.alloc (.cells ((bs (q.n*i.size)).map (λj=>a.cells[j % a.cells.size]!)) e),?_,?_⟩
  .have S:¬((i.bytes:Int)*q>2 ^ 48):=by omega
   have c2:¬q<0:=U;have R:¬n<0:=U;have Q:¬n>q:=U;simp only[Instr.makeSlice,Sem.run_bind,run_underlying A,Result.andThen_ok,asInt,asIntOf,Sem.run_pure,run_typeInfo hi,wn,p,Sem.run_ite];rw[if_neg (by simp[S,c2,R,Q];omega)]
   by_cases h0:q.n*i.size=0
   .have T:q.n=0:=by rcases ep.1 h0 with h|h<;>omega
    have E:bs 0=(#[]:Array Nat):=rfl;simp[sizeOf,run_typeInfo hi,T,newRow,E]
   .simp[sizeOf,run_typeInfo hi,h0,g,newRow]
  .have f:=Jx (c:=c) (w:=w.alloc (.cells ((bs (q.n*i.size)).map (λj=>a.cells[j % a.cells.size]!)) e)) O M al.1 0 i.size n.n q.n (by rw[J];simp) U (by unfold maxLen;omega);rw[N]at f;exact⟨_,_,_,b,I,f,F⟩
 .exact b.elim
end
section
variable{P:Program}{G:GT}{c:Ctx}{H:gg}{w:World}{K:kd}{env:il}{a:Act}
theorem Oq{α:Type}(sz:Nat)(c:0<sz):∀(ls:List (List α)),(∀l∈ls,l.l=sz)->∀j:Nat,ls.flatten[j]? = (ls[j / sz]?).bind (·[j % sz]?)
 | [],_,j=>gf
 | l::ls,h,j=>by
  have hl:l.l=sz:=h l gf;rw[a8]
  by_cases d:j<sz
  .rw[ah U,Nat.div_eq_of_lt d,fj d];simp
  .rw[ak U,hl,Oq sz c ls (λl hl=>h l (by simp[hl])),Nat.div_eq_sub_div (a:=j) (b:=sz) c U,eh (a:=j) (b:=sz) U];simp
theorem Ot{α:Type}(sz:Nat):∀(ls:List (List α)),(∀l∈ls,l.l=sz)->ls.flatten.l=ls.l*sz
 | [],_=>gf
 | l::ls,h=>by rw[a8,ar,Ot sz ls (λl hl=>h l (by simp[hl])),h l gf,aL,bt];omega
theorem Vb(h:gL G c H w){sz:Nat}(R:0<sz){d:D}{u:Value}(p:gq c w u d){x:List D}{n:Nat}(f:lN sz H d=aE (x,n)) :
  ∃y E vs,u = .slice y n E/\Cells c w vs x/\x.l=n*sz/\n<=E/\(y=cj->n=0)/\(∀ad,y=aE ad->∀(j:Nat) (v:Value),vs[j]? = aE v->w.cell? (ad.add j)=aE v):=by
 unfold lN at f;split at f
 .rename_i k es;split at f
  .rename_i e;subst e;cases f
   cases p with
   | sl ad len cap _ _ g q I J M A r p=>
    have Bd:=Ot k es M
    have K:∀(j:Nat) (d:D),es.flatten[j]? = aE d->∃e,es[j / k]? = aE e/\e[j % k]? = aE d:=λj d l=>by
     rw[Oq k R es M]at l
     cases N:es[j / k]? with
     | none=>simp[N]at l
     | some e=>exact⟨e,rfl,by simpa[N]using l⟩
    refine⟨ad,cap,(List.range es.flatten.l).map λj=>g (j / k) (j % k),by rw[q],⟨gf,λv a=>?_,λi v d a l=>?_⟩,Bd,U,λe=>by have:=A e;omega,λb m j v a=>?_⟩
    .simp only[au,br]at a;obtain⟨j,s,rfl⟩:=a;obtain⟨e,C,z⟩:=K j _ (by rw[dr s]);obtain⟨_,_,_,_,_,h1⟩:=r _ e _ _ C z;exact h1
    .grind
    .have s:j<es.flatten.l:=by have:=(ae.1 a).1;simpa using this
     simp only[ax,bW s,aK,av]at a;subst a;obtain⟨e,C,z⟩:=K j _ (by rw[dr s]);obtain⟨Z,o,F,_,O,_⟩:=r _ e _ _ C z;rw[m]at F;cases F;rw[Addr.add_lit];have B:=O;rw[en j k]at B;exact B
  .cases f
 .cases f
  cases p with
  | gp=>exact⟨cj,0,[],rfl,Cells.nil,gf,bb _,λ_=>rfl,λ_ _ j v a=>by simp at a⟩
 .rename_i vs;split at f
  .rename_i Y;subst Y;cases f
   cases p with
   | mM ad _ J A r=>
    refine⟨ad,vs.l,vs,rfl,⟨gf,λv a=>?_,λi v d a l=>?_⟩,gf,bb _,λe=>by rw[A e];rfl,λb m j v a=>?_⟩
    .obtain⟨i,hi⟩:=dx a;obtain⟨_,_,_,_,_,h1⟩:=r i v hi;exact h1
    .simp only[ax,a,aK,av]at l;subst l;exact .val _
    .obtain⟨Z,o,W,_,Q,_⟩:=r j v a;rw[W]at m;cases m;rw[Addr.add_lit];exact Q
  .cases f
 .rename_i v0 g0 k off len;split at f
  .rename_i t cs T;split at f
   .rename_i S;obtain⟨rfl,oq⟩:=S;cases f;have a:=vF T;dsimp only at a
    cases p with
    | gh _ _ _ _ _ cap L P V I J nG=>
     obtain⟨arr,h1,O,B,X⟩:=zW h a P V;refine⟨_,cap,_,rfl,((X.drop (off*k)).take (n*k)),?_,I,(λe=>nomatch e),λad m j v a=>?_⟩
     .grind
     .cases m;rw[Addr.add_lit];rw[aJ]at a;split at a
      .rw[aM,aJ]at a;split at a
       .rw[aM]at a;simp[World.cell?,h1];rw[bg];simpa using a
       .cases a
      .cases a
    | nq _ _ _ _ L P ad=>
     refine⟨ad,0,[],rfl,?_,gf,bb _,λ_=>rfl,λ_ _ j v a=>by simp at a⟩;simp only[c9,eW];exact Cells.nil
   .cases f
  .cases f
 .cases f
theorem Wq:∀ {vs:List Value} {a:List D} {b:List Int},vs.l=a.l->(∀(i:Nat) (v:Value) (d:D),vs[i]? = aE v->a[i]? = aE d->gq c w v d)->bytesOf a=aE b->vs=b.map (Value.int .u8)
 | [],[],b,_,_,h=>by cases h;rfl
 | v::vs,y::a,b,hl,hr,h=>by
  unfold bytesOf at h;split at h
  .grind
  .rename_i n r f;cases f;split at h
   .rename_i l g;cases h;have h0:=hr 0 v _ rfl rfl;cases h0;have e:=Wq (vs:=vs) (by simpa using hl) (λi v d j k=>hr (i+1) v d (by simpa using j) (by simpa using k)) g;rw[e];rfl
   .cases h
  .cases h
theorem anD(h:gL G c H w){s d e:TypeId}(hs:P.underlying s=aE (.slice e))(q:P.underlying e=aE (.int .u8))(t:P.underlying d=aE .string){x:D}{u:Value}(h1:gq c w u x)(a:Hl x H K) :
  ∃r,(convert s d u).run P w = .ok r w/\jJ G c H w K r w:=by
 unfold Hl at a;split at a
 .rename_i A n l;obtain⟨j,i,vs,m,b,k,o,y,z⟩:=Vb h U h1 l;subst m;split at a
  .rename_i f v;have g:=Wq b.len b.rep v;refine⟨_,?_,.val h a⟩;rw[run_convert_bytes_string w s d e j n i hs q t]
   cases j with
   | none=>
    have p:=y rfl;subst p
    have:f = []:=by
     have:vs = []:=aY (by rw[b.len,k]);rw[this]at g
     cases f with
     | nil=>rfl
     | cons=>cases g
    subst this;simp[Conv.bytesToString]
   | some ad=>
    refine run_bytesToString w ad n i f ?_;have hl:vs.l=n:=by rw[b.len,k];simp
    have:=run_loadCells_list (P:=P) w ad vs (z ad rfl);rw[hl]at this;rw[this,g]
  .exact a.elim
 .grind
theorem adP(h:gL G c H w)(i:lO c w env a){x:Option Operand}{X:Option X}(e:tG G x=aE X){d:Int}{n:Int}(b:iC env X d=aE n) :
  (x=cj/\n=d)\/∃k o,x=aE o/\a.eval o = .int k n:=by
 cases x with
 | none=>cases e;simp[iC]at b;exact .inl ⟨rfl,b.symm⟩
 | some o=>
  simp only[tG,aq]at e;obtain⟨j,hX,rfl⟩:=e;have:=jj h i hX;simp only[iC]at b;split at b
  .rename_i k m f;cases b;rw[f]at this;generalize g:a.eval o=v at this;cases this;exact .inr ⟨k,o,rfl,g⟩
  .cases b
theorem Qk(a:Bool)(len cap:Nat)(lo hi:Option Value)(l h:Int)(d:(lo=cj/\l=0)\/∃k,lo=aE (.int k l))(e:(hi=cj/\h=len)\/∃k,hi=aE (.int k h))
  (h0:0<=l) (h1:l<=h) (c:h<=cap):(Instr.sliceBounds a len cap lo hi cj).run P w = .ok (l.n,h.n,cap) w:=by
 have f:(h.n:Int)=h:=cA U;rcases d with⟨rfl,rfl⟩|⟨k,rfl⟩<;>rcases e with⟨rfl,rfl⟩|⟨b,rfl⟩
 .simp[Instr.sliceBounds]
 .simp[Instr.sliceBounds,run_sliceBound w b h cap _ U c]
 .simp[Instr.sliceBounds,run_sliceBound w k l len _ h0 h1]
 .simp[Instr.sliceBounds,run_sliceBound w b h cap _ U c,run_sliceBound w k l h.n _ h0 U]
theorem wW(h:gL G c H w)(e:lO c w env a){x:Option Operand}{X:Option X}(b:tG G x=aE X){d:Int}{n:Int}(f:iC env X d=aE n) :
  (x.map a.eval=cj/\n=d)\/∃k,x.map a.eval=aE (.int k n):=by
 rcases adP h e b f with⟨rfl,rfl⟩|⟨k,o,rfl,g⟩
 .grind
 .grind
theorem an8(h:gL G c H w)(E:lO c w env a){t e:TypeId}{sz:Nat}(V:P.underlying t=aE (.slice e))(hs:lg P e=aE sz){lo hi:Option Operand}{L M:Option X}(hl:tG G lo=aE L)(Y:tG G hi=aE M)
  {x:D} {u:Value} (h1:gq c w u x) (f:JX env sz x L M H K):∃r,(Instr.sliceAt t u (lo.map a.eval) (hi.map a.eval) cj).run P w = .ok r w/\jJ G c H w K r w:=by
 have y:∀(b:Option Addr) (len cap:Nat) (l m:Int),iC env L 0=aE l->iC env M len=aE m->0<=l->l<=m->m<=cap ->
   (Instr.sliceAt t (.slice b len cap) (lo.map a.eval) (hi.map a.eval) cj).run P w = .ok (.slice (if cap=l.n then b else b.map (·.add (l.n*sz))) (m.n-l.n) (cap-l.n)) w:=by
  intro b len cap l m n k h0 p S4;have hb:=Qk (P:=P) (w:=w) true len cap (lo.map a.eval) (hi.map a.eval) l m (wW h E hl n) (wW h E Y k) h0 p S4;simp only[Instr.sliceAt,Sem.run_bind,run_underlying V,Result.andThen_ok,Instr.slice,hb,sT hs,Sem.run_pure]
 unfold JX at f;split at f
 .rename_i q es;split at f
  .rename_i l m n k;obtain⟨rfl,⟨h0,p,J⟩,f⟩:=f
   cases h1 with
   | sl ad len cap _ _ g s O Q S mo hc hr=>
    refine⟨_,y ad len cap l m n (by rw[<-s];exact k) h0 p U,.plain h f ?_⟩;have R:∀(i:Nat) (e:List D),((es.drop l.n).take (m.n-l.n))[i]? = aE e->es[l.n+i]? = aE e/\i<m.n-l.n:=λi e hi=>jZ;refine .sl _ _ _ q _ (λi j=>g (l.n+i) j) gO U U (λe I=>S e (bC (aS I))) ?_ ?_ ?_
    .intro W;split at W
     .omega
     .simp_all
    .intro i e j d hi Z;obtain⟨h3,h4⟩:=R i e hi;obtain⟨b,o,F,hF,pb,h1⟩:=hc _ e j d h3 Z;refine⟨b,o+l.n*q,?_,hF,?_,h1⟩
     .rw[if_neg U,F];simp[Addr.add_lit]
     .grind
    .grind
  .exact f.elim
 .rename_i v B q off len;split at f
  .rename_i l m n k;obtain⟨rfl,⟨h0,p,J⟩,f⟩:=f
   cases h1 with
   | gh _ _ _ _ _ cap A z T O Q N=>
    refine⟨_,y _ len cap l m n k h0 p U,.plain h f ?_⟩
    by_cases C:cap=l.n
    .rw[if_pos C,(U:m.n-l.n=0),(U:cap-l.n=0)];exact .nq v B q (off+l.n) A z _
    .rw[if_neg C];have:=gq.gh (c:=c) (w:=w) v B q (off+l.n) (m.n-l.n) (cap-l.n) A z T U U (by rw[(U:off+l.n+(cap-l.n)=off+cap)];exact N);simp only[aK,Addr.add_lit];rw[bg,<-bt];exact this
   | nq _ _ _ _ A z ad=>
    have:l=0:=U;subst this;have:m=0:=U;subst this;refine⟨_,y ad 0 0 0 0 n k h0 p U,.plain h f ?_⟩;simp only[eX,if_true,fm,cJ];exact .nq v B q off A z ad
  .exact f.elim
 .split at f
  .rename_i l m n k;obtain⟨⟨rfl,rfl⟩,f⟩:=f
   cases h1 with
   | gp=>
    refine⟨_,y cj 0 0 0 0 n k U U U,.plain h f ?_⟩;simp only[eX,if_true,fm];exact .gp
  .exact f.elim
 .grind
theorem apj(a:Bool)(len cap:Nat)(lo:Option Value)(k b:IntKind)(l h m:Int)(d:(lo=cj/\l=0)\/∃k,lo=aE (.int k l))
  (h0:0<=l) (h1:l<=h) (e:h<=m) (c:m<=cap):(Instr.sliceBounds a len cap lo (aE (.int k h)) (aE (.int b m))).run P w = .ok (l.n,h.n,m.n) w:=by
 have em:(m.n:Int)=m:=cA U;rcases d with⟨rfl,rfl⟩|⟨k0,rfl⟩
 .simp[Instr.sliceBounds,run_sliceBound w b m cap _ U c,run_sliceBound w k h m.n _ U U]
 .simp[Instr.sliceBounds,run_sliceBound w b m cap _ U c,run_sliceBound w k h m.n _ U U,run_sliceBound w k0 l h.n _ h0 U]
theorem acY:∀ {es:List (List D)} {vs:List Value},Gu es=aE vs->es=vs.map (λv=>[.val v])/\∀v∈vs,v.oneCell'=true
 | [],vs,h=>by cases h;exact⟨rfl,gf⟩
 | e::es,vs,h=>by
  unfold Gu at h;split at h
  .grind
  .rename_i v r a;cases a;split at h
   .rename_i h1;split at h
    .rename_i l hl;cases h;obtain⟨b,d⟩:=acY hl;exact⟨by rw[b];rfl,λv c=>jZ⟩
    .cases h
   .cases h
  .cases h
theorem aeh{ad:Option Addr}{len sz:Nat}{es:List (List D)}(h1:gq c w (.slice ad len len) (.sl sz es)):gq c w (.slice ad len len) (clip sz es):=by
 unfold clip;split
 .rename_i vs h;split
  .rename_i t;subst t;obtain⟨s,z⟩:=acY h;subst s
   cases h1 with
   | sl _ _ _ _ _ g a x j y f n l=>
    simp only[List.length_map]at a;subst a;refine .mM ad vs j (λe=>aC.1 (f e)) λi v k=>?_;have hi:(vs.map λv=>[D.val v])[i]? = aE [.val v]:=by simp[k]
    obtain⟨b,o,p,q,d,h1⟩:=n i _ 0 _ hi rfl;have hg:=l i _ 0 _ hi rfl
    have r:g i 0=v:=by generalize m:g i 0=u at hg;cases hg;rfl
    rw[r]at d h1;exact⟨b,o,p,q,by simpa using d,h1⟩
  .exact h1
 .exact h1
theorem an6(h:gL G c H w)(I:lO c w env a){t e:TypeId}{sz:Nat}(hu:P.underlying t=aE (.slice e))(hs:lg P e=aE sz){lo:Option Operand}{hi mx:Operand}{L:Option X}{M N:X}(hl:tG G lo=aE L)(hm:cX G hi=aE M)(C:cX G mx=aE N)
  {x:D} {u:Value} (h1:gq c w u x) (n:JV env sz x L M N H K):∃r,(Instr.sliceAt t u (lo.map a.eval) (aE (a.eval hi)) (aE (a.eval mx))).run P w = .ok r w/\jJ G c H w K r w:=by
 have B:∀(b:Option Addr) (len cap:Nat) (l f m:Int),iC env L 0=aE l->iC env (aE M) 0=aE f->iC env (aE N) 0=aE m->0<=l->l<=f->f<=m->m<=cap ->
   (Instr.sliceAt t (.slice b len cap) (lo.map a.eval) (aE (a.eval hi)) (aE (a.eval mx))).run P w = .ok (.slice (if m.n=l.n then b else b.map (·.add (l.n*sz))) (f.n-l.n) (m.n-l.n)) w:=by
  intro b len cap l f m s p z h0 q A S4
  obtain⟨k1,V⟩:∃k,a.eval hi = .int k f:=by
   rcases wW h I (x:=aE hi) (X:=aE M) (by simp only[tG,hm,aK]) p with⟨e,_⟩|⟨k,e⟩
   .cases e
   .grind
  obtain⟨k2,W⟩:∃k,a.eval mx = .int k m:=by
   rcases wW h I (x:=aE mx) (X:=aE N) (by simp only[tG,C,aK]) z with⟨e,_⟩|⟨k,e⟩
   .cases e
   .grind
  have hb:=apj (P:=P) (w:=w) true len cap (lo.map a.eval) k1 k2 l f m (wW h I hl s) h0 q A S4;simp only[Instr.sliceAt,Sem.run_bind,run_underlying hu,Result.andThen_ok,Instr.slice,V,W,hb,sT hs,Sem.run_pure]
 unfold JV at n;split at n
 .rename_i l f m s p z;split at n
  .rename_i y es;obtain⟨rfl,⟨h0,q,rfl,T⟩,n⟩:=n
   cases h1 with
   | sl ad len cap _ _ g Q kI jv iX Z hc hr=>
    refine⟨_,B ad len cap l f f s p z h0 q (eu _) U,.plain h n (aeh ?_)⟩;have jU:∀(i:Nat) (e:List D),((es.drop l.n).take (f.n-l.n))[i]? = aE e->es[l.n+i]? = aE e/\i<f.n-l.n:=λi e hi=>jZ;refine .sl _ _ _ y _ (λi j=>g (l.n+i) j) gO U U (λe S=>iX e (bC (aS S))) ?_ ?_ ?_
    .intro C;split at C
     .omega
     .cases ad with
      | none=>have:=Z rfl;omega
      | some ad=>simp at C
    .intro i e j d hi hd;obtain⟨h3,h4⟩:=jU i e hi;obtain⟨b,o,R,hF,pb,h1⟩:=hc _ e j d h3 hd;refine⟨b,o+l.n*y,?_,hF,?_,h1⟩
     .rw[if_neg U,R];simp[Addr.add_lit]
     .grind
    .grind
  .rename_i v J y off len;obtain⟨rfl,⟨h0,q,A,T⟩,n⟩:=n
   cases h1 with
   | gh _ _ _ _ _ cap F E hv kI jv Y=>
    refine⟨_,B _ len cap l f m s p z h0 q A U,.plain h n ?_⟩
    by_cases O:m.n=l.n
    .rw[if_pos O,(U:f.n-l.n=0),(U:m.n-l.n=0)];exact .nq v J y (off+l.n) F E _
    .rw[if_neg O]
     have:=gq.gh (c:=c) (w:=w) v J y (off+l.n) (f.n-l.n) (m.n-l.n) F E hv U U (by
      refine Nat.le_trans (Nat.add_le_add_left (bE _ ?_) _) Y
      omega)
     simp only[aK,Addr.add_lit];rw[bg,<-bt];exact this
   | nq _ _ _ _ F E ad=>
    have:l=0:=U;subst this;have:f=0:=U;subst this;have:m=0:=U;subst this;refine⟨_,B ad 0 0 0 0 0 s p z h0 q A U,.plain h n ?_⟩;simp only[eX,if_true,fm,cJ];exact .nq v J y off F E ad
  .obtain⟨⟨rfl,rfl,rfl⟩,n⟩:=n
   cases h1 with
   | gp=>
    refine⟨_,B cj 0 0 0 0 0 s p z U U U U,.plain h n ?_⟩;simp only[eX,if_true,fm];exact .gp
  .exact n.elim
 .grind
theorem an7(h:gL G c H w)(s:lO c w env a){t e:TypeId}{sz n:Nat}(S:P.underlying t=aE (.array n e))(hs:lg P e=aE sz){lo hi:Option Operand}{L M:Option X}(hl:tG G lo=aE L)(V:tG G hi=aE M)
  {x:D} {u:Value} (h1:gq c w u x) (f:JW env sz n x L M H K):∃r,(Instr.sliceAt t u (lo.map a.eval) (hi.map a.eval) cj).run P w = .ok r w/\jJ G c H w K r w:=by
 unfold JW at f;split at f
 .rename_i cs l m B z;obtain⟨⟨rfl,Z,jv,h0,A,Y⟩,f⟩:=f;obtain⟨b,p,rfl,hF,jD⟩:=AD h1;obtain⟨vs,W,lS⟩:=jD;have F:=Qk (P:=P) (w:=w) b4 n n (lo.map a.eval) (hi.map a.eval) l m (wW h s hl B) (wW h s V z) h0 A U
  have C:(Instr.sliceAt t (.pointer (aE ⟨b,p,cj⟩)) (lo.map a.eval) (hi.map a.eval) cj).run P w = .ok (.slice (aE (if n=l.n then⟨b,p,cj⟩else Addr.add ⟨b,p,cj⟩ (l.n*1))) (m.n-l.n) (n-l.n)) w:=by simp only[Instr.sliceAt,Sem.run_bind,run_underlying S,Result.andThen_ok,Instr.sureAddr,F,sT hs,Sem.run_pure]
  refine⟨_,C,.plain h f ?_⟩;have O:∀(i:Nat) (e:List D),(((cs.drop l.n).take (m.n-l.n)).map λd=>[d])[i]? = aE e->∃d,cs[l.n+i]? = aE d/\e = [d]/\i<m.n-l.n:=λi e hi=>jZ;refine .sl _ _ _ 1 _ (λi _=>vs.getD (l.n+i) undef) gO U (by unfold maxLen;omega) (λe ru=>?_) (λe=>nomatch e) ?_ ?_
  .grind
  .intro i e j d hi y;obtain⟨d0,I,rfl,h4⟩:=O i e hi;have E:j=0:=by have:=(ae.1 y).1;simp at this;exact this
   subst E;obtain⟨v,q,oX,N⟩:=W.get I;refine⟨b,p+l.n,?_,hF,?_,?_⟩
   .rw[if_neg U,Addr.add_lit,eZ]
   .grind
   .grind
  .intro i e j d hi y;obtain⟨d0,I,rfl,h4⟩:=O i e hi;have E:j=0:=by have:=(ae.1 y).1;simp at this;exact this
   subst E;cases y;obtain⟨v,q,oX,N⟩:=W.get I;rw[List.getD_eq_getElem?_getD,q,a7];exact N
 .rename_i v g o l m B z;split at f
  .rename_i t' cs iw;obtain⟨⟨a5,Z,jv,h0,A,Y⟩,f⟩:=f;have q:=vF iw;dsimp only at q
   cases h1 with
   | ptr _ _ _ k J Q=>
    obtain⟨arr,CQ,OR,Zl,OS⟩:=zW h q J Q;have F:=Qk (P:=P) (w:=w) b4 n n (lo.map a.eval) (hi.map a.eval) l m (wW h s hl B) (wW h s V z) h0 A U
    have C:(Instr.sliceAt t (.pointer (aE ⟨k.b,k.base+o,cj⟩)) (lo.map a.eval) (hi.map a.eval) cj).run P w = .ok (.slice (aE (if n=l.n then⟨k.b,k.base+o,cj⟩else Addr.add ⟨k.b,k.base+o,cj⟩ (l.n*sz))) (m.n-l.n) (n-l.n)) w:=by simp only[Instr.sliceAt,Sem.run_bind,run_underlying S,Result.andThen_ok,Instr.sureAddr,F,sT hs,Sem.run_pure]
    refine⟨_,C,.plain h f ?_⟩;have T:o=o / sz*sz:=by have:=en o sz;omega
    by_cases R:n=l.n
    .rw[if_pos R,(U:m.n-l.n=0),(U:n-l.n=0)];exact .nq v g sz (o / sz+l.n) k J _
    .rw[if_neg R]
     have:=gq.gh (c:=c) (w:=w) v g sz (o / sz+l.n) (m.n-l.n) (n-l.n) k J Q U (by unfold maxLen;omega) (by
      rw[(U:o / sz+l.n+(n-l.n)=o / sz+n),bt,<-T]
      omega)
     rw[Addr.add_lit];rw[bt,<-T,<-bg]at this;exact this
  .exact f.elim
 .grind
theorem an9(h:gL G c H w)(d:lO c w env a){t:TypeId}(j:P.underlying t=aE .string){lo hi:Option Operand}{L M:Option X}(hl:tG G lo=aE L)(k:tG G hi=aE M)
  {s:ByteArray} (b:Gh env (.val (.string s)) L M H K):∃r,(Instr.sliceAt t (.string s) (lo.map a.eval) (hi.map a.eval) cj).run P w = .ok r w/\jJ G c H w K r w:=by
 simp only[Gh]at b;split at b
 .rename_i l m i f;obtain⟨⟨h0,g,e⟩,b⟩:=b;have n:=Qk (P:=P) (w:=w) b4 s.size s.size (lo.map a.eval) (hi.map a.eval) l m (wW h d hl i) (wW h d k f) h0 g e;exact⟨.string (s.extract l.n m.n),by simp[Instr.sliceAt,run_underlying j,Instr.slice,n],.val h b⟩
 .grind
theorem vu{v:Nat}{x:KK×List (Value×D)}(h:mq H v=aE x):H[v]? = aE (.map x.1 x.2):=by
 unfold mq at h;split at h
 .grind
 .cases h
theorem Uu(h:gL G c H w){t ty:TypeId}{k:B3}{d:TypeDesc}(f:P.underlying t=aE d)(b:match k with | .slice=>∃e,d = .slice e | .string=>d = .string | .map=>∃k e,d = .map k e)
  {x:D} {u:Value} (h1:gq c w u x) (a:Jg k x H K):∃r,(Builtin.len_ #[t] ty #[u]).run P w = .ok r w/\jJ G c H w K r w:=by
 unfold Jg at a;split at a
 .obtain⟨e,rfl⟩:=b
  cases h1 with
  | sl ad len cap _ _ g i s m n p A E=>
   refine⟨goInt len,by simp[Builtin.len_,run_underlying f],.plain h a ?_⟩;rw[i];exact .val _
 .obtain⟨e,rfl⟩:=b
  cases h1 with
  | gp=>exact⟨goInt 0,by simp[Builtin.len_,run_underlying f],.plain h a (.val _)⟩
 .rename_i vs;obtain⟨e,rfl⟩:=b
  cases h1 with
  | mM ad _ m p A=>exact⟨goInt vs.l,by simp[Builtin.len_,run_underlying f],.plain h a (.val _)⟩
 .rename_i v F sz off len;obtain⟨e,rfl⟩:=b
  cases h1 with
  | gh _ _ _ _ _ cap L o y s m C=>exact⟨goInt len,by simp[Builtin.len_,run_underlying f],.plain h a (.val _)⟩
  | nq=>exact⟨goInt 0,by simp[Builtin.len_,run_underlying f],.plain h a (.val _)⟩
 .have b:d = .string:=b;subst b;cases h1;exact⟨_,by simp[Builtin.len_,run_underlying f]<;>rfl,.plain h a (.val _)⟩
 .rename_i v;obtain⟨kk,e,rfl⟩:=b;split at a
  .rename_i B es q
   cases h1 with
   | gM _ L o y=>
    have j:=h.ob v _ (vu q);simp only[Ob.gen]at j;rw[o]at j;simp only[iy]at j;obtain⟨_,_,arr,l,z,n,_⟩:=j;refine⟨goInt arr.size,by simp[Builtin.len_,run_underlying f,getObj,Sem.run,z],.plain h a ?_⟩;rw[<-n];exact .val _
  .exact a.elim
 .grind
theorem abG(h:gL G c H w)(u:lO c w env a){xs:List X}{ops:Array Operand}(t:y5 G ops.toList=aE xs)(b:Bool)(j:Array TypeId)(ty:TypeId)(f:Jp env b xs H K) :
  ∃r,(if b then Builtin.max_ j ty (ops.map a.eval)else Builtin.min_ j ty (ops.map a.eval)).run P w = .ok r w/\jJ G c H w K r w:=by
 have d:=Cd h u ops.toList t
 have key:∀(xs:List X) (vs:List Value) (l:List Int),tq env xs=aE l->j' c w vs (xs.map (ev env))->vs=l.map (Value.int .i64 ·):=by
  intro xs
  induction xs with
  | nil=>intro vs l hl d;simp[tq]at hl;subst hl;cases d;rfl
  | cons x xs o=>
   intro vs l hl d;simp only[tq]at hl;split at hl
   .rename_i n y k m;cases hl;simp only[List.map_cons]at d
    cases d with
    | cons h1 v=>
     rw[k]at h1;cases h1;rw[o _ _ m v];rfl
   .cases hl
 have e:∀l:Array Operand,(l.toList.map a.eval).toArray=l.map a.eval:=λl=>by cases l;simp
 unfold Jp at f;split at f
 .rename_i p q hi;have i:=key _ _ _ hi d;have g:ops.map a.eval = #[.int .i64 p,.int .i64 q]:=by rw[<-e,i];rfl
  cases b
  .refine⟨.int .i64 (min p q),?_,.val h (by simpa using f)⟩;simp only[bG,if_false,g];have:(if q<p then q else p)=min p q:=U;simp[Builtin.min_,Builtin.min2,this]
  .refine⟨.int .i64 (max p q),?_,.val h (by simpa using f)⟩;simp only[if_true,g];have:(if q>p then q else p)=max p q:=U;simp[Builtin.max_,Builtin.max2];omega
 .rename_i p q s hi;have i:=key _ _ _ hi d;have g:ops.map a.eval = #[.int .i64 p,.int .i64 q,.int .i64 s]:=by rw[<-e,i];rfl
  cases b
  .refine⟨.int .i64 (min (min p q) s),?_,.val h (by simpa using f)⟩;simp only[bG,if_false,g];simp[Builtin.min_,Builtin.min2];omega
  .refine⟨.int .i64 (max (max p q) s),?_,.val h (by simpa using f)⟩;simp only[if_true,g];simp[Builtin.max_,Builtin.max2];omega
 .exact f.elim
end
section
variable{P:Program}{G:GT}{c:Ctx}{H:gg}{w:World}{K:kd}{env:il}{a:Act}
theorem abn{G:GT}{c:Ctx}{H:gg}{w w':World}(h:gL G c H w){v g:Nat}{t:TypeId}{cs:List D}(A:H[v]? = aE (.row t g cs)){L:Loc}(gC:c.ι v g=aE L)(a:Loc)
  (hg:(w'.os=w.os/\w.drawn<=w'.drawn)/\w'.tape=w.tape/\w'.output=w.output/\w.heap.size<=w'.heap.size) (T:∀b,b<w.heap.size->¬(L.ko=b4/\b=L.b)->w'.heap[b]? = w.heap[b]?)
  (y:a.ko=b4->(w.heap.size<=a.b\/(L.ko=b4/\a.b=L.b))/\a.b<w'.heap.size) (m:List D)
  (X:(∀u d,gq c w u d->gq (c.set v (g+1) a) w' u d)->iy (c.set v (g+1) a) w' (aE a) (.row t (g+1) m)) :
  gL G (c.set v (g+1) a) (H.set v (.row t (g+1) m)) w'/\Step H.l c H w (c.set v (g+1) a) (H.set v (.row t (g+1) m)) w':=by
 have K:v<H.l:=(ae.1 A).1;have p:mJ c H v L:=⟨_,A,rfl,gC⟩;have S:Av H v (.row t (g+1) m) (H.set v (.row t (g+1) m)):=⟨tY K,.inr (.inr ⟨_,A,rfl,Nat.lt_succ_self _⟩),gf⟩;have Q:∀b,c.F b->¬(L.ko=b4/\b=L.b):=λb x e=>h.nF b ⟨v,L,p,e.1,e.2.symm⟩ x;have J:∀u l,mJ (c.set v (g+1) a) (H.set v (.row t (g+1) m)) u l->(u=v/\l=a)\/(u≠v/\mJ c H u l):=λu l hl=>Gq S hl
 have I:∀b,mZ (c.set v (g+1) a) (H.set v (.row t (g+1) m)) b->(a.ko=b4/\b=a.b)\/(mZ c H b/\¬(L.ko=b4/\b=L.b)):=by
  rintro b ⟨u,l,hl,j,rfl⟩;rcases J u l hl with⟨_,rfl⟩|⟨z,h1⟩
  .exact .inl ⟨j,rfl⟩
  .exact .inr ⟨⟨u,l,h1,j,rfl⟩,λe=>z (h.inj u v l L h1 p j e.1 e.2)⟩
 have hs:Step H.l c H w (c.set v (g+1) a) (H.set v (.row t (g+1) m)) w':={
  os:=hg.1
  tape:=hg.2.1
  output:=hg.2.2.1
  size:=hg.2.2.2
  RT:=rfl
  Fm:=λ_ h=>h
  Fn:=λ_ h=>.inl h
  kept:=λb f Y=>T b f λe=>Y ⟨v,L,p,e.1,e.2.symm⟩
  old:=λu k l _ B=>acR h S u k l B
  own:=λb f=>by
   rcases I b f with⟨j,rfl⟩|⟨f,_⟩
   .rcases(y j).1 with h1|⟨h1,O⟩
    .exact .inl h1
    .exact .inr ⟨v,L,p,h1,O.symm⟩
   .exact .inr f }
 have M:∀u d,gq c w u d->gq (c.set v (g+1) a) w' u d:=λu d C=>C.rG h.toHeapOK hs
 refine⟨{
  inj:=λu r l s h1 O F E Z=>by
   rcases J u l h1 with⟨rfl,rfl⟩|⟨n1,P⟩<;>rcases J r s O with⟨rfl,rfl⟩|⟨n2,b2⟩
   .rfl
   .exfalso;have gW:=h.lt s.b ⟨r,s,b2,E,rfl⟩;rcases(y F).1 with n|⟨n,N⟩
    .omega
    .exact n2 (h.inj r u s L b2 p E n U)
   .exfalso;have gW:=h.lt l.b ⟨u,l,P,F,rfl⟩;rcases(y E).1 with n|⟨n,N⟩
    .omega
    .exact n1 (h.inj u r l L P p F n U)
   .exact h.inj u r l s P b2 F E Z
  lt:=λb f=>by
   rcases I b f with⟨j,rfl⟩|⟨f,_⟩
   .exact(y j).2
   .exact aR (h.lt b f) hg.2.2.2
  nF:=λb f x=>by
   rcases I b f with⟨j,rfl⟩|⟨f,_⟩
   .rcases(y j).1 with n|⟨n,N⟩
    .have:=h.lF _ x;omega
    .exact Q _ x ⟨n,N⟩
   .exact h.nF b f x
  lF:=λb f=>aR (h.lF b f) hg.2.2.2
  out:=λu k B=>by simp only[az]at B;rw[Ctx.xO _ _ (by rintro⟨rfl,_⟩;omega)];exact h.out u k B
  nC:=λu o k i q=>by
   rw[tY K]at i;split at i
   .rename_i e;cases i;subst e;rcases q with q|⟨_,q⟩
    .cases q
    .simp only[Ob.gen]at q;rw[Ctx.xO _ _ (by rintro⟨_,rfl⟩;omega)];exact h.nC u _ k A (.inr ⟨rfl,by simp only[Ob.gen];omega⟩)
   .rename_i e;rw[Ctx.xO _ _ (λh=>e h.1)];exact h.nC u o k i q
  ob:=λu o i=>by
   rw[tY K]at i;split at i
   .rename_i e;cases i;subst e;simp only[Ob.gen];rw[Ctx.tZ];exact X M
   .rename_i z;rw[Ctx.xO _ _ (λh=>z h.1)];exact iy.keep (c:=c) (c':=c.set v (g+1) a) rfl M (λl hl R C=>T _ (h.lt _ ⟨u,l,⟨o,i,C,hl⟩,R,rfl⟩) λe=>z (h.inj u v l L ⟨o,i,C,hl⟩ p R e.1 e.2)) (h.ob u o i)
  gl:=λg' cs V=>by obtain⟨gP,W⟩:=h.gl g' cs V;exact⟨gP,M _ _ W⟩
  rt:=h.rt },hs⟩
theorem Um{G:GT}{c:Ctx}{H:gg}{w w':World}(h:gL G c H w){v g:Nat}{t:TypeId}{cs:List D}(o:H[v]? = aE (.row t g cs)){L:Loc}(s:c.ι v g=aE L)(a:Loc)(n:a.ko=b4)
  (hg:(w'.os=w.os/\w.drawn<=w'.drawn)/\w'.tape=w.tape/\w'.output=w.output/\w.heap.size<=w'.heap.size) (y:∀b,b<w.heap.size->¬(L.ko=b4/\b=L.b)->w'.heap[b]? = w.heap[b]?)
  (A:(w.heap.size<=a.b\/(L.ko=b4/\a.b=L.b))/\a.b<w'.heap.size)
  (arr:Array Value) (m:w'.heap[a.b]? = aE (.cells arr t (0,0))) (j:a.top=arr.size) (e:List D) (f:a.base+e.l<=a.top)
  (r:∀(i:Nat) (d:D),e[i]? = aE d->∃u,arr[a.base+i]? = aE u/\u.oneCell'=true/\gq c w u d) :
  gL G (c.set v (g+1) a) (H.set v (.row t (g+1) e)) w'/\Step H.l c H w (c.set v (g+1) a) (H.set v (.row t (g+1) e)) w':=by
 refine abn h o s a hg y (λ_=>A) e λp=>?_;simp only[iy,n];refine⟨arr,m,j,f,λi d q=>?_⟩;obtain⟨x,l,k,z⟩:=r i d q;exact⟨x,l,k,p _ _ z⟩
theorem aeX{G:GT}{c:Ctx}{H:gg}{w:World}(h:gL G c H w){v g:Nat}{t:TypeId}{cs:List D}(b:H[v]? = aE (.row t g cs)){L:Loc}(d:c.ι v g=aE L) :
  gL G (c.set v (g+1) L) (H.set v (.row t (g+1) [])) w/\Step H.l c H w (c.set v (g+1) L) (H.set v (.row t (g+1) [])) w:=by
 refine abn h b d L ⟨⟨rfl,bb _⟩,rfl,rfl,bb _⟩ (λ_ _ _=>rfl) (λa=>⟨.inr ⟨a,rfl⟩,h.lt _ ⟨v,L,⟨_,b,rfl,d⟩,a,rfl⟩⟩) [] λ_=>?_;have h0:=h.ob v _ b;simp only[Ob.gen]at h0;rw[d]at h0;simp only[iy]at h0 ⊢;split
 .simp
 .rename_i a;simp only[a]at h0;obtain⟨arr,h1,e,f,_⟩:=h0;exact⟨arr,h1,e,gO,gf⟩
theorem Qj{t u ty e:TypeId}{i:TypeInfo}{j:Value}(r:P.underlying t=aE (.slice e))(h:∃k,P.underlying u=aE (.slice k))(hi:P.info? e=aE i)(p:i.zero=aE j)
  (b:Option Addr) (a d:Nat) (y:Value) (m:Option Addr) (n l:Nat) (q:y = .slice m n l) (g c:List Value)
  (f:(Builtin.firstCells i.size a (.slice b a d)).run P w.drew = .ok g.toArray w.drew) (o:(Builtin.firstCells i.size n y).run P w.drew = .ok c.toArray w.drew)
  (hg:d<a+n) (A:a+n<=9223372036854775807) (v:(a+n)*i.bytes<=140737488355328) :
  (Builtin.append_ #[t,u] ty #[.slice b a d,y]).run P w = .ok (.slice (aE ⟨w.heap.size,0,cj⟩) (a+n) (grownCap w (a+n) d e))
    (w.drew.alloc (.cells (g.toArray++c.toArray++Builtin.zeroCells j.cells (grownCap w (a+n) d e-(a+n))) e)):=by
 subst q;obtain⟨k,h⟩:=h;have s:¬(a+n<=d):=U;have x:¬(9223372036854775807<((a:Int)+(n:Int))):=U;have z:¬(281474976710656<Builtin.nextslicecap (a+n) d*i.bytes):=by have:=growslice_fits hg v;omega
 simp[Builtin.append_,run_underlying r,run_underlying h,sizeOf,typeInfo,zeroValue,hi,p,Builtin.lenOf,s,x,z,Question.forced,newRow,grownCap,f,o];congr 2;apply Array.ext';simp[aN]
theorem api{t u ty e:TypeId}{i:TypeInfo}(q:P.underlying t=aE (.slice e))(f:∃h,P.underlying u=aE (.slice h))(hi:P.info? e=aE i)
  (b o:Nat) (c d:Nat) (y:Value) (k:Option Addr) (n j:Nat) (p:y = .slice k n j) (a:List Value) (arr:Array Value) (hg:w.heap[b]? = aE (.cells arr e (0,0)))
  (m:(Builtin.firstCells i.size n y).run P w = .ok a.toArray w) (h1:∀v∈a,v.oneCell'=true) (r:c+n<=d) (l:o+c*i.size+a.l<=arr.size) :
  (Builtin.append_ #[t,u] ty #[.slice (aE ⟨b,o,cj⟩) c d,y]).run P w = .ok (.slice (aE ⟨b,o,cj⟩) (c+n) d)
    (w.setRow b (arr.toList.take (o+c*i.size)++a++arr.toList.drop (o+c*i.size+a.l)).toArray):=by
 subst p;obtain⟨h,f⟩:=f;have g:=run_storeCells_at P b (o+c*i.size) e a 0 arr w hg (by simpa using l) h1;simp only[cJ]at g;simp[Builtin.append_,run_underlying q,run_underlying f,sizeOf,typeInfo,hi,Builtin.lenOf,r,m,Addr.add_lit,g]
theorem Oo{sz:Nat}{w':World}{a:Option Addr}{b n:Nat}{vs:List Value}(hl:vs.l=n*sz)(c:a=cj->n=0)(d:∀ad,a=aE ad->∀(j:Nat) (v:Value),vs[j]? = aE v->w'.cell? (ad.add j)=aE v) :
  (Builtin.firstCells sz n (.slice a n b)).run P w' = .ok vs.toArray w':=by
 cases a with
 | none=>
  have:=c rfl;subst this;have:vs = []:=aY (by simpa using hl);subst this;exact run_firstCells_none w' sz 0 0 b
 | some ad=>exact run_firstCells_some w' sz n ad n b vs hl (d ad rfl)
theorem YM(w:World)(o:Obj):kN w (w.drew.alloc o):=(kN.drew w).trans (kN.alloc _ _)
theorem anA(h:gL G c H w){al:Al}(iF:oD H al){t u ty e:TypeId}{i:TypeInfo}{z:List D}(R:P.underlying t=aE (.slice e))(s:∃e',P.underlying u=aE (.slice e'))(hi:P.info? e=aE i)(hz:sZ P e=aE z)(zH:z.l=i.size)(jV:0<i.size)
  {x y:D} {ux A:Value} (h1:gq c w ux x) (h2:gq c w A y) (f:Hf e i.size i.bytes x y H al K):∃r w',(Builtin.append_ #[t,u] ty #[ux,A]).run P w = .ok r w'/\jJ G c H w K r w':=by
 obtain⟨m,xB,Pq,vi⟩:=BP hz w;have FM:i.zero=aE m:=by simpa[hi]using Pq
 have xA:m.cells.size=i.size:=by have:=(vi c w).len;simp at this;omega
 unfold Hf at f;split at f
 .rename_i V n tm;obtain⟨Z,Y,vs,C,E,kr,h8,I4,I2⟩:=Vb h jV h2 tm;have Q:vs.l=n*i.size:=by rw[E.len,kr]
  have O:∀w',(∀b,w'.cell? b=w.cell? b)->(Builtin.firstCells i.size n A).run P w' = .ok vs.toArray w':=λw' sL=>by rw[C];exact Oo Q I4 (λad ha j v k=>by rw[sL];exact I2 ad ha j v k)
  split at f
  .rename_i v g iq off len;split at f
   .rename_i t' cs iw;have p:=vF iw;dsimp only at p;obtain⟨⟨rfl,a2,a4,M,AW⟩,f⟩:=f;have e8:=a2.symm;subst e8;clear a2;have i1:v<H.l:=(ae.1 p).1
    cases h1 with
    | gh _ _ _ _ _ cap L S iG kI jv nG=>
     obtain⟨arr,CQ,OR,Zl,OS⟩:=zW h p S iG;have X:Cells c w (((((arr.toList.drop L.base).take cs.l)).drop (off*i.size)).take (len*i.size)) ((cs.drop (off*i.size)).take (len*i.size)):=(OS.drop _).take _;rw[bt]at nG a4;generalize off*i.size=q at *
     by_cases IU:len+n<=cap
     .have oq:L.base+q+len*i.size+vs.l<=arr.size:=by have hm:=bE i.size IU;rw[bt]at hm;omega
      have l:=api (ty:=ty) R s hi L.b (L.base+q) len cap A Z n Y C vs arr CQ (O w λ_=>rfl) E.one IU oq;refine⟨_,_,l,?_⟩;have iX:(arr.toList.take (L.base+q+len*i.size)++vs++arr.toList.drop (L.base+q+len*i.size+vs.l)).toArray.size=arr.size:=gO
      obtain⟨m1,m2⟩:=Um (w':=w.setRow L.b (arr.toList.take (L.base+q+len*i.size)++vs++arr.toList.drop (L.base+q+len*i.size+vs.l)).toArray) h p S ⟨L.b,L.base+q,L.top,b4⟩ rfl
       ⟨⟨rfl,bb _⟩,rfl,rfl,by simp[World.setRow]⟩ (λb _ I=>by simp only[World.setRow,bk];rw[if_neg (λe=>I ⟨iG,e.symm⟩)])
       ⟨.inr ⟨iG,rfl⟩,by have:=h.lt _ ⟨v,L,⟨_,p,rfl,S⟩,iG,rfl⟩;simpa[World.setRow]using this⟩
       _ (setRow_heap w L.b arr _ _ _ CQ) (by show L.top=_;rw[OR,iX]) ((cs.drop q).take (len*i.size)++V) (by simp only[ar,aG,aX];rw[<-E.len];omega) (λj d J=>by
        obtain⟨x,F,l9,lD⟩:=(X.append E).get J;refine⟨x,?_,l9,lD⟩;rw[<-F];simp only[dC];have jL:(di (L.base+q+len*i.size) arr.toList).l=L.base+q+len*i.size:=gO;have iZ:(di (len*i.size) (ek q (di cs.l (ek L.base arr.toList)))).l=len*i.size:=gO
        by_cases c1:j<len*i.size
        .rw[ah gO,ah (by rw[jL];omega),ah (by rw[iZ];omega)];simp only[aJ,aM];rw[if_pos U,if_pos U,if_pos U];congr 1;omega
        .have oK:j<len*i.size+vs.l:=by have:=(ae.1 F).1;rw[ar,iZ]at this;omega
         rw[ah (by rw[ar,jL];omega),ak (by rw[jL];omega),ak (by rw[iZ];omega),jL,iZ];congr 1
         omega)
      refine⟨_,_,_,f,m1,?_,m2⟩;have:=gq.gh (c:=c.set v (g+1) ⟨L.b,L.base+q,L.top,b4⟩) (w:=w.setRow L.b (arr.toList.take (L.base+q+len*i.size)++vs++arr.toList.drop (L.base+q+len*i.size+vs.l)).toArray) v (g+1) i.size 0 (len+n) cap ⟨L.b,L.base+q,L.top,b4⟩ (Ctx.tZ _ _ _ _) rfl IU jv gO;simpa using this
     .have a:(Builtin.firstCells i.size len (.slice (aE ⟨L.b,L.base+q,cj⟩) len cap)).run P w.drew = .ok ((((arr.toList.drop L.base).take cs.l).drop q).take (len*i.size)).toArray w.drew:=by
       refine run_firstCells_some _ _ _ _ _ _ _ (by rw[X.len];simp;omega) (λj v k=>?_);rw[aJ]at k;split at k
       .rw[aM,aJ]at k;split at k
        .rw[aM]at k;rw[Addr.add_lit];show w.cell? ⟨L.b,L.base+q+j,cj⟩=aE v;simp[World.cell?,CQ];rw[bg];simpa using k
        .cases k
       .cases k
      have l:=Qj (ty:=ty) R s hi FM (aE ⟨L.b,L.base+q,cj⟩) len cap A Z n Y C _ vs a (O _ λ_=>rfl) U AW M;refine⟨_,_,l,?_⟩;have IY:((((arr.toList.drop L.base).take cs.l).drop q).take (len*i.size)).toArray.size=len*i.size:=by have:=X.len;simp at this ⊢;omega
      have B:=grownCap_ge w (len+n) cap e;have N:=grownCap_le_maxLen w (len+n) cap e (by unfold maxLen;omega)
      obtain⟨m1,m2⟩:=Um (w':=w.drew.alloc (.cells (((((arr.toList.drop L.base).take cs.l).drop q).take (len*i.size)).toArray++vs.toArray++Builtin.zeroCells m.cells (grownCap w (len+n) cap e-(len+n))) e)) h p S
       ⟨w.heap.size,0,grownCap w (len+n) cap e*i.size,b4⟩ rfl ⟨⟨rfl,eK _⟩,rfl,rfl,gf⟩ (λb W _=>(YM w _).kept b W) ⟨.inl (bb _),gf⟩
       _ (heap_alloc_new w.drew _) (by
        simp only[cK,IY,dp,Q,size_zeroCells,xA,<-bt]
        congr 1;omega) ((cs.drop q).take (len*i.size)++V) (by
        simp only[ar,aG,aX,kr,aV];have:=bE i.size B;rw[bt]at this
        omega) (λj d J=>by
        obtain⟨x,F,l9,lD⟩:=(X.append E).get J;refine⟨x,?_,l9,lD⟩;rw[<-F,aV,<-bH];have gW:=(ae.1 F).1;simp only[dw]
        rw[ah (by simpa using gW)])
      refine⟨_,_,_,f,m1,?_,m2⟩
      have:=gq.gh (c:=c.set v (g+1) ⟨w.heap.size,0,grownCap w (len+n) cap e*i.size,b4⟩) (w:=w.drew.alloc (.cells (((((arr.toList.drop L.base).take cs.l).drop q).take (len*i.size)).toArray++vs.toArray++Builtin.zeroCells m.cells (grownCap w (len+n) cap e-(len+n))) e))
       v (g+1) i.size 0 (len+n) (grownCap w (len+n) cap e) ⟨w.heap.size,0,grownCap w (len+n) cap e*i.size,b4⟩ (Ctx.tZ _ _ _ _) rfl B N gf
      simpa using this
    | nq _ _ _ _ L S ad=>
     simp only[aV,cJ,c9,eW,bI]at f M AW ⊢
     by_cases I:n=0
     .subst I;have TC:vs = []:=aY (by simpa using Q);have f':V = []:=aY (by simpa using kr);subst f'
      have l:(Builtin.append_ #[t,u] ty #[.slice ad 0 0,A]).run P w = .ok (.slice ad 0 0) w:=by obtain⟨e',s⟩:=s;have T:=O w λ_=>rfl;rw[TC]at T;rw[C]at T ⊢;simp[Builtin.append_,run_underlying R,run_underlying s,sizeOf,typeInfo,hi,Builtin.lenOf,T];cases ad<;>simp[storeCells]
      obtain⟨m1,m2⟩:=aeX h p S;exact⟨_,_,l,_,_,_,f,m1,.nq v (g+1) i.size 0 L (Ctx.tZ _ _ _ _) ad,m2⟩
     .have a:(Builtin.firstCells i.size 0 (.slice ad 0 0)).run P w.drew = .ok ([]:List Value).toArray w.drew:=Oo gf (λ_=>rfl) (λ_ _ j v k=>by simp at k);have l:=Qj (w:=w) (ty:=ty) R s hi FM ad 0 0 A Z n Y C [] vs a (O _ λ_=>rfl) U U (by simpa using M);simp only[aV]at l;refine⟨_,_,l,?_⟩;have B:=grownCap_ge w n 0 e;have N:=grownCap_le_maxLen w n 0 e (by unfold maxLen;omega)
      obtain⟨m1,m2⟩:=Um (w':=w.drew.alloc (.cells (([]:List Value).toArray++vs.toArray++Builtin.zeroCells m.cells (grownCap w n 0 e-n)) e)) h p S
       ⟨w.heap.size,0,grownCap w n 0 e*i.size,b4⟩ rfl ⟨⟨rfl,eK _⟩,rfl,rfl,gf⟩ (λb W _=>(YM w _).kept b W) ⟨.inl (bb _),gf⟩
       _ (heap_alloc_new w.drew _) (by
        simp only[cK,dp,dh,Q,size_zeroCells,xA,aV,<-bt]
        congr 1;omega) V (by
        simp only[kr,aV]
        exact bE i.size B) (λj d J=>by
        obtain⟨x,F,l9,lD⟩:=E.get J;refine⟨x,?_,l9,lD⟩;rw[<-F,aV,<-bH];have gW:=(ae.1 F).1;simp only[dw,bI]
        rw[ah (by simpa using gW)])
      refine⟨_,_,_,f,m1,?_,m2⟩
      have:=gq.gh (c:=c.set v (g+1) ⟨w.heap.size,0,grownCap w n 0 e*i.size,b4⟩) (w:=w.drew.alloc (.cells (([]:List Value).toArray++vs.toArray++Builtin.zeroCells m.cells (grownCap w n 0 e-n)) e))
       v (g+1) i.size 0 n (grownCap w n 0 e) ⟨w.heap.size,0,grownCap w n 0 e*i.size,b4⟩ (Ctx.tZ _ _ _ _) rfl B N gf
      simpa using this
   .exact f.elim
  .rename_i us;obtain⟨⟨I,IY,M,AW⟩,f⟩:=f
   cases h1 with
   | mM ad _ jv mo hc=>
    have X:Cells c w us (us.map .val):=⟨gf,λv p=>by
     obtain⟨i,hi⟩:=dx p;obtain⟨_,_,_,_,_,h1⟩:=hc i v hi
     exact h1,λi v d p J=>by
     simp only[ax,p,aK,av]at J;subst J
     exact .val _⟩
    have a:(Builtin.firstCells i.size us.l (.slice ad us.l us.l)).run P w.drew = .ok us.toArray w.drew:=Oo (by rw[IY];simp) (λe=>by rw[mo e];rfl) (λb W j v k=>by
     obtain⟨b',o,ha,_,pb,_⟩:=hc j v k;rw[ha]at W;cases W;rw[Addr.add_lit]
     exact pb)
    have l:=Qj (w:=w) (ty:=ty) R s hi FM ad us.l us.l A Z n Y C us vs a (O _ λ_=>rfl) U AW M;refine⟨_,_,l,?_⟩;have B:=grownCap_ge w (us.l+n) us.l e;have N:=grownCap_le_maxLen w (us.l+n) us.l e (by unfold maxLen;omega)
    have iX:(us.toArray++vs.toArray++Builtin.zeroCells m.cells (grownCap w (us.l+n) us.l e-(us.l+n))).size=grownCap w (us.l+n) us.l e*i.size:=by simp only[cK,dp,Q,size_zeroCells,xA,IY,eZ];omega
    obtain⟨L,e1,e2,e3,e4,e5,e6⟩:=FY h w.drew (kN.drew w) e (us++vs) (us.map .val++V) (us++vs).l (us.toArray++vs.toArray++Builtin.zeroCells m.cells (grownCap w (us.l+n) us.l e-(us.l+n))) (iF _).vK (X.append E) (by
     simp only[dw]
     exact ez) (by simp only[cK,dp,ar];omega)
    have hp:=Jx (c:=c) (w:=w.drew.alloc (.cells (us.toArray++vs.toArray++Builtin.zeroCells m.cells (grownCap w (us.l+n) us.l e-(us.l+n))) e)) e1 e3 al.1 0 i.size (us.l+n) (grownCap w (us.l+n) us.l e) (by rw[e4,iX]) B N;rw[e2]at hp;exact⟨_,_,_,f,e5,hp,e6⟩
  .cases h1 with
   | gp=>
    by_cases I:n=0
    .rw[if_pos I]at f;subst I;have TC:vs = []:=aY (by simpa using Q)
     have l:(Builtin.append_ #[t,u] ty #[.slice cj 0 0,A]).run P w = .ok (.slice cj 0 0) w:=by obtain⟨e',s⟩:=s;have T:=O w λ_=>rfl;rw[TC]at T;rw[C]at T ⊢;simp[Builtin.append_,run_underlying R,run_underlying s,sizeOf,typeInfo,hi,Builtin.lenOf,T]
     exact⟨_,_,l,.plain h f .gp⟩
    .rw[if_neg I]at f;obtain⟨⟨M,AW⟩,f⟩:=f;have a:(Builtin.firstCells i.size 0 (.slice cj 0 0)).run P w.drew = .ok ([]:List Value).toArray w.drew:=Oo gf (λ_=>rfl) (λ_ _ j v k=>by simp at k);have l:=Qj (w:=w) (ty:=ty) R s hi FM cj 0 0 A Z n Y C [] vs a (O _ λ_=>rfl) U U (by simpa using M);simp only[aV]at l;refine⟨_,_,l,?_⟩;have B:=grownCap_ge w n 0 e;have N:=grownCap_le_maxLen w n 0 e (by unfold maxLen;omega)
     have iX:(([]:List Value).toArray++vs.toArray++Builtin.zeroCells m.cells (grownCap w n 0 e-n)).size=grownCap w n 0 e*i.size:=by simp only[cK,dp,dh,Q,size_zeroCells,xA,aV,<-bt];congr 1;omega
     obtain⟨L,e1,e2,e3,e4,e5,e6⟩:=FY h w.drew (kN.drew w) e vs V vs.l (([]:List Value).toArray++vs.toArray++Builtin.zeroCells m.cells (grownCap w n 0 e-n)) (iF _).vK E (by
      simp only[dw,bI]
      exact ez) (by simp only[cK,dp];omega)
     have hp:=Jx (c:=c) (w:=w.drew.alloc (.cells (([]:List Value).toArray++vs.toArray++Builtin.zeroCells m.cells (grownCap w n 0 e-n)) e)) e1 e3 al.1 0 i.size n (grownCap w n 0 e) (by rw[e4,iX]) B N;rw[e2]at hp;exact⟨_,_,_,f,e5,hp,e6⟩
  .exact f.elim
 .exact f.elim
theorem anL(h:gL G c H w){t u ty e:TypeId}{sz:Nat}(N:P.underlying t=aE (.slice e))(hs:lg P e=aE sz)(jV:0<sz){x y:D}{S E:Value}(h1:gq c w S x)(h2:gq c w E y)(b:HM sz x y H K) :
  ∃r w',(Builtin.copy_ #[t,u] ty #[S,E]).run P w = .ok r w'/\jJ G c H w K r w':=by
 have key:∀(f:List D) (n:Nat),lN sz H y=aE (f,n)->∃vs A z,E = .slice A n z/\Cells c w vs f/\f.l=n*sz/\∀m,m<=n->(Builtin.firstCells sz m E).run P w = .ok (vs.take (m*sz)).toArray w:=by
  intro f n F;obtain⟨A,z,vs,p,l,I,a6,I4,I2⟩:=Vb h jV h2 F;refine⟨vs,A,z,p,l,I,λm s=>?_⟩;have i:vs.l=n*sz:=by rw[l.len,I]
  have O:=bE sz s;rw[p]
  cases A with
  | none=>
   have:=I4 rfl;subst this;have:m=0:=U;subst this;simp[Builtin.firstCells]
  | some ad=>
   refine run_firstCells_some w sz m ad n z _ gO (λj v J=>?_);rw[aJ]at J;split at J
   .exact I2 ad rfl j v J
   .cases J
 unfold HM at b;split at b
 .rename_i v g a off len f n F;obtain⟨vs,A,z,p,l,I,M⟩:=key f n F;split at b
  .rename_i T cs iw;have o:=vF iw;dsimp only at o;obtain⟨⟨rfl,oq⟩,b⟩:=b;have k:=M (min n len) (er _ _);have O:min n len*a<=vs.l:=by rw[l.len,I];exact bE _ (er _ _)
   have b1:min n len*a<=len*a:=bE _ (Nat.min_le_right _ _);rw[bt]at oq
   cases h1 with
   | gh _ _ _ _ _ cap L Q V kI jv nG=>
    obtain⟨arr,Z,OR,Zl,OS⟩:=zW h o Q V;have X:=run_storeCells_at P L.b (L.base+off*a) T (vs.take (min n len*a)) 0 arr w Z gO (λv o=>l.one v (aS o));simp only[cJ]at X
    have iJ:(Builtin.copy_ #[t,u] ty #[.slice (aE ⟨L.b,L.base+off*a,cj⟩) len cap,E]).run P w = .ok (goInt (min n len:Nat)) (w.setRow L.b (arr.toList.take (L.base+off*a)++vs.take (min n len*a)++arr.toList.drop (L.base+off*a+(vs.take (min n len*a)).l)).toArray):=by rw[p]at k ⊢;have s:n.min len=min n len:=rfl;simp[Builtin.copy_,run_underlying N,Builtin.lenOf,sT hs,s,k,X]
    have i:(vs.take (min n len*a)).l=min n len*a:=gO;have Y:=OS.ub (l.take (min n len*a)) (off*a);have R:(f.take (min n len*a)).l=min n len*a:=by rw[aG,<-l.len];omega
    obtain⟨m1,m2⟩:=Gw h o Q V Z (arr.toList.take (L.base+off*a)++vs.take (min n len*a)++arr.toList.drop (L.base+off*a+(vs.take (min n len*a)).l)).toArray gO OR
     (cs.take (off*a)++f.take (min n len*a)++cs.drop (off*a+min n len*a)) (by simp only[ar,aG,aX];omega) (λj d W=>by
      rw[R,i]at Y;obtain⟨x,hx,l9,lD⟩:=Y.get W;refine⟨x,?_,l9,lD⟩;rw[<-hx];simp only[dC,i];have B:(di (L.base+off*a) arr.toList).l=L.base+off*a:=gO;have C:(di (off*a) (di cs.l (ek L.base arr.toList))).l=off*a:=gO
      by_cases c1:j<off*a
      .rw[ah gO,ah (by rw[B];omega),ah gO,ah (by rw[C];omega)];simp only[aJ,aM];rw[if_pos U,if_pos c1,if_pos U]
      .by_cases c2:j<off*a+min n len*a
       .rw[ah (by rw[ar,B,i];omega),ak (by rw[B];omega),ah (by rw[ar,C,i];omega),ak (by rw[C];omega),B,C];congr 1;omega
       .have px:j<cs.l:=by have:=(ae.1 W).1;simp at this;omega
        rw[ak (by rw[ar,B,i];omega),ak (by rw[ar,C,i];omega)];simp only[aM,aJ,ar,B,C,i];rw[if_pos U];congr 1
        omega)
    exact⟨_,_,iJ,_,_,c,b,m1,.val _,m2⟩
   | nq _ _ _ _ L Q ad=>
    have IJ:min n 0=0:=fZ n;simp only[IJ,c9,eW,aD,cJ,bZ]at b k
    have oM:H.set v (.row T g cs)=H:=by
     apply bY;intro j;rw[bX];have i:v<H.l:=(ae.1 o).1;split
     .rename_i e;subst e
      first|(rw[if_pos i];exact o.symm)|exact o.symm
     .rfl
    rw[oM]at b;refine⟨goInt 0,w,?_,.plain h b (.val _)⟩;rw[p]at k ⊢;have s:n.min 0=0:=fZ n;simp[Builtin.copy_,run_underlying N,Builtin.lenOf,sT hs,s,k];cases ad<;>simp[storeCells]
  .exact b.elim
 .rename_i q F;obtain⟨f,n⟩:=q;obtain⟨vs,A,z,p,l,I,M⟩:=key f n F
  cases h1 with
  | gp=>
   have k:=M 0 (ew _);refine⟨goInt 0,w,?_,.plain h b (.val _)⟩;rw[p]at k ⊢;have s:n.min 0=0:=fZ n;simp only[c9,eW]at k;simp[Builtin.copy_,run_underlying N,Builtin.lenOf,sT hs,s,k]
 .exact b.elim

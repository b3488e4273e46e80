/- Part 2 of DisputeLocal. -/
import Derived.Test.YtmehofoficaelaaGreatDoorL01
set_option linter.all false
namespace Go.AL
open Go
section
variable{P:Program}{G:GT}{c:Ctx}{H:U}{w:World}{K:iU}{env:gd}{a:Act}
def CU{L:Loc}(hv:L.jc=false)(h0:L.base=0)(v k sz len cap:Nat)(ht:L.top=cap*sz)(hc:len≤cap)(hm:cap≤maxLen) :
  eW (c.set v k L) w (.slice (some ⟨L.b,0,none⟩) len cap) (.eX v k sz 0 len):=by
 have:=eW.eX (c:=c.set v k L) (w:=w) v k sz 0 len cap L (Ctx.qR _ _ _ _) hv hc hm (by simp[h0,ht])
 simpa[h0]using this
def Hc(zs:List Value)(z:List D)(hz:∀ c w,Cells c w zs z)(n:Nat):Cells c w (List.replicate n zs).flatten (List.replicate n z).flatten:=by
 induction n with
 | zero=>exact Cells.nil
 | succ n ih=>rw[bw,bw,aU,aU];exact(hz c w).append ih
def IA(zs:Array Value)(n:Nat)(h0:0<zs.size):((Array.range (n*zs.size)).map (fun i=>zs[i % zs.size]!)).toList=(List.replicate n zs.toList).flatten:=by
 apply bM
 intro i
 simp only[Array.toList_map,Array.toList_range,aq]
 by_cases hi:i<n*zs.size
 ·rw[bX hi]
  have key:∀ (n i:Nat),i<n*zs.size→(List.replicate n zs.toList).flatten[i]? = some (zs[i % zs.size]!):=by
   intro n
   induction n with
   | zero=>intro i hi;simp at hi
   | succ n ih=>
    intro i hi
    rw[bw,aU]
    by_cases hl:i<zs.size
    ·rw[ag (by simpa using hl),ei hl]
     simp[hl]
    ·rw[ao (by simpa using hl)]
     have:i-zs.size<n*zs.size:=by rw[aT]at hi;omega
     rw[show i-zs.toList.length=i-zs.size by simp,ih _ this,← Nat.mod_eq_sub_mod (by omega)]
  rw[key n i hi]
  rfl
 ·rw[aQ (by simp;omega)]
  rw[aQ (by simp;omega)]
  rfl
def aeu(h:fr G c H w){al:Al}(gu:l5 H al)(he:kb c w env a){t e:TypeId}{sz n:Nat}{z:List D}{ops:Array (Nat×Operand)}{ps:List (Nat×X)}
  (hu:P.underlying t=some (.slice e)) (hz:o9 P e=some z) (hs:jE P e=some sz) (hp:vi G ops.toList=some ps) (zW:z.length=sz) (jQ:0<sz) (lH:n*sz≤16777216)
  (hk:Bd env e sz z n ps al K):∃ r w',(Instr.buildSlice t n (ops.map fun(i,x)=>(i,a.eval x))).run P w = .ok r w'∧iB G c H w K r w':=by
 unfold Bd at hk
 split at hk
 ·rename_i l hl
  split at hk
  ·rename_i cs iL
   obtain⟨zv,sk,_,qE⟩:=wC hz w
   obtain⟨p1,p2⟩:=Gq h he ops.toList hp
   obtain⟨r1,r2⟩:=Ms hl
   have sj:zv.cells.size=sz:=by have:=(qE c w).len;simp at this;omega
   have Q2:Cells c w ((Array.range (n*sz)).map (fun i=>zv.cells[i % zv.cells.size]!)).toList (List.replicate n z).flatten:=by
    rw[← sj,IA zv.cells n (by omega)]
    exact Hc _ _ qE n
   obtain⟨nH,vK,oS⟩:=G8 (c:=c) (w:=w) (fun i=>some (i*sz,sz)) (ops.toList.map fun x=>(x.1,a.eval x.2)) l _ _ cs Q2 (by simp[r1,p1]) (fun i x q hx Cb=>by
    simp only[aq,aj]at hx
    obtain⟨y,hy,rfl⟩:=hx
    have hi:i<ops.toList.length:=(af.1 hy).1
    obtain⟨p,vR⟩:=Hi p1 hi
    obtain⟨e1,e2⟩:=p2 i y p hy vR
    obtain⟨e4,e5,e6⟩:=r2 i (p.1*sz,sz,p.2) q (by simp[vR]) Cb
    exact⟨by simp[e4,e5,e1],za e2 e6⟩) iL
   have hlen:nH.size=n*sz:=by
    have h1:=oS.len
    have h2:cs.length=(List.replicate n z).flatten.length:=by
     clear hk oS vK h1 Q2
     have key:∀ (ps:List (Nat×Nat×List D)) (cs rs:List D),lay ps cs=some rs→rs.length=cs.length:=by
      intro ps
      induction ps with
      | nil=>intro cs rs h;simp[lay]at h;subst h;rfl
      | cons p ps ih=>
       intro cs rs h
       obtain⟨o,m,xs⟩:=p
       simp only[lay]at h
       split at h
       ·rw[ih _ _ h];simp;omega
       ·cases h
     exact key _ _ _ iL
    rw[h2]at h1
    simp[zW]at h1
    exact h1
   obtain⟨L,h1,h2,h3,h4,h5,h6⟩:=Ab h w (jz.refl w) e nH.toList cs nH.size nH (gu _).qU oS (by rw[← cM,dy]) (Nat.le_refl _)
   refine⟨.slice (some ⟨w.heap.size,0,none⟩) n n,w.alloc (.cells nH e),?_,?_⟩
   ·have YD:¬ n*sz>2 ^ 24:=by omega
    simp only[Instr.buildSlice,Sem.run_bind,run_underlying hu,Result.andThen_ok,o6 hs,Sem.run_ite]
    rw[if_neg YD]
    have QF:(Array.map (fun x=>(x.fst,a.eval x.snd)) ops).toList=ops.toList.map fun x=>(x.1,a.eval x.2):=by simp
    by_cases h0:n*sz=0
    ·have hn:n=0:=by
      rcases Nat.mul_eq_zero.1 h0 with h|h<;>omega
     subst hn
     simp only[cu]at vK
     simp only[cu,if_true,Sem.run_pure,Result.andThen_ok,QF]
     have e0:(Array.map (fun x=>(#[]:Array Value)[x % (#[]:Array Value).size]!) (Array.range 0))=Array.map (fun i=>zv.cells[i % zv.cells.size]!) (Array.range 0):=by simp
     rw[e0,vK]
     simp[newRow]
    ·rw[if_neg h0]
     simp only[Sem.run_bind,sk,Result.andThen_ok,Sem.run_pure,QF,vK]
     simp[newRow]
   ·have hp:=CU (c:=c) (w:=w.alloc (.cells nH e)) h1 h3 al.1 0 sz n n (by rw[h4,hlen]) (Nat.le_refl _) (by
     have:n≤n*sz:=Nat.le_mul_of_pos_right n jQ
     unfold maxLen;omega)
    rw[h2]at hp
    exact⟨_,_,_,hk,h5,hp,h6⟩
  ·exact hk.elim
 ·exact hk.elim
def afV{t:TypeId}{n:Nat}(hs:jE P t=some n){v:Value}(hv:v.cells.size=n)(b o:Nat) :
  (Instr.storeAt t (.pointer (some ⟨b,o,none⟩)) v).run P w=(storeCells ⟨b,o,none⟩ v.cells.toList).run P w:=by
 simp[Instr.storeAt,Instr.sureAddr,storeVar,o6 hs,hv]
def Sq(h:fr G c H w){v g o:Nat}{t t':TypeId}{cs xs:List D}(hv:H[v]? = some (.row t' g cs)){u x:Value}(hu:eW c w u (.ptr v g o)){n:Nat}(hs:jE P t=some n)
  (hx:Cells c w x.cells.toList xs) (hn:xs.length=n) (lH:o+n≤cs.length) (hk:K .any (H.set v (.row t' g (cs.take o++xs++cs.drop (o+n))))) :
  ∃ w',(Instr.storeAt t u x).run P w = .ok () w'∧iB G c H w K undef w':=by
 cases hu with
 | ptr _ _ _ L e9 gI=>
  obtain⟨arr,h1,h2,h3,h4⟩:=uP h hv e9 gI
  have qj:x.cells.size=n:=by have:=hx.len;simp at this;omega
  have fm:=run_storeCells_at P L.b (L.base+o) t' x.cells.toList 0 arr w h1 (by simp;omega) hx.one
  simp only[bQ]at fm
  have hw:=DB h hv e9 gI h1 (arr.toList.take (L.base+o)++x.cells.toList++arr.toList.drop (L.base+o+x.cells.toList.length)).toArray
   (by simp;omega) h2 (cs.take o++xs++cs.drop (o+n)) (by simp;omega) (fun i d hd=>by
    have HP:=h4.pQ hx o
    rw[hn]at HP
    obtain⟨y,hy,h5,h6⟩:=HP.get hd
    refine⟨y,?_,h5,h6⟩
    rw[← hy]
    simp only[cU]
    have YN:x.cells.toList.length=n:=by simpa using qj
    have ji:(List.take (L.base+o) arr.toList).length=L.base+o:=by simp;omega
    have iZ:(List.take o (List.take cs.length (List.drop L.base arr.toList))).length=o:=by simp;omega
    by_cases c1:i<o
    ·rw[ag (by simp;omega),ag (by rw[ji];omega),ag (by simp;omega),ag (by rw[iZ];omega)]
     simp only[aC,aD]
     rw[if_pos (by omega),if_pos c1,if_pos (by omega)]
    ·by_cases c2:i<o+n
     ·rw[ag (by simp;omega),ao (by rw[ji];omega),ag (by simp;omega),ao (by rw[iZ];omega),ji,iZ]
      congr 1
      omega
     ·have nR:i<cs.length:=by have:=(af.1 hd).1;simp at this;omega
      rw[ao (by simp;omega),ao (by simp;omega)]
      simp only[aD,aC,az,ji,iZ,YN]
      rw[if_pos (by omega)]
      congr 1
      omega)
  exact⟨_,by rw[afV hs qj];exact fm,.any,_,c,hk,hw.1,.any _,hw.2⟩
def aeX(h:fr G c H w){t:TypeId}(hs:jE P t=some 1){p x:D}{u v:Value}(h1:eW c w u p)(h2:eW c w v x)(hk:Dn p x H K) :
  ∃ w',(Instr.storeAt t u v).run P w = .ok () w'∧iB G c H w K undef w':=by
 unfold Dn at hk
 split at hk
 ·rename_i v0 g0 o
  split at hk
  ·rename_i t' cs gH
   obtain⟨gi,Lb,hk⟩:=hk
   have hv:=qP gH
   dsimp only at hv
   refine Sq h hv h1 hs (za h2 (ae0 Lb)) rfl (by omega) ?_
   have e:cs.take o ++ [x]++cs.drop (o+1)=cs.set o x:=by
    rw[cH,if_pos gi]
    simp
   rw[e]
   exact hk
  ·exact hk.elim
 ·exact hk.elim
def aeY(h:fr G c H w){t:TypeId}{n:Nat}(hs:jE P t=some n){p x:D}{u v:Value}(h1:eW c w u p)(h2:eW c w v x)(hk:Dp n p x H K) :
  ∃ w',(Instr.storeAt t u v).run P w = .ok () w'∧iB G c H w K undef w':=by
 unfold Dp at hk
 split at hk
 ·rename_i v' g' o xs LC
  split at hk
  ·rename_i t' cs gH
   obtain⟨hn,lH,hk⟩:=hk
   exact Sq h (qP gH) h1 hs (za h2 LC) hn lH hk
  ·exact hk.elim
 ·exact hk.elim
def aeD(h:fr G c H w){t:TypeId}{f n:Nat}{fs:Array Field}{fd:Field}(hu:P.underlying t=some (.struct fs))(hf:fs[f]? = some fd)(hs:jE P fd.type=some n)(hn:0<n)
  {x:D} {u:Value} (h1:eW c w u x) (hk:BA fd.offset x H K):∃ r,(Instr.fieldAt t u f).run P w = .ok r w∧iB G c H w K r w:=by
 have gK:∀ b o,(Instr.fieldAt t (.pointer (some ⟨b,o,none⟩)) f).run P w = .ok (.pointer (some ⟨b,o+fd.offset,none⟩)) w:=fun b o=>by
  simp only[Instr.fieldAt,Sem.run_bind,run_underlying hu,Result.andThen_ok,hf]
  simp only[Instr.sureAddr,Sem.run_pure,Result.andThen_ok,fieldPlace,Sem.run_bind,o6 hs,Sem.run_ite]
  rw[if_neg (by omega)]
  simp[Addr.add_lit]
 unfold BA at hk
 split at hk
 ·rename_i v g o
  cases h1 with
  | ptr _ _ _ L e9 hv=>
   refine⟨_,gK _ _,.plain h hk ?_⟩
   have:=eW.ptr (c:=c) (w:=w) v g (o+fd.offset) L e9 hv
   rwa [← a7]at this
 ·obtain⟨b,p,rfl,hF,hc⟩:=vm h1
  exact⟨_,gK _ _,.plain h hk (J9 hF (hc.drop _))⟩
 ·exact hk.elim
def Sp(h:fr G c H w){t:TypeId}{n:Nat}{b:Bool}(ha:nG P t=some b)(hs:jE P t=some n){vs:List Value}{cs:List D}(hc:Cells c w vs cs){off:Nat}
  (hk:xj off n b (.agg cs) H K):∃ r,(part t vs.toArray off).run P w = .ok r w∧iB G c H w K r w:=by
 simp only[xj]at hk
 cases b with
 | true=>
  simp only[if_true]at hk
  refine⟨.agg ((vs.drop off).take n).toArray,?_,.plain h hk.2 ((hc.drop off).take n).agg⟩
  simp[part,yA ha,o6 hs,List.extract_toArray,List.take_drop]
 | false=>
  simp only[br,if_false]at hk
  split at hk
  ·rename_i d hd
   obtain⟨v,hv,_,hr⟩:=hc.get hd
   refine⟨v,?_,.plain h hk hr⟩
   simp[part,yA ha,hv]
  ·exact hk.elim
def aeC(h:fr G c H w){t:TypeId}{f n:Nat}{b:Bool}{fs:Array Field}{fd:Field}(hu:P.underlying t=some (.struct fs))(hf:fs[f]? = some fd)(ha:nG P fd.type=some b)(hs:jE P fd.type=some n)
  {x:D} {u:Value} (h1:eW c w u x) (hk:xj fd.offset n b x H K):∃ r,(Instr.field t u f).run P w = .ok r w∧iB G c H w K r w:=by
 have hx:∃ cs,x = .agg cs:=by cases x<;>first|exact⟨_,rfl⟩|exact(show False from hk).elim
 obtain⟨cs,rfl⟩:=hx
 cases h1 with
 | agg vs _ hl h1 h2=>
  obtain⟨r,hr,hp⟩:=Sp h ha hs ⟨hl,h1,h2⟩ hk
  exact⟨r,by simp[Instr.field,run_underlying hu,hf,asAgg,hr],hp⟩
def aeF(h:fr G c H w){t e:TypeId}{sz:Nat}(hu:P.underlying t=some (.slice e))(hs:jE P e=some sz)(jQ:0<sz){x i:D}{u v:Value}(h1:eW c w u x)(h2:eW c w v i)(hk:Cp sz x i H K) :
  ∃ r,(Instr.indexAt t u v).run P w = .ok r w∧iB G c H w K r w:=by
 have gK:∀ (ad:Addr) (len cap:Nat) (k:IntKind) (n:Int),0≤n∧n<len→(Instr.indexAt t (.slice (some ad) len cap) (.int k n)).run P w = .ok (.pointer (some (ad.add (n.toNat*sz)))) w:=fun ad len cap k n hn=>by
  simp only[Instr.indexAt,Sem.run_bind,asIntOf,Sem.run_pure,Result.andThen_ok,run_underlying hu,o6 hs,Sem.run_ite]
  rw[if_pos hn]
 unfold Cp at hk
 split at hk
 ·rename_i fY es k n
  obtain⟨rfl,hn,hk⟩:=hk
  cases h2
  cases h1 with
  | sl ad len cap _ _ g hlen ju ix gV kC hc hr=>
   have hi:n.toNat<es.length:=by omega
   cases ad with
   | none=>have:=kC rfl;omega
   | some ad=>
    refine⟨_,gK ad len cap k n ⟨hn.1,by omega⟩,.plain h hk ?_⟩
    have iw:es[n.toNat]? = some es[n.toNat]:=by simp[hi]
    have KT:es.getD n.toNat []=es[n.toNat]:=by simp[hi]
    rw[KT]
    have hl:es[n.toNat].length=fY:=gV _ (bF hi)
    obtain⟨d0,km⟩:∃ d0,es[n.toNat][0]? = some d0:=⟨es[n.toNat][0]'(by omega),by simp⟩
    obtain⟨b,o,e,hF,_,_⟩:=hc n.toNat _ 0 d0 iw km
    cases e
    rw[Addr.add_lit]
    refine .fj b (o+n.toNat*fY) _ (g n.toNat) hF (fun j d hd=>?_) (fun j d hd=>hr _ _ j d iw hd)
    obtain⟨b',o',e,_,h3,h4⟩:=hc n.toNat _ j d iw hd
    cases e
    exact⟨by rw[a7];exact h3,h4⟩
 ·rename_i vs k n
  obtain⟨rfl,hn,hk⟩:=hk
  cases h2
  cases h1 with
  | lA ad _ ix kC hc=>
   have hi:n.toNat<vs.length:=by omega
   have iw:vs[n.toNat]? = some vs[n.toNat]:=by simp[hi]
   have KT:vs.getD n.toNat undef=vs[n.toNat]:=by simp[hi]
   obtain⟨b,o,e,hF,mO,h1⟩:=hc _ _ iw
   subst e
   refine⟨_,gK _ vs.length vs.length k n hn,.plain h hk ?_⟩
   rw[KT,Addr.add_lit]
   refine .fj b (o+n.toNat*1) _ (fun _=>vs[n.toNat]) hF (fun j d hd=>?_) (fun j d hd=>?_)
   ·have:j=0:=by have:=(af.1 hd).1;simp at this;exact this
    subst this
    exact⟨by rw[cI];exact mO,h1⟩
   ·have:j=0:=by have:=(af.1 hd).1;simp at this;exact this
    subst this
    cases hd
    exact .val _
 ·rename_i v0 g0 fY off len k n
  obtain⟨rfl,hn,hk⟩:=hk
  cases h2
  cases h1 with
  | eX _ _ _ _ _ cap L e9 hv ju ix lJ=>
   refine⟨_,gK _ len cap k n hn,.plain h hk ?_⟩
   rw[Addr.add_lit,a7,← aT]
   exact .ptr _ _ _ L e9 hv
  | lE=>omega
 ·exact hk.elim
end
end Go.AL
namespace Go.AL
open Go
section
variable{P:Program}{G:GT}{c:Ctx}{H:U}{w:World}{K:iU}{env:gd}{a:Act}
def aeG(h:fr G c H w){t e:TypeId}{sz n:Nat}(hu:P.underlying t=some (.array n e))(hs:jE P e=some sz){x i:D}{u v:Value}(h1:eW c w u x)(h2:eW c w v i)(hk:Cq sz n x i H K) :
  ∃ r,(Instr.indexAt t u v).run P w = .ok r w∧iB G c H w K r w:=by
 have gK:∀ (ad:Addr) (k:IntKind) (m:Int),0≤m∧m<n→(Instr.indexAt t (.pointer (some ad)) (.int k m)).run P w = .ok (.pointer (some (ad.add (m.toNat*sz)))) w:=fun ad k m hm=>by
  simp only[Instr.indexAt,Sem.run_bind,asIntOf,Sem.run_pure,Result.andThen_ok,run_underlying hu,o6 hs,Sem.run_ite,Instr.sureAddr]
  rw[if_pos hm]
 unfold Cq at hk
 split at hk
 ·rename_i v0 g0 o k m
  obtain⟨hm,hk⟩:=hk
  cases h2
  cases h1 with
  | ptr _ _ _ L e9 hv=>
   refine⟨_,gK _ k m hm,.plain h hk ?_⟩
   rw[Addr.add_lit,a7]
   exact .ptr _ _ _ L e9 hv
 ·rename_i cs k m
  obtain⟨hm,hk⟩:=hk
  cases h2
  obtain⟨b,p,rfl,hF,hc⟩:=vm h1
  refine⟨_,gK _ k m hm,.plain h hk ?_⟩
  rw[Addr.add_lit]
  exact J9 hF (hc.drop _)
 ·exact hk.elim
def aeE(h:fr G c H w){t e:TypeId}{sz n:Nat}{b:Bool}(hu:P.underlying t=some (.array n e))(hs:jE P e=some sz)(ha:nG P e=some b){x i:D}{u v:Value}(h1:eW c w u x)(h2:eW c w v i)(hk:Cs sz n b x i H K) :
  ∃ r,(Instr.index t u v).run P w = .ok r w∧iB G c H w K r w:=by
 unfold Cs at hk
 split at hk
 ·rename_i cs k m
  obtain⟨hm,hk⟩:=hk
  cases h2
  cases h1 with
  | agg vs _ hl h1 h2=>
   obtain⟨r,hr,hp⟩:=Sp (off:=m.toNat*sz) h ha hs ⟨hl,h1,h2⟩ hk
   refine⟨r,?_,hp⟩
   simp only[Instr.index,Sem.run_bind,asIntOf,Sem.run_pure,Result.andThen_ok,run_underlying hu,Sem.run_ite]
   rw[if_pos hm]
   simp[o6 hs,hr]
 ·exact hk.elim
def aeH(h:fr G c H w){t:TypeId}(hu:P.underlying t=some .string){x i:D}{u v:Value}(h1:eW c w u x)(h2:eW c w v i)(hk:Ct x i H K) :
  ∃ r,(Instr.index t u v).run P w = .ok r w∧iB G c H w K r w:=by
 unfold Ct at hk
 split at hk
 ·rename_i s k m
  obtain⟨hm,hk⟩:=hk
  cases h1
  cases h2
  have gi:m.toNat<s.size:=by omega
  have hl:s.data.toList.getD m.toNat 0=s[m.toNat]:=by
   have h':m.toNat<s.data.size:=gi
   show(s.data.toList[m.toNat]?).getD 0=s.data[m.toNat]
   rw[bn,b7 h']
   rfl
  rw[hl]at hk
  refine⟨_,?_,.val h hk⟩
  simp only[Instr.index,Sem.run_bind,asIntOf,Sem.run_pure,Result.andThen_ok,run_underlying hu]
  rw[if_pos hm.1]
  simp[gi]
 ·exact hk.elim
def aeB(h:fr G c H w){x:D}{i:Nat}{u:Value}(h1:eW c w u x)(hk:Bw x i H K):∃ r,(Instr.extract u i).run P w = .ok r w∧iB G c H w K r w:=by
 unfold Bw at hk
 split at hk
 ·split at hk
  ·rename_i ds d hd
   cases h1 with
   | tup vs _ hl h1=>
    have hi:i<vs.length:=by rw[hl];exact(af.1 hd).1
    refine⟨vs[i],?_,.plain h hk (h1 i _ d (by simp[hi]) hd)⟩
    simp[Instr.extract,hi]
  ·exact hk.elim
 ·exact hk.elim
def aeM(h:fr G c H w)(he:kb c w env a){f:Fn}{first cap:Array Operand}{df dc:List X}(h1:tU G first.toList=some df)(h2:tU G cap.toList=some dc)
  (hk:K (.fn f (df.map (ev env)) (dc.map (ev env))) H):iB G c H w K (.func f (first.map a.eval) (cap.map a.eval)) w:=by
 have r1:=wZ h he first.toList h1
 have r2:=wZ h he cap.toList h2
 refine .plain h hk ?_
 have:=eW.fn (c:=c) (w:=w) f (first.toList.map a.eval) (cap.toList.map a.eval) (df.map (ev env)) (dc.map (ev env)) r1.length r2.length r1.get r2.get
 have e:∀ l:Array Operand,(l.toList.map a.eval).toArray=l.map a.eval:=fun l=>by cases l;simp
 rwa [e,e]at this
def aeN(h:fr G c H w){al:Al}(gu:l5 H al)(t:TypeId)(kk:KK)(hk:K (.gF al.1) (al.2 (.map kk []))):∃ r w',(Instr.makeMap t none).run P w = .ok r w'∧iB G c H w K r w':=by
 have re:=jz.alloc w (.map #[] 0)
 have hL:(⟨w.heap.size,0,0,false⟩:Loc).jc=false→w.heap.size≤(⟨w.heap.size,0,0,false⟩:Loc).b∧(⟨w.heap.size,0,0,false⟩:Loc).b<(w.alloc (.map #[] 0)).heap.size:=fun _=>⟨Nat.le_refl _,by simp⟩
 have ht:=(gu (.map kk [])).qU
 have hs:=I4 h ht re ⟨w.heap.size,0,0,false⟩ hL
 refine⟨.map (some w.heap.size),w.alloc (.map #[] 0),by simp[Instr.makeMap],_,_,_,hk,M8 h ht re _ hL rfl ?_,?_,hs⟩
 ·simp only[gq]
  exact⟨trivial,by simp,#[],0,heap_alloc_new _ _,⟨rfl,by simp,by simp⟩⟩
 ·exact .gF (c:=c.set al.1 0 ⟨w.heap.size,0,0,false⟩) al.1 ⟨w.heap.size,0,0,false⟩ (Ctx.qR _ _ _ _) rfl
def aeO(h:fr G c H w){al:Al}(gu:l5 H al){t e:TypeId}{i:TypeInfo}{z:List D}(hu:P.underlying t=some (.slice e))(hi:P.info? e=some i)(hz:o9 P e=some z)(zW:z.length=i.size)(jQ:0<i.size)
  {l m:D} {u v:Value} (h1:eW c w u l) (h2:eW c w v m) (hk:CP e i.size i.bytes z l m al K):∃ r w',(Instr.makeSlice t u v).run P w = .ok r w'∧iB G c H w K r w':=by
 unfold CP at hk
 split at hk
 ·rename_i k n k' q
  obtain⟨⟨X9,hnq,hq,hb⟩,hk⟩:=hk
  cases h1
  cases h2
  obtain⟨zv,sk,_,qE⟩:=wC hz w
  have sj:zv.cells.size=i.size:=by have:=(qE c w).len;simp at this;omega
  have wn:IntKind.i64.wrap n=n:=wrap_i64 (by unfold mI;omega)
  have wq:IntKind.i64.wrap q=q:=wrap_i64 (by unfold mI;omega)
  have oS:Cells c w ((Array.range (q.toNat*i.size)).map (fun j=>zv.cells[j % zv.cells.size]!)).toList (List.replicate q.toNat z).flatten:=by
   rw[← sj,IA zv.cells q.toNat (by omega)]
   exact Hc _ _ qE _
  obtain⟨L,e1,e2,e3,e4,e5,e6⟩:=Ab h w (jz.refl w) e _ _ ((Array.range (q.toNat*i.size)).map (fun j=>zv.cells[j % zv.cells.size]!)).size ((Array.range (q.toNat*i.size)).map (fun j=>zv.cells[j % zv.cells.size]!)) (gu _).qU oS (by rw[← cM,dy]) (Nat.le_refl _)
  refine⟨.slice (some ⟨w.heap.size,0,none⟩) n.toNat q.toNat,w.alloc (.cells ((Array.range (q.toNat*i.size)).map (fun j=>zv.cells[j % zv.cells.size]!)) e),?_,?_⟩
  ·have c1:¬ ((i.bytes:Int)*q>2 ^ 48):=by omega
   have c2:¬ q<0:=by omega
   have c3:¬ n<0:=by omega
   have c4:¬ n>q:=by omega
   simp only[Instr.makeSlice,Sem.run_bind,run_underlying hu,Result.andThen_ok,asInt,asIntOf,Sem.run_pure,run_typeInfo hi,wn,wq,Sem.run_ite]
   rw[if_neg (by simp[c1,c2,c3,c4];omega)]
   by_cases h0:q.toNat*i.size=0
   ·have r8:q.toNat=0:=by rcases Nat.mul_eq_zero.1 h0 with h|h<;>omega
    have er:Array.range 0=(#[]:Array Nat):=rfl
    simp[sizeOf,run_typeInfo hi,r8,newRow,er]
   ·simp[sizeOf,run_typeInfo hi,h0,sk,newRow]
  ·have hp:=CU (c:=c) (w:=w.alloc (.cells ((Array.range (q.toNat*i.size)).map (fun j=>zv.cells[j % zv.cells.size]!)) e)) e1 e3 al.1 0 i.size n.toNat q.toNat (by rw[e4];simp) (by omega) (by unfold maxLen;omega)
   rw[e2]at hp
   exact⟨_,_,_,hk,e5,hp,e6⟩
 ·exact hk.elim
end
end Go.AL
namespace Go.AL
open Go
section
variable{P:Program}{G:GT}{c:Ctx}{H:U}{w:World}{K:iU}{env:gd}{a:Act}
theorem Ha{α:Type}(sz:Nat)(jQ:0<sz):∀ (ls:List (List α)),(∀ l∈ls,l.length=sz)→∀ j:Nat,ls.flatten[j]? = (ls[j / sz]?).bind (·[j % sz]?)
 | [],_,j=>by simp
 | l::ls,h,j=>by
  have hl:l.length=sz:=h l (by simp)
  rw[aU]
  by_cases hj:j<sz
  ·rw[ag (by omega),Nat.div_eq_of_lt hj,ei hj]
   simp
  ·rw[ao (by omega),hl,Ha sz jQ ls (fun l hl=>h l (by simp[hl])),Nat.div_eq_sub_div (a:=j) (b:=sz) jQ (by omega),Nat.mod_eq_sub_mod (a:=j) (b:=sz) (by omega)]
   simp
theorem Hb{α:Type}(sz:Nat):∀ (ls:List (List α)),(∀ l∈ls,l.length=sz)→ls.flatten.length=ls.length*sz
 | [],_=>by simp
 | l::ls,h=>by
  rw[aU,az,Hb sz ls (fun l hl=>h l (by simp[hl])),h l (by simp),aO,aT]
  omega
def M3(h:fr G c H w){sz:Nat}(jQ:0<sz){d:D}{u:Value}(hr:eW c w u d){ys:List D}{n:Nat}(hy:j' sz H d=some (ys,n)) :
  ∃ yb yc vs,u = .slice yb n yc∧Cells c w vs ys∧ys.length=n*sz∧n≤yc∧(yb=none→n=0)∧(∀ ad,yb=some ad→∀ (j:Nat) (v:Value),vs[j]? = some v→w.cell? (ad.add j)=some v):=by
 unfold j' at hy
 split at hy
 ·rename_i fY es
  split at hy
  ·rename_i e
   subst e
   cases hy
   cases hr with
   | sl ad len cap _ _ g hlen ju ix gV kC hc hr=>
    have B0:=Hb fY es gV
    have iw:∀ (j:Nat) (d:D),es.flatten[j]? = some d→∃ e,es[j / fY]? = some e∧e[j % fY]? = some d:=fun j d hd=>by
     rw[Ha fY jQ es gV]at hd
     cases he:es[j / fY]? with
     | none=>simp[he]at hd
     | some e=>exact⟨e,rfl,by simpa[he]using hd⟩
    refine⟨ad,cap,(List.range es.flatten.length).map fun j=>g (j / fY) (j % fY),by rw[hlen],⟨by simp,fun v hv=>?_,fun i v d hv hd=>?_⟩,B0,by omega,fun e=>by have:=kC e;omega,fun b hb j v hv=>?_⟩
    ·simp only[aw,bC]at hv
     obtain⟨j,hj,rfl⟩:=hv
     obtain⟨e,BS,pH⟩:=iw j _ (by rw[List.getElem?_eq_getElem hj])
     obtain⟨_,_,_,_,_,h1⟩:=hc _ e _ _ BS pH
     exact h1
    ·obtain⟨e,BS,pH⟩:=iw i d hd
     simp only[aq,bX (af.1 hd).1,aH,ak]at hv
     subst hv
     exact hr _ e _ d BS pH
    ·have hj:j<es.flatten.length:=by have:=(af.1 hv).1;simpa using this
     simp only[aq,bX hj,aH,ak]at hv
     subst hv
     obtain⟨e,BS,pH⟩:=iw j _ (by rw[List.getElem?_eq_getElem hj])
     obtain⟨b',o,vH,_,h2,_⟩:=hc _ e _ _ BS pH
     rw[hb]at vH
     cases vH
     rw[Addr.add_lit]
     have h3:=h2
     rw[Nat.div_add_mod' j fY]at h3
     exact h3
  ·cases hy
 ·cases hy
  cases hr with
  | eU=>exact⟨none,0,[],rfl,Cells.nil,by simp,Nat.le_refl _,fun _=>rfl,fun _ _ j v hv=>by simp at hv⟩
 ·rename_i vs
  split at hy
  ·rename_i e1
   subst e1
   cases hy
   cases hr with
   | lA ad _ ix kC hc=>
    refine⟨ad,vs.length,vs,rfl,⟨by simp,fun v hv=>?_,fun i v d hv hd=>?_⟩,by simp,Nat.le_refl _,fun e=>by rw[kC e];rfl,fun b hb j v hv=>?_⟩
    ·obtain⟨i,hi⟩:=List.getElem?_of_mem hv
     obtain⟨_,_,_,_,_,h1⟩:=hc i v hi
     exact h1
    ·simp only[aq,hv,aH,ak]at hd
     subst hd
     exact .val _
    ·obtain⟨b',o,ha,_,mO,_⟩:=hc j v hv
     rw[ha]at hb
     cases hb
     rw[Addr.add_lit]
     exact mO
  ·cases hy
 ·rename_i v0 g0 fY off len
  split at hy
  ·rename_i t cs gH
   split at hy
   ·rename_i iJ
    obtain⟨rfl,lH⟩:=iJ
    cases hy
    have hv:=qP gH
    dsimp only at hv
    cases hr with
    | eX _ _ _ _ _ cap L e9 gI ju ix lJ=>
     obtain⟨arr,h1,h2,h3,h4⟩:=uP h hv e9 gI
     refine⟨_,cap,_,rfl,((h4.drop (off*fY)).take (n*fY)),?_,ju,(fun e=>nomatch e),fun ad hb j v hv=>?_⟩
     ·simp only[aI,aX]
      rw[aT]at lH
      omega
     ·cases hb
      rw[Addr.add_lit]
      rw[aC]at hv
      split at hv
      ·rw[aD,aC]at hv
       split at hv
       ·rw[aD]at hv
        simp[World.cell?,h1]
        rw[a7]
        simpa using hv
       ·cases hv
      ·cases hv
    | lE _ _ _ _ L e9 ad=>
     refine⟨ad,0,[],rfl,?_,by simp,Nat.le_refl _,fun _=>rfl,fun _ _ j v hv=>by simp at hv⟩
     simp only[cu,dO]
     exact Cells.nil
   ·cases hy
  ·cases hy
 ·cases hy
theorem OC:∀ {vs:List Value} {ys:List D} {ns:List Int},vs.length=ys.length→(∀ (i:Nat) (v:Value) (d:D),vs[i]? = some v→ys[i]? = some d→eW c w v d)→bytesOf ys=some ns→vs=ns.map (Value.int .u8)
 | [],[],ns,_,_,h=>by cases h;rfl
 | v::vs,y::ys,ns,hl,hr,h=>by
  unfold bytesOf at h
  split at h
  ·rename_i heq;cases heq
  ·rename_i n r heq
   cases heq
   split at h
   ·rename_i l mc
    cases h
    have h0:=hr 0 v _ rfl rfl
    cases h0
    have e:=OC (vs:=vs) (by simpa using hl) (fun i v d hv hd=>hr (i+1) v d (by simpa using hv) (by simpa using hd)) mc
    rw[e]
    rfl
   ·cases h
  ·cases h
def aeq(h:fr G c H w){s d e:TypeId}(hs:P.underlying s=some (.slice e))(he:P.underlying e=some (.int .u8))(hd:P.underlying d=some .string){x:D}{u:Value}(h1:eW c w u x)(hk:A' x H K) :
  ∃ r,(convert s d u).run P w = .ok r w∧iB G c H w K r w:=by
 unfold A' at hk
 split at hk
 ·rename_i ys n po
  obtain⟨yb,yc,vs,oG,jF,kr,Re,Cn,Cl⟩:=M3 h (by omega) h1 po
  subst oG
  split at hk
  ·rename_i ns HE
   have hv:=OC jF.len jF.rep HE
   refine⟨_,?_,.val h hk⟩
   rw[run_convert_bytes_string w s d e yb n yc hs he hd]
   cases yb with
   | none=>
    have hn:=Cn rfl
    subst hn
    have:ns = []:=by
     have:vs = []:=aW (by rw[jF.len,kr])
     rw[this]at hv
     cases ns with
     | nil=>rfl
     | cons=>cases hv
    subst this
    simp[Conv.bytesToString]
   | some ad=>
    refine run_bytesToString w ad n yc ns ?_
    have hl:vs.length=n:=by rw[jF.len,kr];simp
    have:=run_loadCells_list (P:=P) w ad vs (Cl ad rfl)
    rw[hl]at this
    rw[this,hv]
  ·exact hk.elim
 ·exact hk.elim
def Ut(h:fr G c H w)(he:kb c w env a){x:Option Operand}{X:Option X}(hx:pF G x=some X){d:Int}{n:Int}(hb:gy env X d=some n) :
  (x=none∧n=d)∨∃ k o,x=some o∧a.eval o = .int k n:=by
 cases x with
 | none=>cases hx;simp[gy]at hb;exact .inl ⟨rfl,hb.symm⟩
 | some o=>
  simp only[pF,aj]at hx
  obtain⟨X0,hX,rfl⟩:=hx
  have:=ia h he hX
  simp only[gy]at hb
  split at hb
  ·rename_i k m oT
   cases hb
   rw[oT]at this
   generalize hv:a.eval o=v at this
   cases this
   exact .inr ⟨k,o,rfl,hv⟩
  ·cases hb
def IK(isSlice:Bool)(len cap:Nat)(lo hi:Option Value)(l h:Int)(mq:(lo=none∧l=0)∨∃ k,lo=some (.int k l))(XS:(hi=none∧h=len)∨∃ k,hi=some (.int k h))
  (h0:0≤l) (h1:l≤h) (h2:h≤cap):(Instr.sliceBounds isSlice len cap lo hi none).run P w = .ok (l.toNat,h.toNat,cap) w:=by
 have eh:(h.toNat:Int)=h:=bN (by omega)
 rcases mq with⟨rfl,rfl⟩|⟨k,rfl⟩<;>rcases XS with⟨rfl,rfl⟩|⟨k',rfl⟩
 ·simp[Instr.sliceBounds]
 ·simp[Instr.sliceBounds,run_sliceBound w k' h cap _ (by omega) h2]
 ·simp[Instr.sliceBounds,run_sliceBound w k l len _ h0 h1]
 ·simp[Instr.sliceBounds,run_sliceBound w k' h cap _ (by omega) h2,run_sliceBound w k l h.toNat _ h0 (by omega)]
def rJ(h:fr G c H w)(he:kb c w env a){x:Option Operand}{X:Option X}(hx:pF G x=some X){d:Int}{n:Int}(hb:gy env X d=some n) :
  (x.map a.eval=none∧n=d)∨∃ k,x.map a.eval=some (.int k n):=by
 rcases Ut h he hx hb with⟨rfl,rfl⟩|⟨k,o,rfl,hv⟩
 ·exact .inl ⟨rfl,rfl⟩
 ·exact .inr ⟨k,by simp[hv]⟩
def aeV(h:fr G c H w)(he:kb c w env a){t e:TypeId}{sz:Nat}(hu:P.underlying t=some (.slice e))(hs:jE P e=some sz){lo hi:Option Operand}{L M:Option X}(hl:pF G lo=some L)(hm:pF G hi=some M)
  {x:D} {u:Value} (h1:eW c w u x) (hk:Dk env sz x L M H K):∃ r,(Instr.sliceAt t u (lo.map a.eval) (hi.map a.eval) none).run P w = .ok r w∧iB G c H w K r w:=by
 have gK:∀ (b:Option Addr) (len cap:Nat) (l m:Int),gy env L 0=some l→gy env M len=some m→0≤l→l≤m→m≤cap →
   (Instr.sliceAt t (.slice b len cap) (lo.map a.eval) (hi.map a.eval) none).run P w = .ok (.slice (if cap=l.toNat then b else b.map (·.add (l.toNat*sz))) (m.toNat-l.toNat) (cap-l.toNat)) w:=by
  intro b len cap l m lR nc h0 mR K6
  have hb:=IK (P:=P) (w:=w) true len cap (lo.map a.eval) (hi.map a.eval) l m (rJ h he hl lR) (rJ h he hm nc) h0 mR K6
  simp only[Instr.sliceAt,Sem.run_bind,run_underlying hu,Result.andThen_ok,Instr.slice,hb,o6 hs,Sem.run_pure]
 unfold Dk at hk
 split at hk
 ·rename_i fY es
  split at hk
  ·rename_i l m lR nc
   obtain⟨rfl,⟨h0,mR,rY⟩,hk⟩:=hk
   cases h1 with
   | sl ad len cap _ _ g hlen ju ix gV kC hc hr=>
    refine⟨_,gK ad len cap l m lR (by rw[← hlen];exact nc) h0 mR (by omega),.plain h hk ?_⟩
    have iw:∀ (i:Nat) (e:List D),((es.drop l.toNat).take (m.toNat-l.toNat))[i]? = some e→es[l.toNat+i]? = some e∧i<m.toNat-l.toNat:=fun i e hi=>by
     rw[aC]at hi
     split at hi
     ·rw[aD]at hi;exact⟨hi,by assumption⟩
     ·cases hi
    refine .sl _ _ _ fY _ (fun i j=>g (l.toNat+i) j) (by simp;omega) (by omega) (by omega) (fun e oU=>gV e (bp (aN oU))) ?_ ?_ ?_
    ·intro hn
     split at hn
     ·omega
     ·cases ad with
      | none=>have:=kC rfl;omega
      | some ad=>simp at hn
    ·intro i e j d hi hd
     obtain⟨h3,h4⟩:=iw i e hi
     obtain⟨b,o,vH,hF,mO,h1⟩:=hc _ e j d h3 hd
     refine⟨b,o+l.toNat*fY,?_,hF,?_,h1⟩
     ·rw[if_neg (by omega),vH]
      simp[Addr.add_lit]
     ·rw[← mO,aT]
      congr 2
      omega
    ·intro i e j d hi hd
     exact hr _ e j d (iw i e hi).1 hd
  ·exact hk.elim
 ·rename_i v g0 fY off len
  split at hk
  ·rename_i l m lR nc
   obtain⟨rfl,⟨h0,mR,rY⟩,hk⟩:=hk
   cases h1 with
   | eX _ _ _ _ _ cap Lc e9 hv ju ix lJ=>
    refine⟨_,gK _ len cap l m lR nc h0 mR (by omega),.plain h hk ?_⟩
    by_cases hz:cap=l.toNat
    ·rw[if_pos hz,show m.toNat-l.toNat=0 by omega,show cap-l.toNat=0 by omega]
     exact .lE v g0 fY (off+l.toNat) Lc e9 _
    ·rw[if_neg hz]
     have:=eW.eX (c:=c) (w:=w) v g0 fY (off+l.toNat) (m.toNat-l.toNat) (cap-l.toNat) Lc e9 hv (by omega) (by omega) (by rw[show off+l.toNat+(cap-l.toNat)=off+cap by omega];exact lJ)
     simp only[aH,Addr.add_lit]
     rw[a7,← aT]
     exact this
   | lE _ _ _ _ Lc e9 ad=>
    have:l=0:=by omega
    subst this
    have:m=0:=by omega
    subst this
    refine⟨_,gK ad 0 0 0 0 lR nc h0 mR (by omega),.plain h hk ?_⟩
    simp only[dQ,if_true,ej,bQ]
    exact .lE v g0 fY off Lc e9 ad
  ·exact hk.elim
 ·split at hk
  ·rename_i l m lR nc
   obtain⟨⟨rfl,rfl⟩,hk⟩:=hk
   cases h1 with
   | eU=>
    refine⟨_,gK none 0 0 0 0 lR nc (by omega) (by omega) (by omega),.plain h hk ?_⟩
    simp only[dQ,if_true,ej]
    exact .eU
  ·exact hk.elim
 ·exact hk.elim
def afU(isSlice:Bool)(len cap:Nat)(lo:Option Value)(k k':IntKind)(l h m:Int)(mq:(lo=none∧l=0)∨∃ k,lo=some (.int k l))
  (h0:0≤l) (h1:l≤h) (h2:h≤m) (h3:m≤cap):(Instr.sliceBounds isSlice len cap lo (some (.int k h)) (some (.int k' m))).run P w = .ok (l.toNat,h.toNat,m.toNat) w:=by
 have em:(m.toNat:Int)=m:=bN (by omega)
 rcases mq with⟨rfl,rfl⟩|⟨k0,rfl⟩
 ·simp[Instr.sliceBounds,run_sliceBound w k' m cap _ (by omega) h3,run_sliceBound w k h m.toNat _ (by omega) (by omega)]
 ·simp[Instr.sliceBounds,run_sliceBound w k' m cap _ (by omega) h3,run_sliceBound w k h m.toNat _ (by omega) (by omega),run_sliceBound w k0 l h.toNat _ h0 (by omega)]
theorem TE:∀ {es:List (List D)} {vs:List Value},Az es=some vs→es=vs.map (fun v=>[.val v])∧∀ v∈vs,v.oneCell'=true
 | [],vs,h=>by cases h;exact⟨rfl,by simp⟩
 | e::es,vs,h=>by
  unfold Az at h
  split at h
  ·rename_i heq;cases heq
  ·rename_i v r heq
   cases heq
   split at h
   ·rename_i h1
    split at h
    ·rename_i l hl
     cases h
     obtain⟨e1,e2⟩:=TE hl
     exact⟨by rw[e1];rfl,fun v hv=>by
      rcases av.1 hv with rfl|hv
      ·exact h1
      ·exact e2 v hv⟩
    ·cases h
   ·cases h
  ·cases h
def UU{ad:Option Addr}{len sz:Nat}{es:List (List D)}(h1:eW c w (.slice ad len len) (.sl sz es)):eW c w (.slice ad len len) (clip sz es):=by
 unfold clip
 split
 ·rename_i vs jF
  split
  ·rename_i e1
   subst e1
   obtain⟨e2,e3⟩:=TE jF
   subst e2
   cases h1 with
   | sl _ _ _ _ _ g hlen ju ix gV kC hc hr=>
    simp only[List.length_map]at hlen
    subst hlen
    refine .lA ad vs ix (fun e=>aB.1 (kC e)) fun i v hv=>?_
    have hi:(vs.map fun v=>[D.val v])[i]? = some [.val v]:=by simp[hv]
    obtain⟨b,o,ha,hF,mO,h1⟩:=hc i _ 0 _ hi rfl
    have hg:=hr i _ 0 _ hi rfl
    have e4:g i 0=v:=by
     generalize hgv:g i 0=u at hg
     cases hg;rfl
    rw[e4]at mO h1
    exact⟨b,o,ha,hF,by simpa using mO,h1⟩
  ·exact h1
 ·exact h1
def aeT(h:fr G c H w)(he:kb c w env a){t e:TypeId}{sz:Nat}(hu:P.underlying t=some (.slice e))(hs:jE P e=some sz){lo:Option Operand}{hi mx:Operand}{L:Option X}{M N:X}(hl:pF G lo=some L)(hm:cX G hi=some M)(hn:cX G mx=some N)
  {x:D} {u:Value} (h1:eW c w u x) (hk:Di env sz x L M N H K):∃ r,(Instr.sliceAt t u (lo.map a.eval) (some (a.eval hi)) (some (a.eval mx))).run P w = .ok r w∧iB G c H w K r w:=by
 have gK:∀ (b:Option Addr) (len cap:Nat) (l h' m:Int),gy env L 0=some l→gy env (some M) 0=some h'→gy env (some N) 0=some m→0≤l→l≤h'→h'≤m→m≤cap →
   (Instr.sliceAt t (.slice b len cap) (lo.map a.eval) (some (a.eval hi)) (some (a.eval mx))).run P w = .ok (.slice (if m.toNat=l.toNat then b else b.map (·.add (l.toNat*sz))) (h'.toNat-l.toNat) (m.toNat-l.toNat)) w:=by
  intro b len cap l h' m lR nc zD h0 mR HD K6
  obtain⟨k1,mQ⟩:∃ k,a.eval hi = .int k h':=by
   rcases rJ h he (x:=some hi) (X:=some M) (by simp only[pF,hm,aH]) nc with⟨e,_⟩|⟨k,e⟩
   ·cases e
   ·exact⟨k,by simpa using e⟩
  obtain⟨k2,kL⟩:∃ k,a.eval mx = .int k m:=by
   rcases rJ h he (x:=some mx) (X:=some N) (by simp only[pF,hn,aH]) zD with⟨e,_⟩|⟨k,e⟩
   ·cases e
   ·exact⟨k,by simpa using e⟩
  have hb:=afU (P:=P) (w:=w) true len cap (lo.map a.eval) k1 k2 l h' m (rJ h he hl lR) h0 mR HD K6
  simp only[Instr.sliceAt,Sem.run_bind,run_underlying hu,Result.andThen_ok,Instr.slice,mQ,kL,hb,o6 hs,Sem.run_pure]
 unfold Di at hk
 split at hk
 ·rename_i l h' m lR nc zD
  split at hk
  ·rename_i fY es
   obtain⟨rfl,⟨h0,mR,rfl,rY⟩,hk⟩:=hk
   cases h1 with
   | sl ad len cap _ _ g hlen ju ix gV kC hc hr=>
    refine⟨_,gK ad len cap l h' h' lR nc zD h0 mR (dp _) (by omega),.plain h hk (UU ?_)⟩
    have iw:∀ (i:Nat) (e:List D),((es.drop l.toNat).take (h'.toNat-l.toNat))[i]? = some e→es[l.toNat+i]? = some e∧i<h'.toNat-l.toNat:=fun i e hi=>by
     rw[aC]at hi
     split at hi
     ·rw[aD]at hi;exact⟨hi,by assumption⟩
     ·cases hi
    refine .sl _ _ _ fY _ (fun i j=>g (l.toNat+i) j) (by simp;omega) (by omega) (by omega) (fun e oU=>gV e (bp (aN oU))) ?_ ?_ ?_
    ·intro hn
     split at hn
     ·omega
     ·cases ad with
      | none=>have:=kC rfl;omega
      | some ad=>simp at hn
    ·intro i e j d hi hd
     obtain⟨h3,h4⟩:=iw i e hi
     obtain⟨b,o,vH,hF,mO,h1⟩:=hc _ e j d h3 hd
     refine⟨b,o+l.toNat*fY,?_,hF,?_,h1⟩
     ·rw[if_neg (by omega),vH]
      simp[Addr.add_lit]
     ·rw[← mO,aT]
      congr 2
      omega
    ·intro i e j d hi hd
     exact hr _ e j d (iw i e hi).1 hd
  ·rename_i v g0 fY off len
   obtain⟨rfl,⟨h0,mR,HD,rY⟩,hk⟩:=hk
   cases h1 with
   | eX _ _ _ _ _ cap Lc e9 hv ju ix lJ=>
    refine⟨_,gK _ len cap l h' m lR nc zD h0 mR HD (by omega),.plain h hk ?_⟩
    by_cases hz:m.toNat=l.toNat
    ·rw[if_pos hz,show h'.toNat-l.toNat=0 by omega,show m.toNat-l.toNat=0 by omega]
     exact .lE v g0 fY (off+l.toNat) Lc e9 _
    ·rw[if_neg hz]
     have:=eW.eX (c:=c) (w:=w) v g0 fY (off+l.toNat) (h'.toNat-l.toNat) (m.toNat-l.toNat) Lc e9 hv (by omega) (by omega) (by
      refine Nat.le_trans (Nat.add_le_add_left (bf _ ?_) _) lJ
      omega)
     simp only[aH,Addr.add_lit]
     rw[a7,← aT]
     exact this
   | lE _ _ _ _ Lc e9 ad=>
    have:l=0:=by omega
    subst this
    have:h'=0:=by omega
    subst this
    have:m=0:=by omega
    subst this
    refine⟨_,gK ad 0 0 0 0 0 lR nc zD h0 mR HD (by omega),.plain h hk ?_⟩
    simp only[dQ,if_true,ej,bQ]
    exact .lE v g0 fY off Lc e9 ad
  ·obtain⟨⟨rfl,rfl,rfl⟩,hk⟩:=hk
   cases h1 with
   | eU=>
    refine⟨_,gK none 0 0 0 0 0 lR nc zD (by omega) (by omega) (by omega) (by omega),.plain h hk ?_⟩
    simp only[dQ,if_true,ej]
    exact .eU
  ·exact hk.elim
 ·exact hk.elim
def aeU(h:fr G c H w)(he:kb c w env a){t e:TypeId}{sz n:Nat}(hu:P.underlying t=some (.array n e))(hs:jE P e=some sz){lo hi:Option Operand}{L M:Option X}(hl:pF G lo=some L)(hm:pF G hi=some M)
  {x:D} {u:Value} (h1:eW c w u x) (hk:Dj env sz n x L M H K):∃ r,(Instr.sliceAt t u (lo.map a.eval) (hi.map a.eval) none).run P w = .ok r w∧iB G c H w K r w:=by
 unfold Dj at hk
 split at hk
 ·rename_i cs l m lR nc
  obtain⟨⟨rfl,lH,ix,h0,mR,rY⟩,hk⟩:=hk
  obtain⟨b,p,rfl,hF,iL⟩:=vm h1
  obtain⟨vs,Qp,kf⟩:=iL
  have hb:=IK (P:=P) (w:=w) false n n (lo.map a.eval) (hi.map a.eval) l m (rJ h he hl lR) (rJ h he hm nc) h0 mR (by omega)
  have gK:(Instr.sliceAt t (.pointer (some ⟨b,p,none⟩)) (lo.map a.eval) (hi.map a.eval) none).run P w = .ok (.slice (some (if n=l.toNat then⟨b,p,none⟩else Addr.add ⟨b,p,none⟩ (l.toNat*1))) (m.toNat-l.toNat) (n-l.toNat)) w:=by
   simp only[Instr.sliceAt,Sem.run_bind,run_underlying hu,Result.andThen_ok,Instr.sureAddr,hb,o6 hs,Sem.run_pure]
  refine⟨_,gK,.plain h hk ?_⟩
  have iw:∀ (i:Nat) (e:List D),(((cs.drop l.toNat).take (m.toNat-l.toNat)).map fun d=>[d])[i]? = some e→∃ d,cs[l.toNat+i]? = some d∧e = [d]∧i<m.toNat-l.toNat:=fun i e hi=>by
   rw[aq,aC]at hi
   split at hi
   ·rename_i gi
    rw[aD]at hi
    cases hd:cs[l.toNat+i]? with
    | none=>rw[hd]at hi;cases hi
    | some d=>rw[hd]at hi;cases hi;exact⟨d,rfl,rfl,gi⟩
   ·cases hi
  refine .sl _ _ _ 1 _ (fun i _=>vs.getD (l.toNat+i) undef) (by simp;omega) (by omega) (by unfold maxLen;omega) (fun e oU=>?_) (fun e=>nomatch e) ?_ ?_
  ·obtain⟨d,_,rfl⟩:=aw.1 oU;rfl
  ·intro i e j d hi hd
   obtain⟨d0,h3,rfl,h4⟩:=iw i e hi
   have hj:j=0:=by have:=(af.1 hd).1;simp at this;exact this
   subst hj
   obtain⟨v,hv,my,ng⟩:=Qp.get h3
   refine⟨b,p+l.toNat,?_,hF,?_,?_⟩
   ·rw[if_neg (by omega),Addr.add_lit,cI]
   ·have:=kf _ v hv
    rw[List.getD_eq_getElem?_getD,hv,aL,cI,bQ]
    rw[← this]
    congr 2
    omega
   ·rw[List.getD_eq_getElem?_getD,hv,aL];exact my
  ·intro i e j d hi hd
   obtain⟨d0,h3,rfl,h4⟩:=iw i e hi
   have hj:j=0:=by have:=(af.1 hd).1;simp at this;exact this
   subst hj
   cases hd
   obtain⟨v,hv,my,ng⟩:=Qp.get h3
   rw[List.getD_eq_getElem?_getD,hv,aL]
   exact ng
 ·rename_i v g o l m lR nc
  split at hk
  ·rename_i t' cs gH
   obtain⟨⟨al7,lH,ix,h0,mR,rY⟩,hk⟩:=hk
   have hv:=qP gH
   dsimp only at hv
   cases h1 with
   | ptr _ _ _ Lc e9 gI=>
    obtain⟨arr,uc,zB,Qh,Hr⟩:=uP h hv e9 gI
    have hb:=IK (P:=P) (w:=w) false n n (lo.map a.eval) (hi.map a.eval) l m (rJ h he hl lR) (rJ h he hm nc) h0 mR (by omega)
    have gK:(Instr.sliceAt t (.pointer (some ⟨Lc.b,Lc.base+o,none⟩)) (lo.map a.eval) (hi.map a.eval) none).run P w = .ok (.slice (some (if n=l.toNat then⟨Lc.b,Lc.base+o,none⟩else Addr.add ⟨Lc.b,Lc.base+o,none⟩ (l.toNat*sz))) (m.toNat-l.toNat) (n-l.toNat)) w:=by
     simp only[Instr.sliceAt,Sem.run_bind,run_underlying hu,Result.andThen_ok,Instr.sureAddr,hb,o6 hs,Sem.run_pure]
    refine⟨_,gK,.plain h hk ?_⟩
    have ho:o=o / sz*sz:=by have:=Nat.div_add_mod' o sz;omega
    by_cases hz:n=l.toNat
    ·rw[if_pos hz,show m.toNat-l.toNat=0 by omega,show n-l.toNat=0 by omega]
     exact .lE v g sz (o / sz+l.toNat) Lc e9 _
    ·rw[if_neg hz]
     have:=eW.eX (c:=c) (w:=w) v g sz (o / sz+l.toNat) (m.toNat-l.toNat) (n-l.toNat) Lc e9 gI (by omega) (by unfold maxLen;omega) (by
      rw[show o / sz+l.toNat+(n-l.toNat)=o / sz+n by omega,aT,← ho]
      omega)
     rw[Addr.add_lit]
     rw[aT,← ho,← a7]at this
     exact this
  ·exact hk.elim
 ·exact hk.elim
def aeW(h:fr G c H w)(he:kb c w env a){t:TypeId}(hu:P.underlying t=some .string){lo hi:Option Operand}{L M:Option X}(hl:pF G lo=some L)(hm:pF G hi=some M)
  {s:ByteArray} (hk:Ao env (.val (.string s)) L M H K):∃ r,(Instr.sliceAt t (.string s) (lo.map a.eval) (hi.map a.eval) none).run P w = .ok r w∧iB G c H w K r w:=by
 simp only[Ao]at hk
 split at hk
 ·rename_i l m lR nc
  obtain⟨⟨h0,mR,rY⟩,hk⟩:=hk
  have hb:=IK (P:=P) (w:=w) false s.size s.size (lo.map a.eval) (hi.map a.eval) l m (rJ h he hl lR) (rJ h he hm nc) h0 mR rY
  exact⟨.string (s.extract l.toNat m.toNat),by simp[Instr.sliceAt,run_underlying hu,Instr.slice,hb],.val h hk⟩
 ·exact hk.elim
def qH{v:Nat}{x:KK×List (Value×D)}(h:lT H v=some x):H[v]? = some (.map x.1 x.2):=by
 unfold lT at h
 split at h
 ·cases h;assumption
 ·cases h
def Mo(h:fr G c H w){t ty:TypeId}{k:wQ}{d:TypeDesc}(hd:P.underlying t=some d)(vL:match k with | .slice=>∃ e,d = .slice e | .string=>d = .string | .map=>∃ k e,d = .map k e)
  {x:D} {u:Value} (h1:eW c w u x) (hk:CE k x H K):∃ r,(Builtin.len_ #[t] ty #[u]).run P w = .ok r w∧iB G c H w K r w:=by
 unfold CE at hk
 split at hk
 ·obtain⟨e,rfl⟩:=vL
  cases h1 with
  | sl ad len cap _ _ g hlen ju ix gV kC hc hr=>
   refine⟨goInt len,by simp[Builtin.len_,run_underlying hd],.plain h hk ?_⟩
   rw[hlen];exact .val _
 ·obtain⟨e,rfl⟩:=vL
  cases h1 with
  | eU=>exact⟨goInt 0,by simp[Builtin.len_,run_underlying hd],.plain h hk (.val _)⟩
 ·rename_i vs
  obtain⟨e,rfl⟩:=vL
  cases h1 with
  | lA ad _ ix kC hc=>exact⟨goInt vs.length,by simp[Builtin.len_,run_underlying hd],.plain h hk (.val _)⟩
 ·rename_i v g0 sz off len
  obtain⟨e,rfl⟩:=vL
  cases h1 with
  | eX _ _ _ _ _ cap L e9 hv ju ix lJ=>exact⟨goInt len,by simp[Builtin.len_,run_underlying hd],.plain h hk (.val _)⟩
  | lE=>exact⟨goInt 0,by simp[Builtin.len_,run_underlying hd],.plain h hk (.val _)⟩
 ·have vL:d = .string:=vL
  subst vL
  cases h1
  exact⟨_,by simp[Builtin.len_,run_underlying hd]<;>rfl,.plain h hk (.val _)⟩
 ·rename_i v
  obtain⟨kk,e,rfl⟩:=vL
  split at hk
  ·rename_i nj es oh
   cases h1 with
   | gF _ L e9 hv=>
    have gD:=h.ob v _ (qH oh)
    simp only[Ob.gen]at gD
    rw[e9]at gD
    simp only[gq]at gD
    obtain⟨_,_,arr,clock,hm,gV,_⟩:=gD
    refine⟨goInt arr.size,by simp[Builtin.len_,run_underlying hd,getObj,Sem.run,hm],.plain h hk ?_⟩
    rw[← gV];exact .val _
  ·exact hk.elim
 ·exact hk.elim
def Sl(h:fr G c H w)(he:kb c w env a){xs:List X}{ops:Array Operand}(hx:tU G ops.toList=some xs)(isMax:Bool)(ts:Array TypeId)(ty:TypeId)(hk:CO env isMax xs H K) :
  ∃ r,(if isMax then Builtin.max_ ts ty (ops.map a.eval)else Builtin.min_ ts ty (ops.map a.eval)).run P w = .ok r w∧iB G c H w K r w:=by
 have hr:=wZ h he ops.toList hx
 have key:∀ (xs:List X) (vs:List Value) (l:List Int),pr env xs=some l→iS c w vs (xs.map (ev env))→vs=l.map (Value.int .i64 ·):=by
  intro xs
  induction xs with
  | nil=>intro vs l hl hr;simp[pr]at hl;subst hl;cases hr;rfl
  | cons x xs ih=>
   intro vs l hl hr
   simp only[pr]at hl
   split at hl
   ·rename_i n l' oT mc
    cases hl
    simp only[List.map_cons]at hr
    cases hr with
    | cons h1 h2=>
     rw[oT]at h1
     cases h1
     rw[ih _ _ mc h2]
     rfl
   ·cases hl
 have e:∀ l:Array Operand,(l.toList.map a.eval).toArray=l.map a.eval:=fun l=>by cases l;simp
 unfold CO at hk
 split at hk
 ·rename_i p q hi
  have hv:=key _ _ _ hi hr
  have kP:ops.map a.eval = #[.int .i64 p,.int .i64 q]:=by rw[← e,hv];rfl
  cases isMax
  ·refine⟨.int .i64 (min p q),?_,.val h (by simpa using hk)⟩
   simp only[br,if_false,kP]
   have:(if q<p then q else p)=min p q:=by omega
   simp[Builtin.min_,Builtin.min2,this]
  ·refine⟨.int .i64 (max p q),?_,.val h (by simpa using hk)⟩
   simp only[if_true,kP]
   have:(if q>p then q else p)=max p q:=by omega
   simp[Builtin.max_,Builtin.max2]
   omega
 ·rename_i p q s hi
  have hv:=key _ _ _ hi hr
  have kP:ops.map a.eval = #[.int .i64 p,.int .i64 q,.int .i64 s]:=by rw[← e,hv];rfl
  cases isMax
  ·refine⟨.int .i64 (min (min p q) s),?_,.val h (by simpa using hk)⟩
   simp only[br,if_false,kP]
   simp[Builtin.min_,Builtin.min2]
   omega
  ·refine⟨.int .i64 (max (max p q) s),?_,.val h (by simpa using hk)⟩
   simp only[if_true,kP]
   simp[Builtin.max_,Builtin.max2]
   omega
 ·exact hk.elim
end
end Go.AL
namespace Go.AL
open Go
section
variable{P:Program}{G:GT}{c:Ctx}{H:U}{w:World}{K:iU}{env:gd}{a:Act}
def R3{G:GT}{c:Ctx}{H:U}{w w':World}(h:fr G c H w){v g:Nat}{t:TypeId}{cs:List D}(hv:H[v]? = some (.row t g cs)){L:Loc}(e9:c.ι v g=some L)(L':Loc)
  (hg:(w'.os=w.os∧w.drawn≤w'.drawn)∧w'.tape=w.tape∧w'.output=w.output∧w.heap.size≤w'.heap.size) (Hz:∀ b,b<w.heap.size→¬ (L.jc=false∧b=L.b)→w'.heap[b]? = w.heap[b]?)
  (xQ:L'.jc=false→(w.heap.size≤L'.b∨(L.jc=false∧L'.b=L.b))∧L'.b<w'.heap.size) (mm:List D)
  (gD:(∀ u d,eW c w u d→eW (c.set v (g+1) L') w' u d)→gq (c.set v (g+1) L') w' (some L') (.row t (g+1) mm)) :
  fr G (c.set v (g+1) L') (H.set v (.row t (g+1) mm)) w'∧Step H.length c H w (c.set v (g+1) L') (H.set v (.row t (g+1) mm)) w':=by
 have iV:v<H.length:=(af.1 hv).1
 have um:kR c H v L:=⟨_,hv,rfl,e9⟩
 have ht:vc H v (.row t (g+1) mm) (H.set v (.row t (g+1) mm)):=⟨pP iV,.inr (.inr ⟨_,hv,rfl,Nat.lt_succ_self _⟩),by simp⟩
 have Ye:∀ b,c.F b→¬ (L.jc=false∧b=L.b):=fun b hF e=>h.nF b ⟨v,L,um,e.1,e.2.symm⟩ hF
 have mb:∀ u l,kR (c.set v (g+1) L') (H.set v (.row t (g+1) mm)) u l→(u=v∧l=L')∨(u≠v∧kR c H u l):=fun u l hl=>Aw ht hl
 have qb:∀ b,ly (c.set v (g+1) L') (H.set v (.row t (g+1) mm)) b→(L'.jc=false∧b=L'.b)∨(ly c H b∧¬ (L.jc=false∧b=L.b)):=by
  rintro b ⟨u,l,hl,lY,rfl⟩
  rcases mb u l hl with⟨_,rfl⟩|⟨gE,h1⟩
  ·exact .inl ⟨lY,rfl⟩
  ·exact .inr ⟨⟨u,l,h1,lY,rfl⟩,fun e=>gE (h.inj u v l L h1 um lY e.1 e.2)⟩
 have hs:Step H.length c H w (c.set v (g+1) L') (H.set v (.row t (g+1) mm)) w':={
  os:=hg.1
  tape:=hg.2.1
  output:=hg.2.2.1
  size:=hg.2.2.2
  RT:=rfl
  Fm:=fun _ h=>h
  Fn:=fun _ h=>.inl h
  kept:=fun b hb hn=>Hz b hb fun e=>hn ⟨v,L,um,e.1,e.2.symm⟩
  old:=fun u k l _ hu=>Tw h ht u k l hu
  own:=fun b hb=>by
   rcases qb b hb with⟨lY,rfl⟩|⟨hb,_⟩
   ·rcases(xQ lY).1 with h1|⟨h1,h2⟩
    ·exact .inl h1
    ·exact .inr ⟨v,L,um,h1,h2.symm⟩
   ·exact .inr hb }
 have hr:∀ u d,eW c w u d→eW (c.set v (g+1) L') w' u d:=fun u d hd=>hd.ox h.toHeapOK hs
 refine⟨{
  inj:=fun u u' l l' h1 h2 h5 h6 he=>by
   rcases mb u l h1 with⟨rfl,rfl⟩|⟨n1,b1⟩<;>rcases mb u' l' h2 with⟨rfl,rfl⟩|⟨n2,b2⟩
   ·rfl
   ·exfalso
    have gi:=h.lt l'.b ⟨u',l',b2,h6,rfl⟩
    rcases(xQ h5).1 with h7|⟨h7,h8⟩
    ·omega
    ·exact n2 (h.inj u' u l' L b2 um h6 h7 (by omega))
   ·exfalso
    have gi:=h.lt l.b ⟨u,l,b1,h5,rfl⟩
    rcases(xQ h6).1 with h7|⟨h7,h8⟩
    ·omega
    ·exact n1 (h.inj u u' l L b1 um h5 h7 (by omega))
   ·exact h.inj u u' l l' b1 b2 h5 h6 he
  lt:=fun b hb=>by
   rcases qb b hb with⟨lY,rfl⟩|⟨hb,_⟩
   ·exact(xQ lY).2
   ·exact aJ (h.lt b hb) hg.2.2.2
  nF:=fun b hb hF=>by
   rcases qb b hb with⟨lY,rfl⟩|⟨hb,_⟩
   ·rcases(xQ lY).1 with h7|⟨h7,h8⟩
    ·have:=h.jY _ hF;omega
    ·exact Ye _ hF ⟨h7,h8⟩
   ·exact h.nF b hb hF
  jY:=fun b hb=>aJ (h.jY b hb) hg.2.2.2
  out:=fun u k hu=>by
   simp only[b8]at hu
   rw[Ctx.sA _ _ (by rintro⟨rfl,_⟩;omega)];exact h.out u k hu
  lC:=fun u o k ho hk=>by
   rw[pP iV]at ho
   split at ho
   ·rename_i e
    cases ho;subst e
    rcases hk with hk|⟨_,hk⟩
    ·cases hk
    ·simp only[Ob.gen]at hk
     rw[Ctx.sA _ _ (by rintro⟨_,rfl⟩;omega)];exact h.lC u _ k hv (.inr ⟨rfl,by simp only[Ob.gen];omega⟩)
   ·rename_i e
    rw[Ctx.sA _ _ (fun h=>e h.1)]
    exact h.lC u o k ho hk
  ob:=fun u o ho=>by
   rw[pP iV]at ho
   split at ho
   ·rename_i e
    cases ho;subst e
    simp only[Ob.gen]
    rw[Ctx.qR]
    exact gD hr
   ·rename_i gE
    rw[Ctx.sA _ _ (fun h=>gE h.1)]
    exact gq.pN (c:=c) (c':=c.set v (g+1) L') rfl hr (fun l hl kP hd=>Hz _ (h.lt _ ⟨u,l,⟨o,ho,hd,hl⟩,kP,rfl⟩) fun e=>gE (h.inj u v l L ⟨o,ho,hd,hl⟩ um kP e.1 e.2)) (h.ob u o ho)
  gl:=fun g' cs ui=>by
   obtain⟨gj,se⟩:=h.gl g' cs ui
   exact⟨gj,hr _ _ se⟩
  rt:=h.rt },hs⟩
def Mh{G:GT}{c:Ctx}{H:U}{w w':World}(h:fr G c H w){v g:Nat}{t:TypeId}{cs:List D}(hv:H[v]? = some (.row t g cs)){L:Loc}(e9:c.ι v g=some L)(L':Loc)(gI:L'.jc=false)
  (hg:(w'.os=w.os∧w.drawn≤w'.drawn)∧w'.tape=w.tape∧w'.output=w.output∧w.heap.size≤w'.heap.size) (Hz:∀ b,b<w.heap.size→¬ (L.jc=false∧b=L.b)→w'.heap[b]? = w.heap[b]?)
  (xQ:(w.heap.size≤L'.b∨(L.jc=false∧L'.b=L.b))∧L'.b<w'.heap.size)
  (arr:Array Value) (mo:w'.heap[L'.b]? = some (.cells arr t (0,0))) (lJ:L'.top=arr.size) (mm:List D) (hlen:L'.base+mm.length≤L'.top)
  (hc:∀ (i:Nat) (d:D),mm[i]? = some d→∃ u,arr[L'.base+i]? = some u∧u.oneCell'=true∧eW c w u d) :
  fr G (c.set v (g+1) L') (H.set v (.row t (g+1) mm)) w'∧Step H.length c H w (c.set v (g+1) L') (H.set v (.row t (g+1) mm)) w':=by
 refine R3 h hv e9 L' hg Hz (fun _=>xQ) mm fun hr=>?_
 simp only[gq,gI]
 refine⟨arr,mo,lJ,hlen,fun i d hd=>?_⟩
 obtain⟨x,oX,kD,uz⟩:=hc i d hd
 exact⟨x,oX,kD,hr _ _ uz⟩
def Vv{G:GT}{c:Ctx}{H:U}{w:World}(h:fr G c H w){v g:Nat}{t:TypeId}{cs:List D}(hv:H[v]? = some (.row t g cs)){L:Loc}(e9:c.ι v g=some L) :
  fr G (c.set v (g+1) L) (H.set v (.row t (g+1) [])) w∧Step H.length c H w (c.set v (g+1) L) (H.set v (.row t (g+1) [])) w:=by
 refine R3 h hv e9 L ⟨⟨rfl,Nat.le_refl _⟩,rfl,rfl,Nat.le_refl _⟩ (fun _ _ _=>rfl) (fun lY=>⟨.inr ⟨lY,rfl⟩,h.lt _ ⟨v,L,⟨_,hv,rfl,e9⟩,lY,rfl⟩⟩) [] fun _=>?_
 have h0:=h.ob v _ hv
 simp only[Ob.gen]at h0
 rw[e9]at h0
 simp only[gq]at h0 ⊢
 split
 ·simp
 ·rename_i lY
  simp only[lY]at h0
  obtain⟨arr,h1,h2,h3,_⟩:=h0
  exact⟨arr,h1,h2,by simp;omega,by simp⟩
def IJ{t u ty e:TypeId}{i:TypeInfo}{zv:Value}(ht:P.underlying t=some (.slice e))(hu:∃ e',P.underlying u=some (.slice e'))(hi:P.info? e=some i)(hz:i.zero=some zv)
  (b:Option Addr) (nv sy:Nat) (y:Value) (yb:Option Addr) (n yc:Nat) (hy:y = .slice yb n yc) (Sr news:List Value)
  (hold:(Builtin.firstCells i.size nv (.slice b nv sy)).run P w.drew = .ok Sr.toArray w.drew) (lS:(Builtin.firstCells i.size n y).run P w.drew = .ok news.toArray w.drew)
  (hg:sy<nv+n) (vE:nv+n≤9223372036854775807) (hb:(nv+n)*i.bytes≤140737488355328) :
  (Builtin.append_ #[t,u] ty #[.slice b nv sy,y]).run P w = .ok (.slice (some ⟨w.heap.size,0,none⟩) (nv+n) (grownCap w (nv+n) sy e))
    (w.drew.alloc (.cells (Sr.toArray++news.toArray++Builtin.zeroCells zv.cells (grownCap w (nv+n) sy e-(nv+n))) e)):=by
 subst hy
 obtain⟨e',hu⟩:=hu
 have hn:¬ (nv+n≤sy):=by omega
 have Qa:¬ (9223372036854775807<((nv:Int)+(n:Int))):=by omega
 have Km:¬ (281474976710656<Builtin.nextslicecap (nv+n) sy*i.bytes):=by have:=growslice_fits hg hb;omega
 simp[Builtin.append_,run_underlying ht,run_underlying hu,sizeOf,typeInfo,zeroValue,hi,hz,Builtin.lenOf,hn,Qa,Km,Question.forced,newRow,grownCap,hold,lS]
 congr 2
 apply ea
 simp[aZ]
def afT{t u ty e:TypeId}{i:TypeInfo}(ht:P.underlying t=some (.slice e))(hu:∃ e',P.underlying u=some (.slice e'))(hi:P.info? e=some i)
  (b o:Nat) (nv sy:Nat) (y:Value) (yb:Option Addr) (n yc:Nat) (hy:y = .slice yb n yc) (news:List Value) (arr:Array Value) (hg:w.heap[b]? = some (.cells arr e (0,0)))
  (lS:(Builtin.firstCells i.size n y).run P w = .ok news.toArray w) (h1:∀ v∈news,v.oneCell'=true) (Ce:nv+n≤sy) (lH:o+nv*i.size+news.length≤arr.size) :
  (Builtin.append_ #[t,u] ty #[.slice (some ⟨b,o,none⟩) nv sy,y]).run P w = .ok (.slice (some ⟨b,o,none⟩) (nv+n) sy)
    (w.setRow b (arr.toList.take (o+nv*i.size)++news++arr.toList.drop (o+nv*i.size+news.length)).toArray):=by
 subst hy
 obtain⟨e',hu⟩:=hu
 have fm:=run_storeCells_at P b (o+nv*i.size) e news 0 arr w hg (by simpa using lH) h1
 simp only[bQ]at fm
 simp[Builtin.append_,run_underlying ht,run_underlying hu,sizeOf,typeInfo,hi,Builtin.lenOf,Ce,lS,Addr.add_lit,fm]
def G'{sz:Nat}{w':World}{yb:Option Addr}{yc n:Nat}{vs:List Value}(hl:vs.length=n*sz)(kC:yb=none→n=0)(hc:∀ ad,yb=some ad→∀ (j:Nat) (v:Value),vs[j]? = some v→w'.cell? (ad.add j)=some v) :
  (Builtin.firstCells sz n (.slice yb n yc)).run P w' = .ok vs.toArray w':=by
 cases yb with
 | none=>
  have:=kC rfl
  subst this
  have:vs = []:=aW (by simpa using hl)
  subst this
  exact run_firstCells_none w' sz 0 0 yc
 | some ad=>exact run_firstCells_some w' sz n ad n yc vs hl (hc ad rfl)
def P7(w:World)(o:Obj):jz w (w.drew.alloc o):=(jz.drew w).trans (jz.alloc _ _)
def aen(h:fr G c H w){al:Al}(gu:l5 H al){t u ty e:TypeId}{i:TypeInfo}{z:List D}(ht:P.underlying t=some (.slice e))(hu:∃ e',P.underlying u=some (.slice e'))(hi:P.info? e=some i)(hz:o9 P e=some z)(zW:z.length=i.size)(jQ:0<i.size)
  {x y:D} {ux uy:Value} (h1:eW c w ux x) (h2:eW c w uy y) (hk:A7 e i.size i.bytes x y H al K):∃ r w',(Builtin.append_ #[t,u] ty #[ux,uy]).run P w = .ok r w'∧iB G c H w K r w':=by
 obtain⟨zv,sk,HU,qE⟩:=wC hz w
 have zV:i.zero=some zv:=by simpa[hi]using HU
 have sj:zv.cells.size=i.size:=by have:=(qE c w).len;simp at this;omega
 unfold A7 at hk
 split at hk
 ·rename_i ys n po
  obtain⟨yb,yc,vs,oG,jF,kr,Re,Cn,Cl⟩:=M3 h jQ h2 po
  have iV:vs.length=n*i.size:=by rw[jF.len,kr]
  have lS:∀ w',(∀ b,w'.cell? b=w.cell? b)→(Builtin.firstCells i.size n uy).run P w' = .ok vs.toArray w':=fun w' oW=>by
   rw[oG];exact G' iV Cn (fun ad ha j v hj=>by rw[oW];exact Cl ad ha j v hj)
  split at hk
  ·rename_i v g fY off len
   split at hk
   ·rename_i t' cs gH
    have hv:=qP gH
    dsimp only at hv
    obtain⟨⟨rfl,Q4,hlen,nN,vE⟩,hk⟩:=hk
    have YF:=Q4.symm
    subst YF
    clear Q4
    have YJ:v<H.length:=(af.1 hv).1
    cases h1 with
    | eX _ _ _ _ _ cap L e9 gI ju ix lJ=>
     obtain⟨arr,uc,zB,Qh,Hr⟩:=uP h hv e9 gI
     have zL:Cells c w (((((arr.toList.drop L.base).take cs.length)).drop (off*i.size)).take (len*i.size)) ((cs.drop (off*i.size)).take (len*i.size)):=(Hr.drop _).take _
     rw[aT]at lJ hlen
     generalize off*i.size=q at *
     by_cases Ce:len+n≤cap
     ·have lH:L.base+q+len*i.size+vs.length≤arr.size:=by
       have hm:=bf i.size Ce
       rw[aT]at hm
       omega
      have gK:=afT (ty:=ty) ht hu hi L.b (L.base+q) len cap uy yb n yc oG vs arr uc (lS w fun _=>rfl) jF.one Ce lH
      refine⟨_,_,gK,?_⟩
      have gV:(arr.toList.take (L.base+q+len*i.size)++vs++arr.toList.drop (L.base+q+len*i.size+vs.length)).toArray.size=arr.size:=by simp;omega
      obtain⟨m1,m2⟩:=Mh (w':=w.setRow L.b (arr.toList.take (L.base+q+len*i.size)++vs++arr.toList.drop (L.base+q+len*i.size+vs.length)).toArray) h hv e9 ⟨L.b,L.base+q,L.top,false⟩ rfl
       ⟨⟨rfl,Nat.le_refl _⟩,rfl,rfl,by simp[World.setRow]⟩ (fun b _ hn=>by simp only[World.setRow,bk];rw[if_neg (fun e=>hn ⟨gI,e.symm⟩)])
       ⟨.inr ⟨gI,rfl⟩,by have:=h.lt _ ⟨v,L,⟨_,hv,rfl,e9⟩,gI,rfl⟩;simpa[World.setRow]using this⟩
       _ (setRow_heap w L.b arr _ _ _ uc) (by show L.top=_;rw[zB,gV]) ((cs.drop q).take (len*i.size)++ys) (by simp only[az,aI,aX];rw[← jF.len];omega) (fun j d hd=>by
        obtain⟨x,hx,oX,kD⟩:=(zL.append jF).get hd
        refine⟨x,?_,oX,kD⟩
        rw[← hx]
        simp only[cU]
        have ji:(List.take (L.base+q+len*i.size) arr.toList).length=L.base+q+len*i.size:=by simp;omega
        have iZ:(List.take (len*i.size) (List.drop q (List.take cs.length (List.drop L.base arr.toList)))).length=len*i.size:=by simp;omega
        by_cases c1:j<len*i.size
        ·rw[ag (by simp;omega),ag (by rw[ji];omega),ag (by rw[iZ];omega)]
         simp only[aC,aD]
         rw[if_pos (by omega),if_pos (by omega),if_pos (by omega)]
         congr 1;omega
        ·have mP:j<len*i.size+vs.length:=by have:=(af.1 hx).1;rw[az,iZ]at this;omega
         rw[ag (by rw[az,ji];omega),ao (by rw[ji];omega),ao (by rw[iZ];omega),ji,iZ]
         congr 1
         omega)
      refine⟨_,_,_,hk,m1,?_,m2⟩
      have:=eW.eX (c:=c.set v (g+1) ⟨L.b,L.base+q,L.top,false⟩) (w:=w.setRow L.b (arr.toList.take (L.base+q+len*i.size)++vs++arr.toList.drop (L.base+q+len*i.size+vs.length)).toArray) v (g+1) i.size 0 (len+n) cap ⟨L.b,L.base+q,L.top,false⟩ (Ctx.qR _ _ _ _) rfl Ce ix (by simp;omega)
      simpa using this
     ·have hold:(Builtin.firstCells i.size len (.slice (some ⟨L.b,L.base+q,none⟩) len cap)).run P w.drew = .ok ((((arr.toList.drop L.base).take cs.length).drop q).take (len*i.size)).toArray w.drew:=by
       refine run_firstCells_some _ _ _ _ _ _ _ (by rw[zL.len];simp;omega) (fun j v hj=>?_)
       rw[aC]at hj
       split at hj
       ·rw[aD,aC]at hj
        split at hj
        ·rw[aD]at hj
         rw[Addr.add_lit]
         show w.cell? ⟨L.b,L.base+q+j,none⟩=some v
         simp[World.cell?,uc]
         rw[a7]
         simpa using hj
        ·cases hj
       ·cases hj
      have gK:=IJ (ty:=ty) ht hu hi zV (some ⟨L.b,L.base+q,none⟩) len cap uy yb n yc oG _ vs hold (lS _ fun _=>rfl) (by omega) vE nN
      refine⟨_,_,gK,?_⟩
      have Ci:((((arr.toList.drop L.base).take cs.length).drop q).take (len*i.size)).toArray.size=len*i.size:=by have:=zL.len;simp at this ⊢;omega
      have rW:=grownCap_ge w (len+n) cap e
      have nf:=grownCap_le_maxLen w (len+n) cap e (by unfold maxLen;omega)
      obtain⟨m1,m2⟩:=Mh (w':=w.drew.alloc (.cells (((((arr.toList.drop L.base).take cs.length).drop q).take (len*i.size)).toArray++vs.toArray++Builtin.zeroCells zv.cells (grownCap w (len+n) cap e-(len+n))) e)) h hv e9
       ⟨w.heap.size,0,grownCap w (len+n) cap e*i.size,false⟩ rfl ⟨⟨rfl,Nat.le_succ _⟩,rfl,rfl,by simp⟩ (fun b hb _=>(P7 w _).kept b hb) ⟨.inl (Nat.le_refl _),by simp⟩
       _ (heap_alloc_new w.drew _) (by
        simp only[bU,Ci,cG,iV,size_zeroCells,sj,← aT]
        congr 1;omega) ((cs.drop q).take (len*i.size)++ys) (by
        simp only[az,aI,aX,kr,aR]
        have:=bf i.size rW
        rw[aT]at this
        omega) (fun j d hd=>by
        obtain⟨x,hx,oX,kD⟩:=(zL.append jF).get hd
        refine⟨x,?_,oX,kD⟩
        rw[← hx,aR,← bn]
        have gi:=(af.1 hx).1
        simp only[cN]
        rw[ag (by simpa using gi)])
      refine⟨_,_,_,hk,m1,?_,m2⟩
      have:=eW.eX (c:=c.set v (g+1) ⟨w.heap.size,0,grownCap w (len+n) cap e*i.size,false⟩) (w:=w.drew.alloc (.cells (((((arr.toList.drop L.base).take cs.length).drop q).take (len*i.size)).toArray++vs.toArray++Builtin.zeroCells zv.cells (grownCap w (len+n) cap e-(len+n))) e))
       v (g+1) i.size 0 (len+n) (grownCap w (len+n) cap e) ⟨w.heap.size,0,grownCap w (len+n) cap e*i.size,false⟩ (Ctx.qR _ _ _ _) rfl rW nf (by simp)
      simpa using this
    | lE _ _ _ _ L e9 ad=>
     simp only[aR,bQ,cu,dO,bO]at hk nN vE ⊢
     by_cases hn:n=0
     ·subst hn
      have LA:vs = []:=aW (by simpa using iV)
      have YV:ys = []:=aW (by simpa using kr)
      subst YV
      have gK:(Builtin.append_ #[t,u] ty #[.slice ad 0 0,uy]).run P w = .ok (.slice ad 0 0) w:=by
       obtain⟨e',hu⟩:=hu
       have xO:=lS w fun _=>rfl
       rw[LA]at xO
       rw[oG]at xO ⊢
       simp[Builtin.append_,run_underlying ht,run_underlying hu,sizeOf,typeInfo,hi,Builtin.lenOf,xO]
       cases ad<;>simp[storeCells]
      obtain⟨m1,m2⟩:=Vv h hv e9
      exact⟨_,_,gK,_,_,_,hk,m1,.lE v (g+1) i.size 0 L (Ctx.qR _ _ _ _) ad,m2⟩
     ·have hold:(Builtin.firstCells i.size 0 (.slice ad 0 0)).run P w.drew = .ok ([]:List Value).toArray w.drew:=G' (by simp) (fun _=>rfl) (fun _ _ j v hj=>by simp at hj)
      have gK:=IJ (w:=w) (ty:=ty) ht hu hi zV ad 0 0 uy yb n yc oG [] vs hold (lS _ fun _=>rfl) (by omega) (by omega) (by simpa using nN)
      simp only[aR]at gK
      refine⟨_,_,gK,?_⟩
      have rW:=grownCap_ge w n 0 e
      have nf:=grownCap_le_maxLen w n 0 e (by unfold maxLen;omega)
      obtain⟨m1,m2⟩:=Mh (w':=w.drew.alloc (.cells (([]:List Value).toArray++vs.toArray++Builtin.zeroCells zv.cells (grownCap w n 0 e-n)) e)) h hv e9
       ⟨w.heap.size,0,grownCap w n 0 e*i.size,false⟩ rfl ⟨⟨rfl,Nat.le_succ _⟩,rfl,rfl,by simp⟩ (fun b hb _=>(P7 w _).kept b hb) ⟨.inl (Nat.le_refl _),by simp⟩
       _ (heap_alloc_new w.drew _) (by
        simp only[bU,cG,cO,iV,size_zeroCells,sj,aR,← aT]
        congr 1;omega) ys (by
        simp only[kr,aR]
        exact bf i.size rW) (fun j d hd=>by
        obtain⟨x,hx,oX,kD⟩:=jF.get hd
        refine⟨x,?_,oX,kD⟩
        rw[← hx,aR,← bn]
        have gi:=(af.1 hx).1
        simp only[cN,bO]
        rw[ag (by simpa using gi)])
      refine⟨_,_,_,hk,m1,?_,m2⟩
      have:=eW.eX (c:=c.set v (g+1) ⟨w.heap.size,0,grownCap w n 0 e*i.size,false⟩) (w:=w.drew.alloc (.cells (([]:List Value).toArray++vs.toArray++Builtin.zeroCells zv.cells (grownCap w n 0 e-n)) e))
       v (g+1) i.size 0 n (grownCap w n 0 e) ⟨w.heap.size,0,grownCap w n 0 e*i.size,false⟩ (Ctx.qR _ _ _ _) rfl rW nf (by simp)
      simpa using this
   ·exact hk.elim
  ·rename_i us
   obtain⟨⟨hn,Ci,nN,vE⟩,hk⟩:=hk
   cases h1 with
   | lA ad _ ix kC hc=>
    have zL:Cells c w us (us.map .val):=⟨by simp,fun v hv=>by
     obtain⟨i,hi⟩:=List.getElem?_of_mem hv
     obtain⟨_,_,_,_,_,h1⟩:=hc i v hi
     exact h1,fun i v d hv hd=>by
     simp only[aq,hv,aH,ak]at hd
     subst hd
     exact .val _⟩
    have hold:(Builtin.firstCells i.size us.length (.slice ad us.length us.length)).run P w.drew = .ok us.toArray w.drew:=G' (by rw[Ci];simp) (fun e=>by rw[kC e];rfl) (fun b hb j v hj=>by
     obtain⟨b',o,ha,_,mO,_⟩:=hc j v hj
     rw[ha]at hb
     cases hb
     rw[Addr.add_lit]
     exact mO)
    have gK:=IJ (w:=w) (ty:=ty) ht hu hi zV ad us.length us.length uy yb n yc oG us vs hold (lS _ fun _=>rfl) (by omega) vE nN
    refine⟨_,_,gK,?_⟩
    have rW:=grownCap_ge w (us.length+n) us.length e
    have nf:=grownCap_le_maxLen w (us.length+n) us.length e (by unfold maxLen;omega)
    have gV:(us.toArray++vs.toArray++Builtin.zeroCells zv.cells (grownCap w (us.length+n) us.length e-(us.length+n))).size=grownCap w (us.length+n) us.length e*i.size:=by
     simp only[bU,cG,iV,size_zeroCells,sj,Ci,cI]
     omega
    obtain⟨L,e1,e2,e3,e4,e5,e6⟩:=Ab h w.drew (jz.drew w) e (us++vs) (us.map .val++ys) (us++vs).length (us.toArray++vs.toArray++Builtin.zeroCells zv.cells (grownCap w (us.length+n) us.length e-(us.length+n))) (gu _).qU (zL.append jF) (by
     simp only[cN]
     exact List.take_left) (by simp only[bU,cG,az];omega)
    have hp:=CU (c:=c) (w:=w.drew.alloc (.cells (us.toArray++vs.toArray++Builtin.zeroCells zv.cells (grownCap w (us.length+n) us.length e-(us.length+n))) e)) e1 e3 al.1 0 i.size (us.length+n) (grownCap w (us.length+n) us.length e) (by rw[e4,gV]) rW nf
    rw[e2]at hp
    exact⟨_,_,_,hk,e5,hp,e6⟩
  ·cases h1 with
   | eU=>
    by_cases hn:n=0
    ·rw[if_pos hn]at hk
     subst hn
     have LA:vs = []:=aW (by simpa using iV)
     have gK:(Builtin.append_ #[t,u] ty #[.slice none 0 0,uy]).run P w = .ok (.slice none 0 0) w:=by
      obtain⟨e',hu⟩:=hu
      have xO:=lS w fun _=>rfl
      rw[LA]at xO
      rw[oG]at xO ⊢
      simp[Builtin.append_,run_underlying ht,run_underlying hu,sizeOf,typeInfo,hi,Builtin.lenOf,xO]
     exact⟨_,_,gK,.plain h hk .eU⟩
    ·rw[if_neg hn]at hk
     obtain⟨⟨nN,vE⟩,hk⟩:=hk
     have hold:(Builtin.firstCells i.size 0 (.slice none 0 0)).run P w.drew = .ok ([]:List Value).toArray w.drew:=G' (by simp) (fun _=>rfl) (fun _ _ j v hj=>by simp at hj)
     have gK:=IJ (w:=w) (ty:=ty) ht hu hi zV none 0 0 uy yb n yc oG [] vs hold (lS _ fun _=>rfl) (by omega) (by omega) (by simpa using nN)
     simp only[aR]at gK
     refine⟨_,_,gK,?_⟩
     have rW:=grownCap_ge w n 0 e
     have nf:=grownCap_le_maxLen w n 0 e (by unfold maxLen;omega)
     have gV:(([]:List Value).toArray++vs.toArray++Builtin.zeroCells zv.cells (grownCap w n 0 e-n)).size=grownCap w n 0 e*i.size:=by
      simp only[bU,cG,cO,iV,size_zeroCells,sj,aR,← aT]
      congr 1;omega
     obtain⟨L,e1,e2,e3,e4,e5,e6⟩:=Ab h w.drew (jz.drew w) e vs ys vs.length (([]:List Value).toArray++vs.toArray++Builtin.zeroCells zv.cells (grownCap w n 0 e-n)) (gu _).qU jF (by
      simp only[cN,bO]
      exact List.take_left) (by simp only[bU,cG];omega)
     have hp:=CU (c:=c) (w:=w.drew.alloc (.cells (([]:List Value).toArray++vs.toArray++Builtin.zeroCells zv.cells (grownCap w n 0 e-n)) e)) e1 e3 al.1 0 i.size n (grownCap w n 0 e) (by rw[e4,gV]) rW nf
     rw[e2]at hp
     exact⟨_,_,_,hk,e5,hp,e6⟩
  ·exact hk.elim
 ·exact hk.elim
def aey(h:fr G c H w){t u ty e:TypeId}{sz:Nat}(ht:P.underlying t=some (.slice e))(hs:jE P e=some sz)(jQ:0<sz){x y:D}{ux uy:Value}(h1:eW c w ux x)(h2:eW c w uy y)(hk:Bq sz x y H K) :
  ∃ r w',(Builtin.copy_ #[t,u] ty #[ux,uy]).run P w = .ok r w'∧iB G c H w K r w':=by
 have key:∀ (ys:List D) (n:Nat),j' sz H y=some (ys,n)→∃ vs yb yc,uy = .slice yb n yc∧Cells c w vs ys∧ys.length=n*sz∧∀ m,m≤n→(Builtin.firstCells sz m uy).run P w = .ok (vs.take (m*sz)).toArray w:=by
  intro ys n po
  obtain⟨yb,yc,vs,oG,jF,kr,Re,Cn,Cl⟩:=M3 h jQ h2 po
  refine⟨vs,yb,yc,oG,jF,kr,fun m hm=>?_⟩
  have iV:vs.length=n*sz:=by rw[jF.len,kr]
  have hle:=bf sz hm
  rw[oG]
  cases yb with
  | none=>
   have:=Cn rfl
   subst this
   have:m=0:=by omega
   subst this
   simp[Builtin.firstCells]
  | some ad=>
   refine run_firstCells_some w sz m ad n yc _ (by simp;omega) (fun j v hj=>?_)
   rw[aC]at hj
   split at hj
   ·exact Cl ad rfl j v hj
   ·cases hj
 unfold Bq at hk
 split at hk
 ·rename_i v g fY off len ys n po
  obtain⟨vs,yb,yc,oG,jF,kr,KQ⟩:=key ys n po
  split at hk
  ·rename_i t' cs gH
   have hv:=qP gH
   dsimp only at hv
   obtain⟨⟨rfl,lH⟩,hk⟩:=hk
   have hf:=KQ (min n len) (Nat.min_le_left _ _)
   have hle:min n len*fY≤vs.length:=by rw[jF.len,kr];exact bf _ (Nat.min_le_left _ _)
   have al5:min n len*fY≤len*fY:=bf _ (Nat.min_le_right _ _)
   rw[aT]at lH
   cases h1 with
   | eX _ _ _ _ _ cap L e9 gI ju ix lJ=>
    obtain⟨arr,uc,zB,Qh,Hr⟩:=uP h hv e9 gI
    have fm:=run_storeCells_at P L.b (L.base+off*fY) t' (vs.take (min n len*fY)) 0 arr w uc (by simp;omega) (fun v hv=>jF.one v (aN hv))
    simp only[bQ]at fm
    have gK:(Builtin.copy_ #[t,u] ty #[.slice (some ⟨L.b,L.base+off*fY,none⟩) len cap,uy]).run P w = .ok (goInt (min n len:Nat)) (w.setRow L.b (arr.toList.take (L.base+off*fY)++vs.take (min n len*fY)++arr.toList.drop (L.base+off*fY+(vs.take (min n len*fY)).length)).toArray):=by
     rw[oG]at hf ⊢
     have hm:n.min len=min n len:=rfl
     simp[Builtin.copy_,run_underlying ht,Builtin.lenOf,o6 hs,hm,hf,fm]
    have iV:(vs.take (min n len*fY)).length=min n len*fY:=by simp;omega
    have Qn:=Hr.pQ (jF.take (min n len*fY)) (off*fY)
    have YS:(ys.take (min n len*fY)).length=min n len*fY:=by rw[aI,← jF.len];omega
    obtain⟨m1,m2⟩:=DB h hv e9 gI uc (arr.toList.take (L.base+off*fY)++vs.take (min n len*fY)++arr.toList.drop (L.base+off*fY+(vs.take (min n len*fY)).length)).toArray (by simp;omega) zB
     (cs.take (off*fY)++ys.take (min n len*fY)++cs.drop (off*fY+min n len*fY)) (by simp only[az,aI,aX];omega) (fun j d hd=>by
      rw[YS,iV]at Qn
      obtain⟨x,hx,oX,kD⟩:=Qn.get hd
      refine⟨x,?_,oX,kD⟩
      rw[← hx]
      simp only[cU,iV]
      have ji:(List.take (L.base+off*fY) arr.toList).length=L.base+off*fY:=by simp;omega
      have iZ:(List.take (off*fY) (List.take cs.length (List.drop L.base arr.toList))).length=off*fY:=by simp;omega
      by_cases c1:j<off*fY
      ·rw[ag (by simp;omega),ag (by rw[ji];omega),ag (by simp;omega),ag (by rw[iZ];omega)]
       simp only[aC,aD]
       rw[if_pos (by omega),if_pos c1,if_pos (by omega)]
      ·by_cases c2:j<off*fY+min n len*fY
       ·rw[ag (by rw[az,ji,iV];omega),ao (by rw[ji];omega),ag (by rw[az,iZ,iV];omega),ao (by rw[iZ];omega),ji,iZ]
        congr 1
        omega
       ·have nR:j<cs.length:=by have:=(af.1 hd).1;simp at this;omega
        rw[ao (by rw[az,ji,iV];omega),ao (by rw[az,iZ,iV];omega)]
        simp only[aD,aC,az,ji,iZ,iV]
        rw[if_pos (by omega)]
        congr 1
        omega)
    exact⟨_,_,gK,_,_,c,hk,m1,.val _,m2⟩
   | lE _ _ _ _ L e9 ad=>
    have B3:min n 0=0:=eQ n
    simp only[B3,cu,dO,aA,bQ,bI]at hk hf
    have sf:H.set v (.row t' g cs)=H:=by
     apply bM
     intro j
     rw[bA]
     have iV:v<H.length:=(af.1 hv).1
     split
     ·rename_i e
      subst e
      first|(rw[if_pos iV];exact hv.symm)|exact hv.symm
     ·rfl
    rw[sf]at hk
    refine⟨goInt 0,w,?_,.plain h hk (.val _)⟩
    rw[oG]at hf ⊢
    have hm:n.min 0=0:=eQ n
    simp[Builtin.copy_,run_underlying ht,Builtin.lenOf,o6 hs,hm,hf]
    cases ad<;>simp[storeCells]
  ·exact hk.elim
 ·rename_i q po
  obtain⟨ys,n⟩:=q
  obtain⟨vs,yb,yc,oG,jF,kr,KQ⟩:=key ys n po
  cases h1 with
  | eU=>
   have hf:=KQ 0 (Nat.zero_le _)
   refine⟨goInt 0,w,?_,.plain h hk (.val _)⟩
   rw[oG]at hf ⊢
   have hm:n.min 0=0:=eQ n
   simp only[cu,dO]at hf
   simp[Builtin.copy_,run_underlying ht,Builtin.lenOf,o6 hs,hm,hf]
 ·exact hk.elim

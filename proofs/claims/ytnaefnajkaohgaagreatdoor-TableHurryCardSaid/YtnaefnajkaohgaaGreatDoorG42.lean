/- Part 42 of TableHurry. -/
import Derived.Test.YtnaefnajkaohgaaGreatDoorG41
import Derived.Test.YtnaefnajkaohgaaGreatDoorG40
import Derived.Test.YtnaefnajkaohgaaGreatDoorG25
import Derived.Test.YtnaefnajkaohgaaGreatDoorG29
import Derived.Test.YtnaefnajkaohgaaGreatDoorG21
set_option linter.all false
namespace Go.Proofs.YtnaefnajkaohgaaGreatDoor
open Go Go.AL Classical
set_option maxRecDepth 10000
set_option maxHeartbeats 4000000
theorem QC{α:Type}[Inhabited α]{l:List α}{x:α}{n:Int}(h:n.toNat=l.length):gt (l ++ [x]) n=x:=by
 unfold gt
 rw[List.getD_eq_getElem?_getD,aj (by omega),h,Nat.sub_self]
 rfl
theorem P8(g:ey)(hg:eW g)(l:List Pos)(hl:kF g l)(fJ:0<l.length):Wf T 38 [dG g,fh l,.sl 1 ((eQ g l).map fI)] [] (Ey ft fun r=>r.length=l.length∧∀ k:Int,0≤k→k<l.length→lI (mX g l (eQ g l)) r k):=by
 have hlen:=hl.len
 have Lx:(eQ g l).length=l.length:=by simp[eQ]
 refine Yg BI ?_
 simp[BI]
 refine Yn (Qb g hg l hl) ?_
 simp
 have Lo:(l.map (nH g)).length=l.length:=by simp
 have eJ:=KI.start hl
 generalize Mb:l.map (nH g)=v0 at *
 refine eF.e ((1,true,l.length,v0):Int×Bool×Nat×List Kn) (fun y=>[(1,fh l),(2,.sl 1 ((eQ g l).map fI)),(7,.eu (if y.2.1 then 1 else 2) y.2.2.1 3 0 l.length),(8,.i y.1)]) (fun y=>.row 41 0 g.cells :: .row 134 l.length (cl fK v0)::(if y.2.1 then []else [.row 134 y.2.2.1 (cl fK y.2.2.2)])) (fun y=>1≤y.1∧y.1≤l.length+1∧KI g l y.1 y.2.2.2∧(y.2.1=true→y.2.2.1=l.length∧y.2.2.2=v0∧y.1=1)) (fun y=>l.length+1-y.1.toNat) ?_ ?_
 ·exact⟨by simp,by simp;omega,eJ,fun _=>⟨rfl,rfl,rfl⟩⟩
 rintro⟨n,b,gn,v⟩ ⟨n0,n1,hK,n3⟩
 dsimp only at n0 n1 hK n3 ⊢
 have n2:=hK.len
 have LS:∀ i:Int,0≤i→i<l.length→∀ k∈gt (eQ g l) i,0≤k∧k<v.length:=fun i a c k hk=>by
  have:=(lT hl a c).2 k hk;omega
 have gC:∀ i:Int,0≤i→i<l.length→(gt (eQ g l) i).length<2 ^ 40:=fun i a c=>by
  rw[(lT hl a c).1,List.length_map]
  have:=s6 hg (hl.ok _ (eH a c));omega
 have oi:∀ i:Int,0≤i→i<l.length→∀ k∈gt (eQ g l) i,(gt v k).2.2=true→0≤(gt v k).2.1:=fun i a c k hk e=>hK.nn ((lT hl a c).2 k hk).1 ((lT hl a c).2 k hk).2 e
 have Lw:∀ i:Int,0≤i→i<l.length→(gt v i).2.2=false→0<(gt (eQ g l) i).length:=fun i a c e=>aB.2 (hK.ne hl (by omega) a c e)
 cases b
 ·simp
  (with_reducible repeat' first|refine Xk ?_<;>try simp|refine Xs ?_ ?_<;>intro h<;>(try intro h')<;>(try simp[h])<;>(try omega)|refine Xg ?_|omega)
  ·refine eF.e ((0,v):Int×List Kn) (fun y=>[(1,fh l),(2,.sl 1 ((eQ g l).map fI)),(7,.eu 2 gn 3 0 l.length),(8,.i n),(9,.eu 3 1 3 0 l.length),(10,.i y.1)]) (fun y=>[.row 41 0 g.cells,.row 134 l.length (cl fK v0),.row 134 gn (cl fK v),.row 134 1 (cl fK y.2)]) (fun y=>0≤y.1∧y.1≤l.length∧y.2.length=l.length∧∀ k:Int,0≤k→k<l.length→gt y.2 k=if k<y.1∧(gt v k).2.2=false then lK v (gt (eQ g l) k) n else gt v k) (fun y=>l.length-y.1.toNat) ?_ ?_
   ·exact⟨by simp,by simp,n2,fun k k0 k1=>by rw[if_neg (by dsimp only;omega)]⟩
   rintro⟨j,now⟩ ⟨j0,j1,j2,j3⟩
   dsimp only at j0 j1 j2 j3 ⊢
   simp
   (with_reducible repeat' first|refine Xk ?_<;>try simp|refine Xs ?_ ?_<;>intro h<;>(try intro h')<;>(try simp[h])<;>(try omega)|refine Xg ?_|omega)
   ·refine LJ.e (j+1,now) ?_
    refine⟨by dsimp only;omega,by dsimp only;omega,by dsimp only;omega,j2,fun k k0 k1=>?_⟩
    dsimp only
    rw[j3 k k0 k1]
    by_cases e:k=j
    ·subst e
     rw[if_neg (by omega),if_neg (by simp[*])]
    ·simp only[show k<j+1↔k<j by omega]
   ·refine eU.r rfl rfl (Kz v _ n (by omega) (Lw j j0 ‹_› ‹_›) (gC j j0 ‹_›) (LS j j0 ‹_›) (oi j j0 ‹_›)) (by simp[n2]) (by simp[flat,qh]) (by simp) ?_
    simp
    (with_reducible repeat' first|refine Xk ?_<;>try simp|refine Xs ?_ ?_<;>intro h<;>(try intro h')<;>(try simp[h])<;>(try omega)|refine Xg ?_|omega)
    have pA:=CE (f:=fK) now j (by omega) (lK v (gt (eQ g l) j) n)
    rw[vD]at pA
    refine LJ.i (j+1,pt now j (lK v (gt (eQ g l) j) n)) (by first|rfl|simp[← pA]) (by first|rfl|simp[← pA]) rfl rfl ?_
    have hp:=ga (l:=now) (n:=j) (v:=lK v (gt (eQ g l) j) n) j0 (by omega)
    refine⟨by dsimp only;omega,by dsimp only;omega,by dsimp only;omega,by dsimp only;omega,fun k k0 k1=>?_⟩
    dsimp only
    rw[n4 j0 (by omega) k0,j3 k k0 k1]
    by_cases e:k=j
    ·subst e
     rw[if_pos rfl,if_pos ⟨by omega,‹_›⟩]
    ·rw[if_neg e]
     simp only[show k<j+1↔k<j by omega]
   ·refine LJ.e (n+1,false,1,now) ?_
    refine⟨by dsimp only;omega,by dsimp only;omega,by dsimp only;omega,?_,fun h=>by cases h⟩
    refine hK.step hg hl n0 j2 fun k k0 k1=>?_
    rw[j3 k k0 k1]
    simp only[show k<j by omega,true_and]
  ·have RZ:n=l.length+1:=by omega
   subst RZ
   refine eF.e ((0,v,[]):Int×List Kn×List eI) (fun y=>[(1,fh l),(7,.eu 2 gn 3 0 l.length),(11,.eu 3 y.2.2.length 2 0 y.2.2.length),(12,.i y.1)]) (fun y=>[.row 41 0 g.cells,.row 134 l.length (cl fK v0),.row 134 gn (cl fK y.2.1),.row 58 y.2.2.length (cl fS y.2.2)]) (fun y=>0≤y.1∧y.1≤l.length∧y.2.1.length=l.length∧y.2.2.length=y.1.toNat∧(∀ k:Int,0≤k→k<y.1→gt y.2.2 k=if (gt v k).2.2=true then((gt v k).1,(gt v k).2.1)else(2,0))∧(∀ k:Int,y.1≤k→k<l.length→gt y.2.1 k=gt v k)) (fun y=>l.length-y.1.toNat) ?_ ?_
   ·exact⟨by simp,by simp,n2,by simp,fun k k0 k1=>by dsimp only at k1;omega,fun k k0 k1=>rfl⟩
   rintro⟨j,w,out⟩ ⟨j0,j1,j2,j3,j4,j5⟩
   dsimp only at j0 j1 j2 j3 j4 j5 ⊢
   by_cases hj:j<l.length
   ·have pA:=O4 (l:=w) (n:=j) (by omega) 2 0
    have gL:∀ v,(pt w j v).length=w.length:=fun v=>ga j0 (by omega)
    have om:∀ v,gt (pt w j v) j=v:=fun v=>vH j0 (by omega)
    have Md:=j5 j (by omega) hj
    have np:∀ (x:eI),((gt v j).2.2=true→x=((gt v j).1,(gt v j).2.1))→((gt v j).2.2=false→x=(2,0))→∀ k:Int,0≤k→k<j+1→gt (out ++ [x]) k=if (gt v k).2.2=true then((gt v k).1,(gt v k).2.1)else(2,0):=fun x x1 x2 k k0 k1=>by
     by_cases e:k=j
     ·subst e
      rw[QC (by omega)]
      by_cases e2:(gt v k).2.2=true
      ·rw[if_pos e2];exact x1 e2
      ·rw[if_neg e2];exact x2 (by simpa using e2)
     ·rw[KV (by omega) (by omega)];exact j4 k k0 (by omega)
    simp[hj,pA]
    (with_reducible repeat' first|refine Xk ?_<;>try simp[pA,gL,om]|refine Xs ?_ ?_<;>intro h<;>(try intro h')<;>(try simp[h,pA,gL,om])<;>(try omega)|refine Xg ?_|omega)
    ·refine LJ.e (j+1,w,out ++ [((gt w j).1,(gt w j).2.1)]) ?_
     rw[Md]at *
     refine⟨by dsimp only;omega,by dsimp only;omega,by dsimp only;omega,by dsimp only;omega,by simp;omega,np _ (fun _=>rfl) (fun e=>by simp[*]at e),fun k k0 k1=>j5 k (by dsimp only at k0;omega) k1⟩
    ·refine LJ.e (j+1,pt w j (2,0,false),out ++ [(2,0)]) ?_
     rw[Md]at *
     refine⟨by dsimp only;omega,by dsimp only;omega,by dsimp only;omega,by dsimp only;rw[gL];omega,by simp;omega,np _ (fun e=>by simp[*]at e) (fun _=>rfl),fun k k0 k1=>?_⟩
     dsimp only at k0 ⊢
     rw[n4 j0 (by omega) (by omega),if_neg (by omega)]
     exact j5 k (by omega) k1
   ·simp[hj]
    exact Ey.i out rfl rfl ⟨by omega,hK.done hg hl (by omega) fun k k0 k1=>j4 k k0 (by omega)⟩
 ·obtain⟨rfl,rfl,rfl⟩:=n3 rfl
  simp
  (with_reducible repeat' first|refine Xk ?_<;>try simp|refine Xs ?_ ?_<;>intro h<;>(try intro h')<;>(try simp[h])<;>(try omega)|refine Xg ?_|omega)
  ·refine eF.e ((0,v):Int×List Kn) (fun y=>[(1,fh l),(2,.sl 1 ((eQ g l).map fI)),(7,.eu 1 l.length 3 0 l.length),(8,.i 1),(9,.eu 2 1 3 0 l.length),(10,.i y.1)]) (fun y=>[.row 41 0 g.cells,.row 134 l.length (cl fK v),.row 134 1 (cl fK y.2)]) (fun y=>0≤y.1∧y.1≤l.length∧y.2.length=l.length∧∀ k:Int,0≤k→k<l.length→gt y.2 k=if k<y.1∧(gt v k).2.2=false then lK v (gt (eQ g l) k) 1 else gt v k) (fun y=>l.length-y.1.toNat) ?_ ?_
   ·exact⟨by simp,by simp,n2,fun k k0 k1=>by rw[if_neg (by dsimp only;omega)]⟩
   rintro⟨j,now⟩ ⟨j0,j1,j2,j3⟩
   dsimp only at j0 j1 j2 j3 ⊢
   simp
   (with_reducible repeat' first|refine Xk ?_<;>try simp|refine Xs ?_ ?_<;>intro h<;>(try intro h')<;>(try simp[h])<;>(try omega)|refine Xg ?_|omega)
   ·refine LJ.e (j+1,now) ?_
    refine⟨by dsimp only;omega,by dsimp only;omega,by dsimp only;omega,j2,fun k k0 k1=>?_⟩
    dsimp only
    rw[j3 k k0 k1]
    by_cases e:k=j
    ·subst e
     rw[if_neg (by omega),if_neg (by simp[*])]
    ·simp only[show k<j+1↔k<j by omega]
   ·refine eU.r rfl rfl (Kz v _ 1 (by omega) (Lw j j0 ‹_› ‹_›) (gC j j0 ‹_›) (LS j j0 ‹_›) (oi j j0 ‹_›)) (by simp[n2]) (by simp[flat,qh]) (by simp) ?_
    simp
    (with_reducible repeat' first|refine Xk ?_<;>try simp|refine Xs ?_ ?_<;>intro h<;>(try intro h')<;>(try simp[h])<;>(try omega)|refine Xg ?_|omega)
    have pA:=CE (f:=fK) now j (by omega) (lK v (gt (eQ g l) j) 1)
    rw[vD]at pA
    refine LJ.i (j+1,pt now j (lK v (gt (eQ g l) j) 1)) (by first|rfl|simp[← pA]) (by first|rfl|simp[← pA]) rfl rfl ?_
    have hp:=ga (l:=now) (n:=j) (v:=lK v (gt (eQ g l) j) 1) j0 (by omega)
    refine⟨by dsimp only;omega,by dsimp only;omega,by dsimp only;omega,by dsimp only;omega,fun k k0 k1=>?_⟩
    dsimp only
    rw[n4 j0 (by omega) k0,j3 k k0 k1]
    by_cases e:k=j
    ·subst e
     rw[if_pos rfl,if_pos ⟨by omega,‹_›⟩]
    ·rw[if_neg e]
     simp only[show k<j+1↔k<j by omega]
   ·refine LJ.e (1+1,false,1,now) ?_
    refine⟨by dsimp only;omega,by dsimp only;omega,by dsimp only;omega,?_,fun h=>by cases h⟩
    refine hK.step hg hl (by omega) j2 fun k k0 k1=>?_
    rw[j3 k k0 k1]
    simp only[show k<j by omega,true_and]
theorem P1(g:ey)(hg:eW g)(l:List Pos)(hl:kF g l)(fJ:0<l.length):Wf T 14 [dG g,fh l] [] (Ey (fun x:List eI×List Int=>.agg [ft x.1,dI x.2,.i 0]) fun x=>x.1.length=l.length∧∀ k:Int,0≤k→k<l.length→lI (mX g l (eQ g l)) x.1 k):=by
 refine Yg AA ?_
 simp[AA]
 refine Yc (f37 g hg l hl) ?_
 simp
 refine Yq (P8 g hg l hl fJ) fun v hv=>?_
 simp
 refine Yq (f39 g hg l hl v hv.1) fun f hf=>?_
 simp
 exact Ey.i (v,f) rfl rfl hv
end Go.Proofs.YtnaefnajkaohgaaGreatDoor
namespace Go.Proofs.YtnaefnajkaohgaaGreatDoor
open Go Go.AL Classical
noncomputable def jw(m:List Int)(l:List Pos)(out:List Int)(i q:Int):Int:=if ow m (gt l q)<ow m (gt l i)then 0 else gt out q
def im(v:List eI)(o:Int)(r:Int→Int)(x:List Int):Nat→Int
 | 0 => -1
 | j+1=>if o=3 then max (im v o r x j) (r (gt x (j:Int)))else if (gt v (gt x (j:Int))).1=3∧(im v o r x j<0∨r (gt x (j:Int))<im v o r x j)then r (gt x (j:Int))else im v o r x j
def o6(v:List eI)(o:Int)(r:Int→Int)(x:List Int):Int:=im v o r x x.length+1
section
variable{v:List eI}{o:Int}{r r':Int→Int}{x:List Int}
theorem ze(ho:o=3):∀ n:Nat,-1≤im v o r x n∧(∀ j:Nat,j<n→r (gt x (j:Int))≤im v o r x n)∧(im v o r x n = -1∨∃ j:Nat,j<n∧im v o r x n=r (gt x (j:Int)))
 | 0=>⟨by simp[im],fun j hj=>by omega,.inl rfl⟩
 | n+1=>by
  obtain⟨a,b,c⟩:=ze ho n
  have e:im v o r x (n+1)=max (im v o r x n) (r (gt x (n:Int))):=by rw[im,if_pos ho]
  rw[e]
  refine⟨by omega,fun j hj=>?_,?_⟩
  ·by_cases ej:j=n
   ·subst ej;omega
   ·have:=b j (by omega);omega
  ·by_cases h:im v o r x n≤r (gt x (n:Int))
   ·exact .inr ⟨n,by omega,by omega⟩
   ·rcases c with c|⟨j,hj,c⟩
    ·left;omega
    ·exact .inr ⟨j,by omega,by omega⟩
theorem zf(ho:o≠3)(hr:∀ j:Nat,j<x.length→0≤r (gt x (j:Int))):∀ n:Nat,n≤x.length→-1≤im v o r x n∧(∀ j:Nat,j<n→(gt v (gt x (j:Int))).1=3→0≤im v o r x n∧im v o r x n≤r (gt x (j:Int)))∧(im v o r x n = -1∨∃ j:Nat,j<n∧(gt v (gt x (j:Int))).1=3∧im v o r x n=r (gt x (j:Int)))
 | 0,_=>⟨by simp[im],fun j hj=>by omega,.inl rfl⟩
 | n+1,hn=>by
  obtain⟨a,b,c⟩:=zf ho hr n (by omega)
  have h0:=hr n (by omega)
  rw[im,if_neg ho]
  split
  ·rename_i h
   refine⟨by omega,fun j hj h3=>?_,.inr ⟨n,by omega,h.1,rfl⟩⟩
   by_cases ej:j=n
   ·subst ej;omega
   ·have:=b j (by omega) h3;omega
  ·rename_i h
   refine⟨a,fun j hj h3=>?_,?_⟩
   ·by_cases ej:j=n
    ·subst ej
     have h4:¬ (im v o r x j<0∨r (gt x (j:Int))<im v o r x j):=fun h5=>h ⟨h3,h5⟩
     omega
    ·exact b j (by omega) h3
   ·rcases c with c|⟨j,hj,c1,c⟩
    ·exact .inl c
    ·exact .inr ⟨j,by omega,c1,c⟩
theorem Um(hr:∀ k∈x,0≤r k):0≤o6 v o r x:=by
 have jd:∀ j:Nat,j<x.length→0≤r (gt x (j:Int)):=fun j hj=>hr _ (eH (by omega) (by omega))
 unfold o6
 by_cases ho:o=3
 ·have:=(ze (v:=v) (r:=r) (x:=x) ho x.length).1;omega
 ·have:=(zf (v:=v) ho jd x.length (Nat.le_refl _)).1;omega
theorem MX(hr:∀ k∈x,0≤r k)(h:∀ k∈x,r k≤r' k):o6 v o r x≤o6 v o r' x:=by
 have jd:∀ j:Nat,j<x.length→0≤r (gt x (j:Int)):=fun j hj=>hr _ (eH (by omega) (by omega))
 have hh:∀ j:Nat,j<x.length→r (gt x (j:Int))≤r' (gt x (j:Int)):=fun j hj=>h _ (eH (by omega) (by omega))
 unfold o6
 by_cases ho:o=3
 ·obtain⟨a,b,c⟩:=ze (v:=v) (r:=r) (x:=x) ho x.length
  obtain⟨a',b',_⟩:=ze (v:=v) (r:=r') (x:=x) ho x.length
  rcases c with c|⟨j,hj,c⟩
  ·omega
  ·have:=hh j hj;have:=b' j hj;omega
 ·obtain⟨a,b,c⟩:=zf (v:=v) ho jd x.length (Nat.le_refl _)
  obtain⟨a',b',c'⟩:=zf (v:=v) (r:=r') ho (fun j hj=>cQ (jd j hj) (hh j hj)) x.length (Nat.le_refl _)
  rcases c with c|⟨j,hj,h3,c⟩
  ·omega
  ·have h1:=b' j hj h3
   rcases c' with c'|⟨q,hq,q3,c'⟩
   ·omega
   ·have:=b q hq q3;have:=hh q hq;omega
end
def Act(v:List eI)(i:Int):Prop:=(gt v i).1≠2∧(gt v i).2≠0
section
variable{g:ey}{l:List Pos}{m:List Int}{v:List eI}{out:List Int}
noncomputable def kO(g:ey)(l:List Pos)(m:List Int)(v:List eI)(out:List Int)(i:Int):Int:=o6 v (gt v i).1 (jw m l out i) (gt (eQ g l) i)
def ZW(g:ey)(l:List Pos)(m:List Int)(v:List eI)(w:List Int):Prop:=∀ i:Int,0≤i→i<l.length→0≤gt w i∧(Act v i→kO g l m v w i≤gt w i)
structure ZI(g:ey)(l:List Pos)(m:List Int)(v:List eI)(out:List Int):Prop where
 len:out.length=l.length
 lo:∀ i:Int,0≤i→i<l.length→0≤gt out i∧gt out i≤(gt v i).2
 na:∀ i:Int,0≤i→i<l.length→¬ Act v i→gt out i=0
 pre:∀ i:Int,0≤i→i<l.length→Act v i→gt out i≤kO g l m v out i
 le:∀ w,ZW g l m v w→∀ i:Int,0≤i→i<l.length→gt out i≤gt w i
theorem Ib(h:ZI g l m v out){i:Int}{x:List Int}(hx:∀ k∈x,0≤k∧k<l.length):∀ k∈x,0≤jw m l out i k∧jw m l out i k≤gt out k:=fun k hk=>by
 have:=h.lo k (hx k hk).1 (hx k hk).2
 unfold jw
 split<;>omega
theorem ZI.start(hc:kF g l)(hV:∀ k:Int,0≤k→k<l.length→lI (mX g l (eQ g l)) v k):ZI g l m v (List.replicate l.length 0):=by
 have hz:∀ i:Int,0≤i→i<l.length→gt (List.replicate l.length (0:Int)) i=0:=fun i i0 i1=>QB i0 i1
 have kz:∀ i:Int,0≤i→i<l.length→0≤gt (List.replicate l.length (0:Int)) i∧gt (List.replicate l.length (0:Int)) i≤(gt v i).2:=fun i i0 i1=>by
  have:=(hV i i0 i1).n0
  rw[hz i i0 i1];omega
 refine⟨by simp,kz,fun i i0 i1 _=>hz i i0 i1,fun i i0 i1 _=>?_,fun w hw i i0 i1=>by rw[hz i i0 i1];exact(hw i i0 i1).1⟩
 rw[hz i i0 i1]
 refine Um fun k hk=>?_
 have:=(lT hc i0 i1).2 k hk
 unfold jw
 split
 ·omega
 ·rw[hz k this.1 this.2];omega
theorem Om(hV:∀ k:Int,0≤k→k<l.length→lI (mX g l (eQ g l)) v k){i:Int}(i0:0≤i)(i1:i<l.length)(ha:Act v i):gt (eQ g l) i≠[]:=fun e0=>by
 rcases hV i i0 i1 with⟨_,e⟩|⟨_,⟨n,n1,e,⟨k,hk,ek⟩,_⟩|⟨n,n1,e,ix,k,hk,ek⟩|⟨e,_⟩⟩
 ·exact ha.2 (by rw[e])
 ·have ie:k∈gt (eQ g l) i:=hk
  rw[e0]at ie;cases ie
 ·have ie:k∈gt (eQ g l) i:=hk
  rw[e0]at ie;cases ie
 ·exact ha.1 (by rw[e])
theorem zb(hc:kF g l)(hV:∀ k:Int,0≤k→k<l.length→lI (mX g l (eQ g l)) v k)(h:ZI g l m v out){i:Int}(i0:0≤i)(i1:i<l.length)(ha:Act v i):1≤kO g l m v out i∧kO g l m v out i≤(gt v i).2:=by
 have hx:=(lT hc i0 i1).2
 have hr:=Ib h (i:=i) hx
 have jd:∀ j:Nat,j<(gt (eQ g l) i).length→0≤jw m l out i (gt (gt (eQ g l) i) (j:Int)):=fun j hj=>(hr _ (eH (by omega) (by omega))).1
 unfold kO o6
 rcases hV i i0 i1 with⟨_,e⟩|⟨_,⟨n,n1,e,⟨k,hk,ek⟩,_⟩|⟨n,n1,e,ix,k,hk,ek⟩|⟨e,_⟩⟩
 ·exact absurd (show(gt v i).2=0 by rw[e]) ha.2
 ·rw[e]
  obtain⟨j,hj,rfl⟩:=y5.1 hk
  change j<(gt (eQ g l) i).length at hj
  change gt (gt (eQ g l) i) (j:Int)∈gt (eQ g l) i at hk
  change gt v (gt (gt (eQ g l) i) (j:Int))=_ at ek
  have:=(zf (v:=v) (o:=1) (by decide) jd (gt (eQ g l) i).length (Nat.le_refl _)).2.1 j hj (by rw[ek])
  have h2:=(hr _ hk).2
  have h3:=(h.lo _ (hx _ hk).1 (hx _ hk).2).2
  rw[ek]at h3
  dsimp only at h3 ⊢
  omega
 ·rw[e]
  obtain⟨j,hj,rfl⟩:=y5.1 hk
  change j<(gt (eQ g l) i).length at hj
  change gt (gt (eQ g l) i) (j:Int)∈gt (eQ g l) i at hk
  change (gt v (gt (gt (eQ g l) i) (j:Int))).2=_ at ek
  obtain⟨a,b,c⟩:=ze (v:=v) (o:=3) (r:=jw m l out i) (x:=gt (eQ g l) i) rfl (gt (eQ g l) i).length
  have h1:=b j hj
  have h2:=jd j hj
  dsimp only
  refine⟨by omega,?_⟩
  rcases c with c|⟨q,hq,c⟩
  ·omega
  ·have hm:=eH (l:=gt (eQ g l) i) (n:=(q:Int)) (by omega) (by omega)
   have h4:=(hr _ hm).2
   have h5:=(h.lo _ (hx _ hm).1 (hx _ hm).2).2
   have h6:=(ix _ hm).2
   omega
 ·exact absurd (show(gt v i).1=2 by rw[e]) ha.1
theorem ZI.step(hc:kF g l)(hV:∀ k:Int,0≤k→k<l.length→lI (mX g l (eQ g l)) v k)(h:ZI g l m v out){i:Int}(i0:0≤i)(i1:i<l.length)(ha:Act v i):ZI g l m v (pt out i (kO g l m v out i)):=by
 have hl:i<out.length:=by rw[h.len];exact i1
 have hb:=zb hc hV h i0 i1 ha
 have hp:=h.pre i i0 i1 ha
 have hg:∀ k:Int,0≤k→gt (pt out i (kO g l m v out i)) k=if k=i then kO g l m v out i else gt out k:=fun k k0=>n4 i0 hl k0
 have yg:∀ k:Int,0≤k→gt out k≤gt (pt out i (kO g l m v out i)) k:=fun k k0=>by
  rw[hg k k0];split
  ·rename_i e;rw[e];exact hp
  ·exact da _
 refine⟨by rw[ga i0 hl];exact h.len,fun k k0 k1=>?_,fun k k0 k1 hk=>?_,fun k k0 k1 hk=>?_,fun w hw k k0 k1=>?_⟩
 ·rw[hg k k0];split
  ·rename_i e;subst e;omega
  ·exact h.lo k k0 k1
 ·rw[hg k k0,if_neg fun e=>hk (by rw[e];exact ha)];exact h.na k k0 k1 hk
 ·have hx:=(lT hc k0 k1).2
  have hm:kO g l m v out k≤kO g l m v (pt out i (kO g l m v out i)) k:=by
   refine MX (fun q hq=>(Ib h hx q hq).1) fun q hq=>?_
   have:=yg q (hx q hq).1
   unfold jw
   split<;>omega
  rw[hg k k0];split
  ·rename_i e;subst e;exact hm
  ·exact cQ (h.pre k k0 k1 hk) hm
 ·rw[hg k k0];split
  ·rename_i e
   subst e
   have hx:=(lT hc k0 k1).2
   refine cQ (MX (fun q hq=>(Ib h hx q hq).1) fun q hq=>?_) ((hw k k0 k1).2 ha)
   have:=h.le w hw q (hx q hq).1 (hx q hq).2
   unfold jw
   split<;>omega
  ·exact h.le w hw k k0 k1
def pS(v:List eI)(out:List Int):Nat→Nat
 | 0=>0
 | n+1=>pS v out n+((gt v (n:Int)).2-gt out (n:Int)).toNat
theorem EO{i n:Int}(i0:0≤i)(hl:i<out.length)(h1:gt out i<n)(h2:n≤(gt v i).2):∀ k:Nat,pS v (pt out i n) k≤pS v out k∧(i<k→pS v (pt out i n) k<pS v out k)
 | 0=>⟨Nat.le_refl _,fun h=>by omega⟩
 | k+1=>by
  have ih:=EO i0 hl h1 h2 k
  rw[pS,pS,n4 i0 hl (by omega)]
  by_cases e:(k:Int)=i
  ·rw[if_pos e,e]
   exact⟨by omega,fun _=>by omega⟩
  ·rw[if_neg e]
   exact⟨by omega,fun h=>by have:=ih.2 (by omega);omega⟩
structure ZF(g:ey)(l:List Pos)(m:List Int)(v:List eI)(out:List Int):Prop where
 len:out.length=l.length
 lo:∀ i:Int,0≤i→i<l.length→0≤gt out i∧gt out i≤(gt v i).2
 na:∀ i:Int,0≤i→i<l.length→¬ Act v i→gt out i=0
 fx:∀ i:Int,0≤i→i<l.length→Act v i→gt out i=kO g l m v out i∧1≤gt out i
 le:∀ w,ZW g l m v w→∀ i:Int,0≤i→i<l.length→gt out i≤gt w i
theorem ZI.done(hc:kF g l)(hV:∀ k:Int,0≤k→k<l.length→lI (mX g l (eQ g l)) v k)(h:ZI g l m v out)(hf:∀ i:Int,0≤i→i<l.length→Act v i→kO g l m v out i=gt out i):ZF g l m v out:=
 ⟨h.len,h.lo,h.na,fun i i0 i1 ha=>⟨(hf i i0 i1 ha).symm,by have:=(zb hc hV h i0 i1 ha).1;rwa [hf i i0 i1 ha]at this⟩,h.le⟩
theorem ZF.uniq{lW:List Int}(h:ZF g l m v out)(h':ZF g l m v lW):out=lW:=by
 have w:∀ {o:List Int},ZF g l m v o→ZW g l m v o:=fun{o} ho i i0 i1=>⟨(ho.lo i i0 i1).1,fun ha=>by rw[← (ho.fx i i0 i1 ha).1];exact da _⟩
 exact C0 (h.len.trans h'.len.symm) fun i i0 i1=>Int.le_antisymm (h.le _ (w h') i i0 (by rw[← h.len];exact i1)) (h'.le _ (w h) i i0 (by rw[← h.len];exact i1))
noncomputable def zR(g:ey)(l:List Pos)(m:List Int)(v:List eI):List Int:=if h:∃ out,ZF g l m v out then Classical.choose h else []
theorem ZI.ex(hc:kF g l)(hV:∀ k:Int,0≤k→k<l.length→lI (mX g l (eQ g l)) v k):∀ (n:Nat) (out:List Int),ZI g l m v out→pS v out l.length≤n→∃ out,ZF g l m v out:=by
 intro n
 induction n with
 | zero=>
  intro out h hs
  refine⟨out,h.done hc hV fun i i0 i1 ha=>?_⟩
  have h1:=zb hc hV h i0 i1 ha
  have h2:=h.pre i i0 i1 ha
  by_cases e:gt out i<kO g l m v out i
  ·have:=(EO (v:=v) i0 (by rw[h.len];exact i1) e h1.2 l.length).2 i1
   omega
  ·omega
 | succ n ih=>
  intro out h hs
  by_cases hx:∃ i:Int,0≤i∧i<l.length∧Act v i∧gt out i<kO g l m v out i
  ·obtain⟨i,i0,i1,ha,e⟩:=hx
   have h1:=zb hc hV h i0 i1 ha
   have:=(EO (v:=v) i0 (by rw[h.len];exact i1) e h1.2 l.length).2 i1
   exact ih _ (h.step hc hV i0 i1 ha) (by omega)
  ·refine⟨out,h.done hc hV fun i i0 i1 ha=>?_⟩
   have h2:=h.pre i i0 i1 ha
   have h3:¬ gt out i<kO g l m v out i:=fun e=>hx ⟨i,i0,i1,ha,e⟩
   omega
theorem aaD(hc:kF g l)(hV:∀ k:Int,0≤k→k<l.length→lI (mX g l (eQ g l)) v k):ZF g l m v (zR g l m v):=by
 have hx:∃ out,ZF g l m v out:=ZI.ex hc hV _ _ (ZI.start hc hV) (Nat.le_refl _)
 unfold zR
 rw[dif_pos hx]
 exact bL hx
theorem aaC(h:ZF g l m v out):out=zR g l m v:=by
 have hx:∃ out,ZF g l m v out:=⟨out,h⟩
 unfold zR
 rw[dif_pos hx]
 exact h.uniq (bL hx)
end
end Go.Proofs.YtnaefnajkaohgaaGreatDoor
namespace Go.Proofs.YtnaefnajkaohgaaGreatDoor
open Go Go.AL Classical
set_option maxRecDepth 10000
set_option maxHeartbeats 8000000
section
variable{nx:List (List Int)}
end
attribute [-simp] Ke OI TY OJ
end Go.Proofs.YtnaefnajkaohgaaGreatDoor
namespace Go.Proofs.YtnaefnajkaohgaaGreatDoor
open Go Go.AL Classical
structure VB(A:qM)(n:Nat)(P R:List Int)(v:List eI)(lf:List Int):Prop where
 vl:v.length=n
 ll:lf.length=n
 nd:(P++R).Nodup
 qr:∀ k∈P++R,0≤k∧k<n
 qi:∀ k∈P++R,(gt v k).1≠0
 z:∀ k:Int,0≤k→k<n→k ∉ P++R→gt v k=(0,0)
 ov:∀ k:Int,0≤k→k<n→A.ov k=true→k∈P++R∧gt v k=(A.rs k,0)
 mono:(P++R).Pairwise fun a b=>(gt v a).2≤(gt v b).2
 top:∀ i R',R=i::R'→∀ a∈P++R,(gt v a).2≤(gt v i).2+1
 nn:∀ a∈P++R,0≤(gt v a).2∧(gt v a).2≤(P++R).length
 st:∀ k∈P++R,A.ov k=false →
  (∃ m,1≤m∧gt v k=(1,m)∧(∃ c∈gt A.nx k,gt v c=(3,m-1))∧∀ c∈gt A.nx k,(gt v c).1=3→m-1≤(gt v c).2) ∨
  (∃ m,1≤m∧gt v k=(3,m)∧(∀ c∈gt A.nx k,(gt v c).1=1∧(gt v c).2≤m-1)∧∃ c∈gt A.nx k,(gt v c).2=m-1)
section
variable{A:qM}{n:Nat}{P R d:List Int}{v:List eI}{lf:List Int}{i k t:Int}
structure VS(A:qM)(n:Nat)(m:Int)(R:List Int)(v:List eI)(lf:List Int):Prop where
 vl:v.length=n
 ll:lf.length=n
 nd:R.Nodup
 qr:∀ k,k∈R↔(0≤k∧k<m)∧A.ov k=true
 vv:∀ k:Int,0≤k→k<n→gt v k=if k∈R then(A.rs k,0)else(0,0)
 lv:∀ k:Int,0≤k→k<m→gt lf k=(gt A.nx k).length
end
end Go.Proofs.YtnaefnajkaohgaaGreatDoor
namespace Go.Proofs.YtnaefnajkaohgaaGreatDoor
open Go Go.AL Classical
set_option maxRecDepth 10000
set_option maxHeartbeats 8000000
attribute [-simp] DT
end Go.Proofs.YtnaefnajkaohgaaGreatDoor
namespace Go.Proofs.YtnaefnajkaohgaaGreatDoor
open Go Go.AL Classical
set_option maxRecDepth 10000
set_option maxHeartbeats 8000000
attribute [-simp] DT
def iU(L L':List Int):Prop:=L'.length=L.length∧∀ x,x∈L'↔x∈L
theorem iU.refl(L:List Int):iU L L:=⟨rfl,fun _=>cU⟩
theorem iU.trans{L M N:List Int}(h:iU L M)(h':iU M N):iU L N:=⟨h'.1.trans h.1,fun x=>(h'.2 x).trans (h.2 x)⟩
theorem iU.swap{L:List Int}{i j:Int}(i0:0≤i)(i1:i<L.length)(j0:0≤j)(j1:j<L.length):iU L (pt (pt L i (gt L j)) j (gt L i)):=by
 have l1:=ga (v:=gt L j) i0 i1
 have l2:=ga (l:=pt L i (gt L j)) (v:=gt L i) j0 (by omega)
 have hg:∀ k:Int,0≤k→gt (pt (pt L i (gt L j)) j (gt L i)) k=if k=j then gt L i else if k=i then gt L j else gt L k:=fun k k0=>by
  rw[n4 j0 (by omega) k0,n4 i0 i1 k0]
 refine⟨by omega,fun x=>⟨fun h=>?_,fun h=>?_⟩⟩
 ·obtain⟨k,k0,k1,e⟩:=oB.1 h
  rw[hg k k0]at e
  split at e
  ·exact e▸eH i0 i1
  ·split at e
   ·exact e▸eH j0 j1
   ·exact e▸eH k0 (by omega)
 ·obtain⟨k,k0,k1,e⟩:=oB.1 h
  by_cases ei:k=i
  ·exact oB.2 ⟨j,j0,by omega,by rw[hg j j0,if_pos rfl,← ei];exact e⟩
  ·by_cases ej:k=j
   ·by_cases PH:i=j
    ·omega
    ·exact oB.2 ⟨i,i0,by omega,by rw[hg i i0,if_neg PH,if_pos rfl,← ej];exact e⟩
   ·exact oB.2 ⟨k,k0,by omega,by rw[hg k k0,if_neg ej,if_neg ei];exact e⟩
theorem iU.zA{L L':List Int}{n:Nat}(h:iU L L')(hL:∀ x∈L,0≤x∧x<n):∀ x∈L',0≤x∧x<n:=fun x hx=>hL x ((h.2 x).1 hx)
theorem f72(v:List eI)(hv:∀ k:Int,0≤k→k<v.length→0≤(gt v k).2∧(gt v k).2≤4000)(a b:Int)(ha:0≤a∧a<v.length)(hb:0≤b∧b<v.length):Wf T 72 [.i a,.i b,.eG [ft v]] [] (Is (.i ((gt v a).2-(gt v b).2))):=by
 have h1:=hv a ha.1 ha.2
 have h2:=hv b hb.1 hb.2
 refine Yg B0 ?_
 simp[B0]
 (with_reducible repeat' first|refine Xk ?_<;>try simp|refine Xs ?_ ?_<;>intro h<;>(try intro h')<;>(try simp[h])<;>(try omega)|refine Xg ?_|omega)
section
variable{X0 X1 X2 X4 X5 X6 X7 X8:Ob}{v:List eI}{N:Nat}
theorem f230(L:List Int)(hN:L.length=N)(h9:N≤4000)(a b n:Int)(h:0≤a∧0≤b∧a+n≤N∧b+n≤N) :
  Wf T 230 [.eu 9 0 1 0 N,.i a,.i b,.i n,.fn (.func 72) [] [.ptr 3 0 0]] [X0,X1,X2,.row 52 0 [ft v],X4,X5,X6,X7,X8,.row 3 0 (cl f1 L)] (fun d H'=>d = .tup []∧∃ L',iU L L'∧H' = [X0,X1,X2,.row 52 0 [ft v],X4,X5,X6,X7,X8,.row 3 0 (cl f1 L')]):=by
 refine Yg Bk ?_
 simp[Bk]
 (with_reducible repeat' first|refine Xk ?_<;>try simp|refine Xs ?_ ?_<;>intro h<;>(try intro h')<;>(try simp[h])<;>(try omega)|refine Xg ?_|omega)
 refine eF.e ((0,L):Int×List Int) (fun y=>[(0,.eu 9 0 1 0 N),(1,.i a),(2,.i b),(3,.i n),(10,.i y.1)]) (fun y=>[X0,X1,X2,.row 52 0 [ft v],X4,X5,X6,X7,X8,.row 3 0 (cl f1 y.2)]) (fun y=>0≤y.1∧iU L y.2) (fun y=>(n-y.1).toNat) ?_ ?_
 ·exact⟨by simp,iU.refl _⟩
 rintro⟨i,M⟩ ⟨i0,hM⟩
 dsimp only at i0 hM ⊢
 have hl:=hM.1
 by_cases hi:i<n
 ·have uw:(pt M (a+i) (gt M (b+i))).length=M.length:=ga (by omega) (by omega)
  simp[hi]
  (with_reducible repeat' first|refine Xk ?_<;>try simp|refine Xs ?_ ?_<;>intro h<;>(try intro h')<;>(try simp[h])<;>(try omega)|refine Xg ?_|omega)
  have hs:=iU.swap (L:=M) (i:=a+i) (j:=b+i) (by omega) (by omega) (by omega) (by omega)
  refine LJ.e (i+1,pt (pt M (a+i) (gt M (b+i))) (b+i) (gt M (a+i))) ?_
  exact⟨by dsimp only;omega,by dsimp only;omega,hM.trans hs⟩
 ·simp[hi]
  exact⟨M,hM,rfl⟩
theorem f157(hv:∀ k:Int,0≤k→k<v.length→0≤(gt v k).2∧(gt v k).2≤4000)(h9:N≤4000)(L:List Int)(hN:L.length=N)(hL:∀ x∈L,0≤x∧x<v.length)(a b:Int)(h:0≤a∧a≤8000∧b≤N) :
  Wf T 157 [.eu 9 0 1 0 N,.i a,.i b,.fn (.func 72) [] [.ptr 3 0 0]] [X0,X1,X2,.row 52 0 [ft v],X4,X5,X6,X7,X8,.row 3 0 (cl f1 L)] (fun d H'=>d = .tup []∧∃ L',iU L L'∧H' = [X0,X1,X2,.row 52 0 [ft v],X4,X5,X6,X7,X8,.row 3 0 (cl f1 L')]):=by
 refine Yg AP ?_
 simp[AP]
 (with_reducible repeat' first|refine Xk ?_<;>try simp|refine Xs ?_ ?_<;>intro h<;>(try intro h')<;>(try simp[h])<;>(try omega)|refine Xg ?_|omega)
 refine eF.e ((a+1,L):Int×List Int) (fun y=>[(0,.eu 9 0 1 0 N),(1,.i a),(2,.i b),(3,.fn (.func 72) [] [.ptr 3 0 0]),(8,.i y.1)]) (fun y=>[X0,X1,X2,.row 52 0 [ft v],X4,X5,X6,X7,X8,.row 3 0 (cl f1 y.2)]) (fun y=>a<y.1∧iU L y.2) (fun y=>(b-y.1).toNat) ?_ ?_
 ·exact⟨by dsimp only;omega,iU.refl _⟩
 rintro⟨i,M⟩ ⟨i0,hM⟩
 dsimp only at i0 hM ⊢
 have hl:=hM.1
 by_cases hi:i<b
 ·simp[hi]
  refine eF.e ((i,M):Int×List Int) (fun y=>[(0,.eu 9 0 1 0 N),(1,.i a),(2,.i b),(3,.fn (.func 72) [] [.ptr 3 0 0]),(8,.i i),(9,.i y.1)]) (fun y=>[X0,X1,X2,.row 52 0 [ft v],X4,X5,X6,X7,X8,.row 3 0 (cl f1 y.2)]) (fun y=>a≤y.1∧y.1≤i∧iU L y.2) (fun y=>(y.1-a).toNat) ?_ ?_
  ·exact⟨by dsimp only;omega,by dsimp only;omega,hM⟩
  clear hl hM
  rintro⟨j,M⟩ ⟨j0,j1,hM⟩
  dsimp only at j0 j1 hM ⊢
  have hl:=hM.1
  by_cases hj:a<j
  ·obtain⟨q,rfl⟩:∃ q,j=q+1:=⟨j-1,by omega⟩
   have r1:=hM.zA hL (gt M (q+1)) (eH (by omega) (by omega))
   have r2:=hM.zA hL (gt M q) (eH (by omega) (by omega))
   have uw:(pt M (q+1) (gt M q)).length=M.length:=ga (by omega) (by omega)
   have hs:=iU.swap (L:=M) (i:=q+1) (j:=q) (by omega) (by omega) (by omega) (by omega)
   simp[hj]
   (with_reducible repeat' first|refine Xk ?_<;>try simp|refine Xs ?_ ?_<;>intro h<;>(try intro h')<;>(try simp[h])<;>(try omega)|refine Xg ?_|omega)
   trace_state
   refine gq.r rfl rfl (f72 v hv (gt M (q+1)) (gt M q) r1 r2) (by simp) (by simp[flat]) (by simp) ?_
   simp
   (with_reducible repeat' first|refine Xk ?_<;>try simp|refine Xs ?_ ?_<;>intro h<;>(try intro h')<;>(try simp[h])<;>(try omega)|refine Xg ?_|omega)
   ·refine LJ.e (q,pt (pt M (q+1) (gt M q)) q (gt M (q+1))) ?_
    exact⟨by dsimp only;omega,by dsimp only;omega,by dsimp only;omega,hM.trans hs⟩
   ·refine LJ.e (i+1,M) ?_
    exact⟨by dsimp only;omega,by dsimp only;omega,hM⟩
  ·simp[hj]
   (with_reducible repeat' first|refine Xk ?_<;>try simp|refine Xs ?_ ?_<;>intro h<;>(try intro h')<;>(try simp[h])<;>(try omega)|refine Xg ?_|omega)
   refine LJ.e (i+1,M) ?_
   exact⟨by dsimp only;omega,by dsimp only;omega,hM⟩
 ·simp[hi]
  exact⟨M,hM,rfl⟩
theorem f196(L:List Int)(hN:L.length=N)(h9:N≤4000)(a m b:Int)(h:0≤a∧a<m∧m<b∧b≤N) :
  Wf T 196 [.eu 9 0 1 0 N,.i a,.i m,.i b,.fn (.func 72) [] [.ptr 3 0 0]] [X0,X1,X2,.row 52 0 [ft v],X4,X5,X6,X7,X8,.row 3 0 (cl f1 L)] (fun d H'=>d = .tup []∧∃ L',iU L L'∧H' = [X0,X1,X2,.row 52 0 [ft v],X4,X5,X6,X7,X8,.row 3 0 (cl f1 L')]):=by
 refine Yg A7 ?_
 simp[A7]
 (with_reducible repeat' first|refine Xk ?_<;>try simp|refine Xs ?_ ?_<;>intro h<;>(try intro h')<;>(try simp[h])<;>(try omega)|refine Xg ?_|omega)
 refine eF.e ((m-a,b-m,L):Int×Int×List Int) (fun y=>[(0,.eu 9 0 1 0 N),(2,.i m),(4,.fn (.func 72) [] [.ptr 3 0 0]),(10,.i y.1),(11,.i y.2.1)]) (fun y=>[X0,X1,X2,.row 52 0 [ft v],X4,X5,X6,X7,X8,.row 3 0 (cl f1 y.2.2)]) (fun y=>1≤y.1∧y.1≤m-a∧1≤y.2.1∧y.2.1≤b-m∧iU L y.2.2) (fun y=>(y.1+y.2.1).toNat) ?_ ?_
 ·exact⟨by dsimp only;omega,by dsimp only;omega,by dsimp only;omega,by dsimp only;omega,iU.refl _⟩
 rintro⟨i,j,M⟩ ⟨i0,i1,j0,j1,hM⟩
 dsimp only at i0 i1 j0 j1 hM ⊢
 have hl:=hM.1
 by_cases mL:i=j
 ·subst mL
  simp
  (with_reducible repeat' first|refine Xk ?_<;>try simp|refine Xs ?_ ?_<;>intro h<;>(try intro h')<;>(try simp[h])<;>(try omega)|refine Xg ?_|omega)
  refine eU.kC rfl rfl (f230 M (by omega) h9 (m-i) m i (by omega)) ?_
  rintro _ H' ⟨rfl,M',sG,rfl⟩
  simp
  exact⟨M',hM.trans sG,rfl⟩
 ·simp[mL]
  by_cases fe:j<i
  ·(with_reducible repeat' first|refine Xk ?_<;>try simp|refine Xs ?_ ?_<;>intro h<;>(try intro h')<;>(try simp[h])<;>(try omega)|refine Xg ?_|omega)
   refine eU.kC rfl rfl (f230 M (by omega) h9 (m-i) m j (by omega)) ?_
   rintro _ H' ⟨rfl,M',sG,rfl⟩
   simp
   (with_reducible repeat' first|refine Xk ?_<;>try simp|refine Xs ?_ ?_<;>intro h<;>(try intro h')<;>(try simp[h])<;>(try omega)|refine Xg ?_|omega)
   refine LJ.e (i-j,j,M') ?_
   exact⟨by dsimp only;omega,by dsimp only;omega,by dsimp only;omega,by dsimp only;omega,by dsimp only;omega,hM.trans sG⟩
  ·(with_reducible repeat' first|refine Xk ?_<;>try simp|refine Xs ?_ ?_<;>intro h<;>(try intro h')<;>(try simp[h])<;>(try omega)|refine Xg ?_|omega)
   refine eU.kC rfl rfl (f230 M (by omega) h9 (m-i) (m+j-i) i (by omega)) ?_
   rintro _ H' ⟨rfl,M',sG,rfl⟩
   simp
   (with_reducible repeat' first|refine Xk ?_<;>try simp|refine Xs ?_ ?_<;>intro h<;>(try intro h')<;>(try simp[h])<;>(try omega)|refine Xg ?_|omega)
   refine LJ.e (i,j-i,M') ?_
   exact⟨by dsimp only;omega,by dsimp only;omega,by dsimp only;omega,by dsimp only;omega,by dsimp only;omega,hM.trans sG⟩
end
end Go.Proofs.YtnaefnajkaohgaaGreatDoor
namespace Go.Proofs.YtnaefnajkaohgaaGreatDoor
open Go Go.AL Classical
set_option maxRecDepth 10000
set_option maxHeartbeats 16000000
attribute [local simp] HF H5 tp EU
end Go.Proofs.YtnaefnajkaohgaaGreatDoor
namespace Go.Proofs.YtnaefnajkaohgaaGreatDoor
open Go Go.AL Classical
set_option maxRecDepth 10000
set_option maxHeartbeats 16000000
attribute [local simp] HF H5 tp EU
section
variable{g:ey}{l:List Pos}{nx:List (List Int)}{part:List Int}{bu:Int}

/- Part 22 of the proof of skewer.skewerlaw15.TableSlices. -/
import Derived.Test.YtnaefnajkaohgaaGreatDoorC18
import Derived.Test.YtnaefnajkaohgaaGreatDoorC21
set_option linter.all false
namespace Go.AL
open Go
theorem Wf.sort{T:Tab}{f g:FuncId}{fn:FnA}{sz v gen t:Nat}{H:Heap}{K:D→Heap→Prop}{α:Type}{fc:α→List D}[F:Fl fc sz](l:List α)(cf:α→α→Int)(hs:T.sort f=some sz)(hg:T.fn g=some fn)(h0:0<l.length)(hl:l.length<2 ^ 40)
  (irr:∀ x,cf x x=0) (tr:∀ x y z,cf x y<0→cf y z<0→cf x z<0) (nt:∀ x y z,¬ cf x y<0→¬ cf y z<0→¬ cf x z<0) (hc:∀ x∈l,∀ y∈l,Wf T g [.agg (fc x),.agg (fc y)] [] (Is (.i (cf x y)))) (hv:H[v]? = some (.row t gen (cl fc l)))
  (k:∀ l':List α,l'.Perm l→l'.Pairwise (fun x y=>¬ cf y x<0)→K (.tup []) (H.set v (.row t gen (cl fc l')))):Wf T f [.osl v gen sz 0 l.length,.fn (.func g) [] []] H K:=
 Ev.sort fc l cf hs hg (fun a _=>F.len a) (fun a _=>F.cl a) h0 (by omega) (fun x _=>by rw[irr];decide) (fun x _ y _ z _=>tr x y z) (fun x _ y _ z _=>nt x y z)
  (fun x hx y hy=>Ev.mono (hc x hx y hy) fun r ⟨d,H',e,h1,_⟩=>⟨H',by rw[e,h1]⟩) (by rw[hv,cl_def]) fun l' hp hw=>⟨_,_,rfl,by rw[← cl_def];exact k l' hp hw⟩
theorem Wf.sortE{T:Tab}{f:FuncId}{sz:Nat}{x:D}{H:Heap}{K:D→Heap→Prop}(hs:T.sort f=some sz)(k:K (.tup []) H):Wf T f [.emp,x] H K:=Ev.sortE hs ⟨_,_,rfl,k⟩
section
variable{α:Type}[DecidableEq α]
def compactL:List α→List α
 | []=>[]
 | [a]=>[a]
 | a::b::t=>if b=a then compactL (b::t)else a::compactL (b::t)
theorem compact_head:∀ (t:List α) (a:α),compactL (a::t)=a::(compactL (a::t)).tail
 | [],a=>rfl
 | b::t,a=>by
  unfold compactL
  split
  ·rename_i h;subst h;exact compact_head t b
  ·rfl
theorem compact_mem{x:α}:∀ {l:List α},x∈compactL l↔x∈l
 | []=>Iff.rfl
 | [a]=>Iff.rfl
 | a::b::t=>by
  unfold compactL
  split
  ·rename_i h;subst h;rw[compact_mem (l:=b::t)];simp
  ·rw[List.mem_cons,compact_mem (l:=b::t),List.mem_cons (a:=x) (b:=a)]
theorem compact_len:∀ l:List α,(compactL l).length≤l.length
 | []=>Nat.le_refl _
 | [a]=>Nat.le_refl _
 | a::b::t=>by
  have:=compact_len (b::t)
  unfold compactL
  split
  ·exact Nat.le_succ_of_le this
  ·simp only[List.length_cons]at *;omega
theorem compact_pos{l:List α}(h:0<l.length):0<(compactL l).length:=by
 cases l with
 | nil=>simp at h
 | cons a t=>rw[compact_head];simp
theorem compact_nil{l:List α}:compactL l = []↔l = []:=by
 constructor
 ·intro h
  rcases Nat.eq_zero_or_pos l.length with h2|h2
  ·exact List.length_eq_zero_iff.1 h2
  ·have:=compact_pos h2;rw[h]at this;simp at this
 ·rintro rfl;rfl
theorem compact_one{l:List α}(h:l.length<2):compactL l=l:=by
 match l,h with
 | [],_=>rfl
 | [a],_=>rfl
 | a::b::t,h=>simp at h;omega
def tailC(l:List α)(m:Int):List α:=(compactL (l.drop (m-1).toNat)).tail
variable [Inhabited α]{l:List α}{m:Int}
theorem tailC_0(h:0<l.length):compactL l=l.take 1++tailC l 1:=by
 cases l with
 | nil=>simp at h
 | cons a t=>exact compact_head t a
theorem tailC_end(h:m=l.length)(h0:1≤m):tailC l m = []:=by
 unfold tailC
 rw[drop_gt (by omega) (by omega),List.drop_eq_nil_of_le (by omega)]
 rfl
theorem tailC_eq(h0:1≤m)(h:m<l.length)(e:gt l m=gt l (m-1)):tailC l m=tailC l (m+1):=by
 unfold tailC
 rw[drop_gt (n:=m-1) (by omega) (by omega),show(m-1).toNat+1=m.toNat by omega,drop_gt (n:=m) (by omega) h,compactL,if_pos e,Int.add_sub_cancel,drop_gt (n:=m) (by omega) h]
theorem tailC_ne(h0:1≤m)(h:m<l.length)(e:gt l m≠gt l (m-1)):tailC l m=gt l m::tailC l (m+1):=by
 unfold tailC
 rw[drop_gt (n:=m-1) (by omega) (by omega),show(m-1).toNat+1=m.toNat by omega,drop_gt (n:=m) (by omega) h,compactL,if_neg e,Int.add_sub_cancel,drop_gt (n:=m) (by omega) h]
 exact compact_head _ _
end
theorem compact_sorted:∀ {l:List Pos},l.Pairwise (fun x y=>cmpP x y≤0)→(compactL l).Pairwise fun x y=>cmpP x y<0
 | [],_=>.nil
 | [a],_=>by simp[compactL]
 | a::b::t,h=>by
  have h1:=List.pairwise_cons.1 h
  have h2:=List.pairwise_cons.1 h1.2
  unfold compactL
  split
  ·exact compact_sorted h1.2
  ·rename_i hn
   refine List.pairwise_cons.2 ⟨fun x hx=>?_,compact_sorted h1.2⟩
   rw[compact_mem]at hx
   have h3:=h1.1 x hx
   by_cases h4:cmpP a x=0
   ·have e:=cmpP_zero.1 h4
    subst e
    rcases List.mem_cons.1 hx with e|hx
    ·exact absurd e.symm hn
    ·have h5:=h2.1 _ hx
     have h6:=h1.1 b (by simp)
     have h7:=cmpP_swap a b
     exact absurd (cmpP_zero.1 (show cmpP a b=0 by omega)).symm hn
   ·omega
theorem compact_sortP{l l':List Pos}(hp:l'.Perm l)(hw:l'.Pairwise fun x y=>¬ cmpP y x<0):compactL l'=sortP l:=
 sortP_eq (Sorted.of (compact_sorted (hw.imp fun{x y} h=>by have:=cmpP_swap x y;omega))) fun q=>by rw[compact_mem,hp.mem_iff]
theorem cmpP_nt(x y z:Pos)(h1:¬ cmpP x y<0)(h2:¬ cmpP y z<0):¬ cmpP x z<0:=by
 have a:=cmpP_swap x y;have b:=cmpP_swap y z;have c:=cmpP_swap x z
 have:=cmpP_le_trans (p:=z) (q:=y) (r:=x) (by omega) (by omega)
 omega
def b2(b:Bool):Int:=if b then 1 else 0
def cmpO(a b:Outc):Int:=firstNZ [cmpP a.p b.p,numberC (b2 a.took) (b2 b.took)]
theorem b2_inj{a b:Bool}(h:b2 a=b2 b):a=b:=by revert h;cases a<;>cases b<;>simp[b2]
theorem cmpO_zero{a b:Outc}:cmpO a b=0↔a=b:=by
 unfold cmpO
 rw[firstNZ_zero]
 simp only[List.mem_cons,List.not_mem_nil,or_false,forall_eq_or_imp,forall_eq,cmpP_zero,numberC_zero]
 constructor
 ·rintro⟨h1,h2⟩;have:=b2_inj h2;cases a;cases b;simp_all
 ·rintro rfl;exact⟨rfl,rfl⟩
theorem cmpO_swap(a b:Outc):cmpO b a = - cmpO a b:=by
 unfold cmpO firstNZ
 rw[cmpP_swap a.p b.p,numberC_swap (b2 a.took)]
 simp only[firstNZ]
 (repeat' split)<;>omega
theorem cmpO_trans(x y z:Outc):cmpO x y<0→cmpO y z<0→cmpO x z<0:=by
 unfold cmpO
 refine firstNZ_trans (fun h=>by rw[cmpP_zero.1 h]) (fun h=>by rw[cmpP_zero.1 h]) cmpP_trans (firstNZ_trans (fun h=>by rw[numberC_zero.1 h]) (fun h=>by rw[numberC_zero.1 h]) (by simp only[numberC_neg];omega) fun h=>?_)
 simp[firstNZ]at h
theorem cmpO_nt(x y z:Outc)(h1:¬ cmpO x y<0)(h2:¬ cmpO y z<0):¬ cmpO x z<0:=by
 have a:=cmpO_swap x y;have b:=cmpO_swap y z;have c:=cmpO_swap x z
 by_cases e1:cmpO x y=0
 ·rw[cmpO_zero.1 e1];exact h2
 ·by_cases e2:cmpO y z=0
  ·rw[← cmpO_zero.1 e2];exact h1
  ·have:=cmpO_trans z y x (by omega) (by omega)
   omega
theorem chunks_pre{sz:Nat}:∀ (n:Nat) (a b:List D),a.length=n*sz→chunks sz n (a++b)=chunks sz n a
 | 0,_,_,_=>rfl
 | n+1,a,b,h=>by
  rw[Nat.succ_mul]at h
  simp only[chunks]
  rw[List.take_append_of_le_length (by omega),List.drop_append_of_le_length (by omega),chunks_pre n (a.drop sz) b (by simp;omega)]
@[simp] theorem fzR_pre{α:Type}{f:α→List D}{sz:Nat}[F:Fl f sz]{ρ:Nat→Option Nat}{H:Heap}{k n:Nat}{t:TypeId}{l:List α}{b:List D}(h:n=l.length):fzR ρ H (k+1) sz 0 n (some (t,cl f l++b)) = .sl sz (l.map f):=by
 subst h
 unfold fzR
 dsimp only
 rw[List.length_append,cl_len,Nat.zero_add,if_pos (by omega),Nat.zero_mul,List.drop_zero,List.map_append,shed_cells (cl_closed l),chunks_pre _ _ _ (by simp),cl_def,chunks_map F.len]
@[irreducible] def gtn{α:Type}[Inhabited α](l:List α)(n:Nat):α:=gt l (n:Int)
theorem gtn_of{α:Type}[Inhabited α]{l:List α}{n:Nat}{m:Int}(h:(n:Int)=m):gtn l n=gt l m:=by unfold gtn;rw[h]
@[simp] theorem ldR_clN{α:Type}[Inhabited α]{f:α→List D}{sz:Nat}[F:Fl f sz]{l:List α}{t:TypeId}{n:Nat}(hz:0<sz):ldR sz (n*sz) (some (t,cl f l))=if n<l.length then some (.agg (f (gtn l n)))else none:=by
 have:=ldR_cl (f:=f) (l:=l) (t:=t) (n:=(n:Int)) hz
 rw[Int.toNat_natCast]at this
 rw[this];unfold gtn;rfl
@[simp] theorem clr_osl(sz v g off len:Nat)(z:List D)(H:Heap):clrO sz z (.osl v g sz off len) H=(rowAt H v g).bind fun p=>if (off+len)*sz≤p.2.length then some (.any,.obj v (.row p.1 g (p.2.take (off*sz)++(List.replicate len z).flatten++p.2.drop ((off+len)*sz))))else none:=by
 simp only[clrO]
 cases rowAt H v g<;>simp
theorem take_pt{α:Type}{l:List α}{n:Int}{v:α}(h0:0≤n)(h:n<l.length):(pt l n v).take (n+1).toNat=l.take n.toNat ++ [v]:=by
 have e:(l.take n.toNat).length=n.toNat:=by rw[List.length_take];omega
 rw[pt,List.take_append,e,show(n+1).toNat-n.toNat=1 by omega,List.take_of_length_le (by omega)]
 rfl
end Go.AL
namespace Go.Proofs.YtnaefnajkaohgaaGreatDoor
open Go Go.AL Classical
set_option maxRecDepth 10000
set_option maxHeartbeats 4000000
theorem f124(a b:Outc)(ha:Small a.p)(hb:Small b.p):Wf T 124 [.agg a.cells,.agg b.cells] [] (Is (.i (cmpO a b))):=by
 obtain⟨p,u⟩:=a
 obtain⟨q,v⟩:=b
 cases u<;>cases v
 ·refine Yg F124 ?_
  simp[F124,Outc.cells]
  refine XTCall.c rfl rfl (f88 p q ha hb) (by simp) (by simp) ?_
  simp
  refine XTCall.c rfl rfl (f131 _ _) (by simp) (by simp) ?_
  simp
  refine XTCall.r rfl rfl (f129 [cmpP p q,numberC 0 0] (by simp)) (by simp) (by simp[flat]) (by simp) ?_
  simp
  rfl
 ·refine Yg F124 ?_
  simp[F124,Outc.cells]
  refine XTCall.c rfl rfl (f88 p q ha hb) (by simp) (by simp) ?_
  simp
  refine XTCall.c rfl rfl (f131 _ _) (by simp) (by simp) ?_
  simp
  refine XTCall.r rfl rfl (f129 [cmpP p q,numberC 0 1] (by simp)) (by simp) (by simp[flat]) (by simp) ?_
  simp
  rfl
 ·refine Yg F124 ?_
  simp[F124,Outc.cells]
  refine XTCall.c rfl rfl (f88 p q ha hb) (by simp) (by simp) ?_
  simp
  refine XTCall.c rfl rfl (f131 _ _) (by simp) (by simp) ?_
  simp
  refine XTCall.r rfl rfl (f129 [cmpP p q,numberC 1 0] (by simp)) (by simp) (by simp[flat]) (by simp) ?_
  simp
  rfl
 ·refine Yg F124 ?_
  simp[F124,Outc.cells]
  refine XTCall.c rfl rfl (f88 p q ha hb) (by simp) (by simp) ?_
  simp
  refine XTCall.c rfl rfl (f131 _ _) (by simp) (by simp) ?_
  simp
  refine XTCall.r rfl rfl (f129 [cmpP p q,numberC 1 1] (by simp)) (by simp) (by simp[flat]) (by simp) ?_
  simp
  rfl
theorem f126(a b:Outc)(ha:Small a.p)(hb:Small b.p):Wf T 126 [.agg a.cells,.agg b.cells] [] (Is (.b (decide (a=b)))):=by
 refine Yg F126 ?_
 simp[F126,Outc.cells]
 refine XCall.c rfl rfl (f124 a b ha hb) (by simp) (by simp) ?_
 simp[cmpO_zero]
theorem f90(a b:Pos)(ha:Small a)(hb:Small b):Wf T 90 [.agg a.cells,.agg b.cells] [] (Is (.b (decide (a=b)))):=by
 refine Yg F90 ?_
 simp[F90]
 refine XCall.c rfl rfl (f88 a b ha hb) (by simp) (by simp) ?_
 simp[cmpP_zero]
theorem f89(gen:Nat)(l:List Pos)(hs:∀ p∈l,Small p)(h0:0<l.length)(hl:l.length<2 ^ 40)(n:Nat)(hn:l.length=n):Wf T 89 [.osl 0 gen 5 0 n,.fn (.func 90) [] []] [.row 44 gen (cl Pos.cells l)]
  (fun d H'=>∃ junk,d = .osl 0 gen 5 0 (compactL l).length∧H' = [.row 44 gen (cl Pos.cells (compactL l)++junk)]):=by
 subst hn
 refine Yg F89 ?_
 simp[F89]
 by_cases h1:(l.length:Int)<2
 ·have e:=compact_one (l:=l) (by omega)
  simp[h1,e]
 ·simp[h1]
  refine XLoop.e (1:Int) (fun y=>[(0,.osl 0 gen 5 0 l.length),(1,.fn (.func 90) [] []),(5,.i y)]) (fun y=>[.row 44 gen (cl Pos.cells l)]) (fun y=>1≤y∧y≤l.length∧compactL l=l.take y.toNat++tailC l y) (fun y=>(l.length-y).toNat) ?_ ?_
  ·simp
   exact⟨by omega,by rw[tailC_0 h0]⟩
  rintro y ⟨y0,y1,y2⟩
  by_cases hy:y<l.length
  ·simp[hy,gtn_of (l:=l) (n:=y.toNat-1) (m:=y-1) (by omega)]
   (with_reducible repeat' first|refine Xk ?_<;>try simp|refine Xs ?_ ?_<;>intro h<;>(try intro h')<;>(try simp[h])<;>(try omega)|refine Xg ?_|omega)
   refine XTCall.c rfl rfl (f90 (gt l y) (gt l (y-1)) (hs _ (gt_mem (by omega) hy)) (hs _ (gt_mem (by omega) (by omega)))) (by simp) (by simp) ?_
   simp
   by_cases he:gt l y=gt l (y-1)
   ·simp[he]
    (with_reducible repeat' first|refine Xk ?_<;>try simp|refine Xs ?_ ?_<;>intro h<;>(try intro h')<;>(try simp[h])<;>(try omega)|refine Xg ?_|omega)
    refine XLoop.e ((1,y,l):Int×Int×List Pos) (fun x=>[(0,.osl 0 gen 5 0 l.length),(1,.fn (.func 90) [] []),(5,.i x.2.1),(6,.osl 0 gen 5 y.toNat (l.length-y.toNat)),(7,.i x.1)]) (fun x=>[.row 44 gen (cl Pos.cells x.2.2)]) (fun x=>1≤x.1∧y+x.1≤l.length∧1≤x.2.1∧x.2.1<y+x.1∧x.2.2.length=l.length∧(∀ j:Int,y+x.1-1≤j→gt x.2.2 j=gt l j)∧compactL l=x.2.2.take x.2.1.toNat++tailC l (y+x.1)) (fun x=>(l.length-(y+x.1)).toNat) ?_ ?_
    ·simp
     exact⟨by omega,y0,by omega,by rw[y2,tailC_eq y0 hy he]⟩
    rintro⟨k,i,cur⟩ ⟨k0,k1,i0,i1,c0,c1,c2⟩
    dsimp only at k0 k1 i0 i1 c0 c1 c2 ⊢
    by_cases hk:y+k<l.length
    ·have e1:gt cur (y+k)=gt l (y+k):=c1 _ (by omega)
     have e2:gt cur (y+k-1)=gt l (y+k-1):=c1 _ (by omega)
     have g1:=gtn_of (l:=cur) (n:=y.toNat+k.toNat) (m:=y+k) (by omega)
     have g2:=gtn_of (l:=cur) (n:=y.toNat+(k.toNat-1)) (m:=y+k-1) (by omega)
     simp[show k<((l.length-y.toNat:Nat):Int)by omega,g1,g2,e1,e2,c0]
     (with_reducible repeat' first|refine Xk ?_<;>try simp|refine Xs ?_ ?_<;>intro h<;>(try intro h')<;>(try simp[h])<;>(try omega)|refine Xg ?_|omega)
     refine XTCall.c rfl rfl (f90 (gt l (y+k)) (gt l (y+k-1)) (hs _ (gt_mem (by omega) hk)) (hs _ (gt_mem (by omega) (by omega)))) (by simp) (by simp) ?_
     simp
     by_cases he2:gt l (y+k)=gt l (y+k-1)
     ·simp[he2]
      (with_reducible repeat' first|refine Xk ?_<;>try simp|refine Xs ?_ ?_<;>intro h<;>(try intro h')<;>(try simp[h])<;>(try omega)|refine Xg ?_|omega)
      refine LJ.e (k+1,i,cur) ?_
      refine⟨by dsimp only;omega,by dsimp only;omega,by dsimp only;omega,i0,by dsimp only;omega,c0,fun j hj=>c1 j (by dsimp only at hj;omega),?_⟩
      dsimp only
      rw[c2,tailC_eq (by omega) hk he2,Int.add_assoc]
     ·simp[he2,g1,e1,c0]
      (with_reducible repeat' first|refine Xk ?_<;>try simp[g1,e1,c0]|refine Xs ?_ ?_<;>intro h<;>(try intro h')<;>(try simp[h,g1,e1,c0])<;>(try omega)|refine Xg ?_|omega)
      have hrow:=cl_pt (f:=Pos.cells) cur i (by omega) (gt l (y+k))
      refine LJ.i (k+1,i+1,pt cur i (gt l (y+k))) (by first|rfl|simp) (by dsimp only;rw[← hrow];rfl) rfl rfl ?_
      refine⟨by dsimp only;omega,by dsimp only;omega,by dsimp only;omega,by dsimp only;omega,by dsimp only;omega,by dsimp only;rw[pt_len (by omega) (by omega)];exact c0,fun j hj=>?_,?_⟩
      ·dsimp only at hj ⊢
       rw[gt_pt_ne (by omega) (by omega) (by omega) (by omega)]
       exact c1 j (by omega)
      ·dsimp only
       rw[take_pt (by omega) (by omega),c2,tailC_ne (by omega) hk he2,Int.add_assoc]
       simp
    ·have e:tailC l (y+k) = []:=tailC_end (by omega) (by omega)
     rw[e,List.append_nil]at c2
     simp[show ¬ k<((l.length-y.toNat:Nat):Int)by omega,c0]
     (with_reducible repeat' first|refine Xk ?_<;>try simp|refine Xs ?_ ?_<;>intro h<;>(try intro h')<;>(try simp[h])<;>(try omega)|refine Xg ?_|omega)
     exact⟨by rw[c2];simp;omega,_,by rw[cl_take,c2]⟩
   ·simp[he]
    (with_reducible repeat' first|refine Xk ?_<;>try simp|refine Xs ?_ ?_<;>intro h<;>(try intro h')<;>(try simp[h])<;>(try omega)|refine Xg ?_|omega)
    refine LJ.e (y+1) ?_
    refine⟨by omega,by omega,by omega,?_⟩
    rw[y2,tailC_ne y0 hy he,take_gt (by omega) hy]
    simp
  ·have e:tailC l y = []:=tailC_end (by omega) y0
   rw[e,List.append_nil,take_all (by omega)]at y2
   simp[hy]
   exact⟨by rw[y2],[],by rw[y2];simp⟩
theorem f125(g:Game)(p0:Pos)(gen:Nat)(l:List Outc)(hs:∀ p∈l,Small p.p)(h0:0<l.length)(hl:l.length<2 ^ 40)(n:Nat)(hn:l.length=n):Wf T 125 [.osl 3 gen 6 0 n,.fn (.func 126) [] []] [.row 41 0 g.cells,.row 44 0 p0.cells,.row 164 0 [.osl 3 gen 6 0 n],.row 113 gen (cl Outc.cells l)]
  (fun d H'=>∃ junk,d = .osl 3 gen 6 0 (compactL l).length∧H' = [.row 41 0 g.cells,.row 44 0 p0.cells,.row 164 0 [.osl 3 gen 6 0 n],.row 113 gen (cl Outc.cells (compactL l)++junk)]):=by
 subst hn
 refine Yg F125 ?_
 simp[F125]
 by_cases h1:(l.length:Int)<2
 ·have e:=compact_one (l:=l) (by omega)
  simp[h1,e]
 ·simp[h1]
  refine XLoop.e (1:Int) (fun y=>[(0,.osl 3 gen 6 0 l.length),(1,.fn (.func 126) [] []),(5,.i y)]) (fun y=>[.row 41 0 g.cells,.row 44 0 p0.cells,.row 164 0 [.osl 3 gen 6 0 l.length],.row 113 gen (cl Outc.cells l)]) (fun y=>1≤y∧y≤l.length∧compactL l=l.take y.toNat++tailC l y) (fun y=>(l.length-y).toNat) ?_ ?_
  ·simp
   exact⟨by omega,by rw[tailC_0 h0]⟩
  rintro y ⟨y0,y1,y2⟩
  by_cases hy:y<l.length
  ·simp[hy,gtn_of (l:=l) (n:=y.toNat-1) (m:=y-1) (by omega)]
   (with_reducible repeat' first|refine Xk ?_<;>try simp|refine Xs ?_ ?_<;>intro h<;>(try intro h')<;>(try simp[h])<;>(try omega)|refine Xg ?_|omega)
   refine XTCall.c rfl rfl (f126 (gt l y) (gt l (y-1)) (hs _ (gt_mem (by omega) hy)) (hs _ (gt_mem (by omega) (by omega)))) (by simp) (by simp) ?_
   simp
   by_cases he:gt l y=gt l (y-1)
   ·simp[he]
    (with_reducible repeat' first|refine Xk ?_<;>try simp|refine Xs ?_ ?_<;>intro h<;>(try intro h')<;>(try simp[h])<;>(try omega)|refine Xg ?_|omega)
    refine XLoop.e ((1,y,l):Int×Int×List Outc) (fun x=>[(0,.osl 3 gen 6 0 l.length),(1,.fn (.func 126) [] []),(5,.i x.2.1),(6,.osl 3 gen 6 y.toNat (l.length-y.toNat)),(7,.i x.1)]) (fun x=>[.row 41 0 g.cells,.row 44 0 p0.cells,.row 164 0 [.osl 3 gen 6 0 l.length],.row 113 gen (cl Outc.cells x.2.2)]) (fun x=>1≤x.1∧y+x.1≤l.length∧1≤x.2.1∧x.2.1<y+x.1∧x.2.2.length=l.length∧(∀ j:Int,y+x.1-1≤j→gt x.2.2 j=gt l j)∧compactL l=x.2.2.take x.2.1.toNat++tailC l (y+x.1)) (fun x=>(l.length-(y+x.1)).toNat) ?_ ?_
    ·simp
     exact⟨by omega,y0,by omega,by rw[y2,tailC_eq y0 hy he]⟩
    rintro⟨k,i,cur⟩ ⟨k0,k1,i0,i1,c0,c1,c2⟩
    dsimp only at k0 k1 i0 i1 c0 c1 c2 ⊢
    by_cases hk:y+k<l.length
    ·have e1:gt cur (y+k)=gt l (y+k):=c1 _ (by omega)
     have e2:gt cur (y+k-1)=gt l (y+k-1):=c1 _ (by omega)
     have g1:=gtn_of (l:=cur) (n:=y.toNat+k.toNat) (m:=y+k) (by omega)
     have g2:=gtn_of (l:=cur) (n:=y.toNat+(k.toNat-1)) (m:=y+k-1) (by omega)
     simp[show k<((l.length-y.toNat:Nat):Int)by omega,g1,g2,e1,e2,c0]
     (with_reducible repeat' first|refine Xk ?_<;>try simp|refine Xs ?_ ?_<;>intro h<;>(try intro h')<;>(try simp[h])<;>(try omega)|refine Xg ?_|omega)
     refine XTCall.c rfl rfl (f126 (gt l (y+k)) (gt l (y+k-1)) (hs _ (gt_mem (by omega) hk)) (hs _ (gt_mem (by omega) (by omega)))) (by simp) (by simp) ?_
     simp
     by_cases he2:gt l (y+k)=gt l (y+k-1)
     ·simp[he2]
      (with_reducible repeat' first|refine Xk ?_<;>try simp|refine Xs ?_ ?_<;>intro h<;>(try intro h')<;>(try simp[h])<;>(try omega)|refine Xg ?_|omega)
      refine LJ.e (k+1,i,cur) ?_
      refine⟨by dsimp only;omega,by dsimp only;omega,by dsimp only;omega,i0,by dsimp only;omega,c0,fun j hj=>c1 j (by dsimp only at hj;omega),?_⟩
      dsimp only
      rw[c2,tailC_eq (by omega) hk he2,Int.add_assoc]
     ·simp[he2,g1,e1,c0]
      (with_reducible repeat' first|refine Xk ?_<;>try simp[g1,e1,c0]|refine Xs ?_ ?_<;>intro h<;>(try intro h')<;>(try simp[h,g1,e1,c0])<;>(try omega)|refine Xg ?_|omega)
      have hrow:=cl_pt (f:=Outc.cells) cur i (by omega) (gt l (y+k))
      refine LJ.i (k+1,i+1,pt cur i (gt l (y+k))) (by first|rfl|simp) (by dsimp only;rw[← hrow];rfl) rfl rfl ?_
      refine⟨by dsimp only;omega,by dsimp only;omega,by dsimp only;omega,by dsimp only;omega,by dsimp only;omega,by dsimp only;rw[pt_len (by omega) (by omega)];exact c0,fun j hj=>?_,?_⟩
      ·dsimp only at hj ⊢
       rw[gt_pt_ne (by omega) (by omega) (by omega) (by omega)]
       exact c1 j (by omega)
      ·dsimp only
       rw[take_pt (by omega) (by omega),c2,tailC_ne (by omega) hk he2,Int.add_assoc]
       simp
    ·have e:tailC l (y+k) = []:=tailC_end (by omega) (by omega)
     rw[e,List.append_nil]at c2
     simp[show ¬ k<((l.length-y.toNat:Nat):Int)by omega,c0]
     (with_reducible repeat' first|refine Xk ?_<;>try simp|refine Xs ?_ ?_<;>intro h<;>(try intro h')<;>(try simp[h])<;>(try omega)|refine Xg ?_|omega)
     exact⟨by rw[c2];simp;omega,_,by rw[cl_take,c2]⟩
   ·simp[he]
    (with_reducible repeat' first|refine Xk ?_<;>try simp|refine Xs ?_ ?_<;>intro h<;>(try intro h')<;>(try simp[h])<;>(try omega)|refine Xg ?_|omega)
    refine LJ.e (y+1) ?_
    refine⟨by omega,by omega,by omega,?_⟩
    rw[y2,tailC_ne y0 hy he,take_gt (by omega) hy]
    simp
  ·have e:tailC l y = []:=tailC_end (by omega) y0
   rw[e,List.append_nil,take_all (by omega)]at y2
   simp[hy]
   exact⟨by rw[y2],[],by rw[y2];simp⟩
set_option maxRecDepth 10000
set_option maxHeartbeats 4000000
theorem f125e(x:D)(H:Heap):Wf T 125 [.emp,x] H (fun d H'=>d = .emp∧H'=H):=by
 refine Yg F125 ?_
 simp[F125]
theorem f89e(x:D)(H:Heap):Wf T 89 [.emp,x] H (fun d H'=>d = .emp∧H'=H):=by
 refine Yg F89 ?_
 simp[F89]
theorem afterL_len{g:Game}:∀ {l:List Stp} {now:List Sta},(afterL g l now).length≤10 ^ l.length*now.length
 | [],now=>by simp[afterL]
 | x::r,now=>by
  rw[afterL]
  refine Nat.le_trans afterL_len ?_
  rw[List.length_cons,Nat.pow_succ,Nat.mul_assoc]
  exact Nat.mul_le_mul_left _ nextL_len
theorem afterL_mem{g:Game}:∀ {l:List Stp} {a b:List Sta},(∀ t,t∈a↔t∈b)→∀ t,t∈afterL g l a↔t∈runL g l b
 | [],a,b,h,t=>h t
 | x::r,a,b,h,t=>by
  rw[afterL,runL]
  refine afterL_mem (fun t=>?_) t
  rw[nextL_mem,List.mem_flatMap,List.mem_flatMap]
  exact⟨fun⟨s,h1,h2⟩=>⟨s,(h s).1 h1,h2⟩,fun⟨s,h1,h2⟩=>⟨s,(h s).2 h1,h2⟩⟩
theorem outs31_mem{g:Game}{p:Pos}{c n:Int}{o:Outc}:o∈outs31 g p c n↔o∈outs1 g p c (gt (gt g.kinds (manK (gt p.cs c))).progs n):=by
 unfold outs31 outs1
 rw[List.mem_filterMap,List.mem_filterMap]
 exact⟨fun⟨s,h1,h2⟩=>⟨s,(afterL_mem (fun _=>Iff.rfl) s).1 h1,h2⟩,fun⟨s,h1,h2⟩=>⟨s,(afterL_mem (fun _=>Iff.rfl) s).2 h1,h2⟩⟩
theorem f85(g:Game)(hg:GameOK g)(p:Pos)(hp:PosOK g p)(c n:Int)(hc:0≤c∧c<p.cs.length)(hs:manS (gt p.cs c)=p.side)(hn:0≤n∧n<(gt g.kinds (manK (gt p.cs c))).progs.length) :
  Wf T 85 [dG g,dP p,.i c,.i n] [] (Ey (fun r:List Outc=>.tup [dN 6 Outc.cells r,.i 0]) fun r=>(∀ o,o∈r↔o∈outs1 g p c (gt (gt g.kinds (manK (gt p.cs c))).progs n))∧r.length≤100000000):=by
 have hsz:=hp.size
 have hst:=startS_ok hg hp hc.1 (by omega) hs
 have hpr:ProgOK g (gt (gt g.kinds (manK (gt p.cs c))).progs n):=(hg.progs _ (gt_mem hst.kind.1 hst.kind.2)).2 _ (gt_mem hn.1 hn.2)
 have hlen:(outs31 g p c n).length≤100000000:=by
  unfold outs31
  refine Nat.le_trans (List.length_filterMap_le ..) (Nat.le_trans afterL_len ?_)
  have:=hpr.len
  have:10 ^ (gt (gt g.kinds (manK (gt p.cs c))).progs n).length≤10 ^ 8:=Nat.pow_le_pow_right (by decide) (by omega)
  simpa using this
 have hmem:∀ o,o∈outs31 g p c n→Small o.p:=fun o ho=>by
  rw[outs31_mem]at ho
  unfold outs1 at ho
  rw[List.mem_filterMap]at ho
  obtain⟨s,h1,h2⟩:=ho
  exact(finS_ok (runL_ok hg hpr.steps (fun t ht=>by rw[List.mem_singleton.1 ht];exact hst) s h1) hp.side.1 hp.side.2 h2).small hg
 refine Yg F85 ?_
 simp[F85]
 refine XCall.isF rfl rfl (f121 g hg p hp c n hc hs hn) ?_
 rintro d H' ⟨rfl,rfl⟩
 have hm:=fun o=>outs31_mem (g:=g) (p:=p) (c:=c) (n:=n) (o:=o)
 generalize outs31 g p c n=outs at *
 by_cases ho:outs = []
 ·subst ho
  simp
  refine XCall.isF rfl rfl (Wf.sortE (K:=fun d H'=>d = .tup []∧H'=_) (sz:=6) rfl ⟨rfl,rfl⟩) ?_
  rintro d H' ⟨rfl,rfl⟩
  simp
  refine XCall.isF rfl rfl (f125e _ _) ?_
  rintro d H' ⟨rfl,rfl⟩
  simp
  exact Ey.i [] rfl rfl ⟨hm,by simp⟩
 ·have h0:0<outs.length:=List.length_pos_iff.2 ho
  rw[if_neg ho]
  simp
  refine XCall.isF rfl rfl (Wf.sort (K:=fun d H'=>∃ l',l'.Perm outs∧d = .tup []∧H' = [.row 41 0 g.cells,.row 44 0 p.cells,.row 164 0 [.osl 3 (outs.length-1) 6 0 outs.length],.row 113 (outs.length-1) (cl Outc.cells l')]) (fc:=Outc.cells) outs cmpO rfl rfl h0 (by omega) (fun x=>cmpO_zero.2 rfl) cmpO_trans cmpO_nt (fun x hx y hy=>f124 x y (hmem x hx) (hmem y hy)) (gen:=outs.length-1) (t:=113) (by simp) (fun l' hp hw=>⟨l',hp,rfl,by simp⟩)) ?_
  rintro d H' ⟨l',hl',rfl,rfl⟩
  simp
  refine XCall.isF rfl rfl (f125 g p (outs.length-1) l' (fun o ho=>hmem o ((hl'.mem_iff).1 ho)) (by rw[hl'.length_eq];exact h0) (by rw[hl'.length_eq];omega) outs.length hl'.length_eq) ?_
  rintro d H' ⟨junk,rfl,rfl⟩
  simp
  have hne:compactL l'≠[]:=fun h=>ho (by rw[compact_nil]at h;rw[h]at hl';exact hl'.symm.eq_nil)
  refine Ey.i (compactL l') (by revert hne;cases compactL l' with|nil=>intro h;exact absurd rfl h|cons a r=>intro _;rfl) rfl ⟨fun o=>by rw[compact_mem,hl'.mem_iff,hm],?_⟩
  have:=compact_len l'
  have:=hl'.length_eq
  omega
set_option maxRecDepth 10000
set_option maxHeartbeats 4000000
theorem f86(l:List Pos)(h:0<l.length)(h2:l.length<2 ^ 40):Wf T 86 [dPs l] [] (fun d H=>d = .osl 0 1 5 0 l.length∧H = [.row 44 1 (cl Pos.cells l)]):=by
 refine Yg F86 ?_
 simp[F86]
 refine oA.i (a:=.b false) (by cases l with|nil=>exact absurd h (by simp)|cons a r=>rfl) ?_
 simp
 (with_reducible repeat' first|refine Xk ?_<;>try simp|refine Xs ?_ ?_<;>intro h<;>(try intro h')<;>(try simp[h])<;>(try omega)|refine Xg ?_|omega)
theorem f86e:Wf T 86 [.emp] [] (Is .emp):=by
 refine Yg F86 ?_
 simp[F86]
theorem dPs_dN{l:List Pos}(h:l≠[]):dPs l=dN 5 Pos.cells l:=by
 cases l with
 | nil=>exact absurd rfl h
 | cons a r=>rfl
@[simp] theorem closed_dN5(l:List Pos):closed (dN 5 Pos.cells l)=true:=closed_dN (fun a=>by simp) l
theorem sortP_nil:sortP [] = []:=List.length_eq_zero_iff.1 (Nat.le_zero.1 (sortP_len []))
theorem sortP_ne{l:List Pos}(h:l≠[]):sortP l≠[]:=fun e=>by
 obtain⟨a,r,rfl⟩:=List.exists_cons_of_ne_nil h
 have:a∈sortP (a::r):=sortP_mem.2 (by simp)
 rw[e]at this;cases this
theorem f48(l:List Pos)(hs:∀ p∈l,Small p)(hl:l.length<2 ^ 40):Wf T 48 [dN 5 Pos.cells l] [] (Is (dN 5 Pos.cells (sortP l))):=by
 by_cases h:l = []
 ·subst h
  rw[sortP_nil]
  show Wf T 48 [.emp] [] (Is .emp)
  refine Yg F48 ?_
  simp[F48]
  refine Yc (f86e) ?_
  simp
  refine XCall.isF rfl rfl (Wf.sortE (K:=fun d H'=>d = .tup []∧H'=_) (sz:=5) rfl ⟨rfl,rfl⟩) ?_
  rintro d H' ⟨rfl,rfl⟩
  simp
  refine XCall.isF rfl rfl (f89e _ _) ?_
  rintro d H' ⟨rfl,rfl⟩
  simp
 ·have h0:0<l.length:=List.length_pos_iff.2 h
  rw[← dPs_dN h,← dPs_dN (sortP_ne h)]
  refine Yg F48 ?_
  simp[F48]
  refine Yn (f86 l h0 hl) ?_
  simp
  refine XCall.isF rfl rfl (Wf.sort (K:=fun d H'=>∃ l',l'.Perm l∧l'.Pairwise (fun x y=>¬ cmpP y x<0)∧d = .tup []∧H' = [.row 44 1 (cl Pos.cells l')]) (fc:=Pos.cells) l cmpP rfl rfl h0 hl cmpP_refl (fun x y z=>cmpP_trans) cmpP_nt (fun x hx y hy=>f88 x y (hs x hx) (hs y hy)) (gen:=1) (t:=44) (by simp) (fun l' hp hw=>⟨l',hp,hw,rfl,by simp⟩)) ?_
  rintro d H' ⟨l',hl',hw,rfl,rfl⟩
  simp
  refine XCall.isF rfl rfl (f89 1 l' (fun o ho=>hs o ((hl'.mem_iff).1 ho)) (by rw[hl'.length_eq];exact h0) (by rw[hl'.length_eq];omega) l.length hl'.length_eq) ?_
  rintro d H' ⟨junk,rfl,rfl⟩
  simp[compact_sortP hl' hw]
end Go.Proofs.YtnaefnajkaohgaaGreatDoor

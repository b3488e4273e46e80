/- Part 13 of the proof of skewer.skewerlaw15.TableSlices. -/
import Derived.Test.YtnaefnajkaohgaaGreatDoorC12
set_option linter.all false
namespace Go.AL
open Go Classical
theorem cl_one{α:Type}{f:α→List D}(a:α):cl f [a]=f a:=by rw[cl_cons,cl_nil,List.append_nil]
theorem XLoop.e{T:Tab}{live:List Nat}{a:IR}{s:St}{K:OutP}{α:Type}(x0:α)(E:α→Env)(Hp:α→Heap)(P:α→Prop)(μ:α→Nat)(h0:P x0)
  (h:∀ x,P x→XC T a { env:=E x,H:=Hp x } (loopK s.H.length live ((E x0).map (·.1)) (LJ E Hp [] false (fun x'=>μ x'<μ x∧P x') .mk) K))
  (hE:forget ((E x0).map (·.1)) s.env=E x0:=by simp) (hH:s.H=Hp x0:=by first|rfl|(simp[cl_one];done)|(simp[*];done)) (hm:s.marks = []:=by exact rfl) (hr:s.rnd=false:=by exact rfl) (hks:(((E x0).map (·.1)).all fun k=>live.contains k)=true:=by exact rfl):XLoop T live a s K .mk:=XLoop.k x0 E Hp P μ h0 hE hH hm hr hks h
theorem Sorted.pw{l:List Pos}(h:Sorted l):l.Pairwise fun x y=>cmpP x y<0:=by
 refine List.pairwise_iff_getElem.2 fun i j hi hj hij=>?_
 have:=h.le (i:=(i:Int)) (j:=(j:Int)) (by omega) (by omega) (by omega)
 rwa [gt_nat hi,gt_nat hj]at this
theorem Sorted.of{r:List Pos}(h:r.Pairwise fun x y=>cmpP x y<0):Sorted r:=by
 intro i h1 h2
 rw[gt_eq (by omega) (by omega),gt_eq (by omega) (by omega)]
 exact List.pairwise_iff_getElem.1 h _ _ _ _ (by omega)
theorem pw_ext:∀ {a b:List Pos},(a.Pairwise fun x y=>cmpP x y<0)→(b.Pairwise fun x y=>cmpP x y<0)→(∀ q,q∈a↔q∈b)→a=b
 | [],[],_,_,_=>rfl
 | [],y::b,_,_,h=>by have:=(h y).2 (by simp);cases this
 | x::a,[],_,_,h=>by have:=(h x).1 (by simp);cases this
 | x::a,y::b,ha,hb,h=>by
  have ha':=List.pairwise_cons.1 ha
  have hb':=List.pairwise_cons.1 hb
  have e:x=y:=by
   rcases List.mem_cons.1 ((h x).1 (by simp))with e|e
   ·exact e
   rcases List.mem_cons.1 ((h y).2 (by simp))with f|f
   ·exact f.symm
   have h1:=hb'.1 x e
   have h2:=ha'.1 y f
   rw[cmpP_swap]at h1
   omega
  subst e
  rw[pw_ext ha'.2 hb'.2 fun q=>?_]
  constructor
  ·intro hq
   rcases List.mem_cons.1 ((h q).1 (by simp[hq]))with e|e
   ·subst e;have:=ha'.1 q hq;rw[cmpP_refl]at this;omega
   ·exact e
  ·intro hq
   rcases List.mem_cons.1 ((h q).2 (by simp[hq]))with e|e
   ·subst e;have:=hb'.1 q hq;rw[cmpP_refl]at this;omega
   ·exact e
theorem sorted_ext{a b:List Pos}(ha:Sorted a)(hb:Sorted b)(h:∀ q,q∈a↔q∈b):a=b:=pw_ext ha.pw hb.pw h
theorem cmpP_tri{x y:Pos}(h:x≠y)(h2:¬ cmpP x y<0):cmpP y x<0:=by
 have:cmpP x y≠0:=fun e=>h (cmpP_zero.1 e)
 rw[cmpP_swap];omega
theorem ins_ex(x:Pos):∀ r:List Pos,(r.Pairwise fun x y=>cmpP x y<0)→∃ r':List Pos,(r'.Pairwise fun x y=>cmpP x y<0)∧∀ q,q∈r'↔q=x∨q∈r
 | [],_=>⟨[x],by simp,by simp⟩
 | y::r,h=>by
  have h':=List.pairwise_cons.1 h
  by_cases e:x=y
  ·subst e;exact⟨x::r,h,by simp⟩
  by_cases hl:cmpP x y<0
  ·refine⟨x::y::r,List.pairwise_cons.2 ⟨fun z hz=>?_,h⟩,by simp⟩
   rcases List.mem_cons.1 hz with rfl|hz
   ·exact hl
   ·exact cmpP_trans hl (h'.1 z hz)
  ·obtain⟨r',h1,h2⟩:=ins_ex x r h'.2
   refine⟨y::r',List.pairwise_cons.2 ⟨fun z hz=>?_,h1⟩,fun q=>?_⟩
   ·rcases(h2 z).1 hz with rfl|hz
    ·exact cmpP_tri e hl
    ·exact h'.1 z hz
   ·simp only[List.mem_cons,h2]
    constructor
    ·rintro(h|h|h)<;>simp[h]
    ·rintro(h|h|h)<;>simp[h]
theorem sort_ex:∀ l:List Pos,∃ r,Sorted r∧∀ q,q∈r↔q∈l
 | []=>⟨[],fun i h1 h2=>by simp at h2;omega,by simp⟩
 | x::l=>by
  obtain⟨r,h1,h2⟩:=sort_ex l
  obtain⟨r',h3,h4⟩:=ins_ex x r h1.pw
  exact⟨r',Sorted.of h3,fun q=>by rw[h4,h2,List.mem_cons]⟩
noncomputable def sortP(l:List Pos):List Pos:=Classical.choose (sort_ex l)
theorem sortP_srt(l:List Pos):Sorted (sortP l):=(Classical.choose_spec (sort_ex l)).1
@[simp] theorem sortP_mem{l:List Pos}{q:Pos}:q∈sortP l↔q∈l:=(Classical.choose_spec (sort_ex l)).2 q
theorem sortP_eq{l r:List Pos}(h:Sorted r)(hm:∀ q,q∈r↔q∈l):r=sortP l:=sorted_ext h (sortP_srt l) fun q=>by rw[hm,sortP_mem]
theorem nodup_len{α:Type}[DecidableEq α]:∀ {l m:List α},l.Nodup→(∀ x∈l,x∈m)→l.length≤m.length
 | [],m,_,_=>by simp
 | a::l,m,hn,h=>by
  have hn:=List.nodup_cons.1 hn
  have h1:l.length≤(m.erase a).length:=nodup_len hn.2 fun x hx=>by
   refine(List.mem_erase_of_ne ?_).2 (h x (by simp[hx]))
   rintro rfl;exact hn.1 hx
  rw[List.length_erase_of_mem (h a (by simp))]at h1
  have:0<m.length:=List.length_pos_of_mem (h a (by simp))
  simp;omega
theorem Sorted.nodup{l:List Pos}(h:Sorted l):l.Nodup:=h.pw.imp fun{a b} hab e=>by
 subst e;rw[cmpP_refl]at hab;omega
theorem sortP_len(l:List Pos):(sortP l).length≤l.length:=nodup_len (Sorted.nodup (sortP_srt l)) fun x hx=>sortP_mem.1 hx
def ended(g:Game)(p:Pos):Prop:=∃ c∈g.clauses,condL p c
theorem not_ended{g:Game}{p:Pos}(h:¬ ended g p):∀ c∈g.clauses,¬ condL p c:=fun c hc hl=>h ⟨c,hc,hl⟩
def dropsL(g:Game)(p:Pos):List Pos:=(upto g.kinds.length).flatMap fun k=>(upto p.cs.length).map fun c=>drop1 p k c
theorem flatMap_len{α β:Type}{f:α→List β}{n:Nat}:∀ {l:List α},(∀ a∈l,(f a).length≤n)→(l.flatMap f).length≤l.length*n
 | [],_=>by simp
 | a::l,h=>by
  rw[List.flatMap_cons,List.length_append,List.length_cons,Nat.succ_mul]
  have:=h a (by simp)
  have:=flatMap_len (l:=l) fun b hb=>h b (by simp[hb])
  omega
theorem runL_len{g:Game}:∀ {l:List Stp} {a:List Sta},(runL g l a).length≤10 ^ l.length*a.length
 | [],a=>by simp[runL]
 | x::r,a=>by
  rw[runL]
  refine Nat.le_trans runL_len ?_
  rw[List.length_cons,Nat.pow_succ,Nat.mul_assoc]
  refine Nat.mul_le_mul_left _ ?_
  rw[Nat.mul_comm]
  exact flatMap_len fun s _=>stepL_len
theorem outsL_len{g:Game}(hg:GameOK g){p:Pos}(hp:PosOK g p):(outsL g p).length≤3600000000:=by
 have hz:=hp.size
 have hb:=hg.board.size
 have:(outsL g p).length≤(upto p.cs.length).length*400000000:=by
  refine flatMap_len fun c hc=>?_
  rw[mem_upto]at hc
  unfold outsAt
  split
  ·rename_i e
   have hst:=startS_ok hg hp hc.1 (by omega) e
   have hk:=hg.progs _ (gt_mem (l:=g.kinds) hst.kind.1 hst.kind.2)
   have h2:((gt g.kinds (manK (gt p.cs c))).progs.flatMap (outs1 g p c)).length≤(gt g.kinds (manK (gt p.cs c))).progs.length*100000000:=by
    refine flatMap_len fun l hl=>?_
    have h3:=(hk.2 l hl).len
    refine Nat.le_trans (List.length_filterMap_le _ _) (Nat.le_trans runL_len ?_)
    have:10 ^ l.length≤10 ^ 8:=Nat.pow_le_pow_right (by decide) h3.2
    simpa using this
   have h4:(gt g.kinds (manK (gt p.cs c))).progs.length≤4:=hk.1
   omega
  ·simp
 have e:(upto p.cs.length).length=p.cs.length:=by simp[upto]
 rw[e]at this
 omega
theorem dropsL_len{g:Game}(hg:GameOK g){p:Pos}(hp:PosOK g p):(dropsL g p).length≤18:=by
 have hz:=hp.size
 have hb:=hg.board.size
 have hk:=hg.kinds
 have:(dropsL g p).length≤(upto g.kinds.length).length*9:=flatMap_len fun k _=>by
  simp[upto];omega
 have e:(upto g.kinds.length).length=g.kinds.length:=by simp[upto]
 rw[e]at this
 omega
theorem move_fin{g:Game}{p q:Pos}(h:IsMove g p q):q∈(outsL g p).map (·.p)++dropsL g p:=by
 obtain⟨_,h⟩:=h
 split at h
 ·exact List.mem_append.2 (.inl (List.mem_map.2 ⟨_,h,rfl⟩))
 ·rcases h with⟨o,h,rfl⟩|⟨k,c,h1,h2,h3,h4,_,_,rfl⟩
  ·exact List.mem_append.2 (.inl (List.mem_map.2 ⟨_,h,rfl⟩))
  ·exact List.mem_append.2 (.inr (List.mem_flatMap.2 ⟨k,mem_upto.2 ⟨h1,h2⟩,List.mem_map.2 ⟨c,mem_upto.2 ⟨h3,h4⟩,rfl⟩⟩))
noncomputable def mvL(g:Game)(p:Pos):List Pos:=sortP (((outsL g p).map (·.p)++dropsL g p).filter fun q=>decide (IsMove g p q))
theorem mvL_srt(g:Game)(p:Pos):Sorted (mvL g p):=sortP_srt _
@[simp] theorem mvL_mem{g:Game}{p q:Pos}:q∈mvL g p↔IsMove g p q:=by
 unfold mvL
 rw[sortP_mem,List.mem_filter]
 simp only[decide_eq_true_eq]
 exact⟨fun h=>h.2,fun h=>⟨move_fin h,h⟩⟩
theorem mvL_eq{g:Game}{p:Pos}{r:List Pos}(h:Sorted r)(hm:∀ q,q∈r↔IsMove g p q):r=mvL g p:=sorted_ext h (mvL_srt g p) fun q=>by rw[hm,mvL_mem]
theorem mvL_ended{g:Game}{p:Pos}(h:ended g p):mvL g p = []:=by
 refine List.eq_nil_iff_forall_not_mem.2 fun q hq=>?_
 obtain⟨c,hc,hl⟩:=h
 exact(mvL_mem.1 hq).1 c hc hl
@[irreducible] noncomputable def mvD(g:Game)(p:Pos):D:=if ended g p then .emp else dPs (mvL g p)
theorem mvD_c(g:Game)(p:Pos):(mvD g p = .emp∧mvL g p = [])∨mvD g p=dPs (mvL g p):=by
 unfold mvD
 split
 ·rename_i h;exact .inl ⟨rfl,mvL_ended h⟩
 ·exact .inr rfl
theorem mvL_len{g:Game}(hg:GameOK g){p:Pos}(hp:PosOK g p):(mvL g p).length≤4000000000:=by
 refine Nat.le_trans (sortP_len _) (Nat.le_trans (List.length_filter_le _ _) ?_)
 have:=outsL_len hg hp
 have:=dropsL_len hg hp
 simp;omega
section
variable{g:Game}{p:Pos}{n:Int}{k:IntKind}{P:D→Prop}{H:Heap}
@[simp] theorem closed_mvD:closed (mvD g p)=true:=by rcases mvD_c g p with⟨h,_⟩|h<;>rw[h]<;>simp
@[simp] theorem len_mvD:lenO .slice (mvD g p) H=some (.i (mvL g p).length):=by rcases mvD_c g p with⟨h,e⟩|h<;>rw[h]<;>simp[*]
@[simp] theorem slcs_mvD:sliceCells 5 H (mvD g p)=some (cl Pos.cells (mvL g p),(mvL g p).length):=by rcases mvD_c g p with⟨h,e⟩|h<;>rw[h]<;>simp[*]
@[simp] theorem oA_idxMv:oA (idxAO 5 (mvD g p) (.val (.int k n))) P .mk=((0≤n∧n<(mvL g p).length)∧P (.fptr (gt (mvL g p) n).cells)):=by
 rcases mvD_c g p with⟨h,e⟩|h
 ·rw[h,e]
  simp only[idxAO,oA_none,List.length_nil]
  refine propext ⟨fun h=>h.elim,fun⟨h,_⟩=>?_⟩
  have:=h.1;have:=h.2;simp at this;omega
 ·rw[h];exact oA_idx
end
noncomputable def endI(g:Game)(p:Pos):Int:=if ended g p then(g.clauses.findIdx fun c=>decide (condL p c):Nat)else -1
theorem endI_in{g:Game}{p:Pos}(h:ended g p):0≤endI g p∧endI g p<g.clauses.length∧gt g.clauses (endI g p)∈g.clauses:=by
 unfold endI
 rw[if_pos h]
 have:(g.clauses.findIdx fun c=>decide (condL p c))<g.clauses.length:=by
  rw[List.findIdx_lt_length]
  obtain⟨c,hc,hl⟩:=h
  exact⟨c,hc,by simpa using hl⟩
 exact⟨by omega,by omega,gt_mem (by omega) (by omega)⟩
theorem endI_no{g:Game}{p:Pos}(h:¬ ended g p):endI g p = -1:=by unfold endI;rw[if_neg h]
theorem endI_nonneg{g:Game}{p:Pos}:0≤endI g p↔ended g p:=by
 by_cases h:ended g p
 ·exact⟨fun _=>h,fun _=>(endI_in h).1⟩
 ·rw[endI_no h];simp[h]
noncomputable def stat(g:Game)(p:Pos):Int×Bool:=(if ended g p then(gt g.clauses (endI g p)).out else if mvL g p = []then g.blocked else 0,decide (mvL g p = []))
end Go.AL
namespace Go.Proofs.YtnaefnajkaohgaaGreatDoor
open Go Go.AL Classical
set_option maxRecDepth 10000
set_option maxHeartbeats 1000000
theorem f155a(p:Pos)(hp:Small p):Wf T 155 [dP p] [] (fun d H=>d = .agg [.osl 0 1 1 0 p.cs.length,dI p.h0,dI p.h1,.i p.rights,.i p.side]∧H = [.row 3 1 (cl f1 p.cs)]):=by
 obtain⟨h1,h2,h3⟩:=hp
 refine Wf.xo 3 (fn:=F155) rfl (by simp[F155]) ?_
 simp[F155]
 (with_reducible repeat' first|refine Xk ?_<;>try simp|refine Xs ?_ ?_<;>intro h<;>(try intro h')<;>(try simp[h])<;>(try omega)|refine Xg ?_|omega)
@[irreducible] def fA(a:List Sta):List D:=[dSt a]
theorem fA_def(a:List Sta):fA a = [dSt a]:=by unfold fA;rfl
instance:Fl fA 1:=⟨fun _=>by simp[fA_def],fun _=>by simp[fA_def,closedL]⟩
@[simp] theorem clA_snoc(l:List (List Sta))(x:List Sta):cl fA l ++ [dSt x]=cl fA (l ++ [x]):=by rw[← cl_snoc,fA_def]
theorem clA_one(x:List Sta) : [dSt x]=cl fA [x]:=by rw[cl_cons,fA_def];simp
def nextL(g:Game)(x:Stp)(now:List Sta):List Sta:=now.foldl (fun acc s=>addL acc (stepL g s x)) []
def stepsL(g:Game):List Stp→List Sta→List (List Sta)
 | [],_=>[]
 | x::r,now=>nextL g x now::stepsL g r (nextL g x now)
theorem foldl_add_mem{g:Game}{x:Stp}{t:Sta}:∀ {now acc:List Sta},t∈now.foldl (fun acc s=>addL acc (stepL g s x)) acc↔t∈acc∨t∈now.flatMap fun s=>stepL g s x
 | [],acc=>by simp
 | s::r,acc=>by
  rw[List.foldl_cons,foldl_add_mem,addL_mem,List.flatMap_cons,List.mem_append,or_assoc]
theorem nextL_mem{g:Game}{x:Stp}{now:List Sta}{t:Sta}:t∈nextL g x now↔t∈now.flatMap fun s=>stepL g s x:=by
 unfold nextL;rw[foldl_add_mem];simp
theorem foldl_add_len{g:Game}{x:Stp}:∀ {now acc:List Sta},(now.foldl (fun acc s=>addL acc (stepL g s x)) acc).length≤acc.length+10*now.length
 | [],acc=>by simp
 | s::r,acc=>by
  rw[List.foldl_cons]
  refine Nat.le_trans foldl_add_len ?_
  have:=addL_len (a:=acc) (b:=stepL g s x)
  have:=stepL_len (g:=g) (s:=s) (x:=x)
  rw[List.length_cons];omega
theorem nextL_len{g:Game}{x:Stp}{now:List Sta}:(nextL g x now).length≤10*now.length:=by
 unfold nextL
 refine Nat.le_trans foldl_add_len ?_
 simp
theorem stepsL_len{g:Game}:∀ {l:List Stp} {now:List Sta},(stepsL g l now).length=l.length
 | [],_=>rfl
 | x::r,now=>by rw[stepsL,List.length_cons,stepsL_len,List.length_cons]
theorem f194(g:Game)(hg:GameOK g)(p:Pos)(hp:PosOK g p)(c i:Int)(hc:0≤c∧c<g.size)(hm:manS (gt p.cs c)=p.side)(hi:0≤i∧i<(gt g.kinds (manK (gt p.cs c))).progs.length) :
  Wf T 194 [dG g,dP p,.i c,.i i] [] (Is (.agg [.sl 1 (([startS p c]::stepsL g (gt (gt g.kinds (manK (gt p.cs c))).progs i) [startS p c]).map fA),.i 0])):=by
 have hsz:=hp.size
 have hsm:=hp.small hg
 have hcs:=hp.cs _ (gt_mem hc.1 (by omega))
 have hsd:=hp.side
 obtain⟨m1,m2,m3,m4⟩:=manS_side hsd.1 hm
 have hk:manK (gt p.cs c)<g.kinds.length:=manK_le hcs.2 hg.kinds.1
 refine Yz F194 (insB 117 [10] F194.body) ?_
 simp[F194,insB,insC,befK,froK,hasK,headIs]
 refine Yc (f65 g p hg hp) ?_
 simp
 (with_reducible repeat' first|refine Xk ?_<;>try simp|refine Xs ?_ ?_<;>intro h<;>(try intro h')<;>(try simp[h])<;>(try omega)|refine Xg ?_|omega)
 refine Yc (f51 _) ?_
 simp
 (with_reducible repeat' first|refine Xk ?_<;>try simp|refine Xs ?_ ?_<;>intro h<;>(try intro h')<;>(try simp[h])<;>(try omega)|refine Xg ?_|omega)
 rotate_right
 refine XTCallN.n rfl rfl (f155a p hsm) (by simp) (by simp) ?_
 simp
 (with_reducible repeat' first|refine Xk ?_<;>try simp|refine Xs ?_ ?_<;>intro h<;>(try intro h')<;>(try simp[h])<;>(try omega)|refine Xg ?_|omega)
 refine XLoop.fz [0,1,3,4,5,6,8] rfl ?_
 have q0:=pt_len (l:=p.cs) (n:=c) (v:=0) hc.1 (by omega)
 have hst:StaOK g (startS p c):=startS_ok hg hp hc.1 hc.2 hm
 have hprog:=hg.progs _ (gt_mem (l:=g.kinds) m1 hk)
 generalize hpr:gt (gt g.kinds (manK (gt p.cs c))).progs i=prog at *
 have hpok:ProgOK g prog:=hprog.2 _ (hpr▸gt_mem hi.1 hi.2)
 have hp8:=hpok.len
 refine XLoop.k ((0,[[startS p c]],[startS p c]):Int×List (List Sta)×List Sta) (fun x=>[(4,.fptr g.cells),(8,.ptr 2 0 0),(11,.ptr 9 0 0),(12,dSt x.2.2),(13,dProg prog),(14,.i x.1)]) (fun x=>[.dead,.dead,.row 278 0 [.emp,.i 0],.dead,.dead,.dead,.dead,.row 280 x.1.toNat (cl fA x.2.1),.dead,.row 278 0 [.osl 7 x.1.toNat 1 0 x.2.1.length,.i 0]])
  (fun x=>0≤x.1∧x.1≤prog.length∧x.2.1.length=x.1.toNat+1∧(∀ s∈x.2.2,StaOK g s)∧x.2.2.length≤10 ^ x.1.toNat∧[startS p c]::stepsL g prog [startS p c]=x.2.1++stepsL g (prog.drop x.1.toNat) x.2.2) (fun x=>prog.length-x.1.toNat) ?_ ?_ ?_ rfl rfl (by simp) ?_
 ·simp;exact hst
 ·simp[startS,q0]
 ·simp[startS,← clA_one,q0]
 rintro⟨k,steps,now⟩ ⟨k0,k1,k2,k3,k4,k5⟩
 dsimp only at k0 k1 k2 k3 k4 k5 ⊢
 simp
 (with_reducible repeat' first|refine Xk ?_<;>try simp|refine Xs ?_ ?_<;>intro h<;>(try intro h')<;>(try simp[h])<;>(try omega)|refine Xg ?_|omega)
 ·refine XLoop.e ((0,0,[]):Int×Nat×List Sta) (fun x=>[(4,.fptr g.cells),(8,.ptr 2 0 0),(11,.ptr 9 0 0),(12,dSt now),(13,dProg prog),(14,.i k),(15,.osl 10 x.2.1 8 0 x.2.2.length),(16,.i x.1)]) (fun x=>[.dead,.dead,.row 278 0 [.emp,.i 0],.dead,.dead,.dead,.dead,.row 280 k.toNat (cl fA steps),.dead,.row 278 0 [.osl 7 k.toNat 1 0 steps.length,.i 0],.row 282 x.2.1 (cl Sta.cells x.2.2)]) (fun x=>0≤x.1∧x.1≤now.length∧(∀ s∈x.2.2,StaOK g s)∧x.2.2.length≤10*x.1.toNat∧nextL g (gt prog k) now=(now.drop x.1.toNat).foldl (fun acc s=>addL acc (stepL g s (gt prog k))) x.2.2) (fun x=>now.length-x.1.toNat) ?_ ?_
  ·simp[nextL]
  rintro⟨j,gn,acc⟩ ⟨j0,j1,j2,j3,j4⟩
  dsimp only at j0 j1 j2 j3 j4 ⊢
  simp
  (with_reducible repeat' first|refine Xk ?_<;>try simp|refine Xs ?_ ?_<;>intro h<;>(try intro h')<;>(try simp[h])<;>(try omega)|refine Xg ?_|omega)
  ·refine Yt (f228 g hg _ (k3 _ (gt_mem j0 ‹_›)) _ (hpok.steps _ (gt_mem k0 ‹_›))) ?_
   simp
   have hok:=k3 _ (gt_mem j0 ‹_›)
   refine XCall.isF rfl rfl (f227 10 gn acc (stepL g (gt now j) (gt prog k)) _ rfl (by simp) (fun s hs=>(j2 s hs).p.small hg) (fun s hs=>(stepL_ok hg hok (hpok.steps _ (gt_mem k0 ‹_›)) hs).p.small hg) ?_) ?_
   ·have h1:=stepL_len (g:=g) (s:=gt now j) (x:=gt prog k)
    have h2:10 ^ k.toNat≤10 ^ 8:=Nat.pow_le_pow_right (by decide) (by omega)
    omega
   rintro d H' ⟨gen',rfl,rfl⟩
   simp
   have h2:10 ^ k.toNat≤10 ^ 8:=Nat.pow_le_pow_right (by decide) (by omega)
   (with_reducible repeat' first|refine Xk ?_<;>try simp|refine Xs ?_ ?_<;>intro h<;>(try intro h')<;>(try simp[h])<;>(try omega)|refine Xg ?_|omega)
   refine LJ.e (j+1,gen',addL acc (stepL g (gt now j) (gt prog k))) ?_
   refine⟨by dsimp only;omega,by dsimp only;omega,by dsimp only;omega,fun s hs=>?_,?_,?_⟩
   ·rcases addL_mem.1 hs with hs|hs
    ·exact j2 s hs
    ·exact stepL_ok hg hok (hpok.steps _ (gt_mem k0 ‹_›)) hs
   ·have h1:=stepL_len (g:=g) (s:=gt now j) (x:=gt prog k)
    have h3:=addL_len (a:=acc) (b:=stepL g (gt now j) (gt prog k))
    dsimp only
    omega
   ·rw[j4,drop_gt j0 ‹_›,List.foldl_cons,show(j+1).toNat=j.toNat+1 by omega]
  ·have e:nextL g (gt prog k) now=acc:=by rw[j4,List.drop_of_length_le (by omega)];rfl
   (with_reducible repeat' first|refine Xk ?_<;>try simp|refine Xs ?_ ?_<;>intro h<;>(try intro h')<;>(try simp[h])<;>(try omega)|refine Xg ?_|omega)
   refine LJ.i (k+1,steps ++ [acc],acc) (by first|rfl|simp[show(k+1).toNat=k.toNat+1 by omega]) (by first|rfl|simp[show(k+1).toNat=k.toNat+1 by omega]) rfl rfl ?_
   refine⟨by dsimp only;omega,by dsimp only;omega,by dsimp only;omega,by simp;omega,j2,?_,?_⟩
   ·have h3:=nextL_len (g:=g) (x:=gt prog k) (now:=now)
    rw[e]at h3
    dsimp only
    rw[show(k+1).toNat=k.toNat+1 by omega,Nat.pow_succ]
    omega
   ·rw[k5,drop_gt k0 ‹_›,stepsL,e,show(k+1).toNat=k.toNat+1 by omega]
    simp
 ·rw[List.drop_of_length_le (by omega),stepsL,List.append_nil]at k5
  rw[← k5];simp
set_option maxRecDepth 10000
set_option maxHeartbeats 1000000
theorem lessO_eq{a b:Outc}(h1:¬ lessO a b)(h2:¬ lessO b a):a=b:=by
 unfold lessO at *
 have e:=cmpP_swap a.p b.p
 have h:cmpP a.p b.p=0:=by
  by_cases h:cmpP a.p b.p=0
  ·exact h
  ·exfalso
   by_cases h3:cmpP a.p b.p<0
   ·exact h1 (.inl h3)
   ·exact h2 (.inl (by omega))
 have h':cmpP b.p a.p=0:=by omega
 simp[h,h']at h1 h2
 have:=cmpP_zero.1 h
 cases a;cases b
 simp_all
 rename_i x y _
 cases x<;>cases y<;>simp_all
structure InsI(l:List Outc)(x:Outc)(i:Int)(d:Bool)(out:List Outc):Prop where
 i0:0≤i∧i≤l.length
 dn:d=true→x∈out
 sub:∀ o∈out,o∈l.take i.toNat∨o=x
 sup:∀ o∈l.take i.toNat,o∈out
 len:out.length≤i.toNat+(if d then 1 else 0)
theorem InsI.step{l:List Outc}{x:Outc}{i:Int}{d d':Bool}{out:List Outc}(h:InsI l x i d out)(hi:i<l.length)(xs:List Outc)(hx:∀ o∈xs,o=x)(hd:d'=true→d=true∨x∈xs∨gt l i=x)(hl:xs.length+(if d then 1 else 0)≤(if d' then 1 else 0)):InsI l x (i+1) d' (out++xs ++ [gt l i]):=by
 have h0:=h.i0
 refine⟨by omega,fun e=>?_,fun o ho=>?_,fun o ho=>?_,?_⟩
 ·rcases hd e with e|e|e
  ·have:=h.dn e;simp[this]
  ·simp[e]
  ·simp[e]
 ·rw[take_gt h0.1 hi]
  simp at ho ⊢
  rcases ho with ho|ho|ho
  ·rcases h.sub o ho with h|h
   ·exact .inl (.inl h)
   ·exact .inr h
  ·exact .inr (hx o ho)
  ·exact .inl (.inr ho)
 ·rw[take_gt h0.1 hi]at ho
  simp at ho ⊢
  rcases ho with ho|ho
  ·exact .inl (h.sup o ho)
  ·exact .inr (.inr ho)
 ·have:=h.len
  simp
  omega
theorem f195(l:List Outc)(x:Outc)(hl:l.length<2 ^ 39)(hs:∀ o∈l,Small o.p)(hx:Small x.p):Wf T 195 [dOut l,.agg x.cells] [] (Ex dOut fun r=>(∀ o,o∈r↔o∈l∨o=x)∧r.length≤l.length+1):=by
 refine Yg F195 ?_
 simp[F195]
 refine XLoop.e ((0,false,[]):Int×Bool×List Outc) (fun y=>[(0,dOut l),(3,.ptr 0 0 0),(5,.osl 1 y.2.2.length 6 0 y.2.2.length),(6,.b y.2.1),(7,.i y.1)]) (fun y=>[.row 113 0 x.cells,.row 113 y.2.2.length (cl Outc.cells y.2.2)]) (fun y=>InsI l x y.1 y.2.1 y.2.2) (fun y=>l.length-y.1.toNat) ?_ ?_
 ·exact⟨by simp,by simp,by simp,by simp,by simp⟩
 rintro⟨i,done,out⟩ hI
 have h0:=hI.i0
 have h5:=hI.len
 have h6:(if done=true then 1 else 0)≤1:=by split<;>omega
 dsimp only at hI h0 h5 ⊢
 simp
 (with_reducible repeat' first|refine Xk ?_<;>try simp|refine Xs ?_ ?_<;>intro h<;>(try intro h')<;>(try simp[h])<;>(try omega)|refine Xg ?_|omega)
 ·refine LJ.e (i+1,true,out ++ [gt l i]) ?_
  subst h
  have:=hI.step ‹_› [] (d':=true) (by simp) (by simp) (by simp)
  simp at this
  exact⟨by simp;omega,this⟩
 ·have hd:=h
  refine Yt (f229 _ _ (hs _ (gt_mem h0.1 ‹_›)) hx) ?_
  simp[h]
  (with_reducible repeat' first|refine Xk ?_<;>try simp[hd]|refine Xs ?_ ?_<;>intro h<;>(try intro h')<;>(try simp[h,hd])<;>(try omega)|refine Xg ?_|omega)
  ·subst hd
   have:=hI.step ‹_› [] (d':=false) (by simp) (by simp) (by simp)
   simp at this
   refine LJ.e (i+1,false,out ++ [gt l i]) ?_
   exact⟨by simp;omega,this⟩
  ·refine Yt (f229 _ _ hx (hs _ (gt_mem h0.1 ‹_›))) ?_
   simp[hd]
   (with_reducible repeat' first|refine Xk ?_<;>try simp[hd]|refine Xs ?_ ?_<;>intro h<;>(try intro h')<;>(try simp[h,hd])<;>(try omega)|refine Xg ?_|omega)
   ·subst hd
    have:=hI.step ‹_› [x] (d':=true) (by simp) (by simp) (by simp)
    refine LJ.e (i+1,true,out ++ [x] ++ [gt l i]) ?_
    exact⟨by simp;omega,this⟩
   ·subst hd
    have e:=lessO_eq (a:=gt l i) (b:=x) ‹_› ‹_›
    have:=hI.step ‹_› [] (d':=true) (by simp) (by simp[e]) (by simp)
    simp at this
    refine LJ.e (i+1,true,out ++ [gt l i]) ?_
    exact⟨by simp;omega,this⟩
 ·subst h
  have h3:=hI.sub
  have h4:=hI.sup
  rw[take_all (by omega)]at h3 h4
  refine⟨out,rfl,fun o=>⟨h3 o,fun h=>?_⟩,by simp at h5;omega⟩
  rcases h with h|h
  ·exact h4 o h
  ·rw[h];exact hI.dn rfl
 ·subst h
  have h3:=hI.sub
  have h4:=hI.sup
  rw[take_all (by omega)]at h3 h4
  refine⟨out ++ [x],by simp[dOut],fun o=>?_,by simp at h5;simp;omega⟩
  simp
  constructor
  ·rintro(h|h)
   ·exact h3 o h
   ·exact .inr h
  ·rintro(h|h)
   ·exact .inl (h4 o h)
   ·exact .inr h
theorem last_mem{g:Game}:∀ {l:List Stp} {now:List Sta} {t:Sta},t∈gt (now::stepsL g l now) l.length↔t∈runL g l now
 | [],now,t=>by simp[stepsL,runL,gt]
 | x::r,now,t=>by
  have e:gt (now::stepsL g (x::r) now) (x::r).length=gt (nextL g x now::stepsL g r (nextL g x now)) r.length:=by
   rw[stepsL]
   unfold gt
   simp only[List.length_cons,Int.toNat_natCast,List.getD_cons_succ]
  rw[e,last_mem,runL]
  exact runL_congr (fun s=>nextL_mem) t
theorem last_len{g:Game}:∀ {l:List Stp} {now:List Sta},(gt (now::stepsL g l now) l.length).length≤10 ^ l.length*now.length
 | [],now=>by simp[stepsL,gt]
 | x::r,now=>by
  have e:gt (now::stepsL g (x::r) now) (x::r).length=gt (nextL g x now::stepsL g r (nextL g x now)) r.length:=by
   rw[stepsL]
   unfold gt
   simp only[List.length_cons,Int.toNat_natCast,List.getD_cons_succ]
  rw[e]
  refine Nat.le_trans last_len ?_
  rw[List.length_cons,Nat.pow_succ,Nat.mul_assoc]
  exact Nat.mul_le_mul_left _ nextL_len
theorem f154(g:Game)(hg:GameOK g)(p:Pos)(hp:PosOK g p)(c i:Int)(hc:0≤c∧c<g.size)(hm:manS (gt p.cs c)=p.side)(hi:0≤i∧i<(gt g.kinds (manK (gt p.cs c))).progs.length) :
  Wf T 154 [dG g,dP p,.i c,.i i] [] (Ex (fun r=>.tup [dOut r,.i 0]) fun r=>(∀ o,o∈r↔o∈outs1 g p c (gt (gt g.kinds (manK (gt p.cs c))).progs i))∧r.length≤10 ^ 8):=by
 have hcs:=hp.cs _ (gt_mem hc.1 (by have:=hp.size;omega))
 have hsd:=hp.side
 obtain⟨m1,m2,m3,m4⟩:=manS_side hsd.1 hm
 have hk:manK (gt p.cs c)<g.kinds.length:=manK_le hcs.2 hg.kinds.1
 have hst:StaOK g (startS p c):=startS_ok hg hp hc.1 hc.2 hm
 have hprog:=hg.progs _ (gt_mem (l:=g.kinds) m1 hk)
 have c1:=f194 g hg p hp c i hc hm hi
 generalize hpr:gt (gt g.kinds (manK (gt p.cs c))).progs i=prog at *
 have hpok:ProgOK g prog:=hprog.2 _ (hpr▸gt_mem hi.1 hi.2)
 have hp8:=hpok.len
 have hlm:∀ t,t∈gt ([startS p c]::stepsL g prog [startS p c]) prog.length↔t∈runL g prog [startS p c]:=fun t=>last_mem
 have hll:=last_len (g:=g) (l:=prog) (now:=[startS p c])
 have h8:10 ^ prog.length≤10 ^ 8:=Nat.pow_le_pow_right (by decide) hp8.2
 have hsl:=stepsL_len (g:=g) (l:=prog) (now:=[startS p c])
 generalize hS : [startS p c]::stepsL g prog [startS p c]=S at *
 have hSl:S.length=prog.length+1:=by rw[← hS];simp[hsl]
 refine Yz F154 (insB 70 [5] F154.body) ?_
 simp[F154,insB,insC,befK,froK,hasK,headIs]
 refine Yc (c1) ?_
 simp
 (with_reducible repeat' first|refine Xk ?_<;>try simp[fA_def]|refine Xs ?_ ?_<;>intro h<;>(try intro h')<;>(try simp[h,fA_def])<;>(try omega)|refine Xg ?_|omega)
 rw[show(S.length:Int)-1=prog.length by omega]
 generalize gt S (prog.length:Int)=L at *
 have hok:∀ s∈L,StaOK g s:=fun s hs=>runL_ok hg hpok.steps (fun t ht=>by rw[List.mem_singleton]at ht;subst ht;exact hst) s ((hlm s).1 hs)
 have hL8:L.length≤100000000:=by simp at hll;omega
 simp[fA_def]
 (with_reducible repeat' first|refine Xk ?_<;>try simp|refine Xs ?_ ?_<;>intro h<;>(try intro h')<;>(try simp[h])<;>(try omega)|refine Xg ?_|omega)
 refine XLoop.fz [0,2,3] rfl ?_
 refine XLoop.e ((0,[]):Int×List Outc) (fun y=>[(5,.ptr 1 0 0),(11,dOut y.2),(12,dSt L),(13,.i y.1)]) (fun y=>[.dead,.row 44 0 p.cells,.dead,.dead]) (fun y=>0≤y.1∧y.1≤L.length∧(∀ o,o∈y.2↔o∈(L.take y.1.toNat).filterMap (finS p.side))∧y.2.length≤y.1.toNat) (fun y=>L.length-y.1.toNat) ?_ ?_
 ·simp
 rintro⟨j,out⟩ ⟨j0,j1,j2,j3⟩
 dsimp only at j0 j1 j2 j3 ⊢
 simp
 (with_reducible repeat' first|refine Xk ?_<;>try simp|refine Xs ?_ ?_<;>intro h<;>(try intro h')<;>(try simp[h])<;>(try omega)|refine Xg ?_|omega)
 ·have hs:=hok _ (gt_mem j0 ‹_›)
  have hss:=hs.p.small hg
  have hz:=hs.p.size
  have hcu:=hs.cur
  have hki:=hs.kind
  have hk2:=hg.kinds
  generalize hgs:gt L j=s at *
  (with_reducible repeat' first|refine Xk ?_<;>try simp|refine Xs ?_ ?_<;>intro h<;>(try intro h')<;>(try simp[h])<;>(try omega)|refine Xg ?_|omega)
  ·have q:=pt_len (l:=s.p.cs) (n:=s.cur) (v:=1+2*s.kind+p.side) hcu.1 (by omega)
   refine Yn (f155a s.p hss) ?_
   simp
   refine Yt (f156 (k:=s.kind) (s:=p.side) hki.1 (by omega) hsd.1 hsd.2) ?_
   simp[q]
   (with_reducible repeat' first|refine Xk ?_<;>try simp[q]|refine Xs ?_ ?_<;>intro h<;>(try intro h')<;>(try simp[h,q])<;>(try omega)|refine Xg ?_|omega)
   generalize ho:({ p:=⟨pt s.p.cs s.cur (1+2*s.kind+p.side),s.p.h0,s.p.h1,s.p.rights,1-p.side⟩,took:=s.took }:Outc)=o
   have ho2:finS p.side s=some o:=by rw[finS,if_pos ‹_›,← ho];rfl
   have hos:Small o.p:=PosOK.small hg (finS_ok hs hsd.1 hsd.2 ho2)
   have hsm:∀ o∈out,Small o.p:=fun o ho=>by
    obtain⟨t,ht,h3⟩:=List.mem_filterMap.1 ((j2 o).1 ho)
    exact PosOK.small hg (finS_ok (hok t (List.mem_of_mem_take ht)) hsd.1 hsd.2 h3)
   have c2:=f195 out o (by omega) hsm hos
   rw[← ho]at c2
   refine XCall.q rfl rfl c2 (by simp) (fun _=>by simp) ?_
   intro r hr
   simp
   rw[ho]at hr
   (with_reducible repeat' first|refine Xk ?_<;>try simp|refine Xs ?_ ?_<;>intro h<;>(try intro h')<;>(try simp[h])<;>(try omega)|refine Xg ?_|omega)
   refine LJ.e (j+1,r) ?_
   refine⟨by dsimp only;omega,by dsimp only;omega,by dsimp only;omega,fun x=>?_,by dsimp only;omega⟩
   rw[hr.1,j2,take_gt j0 ‹_›,hgs]
   simp[ho2,eq_comm]
  ·(with_reducible repeat' first|refine Xk ?_<;>try simp|refine Xs ?_ ?_<;>intro h<;>(try intro h')<;>(try simp[h])<;>(try omega)|refine Xg ?_|omega)
   refine LJ.e (j+1,out) ?_
   refine⟨by dsimp only;omega,by dsimp only;omega,by dsimp only;omega,fun x=>?_,by dsimp only;omega⟩
   rw[j2,take_gt j0 ‹_›,hgs]
   have:finS p.side s=none:=by rw[finS,if_neg ‹_›]
   simp[this]
 ·rw[take_all (by omega)]at j2
  refine⟨out,rfl,fun o=>?_,?_⟩
  ·rw[j2,outs1]
   simp only[List.mem_filterMap,hlm]
  ·omega
end Go.Proofs.YtnaefnajkaohgaaGreatDoor

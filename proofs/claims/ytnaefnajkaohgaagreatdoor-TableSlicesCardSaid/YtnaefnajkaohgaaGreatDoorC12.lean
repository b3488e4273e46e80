/- Part 12 of the proof of skewer.skewerlaw15.TableSlices. -/
import Derived.Test.YtnaefnajkaohgaaGreatDoorC11
set_option linter.all false
namespace Go.Proofs.YtnaefnajkaohgaaGreatDoor
open Go Go.AL Classical
set_option maxRecDepth 10000
set_option maxHeartbeats 1000000
theorem f253(g:Game)(hg:GameOK g)(s:Sta)(hs:StaOK g s)(n:Int):Wf T 253 [dG g,.agg s.cells,.i n] [] (Is (dSt (lineSt s (lineB g s.p.side n s.cur)))):=by
 have hl:=lineB_len (g:=g) (s:=s.p.side) (d:=n) (c:=s.cur)
 have hsz:=hs.p.size
 refine Yg F253 ?_
 simp[F253]
 refine Yc (f263 g hg.board s.p.side n s.cur) ?_
 simp
 generalize hL:lineB g s.p.side n s.cur=L at *
 have hin:∀ y∈L,0≤y∧y<g.size:=fun y hy=>lineB_in hg.board (hL▸hy)
 refine XLoop.j ((0,[]):Int×List Sta) (fun x=>[(4,.ptr 1 0 0),(7,.osl 2 x.2.length 8 0 x.2.length),(8,dI L),(9,.i x.1)]) (fun x=>[.row 41 0 g.cells,.row 282 0 s.cells,.row 282 x.2.length (cl Sta.cells x.2)]) (fun x=>0≤x.1∧x.1≤L.length∧x.2.length=x.1.toNat∧lineSt s L=x.2++lineSt s (L.drop x.1.toNat)) (fun x=>L.length-x.1.toNat) ?_ (by simp) (by first|rfl|simp) rfl ?_
 ·simp
 rintro⟨i,out⟩ ⟨h0,h1,h2,h3⟩
 dsimp only at h0 h1 h2 h3 ⊢
 simp
 (with_reducible repeat' first|refine Xk ?_<;>try simp|refine Xs ?_ ?_<;>intro h<;>(try intro h')<;>(try simp[h])<;>(try omega)|refine Xg ?_|omega)
 ·have hc:=hin _ (gt_mem h0 ‹_›)
  rw[drop_gt h0 ‹_›,lineSt]at h3
  (with_reducible repeat' first|refine Xk ?_<;>try simp|refine Xs ?_ ?_<;>intro h<;>(try intro h')<;>(try simp[h])<;>(try omega)|refine Xg ?_|omega)
  ·refine⟨i+1,out ++ [{ s with cur:=gt L i }],by simp,rfl,by simp,by rw[← cl_snoc],by omega,by omega,by omega,by simp[h2];omega,?_⟩
   rw[h3,if_pos ‹_›,show(i+1).toNat=i.toNat+1 by omega];simp
  ·rw[if_neg ‹_›]at h3
   rw[h3]
   simp[dSt]
 ·rw[List.drop_of_length_le (by omega)]at h3
  rw[h3];simp[lineSt]
theorem manS_other{n s:Int}(_:0≤n)(hk:0≤manK n)(h:manS n≠s)(hs:0≤s∧s≤1):manS n=1-s:=by
 unfold manK manS at *
 split at hk
 ·rename_i e;rw[if_pos e]at h ⊢;omega
 ·omega
theorem f254(g:Game)(hg:GameOK g)(s:Sta)(hs:StaOK g s):Wf T 254 [dG g,.agg s.cells] [] (Is (dSt (takeS g s))):=by
 have hsz:=hs.p.size
 have hcur:=hs.cur
 have hsm:=hs.p.small hg
 refine Yg F254 ?_
 simp[F254]
 (with_reducible repeat' first|refine Xk ?_<;>try simp|refine Xs ?_ ?_<;>intro h<;>(try intro h')<;>(try simp[h])<;>(try omega)|refine Xg ?_|omega)
 refine Yc (f51 _) ?_
 simp
 have hcs:=hs.p.cs _ (gt_mem hcur.1 (by omega))
 have hk1:=hg.kinds
 have hsd:=hs.p.side
 (with_reducible repeat' first|refine Xk ?_<;>try simp|refine Xs ?_ ?_<;>intro h<;>(try intro h')<;>(try simp[h])<;>(try omega)|refine Xg ?_|omega)
 ·rw[takeS,if_pos]
  unfold manK at *;unfold manS
  split at h<;>rename_i h5
  ·omega
  ·rw[if_neg h5];omega
 ·rw[takeS,if_pos (by omega)]
 ·have hm:manK (gt s.p.cs s.cur)<g.kinds.length:=manK_le hcs.2 hk1.1
  have hs01:s.p.side=0∨s.p.side=1:=by omega
  have l0:=hs.p.h0.len
  have l1:=hs.p.h1.len
  have q0:=pt_len (l:=s.p.cs) (n:=s.cur) (v:=0) hcur.1 (by omega)
  refine Yn (f155o s.p hsm) ?_
  simp
  (with_reducible repeat' first|refine Xk ?_<;>try simp[q0]|refine Xs ?_ ?_<;>intro h<;>(try intro h')<;>(try simp[h,q0])<;>(try omega)|refine Xg ?_|omega)
  ·have hx:manS (gt s.p.cs s.cur)=1-s.p.side:=manS_other hcs.1 (by omega) (by assumption) hsd
   have hkp:=h
   rcases hs01 with e|e
   ·have ha:=hs.p.h0.at_ _ (by omega) (show manK (gt s.p.cs s.cur)<s.p.h0.length by omega)
    have q1:=gt_pt_eq (l:=s.p.h0) (n:=manK (gt s.p.cs s.cur)) (v:=gt s.p.h0 (manK (gt s.p.cs s.cur))+1) (by omega) (by omega)
    have q2:=pt_len (l:=s.p.h0) (n:=manK (gt s.p.cs s.cur)) (v:=gt s.p.h0 (manK (gt s.p.cs s.cur))+1) (by omega) (by omega)
    simp[e,q1,q2]
    (with_reducible repeat' first|refine Xk ?_<;>try simp|refine Xs ?_ ?_<;>intro h<;>(try intro h')<;>(try simp[h])<;>(try omega)|refine Xg ?_|omega)
    all_goals simp[takeS,hx,hkp,Pos.hand,Pos.putHand,e,q0,q2]
    ·rw[if_neg (by omega)]
    ·rw[if_pos (by omega)]
   ·have ha:=hs.p.h1.at_ _ (by omega) (show manK (gt s.p.cs s.cur)<s.p.h1.length by omega)
    have q1:=gt_pt_eq (l:=s.p.h1) (n:=manK (gt s.p.cs s.cur)) (v:=gt s.p.h1 (manK (gt s.p.cs s.cur))+1) (by omega) (by omega)
    have q2:=pt_len (l:=s.p.h1) (n:=manK (gt s.p.cs s.cur)) (v:=gt s.p.h1 (manK (gt s.p.cs s.cur))+1) (by omega) (by omega)
    simp[e,q1,q2]
    (with_reducible repeat' first|refine Xk ?_<;>try simp|refine Xs ?_ ?_<;>intro h<;>(try intro h')<;>(try simp[h])<;>(try omega)|refine Xg ?_|omega)
    all_goals simp[takeS,hx,hkp,Pos.hand,Pos.putHand,e,q0,q2]
    ·rw[if_neg (by omega)]
    ·rw[if_pos (by omega)]
  ·have hx:manS (gt s.p.cs s.cur)=1-s.p.side:=manS_other hcs.1 (by omega) (by assumption) hsd
   simp[takeS,hx,h,q0]
theorem f255(g:Game)(hg:GameOK g)(s:Sta)(hs:StaOK g s)(n:Int):Wf T 255 [dG g,.agg s.cells,.i n] [] (Is (dSt (pushS g s n))):=by
 have hsz:=hs.p.size
 have hcur:=hs.cur
 have hsm:=hs.p.small hg
 have ht:=hg.board.to s.p.side n s.cur
 refine Yg F255 ?_
 simp[F255]
 refine Yc (f251 g hg.board s.p.side n s.cur) ?_
 simp
 (with_reducible repeat' first|refine Xk ?_<;>try simp|refine Xs ?_ ?_<;>intro h<;>(try intro h')<;>(try simp[h])<;>(try omega)|refine Xg ?_|omega)
 ·rw[pushS,if_pos (by simp_all)]
 ·rw[pushS,if_pos (by simp_all)]
 ·have q0:=pt_len (l:=s.p.cs) (n:=toB g s.p.side n s.cur) (v:=gt s.p.cs s.cur) (by omega) (by omega)
  have q1:=pt_len (l:=pt s.p.cs (toB g s.p.side n s.cur) (gt s.p.cs s.cur)) (n:=s.cur) (v:=0) hcur.1 (by omega)
  refine Yn (f155o s.p hsm) ?_
  simp
  (with_reducible repeat' first|refine Xk ?_<;>try simp[q0,q1]|refine Xs ?_ ?_<;>intro h<;>(try intro h')<;>(try simp[h,q0,q1])<;>(try omega)|refine Xg ?_|omega)
  simp[pushS, *]
 ·rw[pushS,if_pos (by simp_all)]
end Go.Proofs.YtnaefnajkaohgaaGreatDoor
namespace Go.AL
open Go
def simD(n:Nat):D→Bool
 | .osl v _ _ _ _ | .ptr v _ _ | .omap v | .yld v=>decide (v<n)
 | d=>closed d
def simA(n:Nat):D→Bool
 | .agg cs | .tup cs | .fptr cs=>cs.all (simD n)
 | .fn _ a b=>a.all (simD n)&&b.all (simD n)
 | d=>simD n d
def okOb(n:Nat):Ob→Bool
 | .row _ _ cs=>cs.all (simA n)
 | .map _ es=>es.all fun x=>simA n x.2
 | .rcd _ env _=>env.all fun x=>simA n x.2
 | .siter _ _=>true
 | .miter m _ _=>simD n m
 | .dfr=>true
 | .dead=>true
 | .hole=>false
def okH(n:Nat)(H:Heap):Prop:=∀ o∈H,okOb n o=true
theorem shed_simD{ρ:Nat→Option Nat}{H:Heap}{n k:Nat}(hρ:∀ u,u<n→ρ u=some u){d:D}(h:simD n d=true):shed ρ H (k+1) d=d:=by
 cases d with
 | osl v g sz off len=>simp only[simD,decide_eq_true_eq]at h;rw[shed_osl,hρ v h,shOsl_some]
 | ptr v g off=>simp only[simD,decide_eq_true_eq]at h;rw[shed_ptr,hρ v h,shPtr_some]
 | omap v=>simp only[simD,decide_eq_true_eq]at h;rw[shed_omap,hρ v h,shMap_some]
 | yld v=>
  simp only[simD,decide_eq_true_eq]at h
  rw[shed,if_neg (by simp)]
  rw[hρ v h]
 | _=>exact shed_closed h
theorem map_shed_simD{ρ:Nat→Option Nat}{H:Heap}{n k:Nat}(hρ:∀ u,u<n→ρ u=some u){cs:List D}(h:cs.all (simD n)=true):cs.map (shed ρ H (k+1))=cs:=by
 conv=>rhs;rw[← List.map_id cs]
 exact List.map_congr_left fun d hd=>shed_simD hρ (List.all_eq_true.1 h d hd)
theorem shed_simA{ρ:Nat→Option Nat}{H:Heap}{n k:Nat}(hρ:∀ u,u<n→ρ u=some u){d:D}(h:simA n d=true):shed ρ H (k+2) d=d:=by
 cases d with
 | agg cs=>rw[shed_agg,map_shed_simD hρ h]
 | tup cs=>rw[shed_tup,map_shed_simD hρ h]
 | fptr cs=>
  by_cases hc:closed (.fptr cs)=true
  ·exact shed_closed hc
  ·rw[shed,if_neg hc,map_shed_simD hρ h]
 | fn f a b=>
  simp only[simA,Bool.and_eq_true]at h
  by_cases hc:closed (.fn f a b)=true
  ·exact shed_closed hc
  ·rw[shed,if_neg hc,map_shed_simD hρ h.1,map_shed_simD hρ h.2]
 | _=>exact shed_simD hρ h
theorem shedOb_sim{ρ:Nat→Option Nat}{H:Heap}{n:Nat}(hρ:∀ u,u<n→ρ u=some u){o:Ob}(h:okOb n o=true):shedOb ρ H o=o:=by
 have key:∀ {α:Type} (l:List (α×D)),(l.all fun x=>simA n x.2)=true→(l.map fun x=>(x.1,shed ρ H 40 x.2))=l:=by
  intro α l hl
  conv=>rhs;rw[← List.map_id l]
  exact List.map_congr_left fun x hx=>by
   have:=List.all_eq_true.1 hl x hx
   rw[shed_simA hρ this];rfl
 cases o with
 | row t g cs=>
  simp only[shedOb]
  congr 1
  conv=>rhs;rw[← List.map_id cs]
  exact List.map_congr_left fun d hd=>shed_simA hρ (List.all_eq_true.1 h d hd)
 | map kk es=>simp only[shedOb];rw[key es h]
 | rcd rf env st=>simp only[shedOb];rw[key env h]
 | siter=>rfl
 | miter m since seen=>simp only[shedOb];rw[shed_simD hρ h]
 | dfr=>rfl
 | dead=>rfl
 | hole=>cases h
theorem rho_keepOf{n u:Nat}(h:u<n):rho (keepOf n []) u=some u:=by
 unfold rho keepOf
 rw[List.map_nil,List.append_nil]
 rw[List.findIdx?_eq_some_iff_getElem]
 refine⟨by simpa using h,by simp,fun j hj=>by simp;omega⟩
theorem shedH_keepOf{n:Nat}{H G:Heap}(hn:H.length=n)(h:okH n H):shedH (keepOf n []) (H++G)=H:=by
 unfold shedH
 refine List.ext_getElem? fun i=>?_
 rw[List.getElem?_map]
 unfold keepOf
 rw[List.map_nil,List.append_nil,List.getElem?_map]
 by_cases hi:i<n
 ·rw[List.getElem?_range hi]
  simp only[Option.map_some,if_true]
  rw[List.getElem?_append_left (by omega),List.getElem?_eq_getElem (by omega)]
  simp only
  congr 1
  have e:((List.range n).map fun v=>(v,true))=keepOf n []:=by unfold keepOf;simp
  rw[e]
  exact shedOb_sim (fun u hu=>rho_keepOf hu) (h _ (List.getElem_mem _))
 ·rw[List.getElem?_eq_none (by simp;omega),List.getElem?_eq_none (by omega)];rfl
theorem topRef_sim{n:Nat}{d:D}(h:simA n d=true):topRef n d = []:=by
 cases d<;>first|rfl|(simp only[simA,simD,decide_eq_true_eq]at h;simp only[topRef];rw[if_neg (by omega)])
theorem flatten_nil{α β:Type}{f:α→List β}:∀ {l:List α},(∀ a∈l,f a = [])→(l.map f).flatten = []
 | [],_=>rfl
 | a::l,h=>by rw[List.map_cons,List.flatten_cons,h a (by simp),flatten_nil fun b hb=>h b (by simp[hb])];rfl
theorem obRefs_sim{n:Nat}{o:Ob}(h:okOb n o=true):obRefs n o = []:=by
 cases o with
 | row t g cs=>exact flatten_nil fun d hd=>topRef_sim (List.all_eq_true.1 h d hd)
 | map kk es=>exact flatten_nil fun x hx=>topRef_sim (List.all_eq_true.1 h x hx)
 | _=>rfl
theorem cut_gen{n:Nat}{live:List Nat}{env:Env}{H G:Heap}{m:List Nat}{r:Bool}(hn:H.length=n)(hH:okH n H)(he:((forget live env).all fun p=>simA n p.2)=true)(hm:(m.all fun v=>decide (v<n))=true) :
  cut n live { env:=env,H:=H++G,marks:=m,rnd:=r } = { env:=forget live env,H:=H,marks:=m,rnd:=r }:=by
 by_cases hg:(H++G).length≤n
 ·have:G = []:=by
   cases G with
   | nil=>rfl
   | cons a l=>simp at hg;omega
  subst this
  rw[List.append_nil]
  exact cut_none (by show H.length≤n;omega)
 ·unfold cut
  dsimp only
  rw[if_neg hg]
  have e1:((forget live env).map fun p=>topRef n p.2).flatten = []:=flatten_nil fun p hp=>topRef_sim (List.all_eq_true.1 he p hp)
  have e2:(((H++G).take n).map (obRefs n)).flatten = []:=flatten_nil fun o ho=>by
   rw[List.take_append_of_le_length (by omega),List.take_of_length_le (by omega)]at ho
   exact obRefs_sim (hH o ho)
  have e3:m.filter (n≤·) = []:=by
   rw[List.filter_eq_nil_iff]
   intro v hv
   have:=List.all_eq_true.1 hm v hv
   simp at this ⊢;omega
  rw[e1,e2,e3]
  have e4:dedup (([] ++ [] ++ []:List Nat).filter (· < (H++G).length)) = []:=rfl
  rw[e4,shedH_keepOf hn hH]
  congr 1
  ·conv=>rhs;rw[← List.map_id (forget live env)]
   exact List.map_congr_left fun p hp=>by
    rw[shed_simA (fun u hu=>rho_keepOf hu) (List.all_eq_true.1 he p hp)];rfl
  ·conv=>rhs;rw[← List.map_id m]
   exact List.map_congr_left fun v hv=>by
    have:=List.all_eq_true.1 hm v hv
    rw[rho_keepOf (by simpa using this)];rfl
theorem okH_set{n v:Nat}{H:Heap}{o:Ob}(h:okH n H)(ho:okOb n o=true):okH n (H.set v o):=fun x hx=>by
 rcases List.mem_or_eq_of_mem_set hx with hx|rfl
 ·exact h x hx
 ·exact ho
theorem simD_closed{n:Nat}{d:D}(h:closed d=true):simD n d=true:=by
 cases d<;>first|exact h|(cases h;done)|(simp only[closed]at h;cases h)
theorem simA_closed{n:Nat}{d:D}(h:closed d=true):simA n d=true:=by
 cases d with
 | agg cs=>exact List.all_eq_true.2 fun d hd=>simD_closed (closedL_of (by simpa using h) d hd)
 | tup cs=>exact List.all_eq_true.2 fun d hd=>simD_closed (closedL_of (by simpa using h) d hd)
 | fptr cs=>exact List.all_eq_true.2 fun d hd=>simD_closed (closedL_of (by simpa using h) d hd)
 | fn f a b=>
  simp only[closed_fn,Bool.and_eq_true]at h
  simp only[simA,Bool.and_eq_true]
  exact⟨List.all_eq_true.2 fun d hd=>simD_closed (closedL_of h.1 d hd),List.all_eq_true.2 fun d hd=>simD_closed (closedL_of h.2 d hd)⟩
 | _=>exact simD_closed (n:=n) h
@[simp] theorem simA_cl{n:Nat}{d:D}(h:closed d=true):simA n d=true:=simA_closed h
@[simp] theorem simA_osl(n v g sz off len:Nat):simA n (.osl v g sz off len)=decide (v<n):=rfl
@[simp] theorem simA_ptr(n v g off:Nat):simA n (.ptr v g off)=decide (v<n):=rfl
@[simp high] theorem ldR_cl{α:Type}[Inhabited α]{f:α→List D}{sz:Nat}[F:Fl f sz]{l:List α}{t:TypeId}{n:Int}(hz:0<sz):ldR sz (n.toNat*sz) (some (t,cl f l))=if n.toNat<l.length then some (.agg (f (gt l n)))else none:=by
 have h:=oA_ldR (f:=f) (l:=l) (t:=t) (n:=n) (P:=fun d=>d = .agg (f (gt l n))) hz
 simp only[and_true]at h
 by_cases hn:n.toNat<l.length
 ·rw[if_pos hn]
  obtain⟨d,h1,h2⟩:=h.mpr hn
  rw[h1,h2]
 ·rw[if_neg hn]
  unfold ldR
  dsimp only
  rw[if_neg]
  rw[cl_len,← Nat.succ_mul,Nat.mul_le_mul_right_iff hz]
  omega
section
variable{T:Tab}{a b:IR}{s:St}{K:OutP}{id n:Nat}{live:List Nat}
end
def LJ{α:Type}(E:α→Env)(Hp:α→Heap)(ms:List Nat)(rd:Bool)(Q:α→Prop)(_:Tag (E,Hp,ms,rd,Q))(e:Env)(H:Heap)(m:List Nat)(r:Bool):Prop:=
 ∃ x',e=E x'∧H=Hp x'∧m=ms∧r=rd∧Q x'
theorem LJ.e{α:Type}{E:α→Env}{Hp:α→Heap}{ms:List Nat}{rd:Bool}{Q:α→Prop}{t:Tag (E,Hp,ms,rd,Q)}{e:Env}{H:Heap}{m:List Nat}{r:Bool}(x':α)(h5:Q x')(h1:e=E x':=by first|rfl|simp)(h2:H=Hp x':=by first|rfl|simp)(h3:m=ms:=by exact rfl)(h4:r=rd:=by exact rfl):LJ E Hp ms rd Q t e H m r:=⟨x',h1,h2,h3,h4,h5⟩
theorem LJ.i{α:Type}{E:α→Env}{Hp:α→Heap}{ms:List Nat}{rd:Bool}{Q:α→Prop}{t:Tag (E,Hp,ms,rd,Q)}{e:Env}{H:Heap}{m:List Nat}{r:Bool}(x':α)(h1:e=E x')(h2:H=Hp x')(h3:m=ms)(h4:r=rd)(h5:Q x'):LJ E Hp ms rd Q t e H m r:=⟨x',h1,h2,h3,h4,h5⟩
section
variable{T:Tab}{live:List Nat}{a:IR}{s:St}{K:OutP}{α:Type}
theorem XLoop.k(x0:α)(E:α→Env)(Hp:α→Heap)(P:α→Prop)(μ:α→Nat)
  (h0:P x0) (hE:forget ((E x0).map (·.1)) s.env=E x0) (hH:s.H=Hp x0) (hm:s.marks = []) (hr:s.rnd=false) (hks:(((E x0).map (·.1)).all fun k=>live.contains k)=true)
  (h:∀ x,P x→XC T a { env:=E x,H:=Hp x } (loopK s.H.length live ((E x0).map (·.1)) (LJ E Hp [] false (fun x'=>μ x'<μ x∧P x') .mk) K)):XLoop T live a s K .mk:=
 XLoop.j x0 E Hp P μ h0 hE hH hks (by rw[hm,hr];exact h)
theorem XLoop.v(x0:α)(E:α→Env)(Hp:α→Heap)(P:α→Prop)(μ:α→Nat)
  (h0:P x0) (hE:forget ((E x0).map (·.1)) s.env=E x0) (hH:s.H=Hp x0) (hm:s.marks = []) (hr:s.rnd=false) (hks:(((E x0).map (·.1)).all fun k=>live.contains k)=true)
  (h:∀ x,P x→Wc T (unfz a) { env:=E x,H:=Hp x } (loopK s.H.length live ((E x0).map (·.1)) (LJ E Hp [] false (fun x'=>μ x'<μ x∧P x') .mk) K)):XLoop T live a s K .mk:=
 XLoop.w x0 E Hp P μ h0 hE hH hks (by rw[hm,hr];exact h)
end
@[simp] theorem cl_take1{α:Type}{f:α→List D}[Fl f 1](l:List α)(n:Nat):(cl f l).take n=cl f (l.take n):=by simpa using cl_take (f:=f) l n
@[simp] theorem cl_drop1{α:Type}{f:α→List D}[Fl f 1](l:List α)(n:Nat):(cl f l).drop n=cl f (l.drop n):=by simpa using cl_drop (f:=f) l n
@[simp] theorem keepOf_5(K:List Nat):keepOf 5 K=(0,true)::(1,true)::(2,true)::(3,true)::(4,true)::K.map fun v=>(v,true):=rfl
@[simp] theorem keepOf_6(K:List Nat):keepOf 6 K=(0,true)::(1,true)::(2,true)::(3,true)::(4,true)::(5,true)::K.map fun v=>(v,true):=rfl
@[simp] theorem keepOf_7(K:List Nat):keepOf 7 K=(0,true)::(1,true)::(2,true)::(3,true)::(4,true)::(5,true)::(6,true)::K.map fun v=>(v,true):=rfl
@[simp] theorem keepOf_8(K:List Nat):keepOf 8 K=(0,true)::(1,true)::(2,true)::(3,true)::(4,true)::(5,true)::(6,true)::(7,true)::K.map fun v=>(v,true):=rfl
@[simp] theorem keepOf_9(K:List Nat):keepOf 9 K=(0,true)::(1,true)::(2,true)::(3,true)::(4,true)::(5,true)::(6,true)::(7,true)::(8,true)::K.map fun v=>(v,true):=rfl
@[simp] theorem keepOf_10(K:List Nat):keepOf 10 K=(0,true)::(1,true)::(2,true)::(3,true)::(4,true)::(5,true)::(6,true)::(7,true)::(8,true)::(9,true)::K.map fun v=>(v,true):=rfl
@[simp] theorem keepOf_11(K:List Nat):keepOf 11 K=(0,true)::(1,true)::(2,true)::(3,true)::(4,true)::(5,true)::(6,true)::(7,true)::(8,true)::(9,true)::(10,true)::K.map fun v=>(v,true):=rfl
@[simp] theorem keepOf_12(K:List Nat):keepOf 12 K=(0,true)::(1,true)::(2,true)::(3,true)::(4,true)::(5,true)::(6,true)::(7,true)::(8,true)::(9,true)::(10,true)::(11,true)::K.map fun v=>(v,true):=rfl
@[simp] theorem keepOf_13(K:List Nat):keepOf 13 K=(0,true)::(1,true)::(2,true)::(3,true)::(4,true)::(5,true)::(6,true)::(7,true)::(8,true)::(9,true)::(10,true)::(11,true)::(12,true)::K.map fun v=>(v,true):=rfl
@[simp] theorem keepOf_14(K:List Nat):keepOf 14 K=(0,true)::(1,true)::(2,true)::(3,true)::(4,true)::(5,true)::(6,true)::(7,true)::(8,true)::(9,true)::(10,true)::(11,true)::(12,true)::(13,true)::K.map fun v=>(v,true):=rfl
@[simp] theorem take_exact{α:Type}{l:List α}{n:Nat}(h:l.length=n):l.take n=l:=List.take_of_length_le (by omega)
@[simp] theorem sl5_app(a b:List Pos):D.sl 5 (a.map Pos.cells++b.map Pos.cells)=dPs (a++b):=by unfold dPs;rw[List.map_append]
def Ey{α:Type}(g:α→D)(Q:α→Prop)(d:D)(H:Heap):Prop:=Ex g Q d H
theorem Ey.i{α:Type}{g:α→D}{Q:α→Prop}{d:D}{H:Heap}(x:α)(h1:d=g x)(h2:H = [])(h3:Q x):Ey g Q d H:=⟨x,h1,h2,h3⟩
def fzP(ρ:Nat→Option Nat)(H:Heap)(k off:Nat):Option (TypeId×List D)→D
 | some (_,cs)=>.fptr ((cs.drop off).map (shed ρ H k))
 | none=>.any
@[simp] theorem shPtr_none(H:Heap)(k:Nat)(ρ:Nat→Option Nat)(v g off:Nat):shPtr H k ρ v g off none=fzP ρ H k off (rowAt H v g):=by unfold shPtr fzP;rfl
@[simp] theorem fzP_row(ρ:Nat→Option Nat)(H:Heap)(k off:Nat)(t:TypeId)(cs:List D):fzP ρ H k off (some (t,cs)) = .fptr ((cs.drop off).map (shed ρ H k)):=rfl
structure GH(H:Heap)(v:Nat):Prop where
 lt:v<H.length
 ok:okH H.length H
section
variable{H G:Heap}{v:Nat}{o o':Ob}
@[simp] theorem GH.get(h:GH H v):(H.set v o)[v]? = some o:=List.getElem?_set_self h.lt
@[simp] theorem GH.get_app(h:GH H v):(H.set v o++G)[v]? = some o:=by
 rw[List.getElem?_append_left (by rw[List.length_set];exact h.lt)];exact h.get
@[simp high] theorem GH.cut(h:GH H v){live:List Nat}{env:Env}{r:Bool}(ho:okOb H.length o=true)(he:((forget live env).all fun p=>simA H.length p.2)=true) :
  Go.AL.cut H.length live { env:=env,H:=H.set v o++G,marks:=[],rnd:=r } = { env:=forget live env,H:=H.set v o,marks:=[],rnd:=r }:=cut_gen (List.length_set ..) (okH_set h.ok ho) he rfl
@[simp] theorem GH.lt_eq(h:GH H v):(v<H.length)=True:=eq_true h.lt
end
@[simp] theorem okH_nil(n:Nat):okH n []=True:=eq_true fun _ h=>by cases h
@[simp] theorem okH_cons(n:Nat)(o:Ob)(r:Heap):okH n (o::r)=(okOb n o=true∧okH n r):=propext ⟨fun h=>⟨h o (by simp),fun x hx=>h x (by simp[hx])⟩,fun h x hx=>by
 rcases List.mem_cons.1 hx with rfl|hx
 ·exact h.1
 ·exact h.2 x hx⟩
@[simp] theorem okOb_row(n t g:Nat)(cs:List D):okOb n (.row t g cs)=cs.all (simA n):=rfl
@[simp] theorem okOb_dead(n:Nat):okOb n .dead=true:=rfl
@[simp] theorem all_simA_cl{n:Nat}{α:Type}{f:α→List D}{sz:Nat}[F:Fl f sz](l:List α):(cl f l).all (simA n)=true:=
 List.all_eq_true.2 fun d hd=>simA_closed (closedL_of (cl_closed l) d hd)
section
variable{H G:Heap}{v k:Nat}{o:Ob}
theorem lt_of_get(h:H[v]? = some o):v<H.length:=by
 rcases Nat.lt_or_ge v H.length with h'|h'
 ·exact h'
 ·rw[List.getElem?_eq_none h']at h;cases h
end
end Go.AL
namespace Go.Proofs.YtnaefnajkaohgaaGreatDoor
open Go Go.AL Classical
set_option maxRecDepth 10000
set_option maxHeartbeats 1000000
theorem manK_neg{n:Int}{k:Nat}(h0:0≤n)(h1:n≤2*k)(hk:k≤2):manK n<0↔n=0:=by
 unfold manK;split<;>omega
theorem manS_iff{n s:Int}(h:0≤manK n)(hs:0≤s∧s≤1):manS n=1-s↔¬ manS n=s:=by
 unfold manK at h
 unfold manS
 split at h
 ·rename_i e;rw[if_pos e];omega
 ·omega
theorem manS_neg{n s:Int}(h:¬ 0≤manK n)(hs:0≤s∧s≤1):¬ manS n=1-s∧¬ manS n=s:=by
 unfold manK at h
 unfold manS
 split at h
 ·omega
 ·rename_i e;rw[if_neg e];omega
theorem f228(g:Game)(hg:GameOK g)(s:Sta)(hs:StaOK g s)(x:Stp)(hx:StepOK g x):Wf T 228 [dG g,.agg s.cells,.agg [.i x.1,.i x.2]] [] (Is (dSt (stepL g s x))):=by
 have hsz:=hs.p.size
 have hcur:=hs.cur
 have hsm:=hs.p.small hg
 have ht:=hg.board.to s.p.side x.2 s.cur
 have hcs:=hs.p.cs _ (gt_mem hcur.1 (by omega))
 have hsd:=hs.p.side
 have hk:=manK_neg hcs.1 hcs.2 hg.kinds.2
 have hr:=hs.p.rights
 have hgr:=hg.rights
 have hx2:=hx.ok
 refine Yg F228 ?_
 simp[F228]
 (with_reducible repeat' first|refine Xk ?_<;>try simp|refine Xs ?_ ?_<;>intro h<;>(try intro h')<;>(try simp[h])<;>(try omega)|refine Xg ?_|omega)
 refine Yc (f51 _) ?_
 simp
 (with_reducible repeat' first|refine Xk ?_<;>try simp|refine Xs ?_ ?_<;>intro h<;>(try intro h')<;>(try simp[h])<;>(try omega)|refine Xg ?_|omega)
 ·refine Yc (f251 g hg.board s.p.side x.2 s.cur) ?_
  simp
  refine Yc (f252 { s with cur:=toB g s.p.side x.2 s.cur } _) ?_
  simp
  simp[stepL,h]
 ·refine Yc (f253 g hg s hs x.2) ?_
  simp
  simp[stepL,h]
 ·refine Yc (f252 s _) ?_
  simp
  simp[stepL,h,hk]
 ·refine Yc (f252 s _) ?_
  simp
  have h1:=manS_iff (by assumption) hsd
  simp[stepL, *]
 ·refine Yc (f252 s _) ?_
  simp
  have h1:=manS_neg (by assumption) hsd
  simp[stepL, *]
 ·refine Yc (f252 s _) ?_
  simp
  simp[stepL, *]
 ·refine Yc (f252 s _) ?_
  simp
  have h1:=manS_neg (by assumption) hsd
  simp[stepL, *]
 ·refine Yc (f254 g hg s hs) ?_
  simp
  simp[stepL, *]
 ·refine Yc (f255 g hg s hs x.2) ?_
  simp
  simp[stepL, *]
 ·simp[stepL, *]
 ·refine Yt (f252 s _) ?_
  simp
  have h2:=pow_small hgr.1 (by omega)
  have h3:=right_and (r:=s.p.rights) (n:=x.2) hr.1 (by omega) (by omega) (by omega)
  simp[stepL,h3, *]
 ·have h2:=pow_small hgr.1 (by omega)
  have h3:=right_drop (r:=s.p.rights) (n:=x.2) hr.1 (by omega) (by omega) (by omega)
  simp[stepL,h3, *]
def addL(a:List Sta):List Sta→List Sta
 | []=>a
 | x::r=>addL (if x∈a then a else a ++ [x]) r
theorem addL_mem:∀ {b a:List Sta} {x:Sta},x∈addL a b↔x∈a∨x∈b
 | [],a,x=>by simp[addL]
 | y::r,a,x=>by
  unfold addL
  rw[addL_mem]
  split<;>simp
  ·constructor
   ·rintro(h|h)<;>simp[h]
   ·rintro(h|rfl|h)<;>simp[*]
  ·constructor
   ·rintro((h|h)|h)<;>simp[h]
   ·rintro(h|rfl|h)<;>simp[*]
theorem addL_len:∀ {b a:List Sta},(addL a b).length≤a.length+b.length
 | [],a=>by simp[addL]
 | y::r,a=>by
  unfold addL
  refine Nat.le_trans addL_len ?_
  split<;>simp<;>omega
theorem set_id{H:Heap}{v:Nat}{o:Ob}(h:H[v]? = some o):H=H.set v o:=by
 refine List.ext_getElem? fun i=>?_
 rw[List.getElem?_set]
 split
 ·rename_i e;subst e;rw[if_pos (lt_of_get h),h]
 ·rfl
theorem GH.of{H:Heap}{v:Nat}{o:Ob}(hv:H[v]? = some o)(hH:okH H.length H):GH H v:=⟨lt_of_get hv,hH⟩
theorem f227(v gen:Nat)(a b:List Sta)(H:Heap)(hv:H[v]? = some (.row 282 gen (cl Sta.cells a)))(hH:okH H.length H)(ha:∀ s∈a,Small s.p)(hb:∀ s∈b,Small s.p)(hl:a.length+b.length<2 ^ 39):Wf T 227 [.osl v gen 8 0 a.length,dSt b] H (fun d H'=>∃ gen',d = .osl v gen' 8 0 (addL a b).length∧H'=H.set v (.row 282 gen' (cl Sta.cells (addL a b)))):=by
 have hg:=GH.of hv hH
 have hg1:=hg.lt
 refine Yg F227 ?_
 simp[F227]
 refine XLoop.j ((0,gen,a):Int×Nat×List Sta) (fun x=>[(0,.osl v x.2.1 8 0 x.2.2.length),(1,dSt b),(5,.i x.1)]) (fun x=>H.set v (.row 282 x.2.1 (cl Sta.cells x.2.2))) (fun x=>0≤x.1∧x.1≤b.length∧x.2.2.length≤a.length+x.1.toNat∧(∀ s∈x.2.2,Small s.p)∧addL x.2.2 (b.drop x.1.toNat)=addL a b) (fun x=>b.length-x.1.toNat) ?_ (by simp) (set_id hv) rfl ?_
 ·simp;exact ha
 rintro⟨i,gn,l⟩ ⟨h0,h1,h2,h3,h4⟩
 dsimp only at h0 h1 h2 h3 h4 ⊢
 simp
 (with_reducible repeat' first|refine Xk ?_<;>try simp|refine Xs ?_ ?_<;>intro h<;>(try intro h')<;>(try simp[h])<;>(try omega)|refine Xg ?_|omega)
 ·refine XLoop.j ((0,false):Int×Bool) (fun x=>[(0,.osl v gn 8 0 l.length),(1,dSt b),(5,.i i),(6,.b x.2),(7,.i x.1)]) (fun x=>H.set v (.row 282 gn (cl Sta.cells l))) (fun x=>0≤x.1∧x.1≤l.length∧x.2=decide (gt b i∈l.take x.1.toNat)) (fun x=>l.length-x.1.toNat) ?_ (by simp) rfl rfl ?_
  ·simp
  rintro⟨k,found⟩ ⟨g0,g1,g2⟩
  dsimp only at g0 g1 g2 ⊢
  simp[hg]
  (with_reducible repeat' first|refine Xk ?_<;>try simp[hg]|refine Xs ?_ ?_<;>intro h<;>(try intro h')<;>(try simp[h,hg])<;>(try omega)|refine Xg ?_|omega)
  ·rw[take_gt g0 (by assumption)];simp_all
  ·refine Yt (f250 _ _ (h3 _ (gt_mem g0 (by assumption))) (hb _ (gt_mem h0 (by assumption)))) ?_
   simp
   simp only[h,cond_false]
   refine⟨by omega,by omega,k+1,?_⟩
   rw[take_gt g0 (by assumption)]
   by_cases e:gt l k=gt b i
   ·right;simp[e];omega
   ·left;simp_all
    exact⟨by omega,by omega,by omega,fun e'=>e e'.symm⟩
  ·refine⟨i+1,l,rfl,rfl,rfl,by omega,by omega,by omega,by omega,h3,?_⟩
   rw[← h4,drop_gt h0 (by assumption),addL,show(i+1).toNat=i.toNat+1 by omega]
   rw[if_pos]
   rw[g2,take_all (by omega)]at h
   simpa using h
  ·refine⟨i+1,l ++ [gt b i],by simp,rfl,by simp,by omega,by omega,by omega,by simp;omega,?_,?_⟩
   ·intro s hs
    simp at hs
    rcases hs with hs|rfl
    ·exact h3 s hs
    ·exact hb _ (gt_mem h0 (by assumption))
   ·rw[← h4,drop_gt h0 (by assumption),addL,show(i+1).toNat=i.toNat+1 by omega]
    rw[if_neg]
    rw[g2,take_all (by omega)]at h
    simpa using h
 ·rw[List.drop_of_length_le (by omega)]at h4
  have e:addL l []=l:=rfl
  rw[e]at h4
  rw[← h4]
  exact⟨rfl,rfl⟩
end Go.Proofs.YtnaefnajkaohgaaGreatDoor

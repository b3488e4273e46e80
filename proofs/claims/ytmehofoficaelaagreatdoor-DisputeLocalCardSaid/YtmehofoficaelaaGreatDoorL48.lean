/- Part 48 of DisputeLocal. -/
import Derived.Test.YtmehofoficaelaaGreatDoorL47
set_option linter.all false
namespace Go.Proofs.YtmehofoficaelaaGreatDoor
open Go.ChangeShapes Go.WideShapes Go.ChangeAt Go.RowKit Go.AL
set_option maxRecDepth 100000
def Vi{W:World}(h:laidMetH Tryz.prog Rows.disputeLocalRow.laid W):fr (Go.Proofs.YtmehofoficaelaaGreatDoor.gl Tryz.prog) { ι:=fun _ _=>none,F:=(· < W.heap.size),RT:=(Go.Proofs.YtmehofoficaelaaGreatDoor.gl Tryz.prog).rt } [] W:=by
 obtain⟨c0,c1,c2,c3⟩:=table h
 have nB:=Sc h (n:="skewer/hash.begin") (b:=1) (t:=323) (m:=8) (l:=zw) (by kernel_rfl) (by kernel_rfl) (by kernel_rfl) (by kernel_rfl) Tryz.underlying323 (by kernel_rfl) (by kernel_rfl)
 have nK:=Sc h (n:="skewer/hash.keys") (b:=2) (t:=375) (m:=64) (l:=zy) (by kernel_rfl) (by kernel_rfl) (by kernel_rfl) (by kernel_rfl) Tryz.underlying375 (by kernel_rfl) (by kernel_rfl)
 have eB:zw=(AF zw).map fun z=>.val (.int .u32 z):=by kernel_rfl
 have eK:zy=(AF zy).map fun z=>.val (.int .u32 z):=by kernel_rfl
 refine⟨⟨?_,?_,?_,fun b h=>h,fun _ _ _=>rfl,fun _ _ _ h=>by simp at h,fun v o h=>by simp at h⟩,fun g cs hg=>?_,rfl⟩
 ·rintro v v' L L' ⟨o,h,_⟩
  simp at h
 ·rintro b ⟨v,L,⟨o,h,_⟩,_⟩
  simp at h
 ·rintro b ⟨v,L,⟨o,h,_⟩,_⟩
  simp at h
 ·unfold Go.Proofs.YtmehofoficaelaaGreatDoor.gl at hg
  dsimp only at hg
  split at hg
  ·rename_i e
   cases hg
   subst e
   refine⟨rfl,.fj 0 0 _ (fun i=>[Value.nilFunc,.func (.func 364) #[] #[],.func (.func 366) #[] #[],.func (.func 367) #[] #[]].getD i undef) (Gu c0) (fun j d hj=>?_) (fun j d hj=>?_)⟩
   ·match j,hj with
    | 0,_=>exact⟨c0,rfl⟩
    | 1,_=>exact⟨c1,rfl⟩
    | 2,_=>exact⟨c2,rfl⟩
    | 3,_=>exact⟨c3,rfl⟩
    | j+4,hj=>simp at hj
   ·match j,hj with
    | 0,hj=>cases hj;exact .val _
    | 1,hj=>cases hj;exact .fn _ [] [] _ _ rfl rfl (fun i v d h=>by simp at h) (fun i v d h=>by simp at h)
    | 2,hj=>cases hj;exact .fn _ [] [] _ _ rfl rfl (fun i v d h=>by simp at h) (fun i v d h=>by simp at h)
    | 3,hj=>cases hj;exact .fn _ [] [] _ _ rfl rfl (fun i v d h=>by simp at h) (fun i v d h=>by simp at h)
    | j+4,hj=>simp at hj
  ·split at hg
   ·rename_i e
    cases hg
    subst e
    refine⟨by kernel_rfl,?_⟩
    rw[eB]
    exact SQ (Gu (v:=.int .u32 1779033703) ((nB 0).trans (by kernel_rfl))) nB
   ·split at hg
    ·rename_i e
     cases hg
     subst e
     refine⟨by kernel_rfl,?_⟩
     rw[eK]
     exact SQ (Gu (v:=.int .u32 1116352408) ((nK 0).trans (by kernel_rfl))) nK
    ·cases hg
def On{v:Value}{n:Nat}(h:v.cells.toList.length=n)(hn:n≠1):∃ cs:Array Value,v = .agg cs∧v.cells=cs:=by
 cases v<;>first|exact⟨_,rfl,rfl⟩|(exfalso;apply hn;rw[← h];rfl)
def called{H:Type}{enc:TypeId×Value→H}{W:World}(hL:laidMetH Tryz.prog Rows.disputeLocalRow.laid W){v0 v1:Value}{d0 d1:DataW H}{p0 p1:List MemPlace}
  (h0:DataW.Trod enc Tryz.prog W 0 (fun _=>true) true 32 v0 d0 p0) (h1:DataW.Trod enc Tryz.prog W 0 (fun _=>true) true 75 v1 d1 p1) :
  Calls Tryz.prog 8 #[v0,v1] W fun e W'=>e = .returned (.bool true)∧Below W.heap.size W W':=by
 obtain⟨m0,h0⟩:=h0
 obtain⟨m1,h1⟩:=h1
 have k0:=Gz 20 32 _ UH _ _ _ h0
 have k1:=Gz 20 75 _ UI _ _ _ h1
 have eZ:=Vi hL
 generalize hc:({ ι:=fun _ _=>none,F:=(· < W.heap.size),RT:=(Go.Proofs.YtmehofoficaelaaGreatDoor.gl Tryz.prog).rt }:Ctx)=c at eZ
 have hF:∀ b,b<W.heap.size→c.F b:=fun b hb=>by subst hc;exact hb
 obtain⟨ds0,f0,g0⟩:=MD (c:=c) hF k0
 obtain⟨ds1,f1,g1⟩:=MD (c:=c) hF k1
 obtain⟨JK,rfl,e0⟩:=On k0.1.symm (by decide)
 obtain⟨JL,rfl,e1⟩:=On k1.1.symm (by decide)
 rw[e0]at g0
 rw[e1]at g1
 obtain⟨x,rfl,hx⟩:=Uo f0
 obtain⟨a0,a1,a2,rfl,ha⟩:=agE f1
 have r0:eW c W (.agg JK) (.agg x.cells):=by
  have:=eW.agg JK.toList x.cells g0.len g0.one g0.rep
  simpa using this
 have r1:eW c W (.agg JL) (.agg [.val (.int .u8 a0),.val (.int .u8 a1),.val (.int .u8 a2)]):=by
  have:=eW.agg JL.toList _ g1.len g1.one g1.rep
  simpa using this
 have jh:sE Tryz.prog _ 8 _ [] _:=WU mixed agC (VI x hx a0 a1 a2 (ha a0 (by simp)) (ha a1 (by simp)) (ha a2 (by simp)))
 refine(jh c W [.agg JK,.agg JL] eZ (.cons r0 (.cons r1 .nil))).mono fun e W' he=>?_
 obtain⟨v,c',d,H',rfl,hR,_,pJ,hr,hs⟩:=he
 obtain⟨d',Hd,Xd,rfl,rfl⟩:=hR
 cases Xd
 cases hr
 refine⟨rfl,hs.os.1,hs.tape,hs.output,hs.size,fun k hk=>hs.kept k hk ?_⟩
 rintro⟨_,_,⟨o,h,_⟩,_⟩
 simp at h
def lifted(os:Os)(started:os.Started)(H:Type)(enc:TypeId×Value→H) :
  ReturnsInHanded {} Tryz.checked os 8 .any (fun w args=>(Rows.disputeLocalSpec.pre enc Tryz.prog Tryz.f8 [] false w args∧laidMetH Tryz.prog Rows.disputeLocalRow.laid w)∧sizedMet enc Tryz.prog Tryz.f8 (OpenSpec.ofChange Rows.disputeLocalSpec) false w args)
   (Rows.disputeLocalSpec.post enc Tryz.prog Tryz.f8 false true false false):=by
 refine returnsInHanded_of_change_and (C:=Tryz.checked) (X:=fun w _=>laidMetH Tryz.prog Rows.disputeLocalRow.laid w) (fun _ _ _ hh h=>h.of_heap hh) own started (by kernel_rfl) Tryz.func8
  (ChangeSpec.witness_shaped (enc:=enc) (C:=Tryz.checked) (os:=os) (X:=fun w _=>laidMetH Tryz.prog Rows.disputeLocalRow.laid w) false (World.doorLaid Tryz.prog 2000 os)
   #[.agg #[.int .u8 0,.int .u8 0,.int .u8 0,.slice none 0 0,.slice none 0 0,.slice none 0 0,.int .u8 0,.int .u8 0,.int .u8 0,.int .u8 0,.int .u8 0,.int .u8 0,.int .u8 0,.int .u8 0,.int .u8 0,.int .u8 0,.int .u8 0,.int .u8 0,.int .u8 0,.int .u8 0,.int .u8 0,.int .u8 0,.int .u8 0,.int .u8 0,.int .u8 0,.int .u8 0,.int .u8 0,.int .u8 0,.int .u8 0,.int .u8 0,.slice none 0 0],
    .agg #[.int .u8 0,.int .u8 0,.int .u8 0]] 20 rfl (World.shaped_of_RefB (by kernel_rfl) (by kernel_rfl)) (by kernel_rfl) (by kernel_rfl) (by kernel_rfl) (Vr os _)) ?_
 intro W base args ds gs before Q9 hW _ _ hL _
 have uw:∀ (j:Nat) t v,Tryz.f8.params[j]? = some t→args[j]? = some v→Value.okWide Tryz.prog W .any base t v:=Q9
 have Qg:=hW
 obtain⟨p,q,mF,hV,rfl,hfz,rk⟩:=hW
 have hA:DataW.TrodAll enc Tryz.prog W 0 (fun _=>true) true Tryz.f8.params.toList args.toList ds p:=mF
 rw[Tryz.params8]at hA uw
 obtain⟨v0,v1,d0,d1,p0,p1,rfl,rfl,rfl,h0,h1⟩:=trodAll_two hA
 obtain⟨rfl,rfl⟩:=trodVars_none hV
 clear mF Q9
 refine(called hL h0 h1).mono fun e W' ⟨he,hb⟩=>?_
 subst he
 have gi:∀ x∈p0++p1 ++ [],x.block<W.heap.size:=Qg.lt
 refine⟨_,rfl,_,_,_,[],p0++p1,[],Qg,trodAll_mk1 (shut_bool Tryz.underlying4 _),?_,?_,?_,fun h=>by cases h⟩
 ·have:=trodAll_mk2 (Below.trod laidOut (by kernel_rfl) (of_decide_eq_true (by kernel_rfl)) h0 hb fun x hx=>gi x (by simp[hx]))
   (Below.trod laidOut (by kernel_rfl) (of_decide_eq_true (by kernel_rfl)) h1 hb fun x hx=>gi x (by simp[hx]))
  exact this
 ·rfl
 ·exact hb.frame _

/- Part 47 of TableHurry. -/
import Derived.Test.YtnaefnajkaohgaaGreatDoorG46
set_option linter.all false
namespace Go.Proofs.YtnaefnajkaohgaaGreatDoor
open Go.ChangeShapes Go.WideShapes Go.ChangeAt Go.RowKit Go.AL
set_option maxRecDepth 100000
theorem Pv{W:World}(h:laidMetH Tryz.prog Rows.tableHurryRow.laid W):eP (Go.Proofs.YtnaefnajkaohgaaGreatDoor.gl Tryz.prog) { ι:=fun _ _=>none,F:=(· < W.heap.size),RT:=(Go.Proofs.YtnaefnajkaohgaaGreatDoor.gl Tryz.prog).rt } [] W:=by
 obtain⟨c0,c1,c2,c3⟩:=table h
 refine⟨⟨?_,?_,?_,fun b h=>h,fun _ _ _=>rfl,fun _ _ _ h=>by simp at h,fun v o h=>by simp at h⟩,fun g cs hg=>?_,rfl⟩
 ·rintro v v' L L' ⟨o,h,_⟩
  simp at h
 ·rintro b ⟨v,L,⟨o,h,_⟩,_⟩
  simp at h
 ·rintro b ⟨v,L,⟨o,h,_⟩,_⟩
  simp at h
 ·unfold Go.Proofs.YtnaefnajkaohgaaGreatDoor.gl at hg
  dsimp only at hg
  split at hg
  ·rename_i e
   cases hg
   subst e
   refine⟨rfl,.eG 0 0 _ (fun i=>[Value.nilFunc,.func (.func 294) #[] #[],.func (.func 296) #[] #[],.func (.func 297) #[] #[]].getD i undef) (JO c0) (fun j d hj=>?_) (fun j d hj=>?_)⟩
   ·match j,hj with
    | 0,_=>exact⟨c0,rfl⟩
    | 1,_=>exact⟨c1,rfl⟩
    | 2,_=>exact⟨c2,rfl⟩
    | 3,_=>exact⟨c3,rfl⟩
    | j+4,hj=>simp at hj
   ·match j,hj with
    | 0,hj=>cases hj;exact .val _
    | 1,hj=>cases hj;exact .fn _ [] [] _ _ rfl rfl (fun i v d h=>by simp at h) (fun i v d h=>by simp at h)
    | 2,hj=>cases hj;exact .fn _ [] [] _ _ rfl rfl (fun i v d h=>by simp at h) (fun i v d h=>by simp at h)
    | 3,hj=>cases hj;exact .fn _ [] [] _ _ rfl rfl (fun i v d h=>by simp at h) (fun i v d h=>by simp at h)
    | j+4,hj=>simp at hj
  ·cases hg
theorem JA{v:Value}{n:Nat}(h:v.cells.toList.length=n)(hn:n≠1):∃ cs:Array Value,v = .agg cs∧v.cells=cs:=by
 cases v<;>first|exact⟨_,rfl,rfl⟩|(exfalso;apply hn;rw[← h];rfl)
theorem called{H:Type}{enc:TypeId×Value→H}{W:World}(hL:laidMetH Tryz.prog Rows.tableHurryRow.laid W){v0 v1:Value}{d0 d1:DataW H}{p0 p1:List MemPlace}
  (h0:DataW.Trod enc Tryz.prog W 0 (fun _=>true) true 32 v0 d0 p0) (h1:DataW.Trod enc Tryz.prog W 0 (fun _=>true) true 25 v1 d1 p1) :
  Calls Tryz.prog 7 #[v0,v1] W fun e W'=>e = .returned (.bool true)∧Below W.heap.size W W':=by
 obtain⟨m0,h0⟩:=h0
 obtain⟨m1,h1⟩:=h1
 have k0:=CB 20 32 _ O2 _ _ _ h0
 have k1:=CB 20 25 _ O1 _ _ _ h1
 have eB:=Pv hL
 generalize hc:({ ι:=fun _ _=>none,F:=(· < W.heap.size),RT:=(Go.Proofs.YtnaefnajkaohgaaGreatDoor.gl Tryz.prog).rt }:Ctx)=c at eB
 have hF:∀ b,b<W.heap.size→c.F b:=fun b hb=>by subst hc;exact hb
 obtain⟨ds0,f0,g0⟩:=H6 (c:=c) hF k0
 obtain⟨ds1,f1,g1⟩:=H6 (c:=c) hF k1
 obtain⟨Fv,rfl,e0⟩:=JA k0.1.symm (by decide)
 obtain⟨Fw,rfl,e1⟩:=JA k1.1.symm (by decide)
 rw[e0]at g0
 rw[e1]at g1
 obtain⟨x,rfl,hx⟩:=OF f0
 obtain⟨a0,a1,a2,a3,a4,a5,rfl,ha⟩:=ZS f1
 have r0:ew c W (.agg Fv) (.agg x.cells):=by
  have:=ew.agg Fv.toList x.cells g0.len g0.one g0.rep
  simpa using this
 have r1:ew c W (.agg Fw) (dW [a0,a1,a2,a3,a4,a5]):=by
  have:=ew.agg Fw.toList _ g1.len g1.one g1.rep
  simpa[dW]using this
 have gR:pT Tryz.prog _ 7 _ [] _:=QA mixed aam (f7 x hx a0 a1 a2 a3 a4 a5 ha)
 refine(gR c W [.agg Fv,.agg Fw] eB (.cons r0 (.cons r1 .nil))).mono fun e W' he=>?_
 obtain⟨v,c',d,H',rfl,hR,_,nj,hr,hs⟩:=he
 obtain⟨d',Hd,QU,rfl,rfl⟩:=hR
 cases QU
 cases hr
 refine⟨rfl,hs.os.1,hs.tape,hs.output,hs.size,fun k hk=>hs.kept k hk ?_⟩
 rintro⟨_,_,⟨o,h,_⟩,_⟩
 simp at h
theorem lifted(os:Os)(started:os.Started)(H:Type)(enc:TypeId×Value→H) :
  ReturnsInHanded {} Tryz.checked os 7 .any (fun w args=>(Rows.tableHurrySpec.pre enc Tryz.prog Tryz.f7 [] false w args∧laidMetH Tryz.prog Rows.tableHurryRow.laid w)∧sizedMet enc Tryz.prog Tryz.f7 (OpenSpec.ofChange Rows.tableHurrySpec) false w args)
   (Rows.tableHurrySpec.post enc Tryz.prog Tryz.f7 false true false false):=by
 refine returnsInHanded_of_change_and (C:=Tryz.checked) (X:=fun w _=>laidMetH Tryz.prog Rows.tableHurryRow.laid w) (fun _ _ _ hh h=>h.of_heap hh) own started (by kernel_rfl) Tryz.func7
  (ChangeSpec.witness_shaped (enc:=enc) (C:=Tryz.checked) (os:=os) (X:=fun w _=>laidMetH Tryz.prog Rows.tableHurryRow.laid w) false (World.doorLaid Tryz.prog 2000 os)
   #[.agg #[.int .u8 0,.int .u8 0,.int .u8 0,.slice none 0 0,.slice none 0 0,.slice none 0 0,.int .u8 0,.int .u8 0,.int .u8 0,.int .u8 0,.int .u8 0,.int .u8 0,.int .u8 0,.int .u8 0,.int .u8 0,.int .u8 0,.int .u8 0,.int .u8 0,.int .u8 0,.int .u8 0,.int .u8 0,.int .u8 0,.int .u8 0,.int .u8 0,.int .u8 0,.int .u8 0,.int .u8 0,.int .u8 0,.int .u8 0,.int .u8 0,.slice none 0 0],
    .agg #[.int .u8 0,.int .u8 0,.int .u8 0,.int .u8 0,.int .u8 0,.int .u8 0]] 20 rfl (World.shaped_of_RefB (by kernel_rfl) (by kernel_rfl)) (by kernel_rfl) (by kernel_rfl) (by kernel_rfl) (PD os _)) ?_
 intro W base args ds gs before Mc hW _ _ hL _
 have Sy:∀ (j:Nat) t v,Tryz.f7.params[j]? = some t→args[j]? = some v→Value.okWide Tryz.prog W .any base t v:=Mc
 have K2:=hW
 obtain⟨p,q,kJ,hV,rfl,hfz,ni⟩:=hW
 have hA:DataW.TrodAll enc Tryz.prog W 0 (fun _=>true) true Tryz.f7.params.toList args.toList ds p:=kJ
 rw[Tryz.params7]at hA Sy
 obtain⟨v0,v1,d0,d1,p0,p1,rfl,rfl,rfl,h0,h1⟩:=trodAll_two hA
 obtain⟨rfl,rfl⟩:=trodVars_none hV
 clear kJ Mc
 refine(called hL h0 h1).mono fun e W' ⟨he,hb⟩=>?_
 subst he
 have fe:∀ x∈p0++p1 ++ [],x.block<W.heap.size:=K2.lt
 refine⟨_,rfl,_,_,_,[],p0++p1,[],K2,trodAll_mk1 (shut_bool Tryz.underlying4 _),?_,?_,?_,fun h=>by cases h⟩
 ·have:=trodAll_mk2 (Below.trod laidOut (by kernel_rfl) (of_decide_eq_true (by kernel_rfl)) h0 hb fun x hx=>fe x (by simp[hx]))
   (Below.trod laidOut (by kernel_rfl) (of_decide_eq_true (by kernel_rfl)) h1 hb fun x hx=>fe x (by simp[hx]))
  exact this
 ·rfl
 ·exact hb.frame _

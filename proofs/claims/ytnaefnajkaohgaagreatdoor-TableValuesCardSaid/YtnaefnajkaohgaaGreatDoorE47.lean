/- Part 47 of the proof of skewer.skewerlaw15.TableValues. -/
import Derived.Test.YtnaefnajkaohgaaGreatDoorE46
set_option linter.all false
namespace Go.Proofs.YtnaefnajkaohgaaGreatDoor
open Go.ChangeShapes Go.WideShapes Go.ChangeAt Go.RowKit Go.AL
set_option maxRecDepth 100000
theorem SS{W:World}(h:laidMetH Tryz.prog Rows.tableValuesRow.laid W):fj (Go.Proofs.YtnaefnajkaohgaaGreatDoor.gl Tryz.prog) { ι:=fun _ _=>none,F:=(· < W.heap.size),RT:=(Go.Proofs.YtnaefnajkaohgaaGreatDoor.gl Tryz.prog).rt } [] W:=by
 obtain⟨c0,c1,c2,c3⟩:=table h
 refine⟨⟨?_,?_,?_,fun b h=>h,fun _ _ _=>rfl,fun _ _ _ h=>by simp at h,fun v o h=>by simp at h⟩,fun g cs hg=>?_,rfl⟩
 ·rintro v v' L L' ⟨o,h,_⟩
  simp at h
 ·rintro b ⟨v,L,⟨o,h,_⟩,_⟩
  simp at h
 ·rintro b ⟨v,L,⟨o,h,_⟩,_⟩
  simp at h
 ·unfold Go.Proofs.YtnaefnajkaohgaaGreatDoor.gl at hg
  dsimp only at hg
  split at hg
  ·rename_i e
   cases hg
   subst e
   refine⟨rfl,.fh 0 0 _ (fun i=>[Value.nilFunc,.func (.func 294) #[] #[],.func (.func 296) #[] #[],.func (.func 297) #[] #[]].getD i undef) (Mt c0) (fun j d hj=>?_) (fun j d hj=>?_)⟩
   ·match j,hj with
    | 0,_=>exact⟨c0,rfl⟩
    | 1,_=>exact⟨c1,rfl⟩
    | 2,_=>exact⟨c2,rfl⟩
    | 3,_=>exact⟨c3,rfl⟩
    | j+4,hj=>simp at hj
   ·match j,hj with
    | 0,hj=>cases hj;exact .val _
    | 1,hj=>cases hj;exact .fn _ [] [] _ _ rfl rfl (fun i v d h=>by simp at h) (fun i v d h=>by simp at h)
    | 2,hj=>cases hj;exact .fn _ [] [] _ _ rfl rfl (fun i v d h=>by simp at h) (fun i v d h=>by simp at h)
    | 3,hj=>cases hj;exact .fn _ [] [] _ _ rfl rfl (fun i v d h=>by simp at h) (fun i v d h=>by simp at h)
    | j+4,hj=>simp at hj
  ·cases hg
theorem L9{v:Value}{n:Nat}(h:v.cells.toList.length=n)(hn:n≠1):∃ cs:Array Value,v = .agg cs∧v.cells=cs:=by
 cases v<;>first|exact⟨_,rfl,rfl⟩|(exfalso;apply hn;rw[← h];rfl)
theorem called{H:Type}{enc:TypeId×Value→H}{W:World}(hL:laidMetH Tryz.prog Rows.tableValuesRow.laid W){v0 v1:Value}{n:Int}{d0 d1:DataW H}{p0 p1:List MemPlace}
  (h0:DataW.Trod enc Tryz.prog W 0 (fun _=>true) true 32 v0 d0 p0) (h1:DataW.Trod enc Tryz.prog W 0 (fun _=>true) true 25 v1 d1 p1) (hn:(Lit.int .i64 n).wf=true) :
  Calls Tryz.prog 10 #[v0,v1,.int .i64 n] W fun e W'=>e = .returned (.bool true)∧Below W.heap.size W W':=by
 obtain⟨m0,h0⟩:=h0
 obtain⟨m1,h1⟩:=h1
 have k0:=EI 20 32 _ Sm _ _ _ h0
 have k1:=EI 20 25 _ Sl _ _ _ h1
 have eX:=SS hL
 generalize hc:({ ι:=fun _ _=>none,F:=(· < W.heap.size),RT:=(Go.Proofs.YtnaefnajkaohgaaGreatDoor.gl Tryz.prog).rt }:Ctx)=c at eX
 have hF:∀ b,b<W.heap.size→c.F b:=fun b hb=>by subst hc;exact hb
 obtain⟨ds0,f0,g0⟩:=KE (c:=c) hF k0
 obtain⟨ds1,f1,g1⟩:=KE (c:=c) hF k1
 obtain⟨Ia,rfl,e0⟩:=L9 k0.1.symm (by decide)
 obtain⟨Ib,rfl,e1⟩:=L9 k1.1.symm (by decide)
 rw[e0]at g0
 rw[e1]at g1
 obtain⟨x,rfl,hx⟩:=R2 f0
 obtain⟨a0,a1,a2,a3,a4,a5,rfl,ha⟩:=adS f1
 have r0:eV c W (.agg Ia) (.agg x.cells):=by
  have:=eV.agg Ia.toList x.cells g0.len g0.one g0.rep
  simpa using this
 have r1:eV c W (.agg Ib) (dW [a0,a1,a2,a3,a4,a5]):=by
  have:=eV.agg Ib.toList _ g1.len g1.one g1.rep
  simpa[dW]using this
 have AG : -9223372036854775808≤n∧n≤9223372036854775807:=by
  simp only[Lit.wf,ah,decide_eq_true_eq]at hn
  have q1:IntKind.i64.min = -9223372036854775808:=by decide
  have q2:IntKind.i64.max=9223372036854775807:=by decide
  omega
 have ix:re Tryz.prog _ 10 _ [] _:=Uh mixed aer (f10 x hx a0 a1 a2 a3 a4 a5 ha n AG)
 refine(ix c W [.agg Ia,.agg Ib,.int .i64 n] eX (.cons r0 (.cons r1 (.cons (.val _) .nil)))).mono fun e W' he=>?_
 obtain⟨v,c',d,H',rfl,hR,_,oL,hr,hs⟩:=he
 obtain⟨d',Hd,UD,rfl,rfl⟩:=hR
 cases UD
 cases hr
 refine⟨rfl,hs.os.1,hs.tape,hs.output,hs.size,fun k hk=>hs.kept k hk ?_⟩
 rintro⟨_,_,⟨o,h,_⟩,_⟩
 simp at h
theorem lifted(os:Os)(started:os.Started)(H:Type)(enc:TypeId×Value→H) :
  ReturnsInHanded {} Tryz.checked os 10 .any (fun w args=>(Rows.tableValuesSpec.pre enc Tryz.prog Tryz.f10 [] false w args∧laidMetH Tryz.prog Rows.tableValuesRow.laid w)∧sizedMet enc Tryz.prog Tryz.f10 (OpenSpec.ofChange Rows.tableValuesSpec) false w args)
   (Rows.tableValuesSpec.post enc Tryz.prog Tryz.f10 false true false false):=by
 refine returnsInHanded_of_change_and (C:=Tryz.checked) (X:=fun w _=>laidMetH Tryz.prog Rows.tableValuesRow.laid w) (fun _ _ _ hh h=>h.of_heap hh) own started (by kernel_rfl) Tryz.func10
  (ChangeSpec.witness_shaped (enc:=enc) (C:=Tryz.checked) (os:=os) (X:=fun w _=>laidMetH Tryz.prog Rows.tableValuesRow.laid w) false (World.doorLaid Tryz.prog 2000 os)
   #[.agg #[.int .u8 0,.int .u8 0,.int .u8 0,.slice none 0 0,.slice none 0 0,.slice none 0 0,.int .u8 0,.int .u8 0,.int .u8 0,.int .u8 0,.int .u8 0,.int .u8 0,.int .u8 0,.int .u8 0,.int .u8 0,.int .u8 0,.int .u8 0,.int .u8 0,.int .u8 0,.int .u8 0,.int .u8 0,.int .u8 0,.int .u8 0,.int .u8 0,.int .u8 0,.int .u8 0,.int .u8 0,.int .u8 0,.int .u8 0,.int .u8 0,.slice none 0 0],
    .agg #[.int .u8 0,.int .u8 0,.int .u8 0,.int .u8 0,.int .u8 0,.int .u8 0],.int .i64 0] 20 rfl (World.shaped_of_RefB (by kernel_rfl) (by kernel_rfl)) (by kernel_rfl) (by kernel_rfl) (by kernel_rfl) (S4 os _)) ?_
 intro W base args ds gs before OV hW _ _ hL _
 have ye:∀ (j:Nat) t v,Tryz.f10.params[j]? = some t→args[j]? = some v→Value.okWide Tryz.prog W .any base t v:=OV
 have NT:=hW
 obtain⟨p,q,lP,hV,rfl,hfz,lE⟩:=hW
 have hA:DataW.TrodAll enc Tryz.prog W 0 (fun _=>true) true Tryz.f10.params.toList args.toList ds p:=lP
 rw[Tryz.params10]at hA ye
 obtain⟨v0,v1,v2,d0,d1,d2,p0,p1,p2,rfl,rfl,rfl,h0,h1,h2⟩:=trodAll_three hA
 obtain⟨rfl,rfl⟩:=trodVars_none hV
 obtain⟨n,rfl,rfl,rfl,wn⟩:=open_int Tryz.underlying3 (ye 2 3 v2 rfl rfl) h2
 clear lP OV
 refine(called hL h0 h1 wn).mono fun e W' ⟨he,hb⟩=>?_
 subst he
 have ft:∀ x∈p0++p1 ++ [] ++ [],x.block<W.heap.size:=NT.lt
 refine⟨_,rfl,_,_,_,[],p0++(p1 ++ []),[],NT,trodAll_mk1 (shut_bool Tryz.underlying4 _),?_,?_,?_,fun h=>by cases h⟩
 ·have:=trodAll_mk3 (Below.trod laidOut (by kernel_rfl) (of_decide_eq_true (by kernel_rfl)) h0 hb fun x hx=>ft x (by simp[hx]))
   (Below.trod laidOut (by kernel_rfl) (of_decide_eq_true (by kernel_rfl)) h1 hb fun x hx=>ft x (by simp[hx]))
   (shut_int (w:=W') (spare:=fun b=>decide (b<W.heap.size)) (enc:=enc) (base:=0) (held:=true) Tryz.underlying3 wn)
  exact this
 ·rfl
 ·exact hb.frame _

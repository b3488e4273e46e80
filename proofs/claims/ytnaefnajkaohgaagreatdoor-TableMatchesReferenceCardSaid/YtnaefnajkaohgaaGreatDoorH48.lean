/- 48 -/
import Derived.Test.YtnaefnajkaohgaaGreatDoorH47
set_option linter.all false
namespace Go.Proofs.YtnaefnajkaohgaaGreatDoor
open Go.ChangeShapes Go.WideShapes Go.ChangeAt Go.RowKit Go.AL
set_option maxRecDepth 100000
def UR{W:World}(h:laidMetH Tryz.prog Rows.tableMatchesReferenceRow.laid W):e9 (Go.Proofs.YtnaefnajkaohgaaGreatDoor.gl Tryz.prog) { ι:=fun _ _=>none,F:=(· < W.heap.size),RT:=(Go.Proofs.YtnaefnajkaohgaaGreatDoor.gl Tryz.prog).rt } [] W:=by
 obtain⟨c0,c1,c2,c3⟩:=table h
 refine⟨⟨?_,?_,?_,fun b h=>h,fun _ _ _=>rfl,fun _ _ _ h=>by simp at h,fun v o h=>by simp at h⟩,fun g cs hg=>?_,rfl⟩
 ·rintro v v' L L' ⟨o,h,_⟩
  simp at h
 ·rintro b ⟨v,L,⟨o,h,_⟩,_⟩
  simp at h
 ·rintro b ⟨v,L,⟨o,h,_⟩,_⟩
  simp at h
 ·unfold Go.Proofs.YtnaefnajkaohgaaGreatDoor.gl at hg
  dsimp only at hg
  split at hg
  ·rename_i e
   cases hg
   subst e
   refine⟨rfl,.eW 0 0 _ (fun i=>[Value.nilFunc,.func (.func 294) #[] #[],.func (.func 296) #[] #[],.func (.func 297) #[] #[]].getD i undef) (Od c0) (fun j d hj=>?_) (fun j d hj=>?_)⟩
   ·match j,hj with
    | 0,_=>exact⟨c0,rfl⟩
    | 1,_=>exact⟨c1,rfl⟩
    | 2,_=>exact⟨c2,rfl⟩
    | 3,_=>exact⟨c3,rfl⟩
    | j+4,hj=>simp at hj
   ·match j,hj with
    | 0,hj=>cases hj;exact .val _
    | 1,hj=>cases hj;exact .fn _ [] [] _ _ rfl rfl (fun i v d h=>by simp at h) (fun i v d h=>by simp at h)
    | 2,hj=>cases hj;exact .fn _ [] [] _ _ rfl rfl (fun i v d h=>by simp at h) (fun i v d h=>by simp at h)
    | 3,hj=>cases hj;exact .fn _ [] [] _ _ rfl rfl (fun i v d h=>by simp at h) (fun i v d h=>by simp at h)
    | j+4,hj=>simp at hj
  ·cases hg
def NW{v:Value}{n:Nat}(h:v.cells.toList.length=n)(hn:n≠1):∃ cs:Array Value,v = .agg cs∧v.cells=cs:=by
 cases v<;>first|exact⟨_,rfl,rfl⟩|(exfalso;apply hn;rw[← h];rfl)
def Zp {d:D}(h:sW (.sl [.i64]) d):∃ l:List Int,d=dI l:=by
 obtain⟨len,W,rfl,h⟩:=h
 have:∀ i,i<len→∃ n,W i=[.int .i64 n]:=fun i hi=>by
  obtain⟨b,bs,h1,h2,h3⟩:=(h i hi).cons
  obtain⟨n,rfl,_⟩:=h2
  exact⟨n,by rw[h1,h3.done]⟩
 have hex:∃ f:Nat→Int,∀ i,i<len→W i=[.int .i64 (f i)]:=
  ⟨fun i=>if h:i<len then Classical.choose (this i h) else 0,fun i hi=>by simp only[hi,dite_true];exact bM (this i hi)⟩
 obtain⟨f,hf⟩:=hex
 refine⟨(List.range len).map f,?_⟩
 unfold dI
 rw[bp]
 congr 1
 refine aj fun i hi=>?_
 rw[hf i (by simpa using hi)]
 simp
def called{H:Type}{enc:TypeId×Value→H}{W:World}(hL:laidMetH Tryz.prog Rows.tableMatchesReferenceRow.laid W){v0 v1:Value}{s:Option Addr}{sl sc:Nat}{d0 d1 d2:DataW H}{p0 p1 p2:List MemPlace}
  (h0:DataW.Trod enc Tryz.prog W 0 (fun _=>true) true 32 v0 d0 p0) (h1:DataW.Trod enc Tryz.prog W 0 (fun _=>true) true 25 v1 d1 p1) (h2:DataW.Trod enc Tryz.prog W 0 (fun _=>true) true 33 (.slice s sl sc) d2 p2) :
  Calls Tryz.prog 3 #[v0,v1,.slice s sl sc] W fun e W'=>e = .returned (.bool true)∧Below W.heap.size W W':=by
 obtain⟨m0,h0⟩:=h0
 obtain⟨m1,h1⟩:=h1
 have k0:=Bn 20 32 _ Um _ _ _ h0
 have k1:=Bn 20 25 _ Ul _ _ _ h1
 have eM:=UR hL
 generalize hc:({ ι:=fun _ _=>none,F:=(· < W.heap.size),RT:=(Go.Proofs.YtnaefnajkaohgaaGreatDoor.gl Tryz.prog).rt }:Ctx)=c at eM
 have hF:∀ b,b<W.heap.size→c.F b:=fun b hb=>by subst hc;exact hb
 obtain⟨ds0,f0,g0⟩:=IY (c:=c) hF k0
 obtain⟨ds1,f1,g1⟩:=IY (c:=c) hF k1
 obtain⟨J1,rfl,e0⟩:=NW k0.1.symm (by decide)
 obtain⟨J2,rfl,e1⟩:=NW k1.1.symm (by decide)
 rw[e0]at g0
 rw[e1]at g1
 obtain⟨x,rfl,hx⟩:=TW f0
 obtain⟨a0,a1,a2,a3,a4,a5,rfl,ha⟩:=age f1
 have r0:eJ c W (.agg J1) (.agg x.cells):=by
  have:=eJ.agg J1.toList x.cells g0.len g0.one g0.rep
  simpa using this
 have r1:eJ c W (.agg J2) (dW [a0,a1,a2,a3,a4,a5]):=by
  have:=eJ.agg J2.toList _ g1.len g1.one g1.rep
  simpa[dW]using this
 obtain⟨m2,h2⟩:=h2
 have k2:=Bn 20 33 _ Un _ _ _ h2
 obtain⟨ds2,f2,g2⟩:=IY (c:=c) hF k2
 obtain⟨d,r,rfl,hd,hr⟩:=f2.cons
 obtain rfl:=hr.done
 obtain⟨l,rfl⟩:=Zp hd
 have r2:eJ c W (.slice s sl sc) (dI l):=g2.rep 0 _ _ rfl rfl
 have iQ:sU Tryz.prog _ 3 _ [] _:=Wp mixed agH (f3 x hx a0 a1 a2 a3 a4 a5 ha l)
 refine(iQ c W [.agg J1,.agg J2,.slice s sl sc] eM (.cons r0 (.cons r1 (.cons r2 .nil)))).mono fun e W' he=>?_
 obtain⟨v,c',d,H',rfl,hR,_,pU,hr,hs⟩:=he
 obtain⟨d',Hd,WO,rfl,rfl⟩:=hR
 cases WO
 cases hr
 refine⟨rfl,hs.os.1,hs.tape,hs.output,hs.size,fun k hk=>hs.kept k hk ?_⟩
 rintro⟨_,_,⟨o,h,_⟩,_⟩
 simp at h
def lifted(os:Os)(started:os.Started)(H:Type)(enc:TypeId×Value→H) :
  ReturnsInHanded {} Tryz.checked os 3 .any (fun w args=>(Rows.tableMatchesReferenceSpec.pre enc Tryz.prog Tryz.f3 [] false w args∧laidMetH Tryz.prog Rows.tableMatchesReferenceRow.laid w)∧sizedMet enc Tryz.prog Tryz.f3 (OpenSpec.ofChange Rows.tableMatchesReferenceSpec) false w args)
   (Rows.tableMatchesReferenceSpec.post enc Tryz.prog Tryz.f3 false true false false):=by
 refine returnsInHanded_of_change_and (C:=Tryz.checked) (X:=fun w _=>laidMetH Tryz.prog Rows.tableMatchesReferenceRow.laid w) (fun _ _ _ hh h=>h.of_heap hh) own started (by kernel_rfl) Tryz.func3
  (ChangeSpec.witness_shaped (enc:=enc) (C:=Tryz.checked) (os:=os) (X:=fun w _=>laidMetH Tryz.prog Rows.tableMatchesReferenceRow.laid w) false (World.doorLaid Tryz.prog 2000 os)
   #[.agg #[.int .u8 0,.int .u8 0,.int .u8 0,.slice none 0 0,.slice none 0 0,.slice none 0 0,.int .u8 0,.int .u8 0,.int .u8 0,.int .u8 0,.int .u8 0,.int .u8 0,.int .u8 0,.int .u8 0,.int .u8 0,.int .u8 0,.int .u8 0,.int .u8 0,.int .u8 0,.int .u8 0,.int .u8 0,.int .u8 0,.int .u8 0,.int .u8 0,.int .u8 0,.int .u8 0,.int .u8 0,.int .u8 0,.int .u8 0,.int .u8 0,.slice none 0 0],
    .agg #[.int .u8 0,.int .u8 0,.int .u8 0,.int .u8 0,.int .u8 0,.int .u8 0],.slice none 0 0] 20 rfl (World.shaped_of_RefB (by kernel_rfl) (by kernel_rfl)) (by kernel_rfl) (by kernel_rfl) (by kernel_rfl) (U0 os _)) ?_
 intro W base args ds gs before QN hW _ _ hL _
 have zV:∀ (j:Nat) t v,Tryz.f3.params[j]? = some t→args[j]? = some v→Value.okWide Tryz.prog W .any base t v:=QN
 have PJ:=hW
 obtain⟨p,q,mI,hV,rfl,hfz,lz⟩:=hW
 have hA:DataW.TrodAll enc Tryz.prog W 0 (fun _=>true) true Tryz.f3.params.toList args.toList ds p:=mI
 rw[Tryz.params3]at hA zV
 obtain⟨v0,v1,v2,d0,d1,d2,p0,p1,p2,rfl,rfl,rfl,h0,h1,h2⟩:=trodAll_three hA
 obtain⟨rfl,rfl⟩:=trodVars_none hV
 obtain⟨s,sl,sc,rfl⟩:=okWide_slice Tryz.underlying33 (zV 2 33 v2 rfl rfl)
 clear mI QN
 refine(called hL h0 h1 h2).mono fun e W' ⟨he,hb⟩=>?_
 subst he
 have fq:∀ x∈p0++p1 ++ p2 ++ [],x.block<W.heap.size:=PJ.lt
 refine⟨_,rfl,_,_,_,[],p0++(p1 ++ p2),[],PJ,trodAll_mk1 (shut_bool Tryz.underlying4 _),?_,?_,?_,fun h=>by cases h⟩
 ·have:=trodAll_mk3 (Below.trod laidOut (by kernel_rfl) (of_decide_eq_true (by kernel_rfl)) h0 hb fun x hx=>fq x (by simp[hx]))
   (Below.trod laidOut (by kernel_rfl) (of_decide_eq_true (by kernel_rfl)) h1 hb fun x hx=>fq x (by simp[hx]))
   (Below.trod laidOut (by kernel_rfl) (of_decide_eq_true (by kernel_rfl)) h2 hb fun x hx=>fq x (by simp[hx]))
  exact this
 ·rfl
 ·exact hb.frame _

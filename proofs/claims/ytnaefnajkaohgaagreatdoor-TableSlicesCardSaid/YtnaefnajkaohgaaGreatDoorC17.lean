/- Part 17 of the proof of skewer.skewerlaw15.TableSlices. -/
import Derived.Test.YtnaefnajkaohgaaGreatDoorC16
set_option linter.all false
namespace Go.Proofs.YtnaefnajkaohgaaGreatDoor
open Go Go.AL Classical
set_option maxRecDepth 100000
set_option maxHeartbeats 1000000
theorem run_one{k:Nat}{f:FuncId}{args:List D}{d:D}(h:run T [] k f args []=some [(d,[])]):Wf T f args [] (Is d):=by
 refine Ev.mono (run_ev (.nil _) h) fun r hr=>?_
 obtain⟨x,hx,hr⟩:=hr
 rw[List.mem_singleton]at hx
 subst hx
 exact⟨_,_,hr,rfl,rfl⟩
def decN:List (List D)→Option (List Int)
 | []=>some []
 | [.val (.int .i64 n)]::r=>match decN r with
  | some l=>some (n::l)
  | none=>none
 | _=>none
def decI:D→Option (List Int)
 | .sl 1 es=>decN es
 | _=>none
def decNN:List (List D)→Option (List (List Int))
 | []=>some []
 | [d]::r=>match decI d,decNN r with
  | some a,some l=>some (a::l)
  | _,_=>none
 | _=>none
theorem decN_spec:∀ {es:List (List D)} {l:List Int},decN es=some l→es=l.map f1
 | [],l,h=>by cases h;rfl
 | [.val (.int .i64 n)]::r,l,h=>by
  simp only[decN]at h
  split at h
  ·rename_i l' h';cases h;rw[decN_spec h'];simp
  ·cases h
theorem decI_spec{d:D}{l:List Int}(h:decI d=some l):d=dI l:=by
 unfold decI at h
 split at h
 ·rw[decN_spec h];unfold dI;rfl
 ·cases h
theorem decNN_spec:∀ {es:List (List D)} {l:List (List Int)},decNN es=some l→es=l.map fI
 | [],l,h=>by cases h;rfl
 | [d]::r,l,h=>by
  simp only[decNN]at h
  split at h
  ·rename_i a l' h1 h2;cases h;rw[decNN_spec h2,decI_spec h1];simp
  ·cases h
def inB(a b n:Int):Bool:=decide (a≤n)&&decide (n<b)
def rowB(n:Int)(l:List Int):Bool:=decide ((l.length:Int)=n)&&l.all (inB (-1) n)
def trnB(tn:List Int):Nat→Bool
 | 0=>true
 | k+1=>inB 0 8 (tn.getD k 0)&&decide (tn.getD (tn.getD k 0).toNat 0=k)&&trnB tn k
def brdB(n:Int)(nx:List (List Int))(tn:List Int):Bool:=inB 1 10 n&&decide (nx.length=8)&&nx.all (rowB n)&&decide (tn.length=8)&&trnB tn 8
theorem trnB_spec{tn:List Int}:∀ {m:Nat},trnB tn m=true→∀ d:Int,0≤d→d<m→0≤gt tn d∧gt tn d<8∧gt tn (gt tn d)=d
 | 0,_,d,h0,h1=>by omega
 | m+1,h,d,h0,h1=>by
  simp only[trnB,inB,Bool.and_eq_true,decide_eq_true_eq]at h
  by_cases e:d=m
  ·subst e
   have e2:gt tn (m:Int)=tn.getD m 0:=by unfold gt;rfl
   rw[e2]
   refine⟨h.1.1.1,h.1.1.2,?_⟩
   have:=h.1.2
   simpa[gt]using this
  ·exact trnB_spec h.2 d h0 (by omega)
theorem brdB_spec{n:Int}{nx:List (List Int)}{tn:List Int}(h:brdB n nx tn=true):BoardOK (mkB n nx tn):=by
 simp only[brdB,inB,Bool.and_eq_true,decide_eq_true_eq]at h
 obtain⟨⟨⟨⟨h1,h2⟩,h3⟩,h4⟩,h5⟩:=h
 refine⟨⟨h1.1,by show n≤9;omega⟩,h2,fun l hl=>?_,h4,fun d a b=>trnB_spec h5 d a (by omega)⟩
 have:=List.all_eq_true.1 h3 l hl
 simp only[rowB,inB,Bool.and_eq_true,decide_eq_true_eq,List.all_eq_true]at this
 exact⟨this.1,this.2⟩
def chkG(a b:Int):Bool:=match run T [] 40 149 [.i a,.i b] []with
 | some [(.tup [.agg [.val (.int .i64 n),.sl 1 es,d],.val (.int .i64 e)],[])]=>match decNN es,decI d with
  | some nx,some tn=>brdB n nx tn&&decide (e=0)
  | _,_=>false
 | _=>false
theorem chkG_spec{a b:Int}(h:chkG a b=true):∃ n nx tn,Wf T 149 [.i a,.i b] [] (Is (.tup [bD n nx tn,.i 0]))∧BoardOK (mkB n nx tn):=by
 unfold chkG at h
 split at h
 ·rename_i n es d e hr
  split at h
  ·rename_i nx tn h1 h2
   simp only[Bool.and_eq_true,decide_eq_true_eq]at h
   refine⟨n,nx,tn,?_,brdB_spec h.1⟩
   have:=run_one hr
   rw[decNN_spec h1,decI_spec h2,h.2]at this
   exact this
  ·cases h
 ·cases h
theorem g11:chkG 1 1=true:=by kernel_rfl
theorem g12:chkG 1 2=true:=by kernel_rfl
theorem g13:chkG 1 3=true:=by kernel_rfl
theorem g21:chkG 2 1=true:=by kernel_rfl
theorem g22:chkG 2 2=true:=by kernel_rfl
theorem g23:chkG 2 3=true:=by kernel_rfl
theorem g31:chkG 3 1=true:=by kernel_rfl
theorem g32:chkG 3 2=true:=by kernel_rfl
theorem g33:chkG 3 3=true:=by kernel_rfl
theorem f149(a b:Int)(ha:1≤a∧a≤3)(hb:1≤b∧b≤3):∃ n nx tn,Wf T 149 [.i a,.i b] [] (Is (.tup [bD n nx tn,.i 0]))∧BoardOK (mkB n nx tn):=by
 rcases(show a=1∨a=2∨a=3 by omega)with rfl|rfl|rfl<;>rcases(show b=1∨b=2∨b=3 by omega)with rfl|rfl|rfl
 ·exact chkG_spec g11
 ·exact chkG_spec g12
 ·exact chkG_spec g13
 ·exact chkG_spec g21
 ·exact chkG_spec g22
 ·exact chkG_spec g23
 ·exact chkG_spec g31
 ·exact chkG_spec g32
 ·exact chkG_spec g33
end Go.Proofs.YtnaefnajkaohgaaGreatDoor

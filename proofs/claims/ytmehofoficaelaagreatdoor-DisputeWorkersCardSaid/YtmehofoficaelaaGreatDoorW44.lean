/- Part 44 of DisputeWorkers. -/
import Derived.Test.YtmehofoficaelaaGreatDoorW36
set_option linter.all false
namespace Go.Proofs.YtmehofoficaelaaGreatDoor
open Go Go.AL
set_option maxRecDepth 100000
def b8(n:Int):D:=.val (.int .u8 n)
def Y0:List Int:=[230,94,173,98,131,117,62,198,18,110,46,86,180,4,199,32,214,0,110,9,176,199,77,209,30,199,37,123,227,206,189,60]
def Y1:List Int:=[183,122,207,152,233,224,120,134,33,80,216,180,78,125,56,110,181,8,231,164,134,77,90,184,96,250,238,233,234,163,147,7]
def Y2:List Int:=[34,216,172,228,37,46,150,252,5,199,107,205,247,87,136,119,49,127,176,200,180,114,254,45,113,159,205,214,14,249,22,103]
def Y3:List Int:=[62,179,11,109,41,226,97,50,117,119,129,79,72,169,132,20,86,6,134,156,117,212,28,161,171,112,212,166,82,235,14,101]
def q0:D:=.agg [(.i 3),(.sl 1 [[(.sl 1 [[(.i 1)],[(.i 2)],[(.i (-1))]])],[(.sl 1 [[(.i (-1))],[(.i 0)],[(.i 1)]])]]),(.sl 1 [[(.i 1)],[(.i 0)]]),(.sl 3 [[(.val (.string ⟨#[97]⟩)),(.sl 1 [[(.sl 2 [[(.i 1),(.i 0)],[(.i 3),(.i 0)]])],[(.sl 2 [[(.i 1),(.i 0)],[(.i 4),(.i 0)],[(.i 6),(.i 0)]])]]),(.b false)]]),(.i 0),(.b false),.gg,(.i 3),(.i 2)]
def q6:D:=.sl 1 [[(.i 0)],[(.i 1)],[(.i 2)]]
def q3:D:=.sl 1 [[(.i 0)]]
def q7:D:=.sl 1 [[(.i 0)],[(.i 2)],[(.i 0)]]
def q9:D:=.sl 1 [[(.i 1)],[(.i 0)],[(.i 2)]]
def q1:D:=.sl 5 [[q6,q3,q3,(.i 0),(.i 1)],[q7,q3,q3,(.i 0),(.i 0)],[q9,q3,q3,(.i 0),(.i 0)]]
def q2:D:=.sl 2 [[(.i 1),(.i 1)],[(.i 3),(.i 0)],[(.i 3),(.i 2)]]
def q4:D:=.sl 2 [[(.i 3),(.i 3)],[(.i 3),(.i 0)],[(.i 3),(.i 2)]]
def q5:D:=.sl 2 [[(.i 1),(.i 1)],[(.i 2),(.i 0)],[(.i 3),(.i 2)]]
def q8:D:=.sl 2 [[(.i 1),(.i 1)],[(.i 3),(.i 0)]]
def q10:D:=.sl 36 [([(.i 0),(.i 0),(.i 3),q2]++Y0.map b8)]
def q11:D:=.agg [q6,q3,q3,(.i 0),(.i 1)]
def q12:D:=.agg [q7,q3,q3,(.i 0),(.i 0)]
def q13:D:=.agg [q9,q3,q3,(.i 0),(.i 0)]
def Tf:D:=.sl 1 [[(.i 1)]]
theorem z0:ki [(1,1),(3,0),(3,2)]=Y0:=by rw[ki,oL];kernel_rfl
theorem k0:Ev T (.call 41 [q2] []) (lg [((.agg (Y0.map b8)),[])]):=
 M8 [(1,1),(3,0),(3,2)] Y0 (by kernel_rfl) rfl z0 (by simp) (by simp)
theorem z1:ki [(3,3),(3,0),(3,2)]=Y1:=by rw[ki,oL];kernel_rfl
theorem k1:Ev T (.call 41 [q4] []) (lg [((.agg (Y1.map b8)),[])]):=
 M8 [(3,3),(3,0),(3,2)] Y1 (by kernel_rfl) rfl z1 (by simp) (by simp)
def m0:=lF.cons k0 (.nil T)
def m1:=lF.cons k1 m0
theorem k2:Ev T (.call 110 [q0] []) (lg [((.b true),[])]):=
 qq (k:=60) m1 (by kernel_rfl)
def m2:=lF.cons k2 m1
theorem k3:Ev T (.call 94 [q0,q11] []) (lg [((.sl 5 [[q7,q3,q3,(.i 0),(.i 0)]]),[])]):=
 qq (k:=60) m2 (by kernel_rfl)
def m3:=lF.cons k3 m2
theorem k4:Ev T (.call 94 [q0,q12] []) (lg [(.gg,[])]):=
 qq (k:=60) m3 (by kernel_rfl)
def m4:=lF.cons k4 m3
theorem k5:Ev T (.call 94 [q0,q13] []) (lg [((.sl 5 [[q6,q3,q3,(.i 0),(.i 1)]]),[])]):=
 qq (k:=60) m4 (by kernel_rfl)
def m5:=lF.cons k5 m4
theorem k6:Ev T (.call 56 [q0,q1] []) (lg [((.tup [(.sl 1 [[Tf],[.gg],[q3]]),(.i 0)]),[])]):=
 qq (k:=60) m5 (by kernel_rfl)
theorem k7:Ev T (.call 49 [q2] []) (lg [((.agg (Y0.map b8)),[])]):=
 M9 [(1,1),(3,0),(3,2)] Y0 (by kernel_rfl) rfl z0 (by simp) (by simp)
theorem k8:Ev T (.call 49 [q4] []) (lg [((.agg (Y1.map b8)),[])]):=
 M9 [(3,3),(3,0),(3,2)] Y1 (by kernel_rfl) rfl z1 (by simp) (by simp)
def m6:=lF.cons k6 m5
def m7:=lF.cons k7 m6
def m8:=lF.cons k8 m7
theorem k9:Ev T (.call 58 [q0,q11] []) (lg [((.tup [(.i 0),(.b false)]),[])]):=
 qq (k:=60) m8 (by kernel_rfl)
def m9:=lF.cons k9 m8
theorem k10:Ev T (.call 30 [q0,q1,(.sl 36 [([(.i 0),(.i 0),(.i 3),q2]++Y0.map b8),([(.i 0),(.i 0),(.i 3),q4]++Y1.map b8)])] []) (lg [((.agg [(.i 0),Tf,(.i 0)]),[])]):=
 qq (k:=60) m9 (by kernel_rfl)
theorem z2:ki [(1,1),(2,0),(3,2)]=Y2:=by rw[ki,oL];kernel_rfl
theorem k11:Ev T (.call 41 [q5] []) (lg [((.agg (Y2.map b8)),[])]):=
 M8 [(1,1),(2,0),(3,2)] Y2 (by kernel_rfl) rfl z2 (by simp) (by simp)
theorem k12:Ev T (.call 49 [q5] []) (lg [((.agg (Y2.map b8)),[])]):=
 M9 [(1,1),(2,0),(3,2)] Y2 (by kernel_rfl) rfl z2 (by simp) (by simp)
def m10:=lF.cons k10 m9
def m11:=lF.cons k11 m10
def m12:=lF.cons k12 m11
theorem k13:Ev T (.call 58 [q0,q12] []) (lg [((.tup [(.i 3),(.b true)]),[])]):=
 qq (k:=60) m12 (by kernel_rfl)
def m13:=lF.cons k13 m12
theorem k14:Ev T (.call 30 [q0,q1,(.sl 36 [([(.i 0),(.i 0),(.i 3),q2]++Y0.map b8),([(.i 0),(.i 0),(.i 3),q5]++Y2.map b8)])] []) (lg [((.agg [(.i 1),Tf,(.i 0)]),[])]):=
 qq (k:=60) m13 (by kernel_rfl)
def m14:=lF.cons k14 m13
theorem k15:Ev T (.call 58 [q0,q13] []) (lg [((.tup [(.i 0),(.b false)]),[])]):=
 qq (k:=60) m14 (by kernel_rfl)
def m15:=lF.cons k15 m14
theorem k16:Ev T (.call 33 [q0,q1,q10] []) (lg [((.agg [q2,.gg,(.i 0)]),[])]):=
 qq (k:=60) m15 (by kernel_rfl)
def m16:=lF.cons k16 m15
theorem k17:Ev T (.call 30 [q0,q1,q10] []) (lg [((.agg [(.i 0),.gg,(.i 270)]),[])]):=
 qq (k:=60) m16 (by kernel_rfl)
theorem z3:ki [(1,1),(3,0)]=Y3:=by rw[ki,oL];kernel_rfl
theorem k18:Ev T (.call 41 [q8] []) (lg [((.agg (Y3.map b8)),[])]):=
 M8 [(1,1),(3,0)] Y3 (by kernel_rfl) rfl z3 (by simp) (by simp)
theorem k19:Ev T (.call 49 [q8] []) (lg [((.agg (Y3.map b8)),[])]):=
 M9 [(1,1),(3,0)] Y3 (by kernel_rfl) rfl z3 (by simp) (by simp)
def m17:=lF.cons k17 m16
def m18:=lF.cons k18 m17
def m19:=lF.cons k19 m18
theorem k20:Ev T (.call 30 [q0,q1,(.sl 36 [([(.i 0),(.i 0),(.i 2),q8]++Y3.map b8)])] []) (lg [((.agg [(.i 0),.gg,(.i 180)]),[])]):=
 qq (k:=60) m19 (by kernel_rfl)
def m20:=lF.cons k20 m19
theorem k21:Ev T (.call 37 [q0,q1,q2,(.i 0)] []) (lg [((.agg [(.b true),(.i 0)]),[])]):=
 qq (k:=60) m20 (by kernel_rfl)
def m21:=lF.cons k21 m20
theorem k22:Ev T (.call 37 [q0,q1,q4,(.i 0)] []) (lg [((.agg [(.b false),(.i 0)]),[])]):=
 qq (k:=60) m21 (by kernel_rfl)
def m22:=lF.cons k22 m21
theorem k23:Ev T (.call 37 [q0,q1,q2,(.i 3)] []) (lg [((.agg [(.b false),(.i 1)]),[])]):=
 qq (k:=60) m22 (by kernel_rfl)
def m23:=lF.cons k23 m22
theorem k24:Ev T (.call 24 [] []) (lg [((.b true),[])]):=
 qq (k:=60) m23 (by kernel_rfl)

/- Part 44 of DisputeTruth. -/
import Derived.Test.YtmehofoficaelaaGreatDoorV36
set_option linter.all false
namespace Go.Proofs.YtmehofoficaelaaGreatDoor
open Go Go.AL
set_option maxRecDepth 100000
def b8(n:Int):D:=.val (.int .u8 n)
def Y0:List Int:=[230,94,173,98,131,117,62,198,18,110,46,86,180,4,199,32,214,0,110,9,176,199,77,209,30,199,37,123,227,206,189,60]
def Y1:List Int:=[183,122,207,152,233,224,120,134,33,80,216,180,78,125,56,110,181,8,231,164,134,77,90,184,96,250,238,233,234,163,147,7]
def Y2:List Int:=[34,216,172,228,37,46,150,252,5,199,107,205,247,87,136,119,49,127,176,200,180,114,254,45,113,159,205,214,14,249,22,103]
def Y3:List Int:=[62,179,11,109,41,226,97,50,117,119,129,79,72,169,132,20,86,6,134,156,117,212,28,161,171,112,212,166,82,235,14,101]
def q0:D:=.agg [(.i 3),(.sl 1 [[(.sl 1 [[(.i 1)],[(.i 2)],[(.i (-1))]])],[(.sl 1 [[(.i (-1))],[(.i 0)],[(.i 1)]])]]),(.sl 1 [[(.i 1)],[(.i 0)]]),(.sl 3 [[(.val (.string ⟨#[97]⟩)),(.sl 1 [[(.sl 2 [[(.i 1),(.i 0)],[(.i 3),(.i 0)]])],[(.sl 2 [[(.i 1),(.i 0)],[(.i 4),(.i 0)],[(.i 6),(.i 0)]])]]),(.b false)]]),(.i 0),(.b false),.fX,(.i 3),(.i 2)]
def q6:D:=.sl 1 [[(.i 0)],[(.i 1)],[(.i 2)]]
def q3:D:=.sl 1 [[(.i 0)]]
def q7:D:=.sl 1 [[(.i 0)],[(.i 2)],[(.i 0)]]
def q9:D:=.sl 1 [[(.i 1)],[(.i 0)],[(.i 2)]]
def q1:D:=.sl 5 [[q6,q3,q3,(.i 0),(.i 1)],[q7,q3,q3,(.i 0),(.i 0)],[q9,q3,q3,(.i 0),(.i 0)]]
def q2:D:=.sl 2 [[(.i 1),(.i 1)],[(.i 3),(.i 0)],[(.i 3),(.i 2)]]
def q4:D:=.sl 2 [[(.i 3),(.i 3)],[(.i 3),(.i 0)],[(.i 3),(.i 2)]]
def q5:D:=.sl 2 [[(.i 1),(.i 1)],[(.i 2),(.i 0)],[(.i 3),(.i 2)]]
def q8:D:=.sl 2 [[(.i 1),(.i 1)],[(.i 3),(.i 0)]]
def ZV:D:=.sl 36 [([(.i 0),(.i 0),(.i 3),q2]++Y0.map b8)]
def ZX:D:=.agg [q6,q3,q3,(.i 0),(.i 1)]
def ZY:D:=.agg [q7,q3,q3,(.i 0),(.i 0)]
def ZZ:D:=.agg [q9,q3,q3,(.i 0),(.i 0)]
def SO:D:=.sl 1 [[(.i 1)]]
theorem z0:kj [(1,1),(3,0),(3,2)]=Y0:=by rw[kj,oj];kernel_rfl
theorem k0:Ev T (.call 41 [q2] []) (kS [((.agg (Y0.map b8)),[])]):=
 Mt [(1,1),(3,0),(3,2)] Y0 (by kernel_rfl) rfl z0 (by simp) (by simp)
theorem z1:kj [(3,3),(3,0),(3,2)]=Y1:=by rw[kj,oj];kernel_rfl
theorem k1:Ev T (.call 41 [q4] []) (kS [((.agg (Y1.map b8)),[])]):=
 Mt [(3,3),(3,0),(3,2)] Y1 (by kernel_rfl) rfl z1 (by simp) (by simp)
def m0:=lu.cons k0 (.nil T)
def m1:=lu.cons k1 m0
theorem k2:Ev T (.call 110 [q0] []) (kS [((.b true),[])]):=
 pZ (k:=60) m1 (by kernel_rfl)
def m2:=lu.cons k2 m1
theorem k3:Ev T (.call 94 [q0,ZX] []) (kS [((.sl 5 [[q7,q3,q3,(.i 0),(.i 0)]]),[])]):=
 pZ (k:=60) m2 (by kernel_rfl)
def m3:=lu.cons k3 m2
theorem k4:Ev T (.call 94 [q0,ZY] []) (kS [(.fX,[])]):=
 pZ (k:=60) m3 (by kernel_rfl)
def m4:=lu.cons k4 m3
theorem k5:Ev T (.call 94 [q0,ZZ] []) (kS [((.sl 5 [[q6,q3,q3,(.i 0),(.i 1)]]),[])]):=
 pZ (k:=60) m4 (by kernel_rfl)
def m5:=lu.cons k5 m4
theorem k6:Ev T (.call 56 [q0,q1] []) (kS [((.tup [(.sl 1 [[SO],[.fX],[q3]]),(.i 0)]),[])]):=
 pZ (k:=60) m5 (by kernel_rfl)
theorem k7:Ev T (.call 49 [q2] []) (kS [((.agg (Y0.map b8)),[])]):=
 Mu [(1,1),(3,0),(3,2)] Y0 (by kernel_rfl) rfl z0 (by simp) (by simp)
theorem k8:Ev T (.call 49 [q4] []) (kS [((.agg (Y1.map b8)),[])]):=
 Mu [(3,3),(3,0),(3,2)] Y1 (by kernel_rfl) rfl z1 (by simp) (by simp)
def m6:=lu.cons k6 m5
def m7:=lu.cons k7 m6
def m8:=lu.cons k8 m7
theorem k9:Ev T (.call 58 [q0,ZX] []) (kS [((.tup [(.i 0),(.b false)]),[])]):=
 pZ (k:=60) m8 (by kernel_rfl)
def m9:=lu.cons k9 m8
theorem k10:Ev T (.call 30 [q0,q1,(.sl 36 [([(.i 0),(.i 0),(.i 3),q2]++Y0.map b8),([(.i 0),(.i 0),(.i 3),q4]++Y1.map b8)])] []) (kS [((.agg [(.i 0),SO,(.i 0)]),[])]):=
 pZ (k:=60) m9 (by kernel_rfl)
theorem z2:kj [(1,1),(2,0),(3,2)]=Y2:=by rw[kj,oj];kernel_rfl
theorem k11:Ev T (.call 41 [q5] []) (kS [((.agg (Y2.map b8)),[])]):=
 Mt [(1,1),(2,0),(3,2)] Y2 (by kernel_rfl) rfl z2 (by simp) (by simp)
theorem k12:Ev T (.call 49 [q5] []) (kS [((.agg (Y2.map b8)),[])]):=
 Mu [(1,1),(2,0),(3,2)] Y2 (by kernel_rfl) rfl z2 (by simp) (by simp)
def m10:=lu.cons k10 m9
def m11:=lu.cons k11 m10
def m12:=lu.cons k12 m11
theorem k13:Ev T (.call 58 [q0,ZY] []) (kS [((.tup [(.i 3),(.b true)]),[])]):=
 pZ (k:=60) m12 (by kernel_rfl)
def m13:=lu.cons k13 m12
theorem k14:Ev T (.call 30 [q0,q1,(.sl 36 [([(.i 0),(.i 0),(.i 3),q2]++Y0.map b8),([(.i 0),(.i 0),(.i 3),q5]++Y2.map b8)])] []) (kS [((.agg [(.i 1),SO,(.i 0)]),[])]):=
 pZ (k:=60) m13 (by kernel_rfl)
def m14:=lu.cons k14 m13
theorem k15:Ev T (.call 58 [q0,ZZ] []) (kS [((.tup [(.i 0),(.b false)]),[])]):=
 pZ (k:=60) m14 (by kernel_rfl)
def m15:=lu.cons k15 m14
theorem k16:Ev T (.call 33 [q0,q1,ZV] []) (kS [((.agg [q2,.fX,(.i 0)]),[])]):=
 pZ (k:=60) m15 (by kernel_rfl)
def m16:=lu.cons k16 m15
theorem k17:Ev T (.call 30 [q0,q1,ZV] []) (kS [((.agg [(.i 0),.fX,(.i 270)]),[])]):=
 pZ (k:=60) m16 (by kernel_rfl)
theorem z3:kj [(1,1),(3,0)]=Y3:=by rw[kj,oj];kernel_rfl
theorem k18:Ev T (.call 41 [q8] []) (kS [((.agg (Y3.map b8)),[])]):=
 Mt [(1,1),(3,0)] Y3 (by kernel_rfl) rfl z3 (by simp) (by simp)
theorem k19:Ev T (.call 49 [q8] []) (kS [((.agg (Y3.map b8)),[])]):=
 Mu [(1,1),(3,0)] Y3 (by kernel_rfl) rfl z3 (by simp) (by simp)
def m17:=lu.cons k17 m16
def m18:=lu.cons k18 m17
def m19:=lu.cons k19 m18
theorem k20:Ev T (.call 30 [q0,q1,(.sl 36 [([(.i 0),(.i 0),(.i 2),q8]++Y3.map b8)])] []) (kS [((.agg [(.i 0),.fX,(.i 180)]),[])]):=
 pZ (k:=60) m19 (by kernel_rfl)
def m20:=lu.cons k20 m19
theorem k21:Ev T (.call 37 [q0,q1,q2,(.i 0)] []) (kS [((.agg [(.b true),(.i 0)]),[])]):=
 pZ (k:=60) m20 (by kernel_rfl)
def m21:=lu.cons k21 m20
theorem k22:Ev T (.call 37 [q0,q1,q4,(.i 0)] []) (kS [((.agg [(.b false),(.i 0)]),[])]):=
 pZ (k:=60) m21 (by kernel_rfl)
def m22:=lu.cons k22 m21
theorem k23:Ev T (.call 37 [q0,q1,q2,(.i 3)] []) (kS [((.agg [(.b false),(.i 1)]),[])]):=
 pZ (k:=60) m22 (by kernel_rfl)
def m23:=lu.cons k23 m22
theorem k24:Ev T (.call 24 [] []) (kS [((.b true),[])]):=
 pZ (k:=60) m23 (by kernel_rfl)

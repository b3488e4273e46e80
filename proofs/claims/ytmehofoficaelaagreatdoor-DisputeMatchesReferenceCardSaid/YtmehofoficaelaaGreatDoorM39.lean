/- Part 39 of DisputeMatchesReference. -/
import Derived.Test.YtmehofoficaelaaGreatDoorM38
set_option linter.all false
namespace Go.Proofs.YtmehofoficaelaaGreatDoor
open Go Go.AL
set_option maxRecDepth 100000
def b8(n:Int):D:=.val (.int .u8 n)
def Y0:List Int:=[230,94,173,98,131,117,62,198,18,110,46,86,180,4,199,32,214,0,110,9,176,199,77,209,30,199,37,123,227,206,189,60]
def Y1:List Int:=[183,122,207,152,233,224,120,134,33,80,216,180,78,125,56,110,181,8,231,164,134,77,90,184,96,250,238,233,234,163,147,7]
def Y2:List Int:=[34,216,172,228,37,46,150,252,5,199,107,205,247,87,136,119,49,127,176,200,180,114,254,45,113,159,205,214,14,249,22,103]
def Y3:List Int:=[62,179,11,109,41,226,97,50,117,119,129,79,72,169,132,20,86,6,134,156,117,212,28,161,171,112,212,166,82,235,14,101]
def q0:D:=.agg [(.i 3),(.sl 1 [[(.sl 1 [[(.i 1)],[(.i 2)],[(.i (-1))]])],[(.sl 1 [[(.i (-1))],[(.i 0)],[(.i 1)]])]]),(.sl 1 [[(.i 1)],[(.i 0)]]),(.sl 3 [[(.val (.string ⟨#[97]⟩)),(.sl 1 [[(.sl 2 [[(.i 1),(.i 0)],[(.i 3),(.i 0)]])],[(.sl 2 [[(.i 1),(.i 0)],[(.i 4),(.i 0)],[(.i 6),(.i 0)]])]]),(.b false)]]),(.i 0),(.b false),.gp,(.i 3),(.i 2)]
def q6:D:=.sl 1 [[(.i 0)],[(.i 1)],[(.i 2)]]
def q3:D:=.sl 1 [[(.i 0)]]
def q7:D:=.sl 1 [[(.i 0)],[(.i 2)],[(.i 0)]]
def q9:D:=.sl 1 [[(.i 1)],[(.i 0)],[(.i 2)]]
def q1:D:=.sl 5 [[q6,q3,q3,(.i 0),(.i 1)],[q7,q3,q3,(.i 0),(.i 0)],[q9,q3,q3,(.i 0),(.i 0)]]
def q2:D:=.sl 2 [[(.i 1),(.i 1)],[(.i 3),(.i 0)],[(.i 3),(.i 2)]]
def q4:D:=.sl 2 [[(.i 3),(.i 3)],[(.i 3),(.i 0)],[(.i 3),(.i 2)]]
def q5:D:=.sl 2 [[(.i 1),(.i 1)],[(.i 2),(.i 0)],[(.i 3),(.i 2)]]
def q8:D:=.sl 2 [[(.i 1),(.i 1)],[(.i 3),(.i 0)]]
def q10:D:=.sl 36 [([(.i 0),(.i 0),(.i 3),q2]++Y0.map b8)]
def q11:D:=.agg [q6,q3,q3,(.i 0),(.i 1)]
def q12:D:=.agg [q7,q3,q3,(.i 0),(.i 0)]
def q13:D:=.agg [q9,q3,q3,(.i 0),(.i 0)]
def UC:D:=.sl 1 [[(.i 1)]]
def z0:kZ [(1,1),(3,0),(3,2)]=Y0:=by rw[kZ,pJ];kernel_rfl
def k0:Ev T (.call 41 [q2] []) (lX [((.agg (Y0.map b8)),[])]):=
 Of [(1,1),(3,0),(3,2)] Y0 gw rfl z0 gf gf
def z1:kZ [(3,3),(3,0),(3,2)]=Y1:=by rw[kZ,pJ];kernel_rfl
def k1:Ev T (.call 41 [q4] []) (lX [((.agg (Y1.map b8)),[])]):=
 Of [(3,3),(3,0),(3,2)] Y1 gw rfl z1 gf gf
def m0:=mg.cons k0 (.nil T)
def m1:=mg.cons k1 m0
def k2:Ev T (.call 110 [q0] []) (lX [((.b true),[])]):=
 sn (k:=60) m1 gw
def m2:=mg.cons k2 m1
def k3:Ev T (.call 94 [q0,q11] []) (lX [((.sl 5 [[q7,q3,q3,(.i 0),(.i 0)]]),[])]):=
 sn (k:=60) m2 gw
def m3:=mg.cons k3 m2
def k4:Ev T (.call 94 [q0,q12] []) (lX [(.gp,[])]):=
 sn (k:=60) m3 gw
def m4:=mg.cons k4 m3
def k5:Ev T (.call 94 [q0,q13] []) (lX [((.sl 5 [[q6,q3,q3,(.i 0),(.i 1)]]),[])]):=
 sn (k:=60) m4 gw
def m5:=mg.cons k5 m4
def k6:Ev T (.call 56 [q0,q1] []) (lX [((.tup [(.sl 1 [[UC],[.gp],[q3]]),(.i 0)]),[])]):=
 sn (k:=60) m5 gw
def k7:Ev T (.call 49 [q2] []) (lX [((.agg (Y0.map b8)),[])]):=
 Og [(1,1),(3,0),(3,2)] Y0 gw rfl z0 gf gf
def k8:Ev T (.call 49 [q4] []) (lX [((.agg (Y1.map b8)),[])]):=
 Og [(3,3),(3,0),(3,2)] Y1 gw rfl z1 gf gf
def m6:=mg.cons k6 m5
def m7:=mg.cons k7 m6
def m8:=mg.cons k8 m7
def k9:Ev T (.call 58 [q0,q11] []) (lX [((.tup [(.i 0),(.b false)]),[])]):=
 sn (k:=60) m8 gw
def m9:=mg.cons k9 m8
def k10:Ev T (.call 30 [q0,q1,(.sl 36 [([(.i 0),(.i 0),(.i 3),q2]++Y0.map b8),([(.i 0),(.i 0),(.i 3),q4]++Y1.map b8)])] []) (lX [((.agg [(.i 0),UC,(.i 0)]),[])]):=
 sn (k:=60) m9 gw
def z2:kZ [(1,1),(2,0),(3,2)]=Y2:=by rw[kZ,pJ];kernel_rfl
def k11:Ev T (.call 41 [q5] []) (lX [((.agg (Y2.map b8)),[])]):=
 Of [(1,1),(2,0),(3,2)] Y2 gw rfl z2 gf gf
def k12:Ev T (.call 49 [q5] []) (lX [((.agg (Y2.map b8)),[])]):=
 Og [(1,1),(2,0),(3,2)] Y2 gw rfl z2 gf gf
def m10:=mg.cons k10 m9
def m11:=mg.cons k11 m10
def m12:=mg.cons k12 m11
def k13:Ev T (.call 58 [q0,q12] []) (lX [((.tup [(.i 3),(.b true)]),[])]):=
 sn (k:=60) m12 gw
def m13:=mg.cons k13 m12
def k14:Ev T (.call 30 [q0,q1,(.sl 36 [([(.i 0),(.i 0),(.i 3),q2]++Y0.map b8),([(.i 0),(.i 0),(.i 3),q5]++Y2.map b8)])] []) (lX [((.agg [(.i 1),UC,(.i 0)]),[])]):=
 sn (k:=60) m13 gw
def m14:=mg.cons k14 m13
def k15:Ev T (.call 58 [q0,q13] []) (lX [((.tup [(.i 0),(.b false)]),[])]):=
 sn (k:=60) m14 gw
def m15:=mg.cons k15 m14
def k16:Ev T (.call 33 [q0,q1,q10] []) (lX [((.agg [q2,.gp,(.i 0)]),[])]):=
 sn (k:=60) m15 gw
def m16:=mg.cons k16 m15
def k17:Ev T (.call 30 [q0,q1,q10] []) (lX [((.agg [(.i 0),.gp,(.i 270)]),[])]):=
 sn (k:=60) m16 gw
def z3:kZ [(1,1),(3,0)]=Y3:=by rw[kZ,pJ];kernel_rfl
def k18:Ev T (.call 41 [q8] []) (lX [((.agg (Y3.map b8)),[])]):=
 Of [(1,1),(3,0)] Y3 gw rfl z3 gf gf
def k19:Ev T (.call 49 [q8] []) (lX [((.agg (Y3.map b8)),[])]):=
 Og [(1,1),(3,0)] Y3 gw rfl z3 gf gf
def m17:=mg.cons k17 m16
def m18:=mg.cons k18 m17
def m19:=mg.cons k19 m18
def k20:Ev T (.call 30 [q0,q1,(.sl 36 [([(.i 0),(.i 0),(.i 2),q8]++Y3.map b8)])] []) (lX [((.agg [(.i 0),.gp,(.i 180)]),[])]):=
 sn (k:=60) m19 gw
def m20:=mg.cons k20 m19
def k21:Ev T (.call 37 [q0,q1,q2,(.i 0)] []) (lX [((.agg [(.b true),(.i 0)]),[])]):=
 sn (k:=60) m20 gw
def m21:=mg.cons k21 m20
def k22:Ev T (.call 37 [q0,q1,q4,(.i 0)] []) (lX [((.agg [(.b false),(.i 0)]),[])]):=
 sn (k:=60) m21 gw
def m22:=mg.cons k22 m21
def k23:Ev T (.call 37 [q0,q1,q2,(.i 3)] []) (lX [((.agg [(.b false),(.i 1)]),[])]):=
 sn (k:=60) m22 gw
def m23:=mg.cons k23 m22
def k24:Ev T (.call 24 [] []) (lX [((.b true),[])]):=
 sn (k:=60) m23 gw

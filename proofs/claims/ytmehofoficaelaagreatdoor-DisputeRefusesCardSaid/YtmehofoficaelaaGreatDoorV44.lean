/- 44 -/
import Derived.Test.YtmehofoficaelaaGreatDoorV37
set_option linter.all false
namespace Go.Proofs.YtmehofoficaelaaGreatDoor
open Go Go.AL
set_option maxRecDepth 100000
def b8(n:Int):D:=.val (.int .u8 n)
def Y0:List Int:=[230,94,173,98,131,117,62,198,18,110,46,86,180,4,199,32,214,0,110,9,176,199,77,209,30,199,37,123,227,206,189,60]
def Y1:List Int:=[183,122,207,152,233,224,120,134,33,80,216,180,78,125,56,110,181,8,231,164,134,77,90,184,96,250,238,233,234,163,147,7]
def Y2:List Int:=[34,216,172,228,37,46,150,252,5,199,107,205,247,87,136,119,49,127,176,200,180,114,254,45,113,159,205,214,14,249,22,103]
def Y3:List Int:=[62,179,11,109,41,226,97,50,117,119,129,79,72,169,132,20,86,6,134,156,117,212,28,161,171,112,212,166,82,235,14,101]
def q0:D:=.agg [(.i 3),(.sl 1 [[(.sl 1 [[(.i 1)],[(.i 2)],[(.i (-1))]])],[(.sl 1 [[(.i (-1))],[(.i 0)],[(.i 1)]])]]),(.sl 1 [[(.i 1)],[(.i 0)]]),(.sl 3 [[(.val (.string ⟨#[97]⟩)),(.sl 1 [[(.sl 2 [[(.i 1),(.i 0)],[(.i 3),(.i 0)]])],[(.sl 2 [[(.i 1),(.i 0)],[(.i 4),(.i 0)],[(.i 6),(.i 0)]])]]),(.b false)]]),(.i 0),(.b false),.gi,(.i 3),(.i 2)]
def q6:D:=.sl 1 [[(.i 0)],[(.i 1)],[(.i 2)]]
def q3:D:=.sl 1 [[(.i 0)]]
def q7:D:=.sl 1 [[(.i 0)],[(.i 2)],[(.i 0)]]
def q9:D:=.sl 1 [[(.i 1)],[(.i 0)],[(.i 2)]]
def q1:D:=.sl 5 [[q6,q3,q3,(.i 0),(.i 1)],[q7,q3,q3,(.i 0),(.i 0)],[q9,q3,q3,(.i 0),(.i 0)]]
def q2:D:=.sl 2 [[(.i 1),(.i 1)],[(.i 3),(.i 0)],[(.i 3),(.i 2)]]
def q4:D:=.sl 2 [[(.i 3),(.i 3)],[(.i 3),(.i 0)],[(.i 3),(.i 2)]]
def q5:D:=.sl 2 [[(.i 1),(.i 1)],[(.i 2),(.i 0)],[(.i 3),(.i 2)]]
def q8:D:=.sl 2 [[(.i 1),(.i 1)],[(.i 3),(.i 0)]]
def q10:D:=.sl 36 [([(.i 0),(.i 0),(.i 3),q2]++Y0.map b8)]
def q11:D:=.agg [q6,q3,q3,(.i 0),(.i 1)]
def q12:D:=.agg [q7,q3,q3,(.i 0),(.i 0)]
def q13:D:=.agg [q9,q3,q3,(.i 0),(.i 0)]
def Tg:D:=.sl 1 [[(.i 1)]]
def z0:jX [(1,1),(3,0),(3,2)]=Y0:=by rw[jX,oS];kernel_rfl
def k0:Ev T (.call 41 [q2] []) (ly [((.agg (Y0.map b8)),[])]):=
 M6 [(1,1),(3,0),(3,2)] Y0 gu rfl z0 fZ fZ
def z1:jX [(3,3),(3,0),(3,2)]=Y1:=by rw[jX,oS];kernel_rfl
def k1:Ev T (.call 41 [q4] []) (ly [((.agg (Y1.map b8)),[])]):=
 M6 [(3,3),(3,0),(3,2)] Y1 gu rfl z1 fZ fZ
def m0:=lN.cons k0 (.nil T)
def m1:=lN.cons k1 m0
def k2:Ev T (.call 110 [q0] []) (ly [((.b true),[])]):=
 qv (k:=60) m1 gu
def m2:=lN.cons k2 m1
def k3:Ev T (.call 94 [q0,q11] []) (ly [((.sl 5 [[q7,q3,q3,(.i 0),(.i 0)]]),[])]):=
 qv (k:=60) m2 gu
def m3:=lN.cons k3 m2
def k4:Ev T (.call 94 [q0,q12] []) (ly [(.gi,[])]):=
 qv (k:=60) m3 gu
def m4:=lN.cons k4 m3
def k5:Ev T (.call 94 [q0,q13] []) (ly [((.sl 5 [[q6,q3,q3,(.i 0),(.i 1)]]),[])]):=
 qv (k:=60) m4 gu
def m5:=lN.cons k5 m4
def k6:Ev T (.call 56 [q0,q1] []) (ly [((.tup [(.sl 1 [[Tg],[.gi],[q3]]),(.i 0)]),[])]):=
 qv (k:=60) m5 gu
def k7:Ev T (.call 49 [q2] []) (ly [((.agg (Y0.map b8)),[])]):=
 M7 [(1,1),(3,0),(3,2)] Y0 gu rfl z0 fZ fZ
def k8:Ev T (.call 49 [q4] []) (ly [((.agg (Y1.map b8)),[])]):=
 M7 [(3,3),(3,0),(3,2)] Y1 gu rfl z1 fZ fZ
def m6:=lN.cons k6 m5
def m7:=lN.cons k7 m6
def m8:=lN.cons k8 m7
def k9:Ev T (.call 58 [q0,q11] []) (ly [((.tup [(.i 0),(.b false)]),[])]):=
 qv (k:=60) m8 gu
def m9:=lN.cons k9 m8
def k10:Ev T (.call 30 [q0,q1,(.sl 36 [([(.i 0),(.i 0),(.i 3),q2]++Y0.map b8),([(.i 0),(.i 0),(.i 3),q4]++Y1.map b8)])] []) (ly [((.agg [(.i 0),Tg,(.i 0)]),[])]):=
 qv (k:=60) m9 gu
def z2:jX [(1,1),(2,0),(3,2)]=Y2:=by rw[jX,oS];kernel_rfl
def k11:Ev T (.call 41 [q5] []) (ly [((.agg (Y2.map b8)),[])]):=
 M6 [(1,1),(2,0),(3,2)] Y2 gu rfl z2 fZ fZ
def k12:Ev T (.call 49 [q5] []) (ly [((.agg (Y2.map b8)),[])]):=
 M7 [(1,1),(2,0),(3,2)] Y2 gu rfl z2 fZ fZ
def m10:=lN.cons k10 m9
def m11:=lN.cons k11 m10
def m12:=lN.cons k12 m11
def k13:Ev T (.call 58 [q0,q12] []) (ly [((.tup [(.i 3),(.b true)]),[])]):=
 qv (k:=60) m12 gu
def m13:=lN.cons k13 m12
def k14:Ev T (.call 30 [q0,q1,(.sl 36 [([(.i 0),(.i 0),(.i 3),q2]++Y0.map b8),([(.i 0),(.i 0),(.i 3),q5]++Y2.map b8)])] []) (ly [((.agg [(.i 1),Tg,(.i 0)]),[])]):=
 qv (k:=60) m13 gu
def m14:=lN.cons k14 m13
def k15:Ev T (.call 58 [q0,q13] []) (ly [((.tup [(.i 0),(.b false)]),[])]):=
 qv (k:=60) m14 gu
def m15:=lN.cons k15 m14
def k16:Ev T (.call 33 [q0,q1,q10] []) (ly [((.agg [q2,.gi,(.i 0)]),[])]):=
 qv (k:=60) m15 gu
def m16:=lN.cons k16 m15
def k17:Ev T (.call 30 [q0,q1,q10] []) (ly [((.agg [(.i 0),.gi,(.i 270)]),[])]):=
 qv (k:=60) m16 gu
def z3:jX [(1,1),(3,0)]=Y3:=by rw[jX,oS];kernel_rfl
def k18:Ev T (.call 41 [q8] []) (ly [((.agg (Y3.map b8)),[])]):=
 M6 [(1,1),(3,0)] Y3 gu rfl z3 fZ fZ
def k19:Ev T (.call 49 [q8] []) (ly [((.agg (Y3.map b8)),[])]):=
 M7 [(1,1),(3,0)] Y3 gu rfl z3 fZ fZ
def m17:=lN.cons k17 m16
def m18:=lN.cons k18 m17
def m19:=lN.cons k19 m18
def k20:Ev T (.call 30 [q0,q1,(.sl 36 [([(.i 0),(.i 0),(.i 2),q8]++Y3.map b8)])] []) (ly [((.agg [(.i 0),.gi,(.i 180)]),[])]):=
 qv (k:=60) m19 gu
def m20:=lN.cons k20 m19
def k21:Ev T (.call 37 [q0,q1,q2,(.i 0)] []) (ly [((.agg [(.b true),(.i 0)]),[])]):=
 qv (k:=60) m20 gu
def m21:=lN.cons k21 m20
def k22:Ev T (.call 37 [q0,q1,q4,(.i 0)] []) (ly [((.agg [(.b false),(.i 0)]),[])]):=
 qv (k:=60) m21 gu
def m22:=lN.cons k22 m21
def k23:Ev T (.call 37 [q0,q1,q2,(.i 3)] []) (ly [((.agg [(.b false),(.i 1)]),[])]):=
 qv (k:=60) m22 gu
def m23:=lN.cons k23 m22
def k24:Ev T (.call 24 [] []) (ly [((.b true),[])]):=
 qv (k:=60) m23 gu

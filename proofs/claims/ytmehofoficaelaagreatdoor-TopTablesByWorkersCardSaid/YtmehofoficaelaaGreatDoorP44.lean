/- 44 -/
import Derived.Test.YtmehofoficaelaaGreatDoorP35
set_option linter.all false
namespace Go.Proofs.YtmehofoficaelaaGreatDoor
open Go Go.AL
set_option maxRecDepth 100000
def b8(n:Int):D:=.val (.int .u8 n)
def Y0:List Int:=[230,94,173,98,131,117,62,198,18,110,46,86,180,4,199,32,214,0,110,9,176,199,77,209,30,199,37,123,227,206,189,60]
def Y1:List Int:=[183,122,207,152,233,224,120,134,33,80,216,180,78,125,56,110,181,8,231,164,134,77,90,184,96,250,238,233,234,163,147,7]
def Y2:List Int:=[34,216,172,228,37,46,150,252,5,199,107,205,247,87,136,119,49,127,176,200,180,114,254,45,113,159,205,214,14,249,22,103]
def q0:D:=.agg [(.i 3),(.sl 1 [[(.sl 1 [[(.i 1)],[(.i 2)],[(.i (-1))]])],[(.sl 1 [[(.i (-1))],[(.i 0)],[(.i 1)]])]]),(.sl 1 [[(.i 1)],[(.i 0)]]),(.sl 3 [[(.val (.string ⟨#[97]⟩)),(.sl 1 [[(.sl 2 [[(.i 1),(.i 0)],[(.i 3),(.i 0)]])],[(.sl 2 [[(.i 1),(.i 0)],[(.i 4),(.i 0)],[(.i 6),(.i 0)]])]]),(.b false)]]),(.i 0),(.b false),.gV,(.i 3),(.i 2)]
def q6:D:=.sl 1 [[(.i 0)],[(.i 1)],[(.i 2)]]
def q3:D:=.sl 1 [[(.i 0)]]
def q7:D:=.sl 1 [[(.i 0)],[(.i 2)],[(.i 0)]]
def q9:D:=.sl 1 [[(.i 1)],[(.i 0)],[(.i 2)]]
def q1:D:=.sl 5 [[q6,q3,q3,(.i 0),(.i 1)],[q7,q3,q3,(.i 0),(.i 0)],[q9,q3,q3,(.i 0),(.i 0)]]
def q2:D:=.sl 2 [[(.i 1),(.i 1)],[(.i 3),(.i 0)],[(.i 3),(.i 2)]]
def q4:D:=.sl 2 [[(.i 3),(.i 3)],[(.i 3),(.i 0)],[(.i 3),(.i 2)]]
def q5:D:=.sl 2 [[(.i 1),(.i 1)],[(.i 2),(.i 0)],[(.i 3),(.i 2)]]
def q10:D:=.sl 36 [([(.i 0),(.i 0),(.i 3),q2]++Y0.map b8)]
def q11:D:=.agg [q6,q3,q3,(.i 0),(.i 1)]
def q12:D:=.agg [q7,q3,q3,(.i 0),(.i 0)]
def q13:D:=.agg [q9,q3,q3,(.i 0),(.i 0)]
def WY:D:=.sl 1 [[(.i 1)]]
def z0:lN [(1,1),(3,0),(3,2)]=Y0:=by rw[lN,ql];kernel_rfl
def k0:Ev T (.call 41 [q2] []) (lP [((.agg (Y0.map b8)),[])]):=
 TR [(1,1),(3,0),(3,2)] Y0 ia rfl z0 gP gP
def z1:lN [(3,3),(3,0),(3,2)]=Y1:=by rw[lN,ql];kernel_rfl
def k1:Ev T (.call 41 [q4] []) (lP [((.agg (Y1.map b8)),[])]):=
 TR [(3,3),(3,0),(3,2)] Y1 ia rfl z1 gP gP
def m0:=oR.cons k0 (.nil T)
def m1:=oR.cons k1 m0
def k2:Ev T (.call 110 [q0] []) (lP [((.b true),[])]):=
 qc (k:=60) m1 ia
def m2:=oR.cons k2 m1
def k3:Ev T (.call 94 [q0,q11] []) (lP [((.sl 5 [[q7,q3,q3,(.i 0),(.i 0)]]),[])]):=
 qc (k:=60) m2 ia
def m3:=oR.cons k3 m2
def k4:Ev T (.call 94 [q0,q12] []) (lP [(.gV,[])]):=
 qc (k:=60) m3 ia
def m4:=oR.cons k4 m3
def k5:Ev T (.call 94 [q0,q13] []) (lP [((.sl 5 [[q6,q3,q3,(.i 0),(.i 1)]]),[])]):=
 qc (k:=60) m4 ia
def m5:=oR.cons k5 m4
def k6:Ev T (.call 56 [q0,q1] []) (lP [((.tup [(.sl 1 [[WY],[.gV],[q3]]),(.i 0)]),[])]):=
 qc (k:=60) m5 ia
def k7:Ev T (.call 49 [q2] []) (lP [((.agg (Y0.map b8)),[])]):=
 Qf [(1,1),(3,0),(3,2)] Y0 ia rfl z0 gP gP
def k8:Ev T (.call 49 [q4] []) (lP [((.agg (Y1.map b8)),[])]):=
 Qf [(3,3),(3,0),(3,2)] Y1 ia rfl z1 gP gP
def m6:=oR.cons k6 m5
def m7:=oR.cons k7 m6
def m8:=oR.cons k8 m7
def k9:Ev T (.call 58 [q0,q11] []) (lP [((.tup [(.i 0),(.b false)]),[])]):=
 qc (k:=60) m8 ia
def m9:=oR.cons k9 m8
def k10:Ev T (.call 30 [q0,q1,(.sl 36 [([(.i 0),(.i 0),(.i 3),q2]++Y0.map b8),([(.i 0),(.i 0),(.i 3),q4]++Y1.map b8)])] []) (lP [((.agg [(.i 0),WY,(.i 0)]),[])]):=
 qc (k:=60) m9 ia
def z2:lN [(1,1),(2,0),(3,2)]=Y2:=by rw[lN,ql];kernel_rfl
def k11:Ev T (.call 41 [q5] []) (lP [((.agg (Y2.map b8)),[])]):=
 TR [(1,1),(2,0),(3,2)] Y2 ia rfl z2 gP gP
def k12:Ev T (.call 49 [q5] []) (lP [((.agg (Y2.map b8)),[])]):=
 Qf [(1,1),(2,0),(3,2)] Y2 ia rfl z2 gP gP
def m10:=oR.cons k10 m9
def m11:=oR.cons k11 m10
def m12:=oR.cons k12 m11
def k13:Ev T (.call 58 [q0,q12] []) (lP [((.tup [(.i 3),(.b true)]),[])]):=
 qc (k:=60) m12 ia
def m13:=oR.cons k13 m12
def k14:Ev T (.call 30 [q0,q1,(.sl 36 [([(.i 0),(.i 0),(.i 3),q2]++Y0.map b8),([(.i 0),(.i 0),(.i 3),q5]++Y2.map b8)])] []) (lP [((.agg [(.i 1),WY,(.i 0)]),[])]):=
 qc (k:=60) m13 ia
def m14:=oR.cons k14 m13
def k15:Ev T (.call 58 [q0,q13] []) (lP [((.tup [(.i 0),(.b false)]),[])]):=
 qc (k:=60) m14 ia
def m15:=oR.cons k15 m14
def k16:Ev T (.call 33 [q0,q1,q10] []) (lP [((.agg [q2,.gV,(.i 0)]),[])]):=
 qc (k:=60) m15 ia
def m16:=oR.cons k16 m15

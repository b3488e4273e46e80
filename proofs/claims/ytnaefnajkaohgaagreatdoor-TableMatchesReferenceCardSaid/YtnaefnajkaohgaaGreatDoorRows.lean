/-
  NARROWER THAN 'FOR EVERY INPUT', by the rows' own cells (each row's printed sentence says how): TableMatchesReference: laid · TableLoads: laid · TableSlices: laid · TableZero: laid · TableHurry: laid · TableRefuses: laid · TableAgain: laid · TableValues: laid.
  DERIVED. THE GIVEN ROWS OF THIS SEAT. 8 by the template 'for every input the law returns true; each argument reads behind the call as it read before'; 0 by the template 'total and deterministic' (their statements: YtnaefnajkaohgaaGreatDoorTotals.lean).
  GIVEN WITH THE SEED: the statements are not yours to turn. If you find one false, say at which input.
  Laid BY PROGRAM, IN A SANDBOX (cutbox-rows.mjs): the forced cells as the released guide's own fill.sh prints them over the translation 0e88531854c09d8c… (all of the seat's roots in one cut). By AI agents, Wed Nov 11 2026. No macro, syntax, notation, axiom, sorry.
-/
import Derived.Test.YtnaefnajkaohgaaGreatDoorChecked
import GoSem.Claim
import GoSem.ClaimJoined
import GoSem.ClaimMapViews
import Derived.JoinedTies
import Derived.KernelRfl
namespace Go.Proofs.YtnaefnajkaohgaaGreatDoor
/- THE CELL 'sum', in the pinned program and in every row, IS THE sha256 OF THE DUMP (.gsa) THAT YtnaefnajkaohgaaGreatDoorProg.lean LOADS. Nothing in Lean hashes anything: it is a label: what it is worth is what the hold of that sum in a sandbox is worth. -/
noncomputable def Tryz.pinned : Pinned := { name := "ytnaefnajkaohgaagreatdoor", sum := "0e88531854c09d8cd16aacb08be8bda3f034e3b117d88739c4ece36cb6dcdcd4", checked := Tryz.checked }
namespace Rows
def none {H : Type} : Left H := { results := [], args := [] }

/- WHAT THE LISTED PACKAGE-LEVEL VARIABLES READ AS WHEN THE CALL BEGINS. Each datum BY PROGRAM (the guide's laid-datum.mjs) off the statement by which the dump's own 'gosem.cut.vars' lays the variable. In a bare row this is a premise. The card (YtnaefnajkaohgaaGreatDoorCards.lean) ties it to the program's text. -/
def laid_math_bits_deBruijn32tab {H : Type} : DataW H := .agg [.lit (.int .u8 0), .lit (.int .u8 1), .lit (.int .u8 28), .lit (.int .u8 2), .lit (.int .u8 29), .lit (.int .u8 14), .lit (.int .u8 24), .lit (.int .u8 3), .lit (.int .u8 30), .lit (.int .u8 22), .lit (.int .u8 20), .lit (.int .u8 15), .lit (.int .u8 25), .lit (.int .u8 17), .lit (.int .u8 4), .lit (.int .u8 8), .lit (.int .u8 31), .lit (.int .u8 27), .lit (.int .u8 13), .lit (.int .u8 23), .lit (.int .u8 21), .lit (.int .u8 19), .lit (.int .u8 16), .lit (.int .u8 7), .lit (.int .u8 26), .lit (.int .u8 12), .lit (.int .u8 18), .lit (.int .u8 6), .lit (.int .u8 11), .lit (.int .u8 5), .lit (.int .u8 10), .lit (.int .u8 9)]
def laid_math_bits_deBruijn64tab {H : Type} : DataW H := .agg [.lit (.int .u8 0), .lit (.int .u8 1), .lit (.int .u8 56), .lit (.int .u8 2), .lit (.int .u8 57), .lit (.int .u8 49), .lit (.int .u8 28), .lit (.int .u8 3), .lit (.int .u8 61), .lit (.int .u8 58), .lit (.int .u8 42), .lit (.int .u8 50), .lit (.int .u8 38), .lit (.int .u8 29), .lit (.int .u8 17), .lit (.int .u8 4), .lit (.int .u8 62), .lit (.int .u8 47), .lit (.int .u8 59), .lit (.int .u8 36), .lit (.int .u8 45), .lit (.int .u8 43), .lit (.int .u8 51), .lit (.int .u8 22), .lit (.int .u8 53), .lit (.int .u8 39), .lit (.int .u8 33), .lit (.int .u8 30), .lit (.int .u8 24), .lit (.int .u8 18), .lit (.int .u8 12), .lit (.int .u8 5), .lit (.int .u8 63), .lit (.int .u8 55), .lit (.int .u8 48), .lit (.int .u8 27), .lit (.int .u8 60), .lit (.int .u8 41), .lit (.int .u8 37), .lit (.int .u8 16), .lit (.int .u8 46), .lit (.int .u8 35), .lit (.int .u8 44), .lit (.int .u8 21), .lit (.int .u8 52), .lit (.int .u8 32), .lit (.int .u8 23), .lit (.int .u8 11), .lit (.int .u8 54), .lit (.int .u8 26), .lit (.int .u8 40), .lit (.int .u8 15), .lit (.int .u8 34), .lit (.int .u8 20), .lit (.int .u8 31), .lit (.int .u8 10), .lit (.int .u8 25), .lit (.int .u8 14), .lit (.int .u8 19), .lit (.int .u8 9), .lit (.int .u8 13), .lit (.int .u8 8), .lit (.int .u8 7), .lit (.int .u8 6)]
def laid_internal_strconv_uint64pow10 {H : Type} : DataW H := .agg [.lit (.int .u64 1), .lit (.int .u64 10), .lit (.int .u64 100), .lit (.int .u64 1000), .lit (.int .u64 10000), .lit (.int .u64 100000), .lit (.int .u64 1000000), .lit (.int .u64 10000000), .lit (.int .u64 100000000), .lit (.int .u64 1000000000), .lit (.int .u64 10000000000), .lit (.int .u64 100000000000), .lit (.int .u64 1000000000000), .lit (.int .u64 10000000000000), .lit (.int .u64 100000000000000), .lit (.int .u64 1000000000000000), .lit (.int .u64 10000000000000000), .lit (.int .u64 100000000000000000), .lit (.int .u64 1000000000000000000), .lit (.int .u64 10000000000000000000)]
def laid_skewer_play_conditions {H : Type} : DataW H := .iface "func table" (.agg [.nil, .iface "func" (.lit (.string [115, 107, 101, 119, 101, 114, 47, 112, 108, 97, 121, 46, 99, 111, 110, 100, 105, 116, 105, 111, 110, 115, 36, 49])), .iface "func" (.lit (.string [115, 107, 101, 119, 101, 114, 47, 112, 108, 97, 121, 46, 99, 111, 110, 100, 105, 116, 105, 111, 110, 115, 36, 50])), .iface "func" (.lit (.string [115, 107, 101, 119, 101, 114, 47, 112, 108, 97, 121, 46, 99, 111, 110, 100, 105, 116, 105, 111, 110, 115, 36, 51]))])

/-- 'skewerlaw15.TableMatchesReference': WHATEVER THE INPUT: true; the input reads as it did. -/
def tableMatchesReferenceSpec : ChangeSpec := { name := "tableMatchesReference", fn := fun _ => fun
  | [d1, d2, d3] => { results := [.lit (.bool true)], args := [d1, d2, d3] }
  | _ => none }
def tableMatchesReferenceRow : OpenClaim := { program := "ytnaefnajkaohgaagreatdoor", sum := "0e88531854c09d8cd16aacb08be8bda3f034e3b117d88739c4ece36cb6dcdcd4", func := "skewer/skewerlaw15.TableMatchesReference", spec := "tableMatchesReference", unfollowed := true, recurses := true, named := ["skewer/play.conditions", "internal/strconv.uint64pow10", "math/bits.deBruijn32tab", "math/bits.deBruijn64tab"], apart := false, laid := [("math/bits.deBruijn32tab", laid_math_bits_deBruijn32tab), ("math/bits.deBruijn64tab", laid_math_bits_deBruijn64tab), ("internal/strconv.uint64pow10", laid_internal_strconv_uint64pow10), ("skewer/play.conditions", laid_skewer_play_conditions)] }
def TableMatchesReferenceSaid : Prop := tableMatchesReferenceRow.holds Tryz.pinned (OpenSpec.ofChange tableMatchesReferenceSpec)

/-- ITS FALSE NEIGHBOUR: 'it returns false'. Refute it at one input. -/
def tableMatchesReferenceWrong : ChangeSpec := { name := "tableMatchesReference", fn := fun _ => fun
  | [d1, d2, d3] => { results := [.lit (.bool false)], args := [d1, d2, d3] }
  | _ => none }
def TableMatchesReferenceWrongFalsely : Prop := tableMatchesReferenceRow.holds Tryz.pinned (OpenSpec.ofChange tableMatchesReferenceWrong)

/-- 'skewerlaw15.TableLoads': WHATEVER THE INPUT: true; the input reads as it did. -/
def tableLoadsSpec : ChangeSpec := { name := "tableLoads", fn := fun _ => fun
  | [d1, d2] => { results := [.lit (.bool true)], args := [d1, d2] }
  | _ => none }
def tableLoadsRow : OpenClaim := { program := "ytnaefnajkaohgaagreatdoor", sum := "0e88531854c09d8cd16aacb08be8bda3f034e3b117d88739c4ece36cb6dcdcd4", func := "skewer/skewerlaw15.TableLoads", spec := "tableLoads", unfollowed := true, recurses := true, named := ["skewer/play.conditions", "internal/strconv.uint64pow10", "math/bits.deBruijn32tab", "math/bits.deBruijn64tab"], apart := false, laid := [("math/bits.deBruijn32tab", laid_math_bits_deBruijn32tab), ("math/bits.deBruijn64tab", laid_math_bits_deBruijn64tab), ("internal/strconv.uint64pow10", laid_internal_strconv_uint64pow10), ("skewer/play.conditions", laid_skewer_play_conditions)] }
def TableLoadsSaid : Prop := tableLoadsRow.holds Tryz.pinned (OpenSpec.ofChange tableLoadsSpec)

/-- ITS FALSE NEIGHBOUR: 'it returns false'. Refute it at one input. -/
def tableLoadsWrong : ChangeSpec := { name := "tableLoads", fn := fun _ => fun
  | [d1, d2] => { results := [.lit (.bool false)], args := [d1, d2] }
  | _ => none }
def TableLoadsWrongFalsely : Prop := tableLoadsRow.holds Tryz.pinned (OpenSpec.ofChange tableLoadsWrong)

/-- 'skewerlaw15.TableSlices': WHATEVER THE INPUT: true; the input reads as it did. -/
def tableSlicesSpec : ChangeSpec := { name := "tableSlices", fn := fun _ => fun
  | [d1, d2] => { results := [.lit (.bool true)], args := [d1, d2] }
  | _ => none }
def tableSlicesRow : OpenClaim := { program := "ytnaefnajkaohgaagreatdoor", sum := "0e88531854c09d8cd16aacb08be8bda3f034e3b117d88739c4ece36cb6dcdcd4", func := "skewer/skewerlaw15.TableSlices", spec := "tableSlices", unfollowed := true, recurses := true, named := ["skewer/play.conditions", "internal/strconv.uint64pow10", "math/bits.deBruijn32tab", "math/bits.deBruijn64tab"], apart := false, laid := [("math/bits.deBruijn32tab", laid_math_bits_deBruijn32tab), ("math/bits.deBruijn64tab", laid_math_bits_deBruijn64tab), ("internal/strconv.uint64pow10", laid_internal_strconv_uint64pow10), ("skewer/play.conditions", laid_skewer_play_conditions)] }
def TableSlicesSaid : Prop := tableSlicesRow.holds Tryz.pinned (OpenSpec.ofChange tableSlicesSpec)

/-- ITS FALSE NEIGHBOUR: 'it returns false'. Refute it at one input. -/
def tableSlicesWrong : ChangeSpec := { name := "tableSlices", fn := fun _ => fun
  | [d1, d2] => { results := [.lit (.bool false)], args := [d1, d2] }
  | _ => none }
def TableSlicesWrongFalsely : Prop := tableSlicesRow.holds Tryz.pinned (OpenSpec.ofChange tableSlicesWrong)

/-- 'skewerlaw15.TableZero': WHATEVER THE INPUT: true; the input reads as it did. -/
def tableZeroSpec : ChangeSpec := { name := "tableZero", fn := fun _ => fun
  | [d1, d2] => { results := [.lit (.bool true)], args := [d1, d2] }
  | _ => none }
def tableZeroRow : OpenClaim := { program := "ytnaefnajkaohgaagreatdoor", sum := "0e88531854c09d8cd16aacb08be8bda3f034e3b117d88739c4ece36cb6dcdcd4", func := "skewer/skewerlaw15.TableZero", spec := "tableZero", unfollowed := true, recurses := true, named := ["skewer/play.conditions", "internal/strconv.uint64pow10", "math/bits.deBruijn32tab", "math/bits.deBruijn64tab"], apart := false, laid := [("math/bits.deBruijn32tab", laid_math_bits_deBruijn32tab), ("math/bits.deBruijn64tab", laid_math_bits_deBruijn64tab), ("internal/strconv.uint64pow10", laid_internal_strconv_uint64pow10), ("skewer/play.conditions", laid_skewer_play_conditions)] }
def TableZeroSaid : Prop := tableZeroRow.holds Tryz.pinned (OpenSpec.ofChange tableZeroSpec)

/-- ITS FALSE NEIGHBOUR: 'it returns false'. Refute it at one input. -/
def tableZeroWrong : ChangeSpec := { name := "tableZero", fn := fun _ => fun
  | [d1, d2] => { results := [.lit (.bool false)], args := [d1, d2] }
  | _ => none }
def TableZeroWrongFalsely : Prop := tableZeroRow.holds Tryz.pinned (OpenSpec.ofChange tableZeroWrong)

/-- 'skewerlaw15.TableHurry': WHATEVER THE INPUT: true; the input reads as it did. -/
def tableHurrySpec : ChangeSpec := { name := "tableHurry", fn := fun _ => fun
  | [d1, d2] => { results := [.lit (.bool true)], args := [d1, d2] }
  | _ => none }
def tableHurryRow : OpenClaim := { program := "ytnaefnajkaohgaagreatdoor", sum := "0e88531854c09d8cd16aacb08be8bda3f034e3b117d88739c4ece36cb6dcdcd4", func := "skewer/skewerlaw15.TableHurry", spec := "tableHurry", unfollowed := true, recurses := true, named := ["skewer/play.conditions", "internal/strconv.uint64pow10", "math/bits.deBruijn32tab", "math/bits.deBruijn64tab"], apart := false, laid := [("math/bits.deBruijn32tab", laid_math_bits_deBruijn32tab), ("math/bits.deBruijn64tab", laid_math_bits_deBruijn64tab), ("internal/strconv.uint64pow10", laid_internal_strconv_uint64pow10), ("skewer/play.conditions", laid_skewer_play_conditions)] }
def TableHurrySaid : Prop := tableHurryRow.holds Tryz.pinned (OpenSpec.ofChange tableHurrySpec)

/-- ITS FALSE NEIGHBOUR: 'it returns false'. Refute it at one input. -/
def tableHurryWrong : ChangeSpec := { name := "tableHurry", fn := fun _ => fun
  | [d1, d2] => { results := [.lit (.bool false)], args := [d1, d2] }
  | _ => none }
def TableHurryWrongFalsely : Prop := tableHurryRow.holds Tryz.pinned (OpenSpec.ofChange tableHurryWrong)

/-- 'skewerlaw15.TableRefuses': WHATEVER THE INPUT: true; the input reads as it did. -/
def tableRefusesSpec : ChangeSpec := { name := "tableRefuses", fn := fun _ => fun
  | [d1, d2, d3] => { results := [.lit (.bool true)], args := [d1, d2, d3] }
  | _ => none }
def tableRefusesRow : OpenClaim := { program := "ytnaefnajkaohgaagreatdoor", sum := "0e88531854c09d8cd16aacb08be8bda3f034e3b117d88739c4ece36cb6dcdcd4", func := "skewer/skewerlaw15.TableRefuses", spec := "tableRefuses", unfollowed := true, recurses := true, named := ["skewer/play.conditions", "internal/strconv.uint64pow10", "math/bits.deBruijn32tab", "math/bits.deBruijn64tab"], apart := false, laid := [("math/bits.deBruijn32tab", laid_math_bits_deBruijn32tab), ("math/bits.deBruijn64tab", laid_math_bits_deBruijn64tab), ("internal/strconv.uint64pow10", laid_internal_strconv_uint64pow10), ("skewer/play.conditions", laid_skewer_play_conditions)] }
def TableRefusesSaid : Prop := tableRefusesRow.holds Tryz.pinned (OpenSpec.ofChange tableRefusesSpec)

/-- ITS FALSE NEIGHBOUR: 'it returns false'. Refute it at one input. -/
def tableRefusesWrong : ChangeSpec := { name := "tableRefuses", fn := fun _ => fun
  | [d1, d2, d3] => { results := [.lit (.bool false)], args := [d1, d2, d3] }
  | _ => none }
def TableRefusesWrongFalsely : Prop := tableRefusesRow.holds Tryz.pinned (OpenSpec.ofChange tableRefusesWrong)

/-- 'skewerlaw15.TableAgain': WHATEVER THE INPUT: true; the input reads as it did. -/
def tableAgainSpec : ChangeSpec := { name := "tableAgain", fn := fun _ => fun
  | [d1, d2] => { results := [.lit (.bool true)], args := [d1, d2] }
  | _ => none }
def tableAgainRow : OpenClaim := { program := "ytnaefnajkaohgaagreatdoor", sum := "0e88531854c09d8cd16aacb08be8bda3f034e3b117d88739c4ece36cb6dcdcd4", func := "skewer/skewerlaw15.TableAgain", spec := "tableAgain", unfollowed := true, recurses := true, named := ["skewer/play.conditions", "internal/strconv.uint64pow10", "math/bits.deBruijn32tab", "math/bits.deBruijn64tab"], apart := false, laid := [("math/bits.deBruijn32tab", laid_math_bits_deBruijn32tab), ("math/bits.deBruijn64tab", laid_math_bits_deBruijn64tab), ("internal/strconv.uint64pow10", laid_internal_strconv_uint64pow10), ("skewer/play.conditions", laid_skewer_play_conditions)] }
def TableAgainSaid : Prop := tableAgainRow.holds Tryz.pinned (OpenSpec.ofChange tableAgainSpec)

/-- ITS FALSE NEIGHBOUR: 'it returns false'. Refute it at one input. -/
def tableAgainWrong : ChangeSpec := { name := "tableAgain", fn := fun _ => fun
  | [d1, d2] => { results := [.lit (.bool false)], args := [d1, d2] }
  | _ => none }
def TableAgainWrongFalsely : Prop := tableAgainRow.holds Tryz.pinned (OpenSpec.ofChange tableAgainWrong)

/-- 'skewerlaw15.TableValues': WHATEVER THE INPUT: true; the input reads as it did. -/
def tableValuesSpec : ChangeSpec := { name := "tableValues", fn := fun _ => fun
  | [d1, d2, d3] => { results := [.lit (.bool true)], args := [d1, d2, d3] }
  | _ => none }
def tableValuesRow : OpenClaim := { program := "ytnaefnajkaohgaagreatdoor", sum := "0e88531854c09d8cd16aacb08be8bda3f034e3b117d88739c4ece36cb6dcdcd4", func := "skewer/skewerlaw15.TableValues", spec := "tableValues", unfollowed := true, recurses := true, named := ["skewer/play.conditions", "internal/strconv.uint64pow10", "math/bits.deBruijn32tab", "math/bits.deBruijn64tab"], apart := false, laid := [("math/bits.deBruijn32tab", laid_math_bits_deBruijn32tab), ("math/bits.deBruijn64tab", laid_math_bits_deBruijn64tab), ("internal/strconv.uint64pow10", laid_internal_strconv_uint64pow10), ("skewer/play.conditions", laid_skewer_play_conditions)] }
def TableValuesSaid : Prop := tableValuesRow.holds Tryz.pinned (OpenSpec.ofChange tableValuesSpec)

/-- ITS FALSE NEIGHBOUR: 'it returns false'. Refute it at one input. -/
def tableValuesWrong : ChangeSpec := { name := "tableValues", fn := fun _ => fun
  | [d1, d2, d3] => { results := [.lit (.bool false)], args := [d1, d2, d3] }
  | _ => none }
def TableValuesWrongFalsely : Prop := tableValuesRow.holds Tryz.pinned (OpenSpec.ofChange tableValuesWrong)

/- THE SECOND FORM. 'bulk': how many values and letters a reading holds, each counted each time it is reached (what is shared counts as often as it is met; a slice's spare places count too). A statement '..UptoSaid' is the law's where the arguments, and the package variables that the reading takes, are together of bulk at most 1048576: NARROWER than '..Said'. Prove '..Said' where nothing that the law and all that it calls make is longer than what came in: it says more and counts as full. Else prove '..UptoSaid'. A law counts once. -/
mutual
def uptoBulk {H : Type} : DataW H → Nat
  | .lit (.string bytes) => bytes.length + 1
  | .lit _ => 1
  | .nil => 1
  | .ptr d => uptoBulk d + 1
  | .slice elems spare => uptoBulkAll elems + uptoBulkAll spare + 1
  | .agg parts => uptoBulkAll parts + 1
  | .iface _ d => uptoBulk d + 1
  | .map entries => uptoBulkEntries entries + 1
  | .held _ => 1
def uptoBulkAll {H : Type} : List (DataW H) → Nat
  | [] => 0
  | d :: r => uptoBulk d + uptoBulkAll r
def uptoBulkEntries {H : Type} : List (Lit × DataW H) → Nat
  | [] => 0
  | x :: r => uptoBulkEntry x + uptoBulkEntries r
def uptoBulkEntry {H : Type} : Lit × DataW H → Nat
  | (.string bytes, d) => bytes.length + uptoBulk d + 1
  | (_, d) => uptoBulk d + 1
 end
def uptoSmall : (H : Type) → List (DataW H) → Bool := fun _ ds => decide (uptoBulkAll ds ≤ 1048576)
def OpenSpec.upto (s : _root_.Go.ChangeSpec) : _root_.Go.OpenSpec := { _root_.Go.OpenSpec.ofChange s with cond := some uptoSmall }

/-- 'skewerlaw15.TableMatchesReference', WHERE WHAT IT READS IS OF BULK AT MOST 1048576: true; the input reads as it did. -/
def tableMatchesReferenceUptoRow : OpenClaim := { program := "ytnaefnajkaohgaagreatdoor", sum := "0e88531854c09d8cd16aacb08be8bda3f034e3b117d88739c4ece36cb6dcdcd4", func := "skewer/skewerlaw15.TableMatchesReference", spec := "tableMatchesReference", unfollowed := true, recurses := true, named := ["skewer/play.conditions", "internal/strconv.uint64pow10", "math/bits.deBruijn32tab", "math/bits.deBruijn64tab"], apart := false, laid := [("math/bits.deBruijn32tab", laid_math_bits_deBruijn32tab), ("math/bits.deBruijn64tab", laid_math_bits_deBruijn64tab), ("internal/strconv.uint64pow10", laid_internal_strconv_uint64pow10), ("skewer/play.conditions", laid_skewer_play_conditions)], narrowed := true }
def TableMatchesReferenceUptoSaid : Prop := tableMatchesReferenceUptoRow.holds Tryz.pinned (OpenSpec.upto tableMatchesReferenceSpec)

/-- 'skewerlaw15.TableLoads', WHERE WHAT IT READS IS OF BULK AT MOST 1048576: true; the input reads as it did. -/
def tableLoadsUptoRow : OpenClaim := { program := "ytnaefnajkaohgaagreatdoor", sum := "0e88531854c09d8cd16aacb08be8bda3f034e3b117d88739c4ece36cb6dcdcd4", func := "skewer/skewerlaw15.TableLoads", spec := "tableLoads", unfollowed := true, recurses := true, named := ["skewer/play.conditions", "internal/strconv.uint64pow10", "math/bits.deBruijn32tab", "math/bits.deBruijn64tab"], apart := false, laid := [("math/bits.deBruijn32tab", laid_math_bits_deBruijn32tab), ("math/bits.deBruijn64tab", laid_math_bits_deBruijn64tab), ("internal/strconv.uint64pow10", laid_internal_strconv_uint64pow10), ("skewer/play.conditions", laid_skewer_play_conditions)], narrowed := true }
def TableLoadsUptoSaid : Prop := tableLoadsUptoRow.holds Tryz.pinned (OpenSpec.upto tableLoadsSpec)

/-- 'skewerlaw15.TableSlices', WHERE WHAT IT READS IS OF BULK AT MOST 1048576: true; the input reads as it did. -/
def tableSlicesUptoRow : OpenClaim := { program := "ytnaefnajkaohgaagreatdoor", sum := "0e88531854c09d8cd16aacb08be8bda3f034e3b117d88739c4ece36cb6dcdcd4", func := "skewer/skewerlaw15.TableSlices", spec := "tableSlices", unfollowed := true, recurses := true, named := ["skewer/play.conditions", "internal/strconv.uint64pow10", "math/bits.deBruijn32tab", "math/bits.deBruijn64tab"], apart := false, laid := [("math/bits.deBruijn32tab", laid_math_bits_deBruijn32tab), ("math/bits.deBruijn64tab", laid_math_bits_deBruijn64tab), ("internal/strconv.uint64pow10", laid_internal_strconv_uint64pow10), ("skewer/play.conditions", laid_skewer_play_conditions)], narrowed := true }
def TableSlicesUptoSaid : Prop := tableSlicesUptoRow.holds Tryz.pinned (OpenSpec.upto tableSlicesSpec)

/-- 'skewerlaw15.TableZero', WHERE WHAT IT READS IS OF BULK AT MOST 1048576: true; the input reads as it did. -/
def tableZeroUptoRow : OpenClaim := { program := "ytnaefnajkaohgaagreatdoor", sum := "0e88531854c09d8cd16aacb08be8bda3f034e3b117d88739c4ece36cb6dcdcd4", func := "skewer/skewerlaw15.TableZero", spec := "tableZero", unfollowed := true, recurses := true, named := ["skewer/play.conditions", "internal/strconv.uint64pow10", "math/bits.deBruijn32tab", "math/bits.deBruijn64tab"], apart := false, laid := [("math/bits.deBruijn32tab", laid_math_bits_deBruijn32tab), ("math/bits.deBruijn64tab", laid_math_bits_deBruijn64tab), ("internal/strconv.uint64pow10", laid_internal_strconv_uint64pow10), ("skewer/play.conditions", laid_skewer_play_conditions)], narrowed := true }
def TableZeroUptoSaid : Prop := tableZeroUptoRow.holds Tryz.pinned (OpenSpec.upto tableZeroSpec)

/-- 'skewerlaw15.TableHurry', WHERE WHAT IT READS IS OF BULK AT MOST 1048576: true; the input reads as it did. -/
def tableHurryUptoRow : OpenClaim := { program := "ytnaefnajkaohgaagreatdoor", sum := "0e88531854c09d8cd16aacb08be8bda3f034e3b117d88739c4ece36cb6dcdcd4", func := "skewer/skewerlaw15.TableHurry", spec := "tableHurry", unfollowed := true, recurses := true, named := ["skewer/play.conditions", "internal/strconv.uint64pow10", "math/bits.deBruijn32tab", "math/bits.deBruijn64tab"], apart := false, laid := [("math/bits.deBruijn32tab", laid_math_bits_deBruijn32tab), ("math/bits.deBruijn64tab", laid_math_bits_deBruijn64tab), ("internal/strconv.uint64pow10", laid_internal_strconv_uint64pow10), ("skewer/play.conditions", laid_skewer_play_conditions)], narrowed := true }
def TableHurryUptoSaid : Prop := tableHurryUptoRow.holds Tryz.pinned (OpenSpec.upto tableHurrySpec)

/-- 'skewerlaw15.TableRefuses', WHERE WHAT IT READS IS OF BULK AT MOST 1048576: true; the input reads as it did. -/
def tableRefusesUptoRow : OpenClaim := { program := "ytnaefnajkaohgaagreatdoor", sum := "0e88531854c09d8cd16aacb08be8bda3f034e3b117d88739c4ece36cb6dcdcd4", func := "skewer/skewerlaw15.TableRefuses", spec := "tableRefuses", unfollowed := true, recurses := true, named := ["skewer/play.conditions", "internal/strconv.uint64pow10", "math/bits.deBruijn32tab", "math/bits.deBruijn64tab"], apart := false, laid := [("math/bits.deBruijn32tab", laid_math_bits_deBruijn32tab), ("math/bits.deBruijn64tab", laid_math_bits_deBruijn64tab), ("internal/strconv.uint64pow10", laid_internal_strconv_uint64pow10), ("skewer/play.conditions", laid_skewer_play_conditions)], narrowed := true }
def TableRefusesUptoSaid : Prop := tableRefusesUptoRow.holds Tryz.pinned (OpenSpec.upto tableRefusesSpec)

/-- 'skewerlaw15.TableAgain', WHERE WHAT IT READS IS OF BULK AT MOST 1048576: true; the input reads as it did. -/
def tableAgainUptoRow : OpenClaim := { program := "ytnaefnajkaohgaagreatdoor", sum := "0e88531854c09d8cd16aacb08be8bda3f034e3b117d88739c4ece36cb6dcdcd4", func := "skewer/skewerlaw15.TableAgain", spec := "tableAgain", unfollowed := true, recurses := true, named := ["skewer/play.conditions", "internal/strconv.uint64pow10", "math/bits.deBruijn32tab", "math/bits.deBruijn64tab"], apart := false, laid := [("math/bits.deBruijn32tab", laid_math_bits_deBruijn32tab), ("math/bits.deBruijn64tab", laid_math_bits_deBruijn64tab), ("internal/strconv.uint64pow10", laid_internal_strconv_uint64pow10), ("skewer/play.conditions", laid_skewer_play_conditions)], narrowed := true }
def TableAgainUptoSaid : Prop := tableAgainUptoRow.holds Tryz.pinned (OpenSpec.upto tableAgainSpec)

/-- 'skewerlaw15.TableValues', WHERE WHAT IT READS IS OF BULK AT MOST 1048576: true; the input reads as it did. -/
def tableValuesUptoRow : OpenClaim := { program := "ytnaefnajkaohgaagreatdoor", sum := "0e88531854c09d8cd16aacb08be8bda3f034e3b117d88739c4ece36cb6dcdcd4", func := "skewer/skewerlaw15.TableValues", spec := "tableValues", unfollowed := true, recurses := true, named := ["skewer/play.conditions", "internal/strconv.uint64pow10", "math/bits.deBruijn32tab", "math/bits.deBruijn64tab"], apart := false, laid := [("math/bits.deBruijn32tab", laid_math_bits_deBruijn32tab), ("math/bits.deBruijn64tab", laid_math_bits_deBruijn64tab), ("internal/strconv.uint64pow10", laid_internal_strconv_uint64pow10), ("skewer/play.conditions", laid_skewer_play_conditions)], narrowed := true }
def TableValuesUptoSaid : Prop := tableValuesUptoRow.holds Tryz.pinned (OpenSpec.upto tableValuesSpec)

end Rows
end Go.Proofs.YtnaefnajkaohgaaGreatDoor

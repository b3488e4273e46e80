/-
  NARROWER THAN 'FOR EVERY INPUT', by the rows' own cells (each row's printed sentence says how): TopTablesByWorkers: laid · DisputeMatchesReference: laid · DisputeHonest: laid · DisputeTruth: laid · DisputeReferee: laid · DisputeLocal: laid · DisputeRefuses: laid · DisputeSettles: laid · DisputeWorkers: laid.
  DERIVED. THE GIVEN ROWS OF THIS SEAT. 9 by the template 'for every input the law returns true; each argument reads behind the call as it read before'; 0 by the template 'total and deterministic' (their statements: YtmehofoficaelaaGreatDoorTotals.lean).
  GIVEN WITH THE SEED: the statements are not yours to turn. If you find one false, say at which input.
  Laid BY PROGRAM, IN A SANDBOX (cutbox-rows.mjs): the forced cells as the released guide's own fill.sh prints them over the translation 6a980d65f092a90c… (all of the seat's roots in one cut). By AI agents, Wed Nov 11 2026. No macro, syntax, notation, axiom, sorry.
-/
import Derived.Test.YtmehofoficaelaaGreatDoorChecked
import GoSem.Claim
import GoSem.ClaimJoined
import GoSem.ClaimMapViews
import Derived.JoinedTies
import Derived.KernelRfl
namespace Go.Proofs.YtmehofoficaelaaGreatDoor
/- THE CELL 'sum', in the pinned program and in every row, IS THE sha256 OF THE DUMP (.gsa) THAT YtmehofoficaelaaGreatDoorProg.lean LOADS. Nothing in Lean hashes anything: it is a label: what it is worth is what the hold of that sum in a sandbox is worth. -/
noncomputable def Tryz.pinned : Pinned := { name := "ytmehofoficaelaagreatdoor", sum := "6a980d65f092a90c0fba8522d1a61e5caacefc75847a8c15018544c2aae4f4d0", checked := Tryz.checked }
namespace Rows
def none {H : Type} : Left H := { results := [], args := [] }

/- WHAT THE LISTED PACKAGE-LEVEL VARIABLES READ AS WHEN THE CALL BEGINS. Each datum BY PROGRAM (the guide's laid-datum.mjs) off the statement by which the dump's own 'gosem.cut.vars' lays the variable. In a bare row this is a premise. The card (YtmehofoficaelaaGreatDoorCards.lean) ties it to the program's text. -/
def laid_math_bits_deBruijn32tab {H : Type} : DataW H := .agg [.lit (.int .u8 0), .lit (.int .u8 1), .lit (.int .u8 28), .lit (.int .u8 2), .lit (.int .u8 29), .lit (.int .u8 14), .lit (.int .u8 24), .lit (.int .u8 3), .lit (.int .u8 30), .lit (.int .u8 22), .lit (.int .u8 20), .lit (.int .u8 15), .lit (.int .u8 25), .lit (.int .u8 17), .lit (.int .u8 4), .lit (.int .u8 8), .lit (.int .u8 31), .lit (.int .u8 27), .lit (.int .u8 13), .lit (.int .u8 23), .lit (.int .u8 21), .lit (.int .u8 19), .lit (.int .u8 16), .lit (.int .u8 7), .lit (.int .u8 26), .lit (.int .u8 12), .lit (.int .u8 18), .lit (.int .u8 6), .lit (.int .u8 11), .lit (.int .u8 5), .lit (.int .u8 10), .lit (.int .u8 9)]
def laid_math_bits_deBruijn64tab {H : Type} : DataW H := .agg [.lit (.int .u8 0), .lit (.int .u8 1), .lit (.int .u8 56), .lit (.int .u8 2), .lit (.int .u8 57), .lit (.int .u8 49), .lit (.int .u8 28), .lit (.int .u8 3), .lit (.int .u8 61), .lit (.int .u8 58), .lit (.int .u8 42), .lit (.int .u8 50), .lit (.int .u8 38), .lit (.int .u8 29), .lit (.int .u8 17), .lit (.int .u8 4), .lit (.int .u8 62), .lit (.int .u8 47), .lit (.int .u8 59), .lit (.int .u8 36), .lit (.int .u8 45), .lit (.int .u8 43), .lit (.int .u8 51), .lit (.int .u8 22), .lit (.int .u8 53), .lit (.int .u8 39), .lit (.int .u8 33), .lit (.int .u8 30), .lit (.int .u8 24), .lit (.int .u8 18), .lit (.int .u8 12), .lit (.int .u8 5), .lit (.int .u8 63), .lit (.int .u8 55), .lit (.int .u8 48), .lit (.int .u8 27), .lit (.int .u8 60), .lit (.int .u8 41), .lit (.int .u8 37), .lit (.int .u8 16), .lit (.int .u8 46), .lit (.int .u8 35), .lit (.int .u8 44), .lit (.int .u8 21), .lit (.int .u8 52), .lit (.int .u8 32), .lit (.int .u8 23), .lit (.int .u8 11), .lit (.int .u8 54), .lit (.int .u8 26), .lit (.int .u8 40), .lit (.int .u8 15), .lit (.int .u8 34), .lit (.int .u8 20), .lit (.int .u8 31), .lit (.int .u8 10), .lit (.int .u8 25), .lit (.int .u8 14), .lit (.int .u8 19), .lit (.int .u8 9), .lit (.int .u8 13), .lit (.int .u8 8), .lit (.int .u8 7), .lit (.int .u8 6)]
def laid_internal_strconv_uint64pow10 {H : Type} : DataW H := .agg [.lit (.int .u64 1), .lit (.int .u64 10), .lit (.int .u64 100), .lit (.int .u64 1000), .lit (.int .u64 10000), .lit (.int .u64 100000), .lit (.int .u64 1000000), .lit (.int .u64 10000000), .lit (.int .u64 100000000), .lit (.int .u64 1000000000), .lit (.int .u64 10000000000), .lit (.int .u64 100000000000), .lit (.int .u64 1000000000000), .lit (.int .u64 10000000000000), .lit (.int .u64 100000000000000), .lit (.int .u64 1000000000000000), .lit (.int .u64 10000000000000000), .lit (.int .u64 100000000000000000), .lit (.int .u64 1000000000000000000), .lit (.int .u64 10000000000000000000)]
def laid_skewer_hash_begin {H : Type} : DataW H := .agg [.lit (.int .u32 1779033703), .lit (.int .u32 3144134277), .lit (.int .u32 1013904242), .lit (.int .u32 2773480762), .lit (.int .u32 1359893119), .lit (.int .u32 2600822924), .lit (.int .u32 528734635), .lit (.int .u32 1541459225)]
def laid_skewer_hash_keys {H : Type} : DataW H := .agg [.lit (.int .u32 1116352408), .lit (.int .u32 1899447441), .lit (.int .u32 3049323471), .lit (.int .u32 3921009573), .lit (.int .u32 961987163), .lit (.int .u32 1508970993), .lit (.int .u32 2453635748), .lit (.int .u32 2870763221), .lit (.int .u32 3624381080), .lit (.int .u32 310598401), .lit (.int .u32 607225278), .lit (.int .u32 1426881987), .lit (.int .u32 1925078388), .lit (.int .u32 2162078206), .lit (.int .u32 2614888103), .lit (.int .u32 3248222580), .lit (.int .u32 3835390401), .lit (.int .u32 4022224774), .lit (.int .u32 264347078), .lit (.int .u32 604807628), .lit (.int .u32 770255983), .lit (.int .u32 1249150122), .lit (.int .u32 1555081692), .lit (.int .u32 1996064986), .lit (.int .u32 2554220882), .lit (.int .u32 2821834349), .lit (.int .u32 2952996808), .lit (.int .u32 3210313671), .lit (.int .u32 3336571891), .lit (.int .u32 3584528711), .lit (.int .u32 113926993), .lit (.int .u32 338241895), .lit (.int .u32 666307205), .lit (.int .u32 773529912), .lit (.int .u32 1294757372), .lit (.int .u32 1396182291), .lit (.int .u32 1695183700), .lit (.int .u32 1986661051), .lit (.int .u32 2177026350), .lit (.int .u32 2456956037), .lit (.int .u32 2730485921), .lit (.int .u32 2820302411), .lit (.int .u32 3259730800), .lit (.int .u32 3345764771), .lit (.int .u32 3516065817), .lit (.int .u32 3600352804), .lit (.int .u32 4094571909), .lit (.int .u32 275423344), .lit (.int .u32 430227734), .lit (.int .u32 506948616), .lit (.int .u32 659060556), .lit (.int .u32 883997877), .lit (.int .u32 958139571), .lit (.int .u32 1322822218), .lit (.int .u32 1537002063), .lit (.int .u32 1747873779), .lit (.int .u32 1955562222), .lit (.int .u32 2024104815), .lit (.int .u32 2227730452), .lit (.int .u32 2361852424), .lit (.int .u32 2428436474), .lit (.int .u32 2756734187), .lit (.int .u32 3204031479), .lit (.int .u32 3329325298)]
def laid_skewer_play_conditions {H : Type} : DataW H := .iface "func table" (.agg [.nil, .iface "func" (.lit (.string [115, 107, 101, 119, 101, 114, 47, 112, 108, 97, 121, 46, 99, 111, 110, 100, 105, 116, 105, 111, 110, 115, 36, 49])), .iface "func" (.lit (.string [115, 107, 101, 119, 101, 114, 47, 112, 108, 97, 121, 46, 99, 111, 110, 100, 105, 116, 105, 111, 110, 115, 36, 50])), .iface "func" (.lit (.string [115, 107, 101, 119, 101, 114, 47, 112, 108, 97, 121, 46, 99, 111, 110, 100, 105, 116, 105, 111, 110, 115, 36, 51]))])

/-- 'skewertop.TopTablesByWorkers': WHATEVER THE INPUT: true; the input reads as it did. -/
def topTablesByWorkersSpec : ChangeSpec := { name := "topTablesByWorkers", fn := fun _ => fun
  | [d1, d2, d3] => { results := [.lit (.bool true)], args := [d1, d2, d3] }
  | _ => none }
def topTablesByWorkersRow : OpenClaim := { program := "ytmehofoficaelaagreatdoor", sum := "6a980d65f092a90c0fba8522d1a61e5caacefc75847a8c15018544c2aae4f4d0", func := "skewer/skewertop.TopTablesByWorkers", spec := "topTablesByWorkers", unfollowed := true, recurses := true, named := ["skewer/play.conditions", "internal/strconv.uint64pow10", "math/bits.deBruijn32tab", "math/bits.deBruijn64tab", "skewer/hash.begin", "skewer/hash.keys"], plainKeys := false, apart := false, laid := [("math/bits.deBruijn32tab", laid_math_bits_deBruijn32tab), ("math/bits.deBruijn64tab", laid_math_bits_deBruijn64tab), ("internal/strconv.uint64pow10", laid_internal_strconv_uint64pow10), ("skewer/hash.begin", laid_skewer_hash_begin), ("skewer/hash.keys", laid_skewer_hash_keys), ("skewer/play.conditions", laid_skewer_play_conditions)] }
def TopTablesByWorkersSaid : Prop := topTablesByWorkersRow.holds Tryz.pinned (OpenSpec.ofChange topTablesByWorkersSpec)

/-- ITS FALSE NEIGHBOUR: 'it returns false'. Refute it at one input. -/
def topTablesByWorkersWrong : ChangeSpec := { name := "topTablesByWorkers", fn := fun _ => fun
  | [d1, d2, d3] => { results := [.lit (.bool false)], args := [d1, d2, d3] }
  | _ => none }
def TopTablesByWorkersWrongFalsely : Prop := topTablesByWorkersRow.holds Tryz.pinned (OpenSpec.ofChange topTablesByWorkersWrong)

/-- 'skewerlaw18.DisputeMatchesReference': WHATEVER THE INPUT: true; the input reads as it did. -/
def disputeMatchesReferenceSpec : ChangeSpec := { name := "disputeMatchesReference", fn := fun _ => fun
  | [d1, d2, d3] => { results := [.lit (.bool true)], args := [d1, d2, d3] }
  | _ => none }
def disputeMatchesReferenceRow : OpenClaim := { program := "ytmehofoficaelaagreatdoor", sum := "6a980d65f092a90c0fba8522d1a61e5caacefc75847a8c15018544c2aae4f4d0", func := "skewer/skewerlaw18.DisputeMatchesReference", spec := "disputeMatchesReference", unfollowed := true, recurses := true, named := ["skewer/play.conditions", "internal/strconv.uint64pow10", "math/bits.deBruijn32tab", "math/bits.deBruijn64tab", "skewer/hash.begin", "skewer/hash.keys"], plainKeys := false, apart := false, laid := [("math/bits.deBruijn32tab", laid_math_bits_deBruijn32tab), ("math/bits.deBruijn64tab", laid_math_bits_deBruijn64tab), ("internal/strconv.uint64pow10", laid_internal_strconv_uint64pow10), ("skewer/hash.begin", laid_skewer_hash_begin), ("skewer/hash.keys", laid_skewer_hash_keys), ("skewer/play.conditions", laid_skewer_play_conditions)] }
def DisputeMatchesReferenceSaid : Prop := disputeMatchesReferenceRow.holds Tryz.pinned (OpenSpec.ofChange disputeMatchesReferenceSpec)

/-- ITS FALSE NEIGHBOUR: 'it returns false'. Refute it at one input. -/
def disputeMatchesReferenceWrong : ChangeSpec := { name := "disputeMatchesReference", fn := fun _ => fun
  | [d1, d2, d3] => { results := [.lit (.bool false)], args := [d1, d2, d3] }
  | _ => none }
def DisputeMatchesReferenceWrongFalsely : Prop := disputeMatchesReferenceRow.holds Tryz.pinned (OpenSpec.ofChange disputeMatchesReferenceWrong)

/-- 'skewerlaw18.DisputeHonest': WHATEVER THE INPUT: true; the input reads as it did. -/
def disputeHonestSpec : ChangeSpec := { name := "disputeHonest", fn := fun _ => fun
  | [d1, d2] => { results := [.lit (.bool true)], args := [d1, d2] }
  | _ => none }
def disputeHonestRow : OpenClaim := { program := "ytmehofoficaelaagreatdoor", sum := "6a980d65f092a90c0fba8522d1a61e5caacefc75847a8c15018544c2aae4f4d0", func := "skewer/skewerlaw18.DisputeHonest", spec := "disputeHonest", unfollowed := true, recurses := true, named := ["skewer/play.conditions", "internal/strconv.uint64pow10", "math/bits.deBruijn32tab", "math/bits.deBruijn64tab", "skewer/hash.begin", "skewer/hash.keys"], plainKeys := false, apart := false, laid := [("math/bits.deBruijn32tab", laid_math_bits_deBruijn32tab), ("math/bits.deBruijn64tab", laid_math_bits_deBruijn64tab), ("internal/strconv.uint64pow10", laid_internal_strconv_uint64pow10), ("skewer/hash.begin", laid_skewer_hash_begin), ("skewer/hash.keys", laid_skewer_hash_keys), ("skewer/play.conditions", laid_skewer_play_conditions)] }
def DisputeHonestSaid : Prop := disputeHonestRow.holds Tryz.pinned (OpenSpec.ofChange disputeHonestSpec)

/-- ITS FALSE NEIGHBOUR: 'it returns false'. Refute it at one input. -/
def disputeHonestWrong : ChangeSpec := { name := "disputeHonest", fn := fun _ => fun
  | [d1, d2] => { results := [.lit (.bool false)], args := [d1, d2] }
  | _ => none }
def DisputeHonestWrongFalsely : Prop := disputeHonestRow.holds Tryz.pinned (OpenSpec.ofChange disputeHonestWrong)

/-- 'skewerlaw18.DisputeTruth': WHATEVER THE INPUT: true; the input reads as it did. -/
def disputeTruthSpec : ChangeSpec := { name := "disputeTruth", fn := fun _ => fun
  | [d1, d2, d3] => { results := [.lit (.bool true)], args := [d1, d2, d3] }
  | _ => none }
def disputeTruthRow : OpenClaim := { program := "ytmehofoficaelaagreatdoor", sum := "6a980d65f092a90c0fba8522d1a61e5caacefc75847a8c15018544c2aae4f4d0", func := "skewer/skewerlaw18.DisputeTruth", spec := "disputeTruth", unfollowed := true, recurses := true, named := ["skewer/play.conditions", "internal/strconv.uint64pow10", "math/bits.deBruijn32tab", "math/bits.deBruijn64tab", "skewer/hash.begin", "skewer/hash.keys"], plainKeys := false, apart := false, laid := [("math/bits.deBruijn32tab", laid_math_bits_deBruijn32tab), ("math/bits.deBruijn64tab", laid_math_bits_deBruijn64tab), ("internal/strconv.uint64pow10", laid_internal_strconv_uint64pow10), ("skewer/hash.begin", laid_skewer_hash_begin), ("skewer/hash.keys", laid_skewer_hash_keys), ("skewer/play.conditions", laid_skewer_play_conditions)] }
def DisputeTruthSaid : Prop := disputeTruthRow.holds Tryz.pinned (OpenSpec.ofChange disputeTruthSpec)

/-- ITS FALSE NEIGHBOUR: 'it returns false'. Refute it at one input. -/
def disputeTruthWrong : ChangeSpec := { name := "disputeTruth", fn := fun _ => fun
  | [d1, d2, d3] => { results := [.lit (.bool false)], args := [d1, d2, d3] }
  | _ => none }
def DisputeTruthWrongFalsely : Prop := disputeTruthRow.holds Tryz.pinned (OpenSpec.ofChange disputeTruthWrong)

/-- 'skewerlaw18.DisputeReferee': WHATEVER THE INPUT: true; the input reads as it did. -/
def disputeRefereeSpec : ChangeSpec := { name := "disputeReferee", fn := fun _ => fun
  | [d1, d2, d3] => { results := [.lit (.bool true)], args := [d1, d2, d3] }
  | _ => none }
def disputeRefereeRow : OpenClaim := { program := "ytmehofoficaelaagreatdoor", sum := "6a980d65f092a90c0fba8522d1a61e5caacefc75847a8c15018544c2aae4f4d0", func := "skewer/skewerlaw18.DisputeReferee", spec := "disputeReferee", unfollowed := true, recurses := true, named := ["skewer/play.conditions", "internal/strconv.uint64pow10", "math/bits.deBruijn32tab", "math/bits.deBruijn64tab", "skewer/hash.begin", "skewer/hash.keys"], plainKeys := false, apart := false, laid := [("math/bits.deBruijn32tab", laid_math_bits_deBruijn32tab), ("math/bits.deBruijn64tab", laid_math_bits_deBruijn64tab), ("internal/strconv.uint64pow10", laid_internal_strconv_uint64pow10), ("skewer/hash.begin", laid_skewer_hash_begin), ("skewer/hash.keys", laid_skewer_hash_keys), ("skewer/play.conditions", laid_skewer_play_conditions)] }
def DisputeRefereeSaid : Prop := disputeRefereeRow.holds Tryz.pinned (OpenSpec.ofChange disputeRefereeSpec)

/-- ITS FALSE NEIGHBOUR: 'it returns false'. Refute it at one input. -/
def disputeRefereeWrong : ChangeSpec := { name := "disputeReferee", fn := fun _ => fun
  | [d1, d2, d3] => { results := [.lit (.bool false)], args := [d1, d2, d3] }
  | _ => none }
def DisputeRefereeWrongFalsely : Prop := disputeRefereeRow.holds Tryz.pinned (OpenSpec.ofChange disputeRefereeWrong)

/-- 'skewerlaw18.DisputeLocal': WHATEVER THE INPUT: true; the input reads as it did. -/
def disputeLocalSpec : ChangeSpec := { name := "disputeLocal", fn := fun _ => fun
  | [d1, d2] => { results := [.lit (.bool true)], args := [d1, d2] }
  | _ => none }
def disputeLocalRow : OpenClaim := { program := "ytmehofoficaelaagreatdoor", sum := "6a980d65f092a90c0fba8522d1a61e5caacefc75847a8c15018544c2aae4f4d0", func := "skewer/skewerlaw18.DisputeLocal", spec := "disputeLocal", unfollowed := true, recurses := true, named := ["skewer/play.conditions", "internal/strconv.uint64pow10", "math/bits.deBruijn32tab", "math/bits.deBruijn64tab", "skewer/hash.begin", "skewer/hash.keys"], plainKeys := false, apart := false, laid := [("math/bits.deBruijn32tab", laid_math_bits_deBruijn32tab), ("math/bits.deBruijn64tab", laid_math_bits_deBruijn64tab), ("internal/strconv.uint64pow10", laid_internal_strconv_uint64pow10), ("skewer/hash.begin", laid_skewer_hash_begin), ("skewer/hash.keys", laid_skewer_hash_keys), ("skewer/play.conditions", laid_skewer_play_conditions)] }
def DisputeLocalSaid : Prop := disputeLocalRow.holds Tryz.pinned (OpenSpec.ofChange disputeLocalSpec)

/-- ITS FALSE NEIGHBOUR: 'it returns false'. Refute it at one input. -/
def disputeLocalWrong : ChangeSpec := { name := "disputeLocal", fn := fun _ => fun
  | [d1, d2] => { results := [.lit (.bool false)], args := [d1, d2] }
  | _ => none }
def DisputeLocalWrongFalsely : Prop := disputeLocalRow.holds Tryz.pinned (OpenSpec.ofChange disputeLocalWrong)

/-- 'skewerlaw18.DisputeRefuses': WHATEVER THE INPUT: true; the input reads as it did. -/
def disputeRefusesSpec : ChangeSpec := { name := "disputeRefuses", fn := fun _ => fun
  | [d1, d2, d3] => { results := [.lit (.bool true)], args := [d1, d2, d3] }
  | _ => none }
def disputeRefusesRow : OpenClaim := { program := "ytmehofoficaelaagreatdoor", sum := "6a980d65f092a90c0fba8522d1a61e5caacefc75847a8c15018544c2aae4f4d0", func := "skewer/skewerlaw18.DisputeRefuses", spec := "disputeRefuses", unfollowed := true, recurses := true, named := ["skewer/play.conditions", "internal/strconv.uint64pow10", "math/bits.deBruijn32tab", "math/bits.deBruijn64tab", "skewer/hash.begin", "skewer/hash.keys"], plainKeys := false, apart := false, laid := [("math/bits.deBruijn32tab", laid_math_bits_deBruijn32tab), ("math/bits.deBruijn64tab", laid_math_bits_deBruijn64tab), ("internal/strconv.uint64pow10", laid_internal_strconv_uint64pow10), ("skewer/hash.begin", laid_skewer_hash_begin), ("skewer/hash.keys", laid_skewer_hash_keys), ("skewer/play.conditions", laid_skewer_play_conditions)] }
def DisputeRefusesSaid : Prop := disputeRefusesRow.holds Tryz.pinned (OpenSpec.ofChange disputeRefusesSpec)

/-- ITS FALSE NEIGHBOUR: 'it returns false'. Refute it at one input. -/
def disputeRefusesWrong : ChangeSpec := { name := "disputeRefuses", fn := fun _ => fun
  | [d1, d2, d3] => { results := [.lit (.bool false)], args := [d1, d2, d3] }
  | _ => none }
def DisputeRefusesWrongFalsely : Prop := disputeRefusesRow.holds Tryz.pinned (OpenSpec.ofChange disputeRefusesWrong)

/-- 'skewerlaw18.DisputeSettles': WHATEVER THE INPUT: true; the input reads as it did. -/
def disputeSettlesSpec : ChangeSpec := { name := "disputeSettles", fn := fun _ => fun
  | [d1, d2, d3] => { results := [.lit (.bool true)], args := [d1, d2, d3] }
  | _ => none }
def disputeSettlesRow : OpenClaim := { program := "ytmehofoficaelaagreatdoor", sum := "6a980d65f092a90c0fba8522d1a61e5caacefc75847a8c15018544c2aae4f4d0", func := "skewer/skewerlaw18.DisputeSettles", spec := "disputeSettles", unfollowed := true, recurses := true, named := ["skewer/play.conditions", "internal/strconv.uint64pow10", "math/bits.deBruijn32tab", "math/bits.deBruijn64tab", "skewer/hash.begin", "skewer/hash.keys"], plainKeys := false, apart := false, laid := [("math/bits.deBruijn32tab", laid_math_bits_deBruijn32tab), ("math/bits.deBruijn64tab", laid_math_bits_deBruijn64tab), ("internal/strconv.uint64pow10", laid_internal_strconv_uint64pow10), ("skewer/hash.begin", laid_skewer_hash_begin), ("skewer/hash.keys", laid_skewer_hash_keys), ("skewer/play.conditions", laid_skewer_play_conditions)] }
def DisputeSettlesSaid : Prop := disputeSettlesRow.holds Tryz.pinned (OpenSpec.ofChange disputeSettlesSpec)

/-- ITS FALSE NEIGHBOUR: 'it returns false'. Refute it at one input. -/
def disputeSettlesWrong : ChangeSpec := { name := "disputeSettles", fn := fun _ => fun
  | [d1, d2, d3] => { results := [.lit (.bool false)], args := [d1, d2, d3] }
  | _ => none }
def DisputeSettlesWrongFalsely : Prop := disputeSettlesRow.holds Tryz.pinned (OpenSpec.ofChange disputeSettlesWrong)

/-- 'skewerlaw18.DisputeWorkers': WHATEVER THE INPUT: true; the input reads as it did. -/
def disputeWorkersSpec : ChangeSpec := { name := "disputeWorkers", fn := fun _ => fun
  | [d1, d2, d3] => { results := [.lit (.bool true)], args := [d1, d2, d3] }
  | _ => none }
def disputeWorkersRow : OpenClaim := { program := "ytmehofoficaelaagreatdoor", sum := "6a980d65f092a90c0fba8522d1a61e5caacefc75847a8c15018544c2aae4f4d0", func := "skewer/skewerlaw18.DisputeWorkers", spec := "disputeWorkers", unfollowed := true, recurses := true, named := ["skewer/play.conditions", "internal/strconv.uint64pow10", "math/bits.deBruijn32tab", "math/bits.deBruijn64tab", "skewer/hash.begin", "skewer/hash.keys"], plainKeys := false, apart := false, laid := [("math/bits.deBruijn32tab", laid_math_bits_deBruijn32tab), ("math/bits.deBruijn64tab", laid_math_bits_deBruijn64tab), ("internal/strconv.uint64pow10", laid_internal_strconv_uint64pow10), ("skewer/hash.begin", laid_skewer_hash_begin), ("skewer/hash.keys", laid_skewer_hash_keys), ("skewer/play.conditions", laid_skewer_play_conditions)] }
def DisputeWorkersSaid : Prop := disputeWorkersRow.holds Tryz.pinned (OpenSpec.ofChange disputeWorkersSpec)

/-- ITS FALSE NEIGHBOUR: 'it returns false'. Refute it at one input. -/
def disputeWorkersWrong : ChangeSpec := { name := "disputeWorkers", fn := fun _ => fun
  | [d1, d2, d3] => { results := [.lit (.bool false)], args := [d1, d2, d3] }
  | _ => none }
def DisputeWorkersWrongFalsely : Prop := disputeWorkersRow.holds Tryz.pinned (OpenSpec.ofChange disputeWorkersWrong)

/- THE SECOND FORM. 'bulk': how many values and letters a reading holds, each counted each time it is reached (what is shared counts as often as it is met; a slice's spare places count too). A statement '..UptoSaid' is the law's where the arguments, and the package variables that the reading takes, are together of bulk at most 1048576: NARROWER than '..Said'. Prove '..Said' where nothing that the law and all that it calls make is longer than what came in: it says more and counts as full. Else prove '..UptoSaid'. A law counts once. -/
mutual
def uptoBulk {H : Type} : DataW H → Nat
  | .lit (.string bytes) => bytes.length + 1
  | .lit _ => 1
  | .nil => 1
  | .ptr d => uptoBulk d + 1
  | .slice elems spare => uptoBulkAll elems + uptoBulkAll spare + 1
  | .agg parts => uptoBulkAll parts + 1
  | .iface _ d => uptoBulk d + 1
  | .map entries => uptoBulkEntries entries + 1
  | .held _ => 1
def uptoBulkAll {H : Type} : List (DataW H) → Nat
  | [] => 0
  | d :: r => uptoBulk d + uptoBulkAll r
def uptoBulkEntries {H : Type} : List (Lit × DataW H) → Nat
  | [] => 0
  | x :: r => uptoBulkEntry x + uptoBulkEntries r
def uptoBulkEntry {H : Type} : Lit × DataW H → Nat
  | (.string bytes, d) => bytes.length + uptoBulk d + 1
  | (_, d) => uptoBulk d + 1
 end
def uptoSmall : (H : Type) → List (DataW H) → Bool := fun _ ds => decide (uptoBulkAll ds ≤ 1048576)
def OpenSpec.upto (s : _root_.Go.ChangeSpec) : _root_.Go.OpenSpec := { _root_.Go.OpenSpec.ofChange s with cond := some uptoSmall }

/-- 'skewertop.TopTablesByWorkers', WHERE WHAT IT READS IS OF BULK AT MOST 1048576: true; the input reads as it did. -/
def topTablesByWorkersUptoRow : OpenClaim := { program := "ytmehofoficaelaagreatdoor", sum := "6a980d65f092a90c0fba8522d1a61e5caacefc75847a8c15018544c2aae4f4d0", func := "skewer/skewertop.TopTablesByWorkers", spec := "topTablesByWorkers", unfollowed := true, recurses := true, named := ["skewer/play.conditions", "internal/strconv.uint64pow10", "math/bits.deBruijn32tab", "math/bits.deBruijn64tab", "skewer/hash.begin", "skewer/hash.keys"], plainKeys := false, apart := false, laid := [("math/bits.deBruijn32tab", laid_math_bits_deBruijn32tab), ("math/bits.deBruijn64tab", laid_math_bits_deBruijn64tab), ("internal/strconv.uint64pow10", laid_internal_strconv_uint64pow10), ("skewer/hash.begin", laid_skewer_hash_begin), ("skewer/hash.keys", laid_skewer_hash_keys), ("skewer/play.conditions", laid_skewer_play_conditions)], narrowed := true }
def TopTablesByWorkersUptoSaid : Prop := topTablesByWorkersUptoRow.holds Tryz.pinned (OpenSpec.upto topTablesByWorkersSpec)

/-- 'skewerlaw18.DisputeMatchesReference', WHERE WHAT IT READS IS OF BULK AT MOST 1048576: true; the input reads as it did. -/
def disputeMatchesReferenceUptoRow : OpenClaim := { program := "ytmehofoficaelaagreatdoor", sum := "6a980d65f092a90c0fba8522d1a61e5caacefc75847a8c15018544c2aae4f4d0", func := "skewer/skewerlaw18.DisputeMatchesReference", spec := "disputeMatchesReference", unfollowed := true, recurses := true, named := ["skewer/play.conditions", "internal/strconv.uint64pow10", "math/bits.deBruijn32tab", "math/bits.deBruijn64tab", "skewer/hash.begin", "skewer/hash.keys"], plainKeys := false, apart := false, laid := [("math/bits.deBruijn32tab", laid_math_bits_deBruijn32tab), ("math/bits.deBruijn64tab", laid_math_bits_deBruijn64tab), ("internal/strconv.uint64pow10", laid_internal_strconv_uint64pow10), ("skewer/hash.begin", laid_skewer_hash_begin), ("skewer/hash.keys", laid_skewer_hash_keys), ("skewer/play.conditions", laid_skewer_play_conditions)], narrowed := true }
def DisputeMatchesReferenceUptoSaid : Prop := disputeMatchesReferenceUptoRow.holds Tryz.pinned (OpenSpec.upto disputeMatchesReferenceSpec)

/-- 'skewerlaw18.DisputeHonest', WHERE WHAT IT READS IS OF BULK AT MOST 1048576: true; the input reads as it did. -/
def disputeHonestUptoRow : OpenClaim := { program := "ytmehofoficaelaagreatdoor", sum := "6a980d65f092a90c0fba8522d1a61e5caacefc75847a8c15018544c2aae4f4d0", func := "skewer/skewerlaw18.DisputeHonest", spec := "disputeHonest", unfollowed := true, recurses := true, named := ["skewer/play.conditions", "internal/strconv.uint64pow10", "math/bits.deBruijn32tab", "math/bits.deBruijn64tab", "skewer/hash.begin", "skewer/hash.keys"], plainKeys := false, apart := false, laid := [("math/bits.deBruijn32tab", laid_math_bits_deBruijn32tab), ("math/bits.deBruijn64tab", laid_math_bits_deBruijn64tab), ("internal/strconv.uint64pow10", laid_internal_strconv_uint64pow10), ("skewer/hash.begin", laid_skewer_hash_begin), ("skewer/hash.keys", laid_skewer_hash_keys), ("skewer/play.conditions", laid_skewer_play_conditions)], narrowed := true }
def DisputeHonestUptoSaid : Prop := disputeHonestUptoRow.holds Tryz.pinned (OpenSpec.upto disputeHonestSpec)

/-- 'skewerlaw18.DisputeTruth', WHERE WHAT IT READS IS OF BULK AT MOST 1048576: true; the input reads as it did. -/
def disputeTruthUptoRow : OpenClaim := { program := "ytmehofoficaelaagreatdoor", sum := "6a980d65f092a90c0fba8522d1a61e5caacefc75847a8c15018544c2aae4f4d0", func := "skewer/skewerlaw18.DisputeTruth", spec := "disputeTruth", unfollowed := true, recurses := true, named := ["skewer/play.conditions", "internal/strconv.uint64pow10", "math/bits.deBruijn32tab", "math/bits.deBruijn64tab", "skewer/hash.begin", "skewer/hash.keys"], plainKeys := false, apart := false, laid := [("math/bits.deBruijn32tab", laid_math_bits_deBruijn32tab), ("math/bits.deBruijn64tab", laid_math_bits_deBruijn64tab), ("internal/strconv.uint64pow10", laid_internal_strconv_uint64pow10), ("skewer/hash.begin", laid_skewer_hash_begin), ("skewer/hash.keys", laid_skewer_hash_keys), ("skewer/play.conditions", laid_skewer_play_conditions)], narrowed := true }
def DisputeTruthUptoSaid : Prop := disputeTruthUptoRow.holds Tryz.pinned (OpenSpec.upto disputeTruthSpec)

/-- 'skewerlaw18.DisputeReferee', WHERE WHAT IT READS IS OF BULK AT MOST 1048576: true; the input reads as it did. -/
def disputeRefereeUptoRow : OpenClaim := { program := "ytmehofoficaelaagreatdoor", sum := "6a980d65f092a90c0fba8522d1a61e5caacefc75847a8c15018544c2aae4f4d0", func := "skewer/skewerlaw18.DisputeReferee", spec := "disputeReferee", unfollowed := true, recurses := true, named := ["skewer/play.conditions", "internal/strconv.uint64pow10", "math/bits.deBruijn32tab", "math/bits.deBruijn64tab", "skewer/hash.begin", "skewer/hash.keys"], plainKeys := false, apart := false, laid := [("math/bits.deBruijn32tab", laid_math_bits_deBruijn32tab), ("math/bits.deBruijn64tab", laid_math_bits_deBruijn64tab), ("internal/strconv.uint64pow10", laid_internal_strconv_uint64pow10), ("skewer/hash.begin", laid_skewer_hash_begin), ("skewer/hash.keys", laid_skewer_hash_keys), ("skewer/play.conditions", laid_skewer_play_conditions)], narrowed := true }
def DisputeRefereeUptoSaid : Prop := disputeRefereeUptoRow.holds Tryz.pinned (OpenSpec.upto disputeRefereeSpec)

/-- 'skewerlaw18.DisputeLocal', WHERE WHAT IT READS IS OF BULK AT MOST 1048576: true; the input reads as it did. -/
def disputeLocalUptoRow : OpenClaim := { program := "ytmehofoficaelaagreatdoor", sum := "6a980d65f092a90c0fba8522d1a61e5caacefc75847a8c15018544c2aae4f4d0", func := "skewer/skewerlaw18.DisputeLocal", spec := "disputeLocal", unfollowed := true, recurses := true, named := ["skewer/play.conditions", "internal/strconv.uint64pow10", "math/bits.deBruijn32tab", "math/bits.deBruijn64tab", "skewer/hash.begin", "skewer/hash.keys"], plainKeys := false, apart := false, laid := [("math/bits.deBruijn32tab", laid_math_bits_deBruijn32tab), ("math/bits.deBruijn64tab", laid_math_bits_deBruijn64tab), ("internal/strconv.uint64pow10", laid_internal_strconv_uint64pow10), ("skewer/hash.begin", laid_skewer_hash_begin), ("skewer/hash.keys", laid_skewer_hash_keys), ("skewer/play.conditions", laid_skewer_play_conditions)], narrowed := true }
def DisputeLocalUptoSaid : Prop := disputeLocalUptoRow.holds Tryz.pinned (OpenSpec.upto disputeLocalSpec)

/-- 'skewerlaw18.DisputeRefuses', WHERE WHAT IT READS IS OF BULK AT MOST 1048576: true; the input reads as it did. -/
def disputeRefusesUptoRow : OpenClaim := { program := "ytmehofoficaelaagreatdoor", sum := "6a980d65f092a90c0fba8522d1a61e5caacefc75847a8c15018544c2aae4f4d0", func := "skewer/skewerlaw18.DisputeRefuses", spec := "disputeRefuses", unfollowed := true, recurses := true, named := ["skewer/play.conditions", "internal/strconv.uint64pow10", "math/bits.deBruijn32tab", "math/bits.deBruijn64tab", "skewer/hash.begin", "skewer/hash.keys"], plainKeys := false, apart := false, laid := [("math/bits.deBruijn32tab", laid_math_bits_deBruijn32tab), ("math/bits.deBruijn64tab", laid_math_bits_deBruijn64tab), ("internal/strconv.uint64pow10", laid_internal_strconv_uint64pow10), ("skewer/hash.begin", laid_skewer_hash_begin), ("skewer/hash.keys", laid_skewer_hash_keys), ("skewer/play.conditions", laid_skewer_play_conditions)], narrowed := true }
def DisputeRefusesUptoSaid : Prop := disputeRefusesUptoRow.holds Tryz.pinned (OpenSpec.upto disputeRefusesSpec)

/-- 'skewerlaw18.DisputeSettles', WHERE WHAT IT READS IS OF BULK AT MOST 1048576: true; the input reads as it did. -/
def disputeSettlesUptoRow : OpenClaim := { program := "ytmehofoficaelaagreatdoor", sum := "6a980d65f092a90c0fba8522d1a61e5caacefc75847a8c15018544c2aae4f4d0", func := "skewer/skewerlaw18.DisputeSettles", spec := "disputeSettles", unfollowed := true, recurses := true, named := ["skewer/play.conditions", "internal/strconv.uint64pow10", "math/bits.deBruijn32tab", "math/bits.deBruijn64tab", "skewer/hash.begin", "skewer/hash.keys"], plainKeys := false, apart := false, laid := [("math/bits.deBruijn32tab", laid_math_bits_deBruijn32tab), ("math/bits.deBruijn64tab", laid_math_bits_deBruijn64tab), ("internal/strconv.uint64pow10", laid_internal_strconv_uint64pow10), ("skewer/hash.begin", laid_skewer_hash_begin), ("skewer/hash.keys", laid_skewer_hash_keys), ("skewer/play.conditions", laid_skewer_play_conditions)], narrowed := true }
def DisputeSettlesUptoSaid : Prop := disputeSettlesUptoRow.holds Tryz.pinned (OpenSpec.upto disputeSettlesSpec)

/-- 'skewerlaw18.DisputeWorkers', WHERE WHAT IT READS IS OF BULK AT MOST 1048576: true; the input reads as it did. -/
def disputeWorkersUptoRow : OpenClaim := { program := "ytmehofoficaelaagreatdoor", sum := "6a980d65f092a90c0fba8522d1a61e5caacefc75847a8c15018544c2aae4f4d0", func := "skewer/skewerlaw18.DisputeWorkers", spec := "disputeWorkers", unfollowed := true, recurses := true, named := ["skewer/play.conditions", "internal/strconv.uint64pow10", "math/bits.deBruijn32tab", "math/bits.deBruijn64tab", "skewer/hash.begin", "skewer/hash.keys"], plainKeys := false, apart := false, laid := [("math/bits.deBruijn32tab", laid_math_bits_deBruijn32tab), ("math/bits.deBruijn64tab", laid_math_bits_deBruijn64tab), ("internal/strconv.uint64pow10", laid_internal_strconv_uint64pow10), ("skewer/hash.begin", laid_skewer_hash_begin), ("skewer/hash.keys", laid_skewer_hash_keys), ("skewer/play.conditions", laid_skewer_play_conditions)], narrowed := true }
def DisputeWorkersUptoSaid : Prop := disputeWorkersUptoRow.holds Tryz.pinned (OpenSpec.upto disputeWorkersSpec)

end Rows
end Go.Proofs.YtmehofoficaelaaGreatDoor

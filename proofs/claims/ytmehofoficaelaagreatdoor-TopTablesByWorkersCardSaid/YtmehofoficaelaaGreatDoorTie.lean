/-
  DERIVED. GIVEN WITH THE SEED: THE PROGRAM's TIES (one call each: nine closed facts by the kernel) AND EACH ROW's TIE, after the 31st guide's Derived/Test/Toyas{Tie, Card}.lean. No idea stands in it: it is a product of the set-up. Laid BY PROGRAM, IN A SANDBOX (cutbox-door.mjs). By AI agents, Wed Nov 11 2026. No macro, syntax, notation, axiom, sorry.
-/
import Derived.Test.YtmehofoficaelaaGreatDoorRows
import Derived.LaidByTextLater
import Derived.SevenTiedAt
import Derived.LaidSub
import Derived.LaidOnce
namespace Go.Proofs.YtmehofoficaelaaGreatDoor
open Go
set_option maxRecDepth 100000
theorem seatTie1 : Tryz.prog.laidByTextLater [("math/bits.deBruijn32tab", Rows.laid_math_bits_deBruijn32tab), ("math/bits.deBruijn64tab", Rows.laid_math_bits_deBruijn64tab), ("internal/strconv.uint64pow10", Rows.laid_internal_strconv_uint64pow10), ("skewer/hash.begin", Rows.laid_skewer_hash_begin), ("skewer/hash.keys", Rows.laid_skewer_hash_keys), ("skewer/play.conditions", Rows.laid_skewer_play_conditions)] [.data, .data, .data, .data, .data, .funcs] true :=
  Program.laidByTextLater_by_one 39 8 65 (by kernel_rfl) (by kernel_rfl) (by kernel_rfl) (by kernel_rfl) (by kernel_rfl) (by kernel_rfl) (fun _ _ => by kernel_rfl)
theorem noOwnUnsafe : Tryz.pinned.checked.prog.headLifts.contains "ownunsafe" = false := by kernel_rfl
theorem tie : Tryz.prog.laidByTextLater [("math/bits.deBruijn32tab", Rows.laid_math_bits_deBruijn32tab), ("math/bits.deBruijn64tab", Rows.laid_math_bits_deBruijn64tab), ("internal/strconv.uint64pow10", Rows.laid_internal_strconv_uint64pow10), ("skewer/hash.begin", Rows.laid_skewer_hash_begin), ("skewer/hash.keys", Rows.laid_skewer_hash_keys), ("skewer/play.conditions", Rows.laid_skewer_play_conditions)] [.data, .data, .data, .data, .data, .funcs] true :=
  Program.laidByTextLater.sub seatTie1 ["math/bits.deBruijn32tab", "math/bits.deBruijn64tab", "internal/strconv.uint64pow10", "skewer/hash.begin", "skewer/hash.keys", "skewer/play.conditions"] (by kernel_rfl) (by kernel_rfl)
theorem topTablesByWorkers_row_tie : Rows.topTablesByWorkersRow.laidByTextAt .later Tryz.pinned [.data, .data, .data, .data, .data, .funcs] true :=
  OpenClaim.laidByTextAt_later rfl rfl tie noOwnUnsafe
theorem disputeMatchesReference_row_tie : Rows.disputeMatchesReferenceRow.laidByTextAt .later Tryz.pinned [.data, .data, .data, .data, .data, .funcs] true :=
  OpenClaim.laidByTextAt_later rfl rfl tie noOwnUnsafe
theorem disputeHonest_row_tie : Rows.disputeHonestRow.laidByTextAt .later Tryz.pinned [.data, .data, .data, .data, .data, .funcs] true :=
  OpenClaim.laidByTextAt_later rfl rfl tie noOwnUnsafe
theorem disputeTruth_row_tie : Rows.disputeTruthRow.laidByTextAt .later Tryz.pinned [.data, .data, .data, .data, .data, .funcs] true :=
  OpenClaim.laidByTextAt_later rfl rfl tie noOwnUnsafe
theorem disputeReferee_row_tie : Rows.disputeRefereeRow.laidByTextAt .later Tryz.pinned [.data, .data, .data, .data, .data, .funcs] true :=
  OpenClaim.laidByTextAt_later rfl rfl tie noOwnUnsafe
theorem disputeLocal_row_tie : Rows.disputeLocalRow.laidByTextAt .later Tryz.pinned [.data, .data, .data, .data, .data, .funcs] true :=
  OpenClaim.laidByTextAt_later rfl rfl tie noOwnUnsafe
theorem disputeRefuses_row_tie : Rows.disputeRefusesRow.laidByTextAt .later Tryz.pinned [.data, .data, .data, .data, .data, .funcs] true :=
  OpenClaim.laidByTextAt_later rfl rfl tie noOwnUnsafe
theorem disputeSettles_row_tie : Rows.disputeSettlesRow.laidByTextAt .later Tryz.pinned [.data, .data, .data, .data, .data, .funcs] true :=
  OpenClaim.laidByTextAt_later rfl rfl tie noOwnUnsafe
theorem disputeWorkers_row_tie : Rows.disputeWorkersRow.laidByTextAt .later Tryz.pinned [.data, .data, .data, .data, .data, .funcs] true :=
  OpenClaim.laidByTextAt_later rfl rfl tie noOwnUnsafe
theorem topTablesByWorkersUpto_row_tie : Rows.topTablesByWorkersUptoRow.laidByTextAt .later Tryz.pinned [.data, .data, .data, .data, .data, .funcs] true :=
  OpenClaim.laidByTextAt_later rfl rfl tie noOwnUnsafe
theorem disputeMatchesReferenceUpto_row_tie : Rows.disputeMatchesReferenceUptoRow.laidByTextAt .later Tryz.pinned [.data, .data, .data, .data, .data, .funcs] true :=
  OpenClaim.laidByTextAt_later rfl rfl tie noOwnUnsafe
theorem disputeHonestUpto_row_tie : Rows.disputeHonestUptoRow.laidByTextAt .later Tryz.pinned [.data, .data, .data, .data, .data, .funcs] true :=
  OpenClaim.laidByTextAt_later rfl rfl tie noOwnUnsafe
theorem disputeTruthUpto_row_tie : Rows.disputeTruthUptoRow.laidByTextAt .later Tryz.pinned [.data, .data, .data, .data, .data, .funcs] true :=
  OpenClaim.laidByTextAt_later rfl rfl tie noOwnUnsafe
theorem disputeRefereeUpto_row_tie : Rows.disputeRefereeUptoRow.laidByTextAt .later Tryz.pinned [.data, .data, .data, .data, .data, .funcs] true :=
  OpenClaim.laidByTextAt_later rfl rfl tie noOwnUnsafe
theorem disputeLocalUpto_row_tie : Rows.disputeLocalUptoRow.laidByTextAt .later Tryz.pinned [.data, .data, .data, .data, .data, .funcs] true :=
  OpenClaim.laidByTextAt_later rfl rfl tie noOwnUnsafe
theorem disputeRefusesUpto_row_tie : Rows.disputeRefusesUptoRow.laidByTextAt .later Tryz.pinned [.data, .data, .data, .data, .data, .funcs] true :=
  OpenClaim.laidByTextAt_later rfl rfl tie noOwnUnsafe
theorem disputeSettlesUpto_row_tie : Rows.disputeSettlesUptoRow.laidByTextAt .later Tryz.pinned [.data, .data, .data, .data, .data, .funcs] true :=
  OpenClaim.laidByTextAt_later rfl rfl tie noOwnUnsafe
theorem disputeWorkersUpto_row_tie : Rows.disputeWorkersUptoRow.laidByTextAt .later Tryz.pinned [.data, .data, .data, .data, .data, .funcs] true :=
  OpenClaim.laidByTextAt_later rfl rfl tie noOwnUnsafe
end Go.Proofs.YtmehofoficaelaaGreatDoor

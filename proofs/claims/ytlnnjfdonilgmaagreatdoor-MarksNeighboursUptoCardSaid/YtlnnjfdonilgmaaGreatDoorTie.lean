/-
  DERIVED. GIVEN WITH THE SEED: THE PROGRAM's TIES (one call each: nine closed facts by the kernel) AND EACH ROW's TIE, after the 31st guide's Derived/Test/Toyas{Tie, Card}.lean. No idea stands in it: it is a product of the set-up. Laid BY PROGRAM, IN A SANDBOX (cutbox-door.mjs). By AI agents, Wed Nov 11 2026. No macro, syntax, notation, axiom, sorry.
-/
import Derived.Test.YtlnnjfdonilgmaaGreatDoorRows
import Derived.LaidByTextLater
import Derived.SevenTiedAt
import Derived.LaidSub
import Derived.LaidOnce
namespace Go.Proofs.YtlnnjfdonilgmaaGreatDoor
open Go
set_option maxRecDepth 100000
theorem seatTie1 : Tryz.prog.laidByTextLater [("unicode/utf8.acceptRanges", Rows.laid_unicode_utf8_acceptRanges), ("vellum/api.ErrUtf8", Rows.laid_vellum_api_ErrUtf8), ("vellum/api.ErrJson", Rows.laid_vellum_api_ErrJson), ("vellum/api.ErrNest", Rows.laid_vellum_api_ErrNest), ("vellum/api.ErrNumber", Rows.laid_vellum_api_ErrNumber), ("vellum/api.ErrKind", Rows.laid_vellum_api_ErrKind), ("vellum/api.ErrKey", Rows.laid_vellum_api_ErrKey), ("vellum/api.ErrNull", Rows.laid_vellum_api_ErrNull), ("vellum/api.ErrAttrs", Rows.laid_vellum_api_ErrAttrs), ("vellum/api.ErrOp", Rows.laid_vellum_api_ErrOp), ("vellum/api.ErrLimit", Rows.laid_vellum_api_ErrLimit), ("vellum/api.ErrLong", Rows.laid_vellum_api_ErrLong), ("vellum/api.ErrRange", Rows.laid_vellum_api_ErrRange), ("vellum/api.ErrSchema", Rows.laid_vellum_api_ErrSchema), ("vellum/api.ErrEnd", Rows.laid_vellum_api_ErrEnd), ("vellum/api.ErrEmpty", Rows.laid_vellum_api_ErrEmpty), ("vellum/api.ErrMark", Rows.laid_vellum_api_ErrMark), ("vellum/api.ErrReplica", Rows.laid_vellum_api_ErrReplica), ("vellum/api.ErrBytes", Rows.laid_vellum_api_ErrBytes), ("vellum/api.ErrCommand", Rows.laid_vellum_api_ErrCommand)] [.data, .sentinel, .sentinel, .sentinel, .sentinel, .sentinel, .sentinel, .sentinel, .sentinel, .sentinel, .sentinel, .sentinel, .sentinel, .sentinel, .sentinel, .sentinel, .sentinel, .sentinel, .sentinel, .sentinel] true :=
  Program.laidByTextLater_by_one 380 8 33 (by kernel_rfl) (by kernel_rfl) (by kernel_rfl) (by kernel_rfl) (by kernel_rfl) (by kernel_rfl) (fun _ _ => by kernel_rfl)
theorem pin_laid_unicode_utf8_first : Tryz.pinned.checked.prog.pinnedFits "unicode/utf8.first" = true := by kernel_rfl
theorem noOwnUnsafe : Tryz.pinned.checked.prog.headLifts.contains "ownunsafe" = false := by kernel_rfl
theorem fits1 : Tryz.pinned.checked.prog.listedFits [("unicode/utf8.acceptRanges", Rows.laid_unicode_utf8_acceptRanges), ("vellum/api.ErrUtf8", Rows.laid_vellum_api_ErrUtf8), ("vellum/api.ErrJson", Rows.laid_vellum_api_ErrJson), ("vellum/api.ErrNest", Rows.laid_vellum_api_ErrNest), ("vellum/api.ErrNumber", Rows.laid_vellum_api_ErrNumber), ("vellum/api.ErrKind", Rows.laid_vellum_api_ErrKind), ("vellum/api.ErrKey", Rows.laid_vellum_api_ErrKey), ("vellum/api.ErrNull", Rows.laid_vellum_api_ErrNull), ("vellum/api.ErrAttrs", Rows.laid_vellum_api_ErrAttrs), ("vellum/api.ErrOp", Rows.laid_vellum_api_ErrOp), ("vellum/api.ErrLimit", Rows.laid_vellum_api_ErrLimit), ("vellum/api.ErrLong", Rows.laid_vellum_api_ErrLong), ("vellum/api.ErrRange", Rows.laid_vellum_api_ErrRange), ("vellum/api.ErrSchema", Rows.laid_vellum_api_ErrSchema), ("vellum/api.ErrEnd", Rows.laid_vellum_api_ErrEnd), ("vellum/api.ErrEmpty", Rows.laid_vellum_api_ErrEmpty), ("vellum/api.ErrMark", Rows.laid_vellum_api_ErrMark), ("vellum/api.ErrReplica", Rows.laid_vellum_api_ErrReplica), ("vellum/api.ErrBytes", Rows.laid_vellum_api_ErrBytes), ("vellum/api.ErrCommand", Rows.laid_vellum_api_ErrCommand), ("unicode/utf8.first", Rows.laid_unicode_utf8_first)] = true := by
  unfold Program.listedFits
  rw [noOwnUnsafe]
  kernel_rfl
theorem tie : Tryz.prog.laidByTextLater [("unicode/utf8.acceptRanges", Rows.laid_unicode_utf8_acceptRanges), ("vellum/api.ErrUtf8", Rows.laid_vellum_api_ErrUtf8), ("vellum/api.ErrJson", Rows.laid_vellum_api_ErrJson), ("vellum/api.ErrNest", Rows.laid_vellum_api_ErrNest), ("vellum/api.ErrNumber", Rows.laid_vellum_api_ErrNumber), ("vellum/api.ErrKind", Rows.laid_vellum_api_ErrKind), ("vellum/api.ErrKey", Rows.laid_vellum_api_ErrKey), ("vellum/api.ErrNull", Rows.laid_vellum_api_ErrNull), ("vellum/api.ErrAttrs", Rows.laid_vellum_api_ErrAttrs), ("vellum/api.ErrOp", Rows.laid_vellum_api_ErrOp), ("vellum/api.ErrLimit", Rows.laid_vellum_api_ErrLimit), ("vellum/api.ErrLong", Rows.laid_vellum_api_ErrLong), ("vellum/api.ErrRange", Rows.laid_vellum_api_ErrRange), ("vellum/api.ErrSchema", Rows.laid_vellum_api_ErrSchema), ("vellum/api.ErrEnd", Rows.laid_vellum_api_ErrEnd), ("vellum/api.ErrEmpty", Rows.laid_vellum_api_ErrEmpty), ("vellum/api.ErrMark", Rows.laid_vellum_api_ErrMark), ("vellum/api.ErrReplica", Rows.laid_vellum_api_ErrReplica), ("vellum/api.ErrBytes", Rows.laid_vellum_api_ErrBytes), ("vellum/api.ErrCommand", Rows.laid_vellum_api_ErrCommand)] [.data, .sentinel, .sentinel, .sentinel, .sentinel, .sentinel, .sentinel, .sentinel, .sentinel, .sentinel, .sentinel, .sentinel, .sentinel, .sentinel, .sentinel, .sentinel, .sentinel, .sentinel, .sentinel, .sentinel] true :=
  Program.laidByTextLater.sub seatTie1 ["unicode/utf8.acceptRanges", "vellum/api.ErrUtf8", "vellum/api.ErrJson", "vellum/api.ErrNest", "vellum/api.ErrNumber", "vellum/api.ErrKind", "vellum/api.ErrKey", "vellum/api.ErrNull", "vellum/api.ErrAttrs", "vellum/api.ErrOp", "vellum/api.ErrLimit", "vellum/api.ErrLong", "vellum/api.ErrRange", "vellum/api.ErrSchema", "vellum/api.ErrEnd", "vellum/api.ErrEmpty", "vellum/api.ErrMark", "vellum/api.ErrReplica", "vellum/api.ErrBytes", "vellum/api.ErrCommand"] (by kernel_rfl) (by kernel_rfl)
theorem marksPlays_row_tie : Rows.marksPlaysRow.laidByTextAt .later Tryz.pinned [.data, .sentinel, .sentinel, .sentinel, .sentinel, .sentinel, .sentinel, .sentinel, .sentinel, .sentinel, .sentinel, .sentinel, .sentinel, .sentinel, .sentinel, .sentinel, .sentinel, .sentinel, .sentinel, .sentinel, .pinned] true :=
  OpenClaim.laidByTextAt_pinned rfl rfl tie rfl rfl rfl rfl (fun y hy _e => by
    simp only [Rows.marksPlaysRow, List.zip_cons_cons, List.zip_nil_right, List.mem_cons, List.mem_nil_iff, or_false] at hy
    rcases hy with rfl | rfl | rfl | rfl | rfl | rfl | rfl | rfl | rfl | rfl | rfl | rfl | rfl | rfl | rfl | rfl | rfl | rfl | rfl | rfl | rfl
    · cases _e
    · cases _e
    · cases _e
    · cases _e
    · cases _e
    · cases _e
    · cases _e
    · cases _e
    · cases _e
    · cases _e
    · cases _e
    · cases _e
    · cases _e
    · cases _e
    · cases _e
    · cases _e
    · cases _e
    · cases _e
    · cases _e
    · cases _e
    · exact ⟨pin_laid_unicode_utf8_first, by kernel_rfl⟩) fits1
theorem marksAlone_row_tie : Rows.marksAloneRow.laidByTextAt .later Tryz.pinned [.data, .sentinel, .sentinel, .sentinel, .sentinel, .sentinel, .sentinel, .sentinel, .sentinel, .sentinel, .sentinel, .sentinel, .sentinel, .sentinel, .sentinel, .sentinel, .sentinel, .sentinel, .sentinel, .sentinel, .pinned] true :=
  OpenClaim.laidByTextAt_pinned rfl rfl tie rfl rfl rfl rfl (fun y hy _e => by
    simp only [Rows.marksAloneRow, List.zip_cons_cons, List.zip_nil_right, List.mem_cons, List.mem_nil_iff, or_false] at hy
    rcases hy with rfl | rfl | rfl | rfl | rfl | rfl | rfl | rfl | rfl | rfl | rfl | rfl | rfl | rfl | rfl | rfl | rfl | rfl | rfl | rfl | rfl
    · cases _e
    · cases _e
    · cases _e
    · cases _e
    · cases _e
    · cases _e
    · cases _e
    · cases _e
    · cases _e
    · cases _e
    · cases _e
    · cases _e
    · cases _e
    · cases _e
    · cases _e
    · cases _e
    · cases _e
    · cases _e
    · cases _e
    · cases _e
    · exact ⟨pin_laid_unicode_utf8_first, by kernel_rfl⟩) fits1
theorem marksMemory_row_tie : Rows.marksMemoryRow.laidByTextAt .later Tryz.pinned [.data, .sentinel, .sentinel, .sentinel, .sentinel, .sentinel, .sentinel, .sentinel, .sentinel, .sentinel, .sentinel, .sentinel, .sentinel, .sentinel, .sentinel, .sentinel, .sentinel, .sentinel, .sentinel, .sentinel, .pinned] true :=
  OpenClaim.laidByTextAt_pinned rfl rfl tie rfl rfl rfl rfl (fun y hy _e => by
    simp only [Rows.marksMemoryRow, List.zip_cons_cons, List.zip_nil_right, List.mem_cons, List.mem_nil_iff, or_false] at hy
    rcases hy with rfl | rfl | rfl | rfl | rfl | rfl | rfl | rfl | rfl | rfl | rfl | rfl | rfl | rfl | rfl | rfl | rfl | rfl | rfl | rfl | rfl
    · cases _e
    · cases _e
    · cases _e
    · cases _e
    · cases _e
    · cases _e
    · cases _e
    · cases _e
    · cases _e
    · cases _e
    · cases _e
    · cases _e
    · cases _e
    · cases _e
    · cases _e
    · cases _e
    · cases _e
    · cases _e
    · cases _e
    · cases _e
    · exact ⟨pin_laid_unicode_utf8_first, by kernel_rfl⟩) fits1
theorem fits2 : Tryz.pinned.checked.prog.listedFits [("unicode/utf8.acceptRanges", Rows.laid_unicode_utf8_acceptRanges), ("vellum/api.ErrUtf8", Rows.laid_vellum_api_ErrUtf8), ("vellum/api.ErrKind", Rows.laid_vellum_api_ErrKind), ("vellum/api.ErrKey", Rows.laid_vellum_api_ErrKey), ("vellum/api.ErrNull", Rows.laid_vellum_api_ErrNull), ("vellum/api.ErrAttrs", Rows.laid_vellum_api_ErrAttrs), ("vellum/api.ErrOp", Rows.laid_vellum_api_ErrOp), ("vellum/api.ErrLimit", Rows.laid_vellum_api_ErrLimit), ("vellum/api.ErrLong", Rows.laid_vellum_api_ErrLong), ("vellum/api.ErrRange", Rows.laid_vellum_api_ErrRange), ("vellum/api.ErrMark", Rows.laid_vellum_api_ErrMark), ("unicode/utf8.first", Rows.laid_unicode_utf8_first)] = true := by
  unfold Program.listedFits
  rw [noOwnUnsafe]
  kernel_rfl
theorem tie2 : Tryz.prog.laidByTextLater [("unicode/utf8.acceptRanges", Rows.laid_unicode_utf8_acceptRanges), ("vellum/api.ErrUtf8", Rows.laid_vellum_api_ErrUtf8), ("vellum/api.ErrKind", Rows.laid_vellum_api_ErrKind), ("vellum/api.ErrKey", Rows.laid_vellum_api_ErrKey), ("vellum/api.ErrNull", Rows.laid_vellum_api_ErrNull), ("vellum/api.ErrAttrs", Rows.laid_vellum_api_ErrAttrs), ("vellum/api.ErrOp", Rows.laid_vellum_api_ErrOp), ("vellum/api.ErrLimit", Rows.laid_vellum_api_ErrLimit), ("vellum/api.ErrLong", Rows.laid_vellum_api_ErrLong), ("vellum/api.ErrRange", Rows.laid_vellum_api_ErrRange), ("vellum/api.ErrMark", Rows.laid_vellum_api_ErrMark)] [.data, .sentinel, .sentinel, .sentinel, .sentinel, .sentinel, .sentinel, .sentinel, .sentinel, .sentinel, .sentinel] true :=
  Program.laidByTextLater.sub seatTie1 ["unicode/utf8.acceptRanges", "vellum/api.ErrUtf8", "vellum/api.ErrKind", "vellum/api.ErrKey", "vellum/api.ErrNull", "vellum/api.ErrAttrs", "vellum/api.ErrOp", "vellum/api.ErrLimit", "vellum/api.ErrLong", "vellum/api.ErrRange", "vellum/api.ErrMark"] (by kernel_rfl) (by kernel_rfl)
theorem marksNeighbours_row_tie : Rows.marksNeighboursRow.laidByTextAt .later Tryz.pinned [.data, .sentinel, .sentinel, .sentinel, .sentinel, .sentinel, .sentinel, .sentinel, .sentinel, .sentinel, .sentinel, .pinned] true :=
  OpenClaim.laidByTextAt_pinned rfl rfl tie2 rfl rfl rfl rfl (fun y hy _e => by
    simp only [Rows.marksNeighboursRow, List.zip_cons_cons, List.zip_nil_right, List.mem_cons, List.mem_nil_iff, or_false] at hy
    rcases hy with rfl | rfl | rfl | rfl | rfl | rfl | rfl | rfl | rfl | rfl | rfl | rfl
    · cases _e
    · cases _e
    · cases _e
    · cases _e
    · cases _e
    · cases _e
    · cases _e
    · cases _e
    · cases _e
    · cases _e
    · cases _e
    · exact ⟨pin_laid_unicode_utf8_first, by kernel_rfl⟩) fits2
theorem marksPlaysUpto_row_tie : Rows.marksPlaysUptoRow.laidByTextAt .later Tryz.pinned [.data, .sentinel, .sentinel, .sentinel, .sentinel, .sentinel, .sentinel, .sentinel, .sentinel, .sentinel, .sentinel, .sentinel, .sentinel, .sentinel, .sentinel, .sentinel, .sentinel, .sentinel, .sentinel, .sentinel, .pinned] true :=
  OpenClaim.laidByTextAt_pinned rfl rfl tie rfl rfl rfl rfl (fun y hy _e => by
    simp only [Rows.marksPlaysUptoRow, List.zip_cons_cons, List.zip_nil_right, List.mem_cons, List.mem_nil_iff, or_false] at hy
    rcases hy with rfl | rfl | rfl | rfl | rfl | rfl | rfl | rfl | rfl | rfl | rfl | rfl | rfl | rfl | rfl | rfl | rfl | rfl | rfl | rfl | rfl
    · cases _e
    · cases _e
    · cases _e
    · cases _e
    · cases _e
    · cases _e
    · cases _e
    · cases _e
    · cases _e
    · cases _e
    · cases _e
    · cases _e
    · cases _e
    · cases _e
    · cases _e
    · cases _e
    · cases _e
    · cases _e
    · cases _e
    · cases _e
    · exact ⟨pin_laid_unicode_utf8_first, by kernel_rfl⟩) fits1
theorem marksNeighboursUpto_row_tie : Rows.marksNeighboursUptoRow.laidByTextAt .later Tryz.pinned [.data, .sentinel, .sentinel, .sentinel, .sentinel, .sentinel, .sentinel, .sentinel, .sentinel, .sentinel, .sentinel, .pinned] true :=
  OpenClaim.laidByTextAt_pinned rfl rfl tie2 rfl rfl rfl rfl (fun y hy _e => by
    simp only [Rows.marksNeighboursUptoRow, List.zip_cons_cons, List.zip_nil_right, List.mem_cons, List.mem_nil_iff, or_false] at hy
    rcases hy with rfl | rfl | rfl | rfl | rfl | rfl | rfl | rfl | rfl | rfl | rfl | rfl
    · cases _e
    · cases _e
    · cases _e
    · cases _e
    · cases _e
    · cases _e
    · cases _e
    · cases _e
    · cases _e
    · cases _e
    · cases _e
    · exact ⟨pin_laid_unicode_utf8_first, by kernel_rfl⟩) fits2
theorem marksAloneUpto_row_tie : Rows.marksAloneUptoRow.laidByTextAt .later Tryz.pinned [.data, .sentinel, .sentinel, .sentinel, .sentinel, .sentinel, .sentinel, .sentinel, .sentinel, .sentinel, .sentinel, .sentinel, .sentinel, .sentinel, .sentinel, .sentinel, .sentinel, .sentinel, .sentinel, .sentinel, .pinned] true :=
  OpenClaim.laidByTextAt_pinned rfl rfl tie rfl rfl rfl rfl (fun y hy _e => by
    simp only [Rows.marksAloneUptoRow, List.zip_cons_cons, List.zip_nil_right, List.mem_cons, List.mem_nil_iff, or_false] at hy
    rcases hy with rfl | rfl | rfl | rfl | rfl | rfl | rfl | rfl | rfl | rfl | rfl | rfl | rfl | rfl | rfl | rfl | rfl | rfl | rfl | rfl | rfl
    · cases _e
    · cases _e
    · cases _e
    · cases _e
    · cases _e
    · cases _e
    · cases _e
    · cases _e
    · cases _e
    · cases _e
    · cases _e
    · cases _e
    · cases _e
    · cases _e
    · cases _e
    · cases _e
    · cases _e
    · cases _e
    · cases _e
    · cases _e
    · exact ⟨pin_laid_unicode_utf8_first, by kernel_rfl⟩) fits1
theorem marksMemoryUpto_row_tie : Rows.marksMemoryUptoRow.laidByTextAt .later Tryz.pinned [.data, .sentinel, .sentinel, .sentinel, .sentinel, .sentinel, .sentinel, .sentinel, .sentinel, .sentinel, .sentinel, .sentinel, .sentinel, .sentinel, .sentinel, .sentinel, .sentinel, .sentinel, .sentinel, .sentinel, .pinned] true :=
  OpenClaim.laidByTextAt_pinned rfl rfl tie rfl rfl rfl rfl (fun y hy _e => by
    simp only [Rows.marksMemoryUptoRow, List.zip_cons_cons, List.zip_nil_right, List.mem_cons, List.mem_nil_iff, or_false] at hy
    rcases hy with rfl | rfl | rfl | rfl | rfl | rfl | rfl | rfl | rfl | rfl | rfl | rfl | rfl | rfl | rfl | rfl | rfl | rfl | rfl | rfl | rfl
    · cases _e
    · cases _e
    · cases _e
    · cases _e
    · cases _e
    · cases _e
    · cases _e
    · cases _e
    · cases _e
    · cases _e
    · cases _e
    · cases _e
    · cases _e
    · cases _e
    · cases _e
    · cases _e
    · cases _e
    · cases _e
    · cases _e
    · cases _e
    · exact ⟨pin_laid_unicode_utf8_first, by kernel_rfl⟩) fits1
end Go.Proofs.YtlnnjfdonilgmaaGreatDoor

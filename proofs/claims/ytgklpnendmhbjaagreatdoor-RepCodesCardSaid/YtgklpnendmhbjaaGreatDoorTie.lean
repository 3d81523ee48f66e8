/-
  DERIVED. GIVEN WITH THE SEED: THE PROGRAM's TIES (one call each: nine closed facts by the kernel) AND EACH ROW's TIE, after the 31st guide's Derived/Test/Toyas{Tie, Card}.lean. No idea stands in it: it is a product of the set-up. Laid BY PROGRAM, IN A SANDBOX (cutbox-door.mjs). By AI agents, Wed Nov 11 2026. No macro, syntax, notation, axiom, sorry.
-/
import Derived.Test.YtgklpnendmhbjaaGreatDoorRows
import Derived.LaidByTextLater
import Derived.SevenTiedAt
import Derived.LaidSub
import Derived.LaidOnce
namespace Go.Proofs.YtgklpnendmhbjaaGreatDoor
open Go
set_option maxRecDepth 100000
theorem seatTie1 : Tryz.prog.laidByTextLater [("unicode/utf8.acceptRanges", Rows.laid_unicode_utf8_acceptRanges), ("errors.errorType", Rows.laid_errors_errorType), ("latiner/prim.errNumber", Rows.laid_latiner_prim_errNumber), ("latiner/prim.errBool", Rows.laid_latiner_prim_errBool), ("latiner/size.errShort", Rows.laid_latiner_size_errShort), ("latiner/size.errForm", Rows.laid_latiner_size_errForm), ("latiner/size.errSize", Rows.laid_latiner_size_errSize), ("latiner/code.errCode", Rows.laid_latiner_code_errCode), ("latiner/tlv.errShort", Rows.laid_latiner_tlv_errShort), ("latiner/tlv.errForm", Rows.laid_latiner_tlv_errForm), ("latiner/tlv.errTag", Rows.laid_latiner_tlv_errTag), ("latiner/tlv.errNode", Rows.laid_latiner_tlv_errNode), ("latiner/esc.errEscape", Rows.laid_latiner_esc_errEscape), ("latiner/dn.errDn", Rows.laid_latiner_dn_errDn), ("latiner/fber.errFilter", Rows.laid_latiner_fber_errFilter), ("latiner/part.errPart", Rows.laid_latiner_part_errPart), ("latiner/rep.errRep", Rows.laid_latiner_rep_errRep), ("latiner/req.errReq", Rows.laid_latiner_req_errReq)] [.data, .handle, .sentinel, .sentinel, .sentinel, .sentinel, .sentinel, .sentinel, .sentinel, .sentinel, .sentinel, .sentinel, .sentinel, .sentinel, .sentinel, .sentinel, .sentinel, .sentinel] true :=
  Program.laidByTextLater_by_one 349 8 33 (by kernel_rfl) (by kernel_rfl) (by kernel_rfl) (by kernel_rfl) (by kernel_rfl) (by kernel_rfl) (fun _ _ => by kernel_rfl)
theorem pin_laid_unicode_utf8_first : Tryz.pinned.checked.prog.pinnedFits "unicode/utf8.first" = true := by kernel_rfl
theorem noOwnUnsafe : Tryz.pinned.checked.prog.headLifts.contains "ownunsafe" = false := by kernel_rfl
theorem fits1 : Tryz.pinned.checked.prog.listedFits [("unicode/utf8.acceptRanges", Rows.laid_unicode_utf8_acceptRanges), ("errors.errorType", Rows.laid_errors_errorType), ("latiner/prim.errNumber", Rows.laid_latiner_prim_errNumber), ("latiner/prim.errBool", Rows.laid_latiner_prim_errBool), ("latiner/size.errShort", Rows.laid_latiner_size_errShort), ("latiner/size.errForm", Rows.laid_latiner_size_errForm), ("latiner/size.errSize", Rows.laid_latiner_size_errSize), ("latiner/code.errCode", Rows.laid_latiner_code_errCode), ("latiner/tlv.errShort", Rows.laid_latiner_tlv_errShort), ("latiner/tlv.errForm", Rows.laid_latiner_tlv_errForm), ("latiner/tlv.errTag", Rows.laid_latiner_tlv_errTag), ("latiner/tlv.errNode", Rows.laid_latiner_tlv_errNode), ("latiner/esc.errEscape", Rows.laid_latiner_esc_errEscape), ("latiner/dn.errDn", Rows.laid_latiner_dn_errDn), ("latiner/part.errPart", Rows.laid_latiner_part_errPart), ("latiner/rep.errRep", Rows.laid_latiner_rep_errRep), ("unicode/utf8.first", Rows.laid_unicode_utf8_first)] = true := by
  unfold Program.listedFits
  rw [noOwnUnsafe]
  kernel_rfl
theorem tie : Tryz.prog.laidByTextLater [("unicode/utf8.acceptRanges", Rows.laid_unicode_utf8_acceptRanges), ("errors.errorType", Rows.laid_errors_errorType), ("latiner/prim.errNumber", Rows.laid_latiner_prim_errNumber), ("latiner/prim.errBool", Rows.laid_latiner_prim_errBool), ("latiner/size.errShort", Rows.laid_latiner_size_errShort), ("latiner/size.errForm", Rows.laid_latiner_size_errForm), ("latiner/size.errSize", Rows.laid_latiner_size_errSize), ("latiner/code.errCode", Rows.laid_latiner_code_errCode), ("latiner/tlv.errShort", Rows.laid_latiner_tlv_errShort), ("latiner/tlv.errForm", Rows.laid_latiner_tlv_errForm), ("latiner/tlv.errTag", Rows.laid_latiner_tlv_errTag), ("latiner/tlv.errNode", Rows.laid_latiner_tlv_errNode), ("latiner/esc.errEscape", Rows.laid_latiner_esc_errEscape), ("latiner/dn.errDn", Rows.laid_latiner_dn_errDn), ("latiner/part.errPart", Rows.laid_latiner_part_errPart), ("latiner/rep.errRep", Rows.laid_latiner_rep_errRep)] [.data, .handle, .sentinel, .sentinel, .sentinel, .sentinel, .sentinel, .sentinel, .sentinel, .sentinel, .sentinel, .sentinel, .sentinel, .sentinel, .sentinel, .sentinel] true :=
  Program.laidByTextLater.sub seatTie1 ["unicode/utf8.acceptRanges", "errors.errorType", "latiner/prim.errNumber", "latiner/prim.errBool", "latiner/size.errShort", "latiner/size.errForm", "latiner/size.errSize", "latiner/code.errCode", "latiner/tlv.errShort", "latiner/tlv.errForm", "latiner/tlv.errTag", "latiner/tlv.errNode", "latiner/esc.errEscape", "latiner/dn.errDn", "latiner/part.errPart", "latiner/rep.errRep"] (by kernel_rfl) (by kernel_rfl)
theorem repApart_row_tie : Rows.repApartRow.laidByTextAt .later Tryz.pinned [.data, .handle, .sentinel, .sentinel, .sentinel, .sentinel, .sentinel, .sentinel, .sentinel, .sentinel, .sentinel, .sentinel, .sentinel, .sentinel, .sentinel, .sentinel, .pinned] true :=
  OpenClaim.laidByTextAt_pinned rfl rfl tie rfl rfl rfl rfl (fun y hy _e => by
    simp only [Rows.repApartRow, List.zip_cons_cons, List.zip_nil_right, List.mem_cons, List.mem_nil_iff, or_false] at hy
    rcases hy with rfl | rfl | rfl | rfl | rfl | rfl | rfl | rfl | rfl | rfl | rfl | rfl | rfl | rfl | rfl | rfl | rfl
    · cases _e
    · cases _e
    · cases _e
    · cases _e
    · cases _e
    · cases _e
    · cases _e
    · cases _e
    · cases _e
    · cases _e
    · cases _e
    · cases _e
    · cases _e
    · cases _e
    · cases _e
    · cases _e
    · exact ⟨pin_laid_unicode_utf8_first, by kernel_rfl⟩) fits1
theorem repCodes_row_tie : Rows.repCodesRow.laidByTextAt .later Tryz.pinned [.data, .handle, .sentinel, .sentinel, .sentinel, .sentinel, .sentinel, .sentinel, .sentinel, .sentinel, .sentinel, .sentinel, .sentinel, .sentinel, .sentinel, .sentinel, .pinned] true :=
  OpenClaim.laidByTextAt_pinned rfl rfl tie rfl rfl rfl rfl (fun y hy _e => by
    simp only [Rows.repCodesRow, List.zip_cons_cons, List.zip_nil_right, List.mem_cons, List.mem_nil_iff, or_false] at hy
    rcases hy with rfl | rfl | rfl | rfl | rfl | rfl | rfl | rfl | rfl | rfl | rfl | rfl | rfl | rfl | rfl | rfl | rfl
    · cases _e
    · cases _e
    · cases _e
    · cases _e
    · cases _e
    · cases _e
    · cases _e
    · cases _e
    · cases _e
    · cases _e
    · cases _e
    · cases _e
    · cases _e
    · cases _e
    · cases _e
    · cases _e
    · exact ⟨pin_laid_unicode_utf8_first, by kernel_rfl⟩) fits1
theorem repTrees_row_tie : Rows.repTreesRow.laidByTextAt .later Tryz.pinned [.data, .handle, .sentinel, .sentinel, .sentinel, .sentinel, .sentinel, .sentinel, .sentinel, .sentinel, .sentinel, .sentinel, .sentinel, .sentinel, .sentinel, .sentinel, .pinned] true :=
  OpenClaim.laidByTextAt_pinned rfl rfl tie rfl rfl rfl rfl (fun y hy _e => by
    simp only [Rows.repTreesRow, List.zip_cons_cons, List.zip_nil_right, List.mem_cons, List.mem_nil_iff, or_false] at hy
    rcases hy with rfl | rfl | rfl | rfl | rfl | rfl | rfl | rfl | rfl | rfl | rfl | rfl | rfl | rfl | rfl | rfl | rfl
    · cases _e
    · cases _e
    · cases _e
    · cases _e
    · cases _e
    · cases _e
    · cases _e
    · cases _e
    · cases _e
    · cases _e
    · cases _e
    · cases _e
    · cases _e
    · cases _e
    · cases _e
    · cases _e
    · exact ⟨pin_laid_unicode_utf8_first, by kernel_rfl⟩) fits1
theorem repBack_row_tie : Rows.repBackRow.laidByTextAt .later Tryz.pinned [.data, .handle, .sentinel, .sentinel, .sentinel, .sentinel, .sentinel, .sentinel, .sentinel, .sentinel, .sentinel, .sentinel, .sentinel, .sentinel, .sentinel, .sentinel, .pinned] true :=
  OpenClaim.laidByTextAt_pinned rfl rfl tie rfl rfl rfl rfl (fun y hy _e => by
    simp only [Rows.repBackRow, List.zip_cons_cons, List.zip_nil_right, List.mem_cons, List.mem_nil_iff, or_false] at hy
    rcases hy with rfl | rfl | rfl | rfl | rfl | rfl | rfl | rfl | rfl | rfl | rfl | rfl | rfl | rfl | rfl | rfl | rfl
    · cases _e
    · cases _e
    · cases _e
    · cases _e
    · cases _e
    · cases _e
    · cases _e
    · cases _e
    · cases _e
    · cases _e
    · cases _e
    · cases _e
    · cases _e
    · cases _e
    · cases _e
    · cases _e
    · exact ⟨pin_laid_unicode_utf8_first, by kernel_rfl⟩) fits1
theorem repAnswers_row_tie : Rows.repAnswersRow.laidByTextAt .later Tryz.pinned [.data, .handle, .sentinel, .sentinel, .sentinel, .sentinel, .sentinel, .sentinel, .sentinel, .sentinel, .sentinel, .sentinel, .sentinel, .sentinel, .sentinel, .sentinel, .pinned] true :=
  OpenClaim.laidByTextAt_pinned rfl rfl tie rfl rfl rfl rfl (fun y hy _e => by
    simp only [Rows.repAnswersRow, List.zip_cons_cons, List.zip_nil_right, List.mem_cons, List.mem_nil_iff, or_false] at hy
    rcases hy with rfl | rfl | rfl | rfl | rfl | rfl | rfl | rfl | rfl | rfl | rfl | rfl | rfl | rfl | rfl | rfl | rfl
    · cases _e
    · cases _e
    · cases _e
    · cases _e
    · cases _e
    · cases _e
    · cases _e
    · cases _e
    · cases _e
    · cases _e
    · cases _e
    · cases _e
    · cases _e
    · cases _e
    · cases _e
    · cases _e
    · exact ⟨pin_laid_unicode_utf8_first, by kernel_rfl⟩) fits1
theorem fits2 : Tryz.pinned.checked.prog.listedFits [("unicode/utf8.acceptRanges", Rows.laid_unicode_utf8_acceptRanges), ("errors.errorType", Rows.laid_errors_errorType), ("latiner/prim.errNumber", Rows.laid_latiner_prim_errNumber), ("latiner/prim.errBool", Rows.laid_latiner_prim_errBool), ("latiner/size.errShort", Rows.laid_latiner_size_errShort), ("latiner/size.errForm", Rows.laid_latiner_size_errForm), ("latiner/size.errSize", Rows.laid_latiner_size_errSize), ("latiner/code.errCode", Rows.laid_latiner_code_errCode), ("latiner/tlv.errShort", Rows.laid_latiner_tlv_errShort), ("latiner/tlv.errForm", Rows.laid_latiner_tlv_errForm), ("latiner/tlv.errTag", Rows.laid_latiner_tlv_errTag), ("latiner/tlv.errNode", Rows.laid_latiner_tlv_errNode), ("latiner/esc.errEscape", Rows.laid_latiner_esc_errEscape), ("latiner/dn.errDn", Rows.laid_latiner_dn_errDn), ("latiner/fber.errFilter", Rows.laid_latiner_fber_errFilter), ("latiner/part.errPart", Rows.laid_latiner_part_errPart), ("latiner/rep.errRep", Rows.laid_latiner_rep_errRep), ("latiner/req.errReq", Rows.laid_latiner_req_errReq), ("unicode/utf8.first", Rows.laid_unicode_utf8_first)] = true := by
  unfold Program.listedFits
  rw [noOwnUnsafe]
  kernel_rfl
theorem tie2 : Tryz.prog.laidByTextLater [("unicode/utf8.acceptRanges", Rows.laid_unicode_utf8_acceptRanges), ("errors.errorType", Rows.laid_errors_errorType), ("latiner/prim.errNumber", Rows.laid_latiner_prim_errNumber), ("latiner/prim.errBool", Rows.laid_latiner_prim_errBool), ("latiner/size.errShort", Rows.laid_latiner_size_errShort), ("latiner/size.errForm", Rows.laid_latiner_size_errForm), ("latiner/size.errSize", Rows.laid_latiner_size_errSize), ("latiner/code.errCode", Rows.laid_latiner_code_errCode), ("latiner/tlv.errShort", Rows.laid_latiner_tlv_errShort), ("latiner/tlv.errForm", Rows.laid_latiner_tlv_errForm), ("latiner/tlv.errTag", Rows.laid_latiner_tlv_errTag), ("latiner/tlv.errNode", Rows.laid_latiner_tlv_errNode), ("latiner/esc.errEscape", Rows.laid_latiner_esc_errEscape), ("latiner/dn.errDn", Rows.laid_latiner_dn_errDn), ("latiner/fber.errFilter", Rows.laid_latiner_fber_errFilter), ("latiner/part.errPart", Rows.laid_latiner_part_errPart), ("latiner/rep.errRep", Rows.laid_latiner_rep_errRep), ("latiner/req.errReq", Rows.laid_latiner_req_errReq)] [.data, .handle, .sentinel, .sentinel, .sentinel, .sentinel, .sentinel, .sentinel, .sentinel, .sentinel, .sentinel, .sentinel, .sentinel, .sentinel, .sentinel, .sentinel, .sentinel, .sentinel] true :=
  Program.laidByTextLater.sub seatTie1 ["unicode/utf8.acceptRanges", "errors.errorType", "latiner/prim.errNumber", "latiner/prim.errBool", "latiner/size.errShort", "latiner/size.errForm", "latiner/size.errSize", "latiner/code.errCode", "latiner/tlv.errShort", "latiner/tlv.errForm", "latiner/tlv.errTag", "latiner/tlv.errNode", "latiner/esc.errEscape", "latiner/dn.errDn", "latiner/fber.errFilter", "latiner/part.errPart", "latiner/rep.errRep", "latiner/req.errReq"] (by kernel_rfl) (by kernel_rfl)
theorem repReads_row_tie : Rows.repReadsRow.laidByTextAt .later Tryz.pinned [.data, .handle, .sentinel, .sentinel, .sentinel, .sentinel, .sentinel, .sentinel, .sentinel, .sentinel, .sentinel, .sentinel, .sentinel, .sentinel, .sentinel, .sentinel, .sentinel, .sentinel, .pinned] true :=
  OpenClaim.laidByTextAt_pinned rfl rfl tie2 rfl rfl rfl rfl (fun y hy _e => by
    simp only [Rows.repReadsRow, List.zip_cons_cons, List.zip_nil_right, List.mem_cons, List.mem_nil_iff, or_false] at hy
    rcases hy with rfl | rfl | rfl | rfl | rfl | rfl | rfl | rfl | rfl | rfl | rfl | rfl | rfl | rfl | rfl | rfl | rfl | rfl | rfl
    · cases _e
    · cases _e
    · cases _e
    · cases _e
    · cases _e
    · cases _e
    · cases _e
    · cases _e
    · cases _e
    · cases _e
    · cases _e
    · cases _e
    · cases _e
    · cases _e
    · cases _e
    · cases _e
    · cases _e
    · cases _e
    · exact ⟨pin_laid_unicode_utf8_first, by kernel_rfl⟩) fits2
theorem repApartUpto_row_tie : Rows.repApartUptoRow.laidByTextAt .later Tryz.pinned [.data, .handle, .sentinel, .sentinel, .sentinel, .sentinel, .sentinel, .sentinel, .sentinel, .sentinel, .sentinel, .sentinel, .sentinel, .sentinel, .sentinel, .sentinel, .pinned] true :=
  OpenClaim.laidByTextAt_pinned rfl rfl tie rfl rfl rfl rfl (fun y hy _e => by
    simp only [Rows.repApartUptoRow, List.zip_cons_cons, List.zip_nil_right, List.mem_cons, List.mem_nil_iff, or_false] at hy
    rcases hy with rfl | rfl | rfl | rfl | rfl | rfl | rfl | rfl | rfl | rfl | rfl | rfl | rfl | rfl | rfl | rfl | rfl
    · cases _e
    · cases _e
    · cases _e
    · cases _e
    · cases _e
    · cases _e
    · cases _e
    · cases _e
    · cases _e
    · cases _e
    · cases _e
    · cases _e
    · cases _e
    · cases _e
    · cases _e
    · cases _e
    · exact ⟨pin_laid_unicode_utf8_first, by kernel_rfl⟩) fits1
theorem repCodesUpto_row_tie : Rows.repCodesUptoRow.laidByTextAt .later Tryz.pinned [.data, .handle, .sentinel, .sentinel, .sentinel, .sentinel, .sentinel, .sentinel, .sentinel, .sentinel, .sentinel, .sentinel, .sentinel, .sentinel, .sentinel, .sentinel, .pinned] true :=
  OpenClaim.laidByTextAt_pinned rfl rfl tie rfl rfl rfl rfl (fun y hy _e => by
    simp only [Rows.repCodesUptoRow, List.zip_cons_cons, List.zip_nil_right, List.mem_cons, List.mem_nil_iff, or_false] at hy
    rcases hy with rfl | rfl | rfl | rfl | rfl | rfl | rfl | rfl | rfl | rfl | rfl | rfl | rfl | rfl | rfl | rfl | rfl
    · cases _e
    · cases _e
    · cases _e
    · cases _e
    · cases _e
    · cases _e
    · cases _e
    · cases _e
    · cases _e
    · cases _e
    · cases _e
    · cases _e
    · cases _e
    · cases _e
    · cases _e
    · cases _e
    · exact ⟨pin_laid_unicode_utf8_first, by kernel_rfl⟩) fits1
theorem repTreesUpto_row_tie : Rows.repTreesUptoRow.laidByTextAt .later Tryz.pinned [.data, .handle, .sentinel, .sentinel, .sentinel, .sentinel, .sentinel, .sentinel, .sentinel, .sentinel, .sentinel, .sentinel, .sentinel, .sentinel, .sentinel, .sentinel, .pinned] true :=
  OpenClaim.laidByTextAt_pinned rfl rfl tie rfl rfl rfl rfl (fun y hy _e => by
    simp only [Rows.repTreesUptoRow, List.zip_cons_cons, List.zip_nil_right, List.mem_cons, List.mem_nil_iff, or_false] at hy
    rcases hy with rfl | rfl | rfl | rfl | rfl | rfl | rfl | rfl | rfl | rfl | rfl | rfl | rfl | rfl | rfl | rfl | rfl
    · cases _e
    · cases _e
    · cases _e
    · cases _e
    · cases _e
    · cases _e
    · cases _e
    · cases _e
    · cases _e
    · cases _e
    · cases _e
    · cases _e
    · cases _e
    · cases _e
    · cases _e
    · cases _e
    · exact ⟨pin_laid_unicode_utf8_first, by kernel_rfl⟩) fits1
theorem repBackUpto_row_tie : Rows.repBackUptoRow.laidByTextAt .later Tryz.pinned [.data, .handle, .sentinel, .sentinel, .sentinel, .sentinel, .sentinel, .sentinel, .sentinel, .sentinel, .sentinel, .sentinel, .sentinel, .sentinel, .sentinel, .sentinel, .pinned] true :=
  OpenClaim.laidByTextAt_pinned rfl rfl tie rfl rfl rfl rfl (fun y hy _e => by
    simp only [Rows.repBackUptoRow, List.zip_cons_cons, List.zip_nil_right, List.mem_cons, List.mem_nil_iff, or_false] at hy
    rcases hy with rfl | rfl | rfl | rfl | rfl | rfl | rfl | rfl | rfl | rfl | rfl | rfl | rfl | rfl | rfl | rfl | rfl
    · cases _e
    · cases _e
    · cases _e
    · cases _e
    · cases _e
    · cases _e
    · cases _e
    · cases _e
    · cases _e
    · cases _e
    · cases _e
    · cases _e
    · cases _e
    · cases _e
    · cases _e
    · cases _e
    · exact ⟨pin_laid_unicode_utf8_first, by kernel_rfl⟩) fits1
theorem repAnswersUpto_row_tie : Rows.repAnswersUptoRow.laidByTextAt .later Tryz.pinned [.data, .handle, .sentinel, .sentinel, .sentinel, .sentinel, .sentinel, .sentinel, .sentinel, .sentinel, .sentinel, .sentinel, .sentinel, .sentinel, .sentinel, .sentinel, .pinned] true :=
  OpenClaim.laidByTextAt_pinned rfl rfl tie rfl rfl rfl rfl (fun y hy _e => by
    simp only [Rows.repAnswersUptoRow, List.zip_cons_cons, List.zip_nil_right, List.mem_cons, List.mem_nil_iff, or_false] at hy
    rcases hy with rfl | rfl | rfl | rfl | rfl | rfl | rfl | rfl | rfl | rfl | rfl | rfl | rfl | rfl | rfl | rfl | rfl
    · cases _e
    · cases _e
    · cases _e
    · cases _e
    · cases _e
    · cases _e
    · cases _e
    · cases _e
    · cases _e
    · cases _e
    · cases _e
    · cases _e
    · cases _e
    · cases _e
    · cases _e
    · cases _e
    · exact ⟨pin_laid_unicode_utf8_first, by kernel_rfl⟩) fits1
theorem repReadsUpto_row_tie : Rows.repReadsUptoRow.laidByTextAt .later Tryz.pinned [.data, .handle, .sentinel, .sentinel, .sentinel, .sentinel, .sentinel, .sentinel, .sentinel, .sentinel, .sentinel, .sentinel, .sentinel, .sentinel, .sentinel, .sentinel, .sentinel, .sentinel, .pinned] true :=
  OpenClaim.laidByTextAt_pinned rfl rfl tie2 rfl rfl rfl rfl (fun y hy _e => by
    simp only [Rows.repReadsUptoRow, List.zip_cons_cons, List.zip_nil_right, List.mem_cons, List.mem_nil_iff, or_false] at hy
    rcases hy with rfl | rfl | rfl | rfl | rfl | rfl | rfl | rfl | rfl | rfl | rfl | rfl | rfl | rfl | rfl | rfl | rfl | rfl | rfl
    · cases _e
    · cases _e
    · cases _e
    · cases _e
    · cases _e
    · cases _e
    · cases _e
    · cases _e
    · cases _e
    · cases _e
    · cases _e
    · cases _e
    · cases _e
    · cases _e
    · cases _e
    · cases _e
    · cases _e
    · cases _e
    · exact ⟨pin_laid_unicode_utf8_first, by kernel_rfl⟩) fits2
end Go.Proofs.YtgklpnendmhbjaaGreatDoor

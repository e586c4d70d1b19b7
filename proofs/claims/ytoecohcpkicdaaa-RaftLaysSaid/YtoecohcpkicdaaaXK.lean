/-
  The program's functions are those of the texts: computed.
-/
import Derived.Test.YtoecohcpkicdaaaProg
import Derived.Test.YtoecohcpkicdaaaXC0
import Derived.Test.YtoecohcpkicdaaaXC1
import Derived.Test.YtoecohcpkicdaaaXC2
import Derived.Test.YtoecohcpkicdaaaXC3
import Derived.Test.YtoecohcpkicdaaaXC4
import Derived.Test.YtoecohcpkicdaaaXC5
import Derived.Test.YtoecohcpkicdaaaXG
import Derived.KernelRfl
set_option linter.unusedVariables false
set_option linter.unusedSimpArgs false
set_option linter.unnecessarySimpa false
namespace Go.Proofs.Ytoecohcpkicdaaa
open Go.Ab
def mA (i : Nat) : FuncId := if i = 0 then 0 else i + 2
theorem kc_slices_Clone_byte_byte : chkF Try.prog mA (mA 60) c_slices_Clone_byte_byte = true := by kernel_rfl
theorem kc_slices_Clone_int_int : chkF Try.prog mA (mA 23) c_slices_Clone_int_int = true := by kernel_rfl
theorem kc_entries_own : chkF Try.prog mA (mA 59) c_entries_own = true := by kernel_rfl
theorem kc_entries_Log_First : chkF Try.prog mA (mA 21) c_entries_Log_First = true := by kernel_rfl
theorem kc_entries_Log_Last : chkF Try.prog mA (mA 22) c_entries_Log_Last = true := by kernel_rfl
theorem kc_entries_Log_within : chkF Try.prog mA (mA 76) c_entries_Log_within = true := by kernel_rfl
theorem kc_entries_Log_Term : chkF Try.prog mA (mA 42) c_entries_Log_Term = true := by kernel_rfl
theorem kc_entries_Log_From : chkF Try.prog mA (mA 77) c_entries_Log_From = true := by kernel_rfl
theorem kc_entries_Log_At : chkF Try.prog mA (mA 46) c_entries_Log_At = true := by kernel_rfl
theorem kc_entries_New : chkF Try.prog mA (mA 33) c_entries_New = true := by kernel_rfl
theorem kc_entries_Log_Append : chkF Try.prog mA (mA 73) c_entries_Log_Append = true := by kernel_rfl
theorem kc_entries_Log_Behind : chkF Try.prog mA (mA 49) c_entries_Log_Behind = true := by kernel_rfl
theorem kc_slices_Clone_api_Entry_api_Entry : chkF Try.prog mA (mA 92) c_slices_Clone_api_Entry_api_Entry = true := by kernel_rfl
theorem kc_entries_Log_Base : chkF Try.prog mA (mA 78) c_entries_Log_Base = true := by kernel_rfl
theorem kc_quorum_Check : chkF Try.prog mA (mA 35) c_quorum_Check = true := by kernel_rfl
theorem kc_slices_Index_int_int : chkF Try.prog mA (mA 96) c_slices_Index_int_int = true := by kernel_rfl
theorem kc_slices_Contains_int_int : chkF Try.prog mA (mA 82) c_slices_Contains_int_int = true := by kernel_rfl
theorem kc_quorum_Has : chkF Try.prog mA (mA 61) c_quorum_Has = true := by kernel_rfl
theorem kc_entries_Log_Join : chkF Try.prog mA (mA 81) c_entries_Log_Join = true := by kernel_rfl
theorem kc_entries_Log_Join_c1 : chkF Try.prog mA (mA 95) c_entries_Log_Join_c1 = true := by kernel_rfl
theorem kc_slices_IndexFunc_api_Entry_api_Entry : chkF Try.prog mA (mA 79) c_slices_IndexFunc_api_Entry_api_Entry = true := by kernel_rfl
theorem kc_raft_within : chkF Try.prog mA (mA 32) c_raft_within = true := by kernel_rfl
theorem kc_raft_own : chkF Try.prog mA (mA 34) c_raft_own = true := by kernel_rfl
theorem kc_raft_Raft_Draw : chkF Try.prog mA (mA 36) c_raft_Raft_Draw = true := by kernel_rfl
theorem kc_raft_Raft_membersTo : chkF Try.prog mA (mA 43) c_raft_Raft_membersTo = true := by kernel_rfl
theorem kc_raft_Raft_members : chkF Try.prog mA (mA 24) c_raft_Raft_members = true := by kernel_rfl
theorem kc_raft_Raft_others : chkF Try.prog mA (mA 62) c_raft_Raft_others = true := by kernel_rfl
theorem kc_raft_Raft_says : chkF Try.prog mA (mA 50) c_raft_Raft_says = true := by kernel_rfl
theorem kc_raft_Raft_end : chkF Try.prog mA (mA 83) c_raft_Raft_end = true := by kernel_rfl
theorem kc_raft_Raft_stands : chkF Try.prog mA (mA 55) c_raft_Raft_stands = true := by kernel_rfl
theorem kc_raft_Raft_fallBack : chkF Try.prog mA (mA 51) c_raft_Raft_fallBack = true := by kernel_rfl
theorem kc_raft_Raft_fresh : chkF Try.prog mA (mA 74) c_raft_Raft_fresh = true := by kernel_rfl
theorem kcm_slices_Clone_int_int : chkF Try.prog mA (mA 23) cm_slices_Clone_int_int = true := by kernel_rfl
theorem kc_slices_IndexFunc_int_int : chkF Try.prog mA (mA 85) c_slices_IndexFunc_int_int = true := by kernel_rfl
theorem kcm_slices_DeleteFunc_int_int : chkF Try.prog mA (mA 93) cm_slices_DeleteFunc_int_int = true := by kernel_rfl
theorem kc_quorum_Most : chkF Try.prog mA (mA 80) c_quorum_Most = true := by kernel_rfl
theorem kc_quorum_Most_c1 : chkF Try.prog mA (mA 94) c_quorum_Most_c1 = true := by kernel_rfl
theorem kc_raft_Raft_most : chkF Try.prog mA (mA 52) c_raft_Raft_most = true := by kernel_rfl
theorem kc_cmp_isNaN_int : chkF Try.prog mA (mA 105) c_cmp_isNaN_int = true := by kernel_rfl
theorem kc_cmp_Less_int : chkF Try.prog mA (mA 98) c_cmp_Less_int = true := by kernel_rfl
theorem kc_math_bits_Len : chkF Try.prog mA (mA 97) c_math_bits_Len = true := by kernel_rfl
theorem kc_math_bits_Len64 : chkF Try.prog mA (mA 104) c_math_bits_Len64 = true := by kernel_rfl
theorem kc_slices_insertionSortOrdered_int : chkF Try.prog mA (mA 109) c_slices_insertionSortOrdered_int = true := by kernel_rfl
theorem kc_slices_pdqsortOrdered_int : chkF Try.prog mA (mA 107) c_slices_pdqsortOrdered_int = true := by kernel_rfl
theorem kc_slices_Sort_int_int : chkF Try.prog mA (mA 102) c_slices_Sort_int_int = true := by kernel_rfl
theorem kcm_quorum_Agreed : chkF Try.prog mA (mA 91) cm_quorum_Agreed = true := by kernel_rfl
theorem kc_raft_Raft_sendTo : chkF Try.prog mA (mA 63) c_raft_Raft_sendTo = true := by kernel_rfl
theorem kc_raft_Raft_asks : chkF Try.prog mA (mA 64) c_raft_Raft_asks = true := by kernel_rfl
theorem kc_raft_Raft_asks_c1 : chkF Try.prog mA (mA 84) c_raft_Raft_asks_c1 = true := by kernel_rfl
theorem kc_raft_Raft_agree : chkF Try.prog mA (mA 75) c_raft_Raft_agree = true := by kernel_rfl
theorem kc_raft_Raft_lays : chkF Try.prog mA (mA 41) c_raft_Raft_lays = true := by kernel_rfl
theorem kc_raft_Raft_leads : chkF Try.prog mA (mA 56) c_raft_Raft_leads = true := by kernel_rfl
theorem kc_raft_Raft_runs : chkF Try.prog mA (mA 53) c_raft_Raft_runs = true := by kernel_rfl
theorem kc_raft_Raft_tick : chkF Try.prog mA (mA 37) c_raft_Raft_tick = true := by kernel_rfl
theorem kc_raft_Raft_does : chkF Try.prog mA (mA 25) c_raft_Raft_does = true := by kernel_rfl
theorem kc_raft_Raft_Tick : chkF Try.prog mA (mA 13) c_raft_Raft_Tick = true := by kernel_rfl
theorem kc_pack_Put : chkF Try.prog mA (mA 86) c_pack_Put = true := by kernel_rfl
theorem kc_pack_PutText : chkF Try.prog mA (mA 68) c_pack_PutText = true := by kernel_rfl
theorem kc_pack_PutList : chkF Try.prog mA (mA 70) c_pack_PutList = true := by kernel_rfl
theorem kc_pack_PutList_c1 : chkF Try.prog mA (mA 87) c_pack_PutList_c1 = true := by kernel_rfl
theorem kc_wire_within : chkF Try.prog mA (mA 65) c_wire_within = true := by kernel_rfl
theorem kc_wire_numbers : chkF Try.prog mA (mA 69) c_wire_numbers = true := by kernel_rfl
theorem kc_slices_ContainsFunc_int_int : chkF Try.prog mA (mA 66) c_slices_ContainsFunc_int_int = true := by kernel_rfl
theorem kc_wire_Entry : chkF Try.prog mA (mA 38) c_wire_Entry = true := by kernel_rfl
theorem kc_wire_Entry_c1 : chkF Try.prog mA (mA 67) c_wire_Entry_c1 = true := by kernel_rfl
theorem kc_slices_ContainsFunc_api_Entry_api_Entry : chkF Try.prog mA (mA 47) c_slices_ContainsFunc_api_Entry_api_Entry = true := by kernel_rfl
theorem kc_raft_Raft_odd_c1 : chkF Try.prog mA (mA 48) c_raft_Raft_odd_c1 = true := by kernel_rfl
theorem kc_raft_Raft_odd : chkF Try.prog mA (mA 27) c_raft_Raft_odd = true := by kernel_rfl
theorem kc_raft_New : chkF Try.prog mA (mA 12) c_raft_New = true := by kernel_rfl
theorem kc_raft_Raft_Stand : chkF Try.prog mA (mA 8) c_raft_Raft_Stand = true := by kernel_rfl
theorem kc_raft_Raft_At : chkF Try.prog mA (mA 17) c_raft_Raft_At = true := by kernel_rfl
theorem kc_strongroomlaw19_bytes : chkF Try.prog mA (mA 16) c_strongroomlaw19_bytes = true := by kernel_rfl
theorem kc_strongroomlaw19_numbers : chkF Try.prog mA (mA 18) c_strongroomlaw19_numbers = true := by kernel_rfl
theorem kc_strongroomlaw19_snap : chkF Try.prog mA (mA 19) c_strongroomlaw19_snap = true := by kernel_rfl
theorem kc_strongroomlaw19_few : chkF Try.prog mA (mA 20) c_strongroomlaw19_few = true := by kernel_rfl
theorem kc_strongroomlaw19_lent : chkF Try.prog mA (mA 7) c_strongroomlaw19_lent = true := by kernel_rfl
theorem kc_strongroomlaw19_made : chkF Try.prog mA (mA 6) c_strongroomlaw19_made = true := by kernel_rfl
theorem kc_strongroomlaw19_shown : chkF Try.prog mA (mA 5) c_strongroomlaw19_shown = true := by kernel_rfl
theorem kc_strongroomlaw19_kind : chkF Try.prog mA (mA 11) c_strongroomlaw19_kind = true := by kernel_rfl
theorem kc_strongroomref19_SameStand : chkF Try.prog mA (mA 10) c_strongroomref19_SameStand = true := by kernel_rfl
theorem kc_strongroomref19_same : chkF Try.prog mA (mA 31) c_strongroomref19_same = true := by kernel_rfl
theorem kc_raft_Raft_Take : chkF Try.prog mA (mA 9) c_raft_Raft_Take = true := by kernel_rfl
theorem kc_raft_Raft_Take_c1 : chkF Try.prog mA (mA 26) c_raft_Raft_Take_c1 = true := by kernel_rfl
theorem kc_strongroomlaw19_RaftOdd : chkF Try.prog mA (mA 1) c_strongroomlaw19_RaftOdd = true := by kernel_rfl
theorem kc_raft_Raft_pre : chkF Try.prog mA (mA 28) c_raft_Raft_pre = true := by kernel_rfl
theorem kc_raft_Raft_preYes : chkF Try.prog mA (mA 29) c_raft_Raft_preYes = true := by kernel_rfl
theorem kc_raft_Raft_late : chkF Try.prog mA (mA 54) c_raft_Raft_late = true := by kernel_rfl
theorem kc_raft_Raft_base : chkF Try.prog mA (mA 45) c_raft_Raft_base = true := by kernel_rfl
theorem kc_raft_Raft_follows : chkF Try.prog mA (mA 57) c_raft_Raft_follows = true := by kernel_rfl
theorem kc_raft_Raft_told : chkF Try.prog mA (mA 58) c_raft_Raft_told = true := by kernel_rfl
theorem kc_raft_Raft_take : chkF Try.prog mA (mA 30) c_raft_Raft_take = true := by kernel_rfl
theorem kc_strongroomlaw19_RaftLate : chkF Try.prog mA (mA 3) c_strongroomlaw19_RaftLate = true := by kernel_rfl
theorem kc_strongroomlaw19_RaftVotes : chkF Try.prog mA (mA 2) c_strongroomlaw19_RaftVotes = true := by kernel_rfl
theorem kc_raft_Raft_Propose : chkF Try.prog mA (mA 14) c_raft_Raft_Propose = true := by kernel_rfl
theorem kc_raft_Raft_Propose_c1 : chkF Try.prog mA (mA 40) c_raft_Raft_Propose_c1 = true := by kernel_rfl
theorem kc_raft_Raft_Lay : chkF Try.prog mA (mA 15) c_raft_Raft_Lay = true := by kernel_rfl
theorem kc_raft_Raft_Lay_c1 : chkF Try.prog mA (mA 44) c_raft_Raft_Lay_c1 = true := by kernel_rfl
theorem kc_strongroomlaw19_RaftLays : chkF Try.prog mA (mA 4) c_strongroomlaw19_RaftLays = true := by kernel_rfl
noncomputable abbrev eA : Env := ⟨Try.prog, mA⟩
theorem hOk : Ok eA := { cloneB := kc_slices_Clone_byte_byte, cloneI := kc_slices_Clone_int_int, own := kc_entries_own }
theorem hOkL : OkL eA := { toOk := hOk, first := kc_entries_Log_First, last := kc_entries_Log_Last, within := kc_entries_Log_within, term := kc_entries_Log_Term, from_ := kc_entries_Log_From }
theorem hOkM : OkM eA := { toOkL := hOkL, at_ := kc_entries_Log_At, new := kc_entries_New, append := kc_entries_Log_Append, behind := kc_entries_Log_Behind, cloneE := kc_slices_Clone_api_Entry_api_Entry, base := kc_entries_Log_Base }
theorem hOkQ : OkQ eA := { toOkM := hOkM, check := kc_quorum_Check }
theorem hOkH : OkH eA := { toOkQ := hOkQ, index := kc_slices_Index_int_int, contains := kc_slices_Contains_int_int, has := kc_quorum_Has }
theorem hOkJ : OkJ eA := { toOkH := hOkH, join := kc_entries_Log_Join, join1 := kc_entries_Log_Join_c1, indexE := kc_slices_IndexFunc_api_Entry_api_Entry }
theorem hOkR : OkR eA := { toOkJ := hOkJ, rwithin := kc_raft_within, rown := kc_raft_own, draw := kc_raft_Raft_Draw, membersTo := kc_raft_Raft_membersTo, members := kc_raft_Raft_members, others := kc_raft_Raft_others, says := kc_raft_Raft_says, end_ := kc_raft_Raft_end, stands := kc_raft_Raft_stands, fallBack := kc_raft_Raft_fallBack, fresh := kc_raft_Raft_fresh }
theorem hOkM2 : OkM2 eA := { toOkR := hOkR, cloneIm := kcm_slices_Clone_int_int, indexI := kc_slices_IndexFunc_int_int, delF := kcm_slices_DeleteFunc_int_int, qmost := kc_quorum_Most, qmost1 := kc_quorum_Most_c1, most := kc_raft_Raft_most }
theorem hOkA : OkA eA := { toOkM2 := hOkM2, nan := kc_cmp_isNaN_int, less := kc_cmp_Less_int, blen := kc_math_bits_Len, blen64 := kc_math_bits_Len64, ins := kc_slices_insertionSortOrdered_int, pdq := kc_slices_pdqsortOrdered_int, sort := kc_slices_Sort_int_int, agreed := kcm_quorum_Agreed }
theorem hOkS : OkS eA := { toOkA := hOkA, sendTo := kc_raft_Raft_sendTo, asks := kc_raft_Raft_asks, asks1 := kc_raft_Raft_asks_c1, agree := kc_raft_Raft_agree, lays := kc_raft_Raft_lays, leads := kc_raft_Raft_leads, runs := kc_raft_Raft_runs, tick := kc_raft_Raft_tick }
theorem hOkT : OkT eA := { toOkS := hOkS, does := kc_raft_Raft_does, Tick := kc_raft_Raft_Tick }
theorem hOkW : OkW eA := { toOkT := hOkT, put := kc_pack_Put, putText := kc_pack_PutText, putList := kc_pack_PutList, putList1 := kc_pack_PutList_c1, wwithin := kc_wire_within, wnumbers := kc_wire_numbers, containsI := kc_slices_ContainsFunc_int_int, wentry := kc_wire_Entry, wentry1 := kc_wire_Entry_c1, containsE := kc_slices_ContainsFunc_api_Entry_api_Entry, odd1 := kc_raft_Raft_odd_c1, odd := kc_raft_Raft_odd }
theorem hOkN : OkN eA := { toOkW := hOkW, rnew := kc_raft_New, stand := kc_raft_Raft_Stand, rat := kc_raft_Raft_At }
theorem hOkI : OkI eA := { toOkN := hOkN, bytes := kc_strongroomlaw19_bytes, numbers := kc_strongroomlaw19_numbers, snap := kc_strongroomlaw19_snap, few := kc_strongroomlaw19_few, lent := kc_strongroomlaw19_lent, made := kc_strongroomlaw19_made }
theorem hOkX : OkX eA := { toOkI := hOkI, shown := kc_strongroomlaw19_shown, kind := kc_strongroomlaw19_kind, sameStand := kc_strongroomref19_SameStand, same := kc_strongroomref19_same }
theorem hOkO : OkO eA := { toOkX := hOkX, Take := kc_raft_Raft_Take, take1 := kc_raft_Raft_Take_c1, rodd := kc_strongroomlaw19_RaftOdd }
theorem hOkP : OkP eA := { toOkO := hOkO, pre := kc_raft_Raft_pre, preYes := kc_raft_Raft_preYes, late := kc_raft_Raft_late }
theorem hOkF : OkF eA := { toOkP := hOkP, rbase := kc_raft_Raft_base, follows := kc_raft_Raft_follows }
theorem hOkU : OkU eA := { toOkF := hOkF, told := kc_raft_Raft_told, rtake := kc_raft_Raft_take }
theorem hOkLate : OkLate eA := { toOkU := hOkU, rlate := kc_strongroomlaw19_RaftLate }
theorem hOkV : OkV eA := { toOkLate := hOkLate, rvotes := kc_strongroomlaw19_RaftVotes }
theorem hOkPr : OkPr eA := { toOkV := hOkV, Propose := kc_raft_Raft_Propose, propose1 := kc_raft_Raft_Propose_c1 }
theorem hOkLy : OkLy eA := { toOkPr := hOkPr, lay := kc_raft_Raft_Lay, layc1 := kc_raft_Raft_Lay_c1 }
theorem hOkRL : OkRL eA := { toOkLy := hOkLy, rlays := kc_strongroomlaw19_RaftLays }
end Go.Proofs.Ytoecohcpkicdaaa

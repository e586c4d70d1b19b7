/-
  The program's code, resolved, and its shallow form (printed by a program). No condition.
-/
import Derived.Test.YtoecohcpkicdaaaXC
import Derived.Test.YtoecohcpkicdaaaXCl
import Derived.KernelRfl
set_option linter.unusedVariables false
set_option linter.unusedSimpArgs false
set_option linter.unnecessarySimpa false
namespace Go.Ab
/-- slices.partitionOrdered[int] -/
def c_slices_partitionOrdered_int : AFunc := .mk 4 168 [.t 8, .t 9] <|
  .seq (.reg [q 8 (.mv (.c (.n .i64 0))), q 9 (.mv (.c (.b false)))]) <|
  .seq (.draw [qd (some 12) false [] (.mv (.t 0)), qd (some 13) false [] (.mv (.t 1)), qd (some 14) false [] (.mv (.t 0)), qd (some 15) false [] (.mv (.t 3)), qd (some 16) false [] (.mv (.t 0)), qd (some 17) false [] (.mv (.t 3)), qd (some 18) false [4, 5] (.ias (.t 16) (.t 17) 1), qd (some 19) false [4, 5, 6] (.load (.t 18) 1 false), qd (some 20) false [] (.mv (.t 0)), qd (some 21) false [] (.mv (.t 1)), qd (some 22) false [8, 9] (.ias (.t 20) (.t 21) 1), qd (some 23) false [8, 9, 10] (.load (.t 22) 1 false), qd (some 24) false [0, 1, 4, 5, 6, 7, 8, 9, 10, 11] (.ias (.t 12) (.t 13) 1), qd none false [0, 1, 4, 5, 6, 7, 8, 9, 10, 11, 12] (.store (.t 24) (.t 19) 1), qd (some 25) false [0, 1, 2, 3, 4, 5, 6, 7, 8, 9, 10, 11, 12, 13] (.ias (.t 14) (.t 15) 1), qd none false [0, 1, 2, 3, 4, 5, 6, 7, 8, 9, 10, 11, 12, 13, 14] (.store (.t 25) (.t 23) 1)]) <|
  .seq (.reg [q 26 (.mv (.t 1)), q 27 (.bin .num .add (.t 26) (.c (.n .i64 1))), q 28 (.mv (.t 2)), q 29 (.bin .num .sub (.t 28) (.c (.n .i64 1))), q 10 (.mv (.t 27)), q 11 (.mv (.t 29))]) <|
  .seq (.block 0 <|
  .loop [10] [0, 1, 11] <|
  .seq (.seq (.draw [qd (some 30) false [] (.mv (.t 10)), qd (some 31) false [] (.mv (.t 11)), qd (some 32) true [0, 1] (.bin .num .leq (.t 30) (.t 31)), qd (some 33) false [0, 1, 2] (.mv (.t 32)), qdg (some 34) false 33 true [0, 1, 2, 3] (.mv (.t 0)), qdg (some 35) false 33 true [0, 1, 2, 3] (.mv (.t 10)), qdg (some 36) false 33 true [0, 1, 2, 3, 4, 5] (.ias (.t 34) (.t 35) 1), qdg (some 37) false 33 true [0, 1, 2, 3, 4, 5, 6] (.load (.t 36) 1 false), qdg (some 38) false 33 true [0, 1, 2, 3] (.mv (.t 0)), qdg (some 39) false 33 true [0, 1, 2, 3] (.mv (.t 1)), qdg (some 40) false 33 true [0, 1, 2, 3, 8, 9] (.ias (.t 38) (.t 39) 1), qdg (some 41) false 33 true [0, 1, 2, 3, 8, 9, 10] (.load (.t 40) 1 false), qdg (some 42) true 33 true [0, 1, 2, 3, 4, 5, 6, 7, 8, 9, 10, 11] (.call 98 [(.t 37), (.t 41)]), qd (some 43) false [0, 1, 2, 3, 4, 5, 6, 7, 8, 9, 10, 11, 12] (.pick (.t 33) (.t 42) (.c (.b false)))]) <|
  .cond (.t 43) (.skip) <|
  .exit 0) <|
  .block 1 <|
  .reg [q 44 (.mv (.t 10)), q 45 (.bin .num .add (.t 44) (.c (.n .i64 1))), q 10 (.mv (.t 45))]) <|
  .seq (.block 2 <|
  .loop [11] [0, 1, 10] <|
  .seq (.seq (.draw [qd (some 46) false [] (.mv (.t 10)), qd (some 47) false [] (.mv (.t 11)), qd (some 48) true [0, 1] (.bin .num .leq (.t 46) (.t 47)), qd (some 49) false [0, 1, 2] (.mv (.t 48)), qdg (some 50) false 49 true [0, 1, 2, 3] (.mv (.t 0)), qdg (some 51) false 49 true [0, 1, 2, 3] (.mv (.t 11)), qdg (some 52) false 49 true [0, 1, 2, 3, 4, 5] (.ias (.t 50) (.t 51) 1), qdg (some 53) false 49 true [0, 1, 2, 3, 4, 5, 6] (.load (.t 52) 1 false), qdg (some 54) false 49 true [0, 1, 2, 3] (.mv (.t 0)), qdg (some 55) false 49 true [0, 1, 2, 3] (.mv (.t 1)), qdg (some 56) false 49 true [0, 1, 2, 3, 8, 9] (.ias (.t 54) (.t 55) 1), qdg (some 57) false 49 true [0, 1, 2, 3, 8, 9, 10] (.load (.t 56) 1 false), qdg (some 58) true 49 true [0, 1, 2, 3, 4, 5, 6, 7, 8, 9, 10, 11] (.call 98 [(.t 53), (.t 57)]), qdg (some 59) false 49 true [0, 1, 2, 3, 4, 5, 6, 7, 8, 9, 10, 11, 12] (.un .not (.t 58)), qd (some 60) false [0, 1, 2, 3, 4, 5, 6, 7, 8, 9, 10, 11, 12, 13] (.pick (.t 49) (.t 59) (.c (.b false)))]) <|
  .cond (.t 60) (.skip) <|
  .exit 2) <|
  .block 3 <|
  .reg [q 61 (.mv (.t 11)), q 62 (.bin .num .sub (.t 61) (.c (.n .i64 1))), q 11 (.mv (.t 62))]) <|
  .seq (.seq (.reg [q 63 (.mv (.t 10)), q 64 (.mv (.t 11)), qs 65 (.bin .num .gtr (.t 63) (.t 64))]) <|
  .cond (.t 65) (.seq (.draw [qd (some 66) false [] (.mv (.t 0)), qd (some 67) false [] (.mv (.t 11)), qd (some 68) false [] (.mv (.t 0)), qd (some 69) false [] (.mv (.t 1)), qd (some 70) false [] (.mv (.t 0)), qd (some 71) false [] (.mv (.t 1)), qd (some 72) false [4, 5] (.ias (.t 70) (.t 71) 1), qd (some 73) false [4, 5, 6] (.load (.t 72) 1 false), qd (some 74) false [] (.mv (.t 0)), qd (some 75) false [] (.mv (.t 11)), qd (some 76) false [8, 9] (.ias (.t 74) (.t 75) 1), qd (some 77) false [8, 9, 10] (.load (.t 76) 1 false), qd (some 78) false [0, 1, 4, 5, 6, 7, 8, 9, 10, 11] (.ias (.t 66) (.t 67) 1), qd none false [0, 1, 4, 5, 6, 7, 8, 9, 10, 11, 12] (.store (.t 78) (.t 73) 1), qd (some 79) false [0, 1, 2, 3, 4, 5, 6, 7, 8, 9, 10, 11, 12, 13] (.ias (.t 68) (.t 69) 1), qd none false [0, 1, 2, 3, 4, 5, 6, 7, 8, 9, 10, 11, 12, 13, 14] (.store (.t 79) (.t 77) 1)]) <|
  .seq (.reg [q 80 (.mv (.t 11)), q 8 (.mv (.t 80)), q 9 (.mv (.c (.b true)))]) <|
  .ret) <|
  .skip) <|
  .seq (.draw [qd (some 81) false [] (.mv (.t 0)), qd (some 82) false [] (.mv (.t 10)), qd (some 83) false [] (.mv (.t 0)), qd (some 84) false [] (.mv (.t 11)), qd (some 85) false [] (.mv (.t 0)), qd (some 86) false [] (.mv (.t 11)), qd (some 87) false [4, 5] (.ias (.t 85) (.t 86) 1), qd (some 88) false [4, 5, 6] (.load (.t 87) 1 false), qd (some 89) false [] (.mv (.t 0)), qd (some 90) false [] (.mv (.t 10)), qd (some 91) false [8, 9] (.ias (.t 89) (.t 90) 1), qd (some 92) false [8, 9, 10] (.load (.t 91) 1 false), qd (some 93) false [0, 1, 4, 5, 6, 7, 8, 9, 10, 11] (.ias (.t 81) (.t 82) 1), qd none false [0, 1, 4, 5, 6, 7, 8, 9, 10, 11, 12] (.store (.t 93) (.t 88) 1), qd (some 94) false [0, 1, 2, 3, 4, 5, 6, 7, 8, 9, 10, 11, 12, 13] (.ias (.t 83) (.t 84) 1), qd none false [0, 1, 2, 3, 4, 5, 6, 7, 8, 9, 10, 11, 12, 13, 14] (.store (.t 94) (.t 92) 1)]) <|
  .seq (.reg [q 95 (.mv (.t 10)), q 96 (.bin .num .add (.t 95) (.c (.n .i64 1))), q 10 (.mv (.t 96))]) <|
  .seq (.reg [q 97 (.mv (.t 11)), q 98 (.bin .num .sub (.t 97) (.c (.n .i64 1))), q 11 (.mv (.t 98))]) <|
  .seq (.block 4 <|
  .loop [10, 11] [0, 1] <|
  .block 5 <|
  .seq (.block 6 <|
  .loop [10] [0, 1, 11] <|
  .seq (.seq (.draw [qd (some 99) false [] (.mv (.t 10)), qd (some 100) false [] (.mv (.t 11)), qd (some 101) true [0, 1] (.bin .num .leq (.t 99) (.t 100)), qd (some 102) false [0, 1, 2] (.mv (.t 101)), qdg (some 103) false 102 true [0, 1, 2, 3] (.mv (.t 0)), qdg (some 104) false 102 true [0, 1, 2, 3] (.mv (.t 10)), qdg (some 105) false 102 true [0, 1, 2, 3, 4, 5] (.ias (.t 103) (.t 104) 1), qdg (some 106) false 102 true [0, 1, 2, 3, 4, 5, 6] (.load (.t 105) 1 false), qdg (some 107) false 102 true [0, 1, 2, 3] (.mv (.t 0)), qdg (some 108) false 102 true [0, 1, 2, 3] (.mv (.t 1)), qdg (some 109) false 102 true [0, 1, 2, 3, 8, 9] (.ias (.t 107) (.t 108) 1), qdg (some 110) false 102 true [0, 1, 2, 3, 8, 9, 10] (.load (.t 109) 1 false), qdg (some 111) true 102 true [0, 1, 2, 3, 4, 5, 6, 7, 8, 9, 10, 11] (.call 98 [(.t 106), (.t 110)]), qd (some 112) false [0, 1, 2, 3, 4, 5, 6, 7, 8, 9, 10, 11, 12] (.pick (.t 102) (.t 111) (.c (.b false)))]) <|
  .cond (.t 112) (.skip) <|
  .exit 6) <|
  .block 7 <|
  .reg [q 113 (.mv (.t 10)), q 114 (.bin .num .add (.t 113) (.c (.n .i64 1))), q 10 (.mv (.t 114))]) <|
  .seq (.block 8 <|
  .loop [11] [0, 1, 10] <|
  .seq (.seq (.draw [qd (some 115) false [] (.mv (.t 10)), qd (some 116) false [] (.mv (.t 11)), qd (some 117) true [0, 1] (.bin .num .leq (.t 115) (.t 116)), qd (some 118) false [0, 1, 2] (.mv (.t 117)), qdg (some 119) false 118 true [0, 1, 2, 3] (.mv (.t 0)), qdg (some 120) false 118 true [0, 1, 2, 3] (.mv (.t 11)), qdg (some 121) false 118 true [0, 1, 2, 3, 4, 5] (.ias (.t 119) (.t 120) 1), qdg (some 122) false 118 true [0, 1, 2, 3, 4, 5, 6] (.load (.t 121) 1 false), qdg (some 123) false 118 true [0, 1, 2, 3] (.mv (.t 0)), qdg (some 124) false 118 true [0, 1, 2, 3] (.mv (.t 1)), qdg (some 125) false 118 true [0, 1, 2, 3, 8, 9] (.ias (.t 123) (.t 124) 1), qdg (some 126) false 118 true [0, 1, 2, 3, 8, 9, 10] (.load (.t 125) 1 false), qdg (some 127) true 118 true [0, 1, 2, 3, 4, 5, 6, 7, 8, 9, 10, 11] (.call 98 [(.t 122), (.t 126)]), qdg (some 128) false 118 true [0, 1, 2, 3, 4, 5, 6, 7, 8, 9, 10, 11, 12] (.un .not (.t 127)), qd (some 129) false [0, 1, 2, 3, 4, 5, 6, 7, 8, 9, 10, 11, 12, 13] (.pick (.t 118) (.t 128) (.c (.b false)))]) <|
  .cond (.t 129) (.skip) <|
  .exit 8) <|
  .block 9 <|
  .reg [q 130 (.mv (.t 11)), q 131 (.bin .num .sub (.t 130) (.c (.n .i64 1))), q 11 (.mv (.t 131))]) <|
  .seq (.seq (.reg [q 132 (.mv (.t 10)), q 133 (.mv (.t 11)), qs 134 (.bin .num .gtr (.t 132) (.t 133))]) <|
  .cond (.t 134) (.exit 4) <|
  .skip) <|
  .seq (.draw [qd (some 135) false [] (.mv (.t 0)), qd (some 136) false [] (.mv (.t 10)), qd (some 137) false [] (.mv (.t 0)), qd (some 138) false [] (.mv (.t 11)), qd (some 139) false [] (.mv (.t 0)), qd (some 140) false [] (.mv (.t 11)), qd (some 141) false [4, 5] (.ias (.t 139) (.t 140) 1), qd (some 142) false [4, 5, 6] (.load (.t 141) 1 false), qd (some 143) false [] (.mv (.t 0)), qd (some 144) false [] (.mv (.t 10)), qd (some 145) false [8, 9] (.ias (.t 143) (.t 144) 1), qd (some 146) false [8, 9, 10] (.load (.t 145) 1 false), qd (some 147) false [0, 1, 4, 5, 6, 7, 8, 9, 10, 11] (.ias (.t 135) (.t 136) 1), qd none false [0, 1, 4, 5, 6, 7, 8, 9, 10, 11, 12] (.store (.t 147) (.t 142) 1), qd (some 148) false [0, 1, 2, 3, 4, 5, 6, 7, 8, 9, 10, 11, 12, 13] (.ias (.t 137) (.t 138) 1), qd none false [0, 1, 2, 3, 4, 5, 6, 7, 8, 9, 10, 11, 12, 13, 14] (.store (.t 148) (.t 146) 1)]) <|
  .seq (.reg [q 149 (.mv (.t 10)), q 150 (.bin .num .add (.t 149) (.c (.n .i64 1))), q 10 (.mv (.t 150))]) <|
  .reg [q 151 (.mv (.t 11)), q 152 (.bin .num .sub (.t 151) (.c (.n .i64 1))), q 11 (.mv (.t 152))]) <|
  .seq (.draw [qd (some 153) false [] (.mv (.t 0)), qd (some 154) false [] (.mv (.t 11)), qd (some 155) false [] (.mv (.t 0)), qd (some 156) false [] (.mv (.t 1)), qd (some 157) false [] (.mv (.t 0)), qd (some 158) false [] (.mv (.t 1)), qd (some 159) false [4, 5] (.ias (.t 157) (.t 158) 1), qd (some 160) false [4, 5, 6] (.load (.t 159) 1 false), qd (some 161) false [] (.mv (.t 0)), qd (some 162) false [] (.mv (.t 11)), qd (some 163) false [8, 9] (.ias (.t 161) (.t 162) 1), qd (some 164) false [8, 9, 10] (.load (.t 163) 1 false), qd (some 165) false [0, 1, 4, 5, 6, 7, 8, 9, 10, 11] (.ias (.t 153) (.t 154) 1), qd none false [0, 1, 4, 5, 6, 7, 8, 9, 10, 11, 12] (.store (.t 165) (.t 160) 1), qd (some 166) false [0, 1, 2, 3, 4, 5, 6, 7, 8, 9, 10, 11, 12, 13] (.ias (.t 155) (.t 156) 1), qd none false [0, 1, 2, 3, 4, 5, 6, 7, 8, 9, 10, 11, 12, 13, 14] (.store (.t 166) (.t 164) 1)]) <|
  .seq (.reg [q 167 (.mv (.t 11)), q 8 (.mv (.t 167)), q 9 (.mv (.c (.b false)))]) <|
  .ret

/-- slices.partitionOrdered[int] -/
def p_slices_partitionOrdered_int (E : Env) (a0 a1 a2 a3 : V) (s : St) (K : V → St → Prop) : Prop :=
 optP (iasV a0 a3 1) s fun v0 s1 =>
 optP (ldV v0 1 false s1) s1 fun v2 s3 =>
 (True) ∧ optP (iasV a0 a1 1) s3 fun v4 s5 =>
 optP (ldV v4 1 false s5) s5 fun v6 s7 =>
 (True) ∧ optP (iasV a0 a1 1) s7 fun v8 s9 =>
 optW (storeV v8 v2 1 s9) fun v10 s11 =>
 (True) ∧ optP (iasV a0 a3 1) s11 fun v12 s13 =>
 optW (storeV v12 v6 1 s13) fun v14 s15 =>
 (True) ∧ optP (binV .num .add a1 (.n .i64 1)) s15 fun v16 s17 =>
 optP (binV .num .sub a2 (.n .i64 1)) s17 fun v18 s19 =>
 ∃ I20 : Nat → List V → St → Prop, (∃ n21, I20 n21 [v16] s19) ∧ ∀ n21, ∀ x23 : V, ∀ s22, I20 n21 [x23] s22 →
 let k25 : St → Prop := (fun s26 =>
 ∃ I27 : Nat → List V → St → Prop, (∃ n28, I27 n28 [v18] s26) ∧ ∀ n28, ∀ x30 : V, ∀ s29, I27 n28 [x30] s29 →
 let k32 : St → Prop := (fun s33 =>
 optP (binV .num .gtr x23 x30) s33 fun v34 s35 =>
 splitP v34 (
 optP (iasV a0 a1 1) s35 fun v36 s37 =>
 optP (ldV v36 1 false s37) s37 fun v38 s39 =>
 (True) ∧ optP (iasV a0 x30 1) s39 fun v40 s41 =>
 optP (ldV v40 1 false s41) s41 fun v42 s43 =>
 (True) ∧ optP (iasV a0 x30 1) s43 fun v44 s45 =>
 optW (storeV v44 v38 1 s45) fun v46 s47 =>
 (True) ∧ optP (iasV a0 a1 1) s47 fun v48 s49 =>
 optW (storeV v48 v42 1 s49) fun v50 s51 =>
 (True) ∧ K (.tup [x30, (.b true)]) s51) (
 optP (iasV a0 x30 1) s35 fun v52 s53 =>
 optP (ldV v52 1 false s53) s53 fun v54 s55 =>
 (True) ∧ optP (iasV a0 x23 1) s55 fun v56 s57 =>
 optP (ldV v56 1 false s57) s57 fun v58 s59 =>
 (True) ∧ optP (iasV a0 x23 1) s59 fun v60 s61 =>
 optW (storeV v60 v54 1 s61) fun v62 s63 =>
 (True) ∧ optP (iasV a0 x30 1) s63 fun v64 s65 =>
 optW (storeV v64 v58 1 s65) fun v66 s67 =>
 (True) ∧ optP (binV .num .add x23 (.n .i64 1)) s67 fun v68 s69 =>
 optP (binV .num .sub x30 (.n .i64 1)) s69 fun v70 s71 =>
 ∃ I72 : Nat → List V → St → Prop, (∃ n73, I72 n73 [v68, v70] s71) ∧ ∀ n73, ∀ x75 : V, ∀ x76 : V, ∀ s74, I72 n73 [x75, x76] s74 →
 ∃ I78 : Nat → List V → St → Prop, (∃ n79, I78 n79 [x75] s74) ∧ ∀ n79, ∀ x81 : V, ∀ s80, I78 n79 [x81] s80 →
 let k83 : St → Prop := (fun s84 =>
 ∃ I85 : Nat → List V → St → Prop, (∃ n86, I85 n86 [x76] s84) ∧ ∀ n86, ∀ x88 : V, ∀ s87, I85 n86 [x88] s87 →
 let k90 : St → Prop := (fun s91 =>
 optP (binV .num .gtr x81 x88) s91 fun v92 s93 =>
 splitP v92 (
 optP (iasV a0 a1 1) s93 fun v94 s95 =>
 optP (ldV v94 1 false s95) s95 fun v96 s97 =>
 (True) ∧ optP (iasV a0 x88 1) s97 fun v98 s99 =>
 optP (ldV v98 1 false s99) s99 fun v100 s101 =>
 (True) ∧ optP (iasV a0 x88 1) s101 fun v102 s103 =>
 optW (storeV v102 v96 1 s103) fun v104 s105 =>
 (True) ∧ optP (iasV a0 a1 1) s105 fun v106 s107 =>
 optW (storeV v106 v100 1 s107) fun v108 s109 =>
 (True) ∧ K (.tup [x88, (.b false)]) s109) (
 optP (iasV a0 x88 1) s93 fun v110 s111 =>
 optP (ldV v110 1 false s111) s111 fun v112 s113 =>
 (True) ∧ optP (iasV a0 x81 1) s113 fun v114 s115 =>
 optP (ldV v114 1 false s115) s115 fun v116 s117 =>
 (True) ∧ optP (iasV a0 x81 1) s117 fun v118 s119 =>
 optW (storeV v118 v112 1 s119) fun v120 s121 =>
 (True) ∧ optP (iasV a0 x88 1) s121 fun v122 s123 =>
 optW (storeV v122 v116 1 s123) fun v124 s125 =>
 (True) ∧ optP (binV .num .add x81 (.n .i64 1)) s125 fun v126 s127 =>
 optP (binV .num .sub x88 (.n .i64 1)) s127 fun v128 s129 =>
 (a0 : V) = a0 ∧ (a1 : V) = a1 ∧ ∃ n77, n77 < n73 ∧ I72 n77 [v126, v128] s129));
 optP (binV .num .leq x81 x88) s87 fun v130 s131 =>
 splitP v130 (
 optP (iasV a0 x88 1) s131 fun v132 s133 =>
 optP (ldV v132 1 false s133) s133 fun v134 s135 =>
 (True) ∧ optP (iasV a0 a1 1) s135 fun v136 s137 =>
 optP (ldV v136 1 false s137) s137 fun v138 s139 =>
 (True) ∧ ACalls E 98 [v134, v138] s139 fun v140 s141 =>
 splitP v140 (
 (True) ∧ k90 s141) (
 (True) ∧ optP (binV .num .sub x88 (.n .i64 1)) s141 fun v142 s143 =>
 (a0 : V) = a0 ∧ (a1 : V) = a1 ∧ (x81 : V) = x81 ∧ ∃ n89, n89 < n86 ∧ I85 n89 [v142] s143)) (
 (True) ∧ (True) ∧ (True) ∧ k90 s131));
 optP (binV .num .leq x81 x76) s80 fun v144 s145 =>
 splitP v144 (
 optP (iasV a0 x81 1) s145 fun v146 s147 =>
 optP (ldV v146 1 false s147) s147 fun v148 s149 =>
 (True) ∧ optP (iasV a0 a1 1) s149 fun v150 s151 =>
 optP (ldV v150 1 false s151) s151 fun v152 s153 =>
 (True) ∧ ACalls E 98 [v148, v152] s153 fun v154 s155 =>
 splitP v154 (
 (True) ∧ optP (binV .num .add x81 (.n .i64 1)) s155 fun v156 s157 =>
 (a0 : V) = a0 ∧ (a1 : V) = a1 ∧ (x76 : V) = x76 ∧ ∃ n82, n82 < n79 ∧ I78 n82 [v156] s157) (
 (True) ∧ k83 s155)) (
 (True) ∧ (True) ∧ (True) ∧ k83 s145)));
 optP (binV .num .leq x23 x30) s29 fun v158 s159 =>
 splitP v158 (
 optP (iasV a0 x30 1) s159 fun v160 s161 =>
 optP (ldV v160 1 false s161) s161 fun v162 s163 =>
 (True) ∧ optP (iasV a0 a1 1) s163 fun v164 s165 =>
 optP (ldV v164 1 false s165) s165 fun v166 s167 =>
 (True) ∧ ACalls E 98 [v162, v166] s167 fun v168 s169 =>
 splitP v168 (
 (True) ∧ k32 s169) (
 (True) ∧ optP (binV .num .sub x30 (.n .i64 1)) s169 fun v170 s171 =>
 (a0 : V) = a0 ∧ (a1 : V) = a1 ∧ (x23 : V) = x23 ∧ ∃ n31, n31 < n28 ∧ I27 n31 [v170] s171)) (
 (True) ∧ (True) ∧ (True) ∧ k32 s159));
 optP (binV .num .leq x23 v18) s22 fun v172 s173 =>
 splitP v172 (
 optP (iasV a0 x23 1) s173 fun v174 s175 =>
 optP (ldV v174 1 false s175) s175 fun v176 s177 =>
 (True) ∧ optP (iasV a0 a1 1) s177 fun v178 s179 =>
 optP (ldV v178 1 false s179) s179 fun v180 s181 =>
 (True) ∧ ACalls E 98 [v176, v180] s181 fun v182 s183 =>
 splitP v182 (
 (True) ∧ optP (binV .num .add x23 (.n .i64 1)) s183 fun v184 s185 =>
 (a0 : V) = a0 ∧ (a1 : V) = a1 ∧ (v18 : V) = v18 ∧ ∃ n24, n24 < n21 ∧ I20 n24 [v184] s185) (
 (True) ∧ k25 s183)) (
 (True) ∧ (True) ∧ (True) ∧ k25 s173)
theorem e_slices_partitionOrdered_int (E : Env) (a0 a1 a2 a3 : V) (s : St) (K : V → St → Prop) : axF E c_slices_partitionOrdered_int [a0, a1, a2, a3] s K = p_slices_partitionOrdered_int E a0 a1 a2 a3 s K := by kernel_rfl
theorem g_slices_partitionOrdered_int {E : Env} {a0 a1 a2 a3 : V} {s : St} {K : V → St → Prop} (h : chkF E.P E.m (E.m 116) c_slices_partitionOrdered_int = true) (hp : p_slices_partitionOrdered_int E a0 a1 a2 a3 s K) : ACalls E 116 [a0, a1, a2, a3] s K :=
  acalls h rfl (by rw [e_slices_partitionOrdered_int]; exact hp)

/-- slices.siftDownOrdered[int] -/
def c_slices_siftDownOrdered_int : AFunc := .mk 4 76 [] <|
  .seq (.reg [q 10 (.mv (.t 1)), q 8 (.mv (.t 10))]) <|
  .block 0 <|
  .loop [8] [0, 2, 3] <|
  .block 1 <|
  .seq (.reg [q 11 (.mv (.t 8)), q 12 (.bin .num .mul (.c (.n .i64 2)) (.t 11)), q 13 (.bin .num .add (.t 12) (.c (.n .i64 1))), q 9 (.mv (.t 13))]) <|
  .seq (.seq (.reg [q 14 (.mv (.t 9)), q 15 (.mv (.t 2)), qs 16 (.bin .num .geq (.t 14) (.t 15))]) <|
  .cond (.t 16) (.exit 0) <|
  .skip) <|
  .seq (.seq (.draw [qd (some 17) false [] (.mv (.t 9)), qd (some 18) false [0] (.bin .num .add (.t 17) (.c (.n .i64 1))), qd (some 19) false [] (.mv (.t 2)), qd (some 20) true [0, 1, 2] (.bin .num .lss (.t 18) (.t 19)), qd (some 21) false [0, 1, 2, 3] (.mv (.t 20)), qdg (some 22) false 21 true [0, 1, 2, 3, 4] (.mv (.t 0)), qdg (some 23) false 21 true [0, 1, 2, 3, 4] (.mv (.t 3)), qdg (some 24) false 21 true [0, 1, 2, 3, 4] (.mv (.t 9)), qdg (some 25) false 21 true [0, 1, 2, 3, 4, 6, 7] (.bin .num .add (.t 23) (.t 24)), qdg (some 26) false 21 true [0, 1, 2, 3, 4, 5, 6, 7, 8] (.ias (.t 22) (.t 25) 1), qdg (some 27) false 21 true [0, 1, 2, 3, 4, 5, 6, 7, 8, 9] (.load (.t 26) 1 false), qdg (some 28) false 21 true [0, 1, 2, 3, 4] (.mv (.t 0)), qdg (some 29) false 21 true [0, 1, 2, 3, 4] (.mv (.t 3)), qdg (some 30) false 21 true [0, 1, 2, 3, 4] (.mv (.t 9)), qdg (some 31) false 21 true [0, 1, 2, 3, 4, 12, 13] (.bin .num .add (.t 29) (.t 30)), qdg (some 32) false 21 true [0, 1, 2, 3, 4, 12, 13, 14] (.bin .num .add (.t 31) (.c (.n .i64 1))), qdg (some 33) false 21 true [0, 1, 2, 3, 4, 11, 12, 13, 14, 15] (.ias (.t 28) (.t 32) 1), qdg (some 34) false 21 true [0, 1, 2, 3, 4, 11, 12, 13, 14, 15, 16] (.load (.t 33) 1 false), qdg (some 35) true 21 true [0, 1, 2, 3, 4, 5, 6, 7, 8, 9, 10, 11, 12, 13, 14, 15, 16, 17] (.call 98 [(.t 27), (.t 34)]), qd (some 36) false [0, 1, 2, 3, 4, 5, 6, 7, 8, 9, 10, 11, 12, 13, 14, 15, 16, 17, 18] (.pick (.t 21) (.t 35) (.c (.b false)))]) <|
  .cond (.t 36) (.reg [q 37 (.mv (.t 9)), q 38 (.bin .num .add (.t 37) (.c (.n .i64 1))), q 9 (.mv (.t 38))]) <|
  .skip) <|
  .seq (.seq (.draw [qd (some 39) false [] (.mv (.t 0)), qd (some 40) false [] (.mv (.t 3)), qd (some 41) false [] (.mv (.t 8)), qd (some 42) false [1, 2] (.bin .num .add (.t 40) (.t 41)), qd (some 43) false [0, 1, 2, 3] (.ias (.t 39) (.t 42) 1), qd (some 44) false [0, 1, 2, 3, 4] (.load (.t 43) 1 false), qd (some 45) false [] (.mv (.t 0)), qd (some 46) false [] (.mv (.t 3)), qd (some 47) false [] (.mv (.t 9)), qd (some 48) false [7, 8] (.bin .num .add (.t 46) (.t 47)), qd (some 49) false [6, 7, 8, 9] (.ias (.t 45) (.t 48) 1), qd (some 50) false [6, 7, 8, 9, 10] (.load (.t 49) 1 false), qd (some 51) true [0, 1, 2, 3, 4, 5, 6, 7, 8, 9, 10, 11] (.call 98 [(.t 44), (.t 50)]), qd (some 52) false [0, 1, 2, 3, 4, 5, 6, 7, 8, 9, 10, 11, 12] (.un .not (.t 51))]) <|
  .cond (.t 52) (.ret) <|
  .skip) <|
  .seq (.draw [qd (some 53) false [] (.mv (.t 0)), qd (some 54) false [] (.mv (.t 3)), qd (some 55) false [] (.mv (.t 8)), qd (some 56) false [1, 2] (.bin .num .add (.t 54) (.t 55)), qd (some 57) false [] (.mv (.t 0)), qd (some 58) false [] (.mv (.t 3)), qd (some 59) false [] (.mv (.t 9)), qd (some 60) false [5, 6] (.bin .num .add (.t 58) (.t 59)), qd (some 61) false [] (.mv (.t 0)), qd (some 62) false [] (.mv (.t 3)), qd (some 63) false [] (.mv (.t 9)), qd (some 64) false [9, 10] (.bin .num .add (.t 62) (.t 63)), qd (some 65) false [8, 9, 10, 11] (.ias (.t 61) (.t 64) 1), qd (some 66) false [8, 9, 10, 11, 12] (.load (.t 65) 1 false), qd (some 67) false [] (.mv (.t 0)), qd (some 68) false [] (.mv (.t 3)), qd (some 69) false [] (.mv (.t 8)), qd (some 70) false [15, 16] (.bin .num .add (.t 68) (.t 69)), qd (some 71) false [14, 15, 16, 17] (.ias (.t 67) (.t 70) 1), qd (some 72) false [14, 15, 16, 17, 18] (.load (.t 71) 1 false), qd (some 73) false [0, 1, 2, 3, 8, 9, 10, 11, 12, 13, 14, 15, 16, 17, 18, 19] (.ias (.t 53) (.t 56) 1), qd none false [0, 1, 2, 3, 8, 9, 10, 11, 12, 13, 14, 15, 16, 17, 18, 19, 20] (.store (.t 73) (.t 66) 1), qd (some 74) false [0, 1, 2, 3, 4, 5, 6, 7, 8, 9, 10, 11, 12, 13, 14, 15, 16, 17, 18, 19, 20, 21] (.ias (.t 57) (.t 60) 1), qd none false [0, 1, 2, 3, 4, 5, 6, 7, 8, 9, 10, 11, 12, 13, 14, 15, 16, 17, 18, 19, 20, 21, 22] (.store (.t 74) (.t 72) 1)]) <|
  .reg [q 75 (.mv (.t 9)), q 8 (.mv (.t 75))]

/-- slices.siftDownOrdered[int] -/
def p_slices_siftDownOrdered_int (E : Env) (a0 a1 a2 a3 : V) (s : St) (K : V → St → Prop) : Prop :=
 ∃ I0 : Nat → List V → St → Prop, (∃ n1, I0 n1 [a1] s) ∧ ∀ n1, ∀ x3 : V, ∀ s2, I0 n1 [x3] s2 →
 optP (binV .num .mul (.n .i64 2) x3) s2 fun v5 s6 =>
 optP (binV .num .add v5 (.n .i64 1)) s6 fun v7 s8 =>
 optP (binV .num .geq v7 a2) s8 fun v9 s10 =>
 splitP v9 (
 K (.tup []) s10) (
 let k11 : V → St → Prop := (fun x13 s12 =>
 optP (binV .num .add a3 x3) s12 fun v14 s15 =>
 optP (iasV a0 v14 1) s15 fun v16 s17 =>
 optP (ldV v16 1 false s17) s17 fun v18 s19 =>
 (True) ∧ optP (binV .num .add a3 x13) s19 fun v20 s21 =>
 optP (iasV a0 v20 1) s21 fun v22 s23 =>
 optP (ldV v22 1 false s23) s23 fun v24 s25 =>
 (True) ∧ ACalls E 98 [v18, v24] s25 fun v26 s27 =>
 splitP v26 (
 (True) ∧ optP (binV .num .add a3 x3) s27 fun v28 s29 =>
 optP (binV .num .add a3 x13) s29 fun v30 s31 =>
 optP (binV .num .add a3 x13) s31 fun v32 s33 =>
 optP (iasV a0 v32 1) s33 fun v34 s35 =>
 optP (ldV v34 1 false s35) s35 fun v36 s37 =>
 (True) ∧ optP (binV .num .add a3 x3) s37 fun v38 s39 =>
 optP (iasV a0 v38 1) s39 fun v40 s41 =>
 optP (ldV v40 1 false s41) s41 fun v42 s43 =>
 (True) ∧ optP (iasV a0 v28 1) s43 fun v44 s45 =>
 optW (storeV v44 v36 1 s45) fun v46 s47 =>
 (True) ∧ optP (iasV a0 v30 1) s47 fun v48 s49 =>
 optW (storeV v48 v42 1 s49) fun v50 s51 =>
 (True) ∧ (a0 : V) = a0 ∧ (a2 : V) = a2 ∧ (a3 : V) = a3 ∧ ∃ n4, n4 < n1 ∧ I0 n4 [x13] s51) (
 (True) ∧ K (.tup []) s27));
 let k52 : St → Prop := (fun s53 =>
 k11 v7 s53);
 optP (binV .num .add v7 (.n .i64 1)) s10 fun v54 s55 =>
 optP (binV .num .lss v54 a2) s55 fun v56 s57 =>
 splitP v56 (
 optP (binV .num .add a3 v7) s57 fun v58 s59 =>
 optP (iasV a0 v58 1) s59 fun v60 s61 =>
 optP (ldV v60 1 false s61) s61 fun v62 s63 =>
 (True) ∧ optP (binV .num .add a3 v7) s63 fun v64 s65 =>
 optP (binV .num .add v64 (.n .i64 1)) s65 fun v66 s67 =>
 optP (iasV a0 v66 1) s67 fun v68 s69 =>
 optP (ldV v68 1 false s69) s69 fun v70 s71 =>
 (True) ∧ ACalls E 98 [v62, v70] s71 fun v72 s73 =>
 splitP v72 (
 (True) ∧ optP (binV .num .add v7 (.n .i64 1)) s73 fun v74 s75 =>
 k11 v74 s75) (
 (True) ∧ k52 s73)) (
 (True) ∧ (True) ∧ (True) ∧ k52 s57))
theorem e_slices_siftDownOrdered_int (E : Env) (a0 a1 a2 a3 : V) (s : St) (K : V → St → Prop) : axF E c_slices_siftDownOrdered_int [a0, a1, a2, a3] s K = p_slices_siftDownOrdered_int E a0 a1 a2 a3 s K := by kernel_rfl
theorem g_slices_siftDownOrdered_int {E : Env} {a0 a1 a2 a3 : V} {s : St} {K : V → St → Prop} (h : chkF E.P E.m (E.m 117) c_slices_siftDownOrdered_int = true) (hp : p_slices_siftDownOrdered_int E a0 a1 a2 a3 s K) : ACalls E 117 [a0, a1, a2, a3] s K :=
  acalls h rfl (by rw [e_slices_siftDownOrdered_int]; exact hp)

/-- slices.nextPowerOfTwo -/
def c_slices_nextPowerOfTwo : AFunc := .mk 1 7 [.t 2] <|
  .seq (.reg [q 2 (.mv (.c (.n .u64 0)))]) <|
  .seq (.reg [q 3 (.mv (.t 0)), q 4 (.cnv .u64 (.t 3)), q 5 (.call 97 [(.t 4)]), q 6 (.bin .num .shl (.c (.n .u64 1)) (.t 5)), q 2 (.mv (.t 6))]) <|
  .ret

/-- slices.nextPowerOfTwo -/
def p_slices_nextPowerOfTwo (E : Env) (a0 : V) (s : St) (K : V → St → Prop) : Prop :=
 optP (cnvV .u64 a0) s fun v0 s1 =>
 ACalls E 97 [v0] s1 fun v2 s3 =>
 optP (binV .num .shl (.n .u64 1) v2) s3 fun v4 s5 =>
 K v4 s5
theorem e_slices_nextPowerOfTwo (E : Env) (a0 : V) (s : St) (K : V → St → Prop) : axF E c_slices_nextPowerOfTwo [a0] s K = p_slices_nextPowerOfTwo E a0 s K := by kernel_rfl
theorem g_slices_nextPowerOfTwo {E : Env} {a0 : V} {s : St} {K : V → St → Prop} (h : chkF E.P E.m (E.m 118) c_slices_nextPowerOfTwo = true) (hp : p_slices_nextPowerOfTwo E a0 s K) : ACalls E 118 [a0] s K :=
  acalls h rfl (by rw [e_slices_nextPowerOfTwo]; exact hp)

/-- (*slices.xorshift).Next -/
def c_slices_xorshift_Next : AFunc := .mk 1 33 [.t 2] <|
  .seq (.reg [q 2 (.mv (.c (.n .u64 0)))]) <|
  .seq (.draw [qd (some 3) false [] (.mv (.t 0)), qd (some 4) false [0] (.nilchk (.t 3)), qd (some 5) false [0, 1] (.load (.t 4) 1 false), qd (some 6) false [] (.mv (.t 0)), qd (some 7) false [3] (.nilchk (.t 6)), qd (some 8) false [3, 4] (.load (.t 7) 1 false), qd (some 9) false [3, 4, 5] (.bin .num .shl (.t 8) (.c (.n .u64 13))), qd (some 10) false [0, 1, 2, 3, 4, 5, 6] (.bin .num .xor (.t 5) (.t 9)), qd (some 11) false [0, 1, 2, 3, 4, 5, 6, 7] (.nilchk (.t 3)), qd none false [0, 1, 2, 3, 4, 5, 6, 7, 8] (.store (.t 11) (.t 10) 1)]) <|
  .seq (.draw [qd (some 12) false [] (.mv (.t 0)), qd (some 13) false [0] (.nilchk (.t 12)), qd (some 14) false [0, 1] (.load (.t 13) 1 false), qd (some 15) false [] (.mv (.t 0)), qd (some 16) false [3] (.nilchk (.t 15)), qd (some 17) false [3, 4] (.load (.t 16) 1 false), qd (some 18) false [3, 4, 5] (.bin .num .shr (.t 17) (.c (.n .u64 7))), qd (some 19) false [0, 1, 2, 3, 4, 5, 6] (.bin .num .xor (.t 14) (.t 18)), qd (some 20) false [0, 1, 2, 3, 4, 5, 6, 7] (.nilchk (.t 12)), qd none false [0, 1, 2, 3, 4, 5, 6, 7, 8] (.store (.t 20) (.t 19) 1)]) <|
  .seq (.draw [qd (some 21) false [] (.mv (.t 0)), qd (some 22) false [0] (.nilchk (.t 21)), qd (some 23) false [0, 1] (.load (.t 22) 1 false), qd (some 24) false [] (.mv (.t 0)), qd (some 25) false [3] (.nilchk (.t 24)), qd (some 26) false [3, 4] (.load (.t 25) 1 false), qd (some 27) false [3, 4, 5] (.bin .num .shl (.t 26) (.c (.n .u64 17))), qd (some 28) false [0, 1, 2, 3, 4, 5, 6] (.bin .num .xor (.t 23) (.t 27)), qd (some 29) false [0, 1, 2, 3, 4, 5, 6, 7] (.nilchk (.t 21)), qd none false [0, 1, 2, 3, 4, 5, 6, 7, 8] (.store (.t 29) (.t 28) 1)]) <|
  .seq (.reg [q 30 (.mv (.t 0)), q 31 (.nilchk (.t 30)), q 32 (.load (.t 31) 1 false), q 2 (.mv (.t 32))]) <|
  .ret

/-- (*slices.xorshift).Next -/
def p_slices_xorshift_Next (E : Env) (a0 : V) (s : St) (K : V → St → Prop) : Prop :=
 optP (nilV a0) s fun v0 s1 =>
 optP (ldV v0 1 false s1) s1 fun v2 s3 =>
 (True) ∧ optP (nilV a0) s3 fun v4 s5 =>
 optP (ldV v4 1 false s5) s5 fun v6 s7 =>
 (True) ∧ optP (binV .num .shl v6 (.n .u64 13)) s7 fun v8 s9 =>
 optP (binV .num .xor v2 v8) s9 fun v10 s11 =>
 optP (nilV a0) s11 fun v12 s13 =>
 optW (storeV v12 v10 1 s13) fun v14 s15 =>
 (True) ∧ optP (nilV a0) s15 fun v16 s17 =>
 optP (ldV v16 1 false s17) s17 fun v18 s19 =>
 (True) ∧ optP (nilV a0) s19 fun v20 s21 =>
 optP (ldV v20 1 false s21) s21 fun v22 s23 =>
 (True) ∧ optP (binV .num .shr v22 (.n .u64 7)) s23 fun v24 s25 =>
 optP (binV .num .xor v18 v24) s25 fun v26 s27 =>
 optP (nilV a0) s27 fun v28 s29 =>
 optW (storeV v28 v26 1 s29) fun v30 s31 =>
 (True) ∧ optP (nilV a0) s31 fun v32 s33 =>
 optP (ldV v32 1 false s33) s33 fun v34 s35 =>
 (True) ∧ optP (nilV a0) s35 fun v36 s37 =>
 optP (ldV v36 1 false s37) s37 fun v38 s39 =>
 (True) ∧ optP (binV .num .shl v38 (.n .u64 17)) s39 fun v40 s41 =>
 optP (binV .num .xor v34 v40) s41 fun v42 s43 =>
 optP (nilV a0) s43 fun v44 s45 =>
 optW (storeV v44 v42 1 s45) fun v46 s47 =>
 (True) ∧ optP (nilV a0) s47 fun v48 s49 =>
 optP (ldV v48 1 false s49) s49 fun v50 s51 =>
 K v50 s51
theorem e_slices_xorshift_Next (E : Env) (a0 : V) (s : St) (K : V → St → Prop) : axF E c_slices_xorshift_Next [a0] s K = p_slices_xorshift_Next E a0 s K := by kernel_rfl
theorem g_slices_xorshift_Next {E : Env} {a0 : V} {s : St} {K : V → St → Prop} (h : chkF E.P E.m (E.m 119) c_slices_xorshift_Next = true) (hp : p_slices_xorshift_Next E a0 s K) : ACalls E 119 [a0] s K :=
  acalls h rfl (by rw [e_slices_xorshift_Next]; exact hp)

/-- slices.medianAdjacentOrdered[int] -/
def c_slices_medianAdjacentOrdered_int : AFunc := .mk 3 15 [.t 6] <|
  .seq (.reg [q 6 (.mv (.c (.n .i64 0)))]) <|
  .seq (.reg [q 7 (.mv (.t 0)), q 8 (.mv (.t 1)), q 9 (.bin .num .sub (.t 8) (.c (.n .i64 1))), q 10 (.mv (.t 1)), q 11 (.mv (.t 1)), q 12 (.bin .num .add (.t 11) (.c (.n .i64 1))), q 13 (.mv (.t 2)), q 14 (.call 121 [(.t 7), (.t 9), (.t 10), (.t 12), (.t 13)]), q 6 (.mv (.t 14))]) <|
  .ret

/-- slices.medianAdjacentOrdered[int] -/
def p_slices_medianAdjacentOrdered_int (E : Env) (a0 a1 a2 : V) (s : St) (K : V → St → Prop) : Prop :=
 optP (binV .num .sub a1 (.n .i64 1)) s fun v0 s1 =>
 optP (binV .num .add a1 (.n .i64 1)) s1 fun v2 s3 =>
 ACalls E 121 [a0, v0, a1, v2, a2] s3 fun v4 s5 =>
 K v4 s5
theorem e_slices_medianAdjacentOrdered_int (E : Env) (a0 a1 a2 : V) (s : St) (K : V → St → Prop) : axF E c_slices_medianAdjacentOrdered_int [a0, a1, a2] s K = p_slices_medianAdjacentOrdered_int E a0 a1 a2 s K := by kernel_rfl
theorem g_slices_medianAdjacentOrdered_int {E : Env} {a0 a1 a2 : V} {s : St} {K : V → St → Prop} (h : chkF E.P E.m (E.m 120) c_slices_medianAdjacentOrdered_int = true) (hp : p_slices_medianAdjacentOrdered_int E a0 a1 a2 s K) : ACalls E 120 [a0, a1, a2] s K :=
  acalls h rfl (by rw [e_slices_medianAdjacentOrdered_int]; exact hp)

/-- slices.medianOrdered[int] -/
def c_slices_medianOrdered_int : AFunc := .mk 5 36 [.t 10] <|
  .seq (.reg [q 10 (.mv (.c (.n .i64 0)))]) <|
  .seq (.reg [q 12 (.mv (.t 0)), q 13 (.mv (.t 1)), q 14 (.mv (.t 2)), q 15 (.mv (.t 4)), q 16 (.call 122 [(.t 12), (.t 13), (.t 14), (.t 15)]), q 11 (.mv (.t 16)), q 17 (.ext (.t 11) 0), q 18 (.ext (.t 11) 1), q 1 (.mv (.t 17)), q 2 (.mv (.t 18))]) <|
  .seq (.reg [q 20 (.mv (.t 0)), q 21 (.mv (.t 2)), q 22 (.mv (.t 3)), q 23 (.mv (.t 4)), q 24 (.call 122 [(.t 20), (.t 21), (.t 22), (.t 23)]), q 19 (.mv (.t 24)), q 25 (.ext (.t 19) 0), q 26 (.ext (.t 19) 1), q 2 (.mv (.t 25)), q 3 (.mv (.t 26))]) <|
  .seq (.reg [q 28 (.mv (.t 0)), q 29 (.mv (.t 1)), q 30 (.mv (.t 2)), q 31 (.mv (.t 4)), q 32 (.call 122 [(.t 28), (.t 29), (.t 30), (.t 31)]), q 27 (.mv (.t 32)), q 33 (.ext (.t 27) 0), q 34 (.ext (.t 27) 1), q 1 (.mv (.t 33)), q 2 (.mv (.t 34))]) <|
  .seq (.reg [q 35 (.mv (.t 2)), q 10 (.mv (.t 35))]) <|
  .ret

/-- slices.medianOrdered[int] -/
def p_slices_medianOrdered_int (E : Env) (a0 a1 a2 a3 a4 : V) (s : St) (K : V → St → Prop) : Prop :=
 ACalls E 122 [a0, a1, a2, a4] s fun v0 s1 =>
 optP (extV v0 0) s1 fun v2 s3 =>
 optP (extV v0 1) s3 fun v4 s5 =>
 ACalls E 122 [a0, v4, a3, a4] s5 fun v6 s7 =>
 optP (extV v6 0) s7 fun v8 s9 =>
 optP (extV v6 1) s9 fun v10 s11 =>
 ACalls E 122 [a0, v2, v8, a4] s11 fun v12 s13 =>
 optP (extV v12 0) s13 fun v14 s15 =>
 optP (extV v12 1) s15 fun v16 s17 =>
 K v16 s17
theorem e_slices_medianOrdered_int (E : Env) (a0 a1 a2 a3 a4 : V) (s : St) (K : V → St → Prop) : axF E c_slices_medianOrdered_int [a0, a1, a2, a3, a4] s K = p_slices_medianOrdered_int E a0 a1 a2 a3 a4 s K := by kernel_rfl
theorem g_slices_medianOrdered_int {E : Env} {a0 a1 a2 a3 a4 : V} {s : St} {K : V → St → Prop} (h : chkF E.P E.m (E.m 121) c_slices_medianOrdered_int = true) (hp : p_slices_medianOrdered_int E a0 a1 a2 a3 a4 s K) : ACalls E 121 [a0, a1, a2, a3, a4] s K :=
  acalls h rfl (by rw [e_slices_medianOrdered_int]; exact hp)

/-- slices.order2Ordered[int] -/
def c_slices_order2Ordered_int : AFunc := .mk 4 28 [.t 8, .t 9] <|
  .seq (.reg [q 8 (.mv (.c (.n .i64 0))), q 9 (.mv (.c (.n .i64 0)))]) <|
  .seq (.seq (.draw [qd (some 10) false [] (.mv (.t 0)), qd (some 11) false [] (.mv (.t 2)), qd (some 12) false [0, 1] (.ias (.t 10) (.t 11) 1), qd (some 13) false [0, 1, 2] (.load (.t 12) 1 false), qd (some 14) false [] (.mv (.t 0)), qd (some 15) false [] (.mv (.t 1)), qd (some 16) false [4, 5] (.ias (.t 14) (.t 15) 1), qd (some 17) false [4, 5, 6] (.load (.t 16) 1 false), qd (some 18) true [0, 1, 2, 3, 4, 5, 6, 7] (.call 98 [(.t 13), (.t 17)])]) <|
  .cond (.t 18) (.seq (.reg [q 19 (.mv (.t 3)), q 20 (.nilchk (.t 19)), q 21 (.load (.t 20) 1 false), q 22 (.bin .num .add (.t 21) (.c (.n .i64 1))), q 23 (.nilchk (.t 19)), qn (.store (.t 23) (.t 22) 1)]) <|
  .seq (.reg [q 24 (.mv (.t 2)), q 25 (.mv (.t 1)), q 8 (.mv (.t 24)), q 9 (.mv (.t 25))]) <|
  .ret) <|
  .skip) <|
  .seq (.reg [q 26 (.mv (.t 1)), q 27 (.mv (.t 2)), q 8 (.mv (.t 26)), q 9 (.mv (.t 27))]) <|
  .ret

/-- slices.order2Ordered[int] -/
def p_slices_order2Ordered_int (E : Env) (a0 a1 a2 a3 : V) (s : St) (K : V → St → Prop) : Prop :=
 optP (iasV a0 a2 1) s fun v0 s1 =>
 optP (ldV v0 1 false s1) s1 fun v2 s3 =>
 (True) ∧ optP (iasV a0 a1 1) s3 fun v4 s5 =>
 optP (ldV v4 1 false s5) s5 fun v6 s7 =>
 (True) ∧ ACalls E 98 [v2, v6] s7 fun v8 s9 =>
 splitP v8 (
 (True) ∧ optP (nilV a3) s9 fun v10 s11 =>
 optP (ldV v10 1 false s11) s11 fun v12 s13 =>
 optP (binV .num .add v12 (.n .i64 1)) s13 fun v14 s15 =>
 optP (nilV a3) s15 fun v16 s17 =>
 optW (storeV v16 v14 1 s17) fun v18 s19 =>
 K (.tup [a2, a1]) s19) (
 (True) ∧ K (.tup [a1, a2]) s9)
theorem e_slices_order2Ordered_int (E : Env) (a0 a1 a2 a3 : V) (s : St) (K : V → St → Prop) : axF E c_slices_order2Ordered_int [a0, a1, a2, a3] s K = p_slices_order2Ordered_int E a0 a1 a2 a3 s K := by kernel_rfl
theorem g_slices_order2Ordered_int {E : Env} {a0 a1 a2 a3 : V} {s : St} {K : V → St → Prop} (h : chkF E.P E.m (E.m 122) c_slices_order2Ordered_int = true) (hp : p_slices_order2Ordered_int E a0 a1 a2 a3 s K) : ACalls E 122 [a0, a1, a2, a3] s K :=
  acalls h rfl (by rw [e_slices_order2Ordered_int]; exact hp)

end Go.Ab

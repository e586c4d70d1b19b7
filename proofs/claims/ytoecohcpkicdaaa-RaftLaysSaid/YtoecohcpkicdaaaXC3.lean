/-
  The program's code, resolved, and its shallow form (printed by a program). No condition.
-/
import Derived.Test.YtoecohcpkicdaaaXC
import Derived.Test.YtoecohcpkicdaaaXCl
import Derived.KernelRfl
set_option linter.unusedVariables false
set_option linter.unusedSimpArgs false
set_option linter.unnecessarySimpa false
namespace Go.Ab
/-- strongroom/entries.own -/
def c_entries_own : AFunc := .mk 1 26 [.t 2] <|
  .seq (.reg [q 2 (.mv (.c (.l 4 [] .nil)))]) <|
  .seq (.reg [q 3 (.mv (.c (.l 4 [] .nil)))]) <|
  .seq (.seq (.reg [q 6 (.mv (.t 0)), q 7 (.len (.t 6)), q 8 (.mv (.c (.n .i64 0)))]) <|
  .block 0 <|
  .loop [3, 8] [6, 7] <|
  .seq (.reg [qs 9 (.bin .num .lss (.t 8) (.t 7))]) <|
  .seq (.cond (.t 9) (.skip) <|
  .exit 0) <|
  .seq (.block 1 <|
  .seq (.reg [q 10 (.ias (.t 6) (.t 8) 4), q 11 (.load (.t 10) 4 true), q 5 (.alloc [.n .i64 0, .n .i64 0, .l 1 [] .nil, .l 1 [] .nil]), qn (.store (.t 5) (.t 11) 4)]) <|
  .seq (.draw [qd (some 12) false [] (.fa (.t 5) 2 1 false), qd (some 13) false [0] (.load (.t 12) 1 false), qd (some 14) false [0, 1] (.call 60 [(.t 13)]), qd (some 15) false [] (.fa (.t 5) 3 1 false), qd (some 16) false [3] (.load (.t 15) 1 false), qd (some 17) false [0, 1, 2, 3, 4] (.call 23 [(.t 16)]), qd (some 18) false [0, 1, 2, 3, 4] (.fa (.t 5) 2 1 false), qd none false [0, 1, 2, 3, 4, 5, 6] (.store (.t 18) (.t 14) 1), qd (some 19) false [0, 1, 2, 3, 4, 5, 6, 7] (.fa (.t 5) 3 1 false), qd none false [0, 1, 2, 3, 4, 5, 6, 7, 8] (.store (.t 19) (.t 17) 1)]) <|
  .reg [q 20 (.mv (.t 3)), q 21 (.load (.t 5) 4 true), q 22 (.mks 4 [(.t 21)]), q 23 (.app (.t 20) (.t 22) 4 64), q 3 (.mv (.t 23))]) <|
  .reg [q 24 (.bin .num .add (.t 8) (.c (.n .i64 1))), q 8 (.mv (.t 24))]) <|
  .seq (.reg [q 25 (.mv (.t 3)), q 2 (.mv (.t 25))]) <|
  .ret

/-- strongroom/entries.own -/
def p_entries_own (E : Env) (a0 : V) (s : St) (K : V → St → Prop) : Prop :=
 optP (lenV a0) s fun v0 s1 =>
 ∃ I2 : Nat → List V → St → Prop, (∃ n3, I2 n3 [(.l 4 [] .nil), (.n .i64 0)] s1) ∧ ∀ n3, ∀ x5 : V, ∀ x6 : V, ∀ s4, I2 n3 [x5, x6] s4 →
 optP (binV .num .lss x6 v0) s4 fun v8 s9 =>
 splitP v8 (
 optP (iasV a0 x6 4) s9 fun v10 s11 =>
 optP (ldV v10 4 true s11) s11 fun v12 s13 =>
 optW (allocW [.n .i64 0, .n .i64 0, .l 1 [] .nil, .l 1 [] .nil] s13) fun v14 s15 =>
 optW (storeV v14 v12 4 s15) fun v16 s17 =>
 optP (faV v14 2 1 false) s17 fun v18 s19 =>
 optP (ldV v18 1 false s19) s19 fun v20 s21 =>
 (True) ∧ ACalls E 60 [v20] s21 fun v22 s23 =>
 (True) ∧ optP (faV v14 3 1 false) s23 fun v24 s25 =>
 optP (ldV v24 1 false s25) s25 fun v26 s27 =>
 (ldV v24 1 false s21 = some v26 ∧ True) ∧ ACalls E 23 [v26] s27 fun v28 s29 =>
 (True) ∧ optP (faV v14 2 1 false) s29 fun v30 s31 =>
 optW (storeV v30 v22 1 s31) fun v32 s33 =>
 (True) ∧ optP (faV v14 3 1 false) s33 fun v34 s35 =>
 optW (storeV v34 v28 1 s35) fun v36 s37 =>
 (True) ∧ optP (ldV v14 4 true s37) s37 fun v38 s39 =>
 optP (mksV 4 [v38]) s39 fun v40 s41 =>
 optW (appV x5 v40 4 64 s41) fun v42 s43 =>
 optP (binV .num .add x6 (.n .i64 1)) s43 fun v44 s45 =>
 (a0 : V) = a0 ∧ (v0 : V) = v0 ∧ ∃ n7, n7 < n3 ∧ I2 n7 [v42, v44] s45) (
 K x5 s9)
theorem e_entries_own (E : Env) (a0 : V) (s : St) (K : V → St → Prop) : axF E c_entries_own [a0] s K = p_entries_own E a0 s K := by kernel_rfl
theorem g_entries_own {E : Env} {a0 : V} {s : St} {K : V → St → Prop} (h : chkF E.P E.m (E.m 59) c_entries_own = true) (hp : p_entries_own E a0 s K) : ACalls E 59 [a0] s K :=
  acalls h rfl (by rw [e_entries_own]; exact hp)

/-- slices.Clone[[]byte,byte] -/
def c_slices_Clone_byte_byte : AFunc := .mk 1 8 [.t 2] <|
  .seq (.reg [q 2 (.mv (.c (.l 1 [] .nil)))]) <|
  .seq (.seq (.reg [q 3 (.mv (.t 0)), qs 4 (.bin .slice .eql (.t 3) (.c (.l 1 [] .nil)))]) <|
  .cond (.t 4) (.seq (.reg [q 2 (.mv (.c (.l 1 [] .nil)))]) <|
  .ret) <|
  .skip) <|
  .seq (.reg [q 5 (.mks 1 []), q 6 (.mv (.t 0)), q 7 (.app (.t 5) (.t 6) 1 1), q 2 (.mv (.t 7))]) <|
  .ret

/-- slices.Clone[[]byte,byte] -/
def p_slices_Clone_byte_byte (E : Env) (a0 : V) (s : St) (K : V → St → Prop) : Prop :=
 optP (binV .slice .eql a0 (.l 1 [] .nil)) s fun v0 s1 =>
 splitP v0 (
 K (.l 1 [] .nil) s1) (
 optP (mksV 1 []) s1 fun v2 s3 =>
 optW (appV v2 a0 1 1 s3) fun v4 s5 =>
 K v4 s5)
theorem e_slices_Clone_byte_byte (E : Env) (a0 : V) (s : St) (K : V → St → Prop) : axF E c_slices_Clone_byte_byte [a0] s K = p_slices_Clone_byte_byte E a0 s K := by kernel_rfl
theorem g_slices_Clone_byte_byte {E : Env} {a0 : V} {s : St} {K : V → St → Prop} (h : chkF E.P E.m (E.m 60) c_slices_Clone_byte_byte = true) (hp : p_slices_Clone_byte_byte E a0 s K) : ACalls E 60 [a0] s K :=
  acalls h rfl (by rw [e_slices_Clone_byte_byte]; exact hp)

/-- strongroom/quorum.Has -/
def c_quorum_Has : AFunc := .mk 2 8 [.t 4] <|
  .seq (.reg [q 4 (.mv (.c (.b false)))]) <|
  .seq (.reg [q 5 (.mv (.t 0)), q 6 (.mv (.t 1)), qs 7 (.call 82 [(.t 5), (.t 6)]), q 4 (.mv (.t 7))]) <|
  .ret

/-- strongroom/quorum.Has -/
def p_quorum_Has (E : Env) (a0 a1 : V) (s : St) (K : V → St → Prop) : Prop :=
 ACalls E 82 [a0, a1] s fun v0 s1 =>
 splitP v0 (
 K (.b true) s1) (
 K (.b false) s1)
theorem e_quorum_Has (E : Env) (a0 a1 : V) (s : St) (K : V → St → Prop) : axF E c_quorum_Has [a0, a1] s K = p_quorum_Has E a0 a1 s K := by kernel_rfl
theorem g_quorum_Has {E : Env} {a0 a1 : V} {s : St} {K : V → St → Prop} (h : chkF E.P E.m (E.m 61) c_quorum_Has = true) (hp : p_quorum_Has E a0 a1 s K) : ACalls E 61 [a0, a1] s K :=
  acalls h rfl (by rw [e_quorum_Has]; exact hp)

/-- (*strongroom/raft.Raft).others -/
def c_raft_Raft_others : AFunc := .mk 2 23 [] <|
  .seq (.reg [q 6 (.mv (.t 0)), q 7 (.call 24 [(.t 6)]), q 8 (.len (.t 7)), q 9 (.mv (.c (.n .i64 0)))]) <|
  .block 0 <|
  .loop [9] [0, 1, 7, 8] <|
  .seq (.reg [qs 10 (.bin .num .lss (.t 9) (.t 8))]) <|
  .seq (.cond (.t 10) (.skip) <|
  .exit 0) <|
  .seq (.block 1 <|
  .seq (.reg [q 11 (.ias (.t 7) (.t 9) 1), q 12 (.load (.t 11) 1 false), q 5 (.mv (.t 12))]) <|
  .seq (.reg [q 13 (.mv (.t 5)), q 14 (.mv (.t 0)), q 15 (.nilchk (.t 14)), q 16 (.fa (.t 15) 0 1 false), q 17 (.load (.t 16) 1 false), qs 18 (.bin .num .neq (.t 13) (.t 17))]) <|
  .cond (.t 18) (.reg [q 19 (.mv (.t 1)), q 20 (.mv (.t 5)), q 21 (.callv (.t 19) [(.t 20)])]) <|
  .skip) <|
  .reg [q 22 (.bin .num .add (.t 9) (.c (.n .i64 1))), q 9 (.mv (.t 22))]

/-- (*strongroom/raft.Raft).others -/
def p_raft_Raft_others (E : Env) (a0 a1 : V) (s : St) (K : V → St → Prop) : Prop :=
 ACalls E 24 [a0] s fun v0 s1 =>
 optP (lenV v0) s1 fun v2 s3 =>
 ∃ I4 : Nat → List V → St → Prop, (∃ n5, I4 n5 [(.n .i64 0)] s3) ∧ ∀ n5, ∀ x7 : V, ∀ s6, I4 n5 [x7] s6 →
 optP (binV .num .lss x7 v2) s6 fun v9 s10 =>
 splitP v9 (
 let k11 : St → Prop := (fun s12 =>
 optP (binV .num .add x7 (.n .i64 1)) s12 fun v13 s14 =>
 (a0 : V) = a0 ∧ (a1 : V) = a1 ∧ (v0 : V) = v0 ∧ (v2 : V) = v2 ∧ ∃ n8, n8 < n5 ∧ I4 n8 [v13] s14);
 optP (iasV v0 x7 1) s10 fun v15 s16 =>
 optP (ldV v15 1 false s16) s16 fun v17 s18 =>
 optP (nilV a0) s18 fun v19 s20 =>
 optP (faV v19 0 1 false) s20 fun v21 s22 =>
 optP (ldV v21 1 false s22) s22 fun v23 s24 =>
 optP (binV .num .neq v17 v23) s24 fun v25 s26 =>
 splitP v25 (
 callV E a1 [v17] s26 fun v27 s28 =>
 k11 s28) (
 k11 s26)) (
 K (.tup []) s10)
theorem e_raft_Raft_others (E : Env) (a0 a1 : V) (s : St) (K : V → St → Prop) : axF E c_raft_Raft_others [a0, a1] s K = p_raft_Raft_others E a0 a1 s K := by kernel_rfl
theorem g_raft_Raft_others {E : Env} {a0 a1 : V} {s : St} {K : V → St → Prop} (h : chkF E.P E.m (E.m 62) c_raft_Raft_others = true) (hp : p_raft_Raft_others E a0 a1 s K) : ACalls E 62 [a0, a1] s K :=
  acalls h rfl (by rw [e_raft_Raft_others]; exact hp)

/-- (*strongroom/raft.Raft).sendTo -/
def c_raft_Raft_sendTo : AFunc := .mk 2 87 [] <|
  .seq (.reg [q 10 (.mv (.t 0)), q 11 (.mv (.t 1)), q 12 (.nilchk (.t 10)), q 13 (.fa (.t 12) 14 16 true), q 14 (.iaa (.t 13) (.t 11) 8 2), q 15 (.fa (.t 14) 0 1 false), q 16 (.load (.t 15) 1 false), q 17 (.bin .num .sub (.t 16) (.c (.n .i64 1))), q 4 (.mv (.t 17))]) <|
  .seq (.draw [qd (some 18) false [] (.mv (.t 1)), qd (some 19) false [] (.mv (.t 0)), qd (some 20) false [1] (.nilchk (.t 19)), qd (some 21) false [1, 2] (.fa (.t 20) 1 2 true), qd (some 22) false [1, 2, 3] (.fa (.t 21) 0 1 false), qd (some 23) false [1, 2, 3, 4] (.load (.t 22) 1 false), qd (some 24) false [] (.mv (.t 4)), qd (some 25) false [] (.mv (.t 0)), qd (some 26) false [7] (.nilchk (.t 25)), qd (some 27) false [7, 8] (.fa (.t 26) 6 1 false), qd (some 28) false [7, 8, 9] (.load (.t 27) 1 false), qd (some 29) false [0, 1, 2, 3, 4, 5, 6, 7, 8, 9, 10] (.build [.n .i64 0, .n .i64 0, .n .i64 0, .n .i64 0, .n .i64 0, .n .i64 0, .n .i64 0, .b false, .l 4 [] .nil, .l 1 [] .nil, .l 1 [] .nil] [(0, 1, (.c (.n .i64 5))), (2, 1, (.t 18)), (3, 1, (.t 23)), (4, 1, (.t 24)), (6, 1, (.t 28))]), qd (some 5) false [] (.alloc [.n .i64 0, .n .i64 0, .n .i64 0, .n .i64 0, .n .i64 0, .n .i64 0, .n .i64 0, .b false, .l 4 [] .nil, .l 1 [] .nil, .l 1 [] .nil]), qd none false [0, 1, 2, 3, 4, 5, 6, 7, 8, 9, 10, 11, 12] (.store (.t 5) (.t 29) 11)]) <|
  .seq (.seq (.reg [q 30 (.mv (.t 0)), q 31 (.nilchk (.t 30)), q 32 (.fa (.t 31) 5 1 false), q 33 (.load (.t 32) 1 false), q 34 (.call 21 [(.t 33)]), q 35 (.bin .num .sub (.t 34) (.c (.n .i64 1))), q 6 (.mv (.t 35))]) <|
  .seq (.reg [q 36 (.mv (.t 4)), q 37 (.mv (.t 6)), qs 38 (.bin .num .lss (.t 36) (.t 37))]) <|
  .cond (.t 38) (.seq (.reg [q 39 (.mv (.t 0)), q 40 (.nilchk (.t 39)), q 41 (.fa (.t 40) 7 4 true), q 42 (.load (.t 41) 4 true), q 43 (.call 34 [(.t 42)]), q 7 (.alloc [.n .i64 0, .n .i64 0, .l 1 [] .nil, .l 1 [] .nil]), qn (.store (.t 7) (.t 43) 4)]) <|
  .seq (.reg [q 45 (.mv (.t 0)), q 46 (.nilchk (.t 45)), q 47 (.fa (.t 46) 5 1 false), q 48 (.load (.t 47) 1 false), q 49 (.mv (.t 6)), q 50 (.call 42 [(.t 48), (.t 49)]), q 44 (.mv (.t 50)), q 51 (.ext (.t 44) 0), q 52 (.ext (.t 44) 1), q 8 (.mv (.t 51)), q 9 (.mv (.t 52))]) <|
  .draw [qd (some 53) false [] (.mv (.t 1)), qd (some 54) false [] (.mv (.t 0)), qd (some 55) false [1] (.nilchk (.t 54)), qd (some 56) false [1, 2] (.fa (.t 55) 1 2 true), qd (some 57) false [1, 2, 3] (.fa (.t 56) 0 1 false), qd (some 58) false [1, 2, 3, 4] (.load (.t 57) 1 false), qd (some 59) false [] (.mv (.t 6)), qd (some 60) false [] (.mv (.t 8)), qd (some 61) false [] (.fa (.t 7) 2 1 false), qd (some 62) false [8] (.load (.t 61) 1 false), qd (some 63) false [] (.fa (.t 7) 3 1 false), qd (some 64) false [10] (.load (.t 63) 1 false), qd (some 65) false [0, 1, 2, 3, 4, 5, 6, 7, 8, 9, 10, 11] (.build [.n .i64 0, .n .i64 0, .n .i64 0, .n .i64 0, .n .i64 0, .n .i64 0, .n .i64 0, .b false, .l 4 [] .nil, .l 1 [] .nil, .l 1 [] .nil] [(0, 1, (.c (.n .i64 7))), (2, 1, (.t 53)), (3, 1, (.t 58)), (4, 1, (.t 59)), (5, 1, (.t 60)), (9, 1, (.t 62)), (10, 1, (.t 64))]), qd none false [0, 1, 2, 3, 4, 5, 6, 7, 8, 9, 10, 11, 12] (.store (.t 5) (.t 65) 11)]) <|
  .seq (.reg [q 67 (.mv (.t 0)), q 68 (.nilchk (.t 67)), q 69 (.fa (.t 68) 5 1 false), q 70 (.load (.t 69) 1 false), q 71 (.mv (.t 4)), q 72 (.call 42 [(.t 70), (.t 71)]), q 66 (.mv (.t 72)), q 73 (.ext (.t 66) 0), q 74 (.ext (.t 66) 1), q 75 (.fa (.t 5) 5 1 false), qn (.store (.t 75) (.t 73) 1)]) <|
  .reg [q 76 (.mv (.t 0)), q 77 (.nilchk (.t 76)), q 78 (.fa (.t 77) 5 1 false), q 79 (.load (.t 78) 1 false), q 80 (.mv (.t 4)), q 81 (.bin .num .add (.t 80) (.c (.n .i64 1))), q 82 (.call 77 [(.t 79), (.t 81), (.c (.n .i64 8))]), q 83 (.fa (.t 5) 8 1 false), qn (.store (.t 83) (.t 82) 1)]) <|
  .reg [q 84 (.mv (.t 0)), q 85 (.load (.t 5) 11 true), q 86 (.call 50 [(.t 84), (.t 85)])]

/-- (*strongroom/raft.Raft).sendTo -/
def p_raft_Raft_sendTo (E : Env) (a0 a1 : V) (s : St) (K : V → St → Prop) : Prop :=
 optP (nilV a0) s fun v0 s1 =>
 optP (faV v0 14 16 true) s1 fun v2 s3 =>
 optP (iaaV v2 a1 8 2) s3 fun v4 s5 =>
 optP (faV v4 0 1 false) s5 fun v6 s7 =>
 optP (ldV v6 1 false s7) s7 fun v8 s9 =>
 optP (binV .num .sub v8 (.n .i64 1)) s9 fun v10 s11 =>
 optP (nilV a0) s11 fun v12 s13 =>
 optP (faV v12 1 2 true) s13 fun v14 s15 =>
 optP (faV v14 0 1 false) s15 fun v16 s17 =>
 optP (ldV v16 1 false s17) s17 fun v18 s19 =>
 (True) ∧ optP (nilV a0) s19 fun v20 s21 =>
 optP (faV v20 6 1 false) s21 fun v22 s23 =>
 optP (ldV v22 1 false s23) s23 fun v24 s25 =>
 (True) ∧ optP (buildV [.n .i64 0, .n .i64 0, .n .i64 0, .n .i64 0, .n .i64 0, .n .i64 0, .n .i64 0, .b false, .l 4 [] .nil, .l 1 [] .nil, .l 1 [] .nil] [(0, 1, (.n .i64 5)), (2, 1, a1), (3, 1, v18), (4, 1, v10), (6, 1, v24)]) s25 fun v26 s27 =>
 optW (allocW [.n .i64 0, .n .i64 0, .n .i64 0, .n .i64 0, .n .i64 0, .n .i64 0, .n .i64 0, .b false, .l 4 [] .nil, .l 1 [] .nil, .l 1 [] .nil] s27) fun v28 s29 =>
 (ldV v16 1 false s29 = some v18 ∧ ldV v22 1 false s29 = some v24 ∧ True) ∧ optW (storeV v28 v26 11 s29) fun v30 s31 =>
 (True) ∧ let k32 : St → Prop := (fun s33 =>
 optP (ldV v28 11 true s33) s33 fun v34 s35 =>
 ACalls E 50 [a0, v34] s35 fun v36 s37 =>
 K (.tup []) s37);
 optP (nilV a0) s31 fun v38 s39 =>
 optP (faV v38 5 1 false) s39 fun v40 s41 =>
 optP (ldV v40 1 false s41) s41 fun v42 s43 =>
 ACalls E 21 [v42] s43 fun v44 s45 =>
 optP (binV .num .sub v44 (.n .i64 1)) s45 fun v46 s47 =>
 optP (binV .num .lss v10 v46) s47 fun v48 s49 =>
 splitP v48 (
 optP (nilV a0) s49 fun v50 s51 =>
 optP (faV v50 7 4 true) s51 fun v52 s53 =>
 optP (ldV v52 4 true s53) s53 fun v54 s55 =>
 ACalls E 34 [v54] s55 fun v56 s57 =>
 optW (allocW [.n .i64 0, .n .i64 0, .l 1 [] .nil, .l 1 [] .nil] s57) fun v58 s59 =>
 optW (storeV v58 v56 4 s59) fun v60 s61 =>
 optP (nilV a0) s61 fun v62 s63 =>
 optP (faV v62 5 1 false) s63 fun v64 s65 =>
 optP (ldV v64 1 false s65) s65 fun v66 s67 =>
 ACalls E 42 [v66, v46] s67 fun v68 s69 =>
 optP (extV v68 0) s69 fun v70 s71 =>
 optP (extV v68 1) s71 fun v72 s73 =>
 optP (nilV a0) s73 fun v74 s75 =>
 optP (faV v74 1 2 true) s75 fun v76 s77 =>
 optP (faV v76 0 1 false) s77 fun v78 s79 =>
 optP (ldV v78 1 false s79) s79 fun v80 s81 =>
 (True) ∧ optP (faV v58 2 1 false) s81 fun v82 s83 =>
 optP (ldV v82 1 false s83) s83 fun v84 s85 =>
 (True) ∧ optP (faV v58 3 1 false) s85 fun v86 s87 =>
 optP (ldV v86 1 false s87) s87 fun v88 s89 =>
 (True) ∧ optP (buildV [.n .i64 0, .n .i64 0, .n .i64 0, .n .i64 0, .n .i64 0, .n .i64 0, .n .i64 0, .b false, .l 4 [] .nil, .l 1 [] .nil, .l 1 [] .nil] [(0, 1, (.n .i64 7)), (2, 1, a1), (3, 1, v80), (4, 1, v46), (5, 1, v70), (9, 1, v84), (10, 1, v88)]) s89 fun v90 s91 =>
 optW (storeV v28 v90 11 s91) fun v92 s93 =>
 (True) ∧ k32 s93) (
 optP (nilV a0) s49 fun v94 s95 =>
 optP (faV v94 5 1 false) s95 fun v96 s97 =>
 optP (ldV v96 1 false s97) s97 fun v98 s99 =>
 ACalls E 42 [v98, v10] s99 fun v100 s101 =>
 optP (extV v100 0) s101 fun v102 s103 =>
 optP (extV v100 1) s103 fun v104 s105 =>
 optP (faV v28 5 1 false) s105 fun v106 s107 =>
 optW (storeV v106 v102 1 s107) fun v108 s109 =>
 optP (nilV a0) s109 fun v110 s111 =>
 optP (faV v110 5 1 false) s111 fun v112 s113 =>
 optP (ldV v112 1 false s113) s113 fun v114 s115 =>
 optP (binV .num .add v10 (.n .i64 1)) s115 fun v116 s117 =>
 ACalls E 77 [v114, v116, (.n .i64 8)] s117 fun v118 s119 =>
 optP (faV v28 8 1 false) s119 fun v120 s121 =>
 optW (storeV v120 v118 1 s121) fun v122 s123 =>
 k32 s123)
theorem e_raft_Raft_sendTo (E : Env) (a0 a1 : V) (s : St) (K : V → St → Prop) : axF E c_raft_Raft_sendTo [a0, a1] s K = p_raft_Raft_sendTo E a0 a1 s K := by kernel_rfl
theorem g_raft_Raft_sendTo {E : Env} {a0 a1 : V} {s : St} {K : V → St → Prop} (h : chkF E.P E.m (E.m 63) c_raft_Raft_sendTo = true) (hp : p_raft_Raft_sendTo E a0 a1 s K) : ACalls E 63 [a0, a1] s K :=
  acalls h rfl (by rw [e_raft_Raft_sendTo]; exact hp)

/-- (*strongroom/raft.Raft).asks -/
def c_raft_Raft_asks : AFunc := .mk 3 16 [] <|
  .seq (.reg [q 3 (.box (.t 0)), q 4 (.box (.t 1)), q 5 (.box (.t 2))]) <|
  .seq (.reg [q 9 (.load (.t 3) 1 false), q 10 (.call 83 [(.t 9)]), q 8 (.mv (.t 10)), q 11 (.ext (.t 8) 0), q 12 (.ext (.t 8) 1), q 6 (.alloc [.n .i64 0]), q 7 (.alloc [.n .i64 0]), qn (.store (.t 6) (.t 11) 1), qn (.store (.t 7) (.t 12) 1)]) <|
  .reg [q 13 (.load (.t 3) 1 false), q 14 (.mkf 84 [] [(.t 3), (.t 4), (.t 5), (.t 6), (.t 7)]), q 15 (.call 62 [(.t 13), (.t 14)])]

/-- (*strongroom/raft.Raft).asks -/
def p_raft_Raft_asks (E : Env) (a0 a1 a2 : V) (s : St) (K : V → St → Prop) : Prop :=
 optW (boxV a0 s) fun v0 s1 =>
 optW (boxV a1 s1) fun v2 s3 =>
 optW (boxV a2 s3) fun v4 s5 =>
 optP (ldV v0 1 false s5) s5 fun v6 s7 =>
 ACalls E 83 [v6] s7 fun v8 s9 =>
 optP (extV v8 0) s9 fun v10 s11 =>
 optP (extV v8 1) s11 fun v12 s13 =>
 optW (allocW [.n .i64 0] s13) fun v14 s15 =>
 optW (allocW [.n .i64 0] s15) fun v16 s17 =>
 optW (storeV v14 v10 1 s17) fun v18 s19 =>
 optW (storeV v16 v12 1 s19) fun v20 s21 =>
 optP (ldV v0 1 false s21) s21 fun v22 s23 =>
 ACalls E 62 [v22, (.f 84 [] [v0, v2, v4, v14, v16])] s23 fun v24 s25 =>
 K (.tup []) s25
theorem e_raft_Raft_asks (E : Env) (a0 a1 a2 : V) (s : St) (K : V → St → Prop) : axF E c_raft_Raft_asks [a0, a1, a2] s K = p_raft_Raft_asks E a0 a1 a2 s K := by kernel_rfl
theorem g_raft_Raft_asks {E : Env} {a0 a1 a2 : V} {s : St} {K : V → St → Prop} (h : chkF E.P E.m (E.m 64) c_raft_Raft_asks = true) (hp : p_raft_Raft_asks E a0 a1 a2 s K) : ACalls E 64 [a0, a1, a2] s K :=
  acalls h rfl (by rw [e_raft_Raft_asks]; exact hp)

/-- strongroom/wire.within -/
def c_wire_within : AFunc := .mk 3 15 [.t 6] <|
  .seq (.reg [q 6 (.mv (.c (.b false)))]) <|
  .seq (.reg [q 7 (.mv (.t 0)), q 8 (.mv (.t 1)), qs 9 (.bin .num .geq (.t 7) (.t 8)), q 10 (.mv (.t 9)), qg 11 false 10 true (.mv (.t 0)), qg 12 false 10 true (.mv (.t 2)), qg 13 true 10 true (.bin .num .leq (.t 11) (.t 12)), q 14 (.pick (.t 10) (.t 13) (.c (.b false))), q 6 (.mv (.t 14))]) <|
  .ret

/-- strongroom/wire.within -/
def p_wire_within (E : Env) (a0 a1 a2 : V) (s : St) (K : V → St → Prop) : Prop :=
 let k0 : St → Prop := (fun s1 =>
 K (.b false) s1);
 optP (binV .num .geq a0 a1) s fun v2 s3 =>
 splitP v2 (
 optP (binV .num .leq a0 a2) s3 fun v4 s5 =>
 splitP v4 (
 K (.b true) s5) (
 k0 s5)) (
 k0 s3)
theorem e_wire_within (E : Env) (a0 a1 a2 : V) (s : St) (K : V → St → Prop) : axF E c_wire_within [a0, a1, a2] s K = p_wire_within E a0 a1 a2 s K := by kernel_rfl
theorem g_wire_within {E : Env} {a0 a1 a2 : V} {s : St} {K : V → St → Prop} (h : chkF E.P E.m (E.m 65) c_wire_within = true) (hp : p_wire_within E a0 a1 a2 s K) : ACalls E 65 [a0, a1, a2] s K :=
  acalls h rfl (by rw [e_wire_within]; exact hp)

/-- slices.ContainsFunc[[]int,int] -/
def c_slices_ContainsFunc_int_int : AFunc := .mk 2 9 [.t 4] <|
  .seq (.reg [q 4 (.mv (.c (.b false)))]) <|
  .seq (.reg [q 5 (.mv (.t 0)), q 6 (.mv (.t 1)), q 7 (.call 85 [(.t 5), (.t 6)]), qs 8 (.bin .num .geq (.t 7) (.c (.n .i64 0))), q 4 (.mv (.t 8))]) <|
  .ret

/-- slices.ContainsFunc[[]int,int] -/
def p_slices_ContainsFunc_int_int (E : Env) (a0 a1 : V) (s : St) (K : V → St → Prop) : Prop :=
 ACalls E 85 [a0, a1] s fun v0 s1 =>
 optP (binV .num .geq v0 (.n .i64 0)) s1 fun v2 s3 =>
 splitP v2 (
 K (.b true) s3) (
 K (.b false) s3)
theorem e_slices_ContainsFunc_int_int (E : Env) (a0 a1 : V) (s : St) (K : V → St → Prop) : axF E c_slices_ContainsFunc_int_int [a0, a1] s K = p_slices_ContainsFunc_int_int E a0 a1 s K := by kernel_rfl
theorem g_slices_ContainsFunc_int_int {E : Env} {a0 a1 : V} {s : St} {K : V → St → Prop} (h : chkF E.P E.m (E.m 66) c_slices_ContainsFunc_int_int = true) (hp : p_slices_ContainsFunc_int_int E a0 a1 s K) : ACalls E 66 [a0, a1] s K :=
  acalls h rfl (by rw [e_slices_ContainsFunc_int_int]; exact hp)

/-- strongroom/wire.Entry$1 -/
def c_wire_Entry_c1 : AFunc := .mk 1 5 [.t 2] <|
  .seq (.reg [q 2 (.mv (.c (.b false)))]) <|
  .seq (.reg [q 3 (.mv (.t 0)), qs 4 (.bin .num .lss (.t 3) (.c (.n .i64 0))), q 2 (.mv (.t 4))]) <|
  .ret

/-- strongroom/wire.Entry$1 -/
def p_wire_Entry_c1 (E : Env) (a0 : V) (s : St) (K : V → St → Prop) : Prop :=
 optP (binV .num .lss a0 (.n .i64 0)) s fun v0 s1 =>
 splitP v0 (
 K (.b true) s1) (
 K (.b false) s1)
theorem e_wire_Entry_c1 (E : Env) (a0 : V) (s : St) (K : V → St → Prop) : axF E c_wire_Entry_c1 [a0] s K = p_wire_Entry_c1 E a0 s K := by kernel_rfl
theorem g_wire_Entry_c1 {E : Env} {a0 : V} {s : St} {K : V → St → Prop} (h : chkF E.P E.m (E.m 67) c_wire_Entry_c1 = true) (hp : p_wire_Entry_c1 E a0 s K) : ACalls E 67 [a0] s K :=
  acalls h rfl (by rw [e_wire_Entry_c1]; exact hp)

/-- strongroom/pack.PutText -/
def c_pack_PutText : AFunc := .mk 2 21 [.t 4, .t 5] <|
  .seq (.reg [q 4 (.mv (.c (.l 1 [] .nil))), q 5 (.mv (.c (.n .i64 0)))]) <|
  .seq (.seq (.reg [q 8 (.mv (.t 1)), q 9 (.len (.t 8)), qs 10 (.bin .num .gtr (.t 9) (.c (.n .i64 4096)))]) <|
  .cond (.t 10) (.seq (.reg [q 4 (.mv (.c (.l 1 [] .nil))), q 5 (.mv (.c (.n .i64 2)))]) <|
  .ret) <|
  .skip) <|
  .seq (.reg [q 12 (.mv (.t 0)), q 13 (.mv (.t 1)), q 14 (.len (.t 13)), q 15 (.call 86 [(.t 12), (.t 14)]), q 11 (.mv (.t 15)), q 16 (.ext (.t 11) 0), q 17 (.ext (.t 11) 1), q 6 (.mv (.t 16)), q 7 (.mv (.t 17))]) <|
  .seq (.reg [q 18 (.mv (.t 6)), q 19 (.mv (.t 1)), q 20 (.app (.t 18) (.t 19) 1 1), q 4 (.mv (.t 20)), q 5 (.mv (.c (.n .i64 0)))]) <|
  .ret

/-- strongroom/pack.PutText -/
def p_pack_PutText (E : Env) (a0 a1 : V) (s : St) (K : V → St → Prop) : Prop :=
 optP (lenV a1) s fun v0 s1 =>
 optP (binV .num .gtr v0 (.n .i64 4096)) s1 fun v2 s3 =>
 splitP v2 (
 K (.tup [(.l 1 [] .nil), (.n .i64 2)]) s3) (
 optP (lenV a1) s3 fun v4 s5 =>
 ACalls E 86 [a0, v4] s5 fun v6 s7 =>
 optP (extV v6 0) s7 fun v8 s9 =>
 optP (extV v6 1) s9 fun v10 s11 =>
 optW (appV v8 a1 1 1 s11) fun v12 s13 =>
 K (.tup [v12, (.n .i64 0)]) s13)
theorem e_pack_PutText (E : Env) (a0 a1 : V) (s : St) (K : V → St → Prop) : axF E c_pack_PutText [a0, a1] s K = p_pack_PutText E a0 a1 s K := by kernel_rfl
theorem g_pack_PutText {E : Env} {a0 a1 : V} {s : St} {K : V → St → Prop} (h : chkF E.P E.m (E.m 68) c_pack_PutText = true) (hp : p_pack_PutText E a0 a1 s K) : ACalls E 68 [a0, a1] s K :=
  acalls h rfl (by rw [e_pack_PutText]; exact hp)

/-- strongroom/wire.numbers -/
def c_wire_numbers : AFunc := .mk 1 20 [.t 2] <|
  .seq (.reg [q 2 (.mv (.c (.l 1 [] .nil)))]) <|
  .seq (.reg [q 3 (.mv (.c (.l 1 [] .nil)))]) <|
  .seq (.seq (.reg [q 6 (.mv (.t 0)), q 7 (.len (.t 6)), q 8 (.mv (.c (.n .i64 0)))]) <|
  .block 0 <|
  .loop [3, 8] [6, 7] <|
  .seq (.reg [qs 9 (.bin .num .lss (.t 8) (.t 7))]) <|
  .seq (.cond (.t 9) (.skip) <|
  .exit 0) <|
  .seq (.block 1 <|
  .seq (.reg [q 10 (.ias (.t 6) (.t 8) 1), q 11 (.load (.t 10) 1 false), q 5 (.mv (.t 11))]) <|
  .reg [q 13 (.mv (.t 3)), q 14 (.mv (.t 5)), q 15 (.call 86 [(.t 13), (.t 14)]), q 12 (.mv (.t 15)), q 16 (.ext (.t 12) 0), q 17 (.ext (.t 12) 1), q 3 (.mv (.t 16))]) <|
  .reg [q 18 (.bin .num .add (.t 8) (.c (.n .i64 1))), q 8 (.mv (.t 18))]) <|
  .seq (.reg [q 19 (.mv (.t 3)), q 2 (.mv (.t 19))]) <|
  .ret

/-- strongroom/wire.numbers -/
def p_wire_numbers (E : Env) (a0 : V) (s : St) (K : V → St → Prop) : Prop :=
 optP (lenV a0) s fun v0 s1 =>
 ∃ I2 : Nat → List V → St → Prop, (∃ n3, I2 n3 [(.l 1 [] .nil), (.n .i64 0)] s1) ∧ ∀ n3, ∀ x5 : V, ∀ x6 : V, ∀ s4, I2 n3 [x5, x6] s4 →
 optP (binV .num .lss x6 v0) s4 fun v8 s9 =>
 splitP v8 (
 optP (iasV a0 x6 1) s9 fun v10 s11 =>
 optP (ldV v10 1 false s11) s11 fun v12 s13 =>
 ACalls E 86 [x5, v12] s13 fun v14 s15 =>
 optP (extV v14 0) s15 fun v16 s17 =>
 optP (extV v14 1) s17 fun v18 s19 =>
 optP (binV .num .add x6 (.n .i64 1)) s19 fun v20 s21 =>
 (a0 : V) = a0 ∧ (v0 : V) = v0 ∧ ∃ n7, n7 < n3 ∧ I2 n7 [v16, v20] s21) (
 K x5 s9)
theorem e_wire_numbers (E : Env) (a0 : V) (s : St) (K : V → St → Prop) : axF E c_wire_numbers [a0] s K = p_wire_numbers E a0 s K := by kernel_rfl
theorem g_wire_numbers {E : Env} {a0 : V} {s : St} {K : V → St → Prop} (h : chkF E.P E.m (E.m 69) c_wire_numbers = true) (hp : p_wire_numbers E a0 s K) : ACalls E 69 [a0] s K :=
  acalls h rfl (by rw [e_wire_numbers]; exact hp)

/-- strongroom/pack.PutList -/
def c_pack_PutList : AFunc := .mk 2 34 [.t 4, .t 5] <|
  .seq (.reg [q 4 (.mv (.c (.l 1 [] .nil))), q 5 (.mv (.c (.n .i64 0)))]) <|
  .seq (.seq (.reg [q 8 (.mv (.t 1)), q 9 (.len (.t 8)), qs 10 (.bin .num .gtr (.t 9) (.c (.n .i64 4096)))]) <|
  .cond (.t 10) (.seq (.reg [q 4 (.mv (.c (.l 1 [] .nil))), q 5 (.mv (.c (.n .i64 2)))]) <|
  .ret) <|
  .skip) <|
  .seq (.seq (.reg [q 11 (.mv (.t 1)), qs 12 (.call 66 [(.t 11), (.c (.f 87 [] []))])]) <|
  .cond (.t 12) (.seq (.reg [q 4 (.mv (.c (.l 1 [] .nil))), q 5 (.mv (.c (.n .i64 1)))]) <|
  .ret) <|
  .skip) <|
  .seq (.reg [q 14 (.mv (.t 0)), q 15 (.mv (.t 1)), q 16 (.len (.t 15)), q 17 (.call 86 [(.t 14), (.t 16)]), q 13 (.mv (.t 17)), q 18 (.ext (.t 13) 0), q 19 (.ext (.t 13) 1), q 0 (.mv (.t 18))]) <|
  .seq (.seq (.reg [q 20 (.mv (.t 1)), q 21 (.len (.t 20)), q 22 (.mv (.c (.n .i64 0)))]) <|
  .block 0 <|
  .loop [0, 22] [20, 21] <|
  .seq (.reg [qs 23 (.bin .num .lss (.t 22) (.t 21))]) <|
  .seq (.cond (.t 23) (.skip) <|
  .exit 0) <|
  .seq (.block 1 <|
  .seq (.reg [q 24 (.ias (.t 20) (.t 22) 1), q 25 (.load (.t 24) 1 false), q 7 (.mv (.t 25))]) <|
  .reg [q 27 (.mv (.t 0)), q 28 (.mv (.t 7)), q 29 (.call 86 [(.t 27), (.t 28)]), q 26 (.mv (.t 29)), q 30 (.ext (.t 26) 0), q 31 (.ext (.t 26) 1), q 0 (.mv (.t 30))]) <|
  .reg [q 32 (.bin .num .add (.t 22) (.c (.n .i64 1))), q 22 (.mv (.t 32))]) <|
  .seq (.reg [q 33 (.mv (.t 0)), q 4 (.mv (.t 33)), q 5 (.mv (.c (.n .i64 0)))]) <|
  .ret

/-- strongroom/pack.PutList -/
def p_pack_PutList (E : Env) (a0 a1 : V) (s : St) (K : V → St → Prop) : Prop :=
 optP (lenV a1) s fun v0 s1 =>
 optP (binV .num .gtr v0 (.n .i64 4096)) s1 fun v2 s3 =>
 splitP v2 (
 K (.tup [(.l 1 [] .nil), (.n .i64 2)]) s3) (
 ACalls E 66 [a1, (.f 87 [] [])] s3 fun v4 s5 =>
 splitP v4 (
 K (.tup [(.l 1 [] .nil), (.n .i64 1)]) s5) (
 optP (lenV a1) s5 fun v6 s7 =>
 ACalls E 86 [a0, v6] s7 fun v8 s9 =>
 optP (extV v8 0) s9 fun v10 s11 =>
 optP (extV v8 1) s11 fun v12 s13 =>
 optP (lenV a1) s13 fun v14 s15 =>
 ∃ I16 : Nat → List V → St → Prop, (∃ n17, I16 n17 [v10, (.n .i64 0)] s15) ∧ ∀ n17, ∀ x19 : V, ∀ x20 : V, ∀ s18, I16 n17 [x19, x20] s18 →
 optP (binV .num .lss x20 v14) s18 fun v22 s23 =>
 splitP v22 (
 optP (iasV a1 x20 1) s23 fun v24 s25 =>
 optP (ldV v24 1 false s25) s25 fun v26 s27 =>
 ACalls E 86 [x19, v26] s27 fun v28 s29 =>
 optP (extV v28 0) s29 fun v30 s31 =>
 optP (extV v28 1) s31 fun v32 s33 =>
 optP (binV .num .add x20 (.n .i64 1)) s33 fun v34 s35 =>
 (a1 : V) = a1 ∧ (v14 : V) = v14 ∧ ∃ n21, n21 < n17 ∧ I16 n21 [v30, v34] s35) (
 K (.tup [x19, (.n .i64 0)]) s23)))
theorem e_pack_PutList (E : Env) (a0 a1 : V) (s : St) (K : V → St → Prop) : axF E c_pack_PutList [a0, a1] s K = p_pack_PutList E a0 a1 s K := by kernel_rfl
theorem g_pack_PutList {E : Env} {a0 a1 : V} {s : St} {K : V → St → Prop} (h : chkF E.P E.m (E.m 70) c_pack_PutList = true) (hp : p_pack_PutList E a0 a1 s K) : ACalls E 70 [a0, a1] s K :=
  acalls h rfl (by rw [e_pack_PutList]; exact hp)

/-- strongroom/quorum.Change -/
def c_quorum_Change : AFunc := .mk 2 38 [.t 4, .t 5] <|
  .seq (.reg [q 4 (.mv (.c (.l 1 [] .nil))), q 5 (.mv (.c (.n .i64 0)))]) <|
  .seq (.seq (.reg [q 10 (.mv (.t 0)), q 11 (.call 35 [(.t 10)]), qs 12 (.bin .num .neq (.t 11) (.c (.n .i64 0)))]) <|
  .cond (.t 12) (.seq (.reg [q 4 (.mv (.c (.l 1 [] .nil))), q 5 (.mv (.c (.n .i64 192)))]) <|
  .ret) <|
  .skip) <|
  .seq (.reg [q 14 (.mv (.t 0)), q 15 (.mv (.t 1)), q 16 (.call 88 [(.t 14), (.t 15)]), q 13 (.mv (.t 16)), q 17 (.ext (.t 13) 0), qs 18 (.ext (.t 13) 1), q 6 (.mv (.t 17)), q 7 (.mv (.t 18))]) <|
  .seq (.reg [q 19 (.mv (.t 0)), q 20 (.call 23 [(.t 19)]), q 8 (.mv (.t 20))]) <|
  .seq (.seq (.reg [qs 21 (.mv (.t 7))]) <|
  .cond (.t 21) (.reg [q 22 (.mv (.t 8)), q 23 (.mv (.t 6)), q 24 (.mv (.t 6)), q 25 (.bin .num .add (.t 24) (.c (.n .i64 1))), q 26 (.call 89 [(.t 22), (.t 23), (.t 25)]), q 8 (.mv (.t 26))]) <|
  .reg [q 27 (.mv (.t 8)), q 28 (.mv (.t 6)), q 29 (.mv (.t 1)), q 30 (.mks 1 [(.t 29)]), q 31 (.call 90 [(.t 27), (.t 28), (.t 30)]), q 8 (.mv (.t 31))]) <|
  .seq (.seq (.reg [q 32 (.mv (.t 8)), q 33 (.call 35 [(.t 32)]), q 9 (.mv (.t 33))]) <|
  .seq (.reg [q 34 (.mv (.t 9)), qs 35 (.bin .num .neq (.t 34) (.c (.n .i64 0)))]) <|
  .cond (.t 35) (.seq (.reg [q 36 (.mv (.t 9)), q 4 (.mv (.c (.l 1 [] .nil))), q 5 (.mv (.t 36))]) <|
  .ret) <|
  .skip) <|
  .seq (.reg [q 37 (.mv (.t 8)), q 4 (.mv (.t 37)), q 5 (.mv (.c (.n .i64 0)))]) <|
  .ret

/-- strongroom/quorum.Change -/
def p_quorum_Change (E : Env) (a0 a1 : V) (s : St) (K : V → St → Prop) : Prop :=
 ACalls E 35 [a0] s fun v0 s1 =>
 optP (binV .num .neq v0 (.n .i64 0)) s1 fun v2 s3 =>
 splitP v2 (
 K (.tup [(.l 1 [] .nil), (.n .i64 192)]) s3) (
 ACalls E 88 [a0, a1] s3 fun v4 s5 =>
 optP (extV v4 0) s5 fun v6 s7 =>
 optP (extV v4 1) s7 fun v8 s9 =>
 splitP v8 (
 ACalls E 23 [a0] s9 fun v10 s11 =>
 let k12 : V → St → Prop := (fun x14 s13 =>
 ACalls E 35 [x14] s13 fun v15 s16 =>
 optP (binV .num .neq v15 (.n .i64 0)) s16 fun v17 s18 =>
 splitP v17 (
 K (.tup [(.l 1 [] .nil), v15]) s18) (
 K (.tup [x14, (.n .i64 0)]) s18));
 splitP (.b true) (
 optP (binV .num .add v6 (.n .i64 1)) s11 fun v19 s20 =>
 ACalls E 89 [v10, v6, v19] s20 fun v21 s22 =>
 k12 v21 s22) (
 optP (mksV 1 [a1]) s11 fun v23 s24 =>
 ACalls E 90 [v10, v6, v23] s24 fun v25 s26 =>
 k12 v25 s26)) (
 ACalls E 23 [a0] s9 fun v27 s28 =>
 let k29 : V → St → Prop := (fun x31 s30 =>
 ACalls E 35 [x31] s30 fun v32 s33 =>
 optP (binV .num .neq v32 (.n .i64 0)) s33 fun v34 s35 =>
 splitP v34 (
 K (.tup [(.l 1 [] .nil), v32]) s35) (
 K (.tup [x31, (.n .i64 0)]) s35));
 splitP (.b false) (
 optP (binV .num .add v6 (.n .i64 1)) s28 fun v36 s37 =>
 ACalls E 89 [v27, v6, v36] s37 fun v38 s39 =>
 k29 v38 s39) (
 optP (mksV 1 [a1]) s28 fun v40 s41 =>
 ACalls E 90 [v27, v6, v40] s41 fun v42 s43 =>
 k29 v42 s43)))
theorem e_quorum_Change (E : Env) (a0 a1 : V) (s : St) (K : V → St → Prop) : axF E c_quorum_Change [a0, a1] s K = p_quorum_Change E a0 a1 s K := by kernel_rfl
theorem g_quorum_Change {E : Env} {a0 a1 : V} {s : St} {K : V → St → Prop} (h : chkF E.P E.m (E.m 71) c_quorum_Change = true) (hp : p_quorum_Change E a0 a1 s K) : ACalls E 71 [a0, a1] s K :=
  acalls h rfl (by rw [e_quorum_Change]; exact hp)

/-- slices.Equal[[]int,int] -/
def c_slices_Equal_int_int : AFunc := .mk 2 26 [.t 4] <|
  .seq (.reg [q 4 (.mv (.c (.b false)))]) <|
  .seq (.seq (.reg [q 6 (.mv (.t 0)), q 7 (.len (.t 6)), q 8 (.mv (.t 1)), q 9 (.len (.t 8)), qs 10 (.bin .num .neq (.t 7) (.t 9))]) <|
  .cond (.t 10) (.seq (.reg [q 4 (.mv (.c (.b false)))]) <|
  .ret) <|
  .skip) <|
  .seq (.seq (.reg [q 11 (.mv (.t 0)), q 12 (.len (.t 11)), q 13 (.mv (.c (.n .i64 0)))]) <|
  .block 0 <|
  .loop [13] [0, 1, 12] <|
  .seq (.reg [qs 14 (.bin .num .lss (.t 13) (.t 12))]) <|
  .seq (.cond (.t 14) (.skip) <|
  .exit 0) <|
  .seq (.block 1 <|
  .seq (.reg [q 15 (.mv (.t 13)), q 5 (.mv (.t 15))]) <|
  .seq (.draw [qd (some 16) false [] (.mv (.t 0)), qd (some 17) false [] (.mv (.t 5)), qd (some 18) false [0, 1] (.ias (.t 16) (.t 17) 1), qd (some 19) false [0, 1, 2] (.load (.t 18) 1 false), qd (some 20) false [] (.mv (.t 1)), qd (some 21) false [] (.mv (.t 5)), qd (some 22) false [4, 5] (.ias (.t 20) (.t 21) 1), qd (some 23) false [4, 5, 6] (.load (.t 22) 1 false), qd (some 24) true [0, 1, 2, 3, 4, 5, 6, 7] (.bin .num .neq (.t 19) (.t 23))]) <|
  .cond (.t 24) (.seq (.reg [q 4 (.mv (.c (.b false)))]) <|
  .ret) <|
  .skip) <|
  .reg [q 25 (.bin .num .add (.t 13) (.c (.n .i64 1))), q 13 (.mv (.t 25))]) <|
  .seq (.reg [q 4 (.mv (.c (.b true)))]) <|
  .ret

/-- slices.Equal[[]int,int] -/
def p_slices_Equal_int_int (E : Env) (a0 a1 : V) (s : St) (K : V → St → Prop) : Prop :=
 optP (lenV a0) s fun v0 s1 =>
 optP (lenV a1) s1 fun v2 s3 =>
 optP (binV .num .neq v0 v2) s3 fun v4 s5 =>
 splitP v4 (
 K (.b false) s5) (
 optP (lenV a0) s5 fun v6 s7 =>
 ∃ I8 : Nat → List V → St → Prop, (∃ n9, I8 n9 [(.n .i64 0)] s7) ∧ ∀ n9, ∀ x11 : V, ∀ s10, I8 n9 [x11] s10 →
 optP (binV .num .lss x11 v6) s10 fun v13 s14 =>
 splitP v13 (
 optP (iasV a0 x11 1) s14 fun v15 s16 =>
 optP (ldV v15 1 false s16) s16 fun v17 s18 =>
 (True) ∧ optP (iasV a1 x11 1) s18 fun v19 s20 =>
 optP (ldV v19 1 false s20) s20 fun v21 s22 =>
 (True) ∧ optP (binV .num .neq v17 v21) s22 fun v23 s24 =>
 splitP v23 (
 K (.b false) s24) (
 optP (binV .num .add x11 (.n .i64 1)) s24 fun v25 s26 =>
 (a0 : V) = a0 ∧ (a1 : V) = a1 ∧ (v6 : V) = v6 ∧ ∃ n12, n12 < n9 ∧ I8 n12 [v25] s26)) (
 K (.b true) s14))
theorem e_slices_Equal_int_int (E : Env) (a0 a1 : V) (s : St) (K : V → St → Prop) : axF E c_slices_Equal_int_int [a0, a1] s K = p_slices_Equal_int_int E a0 a1 s K := by kernel_rfl
theorem g_slices_Equal_int_int {E : Env} {a0 a1 : V} {s : St} {K : V → St → Prop} (h : chkF E.P E.m (E.m 72) c_slices_Equal_int_int = true) (hp : p_slices_Equal_int_int E a0 a1 s K) : ACalls E 72 [a0, a1] s K :=
  acalls h rfl (by rw [e_slices_Equal_int_int]; exact hp)

/-- (*strongroom/entries.Log).Append -/
def c_entries_Log_Append : AFunc := .mk 2 18 [.t 4] <|
  .seq (.reg [q 3 (.box (.t 1)), q 4 (.mv (.c (.n .i64 0)))]) <|
  .seq (.draw [qd (some 5) false [] (.mv (.t 0)), qd (some 6) false [] (.mv (.t 0)), qd (some 7) false [1] (.nilchk (.t 6)), qd (some 8) false [1, 2] (.fa (.t 7) 2 1 false), qd (some 9) false [1, 2, 3] (.load (.t 8) 1 false), qd (some 10) false [] (.load (.t 3) 4 true), qd (some 11) false [5] (.mks 4 [(.t 10)]), qd (some 12) false [5, 6] (.call 59 [(.t 11)]), qd (some 13) false [1, 2, 3, 4, 5, 6, 7] (.app (.t 9) (.t 12) 4 64), qd (some 14) false [0, 1, 2, 3, 4, 5, 6, 7, 8] (.nilchk (.t 5)), qd (some 15) false [0, 1, 2, 3, 4, 5, 6, 7, 8, 9] (.fa (.t 14) 2 1 false), qd none false [0, 1, 2, 3, 4, 5, 6, 7, 8, 9, 10] (.store (.t 15) (.t 13) 1)]) <|
  .seq (.reg [q 16 (.mv (.t 0)), q 17 (.call 22 [(.t 16)]), q 4 (.mv (.t 17))]) <|
  .ret

/-- (*strongroom/entries.Log).Append -/
def p_entries_Log_Append (E : Env) (a0 a1 : V) (s : St) (K : V → St → Prop) : Prop :=
 optW (boxV a1 s) fun v0 s1 =>
 optP (nilV a0) s1 fun v2 s3 =>
 optP (faV v2 2 1 false) s3 fun v4 s5 =>
 optP (ldV v4 1 false s5) s5 fun v6 s7 =>
 (True) ∧ optP (ldV v0 4 true s7) s7 fun v8 s9 =>
 (True) ∧ optP (mksV 4 [v8]) s9 fun v10 s11 =>
 ACalls E 59 [v10] s11 fun v12 s13 =>
 (ldV v4 1 false s13 = some v6 ∧ True) ∧ optW (appV v6 v12 4 64 s13) fun v14 s15 =>
 (True) ∧ optP (nilV a0) s15 fun v16 s17 =>
 optP (faV v16 2 1 false) s17 fun v18 s19 =>
 optW (storeV v18 v14 1 s19) fun v20 s21 =>
 (True) ∧ ACalls E 22 [a0] s21 fun v22 s23 =>
 K v22 s23
theorem e_entries_Log_Append (E : Env) (a0 a1 : V) (s : St) (K : V → St → Prop) : axF E c_entries_Log_Append [a0, a1] s K = p_entries_Log_Append E a0 a1 s K := by kernel_rfl
theorem g_entries_Log_Append {E : Env} {a0 a1 : V} {s : St} {K : V → St → Prop} (h : chkF E.P E.m (E.m 73) c_entries_Log_Append = true) (hp : p_entries_Log_Append E a0 a1 s K) : ACalls E 73 [a0, a1] s K :=
  acalls h rfl (by rw [e_entries_Log_Append]; exact hp)

/-- (*strongroom/raft.Raft).fresh -/
def c_raft_Raft_fresh : AFunc := .mk 2 19 [] <|
  .reg [q 4 (.mv (.t 0)), q 5 (.mv (.t 0)), q 6 (.mv (.t 1)), q 7 (.mv (.t 0)), q 8 (.nilchk (.t 7)), q 9 (.fa (.t 8) 5 1 false), q 10 (.load (.t 9) 1 false), q 11 (.mv (.t 1)), q 12 (.call 77 [(.t 10), (.t 11), (.c (.n .i64 1099511627776))]), q 13 (.nilchk (.t 4)), q 14 (.fa (.t 13) 30 10 true), q 15 (.fa (.t 14) 7 1 false), qn (.store (.t 15) (.t 6) 1), q 16 (.nilchk (.t 5)), q 17 (.fa (.t 16) 30 10 true), q 18 (.fa (.t 17) 8 1 false), qn (.store (.t 18) (.t 12) 1)]

/-- (*strongroom/raft.Raft).fresh -/
def p_raft_Raft_fresh (E : Env) (a0 a1 : V) (s : St) (K : V → St → Prop) : Prop :=
 optP (nilV a0) s fun v0 s1 =>
 optP (faV v0 5 1 false) s1 fun v2 s3 =>
 optP (ldV v2 1 false s3) s3 fun v4 s5 =>
 ACalls E 77 [v4, a1, (.n .i64 1099511627776)] s5 fun v6 s7 =>
 optP (nilV a0) s7 fun v8 s9 =>
 optP (faV v8 30 10 true) s9 fun v10 s11 =>
 optP (faV v10 7 1 false) s11 fun v12 s13 =>
 optW (storeV v12 a1 1 s13) fun v14 s15 =>
 optP (nilV a0) s15 fun v16 s17 =>
 optP (faV v16 30 10 true) s17 fun v18 s19 =>
 optP (faV v18 8 1 false) s19 fun v20 s21 =>
 optW (storeV v20 v6 1 s21) fun v22 s23 =>
 K (.tup []) s23
theorem e_raft_Raft_fresh (E : Env) (a0 a1 : V) (s : St) (K : V → St → Prop) : axF E c_raft_Raft_fresh [a0, a1] s K = p_raft_Raft_fresh E a0 a1 s K := by kernel_rfl
theorem g_raft_Raft_fresh {E : Env} {a0 a1 : V} {s : St} {K : V → St → Prop} (h : chkF E.P E.m (E.m 74) c_raft_Raft_fresh = true) (hp : p_raft_Raft_fresh E a0 a1 s K) : ACalls E 74 [a0, a1] s K :=
  acalls h rfl (by rw [e_raft_Raft_fresh]; exact hp)

/-- (*strongroom/raft.Raft).agree -/
def c_raft_Raft_agree : AFunc := .mk 1 90 [] <|
  .seq (.reg [q 2 (.alloc [.n .i64 0, .n .i64 0, .n .i64 0, .n .i64 0, .n .i64 0, .n .i64 0, .n .i64 0, .n .i64 0])]) <|
  .seq (.seq (.reg [q 10 (.mv (.t 0)), q 11 (.nilchk (.t 10)), q 12 (.fa (.t 11) 14 16 true), q 13 (.load (.t 12) 16 true), q 14 (.mv (.c (.n .i64 0)))]) <|
  .block 0 <|
  .loop [14] [0, 2, 13] <|
  .seq (.reg [qs 15 (.bin .num .lss (.t 14) (.c (.n .i64 8)))]) <|
  .seq (.cond (.t 15) (.skip) <|
  .exit 0) <|
  .seq (.block 1 <|
  .seq (.reg [q 16 (.mv (.t 14)), q 17 (.ixa (.t 13) (.t 14) 8 2 true), q 4 (.alloc [.n .i64 0, .n .i64 0]), q 3 (.mv (.t 16)), qn (.store (.t 4) (.t 17) 2)]) <|
  .reg [q 18 (.mv (.t 3)), q 19 (.fa (.t 4) 1 1 false), q 20 (.load (.t 19) 1 false), q 21 (.iaa (.t 2) (.t 18) 8 1), qn (.store (.t 21) (.t 20) 1)]) <|
  .reg [q 22 (.bin .num .add (.t 14) (.c (.n .i64 1))), q 14 (.mv (.t 22))]) <|
  .seq (.reg [q 24 (.mv (.t 0)), q 25 (.mv (.t 0)), q 26 (.nilchk (.t 25)), q 27 (.fa (.t 26) 5 1 false), q 28 (.load (.t 27) 1 false), q 29 (.call 22 [(.t 28)]), q 30 (.call 43 [(.t 24), (.t 29)]), q 23 (.mv (.t 30)), q 31 (.ext (.t 23) 0), q 32 (.ext (.t 23) 1), q 5 (.mv (.t 31)), q 6 (.mv (.t 32))]) <|
  .seq (.reg [q 33 (.mv (.t 5)), q 34 (.slca (.t 2) 8 1 false), q 35 (.call 91 [(.t 33), (.t 34)]), q 7 (.mv (.t 35))]) <|
  .seq (.seq (.reg [q 37 (.mv (.t 0)), q 38 (.nilchk (.t 37)), q 39 (.fa (.t 38) 5 1 false), q 40 (.load (.t 39) 1 false), q 41 (.mv (.t 7)), q 42 (.call 42 [(.t 40), (.t 41)]), q 36 (.mv (.t 42)), q 43 (.ext (.t 36) 0), q 44 (.ext (.t 36) 1), q 8 (.mv (.t 43)), q 9 (.mv (.t 44))]) <|
  .seq (.reg [q 45 (.mv (.t 7)), q 46 (.mv (.t 0)), q 47 (.nilchk (.t 46)), q 48 (.fa (.t 47) 6 1 false), q 49 (.load (.t 48) 1 false), qs 50 (.bin .num .gtr (.t 45) (.t 49)), q 51 (.mv (.t 50)), qg 52 false 51 true (.mv (.t 9)), qg 53 true 51 true (.bin .num .eql (.t 52) (.c (.n .i64 0))), q 54 (.pick (.t 51) (.t 53) (.c (.b false))), q 55 (.mv (.t 54)), qg 56 false 55 true (.mv (.t 8)), qg 57 false 55 true (.mv (.t 0)), qg 58 false 55 true (.nilchk (.t 57)), qg 59 false 55 true (.fa (.t 58) 1 2 true), qg 60 false 55 true (.fa (.t 59) 0 1 false), qg 61 false 55 true (.load (.t 60) 1 false), qg 62 true 55 true (.bin .num .eql (.t 56) (.t 61)), q 63 (.pick (.t 55) (.t 62) (.c (.b false)))]) <|
  .cond (.t 63) (.reg [q 64 (.mv (.t 0)), q 65 (.mv (.t 7)), q 66 (.nilchk (.t 64)), q 67 (.fa (.t 66) 6 1 false), qn (.store (.t 67) (.t 65) 1)]) <|
  .skip) <|
  .seq (.reg [q 68 (.mv (.t 5)), q 69 (.mv (.t 0)), q 70 (.nilchk (.t 69)), q 71 (.fa (.t 70) 0 1 false), q 72 (.load (.t 71) 1 false), qs 73 (.call 61 [(.t 68), (.t 72)]), q 74 (.un .not (.t 73)), q 75 (.mv (.t 74)), qg 76 false 75 true (.mv (.t 6)), qg 77 false 75 true (.mv (.t 0)), qg 78 false 75 true (.nilchk (.t 77)), qg 79 false 75 true (.fa (.t 78) 6 1 false), qg 80 false 75 true (.load (.t 79) 1 false), qg 81 true 75 true (.bin .num .leq (.t 76) (.t 80)), q 82 (.pick (.t 75) (.t 81) (.c (.b false)))]) <|
  .cond (.t 82) (.reg [q 83 (.mv (.t 0)), q 84 (.mv (.t 0)), q 85 (.nilchk (.t 84)), q 86 (.fa (.t 85) 1 2 true), q 87 (.fa (.t 86) 0 1 false), q 88 (.load (.t 87) 1 false), q 89 (.call 51 [(.t 83), (.t 88), (.c (.n .i64 0))])]) <|
  .skip

/-- (*strongroom/raft.Raft).agree -/
def p_raft_Raft_agree (E : Env) (a0 : V) (s : St) (K : V → St → Prop) : Prop :=
 optW (allocW [.n .i64 0, .n .i64 0, .n .i64 0, .n .i64 0, .n .i64 0, .n .i64 0, .n .i64 0, .n .i64 0] s) fun v0 s1 =>
 optP (nilV a0) s1 fun v2 s3 =>
 optP (faV v2 14 16 true) s3 fun v4 s5 =>
 optP (ldV v4 16 true s5) s5 fun v6 s7 =>
 ∃ I8 : Nat → List V → St → Prop, (∃ n9, I8 n9 [(.n .i64 0)] s7) ∧ ∀ n9, ∀ x11 : V, ∀ s10, I8 n9 [x11] s10 →
 optP (binV .num .lss x11 (.n .i64 8)) s10 fun v13 s14 =>
 splitP v13 (
 optP (ixaV v6 x11 8 2 true) s14 fun v15 s16 =>
 optW (allocW [.n .i64 0, .n .i64 0] s16) fun v17 s18 =>
 optW (storeV v17 v15 2 s18) fun v19 s20 =>
 optP (faV v17 1 1 false) s20 fun v21 s22 =>
 optP (ldV v21 1 false s22) s22 fun v23 s24 =>
 optP (iaaV v0 x11 8 1) s24 fun v25 s26 =>
 optW (storeV v25 v23 1 s26) fun v27 s28 =>
 optP (binV .num .add x11 (.n .i64 1)) s28 fun v29 s30 =>
 (a0 : V) = a0 ∧ (v0 : V) = v0 ∧ (v6 : V) = v6 ∧ ∃ n12, n12 < n9 ∧ I8 n12 [v29] s30) (
 optP (nilV a0) s14 fun v31 s32 =>
 optP (faV v31 5 1 false) s32 fun v33 s34 =>
 optP (ldV v33 1 false s34) s34 fun v35 s36 =>
 ACalls E 22 [v35] s36 fun v37 s38 =>
 ACalls E 43 [a0, v37] s38 fun v39 s40 =>
 optP (extV v39 0) s40 fun v41 s42 =>
 optP (extV v39 1) s42 fun v43 s44 =>
 optW (slcaV v0 8 1 false s44) fun v45 s46 =>
 ACalls E 91 [v41, v45] s46 fun v47 s48 =>
 let k49 : St → Prop := (fun s50 =>
 let k51 : St → Prop := (fun s52 =>
 K (.tup []) s52);
 optP (nilV a0) s50 fun v53 s54 =>
 optP (faV v53 0 1 false) s54 fun v55 s56 =>
 optP (ldV v55 1 false s56) s56 fun v57 s58 =>
 ACalls E 61 [v41, v57] s58 fun v59 s60 =>
 splitP v59 (
 k51 s60) (
 optP (nilV a0) s60 fun v61 s62 =>
 optP (faV v61 6 1 false) s62 fun v63 s64 =>
 optP (ldV v63 1 false s64) s64 fun v65 s66 =>
 optP (binV .num .leq v43 v65) s66 fun v67 s68 =>
 splitP v67 (
 optP (nilV a0) s68 fun v69 s70 =>
 optP (faV v69 1 2 true) s70 fun v71 s72 =>
 optP (faV v71 0 1 false) s72 fun v73 s74 =>
 optP (ldV v73 1 false s74) s74 fun v75 s76 =>
 ACalls E 51 [a0, v75, (.n .i64 0)] s76 fun v77 s78 =>
 K (.tup []) s78) (
 k51 s68)));
 optP (nilV a0) s48 fun v79 s80 =>
 optP (faV v79 5 1 false) s80 fun v81 s82 =>
 optP (ldV v81 1 false s82) s82 fun v83 s84 =>
 ACalls E 42 [v83, v47] s84 fun v85 s86 =>
 optP (extV v85 0) s86 fun v87 s88 =>
 optP (extV v85 1) s88 fun v89 s90 =>
 let k91 : St → Prop := (fun s92 =>
 k49 s92);
 optP (nilV a0) s90 fun v93 s94 =>
 optP (faV v93 6 1 false) s94 fun v95 s96 =>
 optP (ldV v95 1 false s96) s96 fun v97 s98 =>
 optP (binV .num .gtr v47 v97) s98 fun v99 s100 =>
 splitP v99 (
 optP (binV .num .eql v89 (.n .i64 0)) s100 fun v101 s102 =>
 splitP v101 (
 optP (nilV a0) s102 fun v103 s104 =>
 optP (faV v103 1 2 true) s104 fun v105 s106 =>
 optP (faV v105 0 1 false) s106 fun v107 s108 =>
 optP (ldV v107 1 false s108) s108 fun v109 s110 =>
 optP (binV .num .eql v87 v109) s110 fun v111 s112 =>
 splitP v111 (
 optP (nilV a0) s112 fun v113 s114 =>
 optP (faV v113 6 1 false) s114 fun v115 s116 =>
 optW (storeV v115 v47 1 s116) fun v117 s118 =>
 k49 s118) (
 k91 s112)) (
 k91 s102)) (
 k91 s100))
theorem e_raft_Raft_agree (E : Env) (a0 : V) (s : St) (K : V → St → Prop) : axF E c_raft_Raft_agree [a0] s K = p_raft_Raft_agree E a0 s K := by kernel_rfl
theorem g_raft_Raft_agree {E : Env} {a0 : V} {s : St} {K : V → St → Prop} (h : chkF E.P E.m (E.m 75) c_raft_Raft_agree = true) (hp : p_raft_Raft_agree E a0 s K) : ACalls E 75 [a0] s K :=
  acalls h rfl (by rw [e_raft_Raft_agree]; exact hp)

/-- (*strongroom/entries.Log).within -/
def c_entries_Log_within : AFunc := .mk 2 17 [.t 4] <|
  .seq (.reg [q 4 (.mv (.c (.b false)))]) <|
  .seq (.reg [q 5 (.mv (.t 1)), q 6 (.mv (.t 0)), q 7 (.nilchk (.t 6)), q 8 (.fa (.t 7) 0 1 false), q 9 (.load (.t 8) 1 false), qs 10 (.bin .num .gtr (.t 5) (.t 9)), q 11 (.mv (.t 10)), qg 12 false 11 true (.mv (.t 1)), qg 13 false 11 true (.mv (.t 0)), qg 14 false 11 true (.call 22 [(.t 13)]), qg 15 true 11 true (.bin .num .leq (.t 12) (.t 14)), q 16 (.pick (.t 11) (.t 15) (.c (.b false))), q 4 (.mv (.t 16))]) <|
  .ret

/-- (*strongroom/entries.Log).within -/
def p_entries_Log_within (E : Env) (a0 a1 : V) (s : St) (K : V → St → Prop) : Prop :=
 let k0 : St → Prop := (fun s1 =>
 K (.b false) s1);
 optP (nilV a0) s fun v2 s3 =>
 optP (faV v2 0 1 false) s3 fun v4 s5 =>
 optP (ldV v4 1 false s5) s5 fun v6 s7 =>
 optP (binV .num .gtr a1 v6) s7 fun v8 s9 =>
 splitP v8 (
 ACalls E 22 [a0] s9 fun v10 s11 =>
 optP (binV .num .leq a1 v10) s11 fun v12 s13 =>
 splitP v12 (
 K (.b true) s13) (
 k0 s13)) (
 k0 s9)
theorem e_entries_Log_within (E : Env) (a0 a1 : V) (s : St) (K : V → St → Prop) : axF E c_entries_Log_within [a0, a1] s K = p_entries_Log_within E a0 a1 s K := by kernel_rfl
theorem g_entries_Log_within {E : Env} {a0 a1 : V} {s : St} {K : V → St → Prop} (h : chkF E.P E.m (E.m 76) c_entries_Log_within = true) (hp : p_entries_Log_within E a0 a1 s K) : ACalls E 76 [a0, a1] s K :=
  acalls h rfl (by rw [e_entries_Log_within]; exact hp)

/-- (*strongroom/entries.Log).From -/
def c_entries_Log_From : AFunc := .mk 3 36 [.t 6] <|
  .seq (.reg [q 6 (.mv (.c (.l 4 [] .nil)))]) <|
  .seq (.reg [q 8 (.mv (.t 1)), q 9 (.mv (.t 0)), q 10 (.call 21 [(.t 9)]), q 11 (.mx [(.t 8), (.t 10)]), q 1 (.mv (.t 11))]) <|
  .seq (.seq (.reg [q 12 (.mv (.t 1)), q 13 (.mv (.t 0)), q 14 (.call 22 [(.t 13)]), qs 15 (.bin .num .gtr (.t 12) (.t 14)), q 16 (.mv (.t 15)), qg 17 false 16 false (.mv (.t 2)), qg 18 true 16 false (.bin .num .lss (.t 17) (.c (.n .i64 1))), q 19 (.pick (.t 16) (.c (.b true)) (.t 18))]) <|
  .cond (.t 19) (.seq (.reg [q 6 (.mv (.c (.l 4 [] .nil)))]) <|
  .ret) <|
  .skip) <|
  .seq (.draw [qd (some 20) false [] (.mv (.t 0)), qd (some 21) false [0] (.nilchk (.t 20)), qd (some 22) false [0, 1] (.fa (.t 21) 2 1 false), qd (some 23) false [0, 1, 2] (.load (.t 22) 1 false), qd (some 24) false [] (.mv (.t 1)), qd (some 25) false [] (.mv (.t 0)), qd (some 26) false [5] (.call 21 [(.t 25)]), qd (some 27) false [4, 5, 6] (.bin .num .sub (.t 24) (.t 26)), qd (some 28) false [0, 1, 2, 3, 4, 5, 6, 7] (.slc (.t 23) (some (.t 27)) none none 4), qd (some 7) false [0, 1, 2, 3, 4, 5, 6, 7, 8] (.mv (.t 28))]) <|
  .seq (.reg [q 29 (.mv (.t 7)), q 30 (.mv (.t 7)), q 31 (.len (.t 30)), q 32 (.mv (.t 2)), q 33 (.mn [(.t 31), (.t 32)]), q 34 (.slc (.t 29) none (some (.t 33)) none 4), q 35 (.call 59 [(.t 34)]), q 6 (.mv (.t 35))]) <|
  .ret

/-- (*strongroom/entries.Log).From -/
def p_entries_Log_From (E : Env) (a0 a1 a2 : V) (s : St) (K : V → St → Prop) : Prop :=
 ACalls E 21 [a0] s fun v0 s1 =>
 optP (maxV [a1, v0]) s1 fun v2 s3 =>
 let k4 : St → Prop := (fun s5 =>
 K (.l 4 [] .nil) s5);
 ACalls E 22 [a0] s3 fun v6 s7 =>
 optP (binV .num .gtr v2 v6) s7 fun v8 s9 =>
 splitP v8 (
 k4 s9) (
 optP (binV .num .lss a2 (.n .i64 1)) s9 fun v10 s11 =>
 splitP v10 (
 k4 s11) (
 optP (nilV a0) s11 fun v12 s13 =>
 optP (faV v12 2 1 false) s13 fun v14 s15 =>
 optP (ldV v14 1 false s15) s15 fun v16 s17 =>
 (True) ∧ ACalls E 21 [a0] s17 fun v18 s19 =>
 (ldV v14 1 false s19 = some v16 ∧ True) ∧ optP (binV .num .sub v2 v18) s19 fun v20 s21 =>
 optP (slcV v16 (some v20) none none 4) s21 fun v22 s23 =>
 optP (lenV v22) s23 fun v24 s25 =>
 optP (minV [v24, a2]) s25 fun v26 s27 =>
 optP (slcV v22 none (some v26) none 4) s27 fun v28 s29 =>
 ACalls E 59 [v28] s29 fun v30 s31 =>
 K v30 s31))
theorem e_entries_Log_From (E : Env) (a0 a1 a2 : V) (s : St) (K : V → St → Prop) : axF E c_entries_Log_From [a0, a1, a2] s K = p_entries_Log_From E a0 a1 a2 s K := by kernel_rfl
theorem g_entries_Log_From {E : Env} {a0 a1 a2 : V} {s : St} {K : V → St → Prop} (h : chkF E.P E.m (E.m 77) c_entries_Log_From = true) (hp : p_entries_Log_From E a0 a1 a2 s K) : ACalls E 77 [a0, a1, a2] s K :=
  acalls h rfl (by rw [e_entries_Log_From]; exact hp)

/-- (*strongroom/entries.Log).Base -/
def c_entries_Log_Base : AFunc := .mk 3 66 [.t 6] <|
  .seq (.reg [q 6 (.mv (.c (.n .i64 0)))]) <|
  .seq (.seq (.reg [q 9 (.mv (.t 1)), q 10 (.mv (.t 0)), q 11 (.nilchk (.t 10)), q 12 (.fa (.t 11) 0 1 false), q 13 (.load (.t 12) 1 false), qs 14 (.bin .num .lss (.t 9) (.t 13)), q 15 (.mv (.t 14)), qg 16 false 15 false (.mv (.t 1)), qg 17 true 15 false (.bin .num .gtr (.t 16) (.c (.n .i64 1099511627776))), q 18 (.pick (.t 15) (.c (.b true)) (.t 17))]) <|
  .cond (.t 18) (.seq (.reg [q 6 (.mv (.c (.n .i64 1)))]) <|
  .ret) <|
  .skip) <|
  .seq (.reg [q 20 (.mv (.t 0)), q 21 (.mv (.t 1)), q 22 (.call 42 [(.t 20), (.t 21)]), q 19 (.mv (.t 22)), q 23 (.ext (.t 19) 0), q 24 (.ext (.t 19) 1), q 7 (.mv (.t 23)), q 8 (.mv (.t 24))]) <|
  .seq (.seq (.reg [q 25 (.mv (.t 1)), q 26 (.mv (.t 0)), q 27 (.nilchk (.t 26)), q 28 (.fa (.t 27) 0 1 false), q 29 (.load (.t 28) 1 false), qs 30 (.bin .num .eql (.t 25) (.t 29)), q 31 (.mv (.t 30)), qg 32 false 31 false (.mv (.t 8)), qg 33 true 31 false (.bin .num .eql (.t 32) (.c (.n .i64 0))), qg 34 false 31 false (.mv (.t 33)), qg 35 false 34 true (.mv (.t 7)), qg 36 false 34 true (.mv (.t 2)), qg 37 true 34 true (.bin .num .eql (.t 35) (.t 36)), qg 38 false 31 false (.pick (.t 34) (.t 37) (.c (.b false))), q 39 (.pick (.t 31) (.c (.b true)) (.t 38))]) <|
  .cond (.t 39) (.draw [qd (some 40) false [] (.mv (.t 0)), qd (some 41) false [] (.mv (.t 0)), qd (some 42) false [1] (.nilchk (.t 41)), qd (some 43) false [1, 2] (.fa (.t 42) 2 1 false), qd (some 44) false [1, 2, 3] (.load (.t 43) 1 false), qd (some 45) false [] (.mv (.t 1)), qd (some 46) false [] (.mv (.t 0)), qd (some 47) false [6] (.nilchk (.t 46)), qd (some 48) false [6, 7] (.fa (.t 47) 0 1 false), qd (some 49) false [6, 7, 8] (.load (.t 48) 1 false), qd (some 50) false [5, 6, 7, 8, 9] (.bin .num .sub (.t 45) (.t 49)), qd (some 51) false [1, 2, 3, 4, 5, 6, 7, 8, 9, 10] (.slc (.t 44) (some (.t 50)) none none 4), qd (some 52) false [1, 2, 3, 4, 5, 6, 7, 8, 9, 10, 11] (.call 92 [(.t 51)]), qd (some 53) false [0, 1, 2, 3, 4, 5, 6, 7, 8, 9, 10, 11, 12] (.nilchk (.t 40)), qd (some 54) false [0, 1, 2, 3, 4, 5, 6, 7, 8, 9, 10, 11, 12, 13] (.fa (.t 53) 2 1 false), qd none false [0, 1, 2, 3, 4, 5, 6, 7, 8, 9, 10, 11, 12, 13, 14] (.store (.t 54) (.t 52) 1)]) <|
  .reg [q 55 (.mv (.t 0)), q 56 (.nilchk (.t 55)), q 57 (.fa (.t 56) 2 1 false), qn (.store (.t 57) (.c (.l 4 [] .nil)) 1)]) <|
  .seq (.reg [q 58 (.mv (.t 0)), q 59 (.mv (.t 0)), q 60 (.mv (.t 1)), q 61 (.mv (.t 2)), q 62 (.nilchk (.t 58)), q 63 (.fa (.t 62) 0 1 false), qn (.store (.t 63) (.t 60) 1), q 64 (.nilchk (.t 59)), q 65 (.fa (.t 64) 1 1 false), qn (.store (.t 65) (.t 61) 1)]) <|
  .seq (.reg [q 6 (.mv (.c (.n .i64 0)))]) <|
  .ret

/-- (*strongroom/entries.Log).Base -/
def p_entries_Log_Base (E : Env) (a0 a1 a2 : V) (s : St) (K : V → St → Prop) : Prop :=
 let k0 : St → Prop := (fun s1 =>
 K (.n .i64 1) s1);
 optP (nilV a0) s fun v2 s3 =>
 optP (faV v2 0 1 false) s3 fun v4 s5 =>
 optP (ldV v4 1 false s5) s5 fun v6 s7 =>
 optP (binV .num .lss a1 v6) s7 fun v8 s9 =>
 splitP v8 (
 k0 s9) (
 optP (binV .num .gtr a1 (.n .i64 1099511627776)) s9 fun v10 s11 =>
 splitP v10 (
 k0 s11) (
 ACalls E 42 [a0, a1] s11 fun v12 s13 =>
 optP (extV v12 0) s13 fun v14 s15 =>
 optP (extV v12 1) s15 fun v16 s17 =>
 let k18 : St → Prop := (fun s19 =>
 optP (nilV a0) s19 fun v20 s21 =>
 optP (faV v20 0 1 false) s21 fun v22 s23 =>
 optW (storeV v22 a1 1 s23) fun v24 s25 =>
 optP (nilV a0) s25 fun v26 s27 =>
 optP (faV v26 1 1 false) s27 fun v28 s29 =>
 optW (storeV v28 a2 1 s29) fun v30 s31 =>
 K (.n .i64 0) s31);
 let k32 : St → Prop := (fun s33 =>
 optP (nilV a0) s33 fun v34 s35 =>
 optP (faV v34 2 1 false) s35 fun v36 s37 =>
 optP (ldV v36 1 false s37) s37 fun v38 s39 =>
 (True) ∧ optP (nilV a0) s39 fun v40 s41 =>
 optP (faV v40 0 1 false) s41 fun v42 s43 =>
 optP (ldV v42 1 false s43) s43 fun v44 s45 =>
 (True) ∧ optP (binV .num .sub a1 v44) s45 fun v46 s47 =>
 optP (slcV v38 (some v46) none none 4) s47 fun v48 s49 =>
 ACalls E 92 [v48] s49 fun v50 s51 =>
 (True) ∧ optP (nilV a0) s51 fun v52 s53 =>
 optP (faV v52 2 1 false) s53 fun v54 s55 =>
 optW (storeV v54 v50 1 s55) fun v56 s57 =>
 (True) ∧ k18 s57);
 let k58 : St → Prop := (fun s59 =>
 optP (nilV a0) s59 fun v60 s61 =>
 optP (faV v60 2 1 false) s61 fun v62 s63 =>
 optW (storeV v62 (.l 4 [] .nil) 1 s63) fun v64 s65 =>
 k18 s65);
 optP (nilV a0) s17 fun v66 s67 =>
 optP (faV v66 0 1 false) s67 fun v68 s69 =>
 optP (ldV v68 1 false s69) s69 fun v70 s71 =>
 optP (binV .num .eql a1 v70) s71 fun v72 s73 =>
 splitP v72 (
 k32 s73) (
 optP (binV .num .eql v16 (.n .i64 0)) s73 fun v74 s75 =>
 splitP v74 (
 optP (binV .num .eql v14 a2) s75 fun v76 s77 =>
 splitP v76 (
 k32 s77) (
 k58 s77)) (
 k58 s75))))
theorem e_entries_Log_Base (E : Env) (a0 a1 a2 : V) (s : St) (K : V → St → Prop) : axF E c_entries_Log_Base [a0, a1, a2] s K = p_entries_Log_Base E a0 a1 a2 s K := by kernel_rfl
theorem g_entries_Log_Base {E : Env} {a0 a1 a2 : V} {s : St} {K : V → St → Prop} (h : chkF E.P E.m (E.m 78) c_entries_Log_Base = true) (hp : p_entries_Log_Base E a0 a1 a2 s K) : ACalls E 78 [a0, a1, a2] s K :=
  acalls h rfl (by rw [e_entries_Log_Base]; exact hp)

/-- slices.IndexFunc[[]strongroom/api.Entry,strongroom/api.Entry] -/
def c_slices_IndexFunc_api_Entry_api_Entry : AFunc := .mk 2 19 [.t 4] <|
  .seq (.reg [q 4 (.mv (.c (.n .i64 0)))]) <|
  .seq (.seq (.reg [q 6 (.mv (.t 0)), q 7 (.len (.t 6)), q 8 (.mv (.c (.n .i64 0)))]) <|
  .block 0 <|
  .loop [8] [0, 1, 7] <|
  .seq (.reg [qs 9 (.bin .num .lss (.t 8) (.t 7))]) <|
  .seq (.cond (.t 9) (.skip) <|
  .exit 0) <|
  .seq (.block 1 <|
  .seq (.reg [q 10 (.mv (.t 8)), q 5 (.mv (.t 10))]) <|
  .seq (.reg [q 11 (.mv (.t 1)), q 12 (.mv (.t 0)), q 13 (.mv (.t 5)), q 14 (.ias (.t 12) (.t 13) 4), q 15 (.load (.t 14) 4 true), qs 16 (.callv (.t 11) [(.t 15)])]) <|
  .cond (.t 16) (.seq (.reg [q 17 (.mv (.t 5)), q 4 (.mv (.t 17))]) <|
  .ret) <|
  .skip) <|
  .reg [q 18 (.bin .num .add (.t 8) (.c (.n .i64 1))), q 8 (.mv (.t 18))]) <|
  .seq (.reg [q 4 (.mv (.c (.n .i64 (-1))))]) <|
  .ret

/-- slices.IndexFunc[[]strongroom/api.Entry,strongroom/api.Entry] -/
def p_slices_IndexFunc_api_Entry_api_Entry (E : Env) (a0 a1 : V) (s : St) (K : V → St → Prop) : Prop :=
 optP (lenV a0) s fun v0 s1 =>
 ∃ I2 : Nat → List V → St → Prop, (∃ n3, I2 n3 [(.n .i64 0)] s1) ∧ ∀ n3, ∀ x5 : V, ∀ s4, I2 n3 [x5] s4 →
 optP (binV .num .lss x5 v0) s4 fun v7 s8 =>
 splitP v7 (
 optP (iasV a0 x5 4) s8 fun v9 s10 =>
 optP (ldV v9 4 true s10) s10 fun v11 s12 =>
 callV E a1 [v11] s12 fun v13 s14 =>
 splitP v13 (
 K x5 s14) (
 optP (binV .num .add x5 (.n .i64 1)) s14 fun v15 s16 =>
 (a0 : V) = a0 ∧ (a1 : V) = a1 ∧ (v0 : V) = v0 ∧ ∃ n6, n6 < n3 ∧ I2 n6 [v15] s16)) (
 K (.n .i64 (-1)) s8)
theorem e_slices_IndexFunc_api_Entry_api_Entry (E : Env) (a0 a1 : V) (s : St) (K : V → St → Prop) : axF E c_slices_IndexFunc_api_Entry_api_Entry [a0, a1] s K = p_slices_IndexFunc_api_Entry_api_Entry E a0 a1 s K := by kernel_rfl
theorem g_slices_IndexFunc_api_Entry_api_Entry {E : Env} {a0 a1 : V} {s : St} {K : V → St → Prop} (h : chkF E.P E.m (E.m 79) c_slices_IndexFunc_api_Entry_api_Entry = true) (hp : p_slices_IndexFunc_api_Entry_api_Entry E a0 a1 s K) : ACalls E 79 [a0, a1] s K :=
  acalls h rfl (by rw [e_slices_IndexFunc_api_Entry_api_Entry]; exact hp)

/-- strongroom/quorum.Most -/
def c_quorum_Most : AFunc := .mk 2 16 [.t 4] <|
  .seq (.reg [q 3 (.box (.t 1)), q 4 (.mv (.c (.b false)))]) <|
  .seq (.reg [q 6 (.mv (.t 0)), q 7 (.call 23 [(.t 6)]), q 8 (.mkf 94 [] [(.t 3)]), q 9 (.call 93 [(.t 7), (.t 8)]), q 5 (.mv (.t 9))]) <|
  .seq (.reg [q 10 (.mv (.t 5)), q 11 (.len (.t 10)), q 12 (.mv (.t 0)), q 13 (.len (.t 12)), q 14 (.bin .num .quo (.t 13) (.c (.n .i64 2))), qs 15 (.bin .num .gtr (.t 11) (.t 14)), q 4 (.mv (.t 15))]) <|
  .ret

/-- strongroom/quorum.Most -/
def p_quorum_Most (E : Env) (a0 a1 : V) (s : St) (K : V → St → Prop) : Prop :=
 optW (boxV a1 s) fun v0 s1 =>
 ACalls E 23 [a0] s1 fun v2 s3 =>
 ACalls E 93 [v2, (.f 94 [] [v0])] s3 fun v4 s5 =>
 optP (lenV v4) s5 fun v6 s7 =>
 optP (lenV a0) s7 fun v8 s9 =>
 optP (binV .num .quo v8 (.n .i64 2)) s9 fun v10 s11 =>
 optP (binV .num .gtr v6 v10) s11 fun v12 s13 =>
 splitP v12 (
 K (.b true) s13) (
 K (.b false) s13)
theorem e_quorum_Most (E : Env) (a0 a1 : V) (s : St) (K : V → St → Prop) : axF E c_quorum_Most [a0, a1] s K = p_quorum_Most E a0 a1 s K := by kernel_rfl
theorem g_quorum_Most {E : Env} {a0 a1 : V} {s : St} {K : V → St → Prop} (h : chkF E.P E.m (E.m 80) c_quorum_Most = true) (hp : p_quorum_Most E a0 a1 s K) : ACalls E 80 [a0, a1] s K :=
  acalls h rfl (by rw [e_quorum_Most]; exact hp)

/-- (*strongroom/entries.Log).Join -/
def c_entries_Log_Join : AFunc := .mk 4 89 [.t 8, .t 9, .t 10] <|
  .seq (.reg [q 4 (.box (.t 0)), q 5 (.box (.t 1)), q 8 (.mv (.c (.n .i64 0))), q 9 (.mv (.c (.n .i64 0))), q 10 (.mv (.c (.b false)))]) <|
  .seq (.seq (.draw [qd (some 15) false [] (.load (.t 5) 1 false), qd (some 16) false [] (.load (.t 4) 1 false), qd (some 17) false [1] (.call 22 [(.t 16)]), qd (some 18) true [0, 1, 2] (.bin .num .gtr (.t 15) (.t 17))]) <|
  .cond (.t 18) (.seq (.reg [q 19 (.load (.t 4) 1 false), q 20 (.call 22 [(.t 19)]), q 8 (.mv (.t 20)), q 9 (.mv (.c (.n .i64 0))), q 10 (.mv (.c (.b false)))]) <|
  .ret) <|
  .skip) <|
  .seq (.seq (.reg [q 22 (.load (.t 4) 1 false), q 23 (.load (.t 5) 1 false), q 24 (.call 42 [(.t 22), (.t 23)]), q 21 (.mv (.t 24)), q 25 (.ext (.t 21) 0), q 26 (.ext (.t 21) 1), q 11 (.mv (.t 25)), q 12 (.mv (.t 26))]) <|
  .seq (.reg [q 27 (.mv (.t 12)), qs 28 (.bin .num .eql (.t 27) (.c (.n .i64 0))), q 29 (.mv (.t 28)), qg 30 false 29 true (.mv (.t 11)), qg 31 false 29 true (.mv (.t 2)), qg 32 true 29 true (.bin .num .neq (.t 30) (.t 31)), q 33 (.pick (.t 29) (.t 32) (.c (.b false)))]) <|
  .cond (.t 33) (.seq (.block 0 <|
  .loop [] [4, 5, 11] <|
  .seq (.seq (.draw [qd (some 34) false [] (.load (.t 5) 1 false), qd (some 35) false [] (.load (.t 4) 1 false), qd (some 36) false [1] (.nilchk (.t 35)), qd (some 37) false [1, 2] (.fa (.t 36) 0 1 false), qd (some 38) false [1, 2, 3] (.load (.t 37) 1 false), qd (some 39) true [0, 1, 2, 3, 4] (.bin .num .gtr (.t 34) (.t 38)), qd (some 40) false [0, 1, 2, 3, 4, 5] (.mv (.t 39)), qdg (some 41) false 40 true [0, 1, 2, 3, 4, 5, 6] (.load (.t 4) 1 false), qdg (some 42) false 40 true [0, 1, 2, 3, 4, 5, 6, 7] (.nilchk (.t 41)), qdg (some 43) false 40 true [0, 1, 2, 3, 4, 5, 6, 7, 8] (.fa (.t 42) 2 1 false), qdg (some 44) false 40 true [0, 1, 2, 3, 4, 5, 6, 7, 8, 9] (.load (.t 43) 1 false), qdg (some 45) false 40 true [0, 1, 2, 3, 4, 5, 6] (.load (.t 5) 1 false), qdg (some 46) false 40 true [0, 1, 2, 3, 4, 5, 6] (.load (.t 4) 1 false), qdg (some 47) false 40 true [0, 1, 2, 3, 4, 5, 6, 12] (.call 21 [(.t 46)]), qdg (some 48) false 40 true [0, 1, 2, 3, 4, 5, 6, 11, 12, 13] (.bin .num .sub (.t 45) (.t 47)), qdg (some 49) false 40 true [0, 1, 2, 3, 4, 5, 6, 7, 8, 9, 10, 11, 12, 13, 14] (.ias (.t 44) (.t 48) 4), qdg (some 50) false 40 true [0, 1, 2, 3, 4, 5, 6, 7, 8, 9, 10, 11, 12, 13, 14, 15] (.fa (.t 49) 0 1 false), qdg (some 51) false 40 true [0, 1, 2, 3, 4, 5, 6, 7, 8, 9, 10, 11, 12, 13, 14, 15, 16] (.load (.t 50) 1 false), qdg (some 52) false 40 true [0, 1, 2, 3, 4, 5, 6] (.mv (.t 11)), qdg (some 53) true 40 true [0, 1, 2, 3, 4, 5, 6, 7, 8, 9, 10, 11, 12, 13, 14, 15, 16, 17, 18] (.bin .num .eql (.t 51) (.t 52)), qd (some 54) false [0, 1, 2, 3, 4, 5, 6, 7, 8, 9, 10, 11, 12, 13, 14, 15, 16, 17, 18, 19] (.pick (.t 40) (.t 53) (.c (.b false)))]) <|
  .cond (.t 54) (.skip) <|
  .exit 0) <|
  .block 1 <|
  .reg [q 55 (.load (.t 5) 1 false), q 56 (.bin .num .sub (.t 55) (.c (.n .i64 1))), qn (.store (.t 5) (.t 56) 1)]) <|
  .seq (.reg [q 57 (.load (.t 5) 1 false), q 8 (.mv (.t 57)), q 9 (.mv (.c (.n .i64 0))), q 10 (.mv (.c (.b false)))]) <|
  .ret) <|
  .skip) <|
  .seq (.reg [q 58 (.load (.t 5) 1 false), q 59 (.mv (.t 3)), q 60 (.len (.t 59)), q 61 (.bin .num .add (.t 58) (.t 60)), q 8 (.mv (.t 61))]) <|
  .seq (.reg [q 62 (.mkf 95 [] [(.t 5), (.t 4)]), q 13 (.mv (.t 62))]) <|
  .seq (.reg [q 63 (.mv (.t 3)), q 64 (.mv (.t 13)), q 65 (.call 79 [(.t 63), (.t 64)]), q 14 (.mv (.t 65))]) <|
  .seq (.seq (.reg [q 66 (.mv (.t 14)), qs 67 (.bin .num .lss (.t 66) (.c (.n .i64 0)))]) <|
  .cond (.t 67) (.seq (.reg [q 68 (.mv (.t 8)), q 8 (.mv (.t 68)), q 9 (.mv (.c (.n .i64 0))), q 10 (.mv (.c (.b true)))]) <|
  .ret) <|
  .skip) <|
  .seq (.draw [qd (some 69) false [] (.load (.t 4) 1 false), qd (some 70) false [] (.load (.t 4) 1 false), qd (some 71) false [1] (.nilchk (.t 70)), qd (some 72) false [1, 2] (.fa (.t 71) 2 1 false), qd (some 73) false [1, 2, 3] (.load (.t 72) 1 false), qd (some 74) false [] (.load (.t 5) 1 false), qd (some 75) false [] (.load (.t 4) 1 false), qd (some 76) false [6] (.call 21 [(.t 75)]), qd (some 77) false [5, 6, 7] (.bin .num .sub (.t 74) (.t 76)), qd (some 78) false [1, 2, 3, 4, 5, 6, 7, 8] (.slc (.t 73) none (some (.t 77)) none 4), qd (some 79) false [1, 2, 3, 4, 5, 6, 7, 8, 9] (.call 92 [(.t 78)]), qd (some 80) false [] (.mv (.t 3)), qd (some 81) false [] (.mv (.t 14)), qd (some 82) false [11, 12] (.slc (.t 80) (some (.t 81)) none none 4), qd (some 83) false [1, 2, 3, 4, 5, 6, 7, 8, 9, 10, 11, 12, 13] (.call 59 [(.t 82)]), qd (some 84) false [1, 2, 3, 4, 5, 6, 7, 8, 9, 10, 11, 12, 13, 14] (.app (.t 79) (.t 83) 4 64), qd (some 85) false [0, 1, 2, 3, 4, 5, 6, 7, 8, 9, 10, 11, 12, 13, 14, 15] (.nilchk (.t 69)), qd (some 86) false [0, 1, 2, 3, 4, 5, 6, 7, 8, 9, 10, 11, 12, 13, 14, 15, 16] (.fa (.t 85) 2 1 false), qd none false [0, 1, 2, 3, 4, 5, 6, 7, 8, 9, 10, 11, 12, 13, 14, 15, 16, 17] (.store (.t 86) (.t 84) 1)]) <|
  .seq (.draw [qd (some 87) false [] (.mv (.t 8)), qd (some 88) false [] (.load (.t 5) 1 false), qd (some 8) false [0] (.mv (.t 87)), qd (some 9) false [0, 1, 2] (.mv (.t 88)), qd (some 10) false [0, 1, 2, 3] (.mv (.c (.b true)))]) <|
  .ret

/-- (*strongroom/entries.Log).Join -/
def p_entries_Log_Join (E : Env) (a0 a1 a2 a3 : V) (s : St) (K : V → St → Prop) : Prop :=
 optW (boxV a0 s) fun v0 s1 =>
 optW (boxV a1 s1) fun v2 s3 =>
 optP (ldV v2 1 false s3) s3 fun v4 s5 =>
 (True) ∧ optP (ldV v0 1 false s5) s5 fun v6 s7 =>
 (True) ∧ ACalls E 22 [v6] s7 fun v8 s9 =>
 (ldV v2 1 false s9 = some v4 ∧ True) ∧ optP (binV .num .gtr v4 v8) s9 fun v10 s11 =>
 splitP v10 (
 optP (ldV v0 1 false s11) s11 fun v12 s13 =>
 ACalls E 22 [v12] s13 fun v14 s15 =>
 K (.tup [v14, (.n .i64 0), (.b false)]) s15) (
 optP (ldV v0 1 false s11) s11 fun v16 s17 =>
 optP (ldV v2 1 false s17) s17 fun v18 s19 =>
 ACalls E 42 [v16, v18] s19 fun v20 s21 =>
 optP (extV v20 0) s21 fun v22 s23 =>
 optP (extV v20 1) s23 fun v24 s25 =>
 let k26 : St → Prop := (fun s27 =>
 optP (ldV v2 1 false s27) s27 fun v28 s29 =>
 optP (lenV a3) s29 fun v30 s31 =>
 optP (binV .num .add v28 v30) s31 fun v32 s33 =>
 ACalls E 79 [a3, (.f 95 [] [v2, v0])] s33 fun v34 s35 =>
 optP (binV .num .lss v34 (.n .i64 0)) s35 fun v36 s37 =>
 splitP v36 (
 K (.tup [v32, (.n .i64 0), (.b true)]) s37) (
 optP (ldV v0 1 false s37) s37 fun v38 s39 =>
 (True) ∧ optP (ldV v0 1 false s39) s39 fun v40 s41 =>
 (True) ∧ optP (nilV v40) s41 fun v42 s43 =>
 optP (faV v42 2 1 false) s43 fun v44 s45 =>
 optP (ldV v44 1 false s45) s45 fun v46 s47 =>
 (True) ∧ optP (ldV v2 1 false s47) s47 fun v48 s49 =>
 (True) ∧ optP (ldV v0 1 false s49) s49 fun v50 s51 =>
 (True) ∧ ACalls E 21 [v50] s51 fun v52 s53 =>
 (ldV v0 1 false s53 = some v38 ∧ ldV v0 1 false s53 = some v40 ∧ ldV v44 1 false s53 = some v46 ∧ ldV v2 1 false s53 = some v48 ∧ True) ∧ optP (binV .num .sub v48 v52) s53 fun v54 s55 =>
 optP (slcV v46 none (some v54) none 4) s55 fun v56 s57 =>
 ACalls E 92 [v56] s57 fun v58 s59 =>
 (ldV v0 1 false s59 = some v38 ∧ True) ∧ optP (slcV a3 (some v34) none none 4) s59 fun v60 s61 =>
 ACalls E 59 [v60] s61 fun v62 s63 =>
 (ldV v0 1 false s63 = some v38 ∧ True) ∧ optW (appV v58 v62 4 64 s63) fun v64 s65 =>
 (ldV v0 1 false s65 = some v38 ∧ True) ∧ optP (nilV v38) s65 fun v66 s67 =>
 optP (faV v66 2 1 false) s67 fun v68 s69 =>
 optW (storeV v68 v64 1 s69) fun v70 s71 =>
 (True) ∧ optP (ldV v2 1 false s71) s71 fun v72 s73 =>
 (True) ∧ K (.tup [v32, v72, (.b true)]) s73));
 optP (binV .num .eql v24 (.n .i64 0)) s25 fun v74 s75 =>
 splitP v74 (
 optP (binV .num .neq v22 a2) s75 fun v76 s77 =>
 splitP v76 (
 ∃ I78 : Nat → List V → St → Prop, (∃ n79, I78 n79 [] s77) ∧ ∀ n79, ∀ s80, I78 n79 [] s80 →
 let k82 : St → Prop := (fun s83 =>
 optP (ldV v2 1 false s83) s83 fun v84 s85 =>
 K (.tup [v84, (.n .i64 0), (.b false)]) s85);
 optP (ldV v2 1 false s80) s80 fun v86 s87 =>
 (True) ∧ optP (ldV v0 1 false s87) s87 fun v88 s89 =>
 (True) ∧ optP (nilV v88) s89 fun v90 s91 =>
 optP (faV v90 0 1 false) s91 fun v92 s93 =>
 optP (ldV v92 1 false s93) s93 fun v94 s95 =>
 (True) ∧ optP (binV .num .gtr v86 v94) s95 fun v96 s97 =>
 splitP v96 (
 optP (ldV v0 1 false s97) s97 fun v98 s99 =>
 (True) ∧ optP (nilV v98) s99 fun v100 s101 =>
 optP (faV v100 2 1 false) s101 fun v102 s103 =>
 optP (ldV v102 1 false s103) s103 fun v104 s105 =>
 (True) ∧ optP (ldV v2 1 false s105) s105 fun v106 s107 =>
 (True) ∧ optP (ldV v0 1 false s107) s107 fun v108 s109 =>
 (True) ∧ ACalls E 21 [v108] s109 fun v110 s111 =>
 (ldV v0 1 false s111 = some v98 ∧ ldV v102 1 false s111 = some v104 ∧ ldV v2 1 false s111 = some v106 ∧ True) ∧ optP (binV .num .sub v106 v110) s111 fun v112 s113 =>
 optP (iasV v104 v112 4) s113 fun v114 s115 =>
 optP (faV v114 0 1 false) s115 fun v116 s117 =>
 optP (ldV v116 1 false s117) s117 fun v118 s119 =>
 (True) ∧ optP (binV .num .eql v118 v22) s119 fun v120 s121 =>
 splitP v120 (
 optP (ldV v2 1 false s121) s121 fun v122 s123 =>
 optP (binV .num .sub v122 (.n .i64 1)) s123 fun v124 s125 =>
 optW (storeV v2 v124 1 s125) fun v126 s127 =>
 (v0 : V) = v0 ∧ (v2 : V) = v2 ∧ (v22 : V) = v22 ∧ ∃ n81, n81 < n79 ∧ I78 n81 [] s127) (
 k82 s121)) (
 (True) ∧ (True) ∧ (True) ∧ (True) ∧ ((some (.tup []) : Option V) = some (.tup []) ∧ (some (.tup []) : Option V) = some (.tup []) ∧ (some (.tup []) : Option V) = some (.tup []) ∧ True) ∧ (True) ∧ k82 s97)) (
 k26 s77)) (
 k26 s75))
theorem e_entries_Log_Join (E : Env) (a0 a1 a2 a3 : V) (s : St) (K : V → St → Prop) : axF E c_entries_Log_Join [a0, a1, a2, a3] s K = p_entries_Log_Join E a0 a1 a2 a3 s K := by kernel_rfl
theorem g_entries_Log_Join {E : Env} {a0 a1 a2 a3 : V} {s : St} {K : V → St → Prop} (h : chkF E.P E.m (E.m 81) c_entries_Log_Join = true) (hp : p_entries_Log_Join E a0 a1 a2 a3 s K) : ACalls E 81 [a0, a1, a2, a3] s K :=
  acalls h rfl (by rw [e_entries_Log_Join]; exact hp)

/-- slices.Contains[[]int,int] -/
def c_slices_Contains_int_int : AFunc := .mk 2 9 [.t 4] <|
  .seq (.reg [q 4 (.mv (.c (.b false)))]) <|
  .seq (.reg [q 5 (.mv (.t 0)), q 6 (.mv (.t 1)), q 7 (.call 96 [(.t 5), (.t 6)]), qs 8 (.bin .num .geq (.t 7) (.c (.n .i64 0))), q 4 (.mv (.t 8))]) <|
  .ret

/-- slices.Contains[[]int,int] -/
def p_slices_Contains_int_int (E : Env) (a0 a1 : V) (s : St) (K : V → St → Prop) : Prop :=
 ACalls E 96 [a0, a1] s fun v0 s1 =>
 optP (binV .num .geq v0 (.n .i64 0)) s1 fun v2 s3 =>
 splitP v2 (
 K (.b true) s3) (
 K (.b false) s3)
theorem e_slices_Contains_int_int (E : Env) (a0 a1 : V) (s : St) (K : V → St → Prop) : axF E c_slices_Contains_int_int [a0, a1] s K = p_slices_Contains_int_int E a0 a1 s K := by kernel_rfl
theorem g_slices_Contains_int_int {E : Env} {a0 a1 : V} {s : St} {K : V → St → Prop} (h : chkF E.P E.m (E.m 82) c_slices_Contains_int_int = true) (hp : p_slices_Contains_int_int E a0 a1 s K) : ACalls E 82 [a0, a1] s K :=
  acalls h rfl (by rw [e_slices_Contains_int_int]; exact hp)

/-- (*strongroom/raft.Raft).end -/
def c_raft_Raft_end : AFunc := .mk 1 20 [.t 2, .t 3] <|
  .seq (.reg [q 2 (.mv (.c (.n .i64 0))), q 3 (.mv (.c (.n .i64 0)))]) <|
  .seq (.reg [q 4 (.mv (.t 0)), q 5 (.nilchk (.t 4)), q 6 (.fa (.t 5) 5 1 false), q 7 (.load (.t 6) 1 false), q 8 (.call 22 [(.t 7)]), q 2 (.mv (.t 8))]) <|
  .seq (.reg [q 10 (.mv (.t 0)), q 11 (.nilchk (.t 10)), q 12 (.fa (.t 11) 5 1 false), q 13 (.load (.t 12) 1 false), q 14 (.mv (.t 2)), q 15 (.call 42 [(.t 13), (.t 14)]), q 9 (.mv (.t 15)), q 16 (.ext (.t 9) 0), q 17 (.ext (.t 9) 1), q 3 (.mv (.t 16))]) <|
  .seq (.reg [q 18 (.mv (.t 2)), q 19 (.mv (.t 3)), q 2 (.mv (.t 18)), q 3 (.mv (.t 19))]) <|
  .ret

/-- (*strongroom/raft.Raft).end -/
def p_raft_Raft_end (E : Env) (a0 : V) (s : St) (K : V → St → Prop) : Prop :=
 optP (nilV a0) s fun v0 s1 =>
 optP (faV v0 5 1 false) s1 fun v2 s3 =>
 optP (ldV v2 1 false s3) s3 fun v4 s5 =>
 ACalls E 22 [v4] s5 fun v6 s7 =>
 optP (nilV a0) s7 fun v8 s9 =>
 optP (faV v8 5 1 false) s9 fun v10 s11 =>
 optP (ldV v10 1 false s11) s11 fun v12 s13 =>
 ACalls E 42 [v12, v6] s13 fun v14 s15 =>
 optP (extV v14 0) s15 fun v16 s17 =>
 optP (extV v14 1) s17 fun v18 s19 =>
 K (.tup [v6, v16]) s19
theorem e_raft_Raft_end (E : Env) (a0 : V) (s : St) (K : V → St → Prop) : axF E c_raft_Raft_end [a0] s K = p_raft_Raft_end E a0 s K := by kernel_rfl
theorem g_raft_Raft_end {E : Env} {a0 : V} {s : St} {K : V → St → Prop} (h : chkF E.P E.m (E.m 83) c_raft_Raft_end = true) (hp : p_raft_Raft_end E a0 s K) : ACalls E 83 [a0] s K :=
  acalls h rfl (by rw [e_raft_Raft_end]; exact hp)

/-- (*strongroom/raft.Raft).asks$1 -/
def c_raft_Raft_asks_c1 : AFunc := .mk 6 15 [] <|
  .reg [q 7 (.load (.t 1) 1 false), q 8 (.load (.t 2) 1 false), q 9 (.mv (.t 0)), q 10 (.load (.t 3) 1 false), q 11 (.load (.t 4) 1 false), q 12 (.load (.t 5) 1 false), q 13 (.build [.n .i64 0, .n .i64 0, .n .i64 0, .n .i64 0, .n .i64 0, .n .i64 0, .n .i64 0, .b false, .l 4 [] .nil, .l 1 [] .nil, .l 1 [] .nil] [(0, 1, (.t 8)), (2, 1, (.t 9)), (3, 1, (.t 10)), (4, 1, (.t 11)), (5, 1, (.t 12))]), q 14 (.call 50 [(.t 7), (.t 13)])]

/-- (*strongroom/raft.Raft).asks$1 -/
def p_raft_Raft_asks_c1 (E : Env) (a0 a1 a2 a3 a4 a5 : V) (s : St) (K : V → St → Prop) : Prop :=
 optP (ldV a1 1 false s) s fun v0 s1 =>
 optP (ldV a2 1 false s1) s1 fun v2 s3 =>
 optP (ldV a3 1 false s3) s3 fun v4 s5 =>
 optP (ldV a4 1 false s5) s5 fun v6 s7 =>
 optP (ldV a5 1 false s7) s7 fun v8 s9 =>
 optP (buildV [.n .i64 0, .n .i64 0, .n .i64 0, .n .i64 0, .n .i64 0, .n .i64 0, .n .i64 0, .b false, .l 4 [] .nil, .l 1 [] .nil, .l 1 [] .nil] [(0, 1, v2), (2, 1, a0), (3, 1, v4), (4, 1, v6), (5, 1, v8)]) s9 fun v10 s11 =>
 ACalls E 50 [v0, v10] s11 fun v12 s13 =>
 K (.tup []) s13
theorem e_raft_Raft_asks_c1 (E : Env) (a0 a1 a2 a3 a4 a5 : V) (s : St) (K : V → St → Prop) : axF E c_raft_Raft_asks_c1 [a0, a1, a2, a3, a4, a5] s K = p_raft_Raft_asks_c1 E a0 a1 a2 a3 a4 a5 s K := by kernel_rfl
theorem g_raft_Raft_asks_c1 {E : Env} {a0 a1 a2 a3 a4 a5 : V} {s : St} {K : V → St → Prop} (h : chkF E.P E.m (E.m 84) c_raft_Raft_asks_c1 = true) (hp : p_raft_Raft_asks_c1 E a0 a1 a2 a3 a4 a5 s K) : ACalls E 84 [a0, a1, a2, a3, a4, a5] s K :=
  acalls h rfl (by rw [e_raft_Raft_asks_c1]; exact hp)

/-- slices.IndexFunc[[]int,int] -/
def c_slices_IndexFunc_int_int : AFunc := .mk 2 19 [.t 4] <|
  .seq (.reg [q 4 (.mv (.c (.n .i64 0)))]) <|
  .seq (.seq (.reg [q 6 (.mv (.t 0)), q 7 (.len (.t 6)), q 8 (.mv (.c (.n .i64 0)))]) <|
  .block 0 <|
  .loop [8] [0, 1, 7] <|
  .seq (.reg [qs 9 (.bin .num .lss (.t 8) (.t 7))]) <|
  .seq (.cond (.t 9) (.skip) <|
  .exit 0) <|
  .seq (.block 1 <|
  .seq (.reg [q 10 (.mv (.t 8)), q 5 (.mv (.t 10))]) <|
  .seq (.reg [q 11 (.mv (.t 1)), q 12 (.mv (.t 0)), q 13 (.mv (.t 5)), q 14 (.ias (.t 12) (.t 13) 1), q 15 (.load (.t 14) 1 false), qs 16 (.callv (.t 11) [(.t 15)])]) <|
  .cond (.t 16) (.seq (.reg [q 17 (.mv (.t 5)), q 4 (.mv (.t 17))]) <|
  .ret) <|
  .skip) <|
  .reg [q 18 (.bin .num .add (.t 8) (.c (.n .i64 1))), q 8 (.mv (.t 18))]) <|
  .seq (.reg [q 4 (.mv (.c (.n .i64 (-1))))]) <|
  .ret

/-- slices.IndexFunc[[]int,int] -/
def p_slices_IndexFunc_int_int (E : Env) (a0 a1 : V) (s : St) (K : V → St → Prop) : Prop :=
 optP (lenV a0) s fun v0 s1 =>
 ∃ I2 : Nat → List V → St → Prop, (∃ n3, I2 n3 [(.n .i64 0)] s1) ∧ ∀ n3, ∀ x5 : V, ∀ s4, I2 n3 [x5] s4 →
 optP (binV .num .lss x5 v0) s4 fun v7 s8 =>
 splitP v7 (
 optP (iasV a0 x5 1) s8 fun v9 s10 =>
 optP (ldV v9 1 false s10) s10 fun v11 s12 =>
 callV E a1 [v11] s12 fun v13 s14 =>
 splitP v13 (
 K x5 s14) (
 optP (binV .num .add x5 (.n .i64 1)) s14 fun v15 s16 =>
 (a0 : V) = a0 ∧ (a1 : V) = a1 ∧ (v0 : V) = v0 ∧ ∃ n6, n6 < n3 ∧ I2 n6 [v15] s16)) (
 K (.n .i64 (-1)) s8)
theorem e_slices_IndexFunc_int_int (E : Env) (a0 a1 : V) (s : St) (K : V → St → Prop) : axF E c_slices_IndexFunc_int_int [a0, a1] s K = p_slices_IndexFunc_int_int E a0 a1 s K := by kernel_rfl
theorem g_slices_IndexFunc_int_int {E : Env} {a0 a1 : V} {s : St} {K : V → St → Prop} (h : chkF E.P E.m (E.m 85) c_slices_IndexFunc_int_int = true) (hp : p_slices_IndexFunc_int_int E a0 a1 s K) : ACalls E 85 [a0, a1] s K :=
  acalls h rfl (by rw [e_slices_IndexFunc_int_int]; exact hp)

/-- strongroom/pack.Put -/
def c_pack_Put : AFunc := .mk 2 37 [.t 4, .t 5] <|
  .seq (.reg [q 4 (.mv (.c (.l 1 [] .nil))), q 5 (.mv (.c (.n .i64 0)))]) <|
  .seq (.seq (.reg [q 9 (.mv (.t 1)), qs 10 (.bin .num .lss (.t 9) (.c (.n .i64 0)))]) <|
  .cond (.t 10) (.seq (.reg [q 4 (.mv (.c (.l 1 [] .nil))), q 5 (.mv (.c (.n .i64 1)))]) <|
  .ret) <|
  .skip) <|
  .seq (.reg [q 11 (.mv (.t 1)), q 12 (.cnv .u64 (.t 11)), q 13 (.call 97 [(.t 12)]), q 14 (.bin .num .add (.t 13) (.c (.n .i64 7))), q 15 (.bin .num .quo (.t 14) (.c (.n .i64 8))), q 6 (.mv (.t 15))]) <|
  .seq (.reg [q 16 (.mv (.t 0)), q 17 (.call 60 [(.t 16)]), q 18 (.mv (.t 6)), q 19 (.cnv .u8 (.t 18)), q 20 (.mks 1 [(.t 19)]), q 21 (.app (.t 17) (.t 20) 1 1), q 7 (.mv (.t 21))]) <|
  .seq (.seq (.reg [q 22 (.mv (.t 6)), q 23 (.bin .num .sub (.t 22) (.c (.n .i64 1))), q 8 (.mv (.t 23))]) <|
  .block 0 <|
  .loop [7, 8] [1] <|
  .seq (.seq (.reg [q 24 (.mv (.t 8)), qs 25 (.bin .num .geq (.t 24) (.c (.n .i64 0)))]) <|
  .cond (.t 25) (.skip) <|
  .exit 0) <|
  .seq (.block 1 <|
  .reg [q 28 (.mv (.t 7)), q 29 (.mv (.t 1)), q 30 (.mv (.t 8)), q 31 (.bin .num .mul (.c (.n .i64 8)) (.t 30)), q 32 (.bin .num .shr (.t 29) (.t 31)), q 33 (.cnv .u8 (.t 32)), q 34 (.mks 1 [(.t 33)]), q 35 (.app (.t 28) (.t 34) 1 1), q 7 (.mv (.t 35))]) <|
  .reg [q 26 (.mv (.t 8)), q 27 (.bin .num .sub (.t 26) (.c (.n .i64 1))), q 8 (.mv (.t 27))]) <|
  .seq (.reg [q 36 (.mv (.t 7)), q 4 (.mv (.t 36)), q 5 (.mv (.c (.n .i64 0)))]) <|
  .ret

/-- strongroom/pack.Put -/
def p_pack_Put (E : Env) (a0 a1 : V) (s : St) (K : V → St → Prop) : Prop :=
 optP (binV .num .lss a1 (.n .i64 0)) s fun v0 s1 =>
 splitP v0 (
 K (.tup [(.l 1 [] .nil), (.n .i64 1)]) s1) (
 optP (cnvV .u64 a1) s1 fun v2 s3 =>
 ACalls E 97 [v2] s3 fun v4 s5 =>
 optP (binV .num .add v4 (.n .i64 7)) s5 fun v6 s7 =>
 optP (binV .num .quo v6 (.n .i64 8)) s7 fun v8 s9 =>
 ACalls E 60 [a0] s9 fun v10 s11 =>
 optP (cnvV .u8 v8) s11 fun v12 s13 =>
 optP (mksV 1 [v12]) s13 fun v14 s15 =>
 optW (appV v10 v14 1 1 s15) fun v16 s17 =>
 optP (binV .num .sub v8 (.n .i64 1)) s17 fun v18 s19 =>
 ∃ I20 : Nat → List V → St → Prop, (∃ n21, I20 n21 [v16, v18] s19) ∧ ∀ n21, ∀ x23 : V, ∀ x24 : V, ∀ s22, I20 n21 [x23, x24] s22 →
 optP (binV .num .geq x24 (.n .i64 0)) s22 fun v26 s27 =>
 splitP v26 (
 optP (binV .num .mul (.n .i64 8) x24) s27 fun v28 s29 =>
 optP (binV .num .shr a1 v28) s29 fun v30 s31 =>
 optP (cnvV .u8 v30) s31 fun v32 s33 =>
 optP (mksV 1 [v32]) s33 fun v34 s35 =>
 optW (appV x23 v34 1 1 s35) fun v36 s37 =>
 optP (binV .num .sub x24 (.n .i64 1)) s37 fun v38 s39 =>
 (a1 : V) = a1 ∧ ∃ n25, n25 < n21 ∧ I20 n25 [v36, v38] s39) (
 K (.tup [x23, (.n .i64 0)]) s27))
theorem e_pack_Put (E : Env) (a0 a1 : V) (s : St) (K : V → St → Prop) : axF E c_pack_Put [a0, a1] s K = p_pack_Put E a0 a1 s K := by kernel_rfl
theorem g_pack_Put {E : Env} {a0 a1 : V} {s : St} {K : V → St → Prop} (h : chkF E.P E.m (E.m 86) c_pack_Put = true) (hp : p_pack_Put E a0 a1 s K) : ACalls E 86 [a0, a1] s K :=
  acalls h rfl (by rw [e_pack_Put]; exact hp)

/-- strongroom/pack.PutList$1 -/
def c_pack_PutList_c1 : AFunc := .mk 1 5 [.t 2] <|
  .seq (.reg [q 2 (.mv (.c (.b false)))]) <|
  .seq (.reg [q 3 (.mv (.t 0)), qs 4 (.bin .num .lss (.t 3) (.c (.n .i64 0))), q 2 (.mv (.t 4))]) <|
  .ret

/-- strongroom/pack.PutList$1 -/
def p_pack_PutList_c1 (E : Env) (a0 : V) (s : St) (K : V → St → Prop) : Prop :=
 optP (binV .num .lss a0 (.n .i64 0)) s fun v0 s1 =>
 splitP v0 (
 K (.b true) s1) (
 K (.b false) s1)
theorem e_pack_PutList_c1 (E : Env) (a0 : V) (s : St) (K : V → St → Prop) : axF E c_pack_PutList_c1 [a0] s K = p_pack_PutList_c1 E a0 s K := by kernel_rfl
theorem g_pack_PutList_c1 {E : Env} {a0 : V} {s : St} {K : V → St → Prop} (h : chkF E.P E.m (E.m 87) c_pack_PutList_c1 = true) (hp : p_pack_PutList_c1 E a0 s K) : ACalls E 87 [a0] s K :=
  acalls h rfl (by rw [e_pack_PutList_c1]; exact hp)

/-- slices.BinarySearch[[]int,int] -/
def c_slices_BinarySearch_int_int : AFunc := .mk 2 54 [.t 4, .t 5] <|
  .seq (.reg [q 4 (.mv (.c (.n .i64 0))), q 5 (.mv (.c (.b false)))]) <|
  .seq (.reg [q 10 (.mv (.t 0)), q 11 (.len (.t 10)), q 6 (.mv (.t 11))]) <|
  .seq (.reg [q 12 (.mv (.t 6)), q 7 (.mv (.c (.n .i64 0))), q 8 (.mv (.t 12))]) <|
  .seq (.block 0 <|
  .loop [7, 8] [0, 1, 6] <|
  .seq (.seq (.reg [q 13 (.mv (.t 7)), q 14 (.mv (.t 8)), qs 15 (.bin .num .lss (.t 13) (.t 14))]) <|
  .cond (.t 15) (.skip) <|
  .exit 0) <|
  .block 1 <|
  .seq (.reg [q 16 (.mv (.t 7)), q 17 (.mv (.t 8)), q 18 (.bin .num .add (.t 16) (.t 17)), q 19 (.cnv .u64 (.t 18)), q 20 (.bin .num .shr (.t 19) (.c (.n .u64 1))), q 21 (.cnv .i64 (.t 20)), q 9 (.mv (.t 21))]) <|
  .seq (.reg [q 22 (.mv (.t 0)), q 23 (.mv (.t 9)), q 24 (.ias (.t 22) (.t 23) 1), q 25 (.load (.t 24) 1 false), q 26 (.mv (.t 1)), qs 27 (.call 98 [(.t 25), (.t 26)])]) <|
  .cond (.t 27) (.reg [q 28 (.mv (.t 9)), q 29 (.bin .num .add (.t 28) (.c (.n .i64 1))), q 7 (.mv (.t 29))]) <|
  .reg [q 30 (.mv (.t 9)), q 8 (.mv (.t 30))]) <|
  .seq (.reg [q 31 (.mv (.t 7)), q 32 (.mv (.t 7)), q 33 (.mv (.t 6)), qs 34 (.bin .num .lss (.t 32) (.t 33)), q 35 (.mv (.t 34)), qg 36 false 35 true (.mv (.t 0)), qg 37 false 35 true (.mv (.t 7)), qg 38 false 35 true (.ias (.t 36) (.t 37) 1), qg 39 false 35 true (.load (.t 38) 1 false), qg 40 false 35 true (.mv (.t 1)), qg 41 true 35 true (.bin .num .eql (.t 39) (.t 40)), qg 42 false 35 true (.mv (.t 41)), qg 43 false 42 false (.mv (.t 0)), qg 44 false 42 false (.mv (.t 7)), qg 45 false 42 false (.ias (.t 43) (.t 44) 1), qg 46 false 42 false (.load (.t 45) 1 false), qg 47 true 42 false (.call 99 [(.t 46)]), qg 48 false 42 false (.mv (.t 47)), qg 49 false 48 true (.mv (.t 1)), qg 50 true 48 true (.call 99 [(.t 49)]), qg 51 false 42 false (.pick (.t 48) (.t 50) (.c (.b false))), qg 52 false 35 true (.pick (.t 42) (.c (.b true)) (.t 51)), q 53 (.pick (.t 35) (.t 52) (.c (.b false))), q 4 (.mv (.t 31)), q 5 (.mv (.t 53))]) <|
  .ret

/-- slices.BinarySearch[[]int,int] -/
def p_slices_BinarySearch_int_int (E : Env) (a0 a1 : V) (s : St) (K : V → St → Prop) : Prop :=
 optP (lenV a0) s fun v0 s1 =>
 ∃ I2 : Nat → List V → St → Prop, (∃ n3, I2 n3 [(.n .i64 0), v0] s1) ∧ ∀ n3, ∀ x5 : V, ∀ x6 : V, ∀ s4, I2 n3 [x5, x6] s4 →
 optP (binV .num .lss x5 x6) s4 fun v8 s9 =>
 splitP v8 (
 optP (binV .num .add x5 x6) s9 fun v10 s11 =>
 optP (cnvV .u64 v10) s11 fun v12 s13 =>
 optP (binV .num .shr v12 (.n .u64 1)) s13 fun v14 s15 =>
 optP (cnvV .i64 v14) s15 fun v16 s17 =>
 optP (iasV a0 v16 1) s17 fun v18 s19 =>
 optP (ldV v18 1 false s19) s19 fun v20 s21 =>
 ACalls E 98 [v20, a1] s21 fun v22 s23 =>
 splitP v22 (
 optP (binV .num .add v16 (.n .i64 1)) s23 fun v24 s25 =>
 (a0 : V) = a0 ∧ (a1 : V) = a1 ∧ (v0 : V) = v0 ∧ ∃ n7, n7 < n3 ∧ I2 n7 [v24, x6] s25) (
 (a0 : V) = a0 ∧ (a1 : V) = a1 ∧ (v0 : V) = v0 ∧ ∃ n7, n7 < n3 ∧ I2 n7 [x5, v16] s23)) (
 let k26 : V → St → Prop := (fun x28 s27 =>
 K (.tup [x28, (.b true)]) s27);
 let k29 : V → St → Prop := (fun x31 s30 =>
 K (.tup [x31, (.b false)]) s30);
 optP (binV .num .lss x5 v0) s9 fun v32 s33 =>
 splitP v32 (
 optP (iasV a0 x5 1) s33 fun v34 s35 =>
 optP (ldV v34 1 false s35) s35 fun v36 s37 =>
 optP (binV .num .eql v36 a1) s37 fun v38 s39 =>
 splitP v38 (
 k26 x5 s39) (
 optP (iasV a0 x5 1) s39 fun v40 s41 =>
 optP (ldV v40 1 false s41) s41 fun v42 s43 =>
 ACalls E 99 [v42] s43 fun v44 s45 =>
 splitP v44 (
 ACalls E 99 [a1] s45 fun v46 s47 =>
 splitP v46 (
 k26 x5 s47) (
 k29 x5 s47)) (
 k29 x5 s45))) (
 k29 x5 s33))
theorem e_slices_BinarySearch_int_int (E : Env) (a0 a1 : V) (s : St) (K : V → St → Prop) : axF E c_slices_BinarySearch_int_int [a0, a1] s K = p_slices_BinarySearch_int_int E a0 a1 s K := by kernel_rfl
theorem g_slices_BinarySearch_int_int {E : Env} {a0 a1 : V} {s : St} {K : V → St → Prop} (h : chkF E.P E.m (E.m 88) c_slices_BinarySearch_int_int = true) (hp : p_slices_BinarySearch_int_int E a0 a1 s K) : ACalls E 88 [a0, a1] s K :=
  acalls h rfl (by rw [e_slices_BinarySearch_int_int]; exact hp)

/-- slices.Delete[[]int,int] -/
def c_slices_Delete_int_int : AFunc := .mk 3 33 [.t 6] <|
  .seq (.reg [q 6 (.mv (.c (.l 1 [] .nil)))]) <|
  .seq (.reg [q 8 (.mv (.t 0)), q 9 (.mv (.t 1)), q 10 (.mv (.t 2)), q 11 (.mv (.t 0)), q 12 (.len (.t 11)), q 13 (.slc (.t 8) (some (.t 9)) (some (.t 10)) (some (.t 12)) 1)]) <|
  .seq (.seq (.reg [q 14 (.mv (.t 1)), q 15 (.mv (.t 2)), qs 16 (.bin .num .eql (.t 14) (.t 15))]) <|
  .cond (.t 16) (.seq (.reg [q 17 (.mv (.t 0)), q 6 (.mv (.t 17))]) <|
  .ret) <|
  .skip) <|
  .seq (.reg [q 18 (.mv (.t 0)), q 19 (.len (.t 18)), q 7 (.mv (.t 19))]) <|
  .seq (.draw [qd (some 20) false [] (.mv (.t 0)), qd (some 21) false [] (.mv (.t 1)), qd (some 22) false [0, 1] (.slc (.t 20) none (some (.t 21)) none 1), qd (some 23) false [] (.mv (.t 0)), qd (some 24) false [] (.mv (.t 2)), qd (some 25) false [3, 4] (.slc (.t 23) (some (.t 24)) none none 1), qd (some 26) false [0, 1, 2, 3, 4, 5] (.app (.t 22) (.t 25) 1 8), qd (some 0) false [0, 1, 2, 3, 4, 5, 6] (.mv (.t 26))]) <|
  .seq (.reg [q 27 (.mv (.t 0)), q 28 (.mv (.t 0)), q 29 (.len (.t 28)), q 30 (.mv (.t 7)), q 31 (.slc (.t 27) (some (.t 29)) (some (.t 30)) none 1), qn (.clr (.t 31) [.n .i64 0])]) <|
  .seq (.reg [q 32 (.mv (.t 0)), q 6 (.mv (.t 32))]) <|
  .ret

/-- slices.Delete[[]int,int] -/
def p_slices_Delete_int_int (E : Env) (a0 a1 a2 : V) (s : St) (K : V → St → Prop) : Prop :=
 optP (lenV a0) s fun v0 s1 =>
 optP (slcV a0 (some a1) (some a2) (some v0) 1) s1 fun v2 s3 =>
 optP (binV .num .eql a1 a2) s3 fun v4 s5 =>
 splitP v4 (
 K a0 s5) (
 optP (lenV a0) s5 fun v6 s7 =>
 optP (slcV a0 none (some a1) none 1) s7 fun v8 s9 =>
 optP (slcV a0 (some a2) none none 1) s9 fun v10 s11 =>
 optW (appV v8 v10 1 8 s11) fun v12 s13 =>
 (True) ∧ optP (lenV v12) s13 fun v14 s15 =>
 optP (slcV v12 (some v14) (some v6) none 1) s15 fun v16 s17 =>
 optW (clrV v16 [.n .i64 0] s17) fun v18 s19 =>
 K v12 s19)
theorem e_slices_Delete_int_int (E : Env) (a0 a1 a2 : V) (s : St) (K : V → St → Prop) : axF E c_slices_Delete_int_int [a0, a1, a2] s K = p_slices_Delete_int_int E a0 a1 a2 s K := by kernel_rfl
theorem g_slices_Delete_int_int {E : Env} {a0 a1 a2 : V} {s : St} {K : V → St → Prop} (h : chkF E.P E.m (E.m 89) c_slices_Delete_int_int = true) (hp : p_slices_Delete_int_int E a0 a1 a2 s K) : ACalls E 89 [a0, a1, a2] s K :=
  acalls h rfl (by rw [e_slices_Delete_int_int]; exact hp)

/-- slices.Delete[[]int,int] -/
def cm_slices_Delete_int_int : AFunc := .mk 3 33 [.t 6] <|
  .seq (.reg [q 6 (.mv (.c (.l 1 [] .nil)))]) <|
  .seq (.reg [q 8 (.mv (.t 0)), q 9 (.mv (.t 1)), q 10 (.mv (.t 2)), q 11 (.mv (.t 0)), q 12 (.len (.t 11)), q 13 (.slc (.t 8) (some (.t 9)) (some (.t 10)) (some (.t 12)) 1)]) <|
  .seq (.seq (.reg [q 14 (.mv (.t 1)), q 15 (.mv (.t 2)), qs 16 (.bin .num .eql (.t 14) (.t 15))]) <|
  .cond (.t 16) (.seq (.reg [q 17 (.mv (.t 0)), q 6 (.mv (.t 17))]) <|
  .ret) <|
  .skip) <|
  .seq (.reg [q 18 (.mv (.t 0)), q 19 (.len (.t 18)), q 7 (.mv (.t 19))]) <|
  .seq (.draw [qd (some 20) false [] (.mv (.t 0)), qd (some 21) false [] (.mv (.t 1)), qd (some 22) false [0, 1] (.slc (.t 20) none (some (.t 21)) none 1), qd (some 23) false [] (.mv (.t 0)), qd (some 24) false [] (.mv (.t 2)), qd (some 25) false [3, 4] (.slc (.t 23) (some (.t 24)) none none 1), qd (some 26) false [0, 1, 2, 3, 4, 5] (.appm (.t 22) (.t 25) 1 8), qd (some 0) false [0, 1, 2, 3, 4, 5, 6] (.mv (.t 26))]) <|
  .seq (.reg [q 27 (.mv (.t 0)), q 28 (.mv (.t 0)), q 29 (.len (.t 28)), q 30 (.mv (.t 7)), q 31 (.slc (.t 27) (some (.t 29)) (some (.t 30)) none 1), qn (.clr (.t 31) [.n .i64 0])]) <|
  .seq (.reg [q 32 (.mv (.t 0)), q 6 (.mv (.t 32))]) <|
  .ret

/-- slices.Delete[[]int,int] -/
def pm_slices_Delete_int_int (E : Env) (a0 a1 a2 : V) (s : St) (K : V → St → Prop) : Prop :=
 optP (lenV a0) s fun v0 s1 =>
 optP (slcV a0 (some a1) (some a2) (some v0) 1) s1 fun v2 s3 =>
 optP (binV .num .eql a1 a2) s3 fun v4 s5 =>
 splitP v4 (
 K a0 s5) (
 optP (lenV a0) s5 fun v6 s7 =>
 optP (slcV a0 none (some a1) none 1) s7 fun v8 s9 =>
 optP (slcV a0 (some a2) none none 1) s9 fun v10 s11 =>
 appmP v8 v10 1 8 s11 fun v12 s13 =>
 (True) ∧ optP (lenV v12) s13 fun v14 s15 =>
 optP (slcV v12 (some v14) (some v6) none 1) s15 fun v16 s17 =>
 optW (clrV v16 [.n .i64 0] s17) fun v18 s19 =>
 K v12 s19)
theorem em_slices_Delete_int_int (E : Env) (a0 a1 a2 : V) (s : St) (K : V → St → Prop) : axF E cm_slices_Delete_int_int [a0, a1, a2] s K = pm_slices_Delete_int_int E a0 a1 a2 s K := by kernel_rfl
theorem gm_slices_Delete_int_int {E : Env} {a0 a1 a2 : V} {s : St} {K : V → St → Prop} (h : chkF E.P E.m (E.m 89) cm_slices_Delete_int_int = true) (hp : pm_slices_Delete_int_int E a0 a1 a2 s K) : ACalls E 89 [a0, a1, a2] s K :=
  acalls h rfl (by rw [em_slices_Delete_int_int]; exact hp)

/-- slices.Insert[[]int,int] -/
def cm_slices_Insert_int_int : AFunc := .mk 3 95 [.t 6] <|
  .seq (.reg [q 6 (.mv (.c (.l 1 [] .nil)))]) <|
  .seq (.reg [q 10 (.mv (.t 0)), q 11 (.mv (.t 1)), q 12 (.slc (.t 10) (some (.t 11)) none none 1)]) <|
  .seq (.reg [q 13 (.mv (.t 2)), q 14 (.len (.t 13)), q 7 (.mv (.t 14))]) <|
  .seq (.seq (.reg [q 15 (.mv (.t 7)), qs 16 (.bin .num .eql (.t 15) (.c (.n .i64 0)))]) <|
  .cond (.t 16) (.seq (.reg [q 17 (.mv (.t 0)), q 6 (.mv (.t 17))]) <|
  .ret) <|
  .skip) <|
  .seq (.reg [q 18 (.mv (.t 0)), q 19 (.len (.t 18)), q 8 (.mv (.t 19))]) <|
  .seq (.seq (.reg [q 20 (.mv (.t 1)), q 21 (.mv (.t 8)), qs 22 (.bin .num .eql (.t 20) (.t 21))]) <|
  .cond (.t 22) (.seq (.reg [q 23 (.mv (.t 0)), q 24 (.mv (.t 2)), q 25 (.appm (.t 23) (.t 24) 1 8), q 6 (.mv (.t 25))]) <|
  .ret) <|
  .skip) <|
  .seq (.seq (.reg [q 26 (.mv (.t 8)), q 27 (.mv (.t 7)), q 28 (.bin .num .add (.t 26) (.t 27)), q 29 (.mv (.t 0)), q 30 (.cap (.t 29)), qs 31 (.bin .num .gtr (.t 28) (.t 30))]) <|
  .cond (.t 31) (.seq (.reg [q 32 (.mv (.t 0)), q 33 (.mv (.t 1)), q 34 (.slc (.t 32) none (some (.t 33)) none 1), q 35 (.mv (.t 8)), q 36 (.mv (.t 7)), q 37 (.bin .num .add (.t 35) (.t 36)), q 38 (.mv (.t 1)), q 39 (.bin .num .sub (.t 37) (.t 38)), q 40 (.appz (.t 34) (.t 39) [.n .i64 0] 8), q 9 (.mv (.t 40))]) <|
  .seq (.reg [q 41 (.mv (.t 9)), q 42 (.mv (.t 1)), q 43 (.slc (.t 41) (some (.t 42)) none none 1), q 44 (.mv (.t 2)), q 45 (.cpy (.t 43) (.t 44) 1)]) <|
  .seq (.draw [qd (some 46) false [] (.mv (.t 9)), qd (some 47) false [] (.mv (.t 1)), qd (some 48) false [] (.mv (.t 7)), qd (some 49) false [1, 2] (.bin .num .add (.t 47) (.t 48)), qd (some 50) false [0, 1, 2, 3] (.slc (.t 46) (some (.t 49)) none none 1), qd (some 51) false [] (.mv (.t 0)), qd (some 52) false [] (.mv (.t 1)), qd (some 53) false [5, 6] (.slc (.t 51) (some (.t 52)) none none 1), qd (some 54) false [0, 1, 2, 3, 4, 5, 6, 7] (.cpy (.t 50) (.t 53) 1)]) <|
  .seq (.reg [q 55 (.mv (.t 9)), q 6 (.mv (.t 55))]) <|
  .ret) <|
  .skip) <|
  .seq (.reg [q 56 (.mv (.t 0)), q 57 (.mv (.t 8)), q 58 (.mv (.t 7)), q 59 (.bin .num .add (.t 57) (.t 58)), q 60 (.slc (.t 56) none (some (.t 59)) none 1), q 0 (.mv (.t 60))]) <|
  .seq (.seq (.reg [q 61 (.mv (.t 2)), q 62 (.mv (.t 0)), q 63 (.mv (.t 1)), q 64 (.mv (.t 7)), q 65 (.bin .num .add (.t 63) (.t 64)), q 66 (.slc (.t 62) (some (.t 65)) none none 1), qs 67 (.call 100 [(.t 61), (.t 66)]), q 68 (.un .not (.t 67))]) <|
  .cond (.t 68) (.seq (.draw [qd (some 69) false [] (.mv (.t 0)), qd (some 70) false [] (.mv (.t 1)), qd (some 71) false [] (.mv (.t 7)), qd (some 72) false [1, 2] (.bin .num .add (.t 70) (.t 71)), qd (some 73) false [0, 1, 2, 3] (.slc (.t 69) (some (.t 72)) none none 1), qd (some 74) false [] (.mv (.t 0)), qd (some 75) false [] (.mv (.t 1)), qd (some 76) false [5, 6] (.slc (.t 74) (some (.t 75)) none none 1), qd (some 77) false [0, 1, 2, 3, 4, 5, 6, 7] (.cpy (.t 73) (.t 76) 1)]) <|
  .seq (.reg [q 78 (.mv (.t 0)), q 79 (.mv (.t 1)), q 80 (.slc (.t 78) (some (.t 79)) none none 1), q 81 (.mv (.t 2)), q 82 (.cpy (.t 80) (.t 81) 1)]) <|
  .seq (.reg [q 83 (.mv (.t 0)), q 6 (.mv (.t 83))]) <|
  .ret) <|
  .skip) <|
  .seq (.reg [q 84 (.mv (.t 0)), q 85 (.mv (.t 8)), q 86 (.slc (.t 84) (some (.t 85)) none none 1), q 87 (.mv (.t 2)), q 88 (.cpy (.t 86) (.t 87) 1)]) <|
  .seq (.reg [q 89 (.mv (.t 0)), q 90 (.mv (.t 1)), q 91 (.slc (.t 89) (some (.t 90)) none none 1), q 92 (.mv (.t 7)), q 93 (.call 101 [(.t 91), (.t 92)])]) <|
  .seq (.reg [q 94 (.mv (.t 0)), q 6 (.mv (.t 94))]) <|
  .ret

/-- slices.Insert[[]int,int] -/
def pm_slices_Insert_int_int (E : Env) (a0 a1 a2 : V) (s : St) (K : V → St → Prop) : Prop :=
 optP (slcV a0 (some a1) none none 1) s fun v0 s1 =>
 optP (lenV a2) s1 fun v2 s3 =>
 optP (binV .num .eql v2 (.n .i64 0)) s3 fun v4 s5 =>
 splitP v4 (
 K a0 s5) (
 optP (lenV a0) s5 fun v6 s7 =>
 optP (binV .num .eql a1 v6) s7 fun v8 s9 =>
 splitP v8 (
 appmP a0 a2 1 8 s9 fun v10 s11 =>
 K v10 s11) (
 optP (binV .num .add v6 v2) s9 fun v12 s13 =>
 optP (capV a0) s13 fun v14 s15 =>
 optP (binV .num .gtr v12 v14) s15 fun v16 s17 =>
 splitP v16 (
 optP (slcV a0 none (some a1) none 1) s17 fun v18 s19 =>
 optP (binV .num .add v6 v2) s19 fun v20 s21 =>
 optP (binV .num .sub v20 a1) s21 fun v22 s23 =>
 appzP v18 v22 [.n .i64 0] 8 s23 fun v24 s25 =>
 optP (slcV v24 (some a1) none none 1) s25 fun v26 s27 =>
 optW (cpyV v26 a2 1 s27) fun v28 s29 =>
 optP (binV .num .add a1 v2) s29 fun v30 s31 =>
 optP (slcV v24 (some v30) none none 1) s31 fun v32 s33 =>
 optP (slcV a0 (some a1) none none 1) s33 fun v34 s35 =>
 optW (cpyV v32 v34 1 s35) fun v36 s37 =>
 (True) ∧ K v24 s37) (
 optP (binV .num .add v6 v2) s17 fun v38 s39 =>
 optP (slcV a0 none (some v38) none 1) s39 fun v40 s41 =>
 optP (binV .num .add a1 v2) s41 fun v42 s43 =>
 optP (slcV v40 (some v42) none none 1) s43 fun v44 s45 =>
 ACalls E 100 [a2, v44] s45 fun v46 s47 =>
 splitP v46 (
 optP (slcV v40 (some v6) none none 1) s47 fun v48 s49 =>
 optW (cpyV v48 a2 1 s49) fun v50 s51 =>
 optP (slcV v40 (some a1) none none 1) s51 fun v52 s53 =>
 ACalls E 101 [v52, v2] s53 fun v54 s55 =>
 K v40 s55) (
 optP (binV .num .add a1 v2) s47 fun v56 s57 =>
 optP (slcV v40 (some v56) none none 1) s57 fun v58 s59 =>
 optP (slcV v40 (some a1) none none 1) s59 fun v60 s61 =>
 optW (cpyV v58 v60 1 s61) fun v62 s63 =>
 (True) ∧ optP (slcV v40 (some a1) none none 1) s63 fun v64 s65 =>
 optW (cpyV v64 a2 1 s65) fun v66 s67 =>
 K v40 s67))))
theorem em_slices_Insert_int_int (E : Env) (a0 a1 a2 : V) (s : St) (K : V → St → Prop) : axF E cm_slices_Insert_int_int [a0, a1, a2] s K = pm_slices_Insert_int_int E a0 a1 a2 s K := by kernel_rfl
theorem gm_slices_Insert_int_int {E : Env} {a0 a1 a2 : V} {s : St} {K : V → St → Prop} (h : chkF E.P E.m (E.m 90) cm_slices_Insert_int_int = true) (hp : pm_slices_Insert_int_int E a0 a1 a2 s K) : ACalls E 90 [a0, a1, a2] s K :=
  acalls h rfl (by rw [em_slices_Insert_int_int]; exact hp)

end Go.Ab

/-
  The program's code, resolved, and its shallow form (printed by a program). No condition.
-/
import Derived.Test.YtoecohcpkicdaaaXC
import Derived.Test.YtoecohcpkicdaaaXCl
import Derived.KernelRfl
set_option linter.unusedVariables false
set_option linter.unusedSimpArgs false
set_option linter.unnecessarySimpa false
namespace Go.Ab
/-- strongroom/strongroomref19.SameStand -/
def c_strongroomref19_SameStand : AFunc := .mk 2 59 [.t 4] <|
  .seq (.reg [q 2 (.box (.t 0)), q 3 (.box (.t 1)), q 4 (.mv (.c (.b false)))]) <|
  .seq (.reg [q 5 (.fa (.t 2) 0 1 false), q 6 (.load (.t 5) 1 false), q 7 (.fa (.t 3) 0 1 false), q 8 (.load (.t 7) 1 false), qs 9 (.bin .num .eql (.t 6) (.t 8)), q 10 (.mv (.t 9)), qg 11 false 10 true (.fa (.t 2) 1 1 false), qg 12 false 10 true (.load (.t 11) 1 false), qg 13 false 10 true (.fa (.t 3) 1 1 false), qg 14 false 10 true (.load (.t 13) 1 false), qg 15 true 10 true (.bin .num .eql (.t 12) (.t 14)), q 16 (.pick (.t 10) (.t 15) (.c (.b false))), q 17 (.mv (.t 16)), qg 18 false 17 true (.fa (.t 2) 2 1 false), qg 19 false 17 true (.load (.t 18) 1 false), qg 20 false 17 true (.fa (.t 3) 2 1 false), qg 21 false 17 true (.load (.t 20) 1 false), qg 22 true 17 true (.bin .num .eql (.t 19) (.t 21)), q 23 (.pick (.t 17) (.t 22) (.c (.b false))), q 24 (.mv (.t 23)), qg 25 false 24 true (.fa (.t 2) 3 1 false), qg 26 false 24 true (.load (.t 25) 1 false), qg 27 false 24 true (.fa (.t 3) 3 1 false), qg 28 false 24 true (.load (.t 27) 1 false), qg 29 true 24 true (.bin .num .eql (.t 26) (.t 28)), q 30 (.pick (.t 24) (.t 29) (.c (.b false))), q 31 (.mv (.t 30)), qg 32 false 31 true (.fa (.t 2) 4 1 false), qg 33 false 31 true (.load (.t 32) 1 false), qg 34 false 31 true (.fa (.t 3) 4 1 false), qg 35 false 31 true (.load (.t 34) 1 false), qg 36 true 31 true (.bin .num .eql (.t 33) (.t 35)), q 37 (.pick (.t 31) (.t 36) (.c (.b false))), q 38 (.mv (.t 37)), qg 39 false 38 true (.fa (.t 2) 5 1 false), qg 40 false 38 true (.load (.t 39) 1 false), qg 41 false 38 true (.fa (.t 3) 5 1 false), qg 42 false 38 true (.load (.t 41) 1 false), qg 43 true 38 true (.bin .num .eql (.t 40) (.t 42)), q 44 (.pick (.t 38) (.t 43) (.c (.b false))), q 45 (.mv (.t 44)), qg 46 false 45 true (.fa (.t 2) 6 1 false), qg 47 false 45 true (.load (.t 46) 1 false), qg 48 false 45 true (.fa (.t 3) 6 1 false), qg 49 false 45 true (.load (.t 48) 1 false), qg 50 true 45 true (.bin .num .eql (.t 47) (.t 49)), q 51 (.pick (.t 45) (.t 50) (.c (.b false))), q 52 (.mv (.t 51)), qg 53 false 52 true (.fa (.t 2) 7 1 false), qg 54 false 52 true (.load (.t 53) 1 false), qg 55 false 52 true (.fa (.t 3) 7 1 false), qg 56 false 52 true (.load (.t 55) 1 false), qg 57 true 52 true (.call 31 [(.t 54), (.t 56)]), q 58 (.pick (.t 52) (.t 57) (.c (.b false))), q 4 (.mv (.t 58))]) <|
  .ret

/-- strongroom/strongroomref19.SameStand -/
def p_strongroomref19_SameStand (E : Env) (a0 a1 : V) (s : St) (K : V → St → Prop) : Prop :=
 optW (boxV a0 s) fun v0 s1 =>
 optW (boxV a1 s1) fun v2 s3 =>
 let k4 : St → Prop := (fun s5 =>
 K (.b false) s5);
 optP (faV v0 0 1 false) s3 fun v6 s7 =>
 optP (ldV v6 1 false s7) s7 fun v8 s9 =>
 optP (faV v2 0 1 false) s9 fun v10 s11 =>
 optP (ldV v10 1 false s11) s11 fun v12 s13 =>
 optP (binV .num .eql v8 v12) s13 fun v14 s15 =>
 splitP v14 (
 optP (faV v0 1 1 false) s15 fun v16 s17 =>
 optP (ldV v16 1 false s17) s17 fun v18 s19 =>
 optP (faV v2 1 1 false) s19 fun v20 s21 =>
 optP (ldV v20 1 false s21) s21 fun v22 s23 =>
 optP (binV .num .eql v18 v22) s23 fun v24 s25 =>
 splitP v24 (
 optP (faV v0 2 1 false) s25 fun v26 s27 =>
 optP (ldV v26 1 false s27) s27 fun v28 s29 =>
 optP (faV v2 2 1 false) s29 fun v30 s31 =>
 optP (ldV v30 1 false s31) s31 fun v32 s33 =>
 optP (binV .num .eql v28 v32) s33 fun v34 s35 =>
 splitP v34 (
 optP (faV v0 3 1 false) s35 fun v36 s37 =>
 optP (ldV v36 1 false s37) s37 fun v38 s39 =>
 optP (faV v2 3 1 false) s39 fun v40 s41 =>
 optP (ldV v40 1 false s41) s41 fun v42 s43 =>
 optP (binV .num .eql v38 v42) s43 fun v44 s45 =>
 splitP v44 (
 optP (faV v0 4 1 false) s45 fun v46 s47 =>
 optP (ldV v46 1 false s47) s47 fun v48 s49 =>
 optP (faV v2 4 1 false) s49 fun v50 s51 =>
 optP (ldV v50 1 false s51) s51 fun v52 s53 =>
 optP (binV .num .eql v48 v52) s53 fun v54 s55 =>
 splitP v54 (
 optP (faV v0 5 1 false) s55 fun v56 s57 =>
 optP (ldV v56 1 false s57) s57 fun v58 s59 =>
 optP (faV v2 5 1 false) s59 fun v60 s61 =>
 optP (ldV v60 1 false s61) s61 fun v62 s63 =>
 optP (binV .num .eql v58 v62) s63 fun v64 s65 =>
 splitP v64 (
 optP (faV v0 6 1 false) s65 fun v66 s67 =>
 optP (ldV v66 1 false s67) s67 fun v68 s69 =>
 optP (faV v2 6 1 false) s69 fun v70 s71 =>
 optP (ldV v70 1 false s71) s71 fun v72 s73 =>
 optP (binV .num .eql v68 v72) s73 fun v74 s75 =>
 splitP v74 (
 optP (faV v0 7 1 false) s75 fun v76 s77 =>
 optP (ldV v76 1 false s77) s77 fun v78 s79 =>
 optP (faV v2 7 1 false) s79 fun v80 s81 =>
 optP (ldV v80 1 false s81) s81 fun v82 s83 =>
 ACalls E 31 [v78, v82] s83 fun v84 s85 =>
 splitP v84 (
 K (.b true) s85) (
 k4 s85)) (
 k4 s75)) (
 k4 s65)) (
 k4 s55)) (
 k4 s45)) (
 k4 s35)) (
 k4 s25)) (
 k4 s15)
theorem e_strongroomref19_SameStand (E : Env) (a0 a1 : V) (s : St) (K : V → St → Prop) : axF E c_strongroomref19_SameStand [a0, a1] s K = p_strongroomref19_SameStand E a0 a1 s K := by kernel_rfl
theorem g_strongroomref19_SameStand {E : Env} {a0 a1 : V} {s : St} {K : V → St → Prop} (h : chkF E.P E.m (E.m 10) c_strongroomref19_SameStand = true) (hp : p_strongroomref19_SameStand E a0 a1 s K) : ACalls E 10 [a0, a1] s K :=
  acalls h rfl (by rw [e_strongroomref19_SameStand]; exact hp)

/-- strongroom/strongroomlaw19.kind -/
def c_strongroomlaw19_kind : AFunc := .mk 2 13 [.t 4] <|
  .seq (.reg [q 4 (.mv (.c (.n .i64 0)))]) <|
  .seq (.seq (.reg [q 5 (.mv (.t 0)), qs 6 (.bin .num .lss (.t 5) (.c (.n .i64 0)))]) <|
  .cond (.t 6) (.reg [q 7 (.mv (.t 0)), q 8 (.bin .num .add (.t 7) (.c (.n .i64 1))), q 9 (.un .neg (.t 8)), q 0 (.mv (.t 9))]) <|
  .skip) <|
  .seq (.reg [q 10 (.mv (.t 0)), q 11 (.mv (.t 1)), q 12 (.bin .num .rem (.t 10) (.t 11)), q 4 (.mv (.t 12))]) <|
  .ret

/-- strongroom/strongroomlaw19.kind -/
def p_strongroomlaw19_kind (E : Env) (a0 a1 : V) (s : St) (K : V → St → Prop) : Prop :=
 let k0 : V → St → Prop := (fun x2 s1 =>
 optP (binV .num .rem x2 a1) s1 fun v3 s4 =>
 K v3 s4);
 optP (binV .num .lss a0 (.n .i64 0)) s fun v5 s6 =>
 splitP v5 (
 optP (binV .num .add a0 (.n .i64 1)) s6 fun v7 s8 =>
 optP (unV .neg v7) s8 fun v9 s10 =>
 k0 v9 s10) (
 k0 a0 s6)
theorem e_strongroomlaw19_kind (E : Env) (a0 a1 : V) (s : St) (K : V → St → Prop) : axF E c_strongroomlaw19_kind [a0, a1] s K = p_strongroomlaw19_kind E a0 a1 s K := by kernel_rfl
theorem g_strongroomlaw19_kind {E : Env} {a0 a1 : V} {s : St} {K : V → St → Prop} (h : chkF E.P E.m (E.m 11) c_strongroomlaw19_kind = true) (hp : p_strongroomlaw19_kind E a0 a1 s K) : ACalls E 11 [a0, a1] s K :=
  acalls h rfl (by rw [e_strongroomlaw19_kind]; exact hp)

/-- strongroom/raft.New -/
def c_raft_New : AFunc := .mk 6 82 [.t 12] <|
  .seq (.reg [q 8 (.box (.t 2)), q 9 (.box (.t 3)), q 12 (.mv (.c (.nilp)))]) <|
  .seq (.draw [qd (some 15) false [] (.mv (.t 0)), qd (some 16) false [] (.fa (.t 8) 0 1 false), qd (some 17) false [1] (.load (.t 16) 1 false), qd (some 18) false [1, 2] (.call 32 [(.t 17), (.c (.n .i64 0)), (.c (.n .i64 1099511627776))]), qd (some 19) false [] (.fa (.t 8) 1 1 false), qd (some 20) false [4] (.load (.t 19) 1 false), qd (some 21) false [1, 2, 3, 4, 5] (.call 32 [(.t 20), (.c (.n .i64 0)), (.c (.n .i64 1099511627776))]), qd (some 22) false [1, 2, 3, 4, 5, 6] (.build [.n .i64 0, .n .i64 0] [(0, 1, (.t 18)), (1, 1, (.t 21))]), qd (some 23) false [] (.fa (.t 9) 0 1 false), qd (some 24) false [8] (.load (.t 23) 1 false), qd (some 25) false [] (.fa (.t 9) 1 1 false), qd (some 26) false [10] (.load (.t 25) 1 false), qd (some 27) false [] (.mv (.t 4)), qd (some 28) false [1, 2, 3, 4, 5, 6, 8, 9, 10, 11, 12] (.call 33 [(.t 24), (.t 26), (.t 27)]), qd (some 29) false [] (.load (.t 9) 4 true), qd (some 30) false [1, 2, 3, 4, 5, 6, 8, 9, 10, 11, 12, 13, 14] (.call 34 [(.t 29)]), qd (some 31) false [0, 1, 2, 3, 4, 5, 6, 7, 8, 9, 10, 11, 12, 13, 14, 15] (.build [.n .i64 0, .n .i64 0, .n .i64 0, .n .i64 0, .n .i64 0, .nilp, .n .i64 0, .n .i64 0, .n .i64 0, .l 1 [] .nil, .l 1 [] .nil, .l 1 [] .nil, .n .i64 0, .n .i64 0, .n .i64 0, .n .i64 0, .n .i64 0, .n .i64 0, .n .i64 0, .n .i64 0, .n .i64 0, .n .i64 0, .n .i64 0, .n .i64 0, .n .i64 0, .n .i64 0, .n .i64 0, .n .i64 0, .n .i64 0, .n .i64 0, .n .i64 0, .n .i64 0, .b false, .n .i64 0, .n .i64 0, .l 1 [] .nil, .l 1 [] .nil, .n .i64 0, .l 4 [] .nil, .l 11 [] .nil] [(0, 1, (.t 15)), (1, 2, (.t 22)), (5, 1, (.t 28)), (7, 4, (.t 30))]), qd (some 32) false [0, 1, 2, 3, 4, 5, 6, 7, 8, 9, 10, 11, 12, 13, 14, 15, 16] (.box (.t 31)), qd (some 13) false [0, 1, 2, 3, 4, 5, 6, 7, 8, 9, 10, 11, 12, 13, 14, 15, 16, 17] (.mv (.t 32))]) <|
  .seq (.seq (.reg [q 33 (.fa (.t 9) 2 1 false), q 34 (.load (.t 33) 1 false), q 35 (.call 35 [(.t 34)]), qs 36 (.bin .num .neq (.t 35) (.c (.n .i64 0)))]) <|
  .cond (.t 36) (.seq (.reg [q 37 (.mv (.t 13)), q 38 (.nilchk (.t 37)), q 39 (.fa (.t 38) 7 4 true), q 40 (.fa (.t 39) 2 1 false), qn (.store (.t 40) (.c (.l 1 [] .nil)) 1)]) <|
  .seq (.reg [q 41 (.mv (.t 1)), q 42 (.call 35 [(.t 41)]), qs 43 (.bin .num .eql (.t 42) (.c (.n .i64 0)))]) <|
  .cond (.t 43) (.reg [q 44 (.mv (.t 13)), q 45 (.mv (.t 1)), q 46 (.call 23 [(.t 45)]), q 47 (.nilchk (.t 44)), q 48 (.fa (.t 47) 7 4 true), q 49 (.fa (.t 48) 2 1 false), qn (.store (.t 49) (.t 46) 1)]) <|
  .skip) <|
  .skip) <|
  .seq (.reg [q 50 (.mv (.t 13)), q 51 (.mv (.t 13)), q 52 (.nilchk (.t 51)), q 53 (.fa (.t 52) 5 1 false), q 54 (.load (.t 53) 1 false), q 55 (.call 21 [(.t 54)]), q 56 (.bin .num .sub (.t 55) (.c (.n .i64 1))), q 57 (.nilchk (.t 50)), q 58 (.fa (.t 57) 7 4 true), q 59 (.fa (.t 58) 0 1 false), qn (.store (.t 59) (.t 56) 1)]) <|
  .seq (.reg [q 60 (.mv (.t 13)), q 61 (.mv (.t 13)), q 62 (.nilchk (.t 61)), q 63 (.fa (.t 62) 7 4 true), q 64 (.fa (.t 63) 0 1 false), q 65 (.load (.t 64) 1 false), q 66 (.nilchk (.t 60)), q 67 (.fa (.t 66) 6 1 false), qn (.store (.t 67) (.t 65) 1)]) <|
  .seq (.seq (.reg [q 68 (.mv (.c (.n .i64 0)))]) <|
  .block 0 <|
  .loop [68] [5, 13] <|
  .seq (.reg [qs 69 (.bin .num .lss (.t 68) (.c (.n .i64 8)))]) <|
  .seq (.cond (.t 69) (.skip) <|
  .exit 0) <|
  .seq (.block 1 <|
  .seq (.reg [q 70 (.mv (.t 68)), q 14 (.mv (.t 70))]) <|
  .reg [q 71 (.mv (.t 13)), q 72 (.mv (.t 14)), q 73 (.nilchk (.t 71)), q 74 (.fa (.t 73) 14 16 true), q 75 (.iaa (.t 74) (.t 72) 8 2), q 76 (.fa (.t 75) 0 1 false), qn (.store (.t 76) (.c (.n .i64 1)) 1)]) <|
  .reg [q 77 (.bin .num .add (.t 68) (.c (.n .i64 1))), q 68 (.mv (.t 77))]) <|
  .seq (.reg [q 78 (.mv (.t 13)), q 79 (.mv (.t 5)), q 80 (.call 36 [(.t 78), (.t 79)])]) <|
  .seq (.reg [q 81 (.mv (.t 13)), q 12 (.mv (.t 81))]) <|
  .ret

/-- strongroom/raft.New -/
def p_raft_New (E : Env) (a0 a1 a2 a3 a4 a5 : V) (s : St) (K : V → St → Prop) : Prop :=
 optW (boxV a2 s) fun v0 s1 =>
 optW (boxV a3 s1) fun v2 s3 =>
 optP (faV v0 0 1 false) s3 fun v4 s5 =>
 optP (ldV v4 1 false s5) s5 fun v6 s7 =>
 (True) ∧ ACalls E 32 [v6, (.n .i64 0), (.n .i64 1099511627776)] s7 fun v8 s9 =>
 (True) ∧ optP (faV v0 1 1 false) s9 fun v10 s11 =>
 optP (ldV v10 1 false s11) s11 fun v12 s13 =>
 (ldV v10 1 false s7 = some v12 ∧ True) ∧ ACalls E 32 [v12, (.n .i64 0), (.n .i64 1099511627776)] s13 fun v14 s15 =>
 (True) ∧ optP (buildV [.n .i64 0, .n .i64 0] [(0, 1, v8), (1, 1, v14)]) s15 fun v16 s17 =>
 optP (faV v2 0 1 false) s17 fun v18 s19 =>
 optP (ldV v18 1 false s19) s19 fun v20 s21 =>
 (ldV v18 1 false s13 = some v20 ∧ ldV v18 1 false s7 = some v20 ∧ True) ∧ optP (faV v2 1 1 false) s21 fun v22 s23 =>
 optP (ldV v22 1 false s23) s23 fun v24 s25 =>
 (ldV v22 1 false s13 = some v24 ∧ ldV v22 1 false s7 = some v24 ∧ True) ∧ ACalls E 33 [v20, v24, a4] s25 fun v26 s27 =>
 (True) ∧ optP (ldV v2 4 true s27) s27 fun v28 s29 =>
 (ldV v2 4 true s25 = some v28 ∧ ldV v2 4 true s13 = some v28 ∧ ldV v2 4 true s7 = some v28 ∧ True) ∧ ACalls E 34 [v28] s29 fun v30 s31 =>
 (True) ∧ optP (buildV [.n .i64 0, .n .i64 0, .n .i64 0, .n .i64 0, .n .i64 0, .nilp, .n .i64 0, .n .i64 0, .n .i64 0, .l 1 [] .nil, .l 1 [] .nil, .l 1 [] .nil, .n .i64 0, .n .i64 0, .n .i64 0, .n .i64 0, .n .i64 0, .n .i64 0, .n .i64 0, .n .i64 0, .n .i64 0, .n .i64 0, .n .i64 0, .n .i64 0, .n .i64 0, .n .i64 0, .n .i64 0, .n .i64 0, .n .i64 0, .n .i64 0, .n .i64 0, .n .i64 0, .b false, .n .i64 0, .n .i64 0, .l 1 [] .nil, .l 1 [] .nil, .n .i64 0, .l 4 [] .nil, .l 11 [] .nil] [(0, 1, a0), (1, 2, v16), (5, 1, v26), (7, 4, v30)]) s31 fun v32 s33 =>
 optW (boxV v32 s33) fun v34 s35 =>
 (True) ∧ let k36 : St → Prop := (fun s37 =>
 optP (nilV v34) s37 fun v38 s39 =>
 optP (faV v38 5 1 false) s39 fun v40 s41 =>
 optP (ldV v40 1 false s41) s41 fun v42 s43 =>
 ACalls E 21 [v42] s43 fun v44 s45 =>
 optP (binV .num .sub v44 (.n .i64 1)) s45 fun v46 s47 =>
 optP (nilV v34) s47 fun v48 s49 =>
 optP (faV v48 7 4 true) s49 fun v50 s51 =>
 optP (faV v50 0 1 false) s51 fun v52 s53 =>
 optW (storeV v52 v46 1 s53) fun v54 s55 =>
 optP (nilV v34) s55 fun v56 s57 =>
 optP (faV v56 7 4 true) s57 fun v58 s59 =>
 optP (faV v58 0 1 false) s59 fun v60 s61 =>
 optP (ldV v60 1 false s61) s61 fun v62 s63 =>
 optP (nilV v34) s63 fun v64 s65 =>
 optP (faV v64 6 1 false) s65 fun v66 s67 =>
 optW (storeV v66 v62 1 s67) fun v68 s69 =>
 ∃ I70 : Nat → List V → St → Prop, (∃ n71, I70 n71 [(.n .i64 0)] s69) ∧ ∀ n71, ∀ x73 : V, ∀ s72, I70 n71 [x73] s72 →
 optP (binV .num .lss x73 (.n .i64 8)) s72 fun v75 s76 =>
 splitP v75 (
 optP (nilV v34) s76 fun v77 s78 =>
 optP (faV v77 14 16 true) s78 fun v79 s80 =>
 optP (iaaV v79 x73 8 2) s80 fun v81 s82 =>
 optP (faV v81 0 1 false) s82 fun v83 s84 =>
 optW (storeV v83 (.n .i64 1) 1 s84) fun v85 s86 =>
 optP (binV .num .add x73 (.n .i64 1)) s86 fun v87 s88 =>
 (a5 : V) = a5 ∧ (v34 : V) = v34 ∧ ∃ n74, n74 < n71 ∧ I70 n74 [v87] s88) (
 ACalls E 36 [v34, a5] s76 fun v89 s90 =>
 K v34 s90));
 optP (faV v2 2 1 false) s35 fun v91 s92 =>
 optP (ldV v91 1 false s92) s92 fun v93 s94 =>
 ACalls E 35 [v93] s94 fun v95 s96 =>
 optP (binV .num .neq v95 (.n .i64 0)) s96 fun v97 s98 =>
 splitP v97 (
 optP (nilV v34) s98 fun v99 s100 =>
 optP (faV v99 7 4 true) s100 fun v101 s102 =>
 optP (faV v101 2 1 false) s102 fun v103 s104 =>
 optW (storeV v103 (.l 1 [] .nil) 1 s104) fun v105 s106 =>
 ACalls E 35 [a1] s106 fun v107 s108 =>
 optP (binV .num .eql v107 (.n .i64 0)) s108 fun v109 s110 =>
 splitP v109 (
 ACalls E 23 [a1] s110 fun v111 s112 =>
 optP (nilV v34) s112 fun v113 s114 =>
 optP (faV v113 7 4 true) s114 fun v115 s116 =>
 optP (faV v115 2 1 false) s116 fun v117 s118 =>
 optW (storeV v117 v111 1 s118) fun v119 s120 =>
 k36 s120) (
 k36 s110)) (
 k36 s98)
theorem e_raft_New (E : Env) (a0 a1 a2 a3 a4 a5 : V) (s : St) (K : V → St → Prop) : axF E c_raft_New [a0, a1, a2, a3, a4, a5] s K = p_raft_New E a0 a1 a2 a3 a4 a5 s K := by kernel_rfl
theorem g_raft_New {E : Env} {a0 a1 a2 a3 a4 a5 : V} {s : St} {K : V → St → Prop} (h : chkF E.P E.m (E.m 12) c_raft_New = true) (hp : p_raft_New E a0 a1 a2 a3 a4 a5 s K) : ACalls E 12 [a0, a1, a2, a3, a4, a5] s K :=
  acalls h rfl (by rw [e_raft_New]; exact hp)

/-- (*strongroom/raft.Raft).Tick -/
def c_raft_Raft_Tick : AFunc := .mk 1 7 [.cell 2 10 true] <|
  .seq (.reg [q 2 (.alloc [.n .i64 0, .n .i64 0, .b false, .n .i64 0, .n .i64 0, .l 1 [] .nil, .l 1 [] .nil, .n .i64 0, .l 4 [] .nil, .l 11 [] .nil])]) <|
  .seq (.reg [q 3 (.mv (.t 0)), q 4 (.mv (.t 0)), q 5 (.mkf 37 [(.t 4)] []), q 6 (.call 25 [(.t 3), (.t 5)]), qn (.store (.t 2) (.t 6) 10)]) <|
  .ret

/-- (*strongroom/raft.Raft).Tick -/
def p_raft_Raft_Tick (E : Env) (a0 : V) (s : St) (K : V → St → Prop) : Prop :=
 optW (allocW [.n .i64 0, .n .i64 0, .b false, .n .i64 0, .n .i64 0, .l 1 [] .nil, .l 1 [] .nil, .n .i64 0, .l 4 [] .nil, .l 11 [] .nil] s) fun v0 s1 =>
 ACalls E 25 [a0, (.f 37 [a0] [])] s1 fun v2 s3 =>
 optW (storeV v0 v2 10 s3) fun v4 s5 =>
 optP (ldV v0 10 true s5) s5 fun v6 _ =>
 K v6 s5
theorem e_raft_Raft_Tick (E : Env) (a0 : V) (s : St) (K : V → St → Prop) : axF E c_raft_Raft_Tick [a0] s K = p_raft_Raft_Tick E a0 s K := by kernel_rfl
theorem g_raft_Raft_Tick {E : Env} {a0 : V} {s : St} {K : V → St → Prop} (h : chkF E.P E.m (E.m 13) c_raft_Raft_Tick = true) (hp : p_raft_Raft_Tick E a0 s K) : ACalls E 13 [a0] s K :=
  acalls h rfl (by rw [e_raft_Raft_Tick]; exact hp)

/-- (*strongroom/raft.Raft).Propose -/
def c_raft_Raft_Propose : AFunc := .mk 2 71 [.t 4, .cell 5 10 true, .t 6] <|
  .seq (.reg [q 2 (.box (.t 0)), q 3 (.box (.t 1)), q 4 (.mv (.c (.n .i64 0))), q 5 (.alloc [.n .i64 0, .n .i64 0, .b false, .n .i64 0, .n .i64 0, .l 1 [] .nil, .l 1 [] .nil, .n .i64 0, .l 4 [] .nil, .l 11 [] .nil]), q 6 (.mv (.c (.n .i64 0)))]) <|
  .seq (.reg [q 11 (.load (.t 2) 1 false), q 12 (.nilchk (.t 11)), q 13 (.fa (.t 12) 1 2 true), q 14 (.fa (.t 13) 0 1 false), q 15 (.load (.t 14) 1 false), q 16 (.fa (.t 3) 0 1 false), qn (.store (.t 16) (.t 15) 1)]) <|
  .seq (.reg [q 18 (.load (.t 3) 4 true), q 19 (.call 38 [(.t 18)]), q 17 (.mv (.t 19)), q 20 (.ext (.t 17) 0), q 21 (.ext (.t 17) 1), q 7 (.mv (.t 20)), q 8 (.mv (.t 21))]) <|
  .seq (.block 0 <|
  .seq (.reg [q 23 (.load (.t 2) 1 false), q 24 (.nilchk (.t 23)), q 25 (.fa (.t 24) 3 1 false), q 26 (.load (.t 25) 1 false), qs 27 (.bin .num .neq (.t 26) (.c (.n .i64 3))), q 22 (.mv (.t 27))]) <|
  .cond (.t 22) (.reg [q 8 (.mv (.c (.n .i64 190)))]) <|
  .seq (.reg [q 29 (.fa (.t 3) 1 1 false), q 30 (.load (.t 29) 1 false), qs 31 (.bin .num .neq (.t 30) (.c (.n .i64 1))), q 32 (.mv (.t 31)), qg 33 false 32 true (.fa (.t 3) 1 1 false), qg 34 false 32 true (.load (.t 33) 1 false), qg 35 true 32 true (.bin .num .neq (.t 34) (.c (.n .i64 2))), q 36 (.pick (.t 32) (.t 35) (.c (.b false))), q 28 (.mv (.t 36))]) <|
  .cond (.t 28) (.reg [q 8 (.mv (.c (.n .i64 1)))]) <|
  .seq (.reg [q 38 (.mv (.t 8)), qs 39 (.bin .num .neq (.t 38) (.c (.n .i64 0))), q 37 (.mv (.t 39))]) <|
  .cond (.t 37) (.skip) <|
  .seq (.draw [qd (some 41) false [] (.load (.t 2) 1 false), qd (some 42) false [0] (.nilchk (.t 41)), qd (some 43) false [0, 1] (.fa (.t 42) 5 1 false), qd (some 44) false [0, 1, 2] (.load (.t 43) 1 false), qd (some 45) false [0, 1, 2, 3] (.call 22 [(.t 44)]), qd (some 46) false [] (.load (.t 2) 1 false), qd (some 47) false [5] (.nilchk (.t 46)), qd (some 48) false [5, 6] (.fa (.t 47) 5 1 false), qd (some 49) false [5, 6, 7] (.load (.t 48) 1 false), qd (some 50) false [0, 1, 2, 3, 4, 5, 6, 7, 8] (.call 21 [(.t 49)]), qd (some 51) false [0, 1, 2, 3, 4, 5, 6, 7, 8, 9] (.bin .num .sub (.t 45) (.t 50)), qd (some 52) false [0, 1, 2, 3, 4, 5, 6, 7, 8, 9, 10] (.bin .num .add (.t 51) (.c (.n .i64 1))), qd (some 53) true [0, 1, 2, 3, 4, 5, 6, 7, 8, 9, 10, 11] (.bin .num .geq (.t 52) (.c (.n .i64 64))), qd (some 40) false [0, 1, 2, 3, 4, 5, 6, 7, 8, 9, 10, 11, 12] (.mv (.t 53))]) <|
  .cond (.t 40) (.reg [q 8 (.mv (.c (.n .i64 191)))]) <|
  .seq (.reg [q 55 (.fa (.t 3) 1 1 false), q 56 (.load (.t 55) 1 false), qs 57 (.bin .num .eql (.t 56) (.c (.n .i64 2))), q 54 (.mv (.t 57))]) <|
  .cond (.t 54) (.reg [q 58 (.load (.t 2) 1 false), q 59 (.fa (.t 3) 3 1 false), q 60 (.load (.t 59) 1 false), q 61 (.call 39 [(.t 58), (.t 60)]), q 8 (.mv (.t 61))]) <|
  .skip) <|
  .seq (.seq (.reg [q 62 (.mv (.t 8)), qs 63 (.bin .num .neq (.t 62) (.c (.n .i64 0)))]) <|
  .cond (.t 63) (.seq (.reg [q 64 (.build [.n .i64 0, .n .i64 0, .b false, .n .i64 0, .n .i64 0, .l 1 [] .nil, .l 1 [] .nil, .n .i64 0, .l 4 [] .nil, .l 11 [] .nil] []), q 65 (.mv (.t 8)), q 4 (.mv (.c (.n .i64 0))), qn (.store (.t 5) (.t 64) 10), q 6 (.mv (.t 65))]) <|
  .ret) <|
  .skip) <|
  .seq (.reg [q 9 (.alloc [.n .i64 0]), qn (.store (.t 9) (.c (.n .i64 0)) 1)]) <|
  .seq (.reg [q 66 (.load (.t 2) 1 false), q 67 (.mkf 40 [] [(.t 2), (.t 3), (.t 9)]), q 68 (.call 25 [(.t 66), (.t 67)]), q 10 (.alloc [.n .i64 0, .n .i64 0, .b false, .n .i64 0, .n .i64 0, .l 1 [] .nil, .l 1 [] .nil, .n .i64 0, .l 4 [] .nil, .l 11 [] .nil]), qn (.store (.t 10) (.t 68) 10)]) <|
  .seq (.draw [qd (some 69) false [] (.load (.t 9) 1 false), qd (some 70) false [] (.load (.t 10) 10 true), qd (some 4) false [0] (.mv (.t 69)), qd none false [0, 1, 2] (.store (.t 5) (.t 70) 10), qd (some 6) false [0, 1, 2, 3] (.mv (.c (.n .i64 0)))]) <|
  .ret

/-- (*strongroom/raft.Raft).Propose -/
def p_raft_Raft_Propose (E : Env) (a0 a1 : V) (s : St) (K : V → St → Prop) : Prop :=
 optW (boxV a0 s) fun v0 s1 =>
 optW (boxV a1 s1) fun v2 s3 =>
 optW (allocW [.n .i64 0, .n .i64 0, .b false, .n .i64 0, .n .i64 0, .l 1 [] .nil, .l 1 [] .nil, .n .i64 0, .l 4 [] .nil, .l 11 [] .nil] s3) fun v4 s5 =>
 optP (ldV v0 1 false s5) s5 fun v6 s7 =>
 optP (nilV v6) s7 fun v8 s9 =>
 optP (faV v8 1 2 true) s9 fun v10 s11 =>
 optP (faV v10 0 1 false) s11 fun v12 s13 =>
 optP (ldV v12 1 false s13) s13 fun v14 s15 =>
 optP (faV v2 0 1 false) s15 fun v16 s17 =>
 optW (storeV v16 v14 1 s17) fun v18 s19 =>
 optP (ldV v2 4 true s19) s19 fun v20 s21 =>
 ACalls E 38 [v20] s21 fun v22 s23 =>
 optP (extV v22 0) s23 fun v24 s25 =>
 optP (extV v22 1) s25 fun v26 s27 =>
 let k28 : V → St → Prop := (fun x30 s29 =>
 optP (binV .num .neq x30 (.n .i64 0)) s29 fun v31 s32 =>
 splitP v31 (
 optP (buildV [.n .i64 0, .n .i64 0, .b false, .n .i64 0, .n .i64 0, .l 1 [] .nil, .l 1 [] .nil, .n .i64 0, .l 4 [] .nil, .l 11 [] .nil] []) s32 fun v33 s34 =>
 optW (storeV v4 v33 10 s34) fun v35 s36 =>
 optP (ldV v4 10 true s36) s36 fun v37 _ =>
 K (.tup [(.n .i64 0), v37, x30]) s36) (
 optW (allocW [.n .i64 0] s32) fun v38 s39 =>
 optW (storeV v38 (.n .i64 0) 1 s39) fun v40 s41 =>
 optP (ldV v0 1 false s41) s41 fun v42 s43 =>
 ACalls E 25 [v42, (.f 40 [] [v0, v2, v38])] s43 fun v44 s45 =>
 optW (allocW [.n .i64 0, .n .i64 0, .b false, .n .i64 0, .n .i64 0, .l 1 [] .nil, .l 1 [] .nil, .n .i64 0, .l 4 [] .nil, .l 11 [] .nil] s45) fun v46 s47 =>
 optW (storeV v46 v44 10 s47) fun v48 s49 =>
 optP (ldV v38 1 false s49) s49 fun v50 s51 =>
 (True) ∧ optP (ldV v46 10 true s51) s51 fun v52 s53 =>
 (True) ∧ optW (storeV v4 v52 10 s53) fun v54 s55 =>
 (True) ∧ optP (ldV v4 10 true s55) s55 fun v56 _ =>
 K (.tup [v50, v56, (.n .i64 0)]) s55));
 optP (ldV v0 1 false s27) s27 fun v57 s58 =>
 optP (nilV v57) s58 fun v59 s60 =>
 optP (faV v59 3 1 false) s60 fun v61 s62 =>
 optP (ldV v61 1 false s62) s62 fun v63 s64 =>
 optP (binV .num .neq v63 (.n .i64 3)) s64 fun v65 s66 =>
 splitP v65 (
 k28 (.n .i64 190) s66) (
 let k67 : St → Prop := (fun s68 =>
 optP (binV .num .neq v26 (.n .i64 0)) s68 fun v69 s70 =>
 splitP v69 (
 k28 v26 s70) (
 optP (ldV v0 1 false s70) s70 fun v71 s72 =>
 (True) ∧ optP (nilV v71) s72 fun v73 s74 =>
 optP (faV v73 5 1 false) s74 fun v75 s76 =>
 optP (ldV v75 1 false s76) s76 fun v77 s78 =>
 (True) ∧ ACalls E 22 [v77] s78 fun v79 s80 =>
 (True) ∧ optP (ldV v0 1 false s80) s80 fun v81 s82 =>
 (ldV v0 1 false s78 = some v81 ∧ True) ∧ optP (nilV v81) s82 fun v83 s84 =>
 optP (faV v83 5 1 false) s84 fun v85 s86 =>
 optP (ldV v85 1 false s86) s86 fun v87 s88 =>
 (ldV v85 1 false s78 = some v87 ∧ True) ∧ ACalls E 21 [v87] s88 fun v89 s90 =>
 (True) ∧ optP (binV .num .sub v79 v89) s90 fun v91 s92 =>
 optP (binV .num .add v91 (.n .i64 1)) s92 fun v93 s94 =>
 optP (binV .num .geq v93 (.n .i64 64)) s94 fun v95 s96 =>
 splitP v95 (
 k28 (.n .i64 191) s96) (
 optP (faV v2 1 1 false) s96 fun v97 s98 =>
 optP (ldV v97 1 false s98) s98 fun v99 s100 =>
 optP (binV .num .eql v99 (.n .i64 2)) s100 fun v101 s102 =>
 splitP v101 (
 optP (ldV v0 1 false s102) s102 fun v103 s104 =>
 optP (faV v2 3 1 false) s104 fun v105 s106 =>
 optP (ldV v105 1 false s106) s106 fun v107 s108 =>
 ACalls E 39 [v103, v107] s108 fun v109 s110 =>
 k28 v109 s110) (
 k28 v26 s102))));
 optP (faV v2 1 1 false) s66 fun v111 s112 =>
 optP (ldV v111 1 false s112) s112 fun v113 s114 =>
 optP (binV .num .neq v113 (.n .i64 1)) s114 fun v115 s116 =>
 splitP v115 (
 optP (faV v2 1 1 false) s116 fun v117 s118 =>
 optP (ldV v117 1 false s118) s118 fun v119 s120 =>
 optP (binV .num .neq v119 (.n .i64 2)) s120 fun v121 s122 =>
 splitP v121 (
 k28 (.n .i64 1) s122) (
 k67 s122)) (
 k67 s116))
theorem e_raft_Raft_Propose (E : Env) (a0 a1 : V) (s : St) (K : V → St → Prop) : axF E c_raft_Raft_Propose [a0, a1] s K = p_raft_Raft_Propose E a0 a1 s K := by kernel_rfl
theorem g_raft_Raft_Propose {E : Env} {a0 a1 : V} {s : St} {K : V → St → Prop} (h : chkF E.P E.m (E.m 14) c_raft_Raft_Propose = true) (hp : p_raft_Raft_Propose E a0 a1 s K) : ACalls E 14 [a0, a1] s K :=
  acalls h rfl (by rw [e_raft_Raft_Propose]; exact hp)

/-- (*strongroom/raft.Raft).Lay -/
def c_raft_Raft_Lay : AFunc := .mk 3 46 [.cell 6 10 true, .t 7] <|
  .seq (.reg [q 3 (.box (.t 0)), q 4 (.box (.t 1)), q 5 (.box (.t 2)), q 6 (.alloc [.n .i64 0, .n .i64 0, .b false, .n .i64 0, .n .i64 0, .l 1 [] .nil, .l 1 [] .nil, .n .i64 0, .l 4 [] .nil, .l 11 [] .nil]), q 7 (.mv (.c (.n .i64 0)))]) <|
  .seq (.seq (.draw [qd (some 12) false [] (.load (.t 4) 1 false), qd (some 13) false [] (.load (.t 3) 1 false), qd (some 14) false [1] (.nilchk (.t 13)), qd (some 15) false [1, 2] (.fa (.t 14) 5 1 false), qd (some 16) false [1, 2, 3] (.load (.t 15) 1 false), qd (some 17) false [1, 2, 3, 4] (.call 21 [(.t 16)]), qd (some 18) true [0, 1, 2, 3, 4, 5] (.bin .num .lss (.t 12) (.t 17)), qd (some 19) false [0, 1, 2, 3, 4, 5, 6] (.mv (.t 18)), qdg (some 20) false 19 false [0, 1, 2, 3, 4, 5, 6, 7] (.load (.t 4) 1 false), qdg (some 21) false 19 false [0, 1, 2, 3, 4, 5, 6, 7] (.load (.t 3) 1 false), qdg (some 22) false 19 false [0, 1, 2, 3, 4, 5, 6, 7, 9] (.nilchk (.t 21)), qdg (some 23) false 19 false [0, 1, 2, 3, 4, 5, 6, 7, 9, 10] (.fa (.t 22) 6 1 false), qdg (some 24) false 19 false [0, 1, 2, 3, 4, 5, 6, 7, 9, 10, 11] (.load (.t 23) 1 false), qdg (some 25) true 19 false [0, 1, 2, 3, 4, 5, 6, 7, 8, 9, 10, 11, 12] (.bin .num .gtr (.t 20) (.t 24)), qd (some 26) false [0, 1, 2, 3, 4, 5, 6, 7, 8, 9, 10, 11, 12, 13] (.pick (.t 19) (.c (.b true)) (.t 25))]) <|
  .cond (.t 26) (.seq (.reg [q 27 (.build [.n .i64 0, .n .i64 0, .b false, .n .i64 0, .n .i64 0, .l 1 [] .nil, .l 1 [] .nil, .n .i64 0, .l 4 [] .nil, .l 11 [] .nil] []), qn (.store (.t 6) (.t 27) 10), q 7 (.mv (.c (.n .i64 1)))]) <|
  .ret) <|
  .skip) <|
  .seq (.draw2 5 9 [qd (some 29) false [] (.load (.t 3) 1 false), qd (some 30) false [0] (.nilchk (.t 29)), qd (some 31) false [0, 1] (.fa (.t 30) 5 1 false), qd (some 32) false [0, 1, 2] (.load (.t 31) 1 false), qd (some 33) false [] (.load (.t 4) 1 false), qd (some 34) false [0, 1, 2, 3, 4] (.call 42 [(.t 32), (.t 33)]), qd (some 28) false [0, 1, 2, 3, 4, 5] (.mv (.t 34)), qd (some 35) false [0, 1, 2, 3, 4, 5, 6] (.ext (.t 28) 0), qd (some 36) false [0, 1, 2, 3, 4, 5, 6] (.ext (.t 28) 1), qd (some 8) false [] (.alloc [.n .i64 0]), qd none false [0, 1, 2, 3, 4, 5, 6, 7, 9] (.store (.t 8) (.t 35) 1), qd (some 9) false [0, 1, 2, 3, 4, 5, 6, 7, 8, 9, 10] (.mv (.t 36))]) <|
  .seq (.reg [q 38 (.load (.t 3) 1 false), q 39 (.load (.t 4) 1 false), q 40 (.call 43 [(.t 38), (.t 39)]), q 37 (.mv (.t 40)), q 41 (.ext (.t 37) 0), q 42 (.ext (.t 37) 1), q 10 (.alloc [.l 1 [] .nil]), qn (.store (.t 10) (.t 41) 1), q 11 (.mv (.t 42))]) <|
  .seq (.reg [q 43 (.load (.t 3) 1 false), q 44 (.mkf 44 [] [(.t 3), (.t 4), (.t 8), (.t 10), (.t 5)]), q 45 (.call 25 [(.t 43), (.t 44)]), qn (.store (.t 6) (.t 45) 10), q 7 (.mv (.c (.n .i64 0)))]) <|
  .ret

/-- strongroom/strongroomlaw19.bytes -/
def c_strongroomlaw19_bytes : AFunc := .mk 1 11 [.t 2] <|
  .seq (.reg [q 2 (.mv (.c (.l 1 [] .nil)))]) <|
  .seq (.seq (.reg [q 3 (.mv (.t 0)), q 4 (.len (.t 3)), qs 5 (.bin .num .gtr (.t 4) (.c (.n .i64 50)))]) <|
  .cond (.t 5) (.reg [q 6 (.mv (.t 0)), q 7 (.slc (.t 6) none (some (.c (.n .i64 50))) none 1), q 0 (.mv (.t 7))]) <|
  .skip) <|
  .seq (.reg [q 8 (.mks 1 []), q 9 (.mv (.t 0)), q 10 (.app (.t 8) (.t 9) 1 1), q 2 (.mv (.t 10))]) <|
  .ret

/-- strongroom/strongroomlaw19.bytes -/
def p_strongroomlaw19_bytes (E : Env) (a0 : V) (s : St) (K : V → St → Prop) : Prop :=
 let k0 : V → St → Prop := (fun x2 s1 =>
 optP (mksV 1 []) s1 fun v3 s4 =>
 optW (appV v3 x2 1 1 s4) fun v5 s6 =>
 K v5 s6);
 optP (lenV a0) s fun v7 s8 =>
 optP (binV .num .gtr v7 (.n .i64 50)) s8 fun v9 s10 =>
 splitP v9 (
 optP (slcV a0 none (some (.n .i64 50)) none 1) s10 fun v11 s12 =>
 k0 v11 s12) (
 k0 a0 s10)
theorem e_strongroomlaw19_bytes (E : Env) (a0 : V) (s : St) (K : V → St → Prop) : axF E c_strongroomlaw19_bytes [a0] s K = p_strongroomlaw19_bytes E a0 s K := by kernel_rfl
theorem g_strongroomlaw19_bytes {E : Env} {a0 : V} {s : St} {K : V → St → Prop} (h : chkF E.P E.m (E.m 16) c_strongroomlaw19_bytes = true) (hp : p_strongroomlaw19_bytes E a0 s K) : ACalls E 16 [a0] s K :=
  acalls h rfl (by rw [e_strongroomlaw19_bytes]; exact hp)

/-- (*strongroom/raft.Raft).At -/
def c_raft_Raft_At : AFunc := .mk 2 14 [.cell 4 4 true, .t 5] <|
  .seq (.reg [q 4 (.alloc [.n .i64 0, .n .i64 0, .l 1 [] .nil, .l 1 [] .nil]), q 5 (.mv (.c (.n .i64 0)))]) <|
  .seq (.reg [q 6 (.mv (.t 0)), q 7 (.nilchk (.t 6)), q 8 (.fa (.t 7) 5 1 false), q 9 (.load (.t 8) 1 false), q 10 (.mv (.t 1)), q 11 (.call 46 [(.t 9), (.t 10)]), q 12 (.ext (.t 11) 0), q 13 (.ext (.t 11) 1), qn (.store (.t 4) (.t 12) 4), q 5 (.mv (.t 13))]) <|
  .ret

/-- (*strongroom/raft.Raft).At -/
def p_raft_Raft_At (E : Env) (a0 a1 : V) (s : St) (K : V → St → Prop) : Prop :=
 optW (allocW [.n .i64 0, .n .i64 0, .l 1 [] .nil, .l 1 [] .nil] s) fun v0 s1 =>
 optP (nilV a0) s1 fun v2 s3 =>
 optP (faV v2 5 1 false) s3 fun v4 s5 =>
 optP (ldV v4 1 false s5) s5 fun v6 s7 =>
 ACalls E 46 [v6, a1] s7 fun v8 s9 =>
 optP (extV v8 0) s9 fun v10 s11 =>
 optP (extV v8 1) s11 fun v12 s13 =>
 optW (storeV v0 v10 4 s13) fun v14 s15 =>
 optP (ldV v0 4 true s15) s15 fun v16 _ =>
 K (.tup [v16, v12]) s15
theorem e_raft_Raft_At (E : Env) (a0 a1 : V) (s : St) (K : V → St → Prop) : axF E c_raft_Raft_At [a0, a1] s K = p_raft_Raft_At E a0 a1 s K := by kernel_rfl
theorem g_raft_Raft_At {E : Env} {a0 a1 : V} {s : St} {K : V → St → Prop} (h : chkF E.P E.m (E.m 17) c_raft_Raft_At = true) (hp : p_raft_Raft_At E a0 a1 s K) : ACalls E 17 [a0, a1] s K :=
  acalls h rfl (by rw [e_raft_Raft_At]; exact hp)

/-- strongroom/strongroomlaw19.numbers -/
def c_strongroomlaw19_numbers : AFunc := .mk 1 11 [.t 2] <|
  .seq (.reg [q 2 (.mv (.c (.l 1 [] .nil)))]) <|
  .seq (.seq (.reg [q 3 (.mv (.t 0)), q 4 (.len (.t 3)), qs 5 (.bin .num .gtr (.t 4) (.c (.n .i64 9)))]) <|
  .cond (.t 5) (.reg [q 6 (.mv (.t 0)), q 7 (.slc (.t 6) none (some (.c (.n .i64 9))) none 1), q 0 (.mv (.t 7))]) <|
  .skip) <|
  .seq (.reg [q 8 (.mks 1 []), q 9 (.mv (.t 0)), q 10 (.app (.t 8) (.t 9) 1 8), q 2 (.mv (.t 10))]) <|
  .ret

/-- strongroom/strongroomlaw19.numbers -/
def p_strongroomlaw19_numbers (E : Env) (a0 : V) (s : St) (K : V → St → Prop) : Prop :=
 let k0 : V → St → Prop := (fun x2 s1 =>
 optP (mksV 1 []) s1 fun v3 s4 =>
 optW (appV v3 x2 1 8 s4) fun v5 s6 =>
 K v5 s6);
 optP (lenV a0) s fun v7 s8 =>
 optP (binV .num .gtr v7 (.n .i64 9)) s8 fun v9 s10 =>
 splitP v9 (
 optP (slcV a0 none (some (.n .i64 9)) none 1) s10 fun v11 s12 =>
 k0 v11 s12) (
 k0 a0 s10)
theorem e_strongroomlaw19_numbers (E : Env) (a0 : V) (s : St) (K : V → St → Prop) : axF E c_strongroomlaw19_numbers [a0] s K = p_strongroomlaw19_numbers E a0 s K := by kernel_rfl
theorem g_strongroomlaw19_numbers {E : Env} {a0 : V} {s : St} {K : V → St → Prop} (h : chkF E.P E.m (E.m 18) c_strongroomlaw19_numbers = true) (hp : p_strongroomlaw19_numbers E a0 s K) : ACalls E 18 [a0] s K :=
  acalls h rfl (by rw [e_strongroomlaw19_numbers]; exact hp)

/-- strongroom/strongroomlaw19.snap -/
def c_strongroomlaw19_snap : AFunc := .mk 1 12 [.cell 2 4 true] <|
  .seq (.reg [q 1 (.box (.t 0)), q 2 (.alloc [.n .i64 0, .n .i64 0, .l 1 [] .nil, .l 1 [] .nil])]) <|
  .seq (.reg [q 3 (.fa (.t 1) 2 1 false), q 4 (.load (.t 3) 1 false), q 5 (.call 18 [(.t 4)]), q 6 (.fa (.t 1) 2 1 false), qn (.store (.t 6) (.t 5) 1)]) <|
  .seq (.reg [q 7 (.fa (.t 1) 3 1 false), q 8 (.load (.t 7) 1 false), q 9 (.call 16 [(.t 8)]), q 10 (.fa (.t 1) 3 1 false), qn (.store (.t 10) (.t 9) 1)]) <|
  .seq (.reg [q 11 (.load (.t 1) 4 true), qn (.store (.t 2) (.t 11) 4)]) <|
  .ret

/-- strongroom/strongroomlaw19.snap -/
def p_strongroomlaw19_snap (E : Env) (a0 : V) (s : St) (K : V → St → Prop) : Prop :=
 optW (boxV a0 s) fun v0 s1 =>
 optW (allocW [.n .i64 0, .n .i64 0, .l 1 [] .nil, .l 1 [] .nil] s1) fun v2 s3 =>
 optP (faV v0 2 1 false) s3 fun v4 s5 =>
 optP (ldV v4 1 false s5) s5 fun v6 s7 =>
 ACalls E 18 [v6] s7 fun v8 s9 =>
 optP (faV v0 2 1 false) s9 fun v10 s11 =>
 optW (storeV v10 v8 1 s11) fun v12 s13 =>
 optP (faV v0 3 1 false) s13 fun v14 s15 =>
 optP (ldV v14 1 false s15) s15 fun v16 s17 =>
 ACalls E 16 [v16] s17 fun v18 s19 =>
 optP (faV v0 3 1 false) s19 fun v20 s21 =>
 optW (storeV v20 v18 1 s21) fun v22 s23 =>
 optP (ldV v0 4 true s23) s23 fun v24 s25 =>
 optW (storeV v2 v24 4 s25) fun v26 s27 =>
 optP (ldV v2 4 true s27) s27 fun v28 _ =>
 K v28 s27
theorem e_strongroomlaw19_snap (E : Env) (a0 : V) (s : St) (K : V → St → Prop) : axF E c_strongroomlaw19_snap [a0] s K = p_strongroomlaw19_snap E a0 s K := by kernel_rfl
theorem g_strongroomlaw19_snap {E : Env} {a0 : V} {s : St} {K : V → St → Prop} (h : chkF E.P E.m (E.m 19) c_strongroomlaw19_snap = true) (hp : p_strongroomlaw19_snap E a0 s K) : ACalls E 19 [a0] s K :=
  acalls h rfl (by rw [e_strongroomlaw19_snap]; exact hp)

/-- strongroom/strongroomlaw19.few -/
def c_strongroomlaw19_few : AFunc := .mk 1 52 [.t 2] <|
  .seq (.reg [q 2 (.mv (.c (.l 4 [] .nil)))]) <|
  .seq (.reg [q 6 (.mks 4 []), q 3 (.mv (.t 6))]) <|
  .seq (.seq (.reg [q 4 (.mv (.c (.n .i64 0)))]) <|
  .block 0 <|
  .loop [3, 4] [0] <|
  .seq (.seq (.reg [q 7 (.mv (.t 4)), q 8 (.mv (.t 0)), q 9 (.len (.t 8)), qs 10 (.bin .num .lss (.t 7) (.t 9)), q 11 (.mv (.t 10)), qg 12 false 11 true (.mv (.t 4)), qg 13 true 11 true (.bin .num .lss (.t 12) (.c (.n .i64 12))), q 14 (.pick (.t 11) (.t 13) (.c (.b false)))]) <|
  .cond (.t 14) (.skip) <|
  .exit 0) <|
  .seq (.block 1 <|
  .seq (.reg [q 17 (.mv (.t 0)), q 18 (.mv (.t 4)), q 19 (.ias (.t 17) (.t 18) 4), q 20 (.load (.t 19) 4 true), q 5 (.alloc [.n .i64 0, .n .i64 0, .l 1 [] .nil, .l 1 [] .nil]), qn (.store (.t 5) (.t 20) 4)]) <|
  .seq (.seq (.reg [q 21 (.fa (.t 5) 2 1 false), q 22 (.load (.t 21) 1 false), q 23 (.len (.t 22)), qs 24 (.bin .num .gtr (.t 23) (.c (.n .i64 50)))]) <|
  .cond (.t 24) (.reg [q 25 (.fa (.t 5) 2 1 false), q 26 (.load (.t 25) 1 false), q 27 (.slc (.t 26) none (some (.c (.n .i64 50))) none 1), q 28 (.fa (.t 5) 2 1 false), qn (.store (.t 28) (.t 27) 1)]) <|
  .skip) <|
  .seq (.seq (.reg [q 29 (.fa (.t 5) 3 1 false), q 30 (.load (.t 29) 1 false), q 31 (.len (.t 30)), qs 32 (.bin .num .gtr (.t 31) (.c (.n .i64 9)))]) <|
  .cond (.t 32) (.reg [q 33 (.fa (.t 5) 3 1 false), q 34 (.load (.t 33) 1 false), q 35 (.slc (.t 34) none (some (.c (.n .i64 9))) none 1), q 36 (.fa (.t 5) 3 1 false), qn (.store (.t 36) (.t 35) 1)]) <|
  .skip) <|
  .seq (.reg [q 37 (.mks 1 []), q 38 (.fa (.t 5) 2 1 false), q 39 (.load (.t 38) 1 false), q 40 (.app (.t 37) (.t 39) 1 1), q 41 (.fa (.t 5) 2 1 false), qn (.store (.t 41) (.t 40) 1)]) <|
  .seq (.reg [q 42 (.mks 1 []), q 43 (.fa (.t 5) 3 1 false), q 44 (.load (.t 43) 1 false), q 45 (.app (.t 42) (.t 44) 1 8), q 46 (.fa (.t 5) 3 1 false), qn (.store (.t 46) (.t 45) 1)]) <|
  .reg [q 47 (.mv (.t 3)), q 48 (.load (.t 5) 4 true), q 49 (.mks 4 [(.t 48)]), q 50 (.app (.t 47) (.t 49) 4 64), q 3 (.mv (.t 50))]) <|
  .reg [q 15 (.mv (.t 4)), q 16 (.bin .num .add (.t 15) (.c (.n .i64 1))), q 4 (.mv (.t 16))]) <|
  .seq (.reg [q 51 (.mv (.t 3)), q 2 (.mv (.t 51))]) <|
  .ret

/-- strongroom/strongroomlaw19.few -/
def p_strongroomlaw19_few (E : Env) (a0 : V) (s : St) (K : V → St → Prop) : Prop :=
 optP (mksV 4 []) s fun v0 s1 =>
 ∃ I2 : Nat → List V → St → Prop, (∃ n3, I2 n3 [v0, (.n .i64 0)] s1) ∧ ∀ n3, ∀ x5 : V, ∀ x6 : V, ∀ s4, I2 n3 [x5, x6] s4 →
 let k8 : St → Prop := (fun s9 =>
 K x5 s9);
 optP (lenV a0) s4 fun v10 s11 =>
 optP (binV .num .lss x6 v10) s11 fun v12 s13 =>
 splitP v12 (
 optP (binV .num .lss x6 (.n .i64 12)) s13 fun v14 s15 =>
 splitP v14 (
 optP (iasV a0 x6 4) s15 fun v16 s17 =>
 optP (ldV v16 4 true s17) s17 fun v18 s19 =>
 optW (allocW [.n .i64 0, .n .i64 0, .l 1 [] .nil, .l 1 [] .nil] s19) fun v20 s21 =>
 optW (storeV v20 v18 4 s21) fun v22 s23 =>
 let k24 : St → Prop := (fun s25 =>
 let k26 : St → Prop := (fun s27 =>
 optP (mksV 1 []) s27 fun v28 s29 =>
 optP (faV v20 2 1 false) s29 fun v30 s31 =>
 optP (ldV v30 1 false s31) s31 fun v32 s33 =>
 optW (appV v28 v32 1 1 s33) fun v34 s35 =>
 optP (faV v20 2 1 false) s35 fun v36 s37 =>
 optW (storeV v36 v34 1 s37) fun v38 s39 =>
 optP (mksV 1 []) s39 fun v40 s41 =>
 optP (faV v20 3 1 false) s41 fun v42 s43 =>
 optP (ldV v42 1 false s43) s43 fun v44 s45 =>
 optW (appV v40 v44 1 8 s45) fun v46 s47 =>
 optP (faV v20 3 1 false) s47 fun v48 s49 =>
 optW (storeV v48 v46 1 s49) fun v50 s51 =>
 optP (ldV v20 4 true s51) s51 fun v52 s53 =>
 optP (mksV 4 [v52]) s53 fun v54 s55 =>
 optW (appV x5 v54 4 64 s55) fun v56 s57 =>
 optP (binV .num .add x6 (.n .i64 1)) s57 fun v58 s59 =>
 (a0 : V) = a0 ∧ ∃ n7, n7 < n3 ∧ I2 n7 [v56, v58] s59);
 optP (faV v20 3 1 false) s25 fun v60 s61 =>
 optP (ldV v60 1 false s61) s61 fun v62 s63 =>
 optP (lenV v62) s63 fun v64 s65 =>
 optP (binV .num .gtr v64 (.n .i64 9)) s65 fun v66 s67 =>
 splitP v66 (
 optP (faV v20 3 1 false) s67 fun v68 s69 =>
 optP (ldV v68 1 false s69) s69 fun v70 s71 =>
 optP (slcV v70 none (some (.n .i64 9)) none 1) s71 fun v72 s73 =>
 optP (faV v20 3 1 false) s73 fun v74 s75 =>
 optW (storeV v74 v72 1 s75) fun v76 s77 =>
 k26 s77) (
 k26 s67));
 optP (faV v20 2 1 false) s23 fun v78 s79 =>
 optP (ldV v78 1 false s79) s79 fun v80 s81 =>
 optP (lenV v80) s81 fun v82 s83 =>
 optP (binV .num .gtr v82 (.n .i64 50)) s83 fun v84 s85 =>
 splitP v84 (
 optP (faV v20 2 1 false) s85 fun v86 s87 =>
 optP (ldV v86 1 false s87) s87 fun v88 s89 =>
 optP (slcV v88 none (some (.n .i64 50)) none 1) s89 fun v90 s91 =>
 optP (faV v20 2 1 false) s91 fun v92 s93 =>
 optW (storeV v92 v90 1 s93) fun v94 s95 =>
 k24 s95) (
 k24 s85)) (
 k8 s15)) (
 k8 s13)
theorem e_strongroomlaw19_few (E : Env) (a0 : V) (s : St) (K : V → St → Prop) : axF E c_strongroomlaw19_few [a0] s K = p_strongroomlaw19_few E a0 s K := by kernel_rfl
theorem g_strongroomlaw19_few {E : Env} {a0 : V} {s : St} {K : V → St → Prop} (h : chkF E.P E.m (E.m 20) c_strongroomlaw19_few = true) (hp : p_strongroomlaw19_few E a0 s K) : ACalls E 20 [a0] s K :=
  acalls h rfl (by rw [e_strongroomlaw19_few]; exact hp)

/-- (*strongroom/entries.Log).First -/
def c_entries_Log_First : AFunc := .mk 1 8 [.t 2] <|
  .seq (.reg [q 2 (.mv (.c (.n .i64 0)))]) <|
  .seq (.reg [q 3 (.mv (.t 0)), q 4 (.nilchk (.t 3)), q 5 (.fa (.t 4) 0 1 false), q 6 (.load (.t 5) 1 false), q 7 (.bin .num .add (.t 6) (.c (.n .i64 1))), q 2 (.mv (.t 7))]) <|
  .ret

/-- (*strongroom/entries.Log).First -/
def p_entries_Log_First (E : Env) (a0 : V) (s : St) (K : V → St → Prop) : Prop :=
 optP (nilV a0) s fun v0 s1 =>
 optP (faV v0 0 1 false) s1 fun v2 s3 =>
 optP (ldV v2 1 false s3) s3 fun v4 s5 =>
 optP (binV .num .add v4 (.n .i64 1)) s5 fun v6 s7 =>
 K v6 s7
theorem e_entries_Log_First (E : Env) (a0 : V) (s : St) (K : V → St → Prop) : axF E c_entries_Log_First [a0] s K = p_entries_Log_First E a0 s K := by kernel_rfl
theorem g_entries_Log_First {E : Env} {a0 : V} {s : St} {K : V → St → Prop} (h : chkF E.P E.m (E.m 21) c_entries_Log_First = true) (hp : p_entries_Log_First E a0 s K) : ACalls E 21 [a0] s K :=
  acalls h rfl (by rw [e_entries_Log_First]; exact hp)

/-- (*strongroom/entries.Log).Last -/
def c_entries_Log_Last : AFunc := .mk 1 13 [.t 2] <|
  .seq (.reg [q 2 (.mv (.c (.n .i64 0)))]) <|
  .seq (.draw [qd (some 3) false [] (.mv (.t 0)), qd (some 4) false [0] (.nilchk (.t 3)), qd (some 5) false [0, 1] (.fa (.t 4) 0 1 false), qd (some 6) false [0, 1, 2] (.load (.t 5) 1 false), qd (some 7) false [] (.mv (.t 0)), qd (some 8) false [4] (.nilchk (.t 7)), qd (some 9) false [4, 5] (.fa (.t 8) 2 1 false), qd (some 10) false [4, 5, 6] (.load (.t 9) 1 false), qd (some 11) false [4, 5, 6, 7] (.len (.t 10)), qd (some 12) false [0, 1, 2, 3, 4, 5, 6, 7, 8] (.bin .num .add (.t 6) (.t 11)), qd (some 2) false [0, 1, 2, 3, 4, 5, 6, 7, 8, 9] (.mv (.t 12))]) <|
  .ret

/-- (*strongroom/entries.Log).Last -/
def p_entries_Log_Last (E : Env) (a0 : V) (s : St) (K : V → St → Prop) : Prop :=
 optP (nilV a0) s fun v0 s1 =>
 optP (faV v0 0 1 false) s1 fun v2 s3 =>
 optP (ldV v2 1 false s3) s3 fun v4 s5 =>
 (True) ∧ optP (nilV a0) s5 fun v6 s7 =>
 optP (faV v6 2 1 false) s7 fun v8 s9 =>
 optP (ldV v8 1 false s9) s9 fun v10 s11 =>
 (True) ∧ optP (lenV v10) s11 fun v12 s13 =>
 optP (binV .num .add v4 v12) s13 fun v14 s15 =>
 K v14 s15
theorem e_entries_Log_Last (E : Env) (a0 : V) (s : St) (K : V → St → Prop) : axF E c_entries_Log_Last [a0] s K = p_entries_Log_Last E a0 s K := by kernel_rfl
theorem g_entries_Log_Last {E : Env} {a0 : V} {s : St} {K : V → St → Prop} (h : chkF E.P E.m (E.m 22) c_entries_Log_Last = true) (hp : p_entries_Log_Last E a0 s K) : ACalls E 22 [a0] s K :=
  acalls h rfl (by rw [e_entries_Log_Last]; exact hp)

/-- slices.Clone[[]int,int] -/
def c_slices_Clone_int_int : AFunc := .mk 1 8 [.t 2] <|
  .seq (.reg [q 2 (.mv (.c (.l 1 [] .nil)))]) <|
  .seq (.seq (.reg [q 3 (.mv (.t 0)), qs 4 (.bin .slice .eql (.t 3) (.c (.l 1 [] .nil)))]) <|
  .cond (.t 4) (.seq (.reg [q 2 (.mv (.c (.l 1 [] .nil)))]) <|
  .ret) <|
  .skip) <|
  .seq (.reg [q 5 (.mks 1 []), q 6 (.mv (.t 0)), q 7 (.app (.t 5) (.t 6) 1 8), q 2 (.mv (.t 7))]) <|
  .ret

/-- slices.Clone[[]int,int] -/
def p_slices_Clone_int_int (E : Env) (a0 : V) (s : St) (K : V → St → Prop) : Prop :=
 optP (binV .slice .eql a0 (.l 1 [] .nil)) s fun v0 s1 =>
 splitP v0 (
 K (.l 1 [] .nil) s1) (
 optP (mksV 1 []) s1 fun v2 s3 =>
 optW (appV v2 a0 1 8 s3) fun v4 s5 =>
 K v4 s5)
theorem e_slices_Clone_int_int (E : Env) (a0 : V) (s : St) (K : V → St → Prop) : axF E c_slices_Clone_int_int [a0] s K = p_slices_Clone_int_int E a0 s K := by kernel_rfl
theorem g_slices_Clone_int_int {E : Env} {a0 : V} {s : St} {K : V → St → Prop} (h : chkF E.P E.m (E.m 23) c_slices_Clone_int_int = true) (hp : p_slices_Clone_int_int E a0 s K) : ACalls E 23 [a0] s K :=
  acalls h rfl (by rw [e_slices_Clone_int_int]; exact hp)

/-- slices.Clone[[]int,int] -/
def cm_slices_Clone_int_int : AFunc := .mk 1 8 [.t 2] <|
  .seq (.reg [q 2 (.mv (.c (.l 1 [] .nil)))]) <|
  .seq (.seq (.reg [q 3 (.mv (.t 0)), qs 4 (.bin .slice .eql (.t 3) (.c (.l 1 [] .nil)))]) <|
  .cond (.t 4) (.seq (.reg [q 2 (.mv (.c (.l 1 [] .nil)))]) <|
  .ret) <|
  .skip) <|
  .seq (.reg [q 5 (.mks 1 []), q 6 (.mv (.t 0)), q 7 (.appm (.t 5) (.t 6) 1 8), q 2 (.mv (.t 7))]) <|
  .ret

/-- slices.Clone[[]int,int] -/
def pm_slices_Clone_int_int (E : Env) (a0 : V) (s : St) (K : V → St → Prop) : Prop :=
 optP (binV .slice .eql a0 (.l 1 [] .nil)) s fun v0 s1 =>
 splitP v0 (
 K (.l 1 [] .nil) s1) (
 optP (mksV 1 []) s1 fun v2 s3 =>
 appmP v2 a0 1 8 s3 fun v4 s5 =>
 K v4 s5)
theorem em_slices_Clone_int_int (E : Env) (a0 : V) (s : St) (K : V → St → Prop) : axF E cm_slices_Clone_int_int [a0] s K = pm_slices_Clone_int_int E a0 s K := by kernel_rfl
theorem gm_slices_Clone_int_int {E : Env} {a0 : V} {s : St} {K : V → St → Prop} (h : chkF E.P E.m (E.m 23) cm_slices_Clone_int_int = true) (hp : pm_slices_Clone_int_int E a0 s K) : ACalls E 23 [a0] s K :=
  acalls h rfl (by rw [em_slices_Clone_int_int]; exact hp)

/-- (*strongroom/raft.Raft).members -/
def c_raft_Raft_members : AFunc := .mk 1 16 [.t 2] <|
  .seq (.reg [q 2 (.mv (.c (.l 1 [] .nil)))]) <|
  .seq (.reg [q 6 (.mv (.t 0)), q 7 (.mv (.t 0)), q 8 (.nilchk (.t 7)), q 9 (.fa (.t 8) 5 1 false), q 10 (.load (.t 9) 1 false), q 11 (.call 22 [(.t 10)]), q 12 (.call 43 [(.t 6), (.t 11)]), q 5 (.mv (.t 12)), q 13 (.ext (.t 5) 0), q 14 (.ext (.t 5) 1), q 3 (.mv (.t 13)), q 4 (.mv (.t 14))]) <|
  .seq (.reg [q 15 (.mv (.t 3)), q 2 (.mv (.t 15))]) <|
  .ret

/-- (*strongroom/raft.Raft).members -/
def p_raft_Raft_members (E : Env) (a0 : V) (s : St) (K : V → St → Prop) : Prop :=
 optP (nilV a0) s fun v0 s1 =>
 optP (faV v0 5 1 false) s1 fun v2 s3 =>
 optP (ldV v2 1 false s3) s3 fun v4 s5 =>
 ACalls E 22 [v4] s5 fun v6 s7 =>
 ACalls E 43 [a0, v6] s7 fun v8 s9 =>
 optP (extV v8 0) s9 fun v10 s11 =>
 optP (extV v8 1) s11 fun v12 s13 =>
 K v10 s13
theorem e_raft_Raft_members (E : Env) (a0 : V) (s : St) (K : V → St → Prop) : axF E c_raft_Raft_members [a0] s K = p_raft_Raft_members E a0 s K := by kernel_rfl
theorem g_raft_Raft_members {E : Env} {a0 : V} {s : St} {K : V → St → Prop} (h : chkF E.P E.m (E.m 24) c_raft_Raft_members = true) (hp : p_raft_Raft_members E a0 s K) : ACalls E 24 [a0] s K :=
  acalls h rfl (by rw [e_raft_Raft_members]; exact hp)

/-- (*strongroom/raft.Raft).does -/
def c_raft_Raft_does : AFunc := .mk 2 34 [.cell 4 10 true] <|
  .seq (.reg [q 4 (.alloc [.n .i64 0, .n .i64 0, .b false, .n .i64 0, .n .i64 0, .l 1 [] .nil, .l 1 [] .nil, .n .i64 0, .l 4 [] .nil, .l 11 [] .nil])]) <|
  .seq (.reg [q 7 (.mv (.t 0)), q 8 (.nilchk (.t 7)), q 9 (.fa (.t 8) 1 2 true), q 10 (.load (.t 9) 2 true), q 5 (.alloc [.n .i64 0, .n .i64 0]), qn (.store (.t 5) (.t 10) 2)]) <|
  .seq (.reg [q 11 (.mv (.t 1)), q 12 (.callv (.t 11) [])]) <|
  .seq (.reg [q 13 (.mv (.t 0)), q 14 (.nilchk (.t 13)), q 15 (.fa (.t 14) 30 10 true), q 16 (.load (.t 15) 10 true), q 6 (.alloc [.n .i64 0, .n .i64 0, .b false, .n .i64 0, .n .i64 0, .l 1 [] .nil, .l 1 [] .nil, .n .i64 0, .l 4 [] .nil, .l 11 [] .nil]), qn (.store (.t 6) (.t 16) 10)]) <|
  .seq (.reg [q 17 (.mv (.t 0)), q 18 (.build [.n .i64 0, .n .i64 0, .b false, .n .i64 0, .n .i64 0, .l 1 [] .nil, .l 1 [] .nil, .n .i64 0, .l 4 [] .nil, .l 11 [] .nil] []), q 19 (.nilchk (.t 17)), q 20 (.fa (.t 19) 30 10 true), qn (.store (.t 20) (.t 18) 10)]) <|
  .seq (.seq (.draw [qd (some 21) false [] (.mv (.t 0)), qd (some 22) false [0] (.nilchk (.t 21)), qd (some 23) false [0, 1] (.fa (.t 22) 1 2 true), qd (some 24) false [0, 1, 2] (.load (.t 23) 2 true), qd (some 25) false [] (.load (.t 5) 2 true), qd (some 26) true [0, 1, 2, 3, 4] (.bin .ints .neq (.t 24) (.t 25))]) <|
  .cond (.t 26) (.draw [qd (some 27) false [] (.mv (.t 0)), qd (some 28) false [0] (.nilchk (.t 27)), qd (some 29) false [0, 1] (.fa (.t 28) 1 2 true), qd (some 30) false [0, 1, 2] (.load (.t 29) 2 true), qd (some 31) false [] (.fa (.t 6) 2 1 false), qd none false [4] (.store (.t 31) (.c (.b true)) 1), qd (some 32) false [0, 1, 2, 3, 4, 5] (.fa (.t 6) 0 2 true), qd none false [0, 1, 2, 3, 4, 5, 6] (.store (.t 32) (.t 30) 2)]) <|
  .skip) <|
  .seq (.reg [q 33 (.load (.t 6) 10 true), qn (.store (.t 4) (.t 33) 10)]) <|
  .ret

/-- (*strongroom/raft.Raft).does -/
def p_raft_Raft_does (E : Env) (a0 a1 : V) (s : St) (K : V → St → Prop) : Prop :=
 optW (allocW [.n .i64 0, .n .i64 0, .b false, .n .i64 0, .n .i64 0, .l 1 [] .nil, .l 1 [] .nil, .n .i64 0, .l 4 [] .nil, .l 11 [] .nil] s) fun v0 s1 =>
 optP (nilV a0) s1 fun v2 s3 =>
 optP (faV v2 1 2 true) s3 fun v4 s5 =>
 optP (ldV v4 2 true s5) s5 fun v6 s7 =>
 optW (allocW [.n .i64 0, .n .i64 0] s7) fun v8 s9 =>
 optW (storeV v8 v6 2 s9) fun v10 s11 =>
 callV E a1 [] s11 fun v12 s13 =>
 optP (nilV a0) s13 fun v14 s15 =>
 optP (faV v14 30 10 true) s15 fun v16 s17 =>
 optP (ldV v16 10 true s17) s17 fun v18 s19 =>
 optW (allocW [.n .i64 0, .n .i64 0, .b false, .n .i64 0, .n .i64 0, .l 1 [] .nil, .l 1 [] .nil, .n .i64 0, .l 4 [] .nil, .l 11 [] .nil] s19) fun v20 s21 =>
 optW (storeV v20 v18 10 s21) fun v22 s23 =>
 optP (buildV [.n .i64 0, .n .i64 0, .b false, .n .i64 0, .n .i64 0, .l 1 [] .nil, .l 1 [] .nil, .n .i64 0, .l 4 [] .nil, .l 11 [] .nil] []) s23 fun v24 s25 =>
 optP (nilV a0) s25 fun v26 s27 =>
 optP (faV v26 30 10 true) s27 fun v28 s29 =>
 optW (storeV v28 v24 10 s29) fun v30 s31 =>
 let k32 : St → Prop := (fun s33 =>
 optP (ldV v20 10 true s33) s33 fun v34 s35 =>
 optW (storeV v0 v34 10 s35) fun v36 s37 =>
 optP (ldV v0 10 true s37) s37 fun v38 _ =>
 K v38 s37);
 optP (nilV a0) s31 fun v39 s40 =>
 optP (faV v39 1 2 true) s40 fun v41 s42 =>
 optP (ldV v41 2 true s42) s42 fun v43 s44 =>
 (True) ∧ optP (ldV v8 2 true s44) s44 fun v45 s46 =>
 (True) ∧ optP (binV .ints .neq v43 v45) s46 fun v47 s48 =>
 splitP v47 (
 optP (nilV a0) s48 fun v49 s50 =>
 optP (faV v49 1 2 true) s50 fun v51 s52 =>
 optP (ldV v51 2 true s52) s52 fun v53 s54 =>
 (True) ∧ optP (faV v20 2 1 false) s54 fun v55 s56 =>
 optW (storeV v55 (.b true) 1 s56) fun v57 s58 =>
 (ldV v51 2 true s58 = some v53 ∧ True) ∧ optP (faV v20 0 2 true) s58 fun v59 s60 =>
 optW (storeV v59 v53 2 s60) fun v61 s62 =>
 (True) ∧ k32 s62) (
 k32 s48)
theorem e_raft_Raft_does (E : Env) (a0 a1 : V) (s : St) (K : V → St → Prop) : axF E c_raft_Raft_does [a0, a1] s K = p_raft_Raft_does E a0 a1 s K := by kernel_rfl
theorem g_raft_Raft_does {E : Env} {a0 a1 : V} {s : St} {K : V → St → Prop} (h : chkF E.P E.m (E.m 25) c_raft_Raft_does = true) (hp : p_raft_Raft_does E a0 a1 s K) : ACalls E 25 [a0, a1] s K :=
  acalls h rfl (by rw [e_raft_Raft_does]; exact hp)

/-- (*strongroom/raft.Raft).Take$1 -/
def c_raft_Raft_Take_c1 : AFunc := .mk 2 23 [] <|
  .block 0 <|
  .seq (.reg [q 6 (.load (.t 0) 1 false), q 7 (.load (.t 1) 11 true), qs 8 (.call 27 [(.t 6), (.t 7)]), q 5 (.mv (.t 8))]) <|
  .cond (.t 5) (.skip) <|
  .seq (.reg [q 10 (.fa (.t 1) 0 1 false), q 11 (.load (.t 10) 1 false), qs 12 (.bin .num .eql (.t 11) (.c (.n .i64 1))), q 9 (.mv (.t 12))]) <|
  .cond (.t 9) (.reg [q 13 (.load (.t 0) 1 false), q 14 (.load (.t 1) 11 true), q 15 (.call 28 [(.t 13), (.t 14)])]) <|
  .seq (.reg [q 17 (.fa (.t 1) 0 1 false), q 18 (.load (.t 17) 1 false), qs 19 (.bin .num .eql (.t 18) (.c (.n .i64 2))), q 16 (.mv (.t 19))]) <|
  .cond (.t 16) (.reg [q 20 (.load (.t 0) 1 false), q 21 (.load (.t 1) 11 true), q 22 (.call 29 [(.t 20), (.t 21)])]) <|
  .reg [q 2 (.load (.t 0) 1 false), q 3 (.load (.t 1) 11 true), q 4 (.call 30 [(.t 2), (.t 3)])]

/-- (*strongroom/raft.Raft).Take$1 -/
def p_raft_Raft_Take_c1 (E : Env) (a0 a1 : V) (s : St) (K : V → St → Prop) : Prop :=
 optP (ldV a0 1 false s) s fun v0 s1 =>
 optP (ldV a1 11 true s1) s1 fun v2 s3 =>
 ACalls E 27 [v0, v2] s3 fun v4 s5 =>
 splitP v4 (
 K (.tup []) s5) (
 optP (faV a1 0 1 false) s5 fun v6 s7 =>
 optP (ldV v6 1 false s7) s7 fun v8 s9 =>
 optP (binV .num .eql v8 (.n .i64 1)) s9 fun v10 s11 =>
 splitP v10 (
 optP (ldV a0 1 false s11) s11 fun v12 s13 =>
 optP (ldV a1 11 true s13) s13 fun v14 s15 =>
 ACalls E 28 [v12, v14] s15 fun v16 s17 =>
 K (.tup []) s17) (
 optP (faV a1 0 1 false) s11 fun v18 s19 =>
 optP (ldV v18 1 false s19) s19 fun v20 s21 =>
 optP (binV .num .eql v20 (.n .i64 2)) s21 fun v22 s23 =>
 splitP v22 (
 optP (ldV a0 1 false s23) s23 fun v24 s25 =>
 optP (ldV a1 11 true s25) s25 fun v26 s27 =>
 ACalls E 29 [v24, v26] s27 fun v28 s29 =>
 K (.tup []) s29) (
 optP (ldV a0 1 false s23) s23 fun v30 s31 =>
 optP (ldV a1 11 true s31) s31 fun v32 s33 =>
 ACalls E 30 [v30, v32] s33 fun v34 s35 =>
 K (.tup []) s35)))
theorem e_raft_Raft_Take_c1 (E : Env) (a0 a1 : V) (s : St) (K : V → St → Prop) : axF E c_raft_Raft_Take_c1 [a0, a1] s K = p_raft_Raft_Take_c1 E a0 a1 s K := by kernel_rfl
theorem g_raft_Raft_Take_c1 {E : Env} {a0 a1 : V} {s : St} {K : V → St → Prop} (h : chkF E.P E.m (E.m 26) c_raft_Raft_Take_c1 = true) (hp : p_raft_Raft_Take_c1 E a0 a1 s K) : ACalls E 26 [a0, a1] s K :=
  acalls h rfl (by rw [e_raft_Raft_Take_c1]; exact hp)

/-- (*strongroom/raft.Raft).odd -/
def c_raft_Raft_odd : AFunc := .mk 2 92 [.t 4] <|
  .seq (.reg [q 3 (.box (.t 1)), q 4 (.mv (.c (.b false)))]) <|
  .seq (.seq (.reg [q 7 (.fa (.t 3) 4 1 false), q 8 (.load (.t 7) 1 false), q 9 (.fa (.t 3) 5 1 false), q 10 (.load (.t 9) 1 false), q 11 (.fa (.t 3) 6 1 false), q 12 (.load (.t 11) 1 false), q 13 (.fa (.t 3) 3 1 false), q 14 (.load (.t 13) 1 false), q 15 (.mks 1 [(.t 8), (.t 10), (.t 12), (.t 14)]), q 16 (.len (.t 15)), q 17 (.mv (.c (.n .i64 0)))]) <|
  .block 0 <|
  .loop [17] [0, 3, 15, 16] <|
  .seq (.reg [qs 18 (.bin .num .lss (.t 17) (.t 16))]) <|
  .seq (.cond (.t 18) (.skip) <|
  .exit 0) <|
  .seq (.block 1 <|
  .seq (.reg [q 19 (.ias (.t 15) (.t 17) 1), q 20 (.load (.t 19) 1 false), q 6 (.mv (.t 20))]) <|
  .seq (.reg [q 21 (.mv (.t 6)), qs 22 (.bin .num .lss (.t 21) (.c (.n .i64 0))), q 23 (.mv (.t 22)), qg 24 false 23 false (.mv (.t 6)), qg 25 true 23 false (.bin .num .gtr (.t 24) (.c (.n .i64 1099511627776))), q 26 (.pick (.t 23) (.c (.b true)) (.t 25))]) <|
  .cond (.t 26) (.seq (.reg [q 4 (.mv (.c (.b true)))]) <|
  .ret) <|
  .skip) <|
  .reg [q 27 (.bin .num .add (.t 17) (.c (.n .i64 1))), q 17 (.mv (.t 27))]) <|
  .seq (.seq (.draw [qd (some 28) false [] (.fa (.t 3) 0 1 false), qd (some 29) false [0] (.load (.t 28) 1 false), qd (some 30) true [0, 1] (.bin .num .lss (.t 29) (.c (.n .i64 1))), qd (some 31) false [0, 1, 2] (.mv (.t 30)), qdg (some 32) false 31 false [0, 1, 2, 3] (.fa (.t 3) 0 1 false), qdg (some 33) false 31 false [0, 1, 2, 3, 4] (.load (.t 32) 1 false), qdg (some 34) true 31 false [0, 1, 2, 3, 4, 5] (.bin .num .gtr (.t 33) (.c (.n .i64 8))), qd (some 35) false [0, 1, 2, 3, 4, 5, 6] (.pick (.t 31) (.c (.b true)) (.t 34)), qd (some 36) false [0, 1, 2, 3, 4, 5, 6, 7] (.mv (.t 35)), qdg (some 37) false 36 false [0, 1, 2, 3, 4, 5, 6, 7, 8] (.fa (.t 3) 2 1 false), qdg (some 38) false 36 false [0, 1, 2, 3, 4, 5, 6, 7, 8, 9] (.load (.t 37) 1 false), qdg (some 39) false 36 false [0, 1, 2, 3, 4, 5, 6, 7, 8] (.mv (.t 0)), qdg (some 40) false 36 false [0, 1, 2, 3, 4, 5, 6, 7, 8, 11] (.nilchk (.t 39)), qdg (some 41) false 36 false [0, 1, 2, 3, 4, 5, 6, 7, 8, 11, 12] (.fa (.t 40) 0 1 false), qdg (some 42) false 36 false [0, 1, 2, 3, 4, 5, 6, 7, 8, 11, 12, 13] (.load (.t 41) 1 false), qdg (some 43) true 36 false [0, 1, 2, 3, 4, 5, 6, 7, 8, 9, 10, 11, 12, 13, 14] (.bin .num .neq (.t 38) (.t 42)), qd (some 44) false [0, 1, 2, 3, 4, 5, 6, 7, 8, 9, 10, 11, 12, 13, 14, 15] (.pick (.t 36) (.c (.b true)) (.t 43)), qd (some 45) false [0, 1, 2, 3, 4, 5, 6, 7, 8, 9, 10, 11, 12, 13, 14, 15, 16] (.mv (.t 44)), qdg (some 46) false 45 false [0, 1, 2, 3, 4, 5, 6, 7, 8, 9, 10, 11, 12, 13, 14, 15, 16, 17] (.fa (.t 3) 1 1 false), qdg (some 47) false 45 false [0, 1, 2, 3, 4, 5, 6, 7, 8, 9, 10, 11, 12, 13, 14, 15, 16, 17, 18] (.load (.t 46) 1 false), qdg (some 48) false 45 false [0, 1, 2, 3, 4, 5, 6, 7, 8, 9, 10, 11, 12, 13, 14, 15, 16, 17] (.mv (.t 0)), qdg (some 49) false 45 false [0, 1, 2, 3, 4, 5, 6, 7, 8, 9, 10, 11, 12, 13, 14, 15, 16, 17, 20] (.nilchk (.t 48)), qdg (some 50) false 45 false [0, 1, 2, 3, 4, 5, 6, 7, 8, 9, 10, 11, 12, 13, 14, 15, 16, 17, 20, 21] (.fa (.t 49) 0 1 false), qdg (some 51) false 45 false [0, 1, 2, 3, 4, 5, 6, 7, 8, 9, 10, 11, 12, 13, 14, 15, 16, 17, 20, 21, 22] (.load (.t 50) 1 false), qdg (some 52) true 45 false [0, 1, 2, 3, 4, 5, 6, 7, 8, 9, 10, 11, 12, 13, 14, 15, 16, 17, 18, 19, 20, 21, 22, 23] (.bin .num .eql (.t 47) (.t 51)), qd (some 53) false [0, 1, 2, 3, 4, 5, 6, 7, 8, 9, 10, 11, 12, 13, 14, 15, 16, 17, 18, 19, 20, 21, 22, 23, 24] (.pick (.t 45) (.c (.b true)) (.t 52)), qd (some 54) false [0, 1, 2, 3, 4, 5, 6, 7, 8, 9, 10, 11, 12, 13, 14, 15, 16, 17, 18, 19, 20, 21, 22, 23, 24, 25] (.mv (.t 53)), qdg (some 55) false 54 false [0, 1, 2, 3, 4, 5, 6, 7, 8, 9, 10, 11, 12, 13, 14, 15, 16, 17, 18, 19, 20, 21, 22, 23, 24, 25, 26] (.fa (.t 3) 1 1 false), qdg (some 56) false 54 false [0, 1, 2, 3, 4, 5, 6, 7, 8, 9, 10, 11, 12, 13, 14, 15, 16, 17, 18, 19, 20, 21, 22, 23, 24, 25, 26, 27] (.load (.t 55) 1 false), qdg (some 57) true 54 false [0, 1, 2, 3, 4, 5, 6, 7, 8, 9, 10, 11, 12, 13, 14, 15, 16, 17, 18, 19, 20, 21, 22, 23, 24, 25, 26, 27, 28] (.bin .num .lss (.t 56) (.c (.n .i64 1))), qd (some 58) false [0, 1, 2, 3, 4, 5, 6, 7, 8, 9, 10, 11, 12, 13, 14, 15, 16, 17, 18, 19, 20, 21, 22, 23, 24, 25, 26, 27, 28, 29] (.pick (.t 54) (.c (.b true)) (.t 57)), qd (some 59) false [0, 1, 2, 3, 4, 5, 6, 7, 8, 9, 10, 11, 12, 13, 14, 15, 16, 17, 18, 19, 20, 21, 22, 23, 24, 25, 26, 27, 28, 29, 30] (.mv (.t 58)), qdg (some 60) false 59 false [0, 1, 2, 3, 4, 5, 6, 7, 8, 9, 10, 11, 12, 13, 14, 15, 16, 17, 18, 19, 20, 21, 22, 23, 24, 25, 26, 27, 28, 29, 30, 31] (.fa (.t 3) 1 1 false), qdg (some 61) false 59 false [0, 1, 2, 3, 4, 5, 6, 7, 8, 9, 10, 11, 12, 13, 14, 15, 16, 17, 18, 19, 20, 21, 22, 23, 24, 25, 26, 27, 28, 29, 30, 31, 32] (.load (.t 60) 1 false), qdg (some 62) true 59 false [0, 1, 2, 3, 4, 5, 6, 7, 8, 9, 10, 11, 12, 13, 14, 15, 16, 17, 18, 19, 20, 21, 22, 23, 24, 25, 26, 27, 28, 29, 30, 31, 32, 33] (.bin .num .gtr (.t 61) (.c (.n .i64 7))), qd (some 63) false [0, 1, 2, 3, 4, 5, 6, 7, 8, 9, 10, 11, 12, 13, 14, 15, 16, 17, 18, 19, 20, 21, 22, 23, 24, 25, 26, 27, 28, 29, 30, 31, 32, 33, 34] (.pick (.t 59) (.c (.b true)) (.t 62)), qd (some 64) false [0, 1, 2, 3, 4, 5, 6, 7, 8, 9, 10, 11, 12, 13, 14, 15, 16, 17, 18, 19, 20, 21, 22, 23, 24, 25, 26, 27, 28, 29, 30, 31, 32, 33, 34, 35] (.mv (.t 63)), qdg (some 65) false 64 false [0, 1, 2, 3, 4, 5, 6, 7, 8, 9, 10, 11, 12, 13, 14, 15, 16, 17, 18, 19, 20, 21, 22, 23, 24, 25, 26, 27, 28, 29, 30, 31, 32, 33, 34, 35, 36] (.fa (.t 3) 8 1 false), qdg (some 66) false 64 false [0, 1, 2, 3, 4, 5, 6, 7, 8, 9, 10, 11, 12, 13, 14, 15, 16, 17, 18, 19, 20, 21, 22, 23, 24, 25, 26, 27, 28, 29, 30, 31, 32, 33, 34, 35, 36, 37] (.load (.t 65) 1 false), qdg (some 67) false 64 false [0, 1, 2, 3, 4, 5, 6, 7, 8, 9, 10, 11, 12, 13, 14, 15, 16, 17, 18, 19, 20, 21, 22, 23, 24, 25, 26, 27, 28, 29, 30, 31, 32, 33, 34, 35, 36, 37, 38] (.len (.t 66)), qdg (some 68) false 64 false [0, 1, 2, 3, 4, 5, 6, 7, 8, 9, 10, 11, 12, 13, 14, 15, 16, 17, 18, 19, 20, 21, 22, 23, 24, 25, 26, 27, 28, 29, 30, 31, 32, 33, 34, 35, 36] (.fa (.t 3) 4 1 false), qdg (some 69) false 64 false [0, 1, 2, 3, 4, 5, 6, 7, 8, 9, 10, 11, 12, 13, 14, 15, 16, 17, 18, 19, 20, 21, 22, 23, 24, 25, 26, 27, 28, 29, 30, 31, 32, 33, 34, 35, 36, 40] (.load (.t 68) 1 false), qdg (some 70) false 64 false [0, 1, 2, 3, 4, 5, 6, 7, 8, 9, 10, 11, 12, 13, 14, 15, 16, 17, 18, 19, 20, 21, 22, 23, 24, 25, 26, 27, 28, 29, 30, 31, 32, 33, 34, 35, 36, 40, 41] (.bin .num .sub (.c (.n .i64 1099511627776)) (.t 69)), qdg (some 71) false 64 false [0, 1, 2, 3, 4, 5, 6, 7, 8, 9, 10, 11, 12, 13, 14, 15, 16, 17, 18, 19, 20, 21, 22, 23, 24, 25, 26, 27, 28, 29, 30, 31, 32, 33, 34, 35, 36, 40, 41, 42] (.mn [(.c (.n .i64 8)), (.t 70)]), qdg (some 72) true 64 false [0, 1, 2, 3, 4, 5, 6, 7, 8, 9, 10, 11, 12, 13, 14, 15, 16, 17, 18, 19, 20, 21, 22, 23, 24, 25, 26, 27, 28, 29, 30, 31, 32, 33, 34, 35, 36, 37, 38, 39, 40, 41, 42, 43] (.bin .num .gtr (.t 67) (.t 71)), qd (some 73) false [0, 1, 2, 3, 4, 5, 6, 7, 8, 9, 10, 11, 12, 13, 14, 15, 16, 17, 18, 19, 20, 21, 22, 23, 24, 25, 26, 27, 28, 29, 30, 31, 32, 33, 34, 35, 36, 37, 38, 39, 40, 41, 42, 43, 44] (.pick (.t 64) (.c (.b true)) (.t 72))]) <|
  .cond (.t 73) (.seq (.reg [q 4 (.mv (.c (.b true)))]) <|
  .ret) <|
  .skip) <|
  .seq (.seq (.reg [q 74 (.fa (.t 3) 0 1 false), q 75 (.load (.t 74) 1 false), qs 76 (.bin .num .eql (.t 75) (.c (.n .i64 7))), q 77 (.mv (.t 76)), qg 78 false 77 true (.fa (.t 3) 4 1 false), qg 79 false 77 true (.load (.t 78) 1 false), qg 80 true 77 true (.bin .num .eql (.t 79) (.c (.n .i64 0))), qg 81 false 77 true (.mv (.t 80)), qg 82 false 81 false (.fa (.t 3) 9 1 false), qg 83 false 81 false (.load (.t 82) 1 false), qg 84 false 81 false (.call 35 [(.t 83)]), qg 85 true 81 false (.bin .num .neq (.t 84) (.c (.n .i64 0))), qg 86 false 77 true (.pick (.t 81) (.c (.b true)) (.t 85)), q 87 (.pick (.t 77) (.t 86) (.c (.b false)))]) <|
  .cond (.t 87) (.seq (.reg [q 4 (.mv (.c (.b true)))]) <|
  .ret) <|
  .skip) <|
  .seq (.reg [q 88 (.fa (.t 3) 8 1 false), q 89 (.load (.t 88) 1 false), q 90 (.mkf 48 [] [(.t 3)]), qs 91 (.call 47 [(.t 89), (.t 90)]), q 4 (.mv (.t 91))]) <|
  .ret

/-- (*strongroom/raft.Raft).odd -/
def p_raft_Raft_odd (E : Env) (a0 a1 : V) (s : St) (K : V → St → Prop) : Prop :=
 optW (boxV a1 s) fun v0 s1 =>
 optP (faV v0 4 1 false) s1 fun v2 s3 =>
 optP (ldV v2 1 false s3) s3 fun v4 s5 =>
 optP (faV v0 5 1 false) s5 fun v6 s7 =>
 optP (ldV v6 1 false s7) s7 fun v8 s9 =>
 optP (faV v0 6 1 false) s9 fun v10 s11 =>
 optP (ldV v10 1 false s11) s11 fun v12 s13 =>
 optP (faV v0 3 1 false) s13 fun v14 s15 =>
 optP (ldV v14 1 false s15) s15 fun v16 s17 =>
 optP (mksV 1 [v4, v8, v12, v16]) s17 fun v18 s19 =>
 optP (lenV v18) s19 fun v20 s21 =>
 ∃ I22 : Nat → List V → St → Prop, (∃ n23, I22 n23 [(.n .i64 0)] s21) ∧ ∀ n23, ∀ x25 : V, ∀ s24, I22 n23 [x25] s24 →
 optP (binV .num .lss x25 v20) s24 fun v27 s28 =>
 splitP v27 (
 optP (iasV v18 x25 1) s28 fun v29 s30 =>
 optP (ldV v29 1 false s30) s30 fun v31 s32 =>
 let k33 : St → Prop := (fun s34 =>
 K (.b true) s34);
 optP (binV .num .lss v31 (.n .i64 0)) s32 fun v35 s36 =>
 splitP v35 (
 k33 s36) (
 optP (binV .num .gtr v31 (.n .i64 1099511627776)) s36 fun v37 s38 =>
 splitP v37 (
 k33 s38) (
 optP (binV .num .add x25 (.n .i64 1)) s38 fun v39 s40 =>
 (a0 : V) = a0 ∧ (v0 : V) = v0 ∧ (v18 : V) = v18 ∧ (v20 : V) = v20 ∧ ∃ n26, n26 < n23 ∧ I22 n26 [v39] s40))) (
 let k41 : St → Prop := (fun s42 =>
 K (.b true) s42);
 optP (faV v0 0 1 false) s28 fun v43 s44 =>
 optP (ldV v43 1 false s44) s44 fun v45 s46 =>
 (True) ∧ optP (binV .num .lss v45 (.n .i64 1)) s46 fun v47 s48 =>
 splitP v47 (
 (True) ∧ (True) ∧ (True) ∧ (True) ∧ (True) ∧ (True) ∧ (True) ∧ (True) ∧ (True) ∧ k41 s48) (
 optP (faV v0 0 1 false) s48 fun v49 s50 =>
 optP (ldV v49 1 false s50) s50 fun v51 s52 =>
 (True) ∧ optP (binV .num .gtr v51 (.n .i64 8)) s52 fun v53 s54 =>
 splitP v53 (
 (True) ∧ (True) ∧ (True) ∧ (True) ∧ (True) ∧ (True) ∧ (True) ∧ (True) ∧ k41 s54) (
 optP (faV v0 2 1 false) s54 fun v55 s56 =>
 optP (ldV v55 1 false s56) s56 fun v57 s58 =>
 (True) ∧ optP (nilV a0) s58 fun v59 s60 =>
 optP (faV v59 0 1 false) s60 fun v61 s62 =>
 optP (ldV v61 1 false s62) s62 fun v63 s64 =>
 (True) ∧ optP (binV .num .neq v57 v63) s64 fun v65 s66 =>
 splitP v65 (
 (True) ∧ (True) ∧ (True) ∧ (True) ∧ (True) ∧ (True) ∧ k41 s66) (
 optP (faV v0 1 1 false) s66 fun v67 s68 =>
 optP (ldV v67 1 false s68) s68 fun v69 s70 =>
 (True) ∧ optP (nilV a0) s70 fun v71 s72 =>
 optP (faV v71 0 1 false) s72 fun v73 s74 =>
 optP (ldV v73 1 false s74) s74 fun v75 s76 =>
 (True) ∧ optP (binV .num .eql v69 v75) s76 fun v77 s78 =>
 splitP v77 (
 (True) ∧ (True) ∧ (True) ∧ (True) ∧ k41 s78) (
 optP (faV v0 1 1 false) s78 fun v79 s80 =>
 optP (ldV v79 1 false s80) s80 fun v81 s82 =>
 (True) ∧ optP (binV .num .lss v81 (.n .i64 1)) s82 fun v83 s84 =>
 splitP v83 (
 (True) ∧ (True) ∧ (True) ∧ k41 s84) (
 optP (faV v0 1 1 false) s84 fun v85 s86 =>
 optP (ldV v85 1 false s86) s86 fun v87 s88 =>
 (True) ∧ optP (binV .num .gtr v87 (.n .i64 7)) s88 fun v89 s90 =>
 splitP v89 (
 (True) ∧ (True) ∧ k41 s90) (
 optP (faV v0 8 1 false) s90 fun v91 s92 =>
 optP (ldV v91 1 false s92) s92 fun v93 s94 =>
 (True) ∧ optP (lenV v93) s94 fun v95 s96 =>
 optP (faV v0 4 1 false) s96 fun v97 s98 =>
 optP (ldV v97 1 false s98) s98 fun v99 s100 =>
 (True) ∧ optP (binV .num .sub (.n .i64 1099511627776) v99) s100 fun v101 s102 =>
 optP (minV [(.n .i64 8), v101]) s102 fun v103 s104 =>
 optP (binV .num .gtr v95 v103) s104 fun v105 s106 =>
 splitP v105 (
 k41 s106) (
 let k107 : St → Prop := (fun s108 =>
 K (.b true) s108);
 let k109 : St → Prop := (fun s110 =>
 optP (faV v0 8 1 false) s110 fun v111 s112 =>
 optP (ldV v111 1 false s112) s112 fun v113 s114 =>
 ACalls E 47 [v113, (.f 48 [] [v0])] s114 fun v115 s116 =>
 splitP v115 (
 K (.b true) s116) (
 K (.b false) s116));
 optP (faV v0 0 1 false) s106 fun v117 s118 =>
 optP (ldV v117 1 false s118) s118 fun v119 s120 =>
 optP (binV .num .eql v119 (.n .i64 7)) s120 fun v121 s122 =>
 splitP v121 (
 optP (faV v0 4 1 false) s122 fun v123 s124 =>
 optP (ldV v123 1 false s124) s124 fun v125 s126 =>
 optP (binV .num .eql v125 (.n .i64 0)) s126 fun v127 s128 =>
 splitP v127 (
 k107 s128) (
 optP (faV v0 9 1 false) s128 fun v129 s130 =>
 optP (ldV v129 1 false s130) s130 fun v131 s132 =>
 ACalls E 35 [v131] s132 fun v133 s134 =>
 optP (binV .num .neq v133 (.n .i64 0)) s134 fun v135 s136 =>
 splitP v135 (
 k107 s136) (
 k109 s136))) (
 k109 s122)))))))))
theorem e_raft_Raft_odd (E : Env) (a0 a1 : V) (s : St) (K : V → St → Prop) : axF E c_raft_Raft_odd [a0, a1] s K = p_raft_Raft_odd E a0 a1 s K := by kernel_rfl
theorem g_raft_Raft_odd {E : Env} {a0 a1 : V} {s : St} {K : V → St → Prop} (h : chkF E.P E.m (E.m 27) c_raft_Raft_odd = true) (hp : p_raft_Raft_odd E a0 a1 s K) : ACalls E 27 [a0, a1] s K :=
  acalls h rfl (by rw [e_raft_Raft_odd]; exact hp)

/-- (*strongroom/raft.Raft).pre -/
def c_raft_Raft_pre : AFunc := .mk 2 68 [] <|
  .seq (.reg [q 3 (.box (.t 1))]) <|
  .seq (.draw [qd (some 7) false [] (.mv (.t 0)), qd (some 8) false [0] (.nilchk (.t 7)), qd (some 9) false [0, 1] (.fa (.t 8) 3 1 false), qd (some 10) false [0, 1, 2] (.load (.t 9) 1 false), qd (some 11) true [0, 1, 2, 3] (.bin .num .eql (.t 10) (.c (.n .i64 3))), qd (some 12) false [0, 1, 2, 3, 4] (.mv (.t 11)), qdg (some 13) false 12 false [0, 1, 2, 3, 4, 5] (.mv (.t 0)), qdg (some 14) false 12 false [0, 1, 2, 3, 4, 5, 6] (.nilchk (.t 13)), qdg (some 15) false 12 false [0, 1, 2, 3, 4, 5, 6, 7] (.fa (.t 14) 4 1 false), qdg (some 16) false 12 false [0, 1, 2, 3, 4, 5, 6, 7, 8] (.load (.t 15) 1 false), qdg (some 17) true 12 false [0, 1, 2, 3, 4, 5, 6, 7, 8, 9] (.bin .num .neq (.t 16) (.c (.n .i64 0))), qdg (some 18) false 12 false [0, 1, 2, 3, 4, 5, 6, 7, 8, 9, 10] (.mv (.t 17)), qdg (some 19) false 18 true [0, 1, 2, 3, 4, 5, 6, 7, 8, 9, 10, 11] (.mv (.t 0)), qdg (some 20) false 18 true [0, 1, 2, 3, 4, 5, 6, 7, 8, 9, 10, 11, 12] (.nilchk (.t 19)), qdg (some 21) false 18 true [0, 1, 2, 3, 4, 5, 6, 7, 8, 9, 10, 11, 12, 13] (.fa (.t 20) 12 1 false), qdg (some 22) false 18 true [0, 1, 2, 3, 4, 5, 6, 7, 8, 9, 10, 11, 12, 13, 14] (.load (.t 21) 1 false), qdg (some 23) false 18 true [0, 1, 2, 3, 4, 5, 6, 7, 8, 9, 10, 11] (.mv (.t 0)), qdg (some 24) false 18 true [0, 1, 2, 3, 4, 5, 6, 7, 8, 9, 10, 11, 16] (.nilchk (.t 23)), qdg (some 25) false 18 true [0, 1, 2, 3, 4, 5, 6, 7, 8, 9, 10, 11, 16, 17] (.fa (.t 24) 13 1 false), qdg (some 26) false 18 true [0, 1, 2, 3, 4, 5, 6, 7, 8, 9, 10, 11, 16, 17, 18] (.load (.t 25) 1 false), qdg (some 27) true 18 true [0, 1, 2, 3, 4, 5, 6, 7, 8, 9, 10, 11, 12, 13, 14, 15, 16, 17, 18, 19] (.bin .num .lss (.t 22) (.t 26)), qdg (some 28) false 12 false [0, 1, 2, 3, 4, 5, 6, 7, 8, 9, 10, 11, 12, 13, 14, 15, 16, 17, 18, 19, 20] (.pick (.t 18) (.t 27) (.c (.b false))), qd (some 29) false [0, 1, 2, 3, 4, 5, 6, 7, 8, 9, 10, 11, 12, 13, 14, 15, 16, 17, 18, 19, 20, 21] (.pick (.t 12) (.c (.b true)) (.t 28)), qd (some 4) false [0, 1, 2, 3, 4, 5, 6, 7, 8, 9, 10, 11, 12, 13, 14, 15, 16, 17, 18, 19, 20, 21, 22] (.mv (.t 29))]) <|
  .seq (.draw [qd (some 30) false [] (.fa (.t 3) 3 1 false), qd (some 31) false [0] (.load (.t 30) 1 false), qd (some 32) false [] (.mv (.t 0)), qd (some 33) false [2] (.nilchk (.t 32)), qd (some 34) false [2, 3] (.fa (.t 33) 1 2 true), qd (some 35) false [2, 3, 4] (.fa (.t 34) 0 1 false), qd (some 36) false [2, 3, 4, 5] (.load (.t 35) 1 false), qd (some 37) true [0, 1, 2, 3, 4, 5, 6] (.bin .num .gtr (.t 31) (.t 36)), qd (some 38) false [0, 1, 2, 3, 4, 5, 6, 7] (.mv (.t 37)), qdg (some 39) true 38 true [0, 1, 2, 3, 4, 5, 6, 7, 8] (.mv (.t 4)), qdg (some 40) false 38 true [0, 1, 2, 3, 4, 5, 6, 7, 8, 9] (.un .not (.t 39)), qd (some 41) false [0, 1, 2, 3, 4, 5, 6, 7, 8, 9, 10] (.pick (.t 38) (.t 40) (.c (.b false))), qd (some 42) false [0, 1, 2, 3, 4, 5, 6, 7, 8, 9, 10, 11] (.mv (.t 41)), qdg (some 43) false 42 true [0, 1, 2, 3, 4, 5, 6, 7, 8, 9, 10, 11, 12] (.mv (.t 0)), qdg (some 44) false 42 true [0, 1, 2, 3, 4, 5, 6, 7, 8, 9, 10, 11, 12, 13] (.nilchk (.t 43)), qdg (some 45) false 42 true [0, 1, 2, 3, 4, 5, 6, 7, 8, 9, 10, 11, 12, 13, 14] (.fa (.t 44) 5 1 false), qdg (some 46) false 42 true [0, 1, 2, 3, 4, 5, 6, 7, 8, 9, 10, 11, 12, 13, 14, 15] (.load (.t 45) 1 false), qdg (some 47) false 42 true [0, 1, 2, 3, 4, 5, 6, 7, 8, 9, 10, 11, 12] (.fa (.t 3) 4 1 false), qdg (some 48) false 42 true [0, 1, 2, 3, 4, 5, 6, 7, 8, 9, 10, 11, 12, 17] (.load (.t 47) 1 false), qdg (some 49) false 42 true [0, 1, 2, 3, 4, 5, 6, 7, 8, 9, 10, 11, 12] (.fa (.t 3) 5 1 false), qdg (some 50) false 42 true [0, 1, 2, 3, 4, 5, 6, 7, 8, 9, 10, 11, 12, 19] (.load (.t 49) 1 false), qdg (some 51) true 42 true [0, 1, 2, 3, 4, 5, 6, 7, 8, 9, 10, 11, 12, 13, 14, 15, 16, 17, 18, 19, 20] (.call 49 [(.t 46), (.t 48), (.t 50)]), qd (some 52) false [0, 1, 2, 3, 4, 5, 6, 7, 8, 9, 10, 11, 12, 13, 14, 15, 16, 17, 18, 19, 20, 21] (.pick (.t 42) (.t 51) (.c (.b false))), qd (some 5) false [0, 1, 2, 3, 4, 5, 6, 7, 8, 9, 10, 11, 12, 13, 14, 15, 16, 17, 18, 19, 20, 21, 22] (.mv (.t 52))]) <|
  .seq (.reg [q 53 (.mv (.t 0)), q 54 (.nilchk (.t 53)), q 55 (.fa (.t 54) 1 2 true), q 56 (.fa (.t 55) 0 1 false), q 57 (.load (.t 56) 1 false), q 6 (.mv (.t 57))]) <|
  .seq (.seq (.reg [qs 58 (.mv (.t 5))]) <|
  .cond (.t 58) (.reg [q 59 (.fa (.t 3) 3 1 false), q 60 (.load (.t 59) 1 false), q 6 (.mv (.t 60))]) <|
  .skip) <|
  .reg [q 61 (.mv (.t 0)), q 62 (.fa (.t 3) 1 1 false), q 63 (.load (.t 62) 1 false), q 64 (.mv (.t 6)), qs 65 (.mv (.t 5)), q 66 (.build [.n .i64 0, .n .i64 0, .n .i64 0, .n .i64 0, .n .i64 0, .n .i64 0, .n .i64 0, .b false, .l 4 [] .nil, .l 1 [] .nil, .l 1 [] .nil] [(0, 1, (.c (.n .i64 2))), (2, 1, (.t 63)), (3, 1, (.t 64)), (7, 1, (.t 65))]), q 67 (.call 50 [(.t 61), (.t 66)])]

/-- (*strongroom/raft.Raft).pre -/
def p_raft_Raft_pre (E : Env) (a0 a1 : V) (s : St) (K : V → St → Prop) : Prop :=
 optW (boxV a1 s) fun v0 s1 =>
 let k2 : St → Prop := (fun s3 =>
 let k4 : St → Prop := (fun s5 =>
 optP (nilV a0) s5 fun v6 s7 =>
 optP (faV v6 1 2 true) s7 fun v8 s9 =>
 optP (faV v8 0 1 false) s9 fun v10 s11 =>
 optP (ldV v10 1 false s11) s11 fun v12 s13 =>
 let k14 : V → St → Prop := (fun x16 s15 =>
 optP (faV v0 1 1 false) s15 fun v17 s18 =>
 optP (ldV v17 1 false s18) s18 fun v19 s20 =>
 splitP (.b false) (
 optP (buildV [.n .i64 0, .n .i64 0, .n .i64 0, .n .i64 0, .n .i64 0, .n .i64 0, .n .i64 0, .b false, .l 4 [] .nil, .l 1 [] .nil, .l 1 [] .nil] [(0, 1, (.n .i64 2)), (2, 1, v19), (3, 1, x16), (7, 1, (.b true))]) s20 fun v21 s22 =>
 ACalls E 50 [a0, v21] s22 fun v23 s24 =>
 K (.tup []) s24) (
 optP (buildV [.n .i64 0, .n .i64 0, .n .i64 0, .n .i64 0, .n .i64 0, .n .i64 0, .n .i64 0, .b false, .l 4 [] .nil, .l 1 [] .nil, .l 1 [] .nil] [(0, 1, (.n .i64 2)), (2, 1, v19), (3, 1, x16), (7, 1, (.b false))]) s20 fun v25 s26 =>
 ACalls E 50 [a0, v25] s26 fun v27 s28 =>
 K (.tup []) s28));
 splitP (.b false) (
 optP (faV v0 3 1 false) s13 fun v29 s30 =>
 optP (ldV v29 1 false s30) s30 fun v31 s32 =>
 k14 v31 s32) (
 k14 v12 s13));
 optP (faV v0 3 1 false) s3 fun v33 s34 =>
 optP (ldV v33 1 false s34) s34 fun v35 s36 =>
 (True) ∧ optP (nilV a0) s36 fun v37 s38 =>
 optP (faV v37 1 2 true) s38 fun v39 s40 =>
 optP (faV v39 0 1 false) s40 fun v41 s42 =>
 optP (ldV v41 1 false s42) s42 fun v43 s44 =>
 (True) ∧ optP (binV .num .gtr v35 v43) s44 fun v45 s46 =>
 splitP v45 (
 splitP (.b true) (
 (True) ∧ (True) ∧ (True) ∧ (True) ∧ k4 s46) (
 optP (nilV a0) s46 fun v47 s48 =>
 optP (faV v47 5 1 false) s48 fun v49 s50 =>
 optP (ldV v49 1 false s50) s50 fun v51 s52 =>
 (True) ∧ optP (faV v0 4 1 false) s52 fun v53 s54 =>
 optP (ldV v53 1 false s54) s54 fun v55 s56 =>
 (True) ∧ optP (faV v0 5 1 false) s56 fun v57 s58 =>
 optP (ldV v57 1 false s58) s58 fun v59 s60 =>
 (True) ∧ ACalls E 49 [v51, v55, v59] s60 fun v61 s62 =>
 splitP v61 (
 (True) ∧ optP (nilV a0) s62 fun v63 s64 =>
 optP (faV v63 1 2 true) s64 fun v65 s66 =>
 optP (faV v65 0 1 false) s66 fun v67 s68 =>
 optP (ldV v67 1 false s68) s68 fun v69 s70 =>
 let k71 : V → St → Prop := (fun x73 s72 =>
 optP (faV v0 1 1 false) s72 fun v74 s75 =>
 optP (ldV v74 1 false s75) s75 fun v76 s77 =>
 splitP (.b true) (
 optP (buildV [.n .i64 0, .n .i64 0, .n .i64 0, .n .i64 0, .n .i64 0, .n .i64 0, .n .i64 0, .b false, .l 4 [] .nil, .l 1 [] .nil, .l 1 [] .nil] [(0, 1, (.n .i64 2)), (2, 1, v76), (3, 1, x73), (7, 1, (.b true))]) s77 fun v78 s79 =>
 ACalls E 50 [a0, v78] s79 fun v80 s81 =>
 K (.tup []) s81) (
 optP (buildV [.n .i64 0, .n .i64 0, .n .i64 0, .n .i64 0, .n .i64 0, .n .i64 0, .n .i64 0, .b false, .l 4 [] .nil, .l 1 [] .nil, .l 1 [] .nil] [(0, 1, (.n .i64 2)), (2, 1, v76), (3, 1, x73), (7, 1, (.b false))]) s77 fun v82 s83 =>
 ACalls E 50 [a0, v82] s83 fun v84 s85 =>
 K (.tup []) s85));
 splitP (.b true) (
 optP (faV v0 3 1 false) s70 fun v86 s87 =>
 optP (ldV v86 1 false s87) s87 fun v88 s89 =>
 k71 v88 s89) (
 k71 v69 s70)) (
 (True) ∧ k4 s62))) (
 (True) ∧ (True) ∧ (True) ∧ (True) ∧ k4 s46));
 let k90 : St → Prop := (fun s91 =>
 let k92 : St → Prop := (fun s93 =>
 optP (nilV a0) s93 fun v94 s95 =>
 optP (faV v94 1 2 true) s95 fun v96 s97 =>
 optP (faV v96 0 1 false) s97 fun v98 s99 =>
 optP (ldV v98 1 false s99) s99 fun v100 s101 =>
 let k102 : V → St → Prop := (fun x104 s103 =>
 optP (faV v0 1 1 false) s103 fun v105 s106 =>
 optP (ldV v105 1 false s106) s106 fun v107 s108 =>
 splitP (.b false) (
 optP (buildV [.n .i64 0, .n .i64 0, .n .i64 0, .n .i64 0, .n .i64 0, .n .i64 0, .n .i64 0, .b false, .l 4 [] .nil, .l 1 [] .nil, .l 1 [] .nil] [(0, 1, (.n .i64 2)), (2, 1, v107), (3, 1, x104), (7, 1, (.b true))]) s108 fun v109 s110 =>
 ACalls E 50 [a0, v109] s110 fun v111 s112 =>
 K (.tup []) s112) (
 optP (buildV [.n .i64 0, .n .i64 0, .n .i64 0, .n .i64 0, .n .i64 0, .n .i64 0, .n .i64 0, .b false, .l 4 [] .nil, .l 1 [] .nil, .l 1 [] .nil] [(0, 1, (.n .i64 2)), (2, 1, v107), (3, 1, x104), (7, 1, (.b false))]) s108 fun v113 s114 =>
 ACalls E 50 [a0, v113] s114 fun v115 s116 =>
 K (.tup []) s116));
 splitP (.b false) (
 optP (faV v0 3 1 false) s101 fun v117 s118 =>
 optP (ldV v117 1 false s118) s118 fun v119 s120 =>
 k102 v119 s120) (
 k102 v100 s101));
 optP (faV v0 3 1 false) s91 fun v121 s122 =>
 optP (ldV v121 1 false s122) s122 fun v123 s124 =>
 (True) ∧ optP (nilV a0) s124 fun v125 s126 =>
 optP (faV v125 1 2 true) s126 fun v127 s128 =>
 optP (faV v127 0 1 false) s128 fun v129 s130 =>
 optP (ldV v129 1 false s130) s130 fun v131 s132 =>
 (True) ∧ optP (binV .num .gtr v123 v131) s132 fun v133 s134 =>
 splitP v133 (
 splitP (.b false) (
 (True) ∧ (True) ∧ (True) ∧ (True) ∧ k92 s134) (
 optP (nilV a0) s134 fun v135 s136 =>
 optP (faV v135 5 1 false) s136 fun v137 s138 =>
 optP (ldV v137 1 false s138) s138 fun v139 s140 =>
 (True) ∧ optP (faV v0 4 1 false) s140 fun v141 s142 =>
 optP (ldV v141 1 false s142) s142 fun v143 s144 =>
 (True) ∧ optP (faV v0 5 1 false) s144 fun v145 s146 =>
 optP (ldV v145 1 false s146) s146 fun v147 s148 =>
 (True) ∧ ACalls E 49 [v139, v143, v147] s148 fun v149 s150 =>
 splitP v149 (
 (True) ∧ optP (nilV a0) s150 fun v151 s152 =>
 optP (faV v151 1 2 true) s152 fun v153 s154 =>
 optP (faV v153 0 1 false) s154 fun v155 s156 =>
 optP (ldV v155 1 false s156) s156 fun v157 s158 =>
 let k159 : V → St → Prop := (fun x161 s160 =>
 optP (faV v0 1 1 false) s160 fun v162 s163 =>
 optP (ldV v162 1 false s163) s163 fun v164 s165 =>
 splitP (.b true) (
 optP (buildV [.n .i64 0, .n .i64 0, .n .i64 0, .n .i64 0, .n .i64 0, .n .i64 0, .n .i64 0, .b false, .l 4 [] .nil, .l 1 [] .nil, .l 1 [] .nil] [(0, 1, (.n .i64 2)), (2, 1, v164), (3, 1, x161), (7, 1, (.b true))]) s165 fun v166 s167 =>
 ACalls E 50 [a0, v166] s167 fun v168 s169 =>
 K (.tup []) s169) (
 optP (buildV [.n .i64 0, .n .i64 0, .n .i64 0, .n .i64 0, .n .i64 0, .n .i64 0, .n .i64 0, .b false, .l 4 [] .nil, .l 1 [] .nil, .l 1 [] .nil] [(0, 1, (.n .i64 2)), (2, 1, v164), (3, 1, x161), (7, 1, (.b false))]) s165 fun v170 s171 =>
 ACalls E 50 [a0, v170] s171 fun v172 s173 =>
 K (.tup []) s173));
 splitP (.b true) (
 optP (faV v0 3 1 false) s158 fun v174 s175 =>
 optP (ldV v174 1 false s175) s175 fun v176 s177 =>
 k159 v176 s177) (
 k159 v157 s158)) (
 (True) ∧ k92 s150))) (
 (True) ∧ (True) ∧ (True) ∧ (True) ∧ k92 s134));
 optP (nilV a0) s1 fun v178 s179 =>
 optP (faV v178 3 1 false) s179 fun v180 s181 =>
 optP (ldV v180 1 false s181) s181 fun v182 s183 =>
 (True) ∧ optP (binV .num .eql v182 (.n .i64 3)) s183 fun v184 s185 =>
 splitP v184 (
 (True) ∧ (True) ∧ (True) ∧ k2 s185) (
 optP (nilV a0) s185 fun v186 s187 =>
 optP (faV v186 4 1 false) s187 fun v188 s189 =>
 optP (ldV v188 1 false s189) s189 fun v190 s191 =>
 (True) ∧ optP (binV .num .neq v190 (.n .i64 0)) s191 fun v192 s193 =>
 splitP v192 (
 optP (nilV a0) s193 fun v194 s195 =>
 optP (faV v194 12 1 false) s195 fun v196 s197 =>
 optP (ldV v196 1 false s197) s197 fun v198 s199 =>
 (True) ∧ optP (nilV a0) s199 fun v200 s201 =>
 optP (faV v200 13 1 false) s201 fun v202 s203 =>
 optP (ldV v202 1 false s203) s203 fun v204 s205 =>
 (True) ∧ optP (binV .num .lss v198 v204) s205 fun v206 s207 =>
 splitP v206 (
 k2 s207) (
 k90 s207)) (
 (True) ∧ (True) ∧ k90 s193))
theorem e_raft_Raft_pre (E : Env) (a0 a1 : V) (s : St) (K : V → St → Prop) : axF E c_raft_Raft_pre [a0, a1] s K = p_raft_Raft_pre E a0 a1 s K := by kernel_rfl
theorem g_raft_Raft_pre {E : Env} {a0 a1 : V} {s : St} {K : V → St → Prop} (h : chkF E.P E.m (E.m 28) c_raft_Raft_pre = true) (hp : p_raft_Raft_pre E a0 a1 s K) : ACalls E 28 [a0, a1] s K :=
  acalls h rfl (by rw [e_raft_Raft_pre]; exact hp)

/-- (*strongroom/raft.Raft).preYes -/
def c_raft_Raft_preYes : AFunc := .mk 2 58 [] <|
  .seq (.reg [q 3 (.box (.t 1))]) <|
  .block 0 <|
  .seq (.draw [qd (some 5) false [] (.fa (.t 3) 7 1 false), qd (some 6) true [0] (.load (.t 5) 1 false), qd (some 7) false [0, 1] (.un .not (.t 6)), qd (some 8) false [0, 1, 2] (.mv (.t 7)), qdg (some 9) false 8 true [0, 1, 2, 3] (.fa (.t 3) 3 1 false), qdg (some 10) false 8 true [0, 1, 2, 3, 4] (.load (.t 9) 1 false), qdg (some 11) false 8 true [0, 1, 2, 3] (.mv (.t 0)), qdg (some 12) false 8 true [0, 1, 2, 3, 6] (.nilchk (.t 11)), qdg (some 13) false 8 true [0, 1, 2, 3, 6, 7] (.fa (.t 12) 1 2 true), qdg (some 14) false 8 true [0, 1, 2, 3, 6, 7, 8] (.fa (.t 13) 0 1 false), qdg (some 15) false 8 true [0, 1, 2, 3, 6, 7, 8, 9] (.load (.t 14) 1 false), qdg (some 16) true 8 true [0, 1, 2, 3, 4, 5, 6, 7, 8, 9, 10] (.bin .num .gtr (.t 10) (.t 15)), qd (some 17) false [0, 1, 2, 3, 4, 5, 6, 7, 8, 9, 10, 11] (.pick (.t 8) (.t 16) (.c (.b false))), qd (some 4) false [0, 1, 2, 3, 4, 5, 6, 7, 8, 9, 10, 11, 12] (.mv (.t 17))]) <|
  .cond (.t 4) (.reg [q 18 (.mv (.t 0)), q 19 (.fa (.t 3) 3 1 false), q 20 (.load (.t 19) 1 false), q 21 (.call 51 [(.t 18), (.t 20), (.c (.n .i64 0))])]) <|
  .seq (.draw [qd (some 23) false [] (.fa (.t 3) 7 1 false), qd (some 24) true [0] (.load (.t 23) 1 false), qd (some 25) false [0, 1] (.mv (.t 24)), qdg (some 26) false 25 true [0, 1, 2] (.mv (.t 0)), qdg (some 27) false 25 true [0, 1, 2, 3] (.nilchk (.t 26)), qdg (some 28) false 25 true [0, 1, 2, 3, 4] (.fa (.t 27) 3 1 false), qdg (some 29) false 25 true [0, 1, 2, 3, 4, 5] (.load (.t 28) 1 false), qdg (some 30) true 25 true [0, 1, 2, 3, 4, 5, 6] (.bin .num .eql (.t 29) (.c (.n .i64 1))), qd (some 31) false [0, 1, 2, 3, 4, 5, 6, 7] (.pick (.t 25) (.t 30) (.c (.b false))), qd (some 32) false [0, 1, 2, 3, 4, 5, 6, 7, 8] (.mv (.t 31)), qdg (some 33) false 32 true [0, 1, 2, 3, 4, 5, 6, 7, 8, 9] (.fa (.t 3) 3 1 false), qdg (some 34) false 32 true [0, 1, 2, 3, 4, 5, 6, 7, 8, 9, 10] (.load (.t 33) 1 false), qdg (some 35) false 32 true [0, 1, 2, 3, 4, 5, 6, 7, 8, 9] (.mv (.t 0)), qdg (some 36) false 32 true [0, 1, 2, 3, 4, 5, 6, 7, 8, 9, 12] (.nilchk (.t 35)), qdg (some 37) false 32 true [0, 1, 2, 3, 4, 5, 6, 7, 8, 9, 12, 13] (.fa (.t 36) 1 2 true), qdg (some 38) false 32 true [0, 1, 2, 3, 4, 5, 6, 7, 8, 9, 12, 13, 14] (.fa (.t 37) 0 1 false), qdg (some 39) false 32 true [0, 1, 2, 3, 4, 5, 6, 7, 8, 9, 12, 13, 14, 15] (.load (.t 38) 1 false), qdg (some 40) false 32 true [0, 1, 2, 3, 4, 5, 6, 7, 8, 9, 12, 13, 14, 15, 16] (.bin .num .add (.t 39) (.c (.n .i64 1))), qdg (some 41) true 32 true [0, 1, 2, 3, 4, 5, 6, 7, 8, 9, 10, 11, 12, 13, 14, 15, 16, 17] (.bin .num .eql (.t 34) (.t 40)), qd (some 42) false [0, 1, 2, 3, 4, 5, 6, 7, 8, 9, 10, 11, 12, 13, 14, 15, 16, 17, 18] (.pick (.t 32) (.t 41) (.c (.b false))), qd (some 22) false [0, 1, 2, 3, 4, 5, 6, 7, 8, 9, 10, 11, 12, 13, 14, 15, 16, 17, 18, 19] (.mv (.t 42))]) <|
  .cond (.t 22) (.seq (.draw [qd (some 43) false [] (.mv (.t 0)), qd (some 44) false [] (.mv (.t 0)), qd (some 45) false [1] (.nilchk (.t 44)), qd (some 46) false [1, 2] (.fa (.t 45) 11 1 false), qd (some 47) false [1, 2, 3] (.load (.t 46) 1 false), qd (some 48) false [] (.fa (.t 3) 1 1 false), qd (some 49) false [5] (.load (.t 48) 1 false), qd (some 50) false [5, 6] (.mks 1 [(.t 49)]), qd (some 51) false [1, 2, 3, 4, 5, 6, 7] (.app (.t 47) (.t 50) 1 8), qd (some 52) false [0, 1, 2, 3, 4, 5, 6, 7, 8] (.nilchk (.t 43)), qd (some 53) false [0, 1, 2, 3, 4, 5, 6, 7, 8, 9] (.fa (.t 52) 11 1 false), qd none false [0, 1, 2, 3, 4, 5, 6, 7, 8, 9, 10] (.store (.t 53) (.t 51) 1)]) <|
  .seq (.reg [q 54 (.mv (.t 0)), qs 55 (.call 52 [(.t 54)])]) <|
  .cond (.t 55) (.reg [q 56 (.mv (.t 0)), q 57 (.call 53 [(.t 56)])]) <|
  .skip) <|
  .skip

/-- (*strongroom/raft.Raft).preYes -/
def p_raft_Raft_preYes (E : Env) (a0 a1 : V) (s : St) (K : V → St → Prop) : Prop :=
 optW (boxV a1 s) fun v0 s1 =>
 let k2 : St → Prop := (fun s3 =>
 let k4 : St → Prop := (fun s5 =>
 K (.tup []) s5);
 optP (faV v0 7 1 false) s3 fun v6 s7 =>
 optP (ldV v6 1 false s7) s7 fun v8 s9 =>
 splitP v8 (
 (True) ∧ optP (nilV a0) s9 fun v10 s11 =>
 optP (faV v10 3 1 false) s11 fun v12 s13 =>
 optP (ldV v12 1 false s13) s13 fun v14 s15 =>
 (True) ∧ optP (binV .num .eql v14 (.n .i64 1)) s15 fun v16 s17 =>
 splitP v16 (
 optP (faV v0 3 1 false) s17 fun v18 s19 =>
 optP (ldV v18 1 false s19) s19 fun v20 s21 =>
 (True) ∧ optP (nilV a0) s21 fun v22 s23 =>
 optP (faV v22 1 2 true) s23 fun v24 s25 =>
 optP (faV v24 0 1 false) s25 fun v26 s27 =>
 optP (ldV v26 1 false s27) s27 fun v28 s29 =>
 (True) ∧ optP (binV .num .add v28 (.n .i64 1)) s29 fun v30 s31 =>
 optP (binV .num .eql v20 v30) s31 fun v32 s33 =>
 splitP v32 (
 optP (nilV a0) s33 fun v34 s35 =>
 optP (faV v34 11 1 false) s35 fun v36 s37 =>
 optP (ldV v36 1 false s37) s37 fun v38 s39 =>
 (True) ∧ optP (faV v0 1 1 false) s39 fun v40 s41 =>
 optP (ldV v40 1 false s41) s41 fun v42 s43 =>
 (True) ∧ optP (mksV 1 [v42]) s43 fun v44 s45 =>
 optW (appV v38 v44 1 8 s45) fun v46 s47 =>
 (True) ∧ optP (nilV a0) s47 fun v48 s49 =>
 optP (faV v48 11 1 false) s49 fun v50 s51 =>
 optW (storeV v50 v46 1 s51) fun v52 s53 =>
 (True) ∧ ACalls E 52 [a0] s53 fun v54 s55 =>
 splitP v54 (
 ACalls E 53 [a0] s55 fun v56 s57 =>
 K (.tup []) s57) (
 K (.tup []) s55)) (
 k4 s33)) (
 (True) ∧ (True) ∧ k4 s17)) (
 (True) ∧ (True) ∧ (True) ∧ (True) ∧ k4 s9));
 optP (faV v0 7 1 false) s1 fun v58 s59 =>
 optP (ldV v58 1 false s59) s59 fun v60 s61 =>
 splitP v60 (
 (True) ∧ (True) ∧ (True) ∧ k2 s61) (
 (True) ∧ optP (faV v0 3 1 false) s61 fun v62 s63 =>
 optP (ldV v62 1 false s63) s63 fun v64 s65 =>
 (True) ∧ optP (nilV a0) s65 fun v66 s67 =>
 optP (faV v66 1 2 true) s67 fun v68 s69 =>
 optP (faV v68 0 1 false) s69 fun v70 s71 =>
 optP (ldV v70 1 false s71) s71 fun v72 s73 =>
 (True) ∧ optP (binV .num .gtr v64 v72) s73 fun v74 s75 =>
 splitP v74 (
 optP (faV v0 3 1 false) s75 fun v76 s77 =>
 optP (ldV v76 1 false s77) s77 fun v78 s79 =>
 ACalls E 51 [a0, v78, (.n .i64 0)] s79 fun v80 s81 =>
 K (.tup []) s81) (
 k2 s75))
theorem e_raft_Raft_preYes (E : Env) (a0 a1 : V) (s : St) (K : V → St → Prop) : axF E c_raft_Raft_preYes [a0, a1] s K = p_raft_Raft_preYes E a0 a1 s K := by kernel_rfl
theorem g_raft_Raft_preYes {E : Env} {a0 a1 : V} {s : St} {K : V → St → Prop} (h : chkF E.P E.m (E.m 29) c_raft_Raft_preYes = true) (hp : p_raft_Raft_preYes E a0 a1 s K) : ACalls E 29 [a0, a1] s K :=
  acalls h rfl (by rw [e_raft_Raft_preYes]; exact hp)

/-- (*strongroom/raft.Raft).take -/
def c_raft_Raft_take : AFunc := .mk 2 153 [] <|
  .seq (.reg [q 3 (.box (.t 1))]) <|
  .seq (.seq (.draw [qd (some 5) false [] (.fa (.t 3) 3 1 false), qd (some 6) false [0] (.load (.t 5) 1 false), qd (some 7) false [] (.mv (.t 0)), qd (some 8) false [2] (.nilchk (.t 7)), qd (some 9) false [2, 3] (.fa (.t 8) 1 2 true), qd (some 10) false [2, 3, 4] (.fa (.t 9) 0 1 false), qd (some 11) false [2, 3, 4, 5] (.load (.t 10) 1 false), qd (some 12) true [0, 1, 2, 3, 4, 5, 6] (.bin .num .gtr (.t 6) (.t 11))]) <|
  .cond (.t 12) (.reg [q 13 (.mv (.t 0)), q 14 (.fa (.t 3) 3 1 false), q 15 (.load (.t 14) 1 false), q 16 (.call 51 [(.t 13), (.t 15), (.c (.n .i64 0))])]) <|
  .skip) <|
  .seq (.seq (.draw [qd (some 17) false [] (.fa (.t 3) 3 1 false), qd (some 18) false [0] (.load (.t 17) 1 false), qd (some 19) false [] (.mv (.t 0)), qd (some 20) false [2] (.nilchk (.t 19)), qd (some 21) false [2, 3] (.fa (.t 20) 1 2 true), qd (some 22) false [2, 3, 4] (.fa (.t 21) 0 1 false), qd (some 23) false [2, 3, 4, 5] (.load (.t 22) 1 false), qd (some 24) true [0, 1, 2, 3, 4, 5, 6] (.bin .num .lss (.t 18) (.t 23))]) <|
  .cond (.t 24) (.seq (.reg [q 25 (.mv (.t 0)), q 26 (.load (.t 3) 11 true), q 27 (.call 54 [(.t 25), (.t 26)])]) <|
  .ret) <|
  .skip) <|
  .seq (.reg [q 28 (.fa (.t 3) 0 1 false), q 29 (.load (.t 28) 1 false)]) <|
  .block 0 <|
  .seq (.reg [qs 31 (.bin .num .eql (.t 29) (.c (.n .i64 3))), q 30 (.mv (.t 31))]) <|
  .cond (.t 30) (.seq (.draw [qd (some 32) false [] (.mv (.t 0)), qd (some 33) false [0] (.nilchk (.t 32)), qd (some 34) false [0, 1] (.fa (.t 33) 1 2 true), qd (some 35) false [0, 1, 2] (.fa (.t 34) 1 1 false), qd (some 36) false [0, 1, 2, 3] (.load (.t 35) 1 false), qd (some 37) true [0, 1, 2, 3, 4] (.bin .num .eql (.t 36) (.c (.n .i64 0))), qd (some 38) false [0, 1, 2, 3, 4, 5] (.mv (.t 37)), qdg (some 39) false 38 false [0, 1, 2, 3, 4, 5, 6] (.mv (.t 0)), qdg (some 40) false 38 false [0, 1, 2, 3, 4, 5, 6, 7] (.nilchk (.t 39)), qdg (some 41) false 38 false [0, 1, 2, 3, 4, 5, 6, 7, 8] (.fa (.t 40) 1 2 true), qdg (some 42) false 38 false [0, 1, 2, 3, 4, 5, 6, 7, 8, 9] (.fa (.t 41) 1 1 false), qdg (some 43) false 38 false [0, 1, 2, 3, 4, 5, 6, 7, 8, 9, 10] (.load (.t 42) 1 false), qdg (some 44) false 38 false [0, 1, 2, 3, 4, 5, 6] (.fa (.t 3) 1 1 false), qdg (some 45) false 38 false [0, 1, 2, 3, 4, 5, 6, 12] (.load (.t 44) 1 false), qdg (some 46) true 38 false [0, 1, 2, 3, 4, 5, 6, 7, 8, 9, 10, 11, 12, 13] (.bin .num .eql (.t 43) (.t 45)), qd (some 47) false [0, 1, 2, 3, 4, 5, 6, 7, 8, 9, 10, 11, 12, 13, 14] (.pick (.t 38) (.c (.b true)) (.t 46)), qd (some 48) false [0, 1, 2, 3, 4, 5, 6, 7, 8, 9, 10, 11, 12, 13, 14, 15] (.mv (.t 47)), qdg (some 49) false 48 true [0, 1, 2, 3, 4, 5, 6, 7, 8, 9, 10, 11, 12, 13, 14, 15, 16] (.mv (.t 0)), qdg (some 50) false 48 true [0, 1, 2, 3, 4, 5, 6, 7, 8, 9, 10, 11, 12, 13, 14, 15, 16, 17] (.nilchk (.t 49)), qdg (some 51) false 48 true [0, 1, 2, 3, 4, 5, 6, 7, 8, 9, 10, 11, 12, 13, 14, 15, 16, 17, 18] (.fa (.t 50) 4 1 false), qdg (some 52) false 48 true [0, 1, 2, 3, 4, 5, 6, 7, 8, 9, 10, 11, 12, 13, 14, 15, 16, 17, 18, 19] (.load (.t 51) 1 false), qdg (some 53) true 48 true [0, 1, 2, 3, 4, 5, 6, 7, 8, 9, 10, 11, 12, 13, 14, 15, 16, 17, 18, 19, 20] (.bin .num .eql (.t 52) (.c (.n .i64 0))), qd (some 54) false [0, 1, 2, 3, 4, 5, 6, 7, 8, 9, 10, 11, 12, 13, 14, 15, 16, 17, 18, 19, 20, 21] (.pick (.t 48) (.t 53) (.c (.b false))), qd (some 55) false [0, 1, 2, 3, 4, 5, 6, 7, 8, 9, 10, 11, 12, 13, 14, 15, 16, 17, 18, 19, 20, 21, 22] (.mv (.t 54)), qdg (some 56) false 55 true [0, 1, 2, 3, 4, 5, 6, 7, 8, 9, 10, 11, 12, 13, 14, 15, 16, 17, 18, 19, 20, 21, 22, 23] (.mv (.t 0)), qdg (some 57) false 55 true [0, 1, 2, 3, 4, 5, 6, 7, 8, 9, 10, 11, 12, 13, 14, 15, 16, 17, 18, 19, 20, 21, 22, 23, 24] (.nilchk (.t 56)), qdg (some 58) false 55 true [0, 1, 2, 3, 4, 5, 6, 7, 8, 9, 10, 11, 12, 13, 14, 15, 16, 17, 18, 19, 20, 21, 22, 23, 24, 25] (.fa (.t 57) 5 1 false), qdg (some 59) false 55 true [0, 1, 2, 3, 4, 5, 6, 7, 8, 9, 10, 11, 12, 13, 14, 15, 16, 17, 18, 19, 20, 21, 22, 23, 24, 25, 26] (.load (.t 58) 1 false), qdg (some 60) false 55 true [0, 1, 2, 3, 4, 5, 6, 7, 8, 9, 10, 11, 12, 13, 14, 15, 16, 17, 18, 19, 20, 21, 22, 23] (.fa (.t 3) 4 1 false), qdg (some 61) false 55 true [0, 1, 2, 3, 4, 5, 6, 7, 8, 9, 10, 11, 12, 13, 14, 15, 16, 17, 18, 19, 20, 21, 22, 23, 28] (.load (.t 60) 1 false), qdg (some 62) false 55 true [0, 1, 2, 3, 4, 5, 6, 7, 8, 9, 10, 11, 12, 13, 14, 15, 16, 17, 18, 19, 20, 21, 22, 23] (.fa (.t 3) 5 1 false), qdg (some 63) false 55 true [0, 1, 2, 3, 4, 5, 6, 7, 8, 9, 10, 11, 12, 13, 14, 15, 16, 17, 18, 19, 20, 21, 22, 23, 30] (.load (.t 62) 1 false), qdg (some 64) true 55 true [0, 1, 2, 3, 4, 5, 6, 7, 8, 9, 10, 11, 12, 13, 14, 15, 16, 17, 18, 19, 20, 21, 22, 23, 24, 25, 26, 27, 28, 29, 30, 31] (.call 49 [(.t 59), (.t 61), (.t 63)]), qd (some 65) false [0, 1, 2, 3, 4, 5, 6, 7, 8, 9, 10, 11, 12, 13, 14, 15, 16, 17, 18, 19, 20, 21, 22, 23, 24, 25, 26, 27, 28, 29, 30, 31, 32] (.pick (.t 55) (.t 64) (.c (.b false))), qd (some 4) false [0, 1, 2, 3, 4, 5, 6, 7, 8, 9, 10, 11, 12, 13, 14, 15, 16, 17, 18, 19, 20, 21, 22, 23, 24, 25, 26, 27, 28, 29, 30, 31, 32, 33] (.mv (.t 65))]) <|
  .seq (.seq (.reg [qs 66 (.mv (.t 4))]) <|
  .cond (.t 66) (.seq (.reg [q 67 (.mv (.t 0)), q 68 (.fa (.t 3) 1 1 false), q 69 (.load (.t 68) 1 false), q 70 (.nilchk (.t 67)), q 71 (.fa (.t 70) 1 2 true), q 72 (.fa (.t 71) 1 1 false), qn (.store (.t 72) (.t 69) 1)]) <|
  .reg [q 73 (.mv (.t 0)), q 74 (.call 55 [(.t 73), (.c (.n .i64 0)), (.c (.n .i64 0)), (.c (.l 1 [] .nil))])]) <|
  .skip) <|
  .draw [qd (some 75) false [] (.mv (.t 0)), qd (some 76) false [] (.fa (.t 3) 1 1 false), qd (some 77) false [1] (.load (.t 76) 1 false), qd (some 78) false [] (.mv (.t 0)), qd (some 79) false [3] (.nilchk (.t 78)), qd (some 80) false [3, 4] (.fa (.t 79) 1 2 true), qd (some 81) false [3, 4, 5] (.fa (.t 80) 0 1 false), qd (some 82) false [3, 4, 5, 6] (.load (.t 81) 1 false), qd (some 83) true [] (.mv (.t 4)), qd (some 84) false [1, 2, 3, 4, 5, 6, 7, 8] (.build [.n .i64 0, .n .i64 0, .n .i64 0, .n .i64 0, .n .i64 0, .n .i64 0, .n .i64 0, .b false, .l 4 [] .nil, .l 1 [] .nil, .l 1 [] .nil] [(0, 1, (.c (.n .i64 4))), (2, 1, (.t 77)), (3, 1, (.t 82)), (7, 1, (.t 83))]), qd (some 85) false [0, 1, 2, 3, 4, 5, 6, 7, 8, 9] (.call 50 [(.t 75), (.t 84)])]) <|
  .seq (.reg [qs 87 (.bin .num .eql (.t 29) (.c (.n .i64 4))), q 86 (.mv (.t 87))]) <|
  .cond (.t 86) (.seq (.reg [q 88 (.fa (.t 3) 7 1 false), qs 89 (.load (.t 88) 1 false), q 90 (.mv (.t 89)), qg 91 false 90 true (.mv (.t 0)), qg 92 false 90 true (.nilchk (.t 91)), qg 93 false 90 true (.fa (.t 92) 3 1 false), qg 94 false 90 true (.load (.t 93) 1 false), qg 95 true 90 true (.bin .num .eql (.t 94) (.c (.n .i64 2))), q 96 (.pick (.t 90) (.t 95) (.c (.b false)))]) <|
  .cond (.t 96) (.seq (.draw [qd (some 97) false [] (.mv (.t 0)), qd (some 98) false [] (.mv (.t 0)), qd (some 99) false [1] (.nilchk (.t 98)), qd (some 100) false [1, 2] (.fa (.t 99) 11 1 false), qd (some 101) false [1, 2, 3] (.load (.t 100) 1 false), qd (some 102) false [] (.fa (.t 3) 1 1 false), qd (some 103) false [5] (.load (.t 102) 1 false), qd (some 104) false [5, 6] (.mks 1 [(.t 103)]), qd (some 105) false [1, 2, 3, 4, 5, 6, 7] (.app (.t 101) (.t 104) 1 8), qd (some 106) false [0, 1, 2, 3, 4, 5, 6, 7, 8] (.nilchk (.t 97)), qd (some 107) false [0, 1, 2, 3, 4, 5, 6, 7, 8, 9] (.fa (.t 106) 11 1 false), qd none false [0, 1, 2, 3, 4, 5, 6, 7, 8, 9, 10] (.store (.t 107) (.t 105) 1)]) <|
  .seq (.reg [q 108 (.mv (.t 0)), qs 109 (.call 52 [(.t 108)])]) <|
  .cond (.t 109) (.reg [q 110 (.mv (.t 0)), q 111 (.call 56 [(.t 110)])]) <|
  .skip) <|
  .skip) <|
  .seq (.seq (.reg [qs 113 (.bin .num .eql (.t 29) (.c (.n .i64 5))), q 112 (.mv (.t 113))]) <|
  .cond (.t 112) (.skip) <|
  .reg [qs 114 (.bin .num .eql (.t 29) (.c (.n .i64 7))), q 112 (.mv (.t 114))]) <|
  .cond (.t 112) (.seq (.reg [q 115 (.mv (.t 0)), q 116 (.nilchk (.t 115)), q 117 (.fa (.t 116) 3 1 false), q 118 (.load (.t 117) 1 false), qs 119 (.bin .num .neq (.t 118) (.c (.n .i64 3)))]) <|
  .cond (.t 119) (.seq (.draw [qd (some 120) false [] (.mv (.t 0)), qd (some 121) false [] (.mv (.t 0)), qd (some 122) false [1] (.nilchk (.t 121)), qd (some 123) false [1, 2] (.fa (.t 122) 1 2 true), qd (some 124) false [1, 2, 3] (.fa (.t 123) 0 1 false), qd (some 125) false [1, 2, 3, 4] (.load (.t 124) 1 false), qd (some 126) false [] (.fa (.t 3) 1 1 false), qd (some 127) false [6] (.load (.t 126) 1 false), qd (some 128) false [0, 1, 2, 3, 4, 5, 6, 7] (.call 51 [(.t 120), (.t 125), (.t 127)])]) <|
  .reg [q 129 (.mv (.t 0)), q 130 (.load (.t 3) 11 true), q 131 (.call 57 [(.t 129), (.t 130)])]) <|
  .skip) <|
  .seq (.seq (.reg [qs 133 (.bin .num .eql (.t 29) (.c (.n .i64 6))), q 132 (.mv (.t 133))]) <|
  .cond (.t 132) (.skip) <|
  .reg [qs 134 (.bin .num .eql (.t 29) (.c (.n .i64 8))), q 132 (.mv (.t 134))]) <|
  .cond (.t 132) (.seq (.draw [qd (some 135) false [] (.mv (.t 0)), qd (some 136) false [0] (.nilchk (.t 135)), qd (some 137) false [0, 1] (.fa (.t 136) 3 1 false), qd (some 138) false [0, 1, 2] (.load (.t 137) 1 false), qd (some 139) true [0, 1, 2, 3] (.bin .num .eql (.t 138) (.c (.n .i64 3))), qd (some 140) false [0, 1, 2, 3, 4] (.mv (.t 139)), qdg (some 141) false 140 true [0, 1, 2, 3, 4, 5] (.fa (.t 3) 4 1 false), qdg (some 142) false 140 true [0, 1, 2, 3, 4, 5, 6] (.load (.t 141) 1 false), qdg (some 143) false 140 true [0, 1, 2, 3, 4, 5] (.mv (.t 0)), qdg (some 144) false 140 true [0, 1, 2, 3, 4, 5, 8] (.nilchk (.t 143)), qdg (some 145) false 140 true [0, 1, 2, 3, 4, 5, 8, 9] (.fa (.t 144) 5 1 false), qdg (some 146) false 140 true [0, 1, 2, 3, 4, 5, 8, 9, 10] (.load (.t 145) 1 false), qdg (some 147) false 140 true [0, 1, 2, 3, 4, 5, 8, 9, 10, 11] (.call 22 [(.t 146)]), qdg (some 148) true 140 true [0, 1, 2, 3, 4, 5, 6, 7, 8, 9, 10, 11, 12] (.bin .num .leq (.t 142) (.t 147)), qd (some 149) false [0, 1, 2, 3, 4, 5, 6, 7, 8, 9, 10, 11, 12, 13] (.pick (.t 140) (.t 148) (.c (.b false)))]) <|
  .cond (.t 149) (.reg [q 150 (.mv (.t 0)), q 151 (.load (.t 3) 11 true), q 152 (.call 58 [(.t 150), (.t 151)])]) <|
  .skip) <|
  .skip

/-- (*strongroom/raft.Raft).take -/
def p_raft_Raft_take (E : Env) (a0 a1 : V) (s : St) (K : V → St → Prop) : Prop :=
 optW (boxV a1 s) fun v0 s1 =>
 let k2 : St → Prop := (fun s3 =>
 optP (faV v0 3 1 false) s3 fun v4 s5 =>
 optP (ldV v4 1 false s5) s5 fun v6 s7 =>
 (True) ∧ optP (nilV a0) s7 fun v8 s9 =>
 optP (faV v8 1 2 true) s9 fun v10 s11 =>
 optP (faV v10 0 1 false) s11 fun v12 s13 =>
 optP (ldV v12 1 false s13) s13 fun v14 s15 =>
 (True) ∧ optP (binV .num .lss v6 v14) s15 fun v16 s17 =>
 splitP v16 (
 optP (ldV v0 11 true s17) s17 fun v18 s19 =>
 ACalls E 54 [a0, v18] s19 fun v20 s21 =>
 K (.tup []) s21) (
 optP (faV v0 0 1 false) s17 fun v22 s23 =>
 optP (ldV v22 1 false s23) s23 fun v24 s25 =>
 optP (binV .num .eql v24 (.n .i64 3)) s25 fun v26 s27 =>
 splitP v26 (
 let k28 : St → Prop := (fun s29 =>
 let k30 : St → Prop := (fun s31 =>
 optP (faV v0 1 1 false) s31 fun v32 s33 =>
 optP (ldV v32 1 false s33) s33 fun v34 s35 =>
 (True) ∧ optP (nilV a0) s35 fun v36 s37 =>
 optP (faV v36 1 2 true) s37 fun v38 s39 =>
 optP (faV v38 0 1 false) s39 fun v40 s41 =>
 optP (ldV v40 1 false s41) s41 fun v42 s43 =>
 (True) ∧ splitP (.b true) (
 optP (buildV [.n .i64 0, .n .i64 0, .n .i64 0, .n .i64 0, .n .i64 0, .n .i64 0, .n .i64 0, .b false, .l 4 [] .nil, .l 1 [] .nil, .l 1 [] .nil] [(0, 1, (.n .i64 4)), (2, 1, v34), (3, 1, v42), (7, 1, (.b true))]) s43 fun v44 s45 =>
 ACalls E 50 [a0, v44] s45 fun v46 s47 =>
 (True) ∧ K (.tup []) s47) (
 optP (buildV [.n .i64 0, .n .i64 0, .n .i64 0, .n .i64 0, .n .i64 0, .n .i64 0, .n .i64 0, .b false, .l 4 [] .nil, .l 1 [] .nil, .l 1 [] .nil] [(0, 1, (.n .i64 4)), (2, 1, v34), (3, 1, v42), (7, 1, (.b false))]) s43 fun v48 s49 =>
 ACalls E 50 [a0, v48] s49 fun v50 s51 =>
 (True) ∧ K (.tup []) s51));
 splitP (.b true) (
 optP (faV v0 1 1 false) s29 fun v52 s53 =>
 optP (ldV v52 1 false s53) s53 fun v54 s55 =>
 optP (nilV a0) s55 fun v56 s57 =>
 optP (faV v56 1 2 true) s57 fun v58 s59 =>
 optP (faV v58 1 1 false) s59 fun v60 s61 =>
 optW (storeV v60 v54 1 s61) fun v62 s63 =>
 ACalls E 55 [a0, (.n .i64 0), (.n .i64 0), (.l 1 [] .nil)] s63 fun v64 s65 =>
 k30 s65) (
 k30 s29));
 let k66 : St → Prop := (fun s67 =>
 let k68 : St → Prop := (fun s69 =>
 optP (faV v0 1 1 false) s69 fun v70 s71 =>
 optP (ldV v70 1 false s71) s71 fun v72 s73 =>
 (True) ∧ optP (nilV a0) s73 fun v74 s75 =>
 optP (faV v74 1 2 true) s75 fun v76 s77 =>
 optP (faV v76 0 1 false) s77 fun v78 s79 =>
 optP (ldV v78 1 false s79) s79 fun v80 s81 =>
 (True) ∧ splitP (.b false) (
 optP (buildV [.n .i64 0, .n .i64 0, .n .i64 0, .n .i64 0, .n .i64 0, .n .i64 0, .n .i64 0, .b false, .l 4 [] .nil, .l 1 [] .nil, .l 1 [] .nil] [(0, 1, (.n .i64 4)), (2, 1, v72), (3, 1, v80), (7, 1, (.b true))]) s81 fun v82 s83 =>
 ACalls E 50 [a0, v82] s83 fun v84 s85 =>
 (True) ∧ K (.tup []) s85) (
 optP (buildV [.n .i64 0, .n .i64 0, .n .i64 0, .n .i64 0, .n .i64 0, .n .i64 0, .n .i64 0, .b false, .l 4 [] .nil, .l 1 [] .nil, .l 1 [] .nil] [(0, 1, (.n .i64 4)), (2, 1, v72), (3, 1, v80), (7, 1, (.b false))]) s81 fun v86 s87 =>
 ACalls E 50 [a0, v86] s87 fun v88 s89 =>
 (True) ∧ K (.tup []) s89));
 splitP (.b false) (
 optP (faV v0 1 1 false) s67 fun v90 s91 =>
 optP (ldV v90 1 false s91) s91 fun v92 s93 =>
 optP (nilV a0) s93 fun v94 s95 =>
 optP (faV v94 1 2 true) s95 fun v96 s97 =>
 optP (faV v96 1 1 false) s97 fun v98 s99 =>
 optW (storeV v98 v92 1 s99) fun v100 s101 =>
 ACalls E 55 [a0, (.n .i64 0), (.n .i64 0), (.l 1 [] .nil)] s101 fun v102 s103 =>
 k68 s103) (
 k68 s67));
 optP (nilV a0) s27 fun v104 s105 =>
 optP (faV v104 1 2 true) s105 fun v106 s107 =>
 optP (faV v106 1 1 false) s107 fun v108 s109 =>
 optP (ldV v108 1 false s109) s109 fun v110 s111 =>
 (True) ∧ optP (binV .num .eql v110 (.n .i64 0)) s111 fun v112 s113 =>
 splitP v112 (
 (True) ∧ (True) ∧ optP (nilV a0) s113 fun v114 s115 =>
 optP (faV v114 4 1 false) s115 fun v116 s117 =>
 optP (ldV v116 1 false s117) s117 fun v118 s119 =>
 (True) ∧ optP (binV .num .eql v118 (.n .i64 0)) s119 fun v120 s121 =>
 splitP v120 (
 optP (nilV a0) s121 fun v122 s123 =>
 optP (faV v122 5 1 false) s123 fun v124 s125 =>
 optP (ldV v124 1 false s125) s125 fun v126 s127 =>
 (True) ∧ optP (faV v0 4 1 false) s127 fun v128 s129 =>
 optP (ldV v128 1 false s129) s129 fun v130 s131 =>
 (True) ∧ optP (faV v0 5 1 false) s131 fun v132 s133 =>
 optP (ldV v132 1 false s133) s133 fun v134 s135 =>
 (True) ∧ ACalls E 49 [v126, v130, v134] s135 fun v136 s137 =>
 splitP v136 (
 (True) ∧ k28 s137) (
 (True) ∧ k66 s137)) (
 (True) ∧ (True) ∧ (True) ∧ (True) ∧ k66 s121)) (
 optP (nilV a0) s113 fun v138 s139 =>
 optP (faV v138 1 2 true) s139 fun v140 s141 =>
 optP (faV v140 1 1 false) s141 fun v142 s143 =>
 optP (ldV v142 1 false s143) s143 fun v144 s145 =>
 (True) ∧ optP (faV v0 1 1 false) s145 fun v146 s147 =>
 optP (ldV v146 1 false s147) s147 fun v148 s149 =>
 (True) ∧ optP (binV .num .eql v144 v148) s149 fun v150 s151 =>
 splitP v150 (
 optP (nilV a0) s151 fun v152 s153 =>
 optP (faV v152 4 1 false) s153 fun v154 s155 =>
 optP (ldV v154 1 false s155) s155 fun v156 s157 =>
 (True) ∧ optP (binV .num .eql v156 (.n .i64 0)) s157 fun v158 s159 =>
 splitP v158 (
 optP (nilV a0) s159 fun v160 s161 =>
 optP (faV v160 5 1 false) s161 fun v162 s163 =>
 optP (ldV v162 1 false s163) s163 fun v164 s165 =>
 (True) ∧ optP (faV v0 4 1 false) s165 fun v166 s167 =>
 optP (ldV v166 1 false s167) s167 fun v168 s169 =>
 (True) ∧ optP (faV v0 5 1 false) s169 fun v170 s171 =>
 optP (ldV v170 1 false s171) s171 fun v172 s173 =>
 (True) ∧ ACalls E 49 [v164, v168, v172] s173 fun v174 s175 =>
 splitP v174 (
 (True) ∧ k28 s175) (
 (True) ∧ k66 s175)) (
 (True) ∧ (True) ∧ (True) ∧ (True) ∧ k66 s159)) (
 (True) ∧ (True) ∧ (True) ∧ (True) ∧ (True) ∧ k66 s151))) (
 optP (binV .num .eql v24 (.n .i64 4)) s27 fun v176 s177 =>
 splitP v176 (
 let k178 : St → Prop := (fun s179 =>
 K (.tup []) s179);
 optP (faV v0 7 1 false) s177 fun v180 s181 =>
 optP (ldV v180 1 false s181) s181 fun v182 s183 =>
 splitP v182 (
 optP (nilV a0) s183 fun v184 s185 =>
 optP (faV v184 3 1 false) s185 fun v186 s187 =>
 optP (ldV v186 1 false s187) s187 fun v188 s189 =>
 optP (binV .num .eql v188 (.n .i64 2)) s189 fun v190 s191 =>
 splitP v190 (
 optP (nilV a0) s191 fun v192 s193 =>
 optP (faV v192 11 1 false) s193 fun v194 s195 =>
 optP (ldV v194 1 false s195) s195 fun v196 s197 =>
 (True) ∧ optP (faV v0 1 1 false) s197 fun v198 s199 =>
 optP (ldV v198 1 false s199) s199 fun v200 s201 =>
 (True) ∧ optP (mksV 1 [v200]) s201 fun v202 s203 =>
 optW (appV v196 v202 1 8 s203) fun v204 s205 =>
 (True) ∧ optP (nilV a0) s205 fun v206 s207 =>
 optP (faV v206 11 1 false) s207 fun v208 s209 =>
 optW (storeV v208 v204 1 s209) fun v210 s211 =>
 (True) ∧ ACalls E 52 [a0] s211 fun v212 s213 =>
 splitP v212 (
 ACalls E 56 [a0] s213 fun v214 s215 =>
 K (.tup []) s215) (
 K (.tup []) s213)) (
 k178 s191)) (
 k178 s183)) (
 let k216 : St → Prop := (fun s217 =>
 optP (nilV a0) s217 fun v218 s219 =>
 optP (faV v218 3 1 false) s219 fun v220 s221 =>
 optP (ldV v220 1 false s221) s221 fun v222 s223 =>
 optP (binV .num .neq v222 (.n .i64 3)) s223 fun v224 s225 =>
 splitP v224 (
 optP (nilV a0) s225 fun v226 s227 =>
 optP (faV v226 1 2 true) s227 fun v228 s229 =>
 optP (faV v228 0 1 false) s229 fun v230 s231 =>
 optP (ldV v230 1 false s231) s231 fun v232 s233 =>
 (True) ∧ optP (faV v0 1 1 false) s233 fun v234 s235 =>
 optP (ldV v234 1 false s235) s235 fun v236 s237 =>
 (True) ∧ ACalls E 51 [a0, v232, v236] s237 fun v238 s239 =>
 (True) ∧ optP (ldV v0 11 true s239) s239 fun v240 s241 =>
 ACalls E 57 [a0, v240] s241 fun v242 s243 =>
 K (.tup []) s243) (
 K (.tup []) s225));
 optP (binV .num .eql v24 (.n .i64 5)) s177 fun v244 s245 =>
 splitP v244 (
 k216 s245) (
 optP (binV .num .eql v24 (.n .i64 7)) s245 fun v246 s247 =>
 splitP v246 (
 k216 s247) (
 let k248 : St → Prop := (fun s249 =>
 let k250 : St → Prop := (fun s251 =>
 K (.tup []) s251);
 optP (nilV a0) s249 fun v252 s253 =>
 optP (faV v252 3 1 false) s253 fun v254 s255 =>
 optP (ldV v254 1 false s255) s255 fun v256 s257 =>
 (True) ∧ optP (binV .num .eql v256 (.n .i64 3)) s257 fun v258 s259 =>
 splitP v258 (
 optP (faV v0 4 1 false) s259 fun v260 s261 =>
 optP (ldV v260 1 false s261) s261 fun v262 s263 =>
 (True) ∧ optP (nilV a0) s263 fun v264 s265 =>
 optP (faV v264 5 1 false) s265 fun v266 s267 =>
 optP (ldV v266 1 false s267) s267 fun v268 s269 =>
 (True) ∧ ACalls E 22 [v268] s269 fun v270 s271 =>
 (ldV v260 1 false s271 = some v262 ∧ True) ∧ optP (binV .num .leq v262 v270) s271 fun v272 s273 =>
 splitP v272 (
 optP (ldV v0 11 true s273) s273 fun v274 s275 =>
 ACalls E 58 [a0, v274] s275 fun v276 s277 =>
 K (.tup []) s277) (
 k250 s273)) (
 (True) ∧ (True) ∧ ((some (.tup []) : Option V) = some (.tup []) ∧ True) ∧ k250 s259));
 optP (binV .num .eql v24 (.n .i64 6)) s247 fun v278 s279 =>
 splitP v278 (
 k248 s279) (
 optP (binV .num .eql v24 (.n .i64 8)) s279 fun v280 s281 =>
 splitP v280 (
 k248 s281) (
 K (.tup []) s281))))))));
 optP (faV v0 3 1 false) s1 fun v282 s283 =>
 optP (ldV v282 1 false s283) s283 fun v284 s285 =>
 (True) ∧ optP (nilV a0) s285 fun v286 s287 =>
 optP (faV v286 1 2 true) s287 fun v288 s289 =>
 optP (faV v288 0 1 false) s289 fun v290 s291 =>
 optP (ldV v290 1 false s291) s291 fun v292 s293 =>
 (True) ∧ optP (binV .num .gtr v284 v292) s293 fun v294 s295 =>
 splitP v294 (
 optP (faV v0 3 1 false) s295 fun v296 s297 =>
 optP (ldV v296 1 false s297) s297 fun v298 s299 =>
 ACalls E 51 [a0, v298, (.n .i64 0)] s299 fun v300 s301 =>
 k2 s301) (
 k2 s295)
theorem e_raft_Raft_take (E : Env) (a0 a1 : V) (s : St) (K : V → St → Prop) : axF E c_raft_Raft_take [a0, a1] s K = p_raft_Raft_take E a0 a1 s K := by kernel_rfl
theorem g_raft_Raft_take {E : Env} {a0 a1 : V} {s : St} {K : V → St → Prop} (h : chkF E.P E.m (E.m 30) c_raft_Raft_take = true) (hp : p_raft_Raft_take E a0 a1 s K) : ACalls E 30 [a0, a1] s K :=
  acalls h rfl (by rw [e_raft_Raft_take]; exact hp)

end Go.Ab

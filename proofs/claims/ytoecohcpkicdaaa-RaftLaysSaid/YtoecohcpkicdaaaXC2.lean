/-
  The program's code, resolved, and its shallow form (printed by a program). No condition.
-/
import Derived.Test.YtoecohcpkicdaaaXC
import Derived.Test.YtoecohcpkicdaaaXCl
import Derived.KernelRfl
set_option linter.unusedVariables false
set_option linter.unusedSimpArgs false
set_option linter.unnecessarySimpa false
namespace Go.Ab
/-- strongroom/strongroomref19.same -/
def c_strongroomref19_same : AFunc := .mk 2 26 [.t 4] <|
  .seq (.reg [q 4 (.mv (.c (.b false)))]) <|
  .seq (.seq (.reg [q 6 (.mv (.t 0)), q 7 (.len (.t 6)), q 8 (.mv (.t 1)), q 9 (.len (.t 8)), qs 10 (.bin .num .neq (.t 7) (.t 9))]) <|
  .cond (.t 10) (.seq (.reg [q 4 (.mv (.c (.b false)))]) <|
  .ret) <|
  .skip) <|
  .seq (.seq (.reg [q 5 (.mv (.c (.n .i64 0)))]) <|
  .block 0 <|
  .loop [5] [0, 1] <|
  .seq (.seq (.reg [q 11 (.mv (.t 5)), q 12 (.mv (.t 0)), q 13 (.len (.t 12)), qs 14 (.bin .num .lss (.t 11) (.t 13))]) <|
  .cond (.t 14) (.skip) <|
  .exit 0) <|
  .seq (.block 1 <|
  .seq (.draw [qd (some 17) false [] (.mv (.t 0)), qd (some 18) false [] (.mv (.t 5)), qd (some 19) false [0, 1] (.ias (.t 17) (.t 18) 1), qd (some 20) false [0, 1, 2] (.load (.t 19) 1 false), qd (some 21) false [] (.mv (.t 1)), qd (some 22) false [] (.mv (.t 5)), qd (some 23) false [4, 5] (.ias (.t 21) (.t 22) 1), qd (some 24) false [4, 5, 6] (.load (.t 23) 1 false), qd (some 25) true [0, 1, 2, 3, 4, 5, 6, 7] (.bin .num .neq (.t 20) (.t 24))]) <|
  .cond (.t 25) (.seq (.reg [q 4 (.mv (.c (.b false)))]) <|
  .ret) <|
  .skip) <|
  .reg [q 15 (.mv (.t 5)), q 16 (.bin .num .add (.t 15) (.c (.n .i64 1))), q 5 (.mv (.t 16))]) <|
  .seq (.reg [q 4 (.mv (.c (.b true)))]) <|
  .ret

/-- strongroom/strongroomref19.same -/
def p_strongroomref19_same (E : Env) (a0 a1 : V) (s : St) (K : V → St → Prop) : Prop :=
 optP (lenV a0) s fun v0 s1 =>
 optP (lenV a1) s1 fun v2 s3 =>
 optP (binV .num .neq v0 v2) s3 fun v4 s5 =>
 splitP v4 (
 K (.b false) s5) (
 ∃ I6 : Nat → List V → St → Prop, (∃ n7, I6 n7 [(.n .i64 0)] s5) ∧ ∀ n7, ∀ x9 : V, ∀ s8, I6 n7 [x9] s8 →
 optP (lenV a0) s8 fun v11 s12 =>
 optP (binV .num .lss x9 v11) s12 fun v13 s14 =>
 splitP v13 (
 optP (iasV a0 x9 1) s14 fun v15 s16 =>
 optP (ldV v15 1 false s16) s16 fun v17 s18 =>
 (True) ∧ optP (iasV a1 x9 1) s18 fun v19 s20 =>
 optP (ldV v19 1 false s20) s20 fun v21 s22 =>
 (True) ∧ optP (binV .num .neq v17 v21) s22 fun v23 s24 =>
 splitP v23 (
 K (.b false) s24) (
 optP (binV .num .add x9 (.n .i64 1)) s24 fun v25 s26 =>
 (a0 : V) = a0 ∧ (a1 : V) = a1 ∧ ∃ n10, n10 < n7 ∧ I6 n10 [v25] s26)) (
 K (.b true) s14))
theorem e_strongroomref19_same (E : Env) (a0 a1 : V) (s : St) (K : V → St → Prop) : axF E c_strongroomref19_same [a0, a1] s K = p_strongroomref19_same E a0 a1 s K := by kernel_rfl
theorem g_strongroomref19_same {E : Env} {a0 a1 : V} {s : St} {K : V → St → Prop} (h : chkF E.P E.m (E.m 31) c_strongroomref19_same = true) (hp : p_strongroomref19_same E a0 a1 s K) : ACalls E 31 [a0, a1] s K :=
  acalls h rfl (by rw [e_strongroomref19_same]; exact hp)

/-- strongroom/raft.within -/
def c_raft_within : AFunc := .mk 3 12 [.t 6] <|
  .seq (.reg [q 6 (.mv (.c (.n .i64 0)))]) <|
  .seq (.reg [q 7 (.mv (.t 1)), q 8 (.mv (.t 0)), q 9 (.mv (.t 2)), q 10 (.mn [(.t 8), (.t 9)]), q 11 (.mx [(.t 7), (.t 10)]), q 6 (.mv (.t 11))]) <|
  .ret

/-- strongroom/raft.within -/
def p_raft_within (E : Env) (a0 a1 a2 : V) (s : St) (K : V → St → Prop) : Prop :=
 optP (minV [a0, a2]) s fun v0 s1 =>
 optP (maxV [a1, v0]) s1 fun v2 s3 =>
 K v2 s3
theorem e_raft_within (E : Env) (a0 a1 a2 : V) (s : St) (K : V → St → Prop) : axF E c_raft_within [a0, a1, a2] s K = p_raft_within E a0 a1 a2 s K := by kernel_rfl
theorem g_raft_within {E : Env} {a0 a1 a2 : V} {s : St} {K : V → St → Prop} (h : chkF E.P E.m (E.m 32) c_raft_within = true) (hp : p_raft_within E a0 a1 a2 s K) : ACalls E 32 [a0, a1, a2] s K :=
  acalls h rfl (by rw [e_raft_within]; exact hp)

/-- strongroom/entries.New -/
def c_entries_New : AFunc := .mk 3 15 [.t 6] <|
  .seq (.reg [q 6 (.mv (.c (.nilp)))]) <|
  .seq (.reg [q 7 (.mv (.t 0)), q 8 (.mn [(.t 7), (.c (.n .i64 1099511627776))]), q 9 (.mx [(.c (.n .i64 0)), (.t 8)]), q 10 (.mv (.t 1)), q 11 (.mv (.t 2)), q 12 (.call 59 [(.t 11)]), q 13 (.build [.n .i64 0, .n .i64 0, .l 4 [] .nil] [(0, 1, (.t 9)), (1, 1, (.t 10)), (2, 1, (.t 12))]), q 14 (.box (.t 13)), q 6 (.mv (.t 14))]) <|
  .ret

/-- strongroom/entries.New -/
def p_entries_New (E : Env) (a0 a1 a2 : V) (s : St) (K : V → St → Prop) : Prop :=
 optP (minV [a0, (.n .i64 1099511627776)]) s fun v0 s1 =>
 optP (maxV [(.n .i64 0), v0]) s1 fun v2 s3 =>
 ACalls E 59 [a2] s3 fun v4 s5 =>
 optP (buildV [.n .i64 0, .n .i64 0, .l 4 [] .nil] [(0, 1, v2), (1, 1, a1), (2, 1, v4)]) s5 fun v6 s7 =>
 optW (boxV v6 s7) fun v8 s9 =>
 K v8 s9
theorem e_entries_New (E : Env) (a0 a1 a2 : V) (s : St) (K : V → St → Prop) : axF E c_entries_New [a0, a1, a2] s K = p_entries_New E a0 a1 a2 s K := by kernel_rfl
theorem g_entries_New {E : Env} {a0 a1 a2 : V} {s : St} {K : V → St → Prop} (h : chkF E.P E.m (E.m 33) c_entries_New = true) (hp : p_entries_New E a0 a1 a2 s K) : ACalls E 33 [a0, a1, a2] s K :=
  acalls h rfl (by rw [e_entries_New]; exact hp)

/-- strongroom/raft.own -/
def c_raft_own : AFunc := .mk 1 12 [.cell 2 4 true] <|
  .seq (.reg [q 1 (.box (.t 0)), q 2 (.alloc [.n .i64 0, .n .i64 0, .l 1 [] .nil, .l 1 [] .nil])]) <|
  .seq (.draw [qd (some 3) false [] (.fa (.t 1) 2 1 false), qd (some 4) false [0] (.load (.t 3) 1 false), qd (some 5) false [0, 1] (.call 23 [(.t 4)]), qd (some 6) false [] (.fa (.t 1) 3 1 false), qd (some 7) false [3] (.load (.t 6) 1 false), qd (some 8) false [0, 1, 2, 3, 4] (.call 60 [(.t 7)]), qd (some 9) false [0, 1, 2, 3, 4] (.fa (.t 1) 2 1 false), qd none false [0, 1, 2, 3, 4, 5, 6] (.store (.t 9) (.t 5) 1), qd (some 10) false [0, 1, 2, 3, 4, 5, 6, 7] (.fa (.t 1) 3 1 false), qd none false [0, 1, 2, 3, 4, 5, 6, 7, 8] (.store (.t 10) (.t 8) 1)]) <|
  .seq (.reg [q 11 (.load (.t 1) 4 true), qn (.store (.t 2) (.t 11) 4)]) <|
  .ret

/-- strongroom/raft.own -/
def p_raft_own (E : Env) (a0 : V) (s : St) (K : V → St → Prop) : Prop :=
 optW (boxV a0 s) fun v0 s1 =>
 optW (allocW [.n .i64 0, .n .i64 0, .l 1 [] .nil, .l 1 [] .nil] s1) fun v2 s3 =>
 optP (faV v0 2 1 false) s3 fun v4 s5 =>
 optP (ldV v4 1 false s5) s5 fun v6 s7 =>
 (True) ∧ ACalls E 23 [v6] s7 fun v8 s9 =>
 (True) ∧ optP (faV v0 3 1 false) s9 fun v10 s11 =>
 optP (ldV v10 1 false s11) s11 fun v12 s13 =>
 (ldV v10 1 false s7 = some v12 ∧ True) ∧ ACalls E 60 [v12] s13 fun v14 s15 =>
 (True) ∧ optP (faV v0 2 1 false) s15 fun v16 s17 =>
 optW (storeV v16 v8 1 s17) fun v18 s19 =>
 (True) ∧ optP (faV v0 3 1 false) s19 fun v20 s21 =>
 optW (storeV v20 v14 1 s21) fun v22 s23 =>
 (True) ∧ optP (ldV v0 4 true s23) s23 fun v24 s25 =>
 optW (storeV v2 v24 4 s25) fun v26 s27 =>
 optP (ldV v2 4 true s27) s27 fun v28 _ =>
 K v28 s27
theorem e_raft_own (E : Env) (a0 : V) (s : St) (K : V → St → Prop) : axF E c_raft_own [a0] s K = p_raft_own E a0 s K := by kernel_rfl
theorem g_raft_own {E : Env} {a0 : V} {s : St} {K : V → St → Prop} (h : chkF E.P E.m (E.m 34) c_raft_own = true) (hp : p_raft_own E a0 s K) : ACalls E 34 [a0] s K :=
  acalls h rfl (by rw [e_raft_own]; exact hp)

/-- strongroom/quorum.Check -/
def c_quorum_Check : AFunc := .mk 1 23 [.t 2] <|
  .seq (.reg [q 2 (.mv (.c (.n .i64 0)))]) <|
  .seq (.reg [q 3 (.mv (.c (.n .i64 0)))]) <|
  .seq (.seq (.reg [q 6 (.mv (.t 0)), q 7 (.len (.t 6)), q 8 (.mv (.c (.n .i64 0)))]) <|
  .block 0 <|
  .loop [3, 8] [6, 7] <|
  .seq (.reg [qs 9 (.bin .num .lss (.t 8) (.t 7))]) <|
  .seq (.cond (.t 9) (.skip) <|
  .exit 0) <|
  .seq (.block 1 <|
  .seq (.reg [q 10 (.ias (.t 6) (.t 8) 1), q 11 (.load (.t 10) 1 false), q 5 (.mv (.t 11))]) <|
  .seq (.seq (.reg [q 12 (.mv (.t 5)), q 13 (.mv (.t 3)), qs 14 (.bin .num .leq (.t 12) (.t 13)), q 15 (.mv (.t 14)), qg 16 false 15 false (.mv (.t 5)), qg 17 true 15 false (.bin .num .gtr (.t 16) (.c (.n .i64 7))), q 18 (.pick (.t 15) (.c (.b true)) (.t 17))]) <|
  .cond (.t 18) (.seq (.reg [q 2 (.mv (.c (.n .i64 192)))]) <|
  .ret) <|
  .skip) <|
  .reg [q 19 (.mv (.t 5)), q 3 (.mv (.t 19))]) <|
  .reg [q 20 (.bin .num .add (.t 8) (.c (.n .i64 1))), q 8 (.mv (.t 20))]) <|
  .seq (.seq (.reg [q 21 (.mv (.t 3)), qs 22 (.bin .num .eql (.t 21) (.c (.n .i64 0)))]) <|
  .cond (.t 22) (.seq (.reg [q 2 (.mv (.c (.n .i64 192)))]) <|
  .ret) <|
  .skip) <|
  .seq (.reg [q 2 (.mv (.c (.n .i64 0)))]) <|
  .ret

/-- strongroom/quorum.Check -/
def p_quorum_Check (E : Env) (a0 : V) (s : St) (K : V → St → Prop) : Prop :=
 optP (lenV a0) s fun v0 s1 =>
 ∃ I2 : Nat → List V → St → Prop, (∃ n3, I2 n3 [(.n .i64 0), (.n .i64 0)] s1) ∧ ∀ n3, ∀ x5 : V, ∀ x6 : V, ∀ s4, I2 n3 [x5, x6] s4 →
 optP (binV .num .lss x6 v0) s4 fun v8 s9 =>
 splitP v8 (
 optP (iasV a0 x6 1) s9 fun v10 s11 =>
 optP (ldV v10 1 false s11) s11 fun v12 s13 =>
 let k14 : St → Prop := (fun s15 =>
 K (.n .i64 192) s15);
 optP (binV .num .leq v12 x5) s13 fun v16 s17 =>
 splitP v16 (
 k14 s17) (
 optP (binV .num .gtr v12 (.n .i64 7)) s17 fun v18 s19 =>
 splitP v18 (
 k14 s19) (
 optP (binV .num .add x6 (.n .i64 1)) s19 fun v20 s21 =>
 (a0 : V) = a0 ∧ (v0 : V) = v0 ∧ ∃ n7, n7 < n3 ∧ I2 n7 [v12, v20] s21))) (
 optP (binV .num .eql x5 (.n .i64 0)) s9 fun v22 s23 =>
 splitP v22 (
 K (.n .i64 192) s23) (
 K (.n .i64 0) s23))
theorem e_quorum_Check (E : Env) (a0 : V) (s : St) (K : V → St → Prop) : axF E c_quorum_Check [a0] s K = p_quorum_Check E a0 s K := by kernel_rfl
theorem g_quorum_Check {E : Env} {a0 : V} {s : St} {K : V → St → Prop} (h : chkF E.P E.m (E.m 35) c_quorum_Check = true) (hp : p_quorum_Check E a0 s K) : ACalls E 35 [a0] s K :=
  acalls h rfl (by rw [e_quorum_Check]; exact hp)

/-- (*strongroom/raft.Raft).Draw -/
def c_raft_Raft_Draw : AFunc := .mk 2 9 [] <|
  .reg [q 4 (.mv (.t 0)), q 5 (.mv (.t 1)), q 6 (.call 32 [(.t 5), (.c (.n .i64 1)), (.c (.n .i64 100))]), q 7 (.nilchk (.t 4)), q 8 (.fa (.t 7) 13 1 false), qn (.store (.t 8) (.t 6) 1)]

/-- (*strongroom/raft.Raft).Draw -/
def p_raft_Raft_Draw (E : Env) (a0 a1 : V) (s : St) (K : V → St → Prop) : Prop :=
 ACalls E 32 [a1, (.n .i64 1), (.n .i64 100)] s fun v0 s1 =>
 optP (nilV a0) s1 fun v2 s3 =>
 optP (faV v2 13 1 false) s3 fun v4 s5 =>
 optW (storeV v4 v0 1 s5) fun v6 s7 =>
 K (.tup []) s7
theorem e_raft_Raft_Draw (E : Env) (a0 a1 : V) (s : St) (K : V → St → Prop) : axF E c_raft_Raft_Draw [a0, a1] s K = p_raft_Raft_Draw E a0 a1 s K := by kernel_rfl
theorem g_raft_Raft_Draw {E : Env} {a0 a1 : V} {s : St} {K : V → St → Prop} (h : chkF E.P E.m (E.m 36) c_raft_Raft_Draw = true) (hp : p_raft_Raft_Draw E a0 a1 s K) : ACalls E 36 [a0, a1] s K :=
  acalls h rfl (by rw [e_raft_Raft_Draw]; exact hp)

/-- (*strongroom/raft.Raft).tick -/
def c_raft_Raft_tick : AFunc := .mk 1 90 [] <|
  .seq (.seq (.draw [qd (some 2) false [] (.mv (.t 0)), qd (some 3) false [0] (.nilchk (.t 2)), qd (some 4) false [0, 1] (.fa (.t 3) 3 1 false), qd (some 5) false [0, 1, 2] (.load (.t 4) 1 false), qd (some 6) true [0, 1, 2, 3] (.bin .num .neq (.t 5) (.c (.n .i64 3))), qd (some 7) false [0, 1, 2, 3, 4] (.mv (.t 6)), qdg (some 8) false 7 true [0, 1, 2, 3, 4, 5] (.mv (.t 0)), qdg (some 9) false 7 true [0, 1, 2, 3, 4, 5, 6] (.call 24 [(.t 8)]), qdg (some 10) false 7 true [0, 1, 2, 3, 4, 5] (.mv (.t 0)), qdg (some 11) false 7 true [0, 1, 2, 3, 4, 5, 8] (.nilchk (.t 10)), qdg (some 12) false 7 true [0, 1, 2, 3, 4, 5, 8, 9] (.fa (.t 11) 0 1 false), qdg (some 13) false 7 true [0, 1, 2, 3, 4, 5, 8, 9, 10] (.load (.t 12) 1 false), qdg (some 14) true 7 true [0, 1, 2, 3, 4, 5, 6, 7, 8, 9, 10, 11] (.call 61 [(.t 9), (.t 13)]), qdg (some 15) false 7 true [0, 1, 2, 3, 4, 5, 6, 7, 8, 9, 10, 11, 12] (.un .not (.t 14)), qd (some 16) false [0, 1, 2, 3, 4, 5, 6, 7, 8, 9, 10, 11, 12, 13] (.pick (.t 7) (.t 15) (.c (.b false)))]) <|
  .cond (.t 16) (.ret) <|
  .skip) <|
  .seq (.reg [q 17 (.mv (.t 0)), q 18 (.nilchk (.t 17)), q 19 (.fa (.t 18) 12 1 false), q 20 (.load (.t 19) 1 false), q 21 (.bin .num .add (.t 20) (.c (.n .i64 1))), q 22 (.nilchk (.t 17)), q 23 (.fa (.t 22) 12 1 false), qn (.store (.t 23) (.t 21) 1)]) <|
  .block 0 <|
  .seq (.reg [q 44 (.mv (.t 0)), q 45 (.nilchk (.t 44)), q 46 (.fa (.t 45) 3 1 false), q 47 (.load (.t 46) 1 false), qs 48 (.bin .num .eql (.t 47) (.c (.n .i64 3))), q 49 (.mv (.t 48)), qg 50 false 49 true (.mv (.t 0)), qg 51 false 49 true (.nilchk (.t 50)), qg 52 false 49 true (.fa (.t 51) 12 1 false), qg 53 false 49 true (.load (.t 52) 1 false), qg 54 true 49 true (.bin .num .geq (.t 53) (.c (.n .i64 2))), q 55 (.pick (.t 49) (.t 54) (.c (.b false))), q 43 (.mv (.t 55))]) <|
  .cond (.t 43) (.seq (.reg [q 56 (.mv (.t 0)), q 57 (.nilchk (.t 56)), q 58 (.fa (.t 57) 12 1 false), qn (.store (.t 58) (.c (.n .i64 0)) 1)]) <|
  .reg [q 59 (.mv (.t 0)), q 60 (.mv (.t 0)), q 61 (.mkf 63 [(.t 60)] []), q 62 (.call 62 [(.t 59), (.t 61)])]) <|
  .seq (.draw [qd (some 64) false [] (.mv (.t 0)), qd (some 65) false [0] (.nilchk (.t 64)), qd (some 66) false [0, 1] (.fa (.t 65) 3 1 false), qd (some 67) false [0, 1, 2] (.load (.t 66) 1 false), qd (some 68) true [0, 1, 2, 3] (.bin .num .eql (.t 67) (.c (.n .i64 3))), qd (some 69) false [0, 1, 2, 3, 4] (.mv (.t 68)), qdg (some 70) false 69 false [0, 1, 2, 3, 4, 5] (.mv (.t 0)), qdg (some 71) false 69 false [0, 1, 2, 3, 4, 5, 6] (.nilchk (.t 70)), qdg (some 72) false 69 false [0, 1, 2, 3, 4, 5, 6, 7] (.fa (.t 71) 12 1 false), qdg (some 73) false 69 false [0, 1, 2, 3, 4, 5, 6, 7, 8] (.load (.t 72) 1 false), qdg (some 74) false 69 false [0, 1, 2, 3, 4, 5] (.mv (.t 0)), qdg (some 75) false 69 false [0, 1, 2, 3, 4, 5, 10] (.nilchk (.t 74)), qdg (some 76) false 69 false [0, 1, 2, 3, 4, 5, 10, 11] (.fa (.t 75) 13 1 false), qdg (some 77) false 69 false [0, 1, 2, 3, 4, 5, 10, 11, 12] (.load (.t 76) 1 false), qdg (some 78) true 69 false [0, 1, 2, 3, 4, 5, 6, 7, 8, 9, 10, 11, 12, 13] (.bin .num .lss (.t 73) (.t 77)), qd (some 79) false [0, 1, 2, 3, 4, 5, 6, 7, 8, 9, 10, 11, 12, 13, 14] (.pick (.t 69) (.c (.b true)) (.t 78)), qd (some 63) false [0, 1, 2, 3, 4, 5, 6, 7, 8, 9, 10, 11, 12, 13, 14, 15] (.mv (.t 79))]) <|
  .cond (.t 63) (.skip) <|
  .seq (.reg [q 81 (.mv (.t 0)), q 82 (.nilchk (.t 81)), q 83 (.fa (.t 82) 1 2 true), q 84 (.fa (.t 83) 0 1 false), q 85 (.load (.t 84) 1 false), qs 86 (.bin .num .geq (.t 85) (.c (.n .i64 1099511627776))), q 80 (.mv (.t 86))]) <|
  .cond (.t 80) (.reg [q 87 (.mv (.t 0)), q 88 (.nilchk (.t 87)), q 89 (.fa (.t 88) 12 1 false), qn (.store (.t 89) (.c (.n .i64 0)) 1)]) <|
  .seq (.reg [q 24 (.mv (.t 0)), q 25 (.mv (.t 0)), q 26 (.nilchk (.t 25)), q 27 (.fa (.t 26) 0 1 false), q 28 (.load (.t 27) 1 false), q 29 (.mks 1 [(.t 28)]), q 30 (.call 55 [(.t 24), (.c (.n .i64 1)), (.c (.n .i64 0)), (.t 29)])]) <|
  .seq (.seq (.reg [q 31 (.mv (.t 0)), qs 32 (.call 52 [(.t 31)])]) <|
  .cond (.t 32) (.seq (.reg [q 33 (.mv (.t 0)), q 34 (.call 53 [(.t 33)])]) <|
  .ret) <|
  .skip) <|
  .reg [q 35 (.mv (.t 0)), q 36 (.mv (.t 0)), q 37 (.nilchk (.t 36)), q 38 (.fa (.t 37) 1 2 true), q 39 (.fa (.t 38) 0 1 false), q 40 (.load (.t 39) 1 false), q 41 (.bin .num .add (.t 40) (.c (.n .i64 1))), q 42 (.call 64 [(.t 35), (.c (.n .i64 1)), (.t 41)])]

/-- (*strongroom/raft.Raft).tick -/
def p_raft_Raft_tick (E : Env) (a0 : V) (s : St) (K : V → St → Prop) : Prop :=
 let k0 : St → Prop := (fun s1 =>
 optP (nilV a0) s1 fun v2 s3 =>
 optP (faV v2 12 1 false) s3 fun v4 s5 =>
 optP (ldV v4 1 false s5) s5 fun v6 s7 =>
 optP (binV .num .add v6 (.n .i64 1)) s7 fun v8 s9 =>
 optP (nilV a0) s9 fun v10 s11 =>
 optP (faV v10 12 1 false) s11 fun v12 s13 =>
 optW (storeV v12 v8 1 s13) fun v14 s15 =>
 let k16 : St → Prop := (fun s17 =>
 let k18 : St → Prop := (fun s19 =>
 K (.tup []) s19);
 optP (nilV a0) s17 fun v20 s21 =>
 optP (faV v20 3 1 false) s21 fun v22 s23 =>
 optP (ldV v22 1 false s23) s23 fun v24 s25 =>
 (True) ∧ optP (binV .num .eql v24 (.n .i64 3)) s25 fun v26 s27 =>
 splitP v26 (
 (True) ∧ (True) ∧ k18 s27) (
 optP (nilV a0) s27 fun v28 s29 =>
 optP (faV v28 12 1 false) s29 fun v30 s31 =>
 optP (ldV v30 1 false s31) s31 fun v32 s33 =>
 (True) ∧ optP (nilV a0) s33 fun v34 s35 =>
 optP (faV v34 13 1 false) s35 fun v36 s37 =>
 optP (ldV v36 1 false s37) s37 fun v38 s39 =>
 (True) ∧ optP (binV .num .lss v32 v38) s39 fun v40 s41 =>
 splitP v40 (
 k18 s41) (
 optP (nilV a0) s41 fun v42 s43 =>
 optP (faV v42 1 2 true) s43 fun v44 s45 =>
 optP (faV v44 0 1 false) s45 fun v46 s47 =>
 optP (ldV v46 1 false s47) s47 fun v48 s49 =>
 optP (binV .num .geq v48 (.n .i64 1099511627776)) s49 fun v50 s51 =>
 splitP v50 (
 optP (nilV a0) s51 fun v52 s53 =>
 optP (faV v52 12 1 false) s53 fun v54 s55 =>
 optW (storeV v54 (.n .i64 0) 1 s55) fun v56 s57 =>
 K (.tup []) s57) (
 optP (nilV a0) s51 fun v58 s59 =>
 optP (faV v58 0 1 false) s59 fun v60 s61 =>
 optP (ldV v60 1 false s61) s61 fun v62 s63 =>
 optP (mksV 1 [v62]) s63 fun v64 s65 =>
 ACalls E 55 [a0, (.n .i64 1), (.n .i64 0), v64] s65 fun v66 s67 =>
 ACalls E 52 [a0] s67 fun v68 s69 =>
 splitP v68 (
 ACalls E 53 [a0] s69 fun v70 s71 =>
 K (.tup []) s71) (
 optP (nilV a0) s69 fun v72 s73 =>
 optP (faV v72 1 2 true) s73 fun v74 s75 =>
 optP (faV v74 0 1 false) s75 fun v76 s77 =>
 optP (ldV v76 1 false s77) s77 fun v78 s79 =>
 optP (binV .num .add v78 (.n .i64 1)) s79 fun v80 s81 =>
 ACalls E 64 [a0, (.n .i64 1), v80] s81 fun v82 s83 =>
 K (.tup []) s83)))));
 optP (nilV a0) s15 fun v84 s85 =>
 optP (faV v84 3 1 false) s85 fun v86 s87 =>
 optP (ldV v86 1 false s87) s87 fun v88 s89 =>
 optP (binV .num .eql v88 (.n .i64 3)) s89 fun v90 s91 =>
 splitP v90 (
 optP (nilV a0) s91 fun v92 s93 =>
 optP (faV v92 12 1 false) s93 fun v94 s95 =>
 optP (ldV v94 1 false s95) s95 fun v96 s97 =>
 optP (binV .num .geq v96 (.n .i64 2)) s97 fun v98 s99 =>
 splitP v98 (
 optP (nilV a0) s99 fun v100 s101 =>
 optP (faV v100 12 1 false) s101 fun v102 s103 =>
 optW (storeV v102 (.n .i64 0) 1 s103) fun v104 s105 =>
 ACalls E 62 [a0, (.f 63 [a0] [])] s105 fun v106 s107 =>
 K (.tup []) s107) (
 k16 s99)) (
 k16 s91));
 optP (nilV a0) s fun v108 s109 =>
 optP (faV v108 3 1 false) s109 fun v110 s111 =>
 optP (ldV v110 1 false s111) s111 fun v112 s113 =>
 (True) ∧ optP (binV .num .neq v112 (.n .i64 3)) s113 fun v114 s115 =>
 splitP v114 (
 ACalls E 24 [a0] s115 fun v116 s117 =>
 (True) ∧ optP (nilV a0) s117 fun v118 s119 =>
 optP (faV v118 0 1 false) s119 fun v120 s121 =>
 optP (ldV v120 1 false s121) s121 fun v122 s123 =>
 (ldV v120 1 false s115 = some v122 ∧ True) ∧ ACalls E 61 [v116, v122] s123 fun v124 s125 =>
 splitP v124 (
 (True) ∧ k0 s125) (
 (True) ∧ K (.tup []) s125)) (
 (True) ∧ ((some (.tup []) : Option V) = some (.tup []) ∧ True) ∧ (True) ∧ k0 s115)
theorem e_raft_Raft_tick (E : Env) (a0 : V) (s : St) (K : V → St → Prop) : axF E c_raft_Raft_tick [a0] s K = p_raft_Raft_tick E a0 s K := by kernel_rfl
theorem g_raft_Raft_tick {E : Env} {a0 : V} {s : St} {K : V → St → Prop} (h : chkF E.P E.m (E.m 37) c_raft_Raft_tick = true) (hp : p_raft_Raft_tick E a0 s K) : ACalls E 37 [a0] s K :=
  acalls h rfl (by rw [e_raft_Raft_tick]; exact hp)

/-- strongroom/wire.Entry -/
def c_wire_Entry : AFunc := .mk 1 45 [.t 2, .t 3] <|
  .seq (.reg [q 1 (.box (.t 0)), q 2 (.mv (.c (.l 1 [] .nil))), q 3 (.mv (.c (.n .i64 0)))]) <|
  .seq (.block 0 <|
  .seq (.seq (.reg [q 7 (.fa (.t 1) 0 1 false), q 8 (.load (.t 7) 1 false), qs 9 (.call 65 [(.t 8), (.c (.n .i64 0)), (.c (.n .i64 1099511627776))]), q 10 (.un .not (.t 9)), q 6 (.mv (.t 10))]) <|
  .cond (.t 6) (.skip) <|
  .seq (.reg [q 11 (.fa (.t 1) 1 1 false), q 12 (.load (.t 11) 1 false), qs 13 (.call 65 [(.t 12), (.c (.n .i64 0)), (.c (.n .i64 2))]), q 14 (.un .not (.t 13)), q 6 (.mv (.t 14))]) <|
  .cond (.t 6) (.skip) <|
  .reg [q 15 (.fa (.t 1) 3 1 false), q 16 (.load (.t 15) 1 false), qs 17 (.call 66 [(.t 16), (.c (.f 67 [] []))]), q 6 (.mv (.t 17))]) <|
  .cond (.t 6) (.seq (.reg [q 2 (.mv (.c (.l 1 [] .nil))), q 3 (.mv (.c (.n .i64 1)))]) <|
  .ret) <|
  .seq (.seq (.reg [q 19 (.fa (.t 1) 2 1 false), q 20 (.load (.t 19) 1 false), q 21 (.len (.t 20)), qs 22 (.bin .num .gtr (.t 21) (.c (.n .i64 4096))), q 18 (.mv (.t 22))]) <|
  .cond (.t 18) (.skip) <|
  .reg [q 23 (.fa (.t 1) 3 1 false), q 24 (.load (.t 23) 1 false), q 25 (.len (.t 24)), qs 26 (.bin .num .gtr (.t 25) (.c (.n .i64 7))), q 18 (.mv (.t 26))]) <|
  .cond (.t 18) (.seq (.reg [q 2 (.mv (.c (.l 1 [] .nil))), q 3 (.mv (.c (.n .i64 2)))]) <|
  .ret) <|
  .skip) <|
  .seq (.draw [qd (some 28) false [] (.fa (.t 1) 0 1 false), qd (some 29) false [0] (.load (.t 28) 1 false), qd (some 30) false [] (.fa (.t 1) 1 1 false), qd (some 31) false [2] (.load (.t 30) 1 false), qd (some 32) false [0, 1, 2, 3] (.mks 1 [(.t 29), (.t 31)]), qd (some 33) false [0, 1, 2, 3, 4] (.call 69 [(.t 32)]), qd (some 34) false [] (.fa (.t 1) 2 1 false), qd (some 35) false [6] (.load (.t 34) 1 false), qd (some 36) false [0, 1, 2, 3, 4, 5, 6, 7] (.call 68 [(.t 33), (.t 35)]), qd (some 27) false [0, 1, 2, 3, 4, 5, 6, 7, 8] (.mv (.t 36)), qd (some 37) false [0, 1, 2, 3, 4, 5, 6, 7, 8, 9] (.ext (.t 27) 0), qd (some 38) false [0, 1, 2, 3, 4, 5, 6, 7, 8, 9] (.ext (.t 27) 1), qd (some 4) false [0, 1, 2, 3, 4, 5, 6, 7, 8, 9, 10] (.mv (.t 37)), qd (some 5) false [0, 1, 2, 3, 4, 5, 6, 7, 8, 9, 10, 11, 12] (.mv (.t 38))]) <|
  .seq (.reg [q 39 (.mv (.t 4)), q 40 (.fa (.t 1) 3 1 false), q 41 (.load (.t 40) 1 false), q 42 (.call 70 [(.t 39), (.t 41)]), q 43 (.ext (.t 42) 0), q 44 (.ext (.t 42) 1), q 2 (.mv (.t 43)), q 3 (.mv (.t 44))]) <|
  .ret

/-- strongroom/wire.Entry -/
def p_wire_Entry (E : Env) (a0 : V) (s : St) (K : V → St → Prop) : Prop :=
 optW (boxV a0 s) fun v0 s1 =>
 let k2 : St → Prop := (fun s3 =>
 K (.tup [(.l 1 [] .nil), (.n .i64 1)]) s3);
 optP (faV v0 0 1 false) s1 fun v4 s5 =>
 optP (ldV v4 1 false s5) s5 fun v6 s7 =>
 ACalls E 65 [v6, (.n .i64 0), (.n .i64 1099511627776)] s7 fun v8 s9 =>
 splitP v8 (
 optP (faV v0 1 1 false) s9 fun v10 s11 =>
 optP (ldV v10 1 false s11) s11 fun v12 s13 =>
 ACalls E 65 [v12, (.n .i64 0), (.n .i64 2)] s13 fun v14 s15 =>
 splitP v14 (
 optP (faV v0 3 1 false) s15 fun v16 s17 =>
 optP (ldV v16 1 false s17) s17 fun v18 s19 =>
 ACalls E 66 [v18, (.f 67 [] [])] s19 fun v20 s21 =>
 splitP v20 (
 k2 s21) (
 let k22 : St → Prop := (fun s23 =>
 K (.tup [(.l 1 [] .nil), (.n .i64 2)]) s23);
 optP (faV v0 2 1 false) s21 fun v24 s25 =>
 optP (ldV v24 1 false s25) s25 fun v26 s27 =>
 optP (lenV v26) s27 fun v28 s29 =>
 optP (binV .num .gtr v28 (.n .i64 4096)) s29 fun v30 s31 =>
 splitP v30 (
 k22 s31) (
 optP (faV v0 3 1 false) s31 fun v32 s33 =>
 optP (ldV v32 1 false s33) s33 fun v34 s35 =>
 optP (lenV v34) s35 fun v36 s37 =>
 optP (binV .num .gtr v36 (.n .i64 7)) s37 fun v38 s39 =>
 splitP v38 (
 k22 s39) (
 optP (faV v0 0 1 false) s39 fun v40 s41 =>
 optP (ldV v40 1 false s41) s41 fun v42 s43 =>
 (True) ∧ optP (faV v0 1 1 false) s43 fun v44 s45 =>
 optP (ldV v44 1 false s45) s45 fun v46 s47 =>
 (True) ∧ optP (mksV 1 [v42, v46]) s47 fun v48 s49 =>
 ACalls E 69 [v48] s49 fun v50 s51 =>
 (True) ∧ optP (faV v0 2 1 false) s51 fun v52 s53 =>
 optP (ldV v52 1 false s53) s53 fun v54 s55 =>
 (ldV v52 1 false s49 = some v54 ∧ True) ∧ ACalls E 68 [v50, v54] s55 fun v56 s57 =>
 (True) ∧ optP (extV v56 0) s57 fun v58 s59 =>
 optP (extV v56 1) s59 fun v60 s61 =>
 optP (faV v0 3 1 false) s61 fun v62 s63 =>
 optP (ldV v62 1 false s63) s63 fun v64 s65 =>
 ACalls E 70 [v58, v64] s65 fun v66 s67 =>
 optP (extV v66 0) s67 fun v68 s69 =>
 optP (extV v66 1) s69 fun v70 s71 =>
 K (.tup [v68, v70]) s71)))) (
 k2 s15)) (
 k2 s9)
theorem e_wire_Entry (E : Env) (a0 : V) (s : St) (K : V → St → Prop) : axF E c_wire_Entry [a0] s K = p_wire_Entry E a0 s K := by kernel_rfl
theorem g_wire_Entry {E : Env} {a0 : V} {s : St} {K : V → St → Prop} (h : chkF E.P E.m (E.m 38) c_wire_Entry = true) (hp : p_wire_Entry E a0 s K) : ACalls E 38 [a0] s K :=
  acalls h rfl (by rw [e_wire_Entry]; exact hp)

/-- (*strongroom/raft.Raft).mayChange -/
def c_raft_Raft_mayChange : AFunc := .mk 2 72 [.t 4] <|
  .seq (.reg [q 4 (.mv (.c (.n .i64 0)))]) <|
  .seq (.reg [q 14 (.mv (.t 0)), q 15 (.mv (.t 0)), q 16 (.nilchk (.t 15)), q 17 (.fa (.t 16) 5 1 false), q 18 (.load (.t 17) 1 false), q 19 (.call 22 [(.t 18)]), q 20 (.call 43 [(.t 14), (.t 19)]), q 13 (.mv (.t 20)), q 21 (.ext (.t 13) 0), q 22 (.ext (.t 13) 1), q 5 (.mv (.t 21)), q 6 (.mv (.t 22))]) <|
  .seq (.reg [q 7 (.mv (.c (.b false)))]) <|
  .seq (.seq (.reg [q 8 (.mv (.c (.n .i64 1)))]) <|
  .block 0 <|
  .loop [7, 8] [0, 1, 5, 6] <|
  .seq (.seq (.reg [q 23 (.mv (.t 8)), qs 24 (.bin .num .leq (.t 23) (.c (.n .i64 7)))]) <|
  .cond (.t 24) (.skip) <|
  .exit 0) <|
  .seq (.block 1 <|
  .seq (.reg [q 28 (.mv (.t 5)), q 29 (.mv (.t 8)), q 30 (.call 71 [(.t 28), (.t 29)]), q 27 (.mv (.t 30)), q 31 (.ext (.t 27) 0), q 32 (.ext (.t 27) 1), q 9 (.mv (.t 31)), q 10 (.mv (.t 32))]) <|
  .reg [qs 33 (.mv (.t 7)), q 34 (.mv (.t 33)), qg 35 false 34 false (.mv (.t 10)), qg 36 true 34 false (.bin .num .eql (.t 35) (.c (.n .i64 0))), qg 37 false 34 false (.mv (.t 36)), qg 38 false 37 true (.mv (.t 9)), qg 39 false 37 true (.mv (.t 1)), qg 40 true 37 true (.call 72 [(.t 38), (.t 39)]), qg 41 false 34 false (.pick (.t 37) (.t 40) (.c (.b false))), q 42 (.pick (.t 34) (.c (.b true)) (.t 41)), q 7 (.mv (.t 42))]) <|
  .reg [q 25 (.mv (.t 8)), q 26 (.bin .num .add (.t 25) (.c (.n .i64 1))), q 8 (.mv (.t 26))]) <|
  .seq (.draw [qd (some 44) false [] (.mv (.t 0)), qd (some 45) false [0] (.nilchk (.t 44)), qd (some 46) false [0, 1] (.fa (.t 45) 5 1 false), qd (some 47) false [0, 1, 2] (.load (.t 46) 1 false), qd (some 48) false [] (.mv (.t 0)), qd (some 49) false [4] (.nilchk (.t 48)), qd (some 50) false [4, 5] (.fa (.t 49) 6 1 false), qd (some 51) false [4, 5, 6] (.load (.t 50) 1 false), qd (some 52) false [0, 1, 2, 3, 4, 5, 6, 7] (.call 42 [(.t 47), (.t 51)]), qd (some 43) false [0, 1, 2, 3, 4, 5, 6, 7, 8] (.mv (.t 52)), qd (some 53) false [0, 1, 2, 3, 4, 5, 6, 7, 8, 9] (.ext (.t 43) 0), qd (some 54) false [0, 1, 2, 3, 4, 5, 6, 7, 8, 9] (.ext (.t 43) 1), qd (some 11) false [0, 1, 2, 3, 4, 5, 6, 7, 8, 9, 10] (.mv (.t 53)), qd (some 12) false [0, 1, 2, 3, 4, 5, 6, 7, 8, 9, 10, 11, 12] (.mv (.t 54))]) <|
  .seq (.block 2 <|
  .seq (.reg [qs 56 (.mv (.t 7)), q 57 (.un .not (.t 56)), q 55 (.mv (.t 57))]) <|
  .cond (.t 55) (.seq (.reg [q 4 (.mv (.c (.n .i64 192)))]) <|
  .ret) <|
  .seq (.seq (.reg [q 59 (.mv (.t 11)), q 60 (.mv (.t 0)), q 61 (.nilchk (.t 60)), q 62 (.fa (.t 61) 1 2 true), q 63 (.fa (.t 62) 0 1 false), q 64 (.load (.t 63) 1 false), qs 65 (.bin .num .neq (.t 59) (.t 64)), q 58 (.mv (.t 65))]) <|
  .cond (.t 58) (.skip) <|
  .reg [q 66 (.mv (.t 6)), q 67 (.mv (.t 0)), q 68 (.nilchk (.t 67)), q 69 (.fa (.t 68) 6 1 false), q 70 (.load (.t 69) 1 false), qs 71 (.bin .num .gtr (.t 66) (.t 70)), q 58 (.mv (.t 71))]) <|
  .cond (.t 58) (.seq (.reg [q 4 (.mv (.c (.n .i64 191)))]) <|
  .ret) <|
  .skip) <|
  .seq (.reg [q 4 (.mv (.c (.n .i64 0)))]) <|
  .ret

/-- (*strongroom/raft.Raft).mayChange -/
def p_raft_Raft_mayChange (E : Env) (a0 a1 : V) (s : St) (K : V → St → Prop) : Prop :=
 optP (nilV a0) s fun v0 s1 =>
 optP (faV v0 5 1 false) s1 fun v2 s3 =>
 optP (ldV v2 1 false s3) s3 fun v4 s5 =>
 ACalls E 22 [v4] s5 fun v6 s7 =>
 ACalls E 43 [a0, v6] s7 fun v8 s9 =>
 optP (extV v8 0) s9 fun v10 s11 =>
 optP (extV v8 1) s11 fun v12 s13 =>
 ∃ I14 : Nat → List V → St → Prop, (∃ n15, I14 n15 [(.b false), (.n .i64 1)] s13) ∧ ∀ n15, ∀ x17 : V, ∀ x18 : V, ∀ s16, I14 n15 [x17, x18] s16 →
 optP (binV .num .leq x18 (.n .i64 7)) s16 fun v20 s21 =>
 splitP v20 (
 let k22 : St → Prop := (fun s23 =>
 optP (binV .num .add x18 (.n .i64 1)) s23 fun v24 s25 =>
 (a0 : V) = a0 ∧ (a1 : V) = a1 ∧ (v10 : V) = v10 ∧ (v12 : V) = v12 ∧ ∃ n19, n19 < n15 ∧ I14 n19 [(.b true), v24] s25);
 let k26 : St → Prop := (fun s27 =>
 optP (binV .num .add x18 (.n .i64 1)) s27 fun v28 s29 =>
 (a0 : V) = a0 ∧ (a1 : V) = a1 ∧ (v10 : V) = v10 ∧ (v12 : V) = v12 ∧ ∃ n19, n19 < n15 ∧ I14 n19 [(.b false), v28] s29);
 ACalls E 71 [v10, x18] s21 fun v30 s31 =>
 optP (extV v30 0) s31 fun v32 s33 =>
 optP (extV v30 1) s33 fun v34 s35 =>
 splitP x17 (
 k22 s35) (
 optP (binV .num .eql v34 (.n .i64 0)) s35 fun v36 s37 =>
 splitP v36 (
 ACalls E 72 [v32, a1] s37 fun v38 s39 =>
 splitP v38 (
 k22 s39) (
 k26 s39)) (
 k26 s37))) (
 optP (nilV a0) s21 fun v40 s41 =>
 optP (faV v40 5 1 false) s41 fun v42 s43 =>
 optP (ldV v42 1 false s43) s43 fun v44 s45 =>
 (True) ∧ optP (nilV a0) s45 fun v46 s47 =>
 optP (faV v46 6 1 false) s47 fun v48 s49 =>
 optP (ldV v48 1 false s49) s49 fun v50 s51 =>
 (True) ∧ ACalls E 42 [v44, v50] s51 fun v52 s53 =>
 (True) ∧ optP (extV v52 0) s53 fun v54 s55 =>
 optP (extV v52 1) s55 fun v56 s57 =>
 splitP x17 (
 let k58 : St → Prop := (fun s59 =>
 K (.n .i64 191) s59);
 optP (nilV a0) s57 fun v60 s61 =>
 optP (faV v60 1 2 true) s61 fun v62 s63 =>
 optP (faV v62 0 1 false) s63 fun v64 s65 =>
 optP (ldV v64 1 false s65) s65 fun v66 s67 =>
 optP (binV .num .neq v54 v66) s67 fun v68 s69 =>
 splitP v68 (
 k58 s69) (
 optP (nilV a0) s69 fun v70 s71 =>
 optP (faV v70 6 1 false) s71 fun v72 s73 =>
 optP (ldV v72 1 false s73) s73 fun v74 s75 =>
 optP (binV .num .gtr v12 v74) s75 fun v76 s77 =>
 splitP v76 (
 k58 s77) (
 K (.n .i64 0) s77))) (
 K (.n .i64 192) s57))
theorem e_raft_Raft_mayChange (E : Env) (a0 a1 : V) (s : St) (K : V → St → Prop) : axF E c_raft_Raft_mayChange [a0, a1] s K = p_raft_Raft_mayChange E a0 a1 s K := by kernel_rfl
theorem g_raft_Raft_mayChange {E : Env} {a0 a1 : V} {s : St} {K : V → St → Prop} (h : chkF E.P E.m (E.m 39) c_raft_Raft_mayChange = true) (hp : p_raft_Raft_mayChange E a0 a1 s K) : ACalls E 39 [a0, a1] s K :=
  acalls h rfl (by rw [e_raft_Raft_mayChange]; exact hp)

/-- (*strongroom/raft.Raft).Propose$1 -/
def c_raft_Raft_Propose_c1 : AFunc := .mk 3 6 [] <|
  .reg [q 3 (.load (.t 0) 1 false), q 4 (.load (.t 1) 4 true), q 5 (.call 41 [(.t 3), (.t 4)]), qn (.store (.t 2) (.t 5) 1)]

/-- (*strongroom/raft.Raft).Propose$1 -/
def p_raft_Raft_Propose_c1 (E : Env) (a0 a1 a2 : V) (s : St) (K : V → St → Prop) : Prop :=
 optP (ldV a0 1 false s) s fun v0 s1 =>
 optP (ldV a1 4 true s1) s1 fun v2 s3 =>
 ACalls E 41 [v0, v2] s3 fun v4 s5 =>
 optW (storeV a2 v4 1 s5) fun v6 s7 =>
 K (.tup []) s7
theorem e_raft_Raft_Propose_c1 (E : Env) (a0 a1 a2 : V) (s : St) (K : V → St → Prop) : axF E c_raft_Raft_Propose_c1 [a0, a1, a2] s K = p_raft_Raft_Propose_c1 E a0 a1 a2 s K := by kernel_rfl
theorem g_raft_Raft_Propose_c1 {E : Env} {a0 a1 a2 : V} {s : St} {K : V → St → Prop} (h : chkF E.P E.m (E.m 40) c_raft_Raft_Propose_c1 = true) (hp : p_raft_Raft_Propose_c1 E a0 a1 a2 s K) : ACalls E 40 [a0, a1, a2] s K :=
  acalls h rfl (by rw [e_raft_Raft_Propose_c1]; exact hp)

/-- (*strongroom/raft.Raft).lays -/
def c_raft_Raft_lays : AFunc := .mk 2 37 [.t 4] <|
  .seq (.reg [q 3 (.box (.t 1)), q 4 (.mv (.c (.n .i64 0)))]) <|
  .seq (.draw [qd (some 6) false [] (.mv (.t 0)), qd (some 7) false [0] (.nilchk (.t 6)), qd (some 8) false [0, 1] (.fa (.t 7) 5 1 false), qd (some 9) false [0, 1, 2] (.load (.t 8) 1 false), qd (some 10) false [] (.load (.t 3) 4 true), qd (some 11) false [0, 1, 2, 3, 4] (.call 73 [(.t 9), (.t 10)]), qd (some 5) false [0, 1, 2, 3, 4, 5] (.mv (.t 11))]) <|
  .seq (.reg [q 12 (.mv (.t 0)), q 13 (.mv (.t 5)), q 14 (.call 74 [(.t 12), (.t 13)])]) <|
  .seq (.draw [qd (some 15) false [] (.mv (.t 0)), qd (some 16) false [] (.mv (.t 0)), qd (some 17) false [1] (.nilchk (.t 16)), qd (some 18) false [1, 2] (.fa (.t 17) 0 1 false), qd (some 19) false [1, 2, 3] (.load (.t 18) 1 false), qd (some 20) false [] (.mv (.t 5)), qd (some 21) false [0] (.nilchk (.t 15)), qd (some 22) false [0, 6] (.fa (.t 21) 14 16 true), qd (some 23) false [0, 1, 2, 3, 4, 5, 6, 7] (.iaa (.t 22) (.t 19) 8 2), qd (some 24) false [0, 1, 2, 3, 4, 5, 6, 7, 8] (.fa (.t 23) 1 1 false), qd none false [0, 1, 2, 3, 4, 5, 6, 7, 8, 9] (.store (.t 24) (.t 20) 1)]) <|
  .seq (.reg [q 25 (.mv (.t 0)), q 26 (.call 75 [(.t 25)])]) <|
  .seq (.seq (.reg [q 27 (.mv (.t 0)), q 28 (.nilchk (.t 27)), q 29 (.fa (.t 28) 3 1 false), q 30 (.load (.t 29) 1 false), qs 31 (.bin .num .eql (.t 30) (.c (.n .i64 3)))]) <|
  .cond (.t 31) (.reg [q 32 (.mv (.t 0)), q 33 (.mv (.t 0)), q 34 (.mkf 63 [(.t 33)] []), q 35 (.call 62 [(.t 32), (.t 34)])]) <|
  .skip) <|
  .seq (.reg [q 36 (.mv (.t 5)), q 4 (.mv (.t 36))]) <|
  .ret

/-- (*strongroom/raft.Raft).lays -/
def p_raft_Raft_lays (E : Env) (a0 a1 : V) (s : St) (K : V → St → Prop) : Prop :=
 optW (boxV a1 s) fun v0 s1 =>
 optP (nilV a0) s1 fun v2 s3 =>
 optP (faV v2 5 1 false) s3 fun v4 s5 =>
 optP (ldV v4 1 false s5) s5 fun v6 s7 =>
 (True) ∧ optP (ldV v0 4 true s7) s7 fun v8 s9 =>
 (True) ∧ ACalls E 73 [v6, v8] s9 fun v10 s11 =>
 (True) ∧ ACalls E 74 [a0, v10] s11 fun v12 s13 =>
 optP (nilV a0) s13 fun v14 s15 =>
 optP (faV v14 0 1 false) s15 fun v16 s17 =>
 optP (ldV v16 1 false s17) s17 fun v18 s19 =>
 (True) ∧ optP (nilV a0) s19 fun v20 s21 =>
 optP (faV v20 14 16 true) s21 fun v22 s23 =>
 optP (iaaV v22 v18 8 2) s23 fun v24 s25 =>
 optP (faV v24 1 1 false) s25 fun v26 s27 =>
 optW (storeV v26 v10 1 s27) fun v28 s29 =>
 (True) ∧ ACalls E 75 [a0] s29 fun v30 s31 =>
 let k32 : St → Prop := (fun s33 =>
 K v10 s33);
 optP (nilV a0) s31 fun v34 s35 =>
 optP (faV v34 3 1 false) s35 fun v36 s37 =>
 optP (ldV v36 1 false s37) s37 fun v38 s39 =>
 optP (binV .num .eql v38 (.n .i64 3)) s39 fun v40 s41 =>
 splitP v40 (
 ACalls E 62 [a0, (.f 63 [a0] [])] s41 fun v42 s43 =>
 k32 s43) (
 k32 s41)
theorem e_raft_Raft_lays (E : Env) (a0 a1 : V) (s : St) (K : V → St → Prop) : axF E c_raft_Raft_lays [a0, a1] s K = p_raft_Raft_lays E a0 a1 s K := by kernel_rfl
theorem g_raft_Raft_lays {E : Env} {a0 a1 : V} {s : St} {K : V → St → Prop} (h : chkF E.P E.m (E.m 41) c_raft_Raft_lays = true) (hp : p_raft_Raft_lays E a0 a1 s K) : ACalls E 41 [a0, a1] s K :=
  acalls h rfl (by rw [e_raft_Raft_lays]; exact hp)

/-- (*strongroom/entries.Log).Term -/
def c_entries_Log_Term : AFunc := .mk 2 33 [.t 4, .t 5] <|
  .seq (.reg [q 4 (.mv (.c (.n .i64 0))), q 5 (.mv (.c (.n .i64 0)))]) <|
  .seq (.block 0 <|
  .seq (.reg [q 7 (.mv (.t 1)), q 8 (.mv (.t 0)), q 9 (.nilchk (.t 8)), q 10 (.fa (.t 9) 0 1 false), q 11 (.load (.t 10) 1 false), qs 12 (.bin .num .eql (.t 7) (.t 11)), q 6 (.mv (.t 12))]) <|
  .cond (.t 6) (.seq (.reg [q 13 (.mv (.t 0)), q 14 (.nilchk (.t 13)), q 15 (.fa (.t 14) 1 1 false), q 16 (.load (.t 15) 1 false), q 4 (.mv (.t 16)), q 5 (.mv (.c (.n .i64 0)))]) <|
  .ret) <|
  .seq (.reg [q 18 (.mv (.t 0)), q 19 (.mv (.t 1)), qs 20 (.call 76 [(.t 18), (.t 19)]), q 21 (.un .not (.t 20)), q 17 (.mv (.t 21))]) <|
  .cond (.t 17) (.seq (.reg [q 4 (.mv (.c (.n .i64 0))), q 5 (.mv (.c (.n .i64 170)))]) <|
  .ret) <|
  .skip) <|
  .seq (.draw [qd (some 22) false [] (.mv (.t 0)), qd (some 23) false [0] (.nilchk (.t 22)), qd (some 24) false [0, 1] (.fa (.t 23) 2 1 false), qd (some 25) false [0, 1, 2] (.load (.t 24) 1 false), qd (some 26) false [] (.mv (.t 1)), qd (some 27) false [] (.mv (.t 0)), qd (some 28) false [5] (.call 21 [(.t 27)]), qd (some 29) false [4, 5, 6] (.bin .num .sub (.t 26) (.t 28)), qd (some 30) false [0, 1, 2, 3, 4, 5, 6, 7] (.ias (.t 25) (.t 29) 4), qd (some 31) false [0, 1, 2, 3, 4, 5, 6, 7, 8] (.fa (.t 30) 0 1 false), qd (some 32) false [0, 1, 2, 3, 4, 5, 6, 7, 8, 9] (.load (.t 31) 1 false), qd (some 4) false [0, 1, 2, 3, 4, 5, 6, 7, 8, 9, 10] (.mv (.t 32)), qd (some 5) false [0, 1, 2, 3, 4, 5, 6, 7, 8, 9, 10, 11] (.mv (.c (.n .i64 0)))]) <|
  .ret

/-- (*strongroom/entries.Log).Term -/
def p_entries_Log_Term (E : Env) (a0 a1 : V) (s : St) (K : V → St → Prop) : Prop :=
 optP (nilV a0) s fun v0 s1 =>
 optP (faV v0 0 1 false) s1 fun v2 s3 =>
 optP (ldV v2 1 false s3) s3 fun v4 s5 =>
 optP (binV .num .eql a1 v4) s5 fun v6 s7 =>
 splitP v6 (
 optP (nilV a0) s7 fun v8 s9 =>
 optP (faV v8 1 1 false) s9 fun v10 s11 =>
 optP (ldV v10 1 false s11) s11 fun v12 s13 =>
 K (.tup [v12, (.n .i64 0)]) s13) (
 ACalls E 76 [a0, a1] s7 fun v14 s15 =>
 splitP v14 (
 optP (nilV a0) s15 fun v16 s17 =>
 optP (faV v16 2 1 false) s17 fun v18 s19 =>
 optP (ldV v18 1 false s19) s19 fun v20 s21 =>
 (True) ∧ ACalls E 21 [a0] s21 fun v22 s23 =>
 (ldV v18 1 false s23 = some v20 ∧ True) ∧ optP (binV .num .sub a1 v22) s23 fun v24 s25 =>
 optP (iasV v20 v24 4) s25 fun v26 s27 =>
 optP (faV v26 0 1 false) s27 fun v28 s29 =>
 optP (ldV v28 1 false s29) s29 fun v30 s31 =>
 (True) ∧ K (.tup [v30, (.n .i64 0)]) s31) (
 K (.tup [(.n .i64 0), (.n .i64 170)]) s15))
theorem e_entries_Log_Term (E : Env) (a0 a1 : V) (s : St) (K : V → St → Prop) : axF E c_entries_Log_Term [a0, a1] s K = p_entries_Log_Term E a0 a1 s K := by kernel_rfl
theorem g_entries_Log_Term {E : Env} {a0 a1 : V} {s : St} {K : V → St → Prop} (h : chkF E.P E.m (E.m 42) c_entries_Log_Term = true) (hp : p_entries_Log_Term E a0 a1 s K) : ACalls E 42 [a0, a1] s K :=
  acalls h rfl (by rw [e_entries_Log_Term]; exact hp)

/-- (*strongroom/raft.Raft).membersTo -/
def c_raft_Raft_membersTo : AFunc := .mk 2 60 [.t 4, .t 5] <|
  .seq (.reg [q 4 (.mv (.c (.l 1 [] .nil))), q 5 (.mv (.c (.n .i64 0)))]) <|
  .seq (.draw [qd (some 8) false [] (.mv (.t 0)), qd (some 9) false [0] (.nilchk (.t 8)), qd (some 10) false [0, 1] (.fa (.t 9) 5 1 false), qd (some 11) false [0, 1, 2] (.load (.t 10) 1 false), qd (some 12) false [] (.mv (.t 1)), qd (some 13) false [] (.mv (.t 0)), qd (some 14) false [5] (.nilchk (.t 13)), qd (some 15) false [5, 6] (.fa (.t 14) 5 1 false), qd (some 16) false [5, 6, 7] (.load (.t 15) 1 false), qd (some 17) false [5, 6, 7, 8] (.call 21 [(.t 16)]), qd (some 18) false [4, 5, 6, 7, 8, 9] (.bin .num .sub (.t 12) (.t 17)), qd (some 19) false [4, 5, 6, 7, 8, 9, 10] (.bin .num .add (.t 18) (.c (.n .i64 1))), qd (some 20) false [0, 1, 2, 3, 4, 5, 6, 7, 8, 9, 10, 11] (.call 77 [(.t 11), (.c (.n .i64 0)), (.t 19)]), qd (some 6) false [0, 1, 2, 3, 4, 5, 6, 7, 8, 9, 10, 11, 12] (.mv (.t 20))]) <|
  .seq (.seq (.reg [q 21 (.mv (.t 6)), q 22 (.len (.t 21)), q 23 (.bin .num .sub (.t 22) (.c (.n .i64 1))), q 7 (.mv (.t 23))]) <|
  .block 0 <|
  .loop [7] [0, 6] <|
  .seq (.seq (.reg [q 24 (.mv (.t 7)), qs 25 (.bin .num .geq (.t 24) (.c (.n .i64 0)))]) <|
  .cond (.t 25) (.skip) <|
  .exit 0) <|
  .seq (.block 1 <|
  .seq (.reg [q 28 (.mv (.t 6)), q 29 (.mv (.t 7)), q 30 (.ias (.t 28) (.t 29) 4), q 31 (.fa (.t 30) 1 1 false), q 32 (.load (.t 31) 1 false), qs 33 (.bin .num .eql (.t 32) (.c (.n .i64 2))), q 34 (.mv (.t 33)), qg 35 false 34 true (.mv (.t 6)), qg 36 false 34 true (.mv (.t 7)), qg 37 false 34 true (.ias (.t 35) (.t 36) 4), qg 38 false 34 true (.fa (.t 37) 3 1 false), qg 39 false 34 true (.load (.t 38) 1 false), qg 40 false 34 true (.call 35 [(.t 39)]), qg 41 true 34 true (.bin .num .eql (.t 40) (.c (.n .i64 0))), q 42 (.pick (.t 34) (.t 41) (.c (.b false)))]) <|
  .cond (.t 42) (.seq (.draw [qd (some 43) false [] (.mv (.t 6)), qd (some 44) false [] (.mv (.t 7)), qd (some 45) false [0, 1] (.ias (.t 43) (.t 44) 4), qd (some 46) false [0, 1, 2] (.fa (.t 45) 3 1 false), qd (some 47) false [0, 1, 2, 3] (.load (.t 46) 1 false), qd (some 48) false [] (.mv (.t 0)), qd (some 49) false [5] (.nilchk (.t 48)), qd (some 50) false [5, 6] (.fa (.t 49) 5 1 false), qd (some 51) false [5, 6, 7] (.load (.t 50) 1 false), qd (some 52) false [5, 6, 7, 8] (.call 21 [(.t 51)]), qd (some 53) false [] (.mv (.t 7)), qd (some 54) false [5, 6, 7, 8, 9, 10] (.bin .num .add (.t 52) (.t 53)), qd (some 4) false [0, 1, 2, 3, 4, 5, 6, 7, 8, 9] (.mv (.t 47)), qd (some 5) false [0, 1, 2, 3, 4, 5, 6, 7, 8, 9, 10, 11, 12] (.mv (.t 54))]) <|
  .ret) <|
  .skip) <|
  .reg [q 26 (.mv (.t 7)), q 27 (.bin .num .sub (.t 26) (.c (.n .i64 1))), q 7 (.mv (.t 27))]) <|
  .seq (.reg [q 55 (.mv (.t 0)), q 56 (.nilchk (.t 55)), q 57 (.fa (.t 56) 7 4 true), q 58 (.fa (.t 57) 2 1 false), q 59 (.load (.t 58) 1 false), q 4 (.mv (.t 59)), q 5 (.mv (.c (.n .i64 0)))]) <|
  .ret

/-- (*strongroom/raft.Raft).membersTo -/
def p_raft_Raft_membersTo (E : Env) (a0 a1 : V) (s : St) (K : V → St → Prop) : Prop :=
 optP (nilV a0) s fun v0 s1 =>
 optP (faV v0 5 1 false) s1 fun v2 s3 =>
 optP (ldV v2 1 false s3) s3 fun v4 s5 =>
 (True) ∧ optP (nilV a0) s5 fun v6 s7 =>
 optP (faV v6 5 1 false) s7 fun v8 s9 =>
 optP (ldV v8 1 false s9) s9 fun v10 s11 =>
 (True) ∧ ACalls E 21 [v10] s11 fun v12 s13 =>
 (ldV v2 1 false s13 = some v4 ∧ True) ∧ optP (binV .num .sub a1 v12) s13 fun v14 s15 =>
 optP (binV .num .add v14 (.n .i64 1)) s15 fun v16 s17 =>
 ACalls E 77 [v4, (.n .i64 0), v16] s17 fun v18 s19 =>
 (True) ∧ optP (lenV v18) s19 fun v20 s21 =>
 optP (binV .num .sub v20 (.n .i64 1)) s21 fun v22 s23 =>
 ∃ I24 : Nat → List V → St → Prop, (∃ n25, I24 n25 [v22] s23) ∧ ∀ n25, ∀ x27 : V, ∀ s26, I24 n25 [x27] s26 →
 optP (binV .num .geq x27 (.n .i64 0)) s26 fun v29 s30 =>
 splitP v29 (
 let k31 : St → Prop := (fun s32 =>
 optP (binV .num .sub x27 (.n .i64 1)) s32 fun v33 s34 =>
 (a0 : V) = a0 ∧ (v18 : V) = v18 ∧ ∃ n28, n28 < n25 ∧ I24 n28 [v33] s34);
 optP (iasV v18 x27 4) s30 fun v35 s36 =>
 optP (faV v35 1 1 false) s36 fun v37 s38 =>
 optP (ldV v37 1 false s38) s38 fun v39 s40 =>
 optP (binV .num .eql v39 (.n .i64 2)) s40 fun v41 s42 =>
 splitP v41 (
 optP (iasV v18 x27 4) s42 fun v43 s44 =>
 optP (faV v43 3 1 false) s44 fun v45 s46 =>
 optP (ldV v45 1 false s46) s46 fun v47 s48 =>
 ACalls E 35 [v47] s48 fun v49 s50 =>
 optP (binV .num .eql v49 (.n .i64 0)) s50 fun v51 s52 =>
 splitP v51 (
 optP (iasV v18 x27 4) s52 fun v53 s54 =>
 optP (faV v53 3 1 false) s54 fun v55 s56 =>
 optP (ldV v55 1 false s56) s56 fun v57 s58 =>
 (True) ∧ optP (nilV a0) s58 fun v59 s60 =>
 optP (faV v59 5 1 false) s60 fun v61 s62 =>
 optP (ldV v61 1 false s62) s62 fun v63 s64 =>
 (True) ∧ ACalls E 21 [v63] s64 fun v65 s66 =>
 (ldV v55 1 false s66 = some v57 ∧ True) ∧ optP (binV .num .add v65 x27) s66 fun v67 s68 =>
 K (.tup [v57, v67]) s68) (
 k31 s52)) (
 k31 s42)) (
 optP (nilV a0) s30 fun v69 s70 =>
 optP (faV v69 7 4 true) s70 fun v71 s72 =>
 optP (faV v71 2 1 false) s72 fun v73 s74 =>
 optP (ldV v73 1 false s74) s74 fun v75 s76 =>
 K (.tup [v75, (.n .i64 0)]) s76)
theorem e_raft_Raft_membersTo (E : Env) (a0 a1 : V) (s : St) (K : V → St → Prop) : axF E c_raft_Raft_membersTo [a0, a1] s K = p_raft_Raft_membersTo E a0 a1 s K := by kernel_rfl
theorem g_raft_Raft_membersTo {E : Env} {a0 a1 : V} {s : St} {K : V → St → Prop} (h : chkF E.P E.m (E.m 43) c_raft_Raft_membersTo = true) (hp : p_raft_Raft_membersTo E a0 a1 s K) : ACalls E 43 [a0, a1] s K :=
  acalls h rfl (by rw [e_raft_Raft_membersTo]; exact hp)

/-- (*strongroom/raft.Raft).Lay$1 -/
def c_raft_Raft_Lay_c1 : AFunc := .mk 5 12 [] <|
  .reg [q 5 (.load (.t 0) 1 false), q 6 (.load (.t 1) 1 false), q 7 (.load (.t 2) 1 false), q 8 (.load (.t 3) 1 false), q 9 (.load (.t 4) 1 false), q 10 (.build [.n .i64 0, .n .i64 0, .l 1 [] .nil, .l 1 [] .nil] [(0, 1, (.t 6)), (1, 1, (.t 7)), (2, 1, (.t 8)), (3, 1, (.t 9))]), q 11 (.call 45 [(.t 5), (.t 10)])]

/-- (*strongroom/raft.Raft).Lay$1 -/
def p_raft_Raft_Lay_c1 (E : Env) (a0 a1 a2 a3 a4 : V) (s : St) (K : V → St → Prop) : Prop :=
 optP (ldV a0 1 false s) s fun v0 s1 =>
 optP (ldV a1 1 false s1) s1 fun v2 s3 =>
 optP (ldV a2 1 false s3) s3 fun v4 s5 =>
 optP (ldV a3 1 false s5) s5 fun v6 s7 =>
 optP (ldV a4 1 false s7) s7 fun v8 s9 =>
 optP (buildV [.n .i64 0, .n .i64 0, .l 1 [] .nil, .l 1 [] .nil] [(0, 1, v2), (1, 1, v4), (2, 1, v6), (3, 1, v8)]) s9 fun v10 s11 =>
 ACalls E 45 [v0, v10] s11 fun v12 s13 =>
 K (.tup []) s13
theorem e_raft_Raft_Lay_c1 (E : Env) (a0 a1 a2 a3 a4 : V) (s : St) (K : V → St → Prop) : axF E c_raft_Raft_Lay_c1 [a0, a1, a2, a3, a4] s K = p_raft_Raft_Lay_c1 E a0 a1 a2 a3 a4 s K := by kernel_rfl
theorem g_raft_Raft_Lay_c1 {E : Env} {a0 a1 a2 a3 a4 : V} {s : St} {K : V → St → Prop} (h : chkF E.P E.m (E.m 44) c_raft_Raft_Lay_c1 = true) (hp : p_raft_Raft_Lay_c1 E a0 a1 a2 a3 a4 s K) : ACalls E 44 [a0, a1, a2, a3, a4] s K :=
  acalls h rfl (by rw [e_raft_Raft_Lay_c1]; exact hp)

/-- (*strongroom/raft.Raft).base -/
def c_raft_Raft_base : AFunc := .mk 2 24 [] <|
  .seq (.reg [q 3 (.box (.t 1))]) <|
  .seq (.draw [qd (some 4) false [] (.mv (.t 0)), qd (some 5) false [0] (.nilchk (.t 4)), qd (some 6) false [0, 1] (.fa (.t 5) 5 1 false), qd (some 7) false [0, 1, 2] (.load (.t 6) 1 false), qd (some 8) false [] (.fa (.t 3) 0 1 false), qd (some 9) false [4] (.load (.t 8) 1 false), qd (some 10) false [] (.fa (.t 3) 1 1 false), qd (some 11) false [6] (.load (.t 10) 1 false), qd (some 12) false [0, 1, 2, 3, 4, 5, 6, 7] (.call 78 [(.t 7), (.t 9), (.t 11)])]) <|
  .seq (.reg [q 13 (.mv (.t 0)), q 14 (.load (.t 3) 4 true), q 15 (.call 34 [(.t 14)]), q 16 (.nilchk (.t 13)), q 17 (.fa (.t 16) 7 4 true), qn (.store (.t 17) (.t 15) 4)]) <|
  .reg [q 18 (.mv (.t 0)), q 19 (.load (.t 3) 4 true), q 20 (.call 34 [(.t 19)]), q 21 (.nilchk (.t 18)), q 22 (.fa (.t 21) 30 10 true), q 23 (.fa (.t 22) 3 4 true), qn (.store (.t 23) (.t 20) 4)]

/-- (*strongroom/raft.Raft).base -/
def p_raft_Raft_base (E : Env) (a0 a1 : V) (s : St) (K : V → St → Prop) : Prop :=
 optW (boxV a1 s) fun v0 s1 =>
 optP (nilV a0) s1 fun v2 s3 =>
 optP (faV v2 5 1 false) s3 fun v4 s5 =>
 optP (ldV v4 1 false s5) s5 fun v6 s7 =>
 (True) ∧ optP (faV v0 0 1 false) s7 fun v8 s9 =>
 optP (ldV v8 1 false s9) s9 fun v10 s11 =>
 (True) ∧ optP (faV v0 1 1 false) s11 fun v12 s13 =>
 optP (ldV v12 1 false s13) s13 fun v14 s15 =>
 (True) ∧ ACalls E 78 [v6, v10, v14] s15 fun v16 s17 =>
 (True) ∧ optP (ldV v0 4 true s17) s17 fun v18 s19 =>
 ACalls E 34 [v18] s19 fun v20 s21 =>
 optP (nilV a0) s21 fun v22 s23 =>
 optP (faV v22 7 4 true) s23 fun v24 s25 =>
 optW (storeV v24 v20 4 s25) fun v26 s27 =>
 optP (ldV v0 4 true s27) s27 fun v28 s29 =>
 ACalls E 34 [v28] s29 fun v30 s31 =>
 optP (nilV a0) s31 fun v32 s33 =>
 optP (faV v32 30 10 true) s33 fun v34 s35 =>
 optP (faV v34 3 4 true) s35 fun v36 s37 =>
 optW (storeV v36 v30 4 s37) fun v38 s39 =>
 K (.tup []) s39
theorem e_raft_Raft_base (E : Env) (a0 a1 : V) (s : St) (K : V → St → Prop) : axF E c_raft_Raft_base [a0, a1] s K = p_raft_Raft_base E a0 a1 s K := by kernel_rfl
theorem g_raft_Raft_base {E : Env} {a0 a1 : V} {s : St} {K : V → St → Prop} (h : chkF E.P E.m (E.m 45) c_raft_Raft_base = true) (hp : p_raft_Raft_base E a0 a1 s K) : ACalls E 45 [a0, a1] s K :=
  acalls h rfl (by rw [e_raft_Raft_base]; exact hp)

/-- (*strongroom/entries.Log).At -/
def c_entries_Log_At : AFunc := .mk 2 29 [.cell 4 4 true, .t 5] <|
  .seq (.reg [q 4 (.alloc [.n .i64 0, .n .i64 0, .l 1 [] .nil, .l 1 [] .nil]), q 5 (.mv (.c (.n .i64 0)))]) <|
  .seq (.seq (.reg [q 6 (.mv (.t 0)), q 7 (.mv (.t 1)), qs 8 (.call 76 [(.t 6), (.t 7)]), q 9 (.un .not (.t 8))]) <|
  .cond (.t 9) (.seq (.reg [q 10 (.build [.n .i64 0, .n .i64 0, .l 1 [] .nil, .l 1 [] .nil] []), qn (.store (.t 4) (.t 10) 4), q 5 (.mv (.c (.n .i64 170)))]) <|
  .ret) <|
  .skip) <|
  .seq (.draw [qd (some 11) false [] (.mv (.t 0)), qd (some 12) false [0] (.nilchk (.t 11)), qd (some 13) false [0, 1] (.fa (.t 12) 2 1 false), qd (some 14) false [0, 1, 2] (.load (.t 13) 1 false), qd (some 15) false [] (.mv (.t 1)), qd (some 16) false [] (.mv (.t 0)), qd (some 17) false [5] (.call 21 [(.t 16)]), qd (some 18) false [4, 5, 6] (.bin .num .sub (.t 15) (.t 17)), qd (some 19) false [] (.mv (.t 1)), qd (some 20) false [] (.mv (.t 0)), qd (some 21) false [9] (.nilchk (.t 20)), qd (some 22) false [9, 10] (.fa (.t 21) 0 1 false), qd (some 23) false [9, 10, 11] (.load (.t 22) 1 false), qd (some 24) false [8, 9, 10, 11, 12] (.bin .num .sub (.t 19) (.t 23)), qd (some 25) false [0, 1, 2, 3, 4, 5, 6, 7, 8, 9, 10, 11, 12, 13] (.slc (.t 14) (some (.t 18)) (some (.t 24)) none 4), qd (some 26) false [0, 1, 2, 3, 4, 5, 6, 7, 8, 9, 10, 11, 12, 13, 14] (.call 59 [(.t 25)]), qd (some 27) false [0, 1, 2, 3, 4, 5, 6, 7, 8, 9, 10, 11, 12, 13, 14, 15] (.ias (.t 26) (.c (.n .i64 0)) 4), qd (some 28) false [0, 1, 2, 3, 4, 5, 6, 7, 8, 9, 10, 11, 12, 13, 14, 15, 16] (.load (.t 27) 4 true), qd none false [0, 1, 2, 3, 4, 5, 6, 7, 8, 9, 10, 11, 12, 13, 14, 15, 16, 17] (.store (.t 4) (.t 28) 4), qd (some 5) false [0, 1, 2, 3, 4, 5, 6, 7, 8, 9, 10, 11, 12, 13, 14, 15, 16, 17, 18] (.mv (.c (.n .i64 0)))]) <|
  .ret

/-- (*strongroom/entries.Log).At -/
def p_entries_Log_At (E : Env) (a0 a1 : V) (s : St) (K : V → St → Prop) : Prop :=
 optW (allocW [.n .i64 0, .n .i64 0, .l 1 [] .nil, .l 1 [] .nil] s) fun v0 s1 =>
 ACalls E 76 [a0, a1] s1 fun v2 s3 =>
 splitP v2 (
 optP (nilV a0) s3 fun v4 s5 =>
 optP (faV v4 2 1 false) s5 fun v6 s7 =>
 optP (ldV v6 1 false s7) s7 fun v8 s9 =>
 (True) ∧ ACalls E 21 [a0] s9 fun v10 s11 =>
 (ldV v6 1 false s11 = some v8 ∧ True) ∧ optP (binV .num .sub a1 v10) s11 fun v12 s13 =>
 optP (nilV a0) s13 fun v14 s15 =>
 optP (faV v14 0 1 false) s15 fun v16 s17 =>
 optP (ldV v16 1 false s17) s17 fun v18 s19 =>
 (ldV v16 1 false s9 = some v18 ∧ True) ∧ optP (binV .num .sub a1 v18) s19 fun v20 s21 =>
 optP (slcV v8 (some v12) (some v20) none 4) s21 fun v22 s23 =>
 ACalls E 59 [v22] s23 fun v24 s25 =>
 (True) ∧ optP (iasV v24 (.n .i64 0) 4) s25 fun v26 s27 =>
 optP (ldV v26 4 true s27) s27 fun v28 s29 =>
 (True) ∧ optW (storeV v0 v28 4 s29) fun v30 s31 =>
 (True) ∧ optP (ldV v0 4 true s31) s31 fun v32 _ =>
 K (.tup [v32, (.n .i64 0)]) s31) (
 optP (buildV [.n .i64 0, .n .i64 0, .l 1 [] .nil, .l 1 [] .nil] []) s3 fun v33 s34 =>
 optW (storeV v0 v33 4 s34) fun v35 s36 =>
 optP (ldV v0 4 true s36) s36 fun v37 _ =>
 K (.tup [v37, (.n .i64 170)]) s36)
theorem e_entries_Log_At (E : Env) (a0 a1 : V) (s : St) (K : V → St → Prop) : axF E c_entries_Log_At [a0, a1] s K = p_entries_Log_At E a0 a1 s K := by kernel_rfl
theorem g_entries_Log_At {E : Env} {a0 a1 : V} {s : St} {K : V → St → Prop} (h : chkF E.P E.m (E.m 46) c_entries_Log_At = true) (hp : p_entries_Log_At E a0 a1 s K) : ACalls E 46 [a0, a1] s K :=
  acalls h rfl (by rw [e_entries_Log_At]; exact hp)

/-- slices.ContainsFunc[[]strongroom/api.Entry,strongroom/api.Entry] -/
def c_slices_ContainsFunc_api_Entry_api_Entry : AFunc := .mk 2 9 [.t 4] <|
  .seq (.reg [q 4 (.mv (.c (.b false)))]) <|
  .seq (.reg [q 5 (.mv (.t 0)), q 6 (.mv (.t 1)), q 7 (.call 79 [(.t 5), (.t 6)]), qs 8 (.bin .num .geq (.t 7) (.c (.n .i64 0))), q 4 (.mv (.t 8))]) <|
  .ret

/-- slices.ContainsFunc[[]strongroom/api.Entry,strongroom/api.Entry] -/
def p_slices_ContainsFunc_api_Entry_api_Entry (E : Env) (a0 a1 : V) (s : St) (K : V → St → Prop) : Prop :=
 ACalls E 79 [a0, a1] s fun v0 s1 =>
 optP (binV .num .geq v0 (.n .i64 0)) s1 fun v2 s3 =>
 splitP v2 (
 K (.b true) s3) (
 K (.b false) s3)
theorem e_slices_ContainsFunc_api_Entry_api_Entry (E : Env) (a0 a1 : V) (s : St) (K : V → St → Prop) : axF E c_slices_ContainsFunc_api_Entry_api_Entry [a0, a1] s K = p_slices_ContainsFunc_api_Entry_api_Entry E a0 a1 s K := by kernel_rfl
theorem g_slices_ContainsFunc_api_Entry_api_Entry {E : Env} {a0 a1 : V} {s : St} {K : V → St → Prop} (h : chkF E.P E.m (E.m 47) c_slices_ContainsFunc_api_Entry_api_Entry = true) (hp : p_slices_ContainsFunc_api_Entry_api_Entry E a0 a1 s K) : ACalls E 47 [a0, a1] s K :=
  acalls h rfl (by rw [e_slices_ContainsFunc_api_Entry_api_Entry]; exact hp)

/-- (*strongroom/raft.Raft).odd$1 -/
def c_raft_Raft_odd_c1 : AFunc := .mk 2 20 [.t 3] <|
  .seq (.reg [q 2 (.box (.t 0)), q 3 (.mv (.c (.b false)))]) <|
  .seq (.reg [q 7 (.load (.t 2) 4 true), q 8 (.call 38 [(.t 7)]), q 6 (.mv (.t 8)), q 9 (.ext (.t 6) 0), q 10 (.ext (.t 6) 1), q 4 (.mv (.t 9)), q 5 (.mv (.t 10))]) <|
  .seq (.reg [q 11 (.mv (.t 5)), qs 12 (.bin .num .neq (.t 11) (.c (.n .i64 0))), q 13 (.mv (.t 12)), qg 14 false 13 false (.fa (.t 2) 0 1 false), qg 15 false 13 false (.load (.t 14) 1 false), qg 16 false 13 false (.fa (.t 1) 3 1 false), qg 17 false 13 false (.load (.t 16) 1 false), qg 18 true 13 false (.bin .num .gtr (.t 15) (.t 17)), q 19 (.pick (.t 13) (.c (.b true)) (.t 18)), q 3 (.mv (.t 19))]) <|
  .ret

/-- (*strongroom/raft.Raft).odd$1 -/
def p_raft_Raft_odd_c1 (E : Env) (a0 a1 : V) (s : St) (K : V → St → Prop) : Prop :=
 optW (boxV a0 s) fun v0 s1 =>
 optP (ldV v0 4 true s1) s1 fun v2 s3 =>
 ACalls E 38 [v2] s3 fun v4 s5 =>
 optP (extV v4 0) s5 fun v6 s7 =>
 optP (extV v4 1) s7 fun v8 s9 =>
 let k10 : St → Prop := (fun s11 =>
 K (.b true) s11);
 optP (binV .num .neq v8 (.n .i64 0)) s9 fun v12 s13 =>
 splitP v12 (
 k10 s13) (
 optP (faV v0 0 1 false) s13 fun v14 s15 =>
 optP (ldV v14 1 false s15) s15 fun v16 s17 =>
 optP (faV a1 3 1 false) s17 fun v18 s19 =>
 optP (ldV v18 1 false s19) s19 fun v20 s21 =>
 optP (binV .num .gtr v16 v20) s21 fun v22 s23 =>
 splitP v22 (
 k10 s23) (
 K (.b false) s23))
theorem e_raft_Raft_odd_c1 (E : Env) (a0 a1 : V) (s : St) (K : V → St → Prop) : axF E c_raft_Raft_odd_c1 [a0, a1] s K = p_raft_Raft_odd_c1 E a0 a1 s K := by kernel_rfl
theorem g_raft_Raft_odd_c1 {E : Env} {a0 a1 : V} {s : St} {K : V → St → Prop} (h : chkF E.P E.m (E.m 48) c_raft_Raft_odd_c1 = true) (hp : p_raft_Raft_odd_c1 E a0 a1 s K) : ACalls E 48 [a0, a1] s K :=
  acalls h rfl (by rw [e_raft_Raft_odd_c1]; exact hp)

/-- (*strongroom/entries.Log).Behind -/
def c_entries_Log_Behind : AFunc := .mk 3 30 [.t 6] <|
  .seq (.reg [q 6 (.mv (.c (.b false)))]) <|
  .seq (.reg [q 10 (.mv (.t 0)), q 11 (.mv (.t 0)), q 12 (.call 22 [(.t 11)]), q 13 (.call 42 [(.t 10), (.t 12)]), q 9 (.mv (.t 13)), q 14 (.ext (.t 9) 0), q 15 (.ext (.t 9) 1), q 7 (.mv (.t 14)), q 8 (.mv (.t 15))]) <|
  .seq (.reg [q 16 (.mv (.t 2)), q 17 (.mv (.t 7)), qs 18 (.bin .num .gtr (.t 16) (.t 17)), q 19 (.mv (.t 18)), qg 20 false 19 false (.mv (.t 2)), qg 21 false 19 false (.mv (.t 7)), qg 22 true 19 false (.bin .num .eql (.t 20) (.t 21)), qg 23 false 19 false (.mv (.t 22)), qg 24 false 23 true (.mv (.t 1)), qg 25 false 23 true (.mv (.t 0)), qg 26 false 23 true (.call 22 [(.t 25)]), qg 27 true 23 true (.bin .num .geq (.t 24) (.t 26)), qg 28 false 19 false (.pick (.t 23) (.t 27) (.c (.b false))), q 29 (.pick (.t 19) (.c (.b true)) (.t 28)), q 6 (.mv (.t 29))]) <|
  .ret

/-- (*strongroom/entries.Log).Behind -/
def p_entries_Log_Behind (E : Env) (a0 a1 a2 : V) (s : St) (K : V → St → Prop) : Prop :=
 ACalls E 22 [a0] s fun v0 s1 =>
 ACalls E 42 [a0, v0] s1 fun v2 s3 =>
 optP (extV v2 0) s3 fun v4 s5 =>
 optP (extV v2 1) s5 fun v6 s7 =>
 let k8 : St → Prop := (fun s9 =>
 K (.b true) s9);
 let k10 : St → Prop := (fun s11 =>
 K (.b false) s11);
 optP (binV .num .gtr a2 v4) s7 fun v12 s13 =>
 splitP v12 (
 k8 s13) (
 optP (binV .num .eql a2 v4) s13 fun v14 s15 =>
 splitP v14 (
 ACalls E 22 [a0] s15 fun v16 s17 =>
 optP (binV .num .geq a1 v16) s17 fun v18 s19 =>
 splitP v18 (
 k8 s19) (
 k10 s19)) (
 k10 s15))
theorem e_entries_Log_Behind (E : Env) (a0 a1 a2 : V) (s : St) (K : V → St → Prop) : axF E c_entries_Log_Behind [a0, a1, a2] s K = p_entries_Log_Behind E a0 a1 a2 s K := by kernel_rfl
theorem g_entries_Log_Behind {E : Env} {a0 a1 a2 : V} {s : St} {K : V → St → Prop} (h : chkF E.P E.m (E.m 49) c_entries_Log_Behind = true) (hp : p_entries_Log_Behind E a0 a1 a2 s K) : ACalls E 49 [a0, a1, a2] s K :=
  acalls h rfl (by rw [e_entries_Log_Behind]; exact hp)

/-- (*strongroom/raft.Raft).says -/
def c_raft_Raft_says : AFunc := .mk 2 21 [] <|
  .seq (.reg [q 3 (.box (.t 1))]) <|
  .seq (.reg [q 4 (.mv (.t 0)), q 5 (.nilchk (.t 4)), q 6 (.fa (.t 5) 0 1 false), q 7 (.load (.t 6) 1 false), q 8 (.fa (.t 3) 1 1 false), qn (.store (.t 8) (.t 7) 1)]) <|
  .draw [qd (some 9) false [] (.mv (.t 0)), qd (some 10) false [] (.mv (.t 0)), qd (some 11) false [1] (.nilchk (.t 10)), qd (some 12) false [1, 2] (.fa (.t 11) 30 10 true), qd (some 13) false [1, 2, 3] (.fa (.t 12) 9 1 false), qd (some 14) false [1, 2, 3, 4] (.load (.t 13) 1 false), qd (some 15) false [] (.load (.t 3) 11 true), qd (some 16) false [6] (.mks 11 [(.t 15)]), qd (some 17) false [1, 2, 3, 4, 5, 6, 7] (.app (.t 14) (.t 16) 11 136), qd (some 18) false [0, 1, 2, 3, 4, 5, 6, 7, 8] (.nilchk (.t 9)), qd (some 19) false [0, 1, 2, 3, 4, 5, 6, 7, 8, 9] (.fa (.t 18) 30 10 true), qd (some 20) false [0, 1, 2, 3, 4, 5, 6, 7, 8, 9, 10] (.fa (.t 19) 9 1 false), qd none false [0, 1, 2, 3, 4, 5, 6, 7, 8, 9, 10, 11] (.store (.t 20) (.t 17) 1)]

/-- (*strongroom/raft.Raft).says -/
def p_raft_Raft_says (E : Env) (a0 a1 : V) (s : St) (K : V → St → Prop) : Prop :=
 optW (boxV a1 s) fun v0 s1 =>
 optP (nilV a0) s1 fun v2 s3 =>
 optP (faV v2 0 1 false) s3 fun v4 s5 =>
 optP (ldV v4 1 false s5) s5 fun v6 s7 =>
 optP (faV v0 1 1 false) s7 fun v8 s9 =>
 optW (storeV v8 v6 1 s9) fun v10 s11 =>
 optP (nilV a0) s11 fun v12 s13 =>
 optP (faV v12 30 10 true) s13 fun v14 s15 =>
 optP (faV v14 9 1 false) s15 fun v16 s17 =>
 optP (ldV v16 1 false s17) s17 fun v18 s19 =>
 (True) ∧ optP (ldV v0 11 true s19) s19 fun v20 s21 =>
 (True) ∧ optP (mksV 11 [v20]) s21 fun v22 s23 =>
 optW (appV v18 v22 11 136 s23) fun v24 s25 =>
 (True) ∧ optP (nilV a0) s25 fun v26 s27 =>
 optP (faV v26 30 10 true) s27 fun v28 s29 =>
 optP (faV v28 9 1 false) s29 fun v30 s31 =>
 optW (storeV v30 v24 1 s31) fun v32 s33 =>
 (True) ∧ K (.tup []) s33
theorem e_raft_Raft_says (E : Env) (a0 a1 : V) (s : St) (K : V → St → Prop) : axF E c_raft_Raft_says [a0, a1] s K = p_raft_Raft_says E a0 a1 s K := by kernel_rfl
theorem g_raft_Raft_says {E : Env} {a0 a1 : V} {s : St} {K : V → St → Prop} (h : chkF E.P E.m (E.m 50) c_raft_Raft_says = true) (hp : p_raft_Raft_says E a0 a1 s K) : ACalls E 50 [a0, a1] s K :=
  acalls h rfl (by rw [e_raft_Raft_says]; exact hp)

/-- (*strongroom/raft.Raft).fallBack -/
def c_raft_Raft_fallBack : AFunc := .mk 3 21 [] <|
  .seq (.seq (.reg [q 6 (.mv (.t 1)), q 7 (.mv (.t 0)), q 8 (.nilchk (.t 7)), q 9 (.fa (.t 8) 1 2 true), q 10 (.fa (.t 9) 0 1 false), q 11 (.load (.t 10) 1 false), qs 12 (.bin .num .gtr (.t 6) (.t 11))]) <|
  .cond (.t 12) (.reg [q 13 (.mv (.t 0)), q 14 (.mv (.t 1)), q 15 (.build [.n .i64 0, .n .i64 0] [(0, 1, (.t 14))]), q 16 (.nilchk (.t 13)), q 17 (.fa (.t 16) 1 2 true), qn (.store (.t 17) (.t 15) 2)]) <|
  .skip) <|
  .reg [q 18 (.mv (.t 0)), q 19 (.mv (.t 2)), q 20 (.call 55 [(.t 18), (.c (.n .i64 0)), (.t 19), (.c (.l 1 [] .nil))])]

/-- (*strongroom/raft.Raft).fallBack -/
def p_raft_Raft_fallBack (E : Env) (a0 a1 a2 : V) (s : St) (K : V → St → Prop) : Prop :=
 let k0 : St → Prop := (fun s1 =>
 ACalls E 55 [a0, (.n .i64 0), a2, (.l 1 [] .nil)] s1 fun v2 s3 =>
 K (.tup []) s3);
 optP (nilV a0) s fun v4 s5 =>
 optP (faV v4 1 2 true) s5 fun v6 s7 =>
 optP (faV v6 0 1 false) s7 fun v8 s9 =>
 optP (ldV v8 1 false s9) s9 fun v10 s11 =>
 optP (binV .num .gtr a1 v10) s11 fun v12 s13 =>
 splitP v12 (
 optP (buildV [.n .i64 0, .n .i64 0] [(0, 1, a1)]) s13 fun v14 s15 =>
 optP (nilV a0) s15 fun v16 s17 =>
 optP (faV v16 1 2 true) s17 fun v18 s19 =>
 optW (storeV v18 v14 2 s19) fun v20 s21 =>
 k0 s21) (
 k0 s13)
theorem e_raft_Raft_fallBack (E : Env) (a0 a1 a2 : V) (s : St) (K : V → St → Prop) : axF E c_raft_Raft_fallBack [a0, a1, a2] s K = p_raft_Raft_fallBack E a0 a1 a2 s K := by kernel_rfl
theorem g_raft_Raft_fallBack {E : Env} {a0 a1 a2 : V} {s : St} {K : V → St → Prop} (h : chkF E.P E.m (E.m 51) c_raft_Raft_fallBack = true) (hp : p_raft_Raft_fallBack E a0 a1 a2 s K) : ACalls E 51 [a0, a1, a2] s K :=
  acalls h rfl (by rw [e_raft_Raft_fallBack]; exact hp)

/-- (*strongroom/raft.Raft).most -/
def c_raft_Raft_most : AFunc := .mk 1 10 [.t 2] <|
  .seq (.reg [q 2 (.mv (.c (.b false)))]) <|
  .seq (.draw [qd (some 3) false [] (.mv (.t 0)), qd (some 4) false [0] (.call 24 [(.t 3)]), qd (some 5) false [] (.mv (.t 0)), qd (some 6) false [2] (.nilchk (.t 5)), qd (some 7) false [2, 3] (.fa (.t 6) 11 1 false), qd (some 8) false [2, 3, 4] (.load (.t 7) 1 false), qd (some 9) true [0, 1, 2, 3, 4, 5] (.call 80 [(.t 4), (.t 8)]), qd (some 2) false [0, 1, 2, 3, 4, 5, 6] (.mv (.t 9))]) <|
  .ret

/-- (*strongroom/raft.Raft).most -/
def p_raft_Raft_most (E : Env) (a0 : V) (s : St) (K : V → St → Prop) : Prop :=
 ACalls E 24 [a0] s fun v0 s1 =>
 (True) ∧ optP (nilV a0) s1 fun v2 s3 =>
 optP (faV v2 11 1 false) s3 fun v4 s5 =>
 optP (ldV v4 1 false s5) s5 fun v6 s7 =>
 (ldV v4 1 false s = some v6 ∧ True) ∧ ACalls E 80 [v0, v6] s7 fun v8 s9 =>
 splitP v8 (
 (True) ∧ K (.b true) s9) (
 (True) ∧ K (.b false) s9)
theorem e_raft_Raft_most (E : Env) (a0 : V) (s : St) (K : V → St → Prop) : axF E c_raft_Raft_most [a0] s K = p_raft_Raft_most E a0 s K := by kernel_rfl
theorem g_raft_Raft_most {E : Env} {a0 : V} {s : St} {K : V → St → Prop} (h : chkF E.P E.m (E.m 52) c_raft_Raft_most = true) (hp : p_raft_Raft_most E a0 s K) : ACalls E 52 [a0] s K :=
  acalls h rfl (by rw [e_raft_Raft_most]; exact hp)

/-- (*strongroom/raft.Raft).runs -/
def c_raft_Raft_runs : AFunc := .mk 1 34 [] <|
  .seq (.draw [qd (some 2) false [] (.mv (.t 0)), qd (some 3) false [] (.mv (.t 0)), qd (some 4) false [1] (.nilchk (.t 3)), qd (some 5) false [1, 2] (.fa (.t 4) 1 2 true), qd (some 6) false [1, 2, 3] (.fa (.t 5) 0 1 false), qd (some 7) false [1, 2, 3, 4] (.load (.t 6) 1 false), qd (some 8) false [1, 2, 3, 4, 5] (.bin .num .add (.t 7) (.c (.n .i64 1))), qd (some 9) false [] (.mv (.t 0)), qd (some 10) false [7] (.nilchk (.t 9)), qd (some 11) false [7, 8] (.fa (.t 10) 0 1 false), qd (some 12) false [7, 8, 9] (.load (.t 11) 1 false), qd (some 13) false [1, 2, 3, 4, 5, 6, 7, 8, 9, 10] (.build [.n .i64 0, .n .i64 0] [(0, 1, (.t 8)), (1, 1, (.t 12))]), qd (some 14) false [0, 1, 2, 3, 4, 5, 6, 7, 8, 9, 10, 11] (.nilchk (.t 2)), qd (some 15) false [0, 1, 2, 3, 4, 5, 6, 7, 8, 9, 10, 11, 12] (.fa (.t 14) 1 2 true), qd none false [0, 1, 2, 3, 4, 5, 6, 7, 8, 9, 10, 11, 12, 13] (.store (.t 15) (.t 13) 2)]) <|
  .seq (.reg [q 16 (.mv (.t 0)), q 17 (.mv (.t 0)), q 18 (.nilchk (.t 17)), q 19 (.fa (.t 18) 0 1 false), q 20 (.load (.t 19) 1 false), q 21 (.mks 1 [(.t 20)]), q 22 (.call 55 [(.t 16), (.c (.n .i64 2)), (.c (.n .i64 0)), (.t 21)])]) <|
  .seq (.seq (.reg [q 23 (.mv (.t 0)), qs 24 (.call 52 [(.t 23)])]) <|
  .cond (.t 24) (.seq (.reg [q 25 (.mv (.t 0)), q 26 (.call 56 [(.t 25)])]) <|
  .ret) <|
  .skip) <|
  .reg [q 27 (.mv (.t 0)), q 28 (.mv (.t 0)), q 29 (.nilchk (.t 28)), q 30 (.fa (.t 29) 1 2 true), q 31 (.fa (.t 30) 0 1 false), q 32 (.load (.t 31) 1 false), q 33 (.call 64 [(.t 27), (.c (.n .i64 3)), (.t 32)])]

/-- (*strongroom/raft.Raft).runs -/
def p_raft_Raft_runs (E : Env) (a0 : V) (s : St) (K : V → St → Prop) : Prop :=
 optP (nilV a0) s fun v0 s1 =>
 optP (faV v0 1 2 true) s1 fun v2 s3 =>
 optP (faV v2 0 1 false) s3 fun v4 s5 =>
 optP (ldV v4 1 false s5) s5 fun v6 s7 =>
 (True) ∧ optP (binV .num .add v6 (.n .i64 1)) s7 fun v8 s9 =>
 optP (nilV a0) s9 fun v10 s11 =>
 optP (faV v10 0 1 false) s11 fun v12 s13 =>
 optP (ldV v12 1 false s13) s13 fun v14 s15 =>
 (True) ∧ optP (buildV [.n .i64 0, .n .i64 0] [(0, 1, v8), (1, 1, v14)]) s15 fun v16 s17 =>
 optP (nilV a0) s17 fun v18 s19 =>
 optP (faV v18 1 2 true) s19 fun v20 s21 =>
 optW (storeV v20 v16 2 s21) fun v22 s23 =>
 (True) ∧ optP (nilV a0) s23 fun v24 s25 =>
 optP (faV v24 0 1 false) s25 fun v26 s27 =>
 optP (ldV v26 1 false s27) s27 fun v28 s29 =>
 optP (mksV 1 [v28]) s29 fun v30 s31 =>
 ACalls E 55 [a0, (.n .i64 2), (.n .i64 0), v30] s31 fun v32 s33 =>
 ACalls E 52 [a0] s33 fun v34 s35 =>
 splitP v34 (
 ACalls E 56 [a0] s35 fun v36 s37 =>
 K (.tup []) s37) (
 optP (nilV a0) s35 fun v38 s39 =>
 optP (faV v38 1 2 true) s39 fun v40 s41 =>
 optP (faV v40 0 1 false) s41 fun v42 s43 =>
 optP (ldV v42 1 false s43) s43 fun v44 s45 =>
 ACalls E 64 [a0, (.n .i64 3), v44] s45 fun v46 s47 =>
 K (.tup []) s47)
theorem e_raft_Raft_runs (E : Env) (a0 : V) (s : St) (K : V → St → Prop) : axF E c_raft_Raft_runs [a0] s K = p_raft_Raft_runs E a0 s K := by kernel_rfl
theorem g_raft_Raft_runs {E : Env} {a0 : V} {s : St} {K : V → St → Prop} (h : chkF E.P E.m (E.m 53) c_raft_Raft_runs = true) (hp : p_raft_Raft_runs E a0 s K) : ACalls E 53 [a0] s K :=
  acalls h rfl (by rw [e_raft_Raft_runs]; exact hp)

/-- (*strongroom/raft.Raft).late -/
def c_raft_Raft_late : AFunc := .mk 2 36 [] <|
  .seq (.reg [q 3 (.box (.t 1))]) <|
  .seq (.reg [q 4 (.fa (.t 3) 0 1 false), q 5 (.load (.t 4) 1 false)]) <|
  .block 0 <|
  .seq (.reg [qs 7 (.bin .num .eql (.t 5) (.c (.n .i64 3))), q 6 (.mv (.t 7))]) <|
  .cond (.t 6) (.draw [qd (some 8) false [] (.mv (.t 0)), qd (some 9) false [] (.fa (.t 3) 1 1 false), qd (some 10) false [1] (.load (.t 9) 1 false), qd (some 11) false [] (.mv (.t 0)), qd (some 12) false [3] (.nilchk (.t 11)), qd (some 13) false [3, 4] (.fa (.t 12) 1 2 true), qd (some 14) false [3, 4, 5] (.fa (.t 13) 0 1 false), qd (some 15) false [3, 4, 5, 6] (.load (.t 14) 1 false), qd (some 16) false [1, 2, 3, 4, 5, 6, 7] (.build [.n .i64 0, .n .i64 0, .n .i64 0, .n .i64 0, .n .i64 0, .n .i64 0, .n .i64 0, .b false, .l 4 [] .nil, .l 1 [] .nil, .l 1 [] .nil] [(0, 1, (.c (.n .i64 4))), (2, 1, (.t 10)), (3, 1, (.t 15))]), qd (some 17) false [0, 1, 2, 3, 4, 5, 6, 7, 8] (.call 50 [(.t 8), (.t 16)])]) <|
  .seq (.seq (.reg [qs 19 (.bin .num .eql (.t 5) (.c (.n .i64 5))), q 18 (.mv (.t 19))]) <|
  .cond (.t 18) (.skip) <|
  .reg [qs 20 (.bin .num .eql (.t 5) (.c (.n .i64 7))), q 18 (.mv (.t 20))]) <|
  .cond (.t 18) (.draw [qd (some 21) false [] (.mv (.t 0)), qd (some 22) false [] (.fa (.t 3) 1 1 false), qd (some 23) false [1] (.load (.t 22) 1 false), qd (some 24) false [] (.mv (.t 0)), qd (some 25) false [3] (.nilchk (.t 24)), qd (some 26) false [3, 4] (.fa (.t 25) 1 2 true), qd (some 27) false [3, 4, 5] (.fa (.t 26) 0 1 false), qd (some 28) false [3, 4, 5, 6] (.load (.t 27) 1 false), qd (some 29) false [] (.mv (.t 0)), qd (some 30) false [8] (.nilchk (.t 29)), qd (some 31) false [8, 9] (.fa (.t 30) 5 1 false), qd (some 32) false [8, 9, 10] (.load (.t 31) 1 false), qd (some 33) false [8, 9, 10, 11] (.call 22 [(.t 32)]), qd (some 34) false [1, 2, 3, 4, 5, 6, 7, 8, 9, 10, 11, 12] (.build [.n .i64 0, .n .i64 0, .n .i64 0, .n .i64 0, .n .i64 0, .n .i64 0, .n .i64 0, .b false, .l 4 [] .nil, .l 1 [] .nil, .l 1 [] .nil] [(0, 1, (.c (.n .i64 6))), (2, 1, (.t 23)), (3, 1, (.t 28)), (4, 1, (.t 33))]), qd (some 35) false [0, 1, 2, 3, 4, 5, 6, 7, 8, 9, 10, 11, 12, 13] (.call 50 [(.t 21), (.t 34)])]) <|
  .skip

/-- (*strongroom/raft.Raft).late -/
def p_raft_Raft_late (E : Env) (a0 a1 : V) (s : St) (K : V → St → Prop) : Prop :=
 optW (boxV a1 s) fun v0 s1 =>
 optP (faV v0 0 1 false) s1 fun v2 s3 =>
 optP (ldV v2 1 false s3) s3 fun v4 s5 =>
 optP (binV .num .eql v4 (.n .i64 3)) s5 fun v6 s7 =>
 splitP v6 (
 optP (faV v0 1 1 false) s7 fun v8 s9 =>
 optP (ldV v8 1 false s9) s9 fun v10 s11 =>
 (True) ∧ optP (nilV a0) s11 fun v12 s13 =>
 optP (faV v12 1 2 true) s13 fun v14 s15 =>
 optP (faV v14 0 1 false) s15 fun v16 s17 =>
 optP (ldV v16 1 false s17) s17 fun v18 s19 =>
 (True) ∧ optP (buildV [.n .i64 0, .n .i64 0, .n .i64 0, .n .i64 0, .n .i64 0, .n .i64 0, .n .i64 0, .b false, .l 4 [] .nil, .l 1 [] .nil, .l 1 [] .nil] [(0, 1, (.n .i64 4)), (2, 1, v10), (3, 1, v18)]) s19 fun v20 s21 =>
 ACalls E 50 [a0, v20] s21 fun v22 s23 =>
 (True) ∧ K (.tup []) s23) (
 let k24 : St → Prop := (fun s25 =>
 optP (faV v0 1 1 false) s25 fun v26 s27 =>
 optP (ldV v26 1 false s27) s27 fun v28 s29 =>
 (True) ∧ optP (nilV a0) s29 fun v30 s31 =>
 optP (faV v30 1 2 true) s31 fun v32 s33 =>
 optP (faV v32 0 1 false) s33 fun v34 s35 =>
 optP (ldV v34 1 false s35) s35 fun v36 s37 =>
 (True) ∧ optP (nilV a0) s37 fun v38 s39 =>
 optP (faV v38 5 1 false) s39 fun v40 s41 =>
 optP (ldV v40 1 false s41) s41 fun v42 s43 =>
 (True) ∧ ACalls E 22 [v42] s43 fun v44 s45 =>
 (ldV v26 1 false s45 = some v28 ∧ ldV v34 1 false s45 = some v36 ∧ True) ∧ optP (buildV [.n .i64 0, .n .i64 0, .n .i64 0, .n .i64 0, .n .i64 0, .n .i64 0, .n .i64 0, .b false, .l 4 [] .nil, .l 1 [] .nil, .l 1 [] .nil] [(0, 1, (.n .i64 6)), (2, 1, v28), (3, 1, v36), (4, 1, v44)]) s45 fun v46 s47 =>
 ACalls E 50 [a0, v46] s47 fun v48 s49 =>
 (True) ∧ K (.tup []) s49);
 optP (binV .num .eql v4 (.n .i64 5)) s7 fun v50 s51 =>
 splitP v50 (
 k24 s51) (
 optP (binV .num .eql v4 (.n .i64 7)) s51 fun v52 s53 =>
 splitP v52 (
 k24 s53) (
 K (.tup []) s53)))
theorem e_raft_Raft_late (E : Env) (a0 a1 : V) (s : St) (K : V → St → Prop) : axF E c_raft_Raft_late [a0, a1] s K = p_raft_Raft_late E a0 a1 s K := by kernel_rfl
theorem g_raft_Raft_late {E : Env} {a0 a1 : V} {s : St} {K : V → St → Prop} (h : chkF E.P E.m (E.m 54) c_raft_Raft_late = true) (hp : p_raft_Raft_late E a0 a1 s K) : ACalls E 54 [a0, a1] s K :=
  acalls h rfl (by rw [e_raft_Raft_late]; exact hp)

/-- (*strongroom/raft.Raft).stands -/
def c_raft_Raft_stands : AFunc := .mk 4 23 [] <|
  .reg [q 8 (.mv (.t 0)), q 9 (.mv (.t 0)), q 10 (.mv (.t 0)), q 11 (.mv (.t 0)), q 12 (.mv (.t 1)), q 13 (.mv (.t 2)), q 14 (.mv (.t 3)), q 15 (.nilchk (.t 8)), q 16 (.fa (.t 15) 3 1 false), qn (.store (.t 16) (.t 12) 1), q 17 (.nilchk (.t 9)), q 18 (.fa (.t 17) 4 1 false), qn (.store (.t 18) (.t 13) 1), q 19 (.nilchk (.t 10)), q 20 (.fa (.t 19) 11 1 false), qn (.store (.t 20) (.t 14) 1), q 21 (.nilchk (.t 11)), q 22 (.fa (.t 21) 12 1 false), qn (.store (.t 22) (.c (.n .i64 0)) 1)]

/-- (*strongroom/raft.Raft).stands -/
def p_raft_Raft_stands (E : Env) (a0 a1 a2 a3 : V) (s : St) (K : V → St → Prop) : Prop :=
 optP (nilV a0) s fun v0 s1 =>
 optP (faV v0 3 1 false) s1 fun v2 s3 =>
 optW (storeV v2 a1 1 s3) fun v4 s5 =>
 optP (nilV a0) s5 fun v6 s7 =>
 optP (faV v6 4 1 false) s7 fun v8 s9 =>
 optW (storeV v8 a2 1 s9) fun v10 s11 =>
 optP (nilV a0) s11 fun v12 s13 =>
 optP (faV v12 11 1 false) s13 fun v14 s15 =>
 optW (storeV v14 a3 1 s15) fun v16 s17 =>
 optP (nilV a0) s17 fun v18 s19 =>
 optP (faV v18 12 1 false) s19 fun v20 s21 =>
 optW (storeV v20 (.n .i64 0) 1 s21) fun v22 s23 =>
 K (.tup []) s23
theorem e_raft_Raft_stands (E : Env) (a0 a1 a2 a3 : V) (s : St) (K : V → St → Prop) : axF E c_raft_Raft_stands [a0, a1, a2, a3] s K = p_raft_Raft_stands E a0 a1 a2 a3 s K := by kernel_rfl
theorem g_raft_Raft_stands {E : Env} {a0 a1 a2 a3 : V} {s : St} {K : V → St → Prop} (h : chkF E.P E.m (E.m 55) c_raft_Raft_stands = true) (hp : p_raft_Raft_stands E a0 a1 a2 a3 s K) : ACalls E 55 [a0, a1, a2, a3] s K :=
  acalls h rfl (by rw [e_raft_Raft_stands]; exact hp)

/-- (*strongroom/raft.Raft).leads -/
def c_raft_Raft_leads : AFunc := .mk 1 33 [] <|
  .seq (.reg [q 3 (.mv (.t 0)), q 4 (.mv (.t 0)), q 5 (.nilchk (.t 4)), q 6 (.fa (.t 5) 0 1 false), q 7 (.load (.t 6) 1 false), q 8 (.call 55 [(.t 3), (.c (.n .i64 3)), (.t 7), (.c (.l 1 [] .nil))])]) <|
  .seq (.seq (.reg [q 9 (.mv (.c (.n .i64 0)))]) <|
  .block 0 <|
  .loop [9] [0] <|
  .seq (.reg [qs 10 (.bin .num .lss (.t 9) (.c (.n .i64 8)))]) <|
  .seq (.cond (.t 10) (.skip) <|
  .exit 0) <|
  .seq (.block 1 <|
  .seq (.reg [q 11 (.mv (.t 9)), q 2 (.mv (.t 11))]) <|
  .draw [qd (some 12) false [] (.mv (.t 0)), qd (some 13) false [] (.mv (.t 2)), qd (some 14) false [] (.mv (.t 0)), qd (some 15) false [2] (.nilchk (.t 14)), qd (some 16) false [2, 3] (.fa (.t 15) 5 1 false), qd (some 17) false [2, 3, 4] (.load (.t 16) 1 false), qd (some 18) false [2, 3, 4, 5] (.call 22 [(.t 17)]), qd (some 19) false [2, 3, 4, 5, 6] (.bin .num .add (.t 18) (.c (.n .i64 1))), qd (some 20) false [2, 3, 4, 5, 6, 7] (.build [.n .i64 0, .n .i64 0] [(0, 1, (.t 19))]), qd (some 21) false [0] (.nilchk (.t 12)), qd (some 22) false [0, 9] (.fa (.t 21) 14 16 true), qd (some 23) false [0, 1, 2, 3, 4, 5, 6, 7, 8, 9, 10] (.iaa (.t 22) (.t 13) 8 2), qd none false [0, 1, 2, 3, 4, 5, 6, 7, 8, 9, 10, 11] (.store (.t 23) (.t 20) 2)]) <|
  .reg [q 24 (.bin .num .add (.t 9) (.c (.n .i64 1))), q 9 (.mv (.t 24))]) <|
  .reg [q 25 (.mv (.t 0)), q 26 (.mv (.t 0)), q 27 (.nilchk (.t 26)), q 28 (.fa (.t 27) 1 2 true), q 29 (.fa (.t 28) 0 1 false), q 30 (.load (.t 29) 1 false), q 31 (.build [.n .i64 0, .n .i64 0, .l 1 [] .nil, .l 1 [] .nil] [(0, 1, (.t 30))]), q 32 (.call 41 [(.t 25), (.t 31)])]

/-- (*strongroom/raft.Raft).leads -/
def p_raft_Raft_leads (E : Env) (a0 : V) (s : St) (K : V → St → Prop) : Prop :=
 optP (nilV a0) s fun v0 s1 =>
 optP (faV v0 0 1 false) s1 fun v2 s3 =>
 optP (ldV v2 1 false s3) s3 fun v4 s5 =>
 ACalls E 55 [a0, (.n .i64 3), v4, (.l 1 [] .nil)] s5 fun v6 s7 =>
 ∃ I8 : Nat → List V → St → Prop, (∃ n9, I8 n9 [(.n .i64 0)] s7) ∧ ∀ n9, ∀ x11 : V, ∀ s10, I8 n9 [x11] s10 →
 optP (binV .num .lss x11 (.n .i64 8)) s10 fun v13 s14 =>
 splitP v13 (
 optP (nilV a0) s14 fun v15 s16 =>
 optP (faV v15 5 1 false) s16 fun v17 s18 =>
 optP (ldV v17 1 false s18) s18 fun v19 s20 =>
 (True) ∧ ACalls E 22 [v19] s20 fun v21 s22 =>
 (True) ∧ optP (binV .num .add v21 (.n .i64 1)) s22 fun v23 s24 =>
 optP (buildV [.n .i64 0, .n .i64 0] [(0, 1, v23)]) s24 fun v25 s26 =>
 optP (nilV a0) s26 fun v27 s28 =>
 optP (faV v27 14 16 true) s28 fun v29 s30 =>
 optP (iaaV v29 x11 8 2) s30 fun v31 s32 =>
 optW (storeV v31 v25 2 s32) fun v33 s34 =>
 (True) ∧ optP (binV .num .add x11 (.n .i64 1)) s34 fun v35 s36 =>
 (a0 : V) = a0 ∧ ∃ n12, n12 < n9 ∧ I8 n12 [v35] s36) (
 optP (nilV a0) s14 fun v37 s38 =>
 optP (faV v37 1 2 true) s38 fun v39 s40 =>
 optP (faV v39 0 1 false) s40 fun v41 s42 =>
 optP (ldV v41 1 false s42) s42 fun v43 s44 =>
 optP (buildV [.n .i64 0, .n .i64 0, .l 1 [] .nil, .l 1 [] .nil] [(0, 1, v43)]) s44 fun v45 s46 =>
 ACalls E 41 [a0, v45] s46 fun v47 s48 =>
 K (.tup []) s48)
theorem e_raft_Raft_leads (E : Env) (a0 : V) (s : St) (K : V → St → Prop) : axF E c_raft_Raft_leads [a0] s K = p_raft_Raft_leads E a0 s K := by kernel_rfl
theorem g_raft_Raft_leads {E : Env} {a0 : V} {s : St} {K : V → St → Prop} (h : chkF E.P E.m (E.m 56) c_raft_Raft_leads = true) (hp : p_raft_Raft_leads E a0 s K) : ACalls E 56 [a0] s K :=
  acalls h rfl (by rw [e_raft_Raft_leads]; exact hp)

/-- (*strongroom/raft.Raft).follows -/
def c_raft_Raft_follows : AFunc := .mk 2 103 [] <|
  .seq (.reg [q 3 (.box (.t 1))]) <|
  .seq (.draw [qd (some 8) false [] (.fa (.t 3) 1 1 false), qd (some 9) false [0] (.load (.t 8) 1 false), qd (some 10) false [] (.mv (.t 0)), qd (some 11) false [2] (.nilchk (.t 10)), qd (some 12) false [2, 3] (.fa (.t 11) 1 2 true), qd (some 13) false [2, 3, 4] (.fa (.t 12) 0 1 false), qd (some 14) false [2, 3, 4, 5] (.load (.t 13) 1 false), qd (some 15) false [0, 1, 2, 3, 4, 5, 6] (.build [.n .i64 0, .n .i64 0, .n .i64 0, .n .i64 0, .n .i64 0, .n .i64 0, .n .i64 0, .b false, .l 4 [] .nil, .l 1 [] .nil, .l 1 [] .nil] [(0, 1, (.c (.n .i64 6))), (2, 1, (.t 9)), (3, 1, (.t 14))]), qd (some 4) false [] (.alloc [.n .i64 0, .n .i64 0, .n .i64 0, .n .i64 0, .n .i64 0, .n .i64 0, .n .i64 0, .b false, .l 4 [] .nil, .l 1 [] .nil, .l 1 [] .nil]), qd none false [0, 1, 2, 3, 4, 5, 6, 7, 8] (.store (.t 4) (.t 15) 11)]) <|
  .seq (.block 0 <|
  .seq (.reg [q 54 (.fa (.t 3) 0 1 false), q 55 (.load (.t 54) 1 false), qs 56 (.bin .num .eql (.t 55) (.c (.n .i64 7))), q 53 (.mv (.t 56))]) <|
  .cond (.t 53) (.seq (.reg [q 57 (.fa (.t 4) 0 1 false), qn (.store (.t 57) (.c (.n .i64 8)) 1)]) <|
  .seq (.seq (.draw [qd (some 58) false [] (.fa (.t 3) 4 1 false), qd (some 59) false [0] (.load (.t 58) 1 false), qd (some 60) false [] (.mv (.t 0)), qd (some 61) false [2] (.nilchk (.t 60)), qd (some 62) false [2, 3] (.fa (.t 61) 6 1 false), qd (some 63) false [2, 3, 4] (.load (.t 62) 1 false), qd (some 64) true [0, 1, 2, 3, 4, 5] (.bin .num .gtr (.t 59) (.t 63))]) <|
  .cond (.t 64) (.seq (.reg [q 65 (.mv (.t 0)), q 66 (.fa (.t 3) 4 1 false), q 67 (.load (.t 66) 1 false), q 68 (.fa (.t 3) 5 1 false), q 69 (.load (.t 68) 1 false), q 70 (.fa (.t 3) 9 1 false), q 71 (.load (.t 70) 1 false), q 72 (.fa (.t 3) 10 1 false), q 73 (.load (.t 72) 1 false), q 74 (.build [.n .i64 0, .n .i64 0, .l 1 [] .nil, .l 1 [] .nil] [(0, 1, (.t 67)), (1, 1, (.t 69)), (2, 1, (.t 71)), (3, 1, (.t 73))]), q 75 (.call 45 [(.t 65), (.t 74)])]) <|
  .reg [q 76 (.mv (.t 0)), q 77 (.fa (.t 3) 4 1 false), q 78 (.load (.t 77) 1 false), q 79 (.nilchk (.t 76)), q 80 (.fa (.t 79) 6 1 false), qn (.store (.t 80) (.t 78) 1)]) <|
  .skip) <|
  .reg [q 81 (.mv (.t 0)), q 82 (.nilchk (.t 81)), q 83 (.fa (.t 82) 6 1 false), q 84 (.load (.t 83) 1 false), q 85 (.fa (.t 4) 4 1 false), qn (.store (.t 85) (.t 84) 1)]) <|
  .seq (.draw [qd (some 87) false [] (.fa (.t 3) 4 1 false), qd (some 88) false [0] (.load (.t 87) 1 false), qd (some 89) false [] (.mv (.t 0)), qd (some 90) false [2] (.nilchk (.t 89)), qd (some 91) false [2, 3] (.fa (.t 90) 6 1 false), qd (some 92) false [2, 3, 4] (.load (.t 91) 1 false), qd (some 93) true [0, 1, 2, 3, 4, 5] (.bin .num .lss (.t 88) (.t 92)), qd (some 86) false [0, 1, 2, 3, 4, 5, 6] (.mv (.t 93))]) <|
  .cond (.t 86) (.draw [qd (some 94) false [] (.mv (.t 0)), qd (some 95) false [0] (.nilchk (.t 94)), qd (some 96) false [0, 1] (.fa (.t 95) 6 1 false), qd (some 97) false [0, 1, 2] (.load (.t 96) 1 false), qd (some 98) false [] (.fa (.t 4) 7 1 false), qd none false [4] (.store (.t 98) (.c (.b true)) 1), qd (some 99) false [0, 1, 2, 3, 4, 5] (.fa (.t 4) 4 1 false), qd none false [0, 1, 2, 3, 4, 5, 6] (.store (.t 99) (.t 97) 1)]) <|
  .seq (.draw [qd (some 17) false [] (.mv (.t 0)), qd (some 18) false [0] (.nilchk (.t 17)), qd (some 19) false [0, 1] (.fa (.t 18) 5 1 false), qd (some 20) false [0, 1, 2] (.load (.t 19) 1 false), qd (some 21) false [] (.fa (.t 3) 4 1 false), qd (some 22) false [4] (.load (.t 21) 1 false), qd (some 23) false [] (.fa (.t 3) 5 1 false), qd (some 24) false [6] (.load (.t 23) 1 false), qd (some 25) false [] (.fa (.t 3) 8 1 false), qd (some 26) false [8] (.load (.t 25) 1 false), qd (some 27) false [0, 1, 2, 3, 4, 5, 6, 7, 8, 9] (.call 81 [(.t 20), (.t 22), (.t 24), (.t 26)]), qd (some 16) false [0, 1, 2, 3, 4, 5, 6, 7, 8, 9, 10] (.mv (.t 27)), qd (some 28) false [0, 1, 2, 3, 4, 5, 6, 7, 8, 9, 10, 11] (.ext (.t 16) 0), qd (some 29) false [0, 1, 2, 3, 4, 5, 6, 7, 8, 9, 10, 11] (.ext (.t 16) 1), qd (some 30) true [0, 1, 2, 3, 4, 5, 6, 7, 8, 9, 10, 11] (.ext (.t 16) 2), qd (some 5) false [0, 1, 2, 3, 4, 5, 6, 7, 8, 9, 10, 11, 12] (.mv (.t 28)), qd (some 6) false [0, 1, 2, 3, 4, 5, 6, 7, 8, 9, 10, 11, 12, 13, 15] (.mv (.t 29)), qd (some 7) false [0, 1, 2, 3, 4, 5, 6, 7, 8, 9, 10, 11, 12, 13, 14, 15, 16] (.mv (.t 30))]) <|
  .seq (.reg [qs 31 (.mv (.t 7)), q 32 (.mv (.t 5)), q 33 (.fa (.t 4) 7 1 false), qn (.store (.t 33) (.t 31) 1), q 34 (.fa (.t 4) 4 1 false), qn (.store (.t 34) (.t 32) 1)]) <|
  .seq (.seq (.reg [q 35 (.mv (.t 6)), qs 36 (.bin .num .gtr (.t 35) (.c (.n .i64 0)))]) <|
  .cond (.t 36) (.reg [q 37 (.mv (.t 0)), q 38 (.mv (.t 6)), q 39 (.call 74 [(.t 37), (.t 38)])]) <|
  .skip) <|
  .seq (.reg [qs 40 (.mv (.t 7))]) <|
  .cond (.t 40) (.draw [qd (some 41) false [] (.mv (.t 0)), qd (some 42) false [] (.mv (.t 0)), qd (some 43) false [1] (.nilchk (.t 42)), qd (some 44) false [1, 2] (.fa (.t 43) 6 1 false), qd (some 45) false [1, 2, 3] (.load (.t 44) 1 false), qd (some 46) false [] (.fa (.t 3) 6 1 false), qd (some 47) false [5] (.load (.t 46) 1 false), qd (some 48) false [] (.mv (.t 5)), qd (some 49) false [5, 6, 7] (.mn [(.t 47), (.t 48)]), qd (some 50) false [1, 2, 3, 4, 5, 6, 7, 8] (.mx [(.t 45), (.t 49)]), qd (some 51) false [0, 1, 2, 3, 4, 5, 6, 7, 8, 9] (.nilchk (.t 41)), qd (some 52) false [0, 1, 2, 3, 4, 5, 6, 7, 8, 9, 10] (.fa (.t 51) 6 1 false), qd none false [0, 1, 2, 3, 4, 5, 6, 7, 8, 9, 10, 11] (.store (.t 52) (.t 50) 1)]) <|
  .skip) <|
  .reg [q 100 (.mv (.t 0)), q 101 (.load (.t 4) 11 true), q 102 (.call 50 [(.t 100), (.t 101)])]

/-- (*strongroom/raft.Raft).follows -/
def p_raft_Raft_follows (E : Env) (a0 a1 : V) (s : St) (K : V → St → Prop) : Prop :=
 optW (boxV a1 s) fun v0 s1 =>
 optP (faV v0 1 1 false) s1 fun v2 s3 =>
 optP (ldV v2 1 false s3) s3 fun v4 s5 =>
 (True) ∧ optP (nilV a0) s5 fun v6 s7 =>
 optP (faV v6 1 2 true) s7 fun v8 s9 =>
 optP (faV v8 0 1 false) s9 fun v10 s11 =>
 optP (ldV v10 1 false s11) s11 fun v12 s13 =>
 (True) ∧ optP (buildV [.n .i64 0, .n .i64 0, .n .i64 0, .n .i64 0, .n .i64 0, .n .i64 0, .n .i64 0, .b false, .l 4 [] .nil, .l 1 [] .nil, .l 1 [] .nil] [(0, 1, (.n .i64 6)), (2, 1, v4), (3, 1, v12)]) s13 fun v14 s15 =>
 optW (allocW [.n .i64 0, .n .i64 0, .n .i64 0, .n .i64 0, .n .i64 0, .n .i64 0, .n .i64 0, .b false, .l 4 [] .nil, .l 1 [] .nil, .l 1 [] .nil] s15) fun v16 s17 =>
 (ldV v2 1 false s17 = some v4 ∧ ldV v10 1 false s17 = some v12 ∧ True) ∧ optW (storeV v16 v14 11 s17) fun v18 s19 =>
 (True) ∧ let k20 : St → Prop := (fun s21 =>
 optP (ldV v16 11 true s21) s21 fun v22 s23 =>
 ACalls E 50 [a0, v22] s23 fun v24 s25 =>
 K (.tup []) s25);
 optP (faV v0 0 1 false) s19 fun v26 s27 =>
 optP (ldV v26 1 false s27) s27 fun v28 s29 =>
 optP (binV .num .eql v28 (.n .i64 7)) s29 fun v30 s31 =>
 splitP v30 (
 optP (faV v16 0 1 false) s31 fun v32 s33 =>
 optW (storeV v32 (.n .i64 8) 1 s33) fun v34 s35 =>
 let k36 : St → Prop := (fun s37 =>
 optP (nilV a0) s37 fun v38 s39 =>
 optP (faV v38 6 1 false) s39 fun v40 s41 =>
 optP (ldV v40 1 false s41) s41 fun v42 s43 =>
 optP (faV v16 4 1 false) s43 fun v44 s45 =>
 optW (storeV v44 v42 1 s45) fun v46 s47 =>
 k20 s47);
 optP (faV v0 4 1 false) s35 fun v48 s49 =>
 optP (ldV v48 1 false s49) s49 fun v50 s51 =>
 (True) ∧ optP (nilV a0) s51 fun v52 s53 =>
 optP (faV v52 6 1 false) s53 fun v54 s55 =>
 optP (ldV v54 1 false s55) s55 fun v56 s57 =>
 (True) ∧ optP (binV .num .gtr v50 v56) s57 fun v58 s59 =>
 splitP v58 (
 optP (faV v0 4 1 false) s59 fun v60 s61 =>
 optP (ldV v60 1 false s61) s61 fun v62 s63 =>
 optP (faV v0 5 1 false) s63 fun v64 s65 =>
 optP (ldV v64 1 false s65) s65 fun v66 s67 =>
 optP (faV v0 9 1 false) s67 fun v68 s69 =>
 optP (ldV v68 1 false s69) s69 fun v70 s71 =>
 optP (faV v0 10 1 false) s71 fun v72 s73 =>
 optP (ldV v72 1 false s73) s73 fun v74 s75 =>
 optP (buildV [.n .i64 0, .n .i64 0, .l 1 [] .nil, .l 1 [] .nil] [(0, 1, v62), (1, 1, v66), (2, 1, v70), (3, 1, v74)]) s75 fun v76 s77 =>
 ACalls E 45 [a0, v76] s77 fun v78 s79 =>
 optP (faV v0 4 1 false) s79 fun v80 s81 =>
 optP (ldV v80 1 false s81) s81 fun v82 s83 =>
 optP (nilV a0) s83 fun v84 s85 =>
 optP (faV v84 6 1 false) s85 fun v86 s87 =>
 optW (storeV v86 v82 1 s87) fun v88 s89 =>
 k36 s89) (
 k36 s59)) (
 optP (faV v0 4 1 false) s31 fun v90 s91 =>
 optP (ldV v90 1 false s91) s91 fun v92 s93 =>
 (True) ∧ optP (nilV a0) s93 fun v94 s95 =>
 optP (faV v94 6 1 false) s95 fun v96 s97 =>
 optP (ldV v96 1 false s97) s97 fun v98 s99 =>
 (True) ∧ optP (binV .num .lss v92 v98) s99 fun v100 s101 =>
 splitP v100 (
 optP (nilV a0) s101 fun v102 s103 =>
 optP (faV v102 6 1 false) s103 fun v104 s105 =>
 optP (ldV v104 1 false s105) s105 fun v106 s107 =>
 (True) ∧ optP (faV v16 7 1 false) s107 fun v108 s109 =>
 optW (storeV v108 (.b true) 1 s109) fun v110 s111 =>
 (ldV v104 1 false s111 = some v106 ∧ True) ∧ optP (faV v16 4 1 false) s111 fun v112 s113 =>
 optW (storeV v112 v106 1 s113) fun v114 s115 =>
 (True) ∧ k20 s115) (
 optP (nilV a0) s101 fun v116 s117 =>
 optP (faV v116 5 1 false) s117 fun v118 s119 =>
 optP (ldV v118 1 false s119) s119 fun v120 s121 =>
 (True) ∧ optP (faV v0 4 1 false) s121 fun v122 s123 =>
 optP (ldV v122 1 false s123) s123 fun v124 s125 =>
 (True) ∧ optP (faV v0 5 1 false) s125 fun v126 s127 =>
 optP (ldV v126 1 false s127) s127 fun v128 s129 =>
 (True) ∧ optP (faV v0 8 1 false) s129 fun v130 s131 =>
 optP (ldV v130 1 false s131) s131 fun v132 s133 =>
 (True) ∧ ACalls E 81 [v120, v124, v128, v132] s133 fun v134 s135 =>
 (True) ∧ optP (extV v134 0) s135 fun v136 s137 =>
 optP (extV v134 1) s137 fun v138 s139 =>
 optP (extV v134 2) s139 fun v140 s141 =>
 splitP v140 (
 let k142 : St → Prop := (fun s143 =>
 let k144 : St → Prop := (fun s145 =>
 splitP (.b true) (
 optP (nilV a0) s145 fun v146 s147 =>
 optP (faV v146 6 1 false) s147 fun v148 s149 =>
 optP (ldV v148 1 false s149) s149 fun v150 s151 =>
 (True) ∧ optP (faV v0 6 1 false) s151 fun v152 s153 =>
 optP (ldV v152 1 false s153) s153 fun v154 s155 =>
 (True) ∧ optP (minV [v154, v136]) s155 fun v156 s157 =>
 optP (maxV [v150, v156]) s157 fun v158 s159 =>
 optP (nilV a0) s159 fun v160 s161 =>
 optP (faV v160 6 1 false) s161 fun v162 s163 =>
 optW (storeV v162 v158 1 s163) fun v164 s165 =>
 (True) ∧ k20 s165) (
 k20 s145));
 optP (binV .num .gtr v138 (.n .i64 0)) s143 fun v166 s167 =>
 splitP v166 (
 ACalls E 74 [a0, v138] s167 fun v168 s169 =>
 k144 s169) (
 k144 s167));
 splitP (.b true) (
 optP (faV v16 7 1 false) s141 fun v170 s171 =>
 optW (storeV v170 (.b true) 1 s171) fun v172 s173 =>
 optP (faV v16 4 1 false) s173 fun v174 s175 =>
 optW (storeV v174 v136 1 s175) fun v176 s177 =>
 k142 s177) (
 optP (faV v16 7 1 false) s141 fun v178 s179 =>
 optW (storeV v178 (.b false) 1 s179) fun v180 s181 =>
 optP (faV v16 4 1 false) s181 fun v182 s183 =>
 optW (storeV v182 v136 1 s183) fun v184 s185 =>
 k142 s185)) (
 let k186 : St → Prop := (fun s187 =>
 let k188 : St → Prop := (fun s189 =>
 splitP (.b false) (
 optP (nilV a0) s189 fun v190 s191 =>
 optP (faV v190 6 1 false) s191 fun v192 s193 =>
 optP (ldV v192 1 false s193) s193 fun v194 s195 =>
 (True) ∧ optP (faV v0 6 1 false) s195 fun v196 s197 =>
 optP (ldV v196 1 false s197) s197 fun v198 s199 =>
 (True) ∧ optP (minV [v198, v136]) s199 fun v200 s201 =>
 optP (maxV [v194, v200]) s201 fun v202 s203 =>
 optP (nilV a0) s203 fun v204 s205 =>
 optP (faV v204 6 1 false) s205 fun v206 s207 =>
 optW (storeV v206 v202 1 s207) fun v208 s209 =>
 (True) ∧ k20 s209) (
 k20 s189));
 optP (binV .num .gtr v138 (.n .i64 0)) s187 fun v210 s211 =>
 splitP v210 (
 ACalls E 74 [a0, v138] s211 fun v212 s213 =>
 k188 s213) (
 k188 s211));
 splitP (.b false) (
 optP (faV v16 7 1 false) s141 fun v214 s215 =>
 optW (storeV v214 (.b true) 1 s215) fun v216 s217 =>
 optP (faV v16 4 1 false) s217 fun v218 s219 =>
 optW (storeV v218 v136 1 s219) fun v220 s221 =>
 k186 s221) (
 optP (faV v16 7 1 false) s141 fun v222 s223 =>
 optW (storeV v222 (.b false) 1 s223) fun v224 s225 =>
 optP (faV v16 4 1 false) s225 fun v226 s227 =>
 optW (storeV v226 v136 1 s227) fun v228 s229 =>
 k186 s229))))
theorem e_raft_Raft_follows (E : Env) (a0 a1 : V) (s : St) (K : V → St → Prop) : axF E c_raft_Raft_follows [a0, a1] s K = p_raft_Raft_follows E a0 a1 s K := by kernel_rfl
theorem g_raft_Raft_follows {E : Env} {a0 a1 : V} {s : St} {K : V → St → Prop} (h : chkF E.P E.m (E.m 57) c_raft_Raft_follows = true) (hp : p_raft_Raft_follows E a0 a1 s K) : ACalls E 57 [a0, a1] s K :=
  acalls h rfl (by rw [e_raft_Raft_follows]; exact hp)

/-- (*strongroom/raft.Raft).told -/
def c_raft_Raft_told : AFunc := .mk 2 110 [] <|
  .seq (.reg [q 3 (.box (.t 1))]) <|
  .seq (.draw [qd (some 6) false [] (.mv (.t 0)), qd (some 7) false [] (.fa (.t 3) 1 1 false), qd (some 8) false [1] (.load (.t 7) 1 false), qd (some 9) false [0] (.nilchk (.t 6)), qd (some 10) false [0, 3] (.fa (.t 9) 14 16 true), qd (some 11) false [0, 1, 2, 3, 4] (.iaa (.t 10) (.t 8) 8 2), qd (some 4) false [0, 1, 2, 3, 4, 5] (.mv (.t 11))]) <|
  .seq (.seq (.reg [q 12 (.fa (.t 3) 0 1 false), q 13 (.load (.t 12) 1 false), qs 14 (.bin .num .eql (.t 13) (.c (.n .i64 6))), q 15 (.mv (.t 14)), qg 16 false 15 true (.fa (.t 3) 7 1 false), qg 17 true 15 true (.load (.t 16) 1 false), qg 18 false 15 true (.un .not (.t 17)), q 19 (.pick (.t 15) (.t 18) (.c (.b false)))]) <|
  .cond (.t 19) (.seq (.draw [qd (some 20) false [] (.mv (.t 4)), qd (some 21) false [] (.mv (.t 4)), qd (some 22) false [1] (.nilchk (.t 21)), qd (some 23) false [1, 2] (.fa (.t 22) 1 1 false), qd (some 24) false [1, 2, 3] (.load (.t 23) 1 false), qd (some 25) false [1, 2, 3, 4] (.bin .num .add (.t 24) (.c (.n .i64 1))), qd (some 26) false [] (.mv (.t 4)), qd (some 27) false [6] (.nilchk (.t 26)), qd (some 28) false [6, 7] (.fa (.t 27) 0 1 false), qd (some 29) false [6, 7, 8] (.load (.t 28) 1 false), qd (some 30) false [6, 7, 8, 9] (.bin .num .sub (.t 29) (.c (.n .i64 1))), qd (some 31) false [] (.fa (.t 3) 4 1 false), qd (some 32) false [11] (.load (.t 31) 1 false), qd (some 33) false [11, 12] (.bin .num .add (.t 32) (.c (.n .i64 1))), qd (some 34) false [6, 7, 8, 9, 10, 11, 12, 13] (.mn [(.t 30), (.t 33)]), qd (some 35) false [1, 2, 3, 4, 5, 6, 7, 8, 9, 10, 11, 12, 13, 14] (.mx [(.t 25), (.t 34)]), qd (some 36) false [0, 1, 2, 3, 4, 5, 6, 7, 8, 9, 10, 11, 12, 13, 14, 15] (.nilchk (.t 20)), qd (some 37) false [0, 1, 2, 3, 4, 5, 6, 7, 8, 9, 10, 11, 12, 13, 14, 15, 16] (.fa (.t 36) 0 1 false), qd none false [0, 1, 2, 3, 4, 5, 6, 7, 8, 9, 10, 11, 12, 13, 14, 15, 16, 17] (.store (.t 37) (.t 35) 1)]) <|
  .seq (.seq (.draw [qd (some 38) false [] (.mv (.t 0)), qd (some 39) false [0] (.call 24 [(.t 38)]), qd (some 40) false [] (.fa (.t 3) 1 1 false), qd (some 41) false [2] (.load (.t 40) 1 false), qd (some 42) true [0, 1, 2, 3] (.call 61 [(.t 39), (.t 41)])]) <|
  .cond (.t 42) (.reg [q 43 (.mv (.t 0)), q 44 (.fa (.t 3) 1 1 false), q 45 (.load (.t 44) 1 false), q 46 (.call 63 [(.t 43), (.t 45)])]) <|
  .skip) <|
  .ret) <|
  .skip) <|
  .seq (.draw [qd (some 47) false [] (.mv (.t 4)), qd (some 48) false [] (.mv (.t 4)), qd (some 49) false [1] (.nilchk (.t 48)), qd (some 50) false [1, 2] (.fa (.t 49) 1 1 false), qd (some 51) false [1, 2, 3] (.load (.t 50) 1 false), qd (some 52) false [] (.fa (.t 3) 4 1 false), qd (some 53) false [5] (.load (.t 52) 1 false), qd (some 54) false [1, 2, 3, 4, 5, 6] (.mx [(.t 51), (.t 53)]), qd (some 55) false [0, 1, 2, 3, 4, 5, 6, 7] (.nilchk (.t 47)), qd (some 56) false [0, 1, 2, 3, 4, 5, 6, 7, 8] (.fa (.t 55) 1 1 false), qd none false [0, 1, 2, 3, 4, 5, 6, 7, 8, 9] (.store (.t 56) (.t 54) 1)]) <|
  .seq (.reg [q 57 (.mv (.t 4)), q 58 (.mv (.t 4)), q 59 (.nilchk (.t 58)), q 60 (.fa (.t 59) 1 1 false), q 61 (.load (.t 60) 1 false), q 62 (.bin .num .add (.t 61) (.c (.n .i64 1))), q 63 (.nilchk (.t 57)), q 64 (.fa (.t 63) 0 1 false), qn (.store (.t 64) (.t 62) 1)]) <|
  .seq (.reg [q 65 (.mv (.t 0)), q 66 (.nilchk (.t 65)), q 67 (.fa (.t 66) 6 1 false), q 68 (.load (.t 67) 1 false), q 5 (.mv (.t 68))]) <|
  .seq (.reg [q 69 (.mv (.t 0)), q 70 (.call 75 [(.t 69)])]) <|
  .block 0 <|
  .seq (.reg [q 72 (.mv (.t 0)), q 73 (.nilchk (.t 72)), q 74 (.fa (.t 73) 3 1 false), q 75 (.load (.t 74) 1 false), qs 76 (.bin .num .neq (.t 75) (.c (.n .i64 3))), q 71 (.mv (.t 76))]) <|
  .cond (.t 71) (.skip) <|
  .seq (.reg [q 78 (.mv (.t 0)), q 79 (.nilchk (.t 78)), q 80 (.fa (.t 79) 6 1 false), q 81 (.load (.t 80) 1 false), q 82 (.mv (.t 5)), qs 83 (.bin .num .gtr (.t 81) (.t 82)), q 77 (.mv (.t 83))]) <|
  .cond (.t 77) (.reg [q 84 (.mv (.t 0)), q 85 (.mv (.t 0)), q 86 (.mkf 63 [(.t 85)] []), q 87 (.call 62 [(.t 84), (.t 86)])]) <|
  .seq (.draw [qd (some 89) false [] (.mv (.t 4)), qd (some 90) false [0] (.nilchk (.t 89)), qd (some 91) false [0, 1] (.fa (.t 90) 0 1 false), qd (some 92) false [0, 1, 2] (.load (.t 91) 1 false), qd (some 93) false [] (.mv (.t 0)), qd (some 94) false [4] (.nilchk (.t 93)), qd (some 95) false [4, 5] (.fa (.t 94) 5 1 false), qd (some 96) false [4, 5, 6] (.load (.t 95) 1 false), qd (some 97) false [4, 5, 6, 7] (.call 22 [(.t 96)]), qd (some 98) true [0, 1, 2, 3, 4, 5, 6, 7, 8] (.bin .num .leq (.t 92) (.t 97)), qd (some 99) false [0, 1, 2, 3, 4, 5, 6, 7, 8, 9] (.mv (.t 98)), qdg (some 100) false 99 true [0, 1, 2, 3, 4, 5, 6, 7, 8, 9, 10] (.mv (.t 0)), qdg (some 101) false 99 true [0, 1, 2, 3, 4, 5, 6, 7, 8, 9, 10, 11] (.call 24 [(.t 100)]), qdg (some 102) false 99 true [0, 1, 2, 3, 4, 5, 6, 7, 8, 9, 10] (.fa (.t 3) 1 1 false), qdg (some 103) false 99 true [0, 1, 2, 3, 4, 5, 6, 7, 8, 9, 10, 13] (.load (.t 102) 1 false), qdg (some 104) true 99 true [0, 1, 2, 3, 4, 5, 6, 7, 8, 9, 10, 11, 12, 13, 14] (.call 61 [(.t 101), (.t 103)]), qd (some 105) false [0, 1, 2, 3, 4, 5, 6, 7, 8, 9, 10, 11, 12, 13, 14, 15] (.pick (.t 99) (.t 104) (.c (.b false))), qd (some 88) false [0, 1, 2, 3, 4, 5, 6, 7, 8, 9, 10, 11, 12, 13, 14, 15, 16] (.mv (.t 105))]) <|
  .cond (.t 88) (.reg [q 106 (.mv (.t 0)), q 107 (.fa (.t 3) 1 1 false), q 108 (.load (.t 107) 1 false), q 109 (.call 63 [(.t 106), (.t 108)])]) <|
  .skip

/-- (*strongroom/raft.Raft).told -/
def p_raft_Raft_told (E : Env) (a0 a1 : V) (s : St) (K : V → St → Prop) : Prop :=
 optW (boxV a1 s) fun v0 s1 =>
 optP (faV v0 1 1 false) s1 fun v2 s3 =>
 optP (ldV v2 1 false s3) s3 fun v4 s5 =>
 (True) ∧ optP (nilV a0) s5 fun v6 s7 =>
 optP (faV v6 14 16 true) s7 fun v8 s9 =>
 optP (iaaV v8 v4 8 2) s9 fun v10 s11 =>
 let k12 : St → Prop := (fun s13 =>
 optP (nilV v10) s13 fun v14 s15 =>
 optP (faV v14 1 1 false) s15 fun v16 s17 =>
 optP (ldV v16 1 false s17) s17 fun v18 s19 =>
 (True) ∧ optP (faV v0 4 1 false) s19 fun v20 s21 =>
 optP (ldV v20 1 false s21) s21 fun v22 s23 =>
 (True) ∧ optP (maxV [v18, v22]) s23 fun v24 s25 =>
 optP (nilV v10) s25 fun v26 s27 =>
 optP (faV v26 1 1 false) s27 fun v28 s29 =>
 optW (storeV v28 v24 1 s29) fun v30 s31 =>
 (True) ∧ optP (nilV v10) s31 fun v32 s33 =>
 optP (faV v32 1 1 false) s33 fun v34 s35 =>
 optP (ldV v34 1 false s35) s35 fun v36 s37 =>
 optP (binV .num .add v36 (.n .i64 1)) s37 fun v38 s39 =>
 optP (nilV v10) s39 fun v40 s41 =>
 optP (faV v40 0 1 false) s41 fun v42 s43 =>
 optW (storeV v42 v38 1 s43) fun v44 s45 =>
 optP (nilV a0) s45 fun v46 s47 =>
 optP (faV v46 6 1 false) s47 fun v48 s49 =>
 optP (ldV v48 1 false s49) s49 fun v50 s51 =>
 ACalls E 75 [a0] s51 fun v52 s53 =>
 optP (nilV a0) s53 fun v54 s55 =>
 optP (faV v54 3 1 false) s55 fun v56 s57 =>
 optP (ldV v56 1 false s57) s57 fun v58 s59 =>
 optP (binV .num .neq v58 (.n .i64 3)) s59 fun v60 s61 =>
 splitP v60 (
 K (.tup []) s61) (
 optP (nilV a0) s61 fun v62 s63 =>
 optP (faV v62 6 1 false) s63 fun v64 s65 =>
 optP (ldV v64 1 false s65) s65 fun v66 s67 =>
 optP (binV .num .gtr v66 v50) s67 fun v68 s69 =>
 splitP v68 (
 ACalls E 62 [a0, (.f 63 [a0] [])] s69 fun v70 s71 =>
 K (.tup []) s71) (
 let k72 : St → Prop := (fun s73 =>
 K (.tup []) s73);
 optP (nilV v10) s69 fun v74 s75 =>
 optP (faV v74 0 1 false) s75 fun v76 s77 =>
 optP (ldV v76 1 false s77) s77 fun v78 s79 =>
 (True) ∧ optP (nilV a0) s79 fun v80 s81 =>
 optP (faV v80 5 1 false) s81 fun v82 s83 =>
 optP (ldV v82 1 false s83) s83 fun v84 s85 =>
 (True) ∧ ACalls E 22 [v84] s85 fun v86 s87 =>
 (ldV v76 1 false s87 = some v78 ∧ True) ∧ optP (binV .num .leq v78 v86) s87 fun v88 s89 =>
 splitP v88 (
 ACalls E 24 [a0] s89 fun v90 s91 =>
 (True) ∧ optP (faV v0 1 1 false) s91 fun v92 s93 =>
 optP (ldV v92 1 false s93) s93 fun v94 s95 =>
 (ldV v92 1 false s89 = some v94 ∧ True) ∧ ACalls E 61 [v90, v94] s95 fun v96 s97 =>
 splitP v96 (
 (True) ∧ optP (faV v0 1 1 false) s97 fun v98 s99 =>
 optP (ldV v98 1 false s99) s99 fun v100 s101 =>
 ACalls E 63 [a0, v100] s101 fun v102 s103 =>
 K (.tup []) s103) (
 (True) ∧ k72 s97)) (
 (True) ∧ ((some (.tup []) : Option V) = some (.tup []) ∧ True) ∧ (True) ∧ k72 s89))));
 optP (faV v0 0 1 false) s11 fun v104 s105 =>
 optP (ldV v104 1 false s105) s105 fun v106 s107 =>
 optP (binV .num .eql v106 (.n .i64 6)) s107 fun v108 s109 =>
 splitP v108 (
 optP (faV v0 7 1 false) s109 fun v110 s111 =>
 optP (ldV v110 1 false s111) s111 fun v112 s113 =>
 splitP v112 (
 k12 s113) (
 optP (nilV v10) s113 fun v114 s115 =>
 optP (faV v114 1 1 false) s115 fun v116 s117 =>
 optP (ldV v116 1 false s117) s117 fun v118 s119 =>
 (True) ∧ optP (binV .num .add v118 (.n .i64 1)) s119 fun v120 s121 =>
 optP (nilV v10) s121 fun v122 s123 =>
 optP (faV v122 0 1 false) s123 fun v124 s125 =>
 optP (ldV v124 1 false s125) s125 fun v126 s127 =>
 (True) ∧ optP (binV .num .sub v126 (.n .i64 1)) s127 fun v128 s129 =>
 optP (faV v0 4 1 false) s129 fun v130 s131 =>
 optP (ldV v130 1 false s131) s131 fun v132 s133 =>
 (True) ∧ optP (binV .num .add v132 (.n .i64 1)) s133 fun v134 s135 =>
 optP (minV [v128, v134]) s135 fun v136 s137 =>
 optP (maxV [v120, v136]) s137 fun v138 s139 =>
 optP (nilV v10) s139 fun v140 s141 =>
 optP (faV v140 0 1 false) s141 fun v142 s143 =>
 optW (storeV v142 v138 1 s143) fun v144 s145 =>
 (True) ∧ let k146 : St → Prop := (fun s147 =>
 K (.tup []) s147);
 ACalls E 24 [a0] s145 fun v148 s149 =>
 (True) ∧ optP (faV v0 1 1 false) s149 fun v150 s151 =>
 optP (ldV v150 1 false s151) s151 fun v152 s153 =>
 (ldV v150 1 false s145 = some v152 ∧ True) ∧ ACalls E 61 [v148, v152] s153 fun v154 s155 =>
 splitP v154 (
 (True) ∧ optP (faV v0 1 1 false) s155 fun v156 s157 =>
 optP (ldV v156 1 false s157) s157 fun v158 s159 =>
 ACalls E 63 [a0, v158] s159 fun v160 s161 =>
 k146 s161) (
 (True) ∧ k146 s155))) (
 k12 s109)
theorem e_raft_Raft_told (E : Env) (a0 a1 : V) (s : St) (K : V → St → Prop) : axF E c_raft_Raft_told [a0, a1] s K = p_raft_Raft_told E a0 a1 s K := by kernel_rfl
theorem g_raft_Raft_told {E : Env} {a0 a1 : V} {s : St} {K : V → St → Prop} (h : chkF E.P E.m (E.m 58) c_raft_Raft_told = true) (hp : p_raft_Raft_told E a0 a1 s K) : ACalls E 58 [a0, a1] s K :=
  acalls h rfl (by rw [e_raft_Raft_told]; exact hp)

end Go.Ab

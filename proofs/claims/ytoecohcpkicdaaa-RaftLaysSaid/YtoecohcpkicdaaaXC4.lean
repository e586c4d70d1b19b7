/-
  The program's code, resolved, and its shallow form (printed by a program). No condition.
-/
import Derived.Test.YtoecohcpkicdaaaXC
import Derived.Test.YtoecohcpkicdaaaXCl
import Derived.KernelRfl
set_option linter.unusedVariables false
set_option linter.unusedSimpArgs false
set_option linter.unnecessarySimpa false
namespace Go.Ab
/-- strongroom/quorum.Agreed -/
def c_quorum_Agreed : AFunc := .mk 2 38 [.t 4] <|
  .seq (.reg [q 4 (.mv (.c (.n .i64 0)))]) <|
  .seq (.reg [q 5 (.mv (.c (.l 1 [] .nil)))]) <|
  .seq (.seq (.reg [q 8 (.mv (.t 0)), q 9 (.len (.t 8)), q 10 (.mv (.c (.n .i64 0)))]) <|
  .block 0 <|
  .loop [5, 10] [1, 8, 9] <|
  .seq (.reg [qs 11 (.bin .num .lss (.t 10) (.t 9))]) <|
  .seq (.cond (.t 11) (.skip) <|
  .exit 0) <|
  .seq (.block 1 <|
  .seq (.reg [q 12 (.ias (.t 8) (.t 10) 1), q 13 (.load (.t 12) 1 false), q 7 (.mv (.t 13))]) <|
  .seq (.reg [q 14 (.mv (.t 7)), q 15 (.mv (.t 1)), q 16 (.len (.t 15)), qs 17 (.bin .num .lss (.t 14) (.t 16))]) <|
  .cond (.t 17) (.reg [q 18 (.mv (.t 5)), q 19 (.mv (.t 1)), q 20 (.mv (.t 7)), q 21 (.ias (.t 19) (.t 20) 1), q 22 (.load (.t 21) 1 false), q 23 (.mks 1 [(.t 22)]), q 24 (.app (.t 18) (.t 23) 1 8), q 5 (.mv (.t 24))]) <|
  .reg [q 25 (.mv (.t 5)), q 26 (.mks 1 [(.c (.n .i64 0))]), q 27 (.app (.t 25) (.t 26) 1 8), q 5 (.mv (.t 27))]) <|
  .reg [q 28 (.bin .num .add (.t 10) (.c (.n .i64 1))), q 10 (.mv (.t 28))]) <|
  .seq (.reg [q 29 (.mv (.t 5)), q 30 (.call 102 [(.t 29)])]) <|
  .seq (.reg [q 31 (.mv (.t 5)), q 32 (.mv (.t 5)), q 33 (.len (.t 32)), q 34 (.bin .num .sub (.t 33) (.c (.n .i64 1))), q 35 (.bin .num .quo (.t 34) (.c (.n .i64 2))), q 36 (.ias (.t 31) (.t 35) 1), q 37 (.load (.t 36) 1 false), q 4 (.mv (.t 37))]) <|
  .ret

/-- strongroom/quorum.Agreed -/
def p_quorum_Agreed (E : Env) (a0 a1 : V) (s : St) (K : V → St → Prop) : Prop :=
 optP (lenV a0) s fun v0 s1 =>
 ∃ I2 : Nat → List V → St → Prop, (∃ n3, I2 n3 [(.l 1 [] .nil), (.n .i64 0)] s1) ∧ ∀ n3, ∀ x5 : V, ∀ x6 : V, ∀ s4, I2 n3 [x5, x6] s4 →
 optP (binV .num .lss x6 v0) s4 fun v8 s9 =>
 splitP v8 (
 let k10 : V → St → Prop := (fun x12 s11 =>
 optP (binV .num .add x6 (.n .i64 1)) s11 fun v13 s14 =>
 (a1 : V) = a1 ∧ (a0 : V) = a0 ∧ (v0 : V) = v0 ∧ ∃ n7, n7 < n3 ∧ I2 n7 [x12, v13] s14);
 optP (iasV a0 x6 1) s9 fun v15 s16 =>
 optP (ldV v15 1 false s16) s16 fun v17 s18 =>
 optP (lenV a1) s18 fun v19 s20 =>
 optP (binV .num .lss v17 v19) s20 fun v21 s22 =>
 splitP v21 (
 optP (iasV a1 v17 1) s22 fun v23 s24 =>
 optP (ldV v23 1 false s24) s24 fun v25 s26 =>
 optP (mksV 1 [v25]) s26 fun v27 s28 =>
 optW (appV x5 v27 1 8 s28) fun v29 s30 =>
 k10 v29 s30) (
 optP (mksV 1 [(.n .i64 0)]) s22 fun v31 s32 =>
 optW (appV x5 v31 1 8 s32) fun v33 s34 =>
 k10 v33 s34)) (
 ACalls E 102 [x5] s9 fun v35 s36 =>
 optP (lenV x5) s36 fun v37 s38 =>
 optP (binV .num .sub v37 (.n .i64 1)) s38 fun v39 s40 =>
 optP (binV .num .quo v39 (.n .i64 2)) s40 fun v41 s42 =>
 optP (iasV x5 v41 1) s42 fun v43 s44 =>
 optP (ldV v43 1 false s44) s44 fun v45 s46 =>
 K v45 s46)
theorem e_quorum_Agreed (E : Env) (a0 a1 : V) (s : St) (K : V → St → Prop) : axF E c_quorum_Agreed [a0, a1] s K = p_quorum_Agreed E a0 a1 s K := by kernel_rfl
theorem g_quorum_Agreed {E : Env} {a0 a1 : V} {s : St} {K : V → St → Prop} (h : chkF E.P E.m (E.m 91) c_quorum_Agreed = true) (hp : p_quorum_Agreed E a0 a1 s K) : ACalls E 91 [a0, a1] s K :=
  acalls h rfl (by rw [e_quorum_Agreed]; exact hp)

/-- strongroom/quorum.Agreed -/
def cm_quorum_Agreed : AFunc := .mk 2 38 [.t 4] <|
  .seq (.reg [q 4 (.mv (.c (.n .i64 0)))]) <|
  .seq (.reg [q 5 (.mv (.c (.l 1 [] .nil)))]) <|
  .seq (.seq (.reg [q 8 (.mv (.t 0)), q 9 (.len (.t 8)), q 10 (.mv (.c (.n .i64 0)))]) <|
  .block 0 <|
  .loop [5, 10] [1, 8, 9] <|
  .seq (.reg [qs 11 (.bin .num .lss (.t 10) (.t 9))]) <|
  .seq (.cond (.t 11) (.skip) <|
  .exit 0) <|
  .seq (.block 1 <|
  .seq (.reg [q 12 (.ias (.t 8) (.t 10) 1), q 13 (.load (.t 12) 1 false), q 7 (.mv (.t 13))]) <|
  .seq (.reg [q 14 (.mv (.t 7)), q 15 (.mv (.t 1)), q 16 (.len (.t 15)), qs 17 (.bin .num .lss (.t 14) (.t 16))]) <|
  .cond (.t 17) (.reg [q 18 (.mv (.t 5)), q 19 (.mv (.t 1)), q 20 (.mv (.t 7)), q 21 (.ias (.t 19) (.t 20) 1), q 22 (.load (.t 21) 1 false), q 23 (.mks 1 [(.t 22)]), q 24 (.appm (.t 18) (.t 23) 1 8), q 5 (.mv (.t 24))]) <|
  .reg [q 25 (.mv (.t 5)), q 26 (.mks 1 [(.c (.n .i64 0))]), q 27 (.appm (.t 25) (.t 26) 1 8), q 5 (.mv (.t 27))]) <|
  .reg [q 28 (.bin .num .add (.t 10) (.c (.n .i64 1))), q 10 (.mv (.t 28))]) <|
  .seq (.reg [q 29 (.mv (.t 5)), q 30 (.call 102 [(.t 29)])]) <|
  .seq (.reg [q 31 (.mv (.t 5)), q 32 (.mv (.t 5)), q 33 (.len (.t 32)), q 34 (.bin .num .sub (.t 33) (.c (.n .i64 1))), q 35 (.bin .num .quo (.t 34) (.c (.n .i64 2))), q 36 (.ias (.t 31) (.t 35) 1), q 37 (.load (.t 36) 1 false), q 4 (.mv (.t 37))]) <|
  .ret

/-- strongroom/quorum.Agreed -/
def pm_quorum_Agreed (E : Env) (a0 a1 : V) (s : St) (K : V → St → Prop) : Prop :=
 optP (lenV a0) s fun v0 s1 =>
 ∃ I2 : Nat → List V → St → Prop, (∃ n3, I2 n3 [(.l 1 [] .nil), (.n .i64 0)] s1) ∧ ∀ n3, ∀ x5 : V, ∀ x6 : V, ∀ s4, I2 n3 [x5, x6] s4 →
 optP (binV .num .lss x6 v0) s4 fun v8 s9 =>
 splitP v8 (
 let k10 : V → St → Prop := (fun x12 s11 =>
 optP (binV .num .add x6 (.n .i64 1)) s11 fun v13 s14 =>
 (a1 : V) = a1 ∧ (a0 : V) = a0 ∧ (v0 : V) = v0 ∧ ∃ n7, n7 < n3 ∧ I2 n7 [x12, v13] s14);
 optP (iasV a0 x6 1) s9 fun v15 s16 =>
 optP (ldV v15 1 false s16) s16 fun v17 s18 =>
 optP (lenV a1) s18 fun v19 s20 =>
 optP (binV .num .lss v17 v19) s20 fun v21 s22 =>
 splitP v21 (
 optP (iasV a1 v17 1) s22 fun v23 s24 =>
 optP (ldV v23 1 false s24) s24 fun v25 s26 =>
 optP (mksV 1 [v25]) s26 fun v27 s28 =>
 appmP x5 v27 1 8 s28 fun v29 s30 =>
 k10 v29 s30) (
 optP (mksV 1 [(.n .i64 0)]) s22 fun v31 s32 =>
 appmP x5 v31 1 8 s32 fun v33 s34 =>
 k10 v33 s34)) (
 ACalls E 102 [x5] s9 fun v35 s36 =>
 optP (lenV x5) s36 fun v37 s38 =>
 optP (binV .num .sub v37 (.n .i64 1)) s38 fun v39 s40 =>
 optP (binV .num .quo v39 (.n .i64 2)) s40 fun v41 s42 =>
 optP (iasV x5 v41 1) s42 fun v43 s44 =>
 optP (ldV v43 1 false s44) s44 fun v45 s46 =>
 K v45 s46)
theorem em_quorum_Agreed (E : Env) (a0 a1 : V) (s : St) (K : V → St → Prop) : axF E cm_quorum_Agreed [a0, a1] s K = pm_quorum_Agreed E a0 a1 s K := by kernel_rfl
theorem gm_quorum_Agreed {E : Env} {a0 a1 : V} {s : St} {K : V → St → Prop} (h : chkF E.P E.m (E.m 91) cm_quorum_Agreed = true) (hp : pm_quorum_Agreed E a0 a1 s K) : ACalls E 91 [a0, a1] s K :=
  acalls h rfl (by rw [em_quorum_Agreed]; exact hp)

/-- slices.Clone[[]strongroom/api.Entry,strongroom/api.Entry] -/
def c_slices_Clone_api_Entry_api_Entry : AFunc := .mk 1 8 [.t 2] <|
  .seq (.reg [q 2 (.mv (.c (.l 4 [] .nil)))]) <|
  .seq (.seq (.reg [q 3 (.mv (.t 0)), qs 4 (.bin .slice .eql (.t 3) (.c (.l 4 [] .nil)))]) <|
  .cond (.t 4) (.seq (.reg [q 2 (.mv (.c (.l 4 [] .nil)))]) <|
  .ret) <|
  .skip) <|
  .seq (.reg [q 5 (.mks 4 []), q 6 (.mv (.t 0)), q 7 (.app (.t 5) (.t 6) 4 64), q 2 (.mv (.t 7))]) <|
  .ret

/-- slices.Clone[[]strongroom/api.Entry,strongroom/api.Entry] -/
def p_slices_Clone_api_Entry_api_Entry (E : Env) (a0 : V) (s : St) (K : V → St → Prop) : Prop :=
 optP (binV .slice .eql a0 (.l 4 [] .nil)) s fun v0 s1 =>
 splitP v0 (
 K (.l 4 [] .nil) s1) (
 optP (mksV 4 []) s1 fun v2 s3 =>
 optW (appV v2 a0 4 64 s3) fun v4 s5 =>
 K v4 s5)
theorem e_slices_Clone_api_Entry_api_Entry (E : Env) (a0 : V) (s : St) (K : V → St → Prop) : axF E c_slices_Clone_api_Entry_api_Entry [a0] s K = p_slices_Clone_api_Entry_api_Entry E a0 s K := by kernel_rfl
theorem g_slices_Clone_api_Entry_api_Entry {E : Env} {a0 : V} {s : St} {K : V → St → Prop} (h : chkF E.P E.m (E.m 92) c_slices_Clone_api_Entry_api_Entry = true) (hp : p_slices_Clone_api_Entry_api_Entry E a0 s K) : ACalls E 92 [a0] s K :=
  acalls h rfl (by rw [e_slices_Clone_api_Entry_api_Entry]; exact hp)

/-- slices.DeleteFunc[[]int,int] -/
def c_slices_DeleteFunc_int_int : AFunc := .mk 2 42 [.t 4] <|
  .seq (.reg [q 4 (.mv (.c (.l 1 [] .nil)))]) <|
  .seq (.reg [q 8 (.mv (.t 0)), q 9 (.mv (.t 1)), q 10 (.call 85 [(.t 8), (.t 9)]), q 5 (.mv (.t 10))]) <|
  .seq (.seq (.reg [q 11 (.mv (.t 5)), qs 12 (.bin .num .eql (.t 11) (.c (.n .i64 (-1))))]) <|
  .cond (.t 12) (.seq (.reg [q 13 (.mv (.t 0)), q 4 (.mv (.t 13))]) <|
  .ret) <|
  .skip) <|
  .seq (.seq (.reg [q 14 (.mv (.t 5)), q 15 (.bin .num .add (.t 14) (.c (.n .i64 1))), q 6 (.mv (.t 15))]) <|
  .block 0 <|
  .loop [5, 6] [0, 1] <|
  .seq (.seq (.reg [q 16 (.mv (.t 6)), q 17 (.mv (.t 0)), q 18 (.len (.t 17)), qs 19 (.bin .num .lss (.t 16) (.t 18))]) <|
  .cond (.t 19) (.skip) <|
  .exit 0) <|
  .seq (.block 1 <|
  .seq (.reg [q 22 (.mv (.t 0)), q 23 (.mv (.t 6)), q 24 (.ias (.t 22) (.t 23) 1), q 25 (.load (.t 24) 1 false), q 7 (.mv (.t 25))]) <|
  .seq (.reg [q 26 (.mv (.t 1)), q 27 (.mv (.t 7)), qs 28 (.callv (.t 26) [(.t 27)]), q 29 (.un .not (.t 28))]) <|
  .cond (.t 29) (.seq (.reg [q 30 (.mv (.t 0)), q 31 (.mv (.t 5)), q 32 (.mv (.t 7)), q 33 (.ias (.t 30) (.t 31) 1), qn (.store (.t 33) (.t 32) 1)]) <|
  .reg [q 34 (.mv (.t 5)), q 35 (.bin .num .add (.t 34) (.c (.n .i64 1))), q 5 (.mv (.t 35))]) <|
  .skip) <|
  .reg [q 20 (.mv (.t 6)), q 21 (.bin .num .add (.t 20) (.c (.n .i64 1))), q 6 (.mv (.t 21))]) <|
  .seq (.reg [q 36 (.mv (.t 0)), q 37 (.mv (.t 5)), q 38 (.slc (.t 36) (some (.t 37)) none none 1), qn (.clr (.t 38) [.n .i64 0])]) <|
  .seq (.reg [q 39 (.mv (.t 0)), q 40 (.mv (.t 5)), q 41 (.slc (.t 39) none (some (.t 40)) none 1), q 4 (.mv (.t 41))]) <|
  .ret

/-- slices.DeleteFunc[[]int,int] -/
def p_slices_DeleteFunc_int_int (E : Env) (a0 a1 : V) (s : St) (K : V → St → Prop) : Prop :=
 ACalls E 85 [a0, a1] s fun v0 s1 =>
 optP (binV .num .eql v0 (.n .i64 (-1))) s1 fun v2 s3 =>
 splitP v2 (
 K a0 s3) (
 optP (binV .num .add v0 (.n .i64 1)) s3 fun v4 s5 =>
 ∃ I6 : Nat → List V → St → Prop, (∃ n7, I6 n7 [v0, v4] s5) ∧ ∀ n7, ∀ x9 : V, ∀ x10 : V, ∀ s8, I6 n7 [x9, x10] s8 →
 optP (lenV a0) s8 fun v12 s13 =>
 optP (binV .num .lss x10 v12) s13 fun v14 s15 =>
 splitP v14 (
 let k16 : V → St → Prop := (fun x18 s17 =>
 optP (binV .num .add x10 (.n .i64 1)) s17 fun v19 s20 =>
 (a0 : V) = a0 ∧ (a1 : V) = a1 ∧ ∃ n11, n11 < n7 ∧ I6 n11 [x18, v19] s20);
 optP (iasV a0 x10 1) s15 fun v21 s22 =>
 optP (ldV v21 1 false s22) s22 fun v23 s24 =>
 callV E a1 [v23] s24 fun v25 s26 =>
 splitP v25 (
 k16 x9 s26) (
 optP (iasV a0 x9 1) s26 fun v27 s28 =>
 optW (storeV v27 v23 1 s28) fun v29 s30 =>
 optP (binV .num .add x9 (.n .i64 1)) s30 fun v31 s32 =>
 k16 v31 s32)) (
 optP (slcV a0 (some x9) none none 1) s15 fun v33 s34 =>
 optW (clrV v33 [.n .i64 0] s34) fun v35 s36 =>
 optP (slcV a0 none (some x9) none 1) s36 fun v37 s38 =>
 K v37 s38))
theorem e_slices_DeleteFunc_int_int (E : Env) (a0 a1 : V) (s : St) (K : V → St → Prop) : axF E c_slices_DeleteFunc_int_int [a0, a1] s K = p_slices_DeleteFunc_int_int E a0 a1 s K := by kernel_rfl
theorem g_slices_DeleteFunc_int_int {E : Env} {a0 a1 : V} {s : St} {K : V → St → Prop} (h : chkF E.P E.m (E.m 93) c_slices_DeleteFunc_int_int = true) (hp : p_slices_DeleteFunc_int_int E a0 a1 s K) : ACalls E 93 [a0, a1] s K :=
  acalls h rfl (by rw [e_slices_DeleteFunc_int_int]; exact hp)

/-- slices.DeleteFunc[[]int,int] -/
def cm_slices_DeleteFunc_int_int : AFunc := .mk 2 42 [.t 4] <|
  .seq (.reg [q 4 (.mv (.c (.l 1 [] .nil)))]) <|
  .seq (.reg [q 8 (.mv (.t 0)), q 9 (.mv (.t 1)), q 10 (.call 85 [(.t 8), (.t 9)]), q 5 (.mv (.t 10))]) <|
  .seq (.seq (.reg [q 11 (.mv (.t 5)), qs 12 (.bin .num .eql (.t 11) (.c (.n .i64 (-1))))]) <|
  .cond (.t 12) (.seq (.reg [q 13 (.mv (.t 0)), q 4 (.mv (.t 13))]) <|
  .ret) <|
  .skip) <|
  .seq (.seq (.reg [q 14 (.mv (.t 5)), q 15 (.bin .num .add (.t 14) (.c (.n .i64 1))), q 6 (.mv (.t 15))]) <|
  .block 0 <|
  .loop [5, 6] [0, 1] <|
  .seq (.seq (.reg [q 16 (.mv (.t 6)), q 17 (.mv (.t 0)), q 18 (.len (.t 17)), qs 19 (.bin .num .lss (.t 16) (.t 18))]) <|
  .cond (.t 19) (.skip) <|
  .exit 0) <|
  .seq (.block 1 <|
  .seq (.reg [q 22 (.mv (.t 0)), q 23 (.mv (.t 6)), q 24 (.ias (.t 22) (.t 23) 1), q 25 (.load (.t 24) 1 false), q 7 (.mv (.t 25))]) <|
  .seq (.reg [q 26 (.mv (.t 1)), q 27 (.mv (.t 7)), qs 28 (.callv (.t 26) [(.t 27)]), q 29 (.un .not (.t 28))]) <|
  .cond (.t 29) (.seq (.reg [q 30 (.mv (.t 0)), q 31 (.mv (.t 5)), q 32 (.mv (.t 7)), q 33 (.ias (.t 30) (.t 31) 1), qn (.store (.t 33) (.t 32) 1)]) <|
  .reg [q 34 (.mv (.t 5)), q 35 (.bin .num .add (.t 34) (.c (.n .i64 1))), q 5 (.mv (.t 35))]) <|
  .skip) <|
  .reg [q 20 (.mv (.t 6)), q 21 (.bin .num .add (.t 20) (.c (.n .i64 1))), q 6 (.mv (.t 21))]) <|
  .seq (.reg [q 36 (.mv (.t 0)), q 37 (.mv (.t 5)), q 38 (.slc (.t 36) (some (.t 37)) none none 1), qn (.clr (.t 38) [.n .i64 0])]) <|
  .seq (.reg [q 39 (.mv (.t 0)), q 40 (.mv (.t 5)), q 41 (.slc (.t 39) none (some (.t 40)) none 1), q 4 (.mv (.t 41))]) <|
  .ret

/-- slices.DeleteFunc[[]int,int] -/
def pm_slices_DeleteFunc_int_int (E : Env) (a0 a1 : V) (s : St) (K : V → St → Prop) : Prop :=
 ACalls E 85 [a0, a1] s fun v0 s1 =>
 optP (binV .num .eql v0 (.n .i64 (-1))) s1 fun v2 s3 =>
 splitP v2 (
 K a0 s3) (
 optP (binV .num .add v0 (.n .i64 1)) s3 fun v4 s5 =>
 ∃ I6 : Nat → List V → St → Prop, (∃ n7, I6 n7 [v0, v4] s5) ∧ ∀ n7, ∀ x9 : V, ∀ x10 : V, ∀ s8, I6 n7 [x9, x10] s8 →
 optP (lenV a0) s8 fun v12 s13 =>
 optP (binV .num .lss x10 v12) s13 fun v14 s15 =>
 splitP v14 (
 let k16 : V → St → Prop := (fun x18 s17 =>
 optP (binV .num .add x10 (.n .i64 1)) s17 fun v19 s20 =>
 (a0 : V) = a0 ∧ (a1 : V) = a1 ∧ ∃ n11, n11 < n7 ∧ I6 n11 [x18, v19] s20);
 optP (iasV a0 x10 1) s15 fun v21 s22 =>
 optP (ldV v21 1 false s22) s22 fun v23 s24 =>
 callV E a1 [v23] s24 fun v25 s26 =>
 splitP v25 (
 k16 x9 s26) (
 optP (iasV a0 x9 1) s26 fun v27 s28 =>
 optW (storeV v27 v23 1 s28) fun v29 s30 =>
 optP (binV .num .add x9 (.n .i64 1)) s30 fun v31 s32 =>
 k16 v31 s32)) (
 optP (slcV a0 (some x9) none none 1) s15 fun v33 s34 =>
 optW (clrV v33 [.n .i64 0] s34) fun v35 s36 =>
 optP (slcV a0 none (some x9) none 1) s36 fun v37 s38 =>
 K v37 s38))
theorem em_slices_DeleteFunc_int_int (E : Env) (a0 a1 : V) (s : St) (K : V → St → Prop) : axF E cm_slices_DeleteFunc_int_int [a0, a1] s K = pm_slices_DeleteFunc_int_int E a0 a1 s K := by kernel_rfl
theorem gm_slices_DeleteFunc_int_int {E : Env} {a0 a1 : V} {s : St} {K : V → St → Prop} (h : chkF E.P E.m (E.m 93) cm_slices_DeleteFunc_int_int = true) (hp : pm_slices_DeleteFunc_int_int E a0 a1 s K) : ACalls E 93 [a0, a1] s K :=
  acalls h rfl (by rw [em_slices_DeleteFunc_int_int]; exact hp)

/-- strongroom/quorum.Most$1 -/
def c_quorum_Most_c1 : AFunc := .mk 2 8 [.t 3] <|
  .seq (.reg [q 3 (.mv (.c (.b false)))]) <|
  .seq (.reg [q 4 (.load (.t 1) 1 false), q 5 (.mv (.t 0)), qs 6 (.call 61 [(.t 4), (.t 5)]), q 7 (.un .not (.t 6)), q 3 (.mv (.t 7))]) <|
  .ret

/-- strongroom/quorum.Most$1 -/
def p_quorum_Most_c1 (E : Env) (a0 a1 : V) (s : St) (K : V → St → Prop) : Prop :=
 optP (ldV a1 1 false s) s fun v0 s1 =>
 ACalls E 61 [v0, a0] s1 fun v2 s3 =>
 splitP v2 (
 K (.b false) s3) (
 K (.b true) s3)
theorem e_quorum_Most_c1 (E : Env) (a0 a1 : V) (s : St) (K : V → St → Prop) : axF E c_quorum_Most_c1 [a0, a1] s K = p_quorum_Most_c1 E a0 a1 s K := by kernel_rfl
theorem g_quorum_Most_c1 {E : Env} {a0 a1 : V} {s : St} {K : V → St → Prop} (h : chkF E.P E.m (E.m 94) c_quorum_Most_c1 = true) (hp : p_quorum_Most_c1 E a0 a1 s K) : ACalls E 94 [a0, a1] s K :=
  acalls h rfl (by rw [e_quorum_Most_c1]; exact hp)

/-- (*strongroom/entries.Log).Join$1 -/
def c_entries_Log_Join_c1 : AFunc := .mk 3 31 [.t 4] <|
  .seq (.reg [q 3 (.box (.t 0)), q 4 (.mv (.c (.b false)))]) <|
  .seq (.reg [q 7 (.load (.t 1) 1 false), q 8 (.bin .num .add (.t 7) (.c (.n .i64 1))), qn (.store (.t 1) (.t 8) 1)]) <|
  .seq (.reg [q 10 (.load (.t 2) 1 false), q 11 (.load (.t 1) 1 false), q 12 (.call 42 [(.t 10), (.t 11)]), q 9 (.mv (.t 12)), q 13 (.ext (.t 9) 0), q 14 (.ext (.t 9) 1), q 5 (.mv (.t 13)), q 6 (.mv (.t 14))]) <|
  .seq (.draw [qd (some 15) false [] (.load (.t 1) 1 false), qd (some 16) false [] (.load (.t 2) 1 false), qd (some 17) false [1] (.nilchk (.t 16)), qd (some 18) false [1, 2] (.fa (.t 17) 0 1 false), qd (some 19) false [1, 2, 3] (.load (.t 18) 1 false), qd (some 20) true [0, 1, 2, 3, 4] (.bin .num .gtr (.t 15) (.t 19)), qd (some 21) false [0, 1, 2, 3, 4, 5] (.mv (.t 20)), qdg (some 22) false 21 true [0, 1, 2, 3, 4, 5, 6] (.mv (.t 6)), qdg (some 23) true 21 true [0, 1, 2, 3, 4, 5, 6, 7] (.bin .num .neq (.t 22) (.c (.n .i64 0))), qdg (some 24) false 21 true [0, 1, 2, 3, 4, 5, 6, 7, 8] (.mv (.t 23)), qdg (some 25) false 24 false [0, 1, 2, 3, 4, 5, 6, 7, 8, 9] (.mv (.t 5)), qdg (some 26) false 24 false [0, 1, 2, 3, 4, 5, 6, 7, 8, 9] (.fa (.t 3) 0 1 false), qdg (some 27) false 24 false [0, 1, 2, 3, 4, 5, 6, 7, 8, 9, 11] (.load (.t 26) 1 false), qdg (some 28) true 24 false [0, 1, 2, 3, 4, 5, 6, 7, 8, 9, 10, 11, 12] (.bin .num .neq (.t 25) (.t 27)), qdg (some 29) false 21 true [0, 1, 2, 3, 4, 5, 6, 7, 8, 9, 10, 11, 12, 13] (.pick (.t 24) (.c (.b true)) (.t 28)), qd (some 30) false [0, 1, 2, 3, 4, 5, 6, 7, 8, 9, 10, 11, 12, 13, 14] (.pick (.t 21) (.t 29) (.c (.b false))), qd (some 4) false [0, 1, 2, 3, 4, 5, 6, 7, 8, 9, 10, 11, 12, 13, 14, 15] (.mv (.t 30))]) <|
  .ret

/-- (*strongroom/entries.Log).Join$1 -/
def p_entries_Log_Join_c1 (E : Env) (a0 a1 a2 : V) (s : St) (K : V → St → Prop) : Prop :=
 optW (boxV a0 s) fun v0 s1 =>
 optP (ldV a1 1 false s1) s1 fun v2 s3 =>
 optP (binV .num .add v2 (.n .i64 1)) s3 fun v4 s5 =>
 optW (storeV a1 v4 1 s5) fun v6 s7 =>
 optP (ldV a2 1 false s7) s7 fun v8 s9 =>
 optP (ldV a1 1 false s9) s9 fun v10 s11 =>
 ACalls E 42 [v8, v10] s11 fun v12 s13 =>
 optP (extV v12 0) s13 fun v14 s15 =>
 optP (extV v12 1) s15 fun v16 s17 =>
 let k18 : St → Prop := (fun s19 =>
 K (.b true) s19);
 let k20 : St → Prop := (fun s21 =>
 K (.b false) s21);
 optP (ldV a1 1 false s17) s17 fun v22 s23 =>
 (True) ∧ optP (ldV a2 1 false s23) s23 fun v24 s25 =>
 (True) ∧ optP (nilV v24) s25 fun v26 s27 =>
 optP (faV v26 0 1 false) s27 fun v28 s29 =>
 optP (ldV v28 1 false s29) s29 fun v30 s31 =>
 (True) ∧ optP (binV .num .gtr v22 v30) s31 fun v32 s33 =>
 splitP v32 (
 optP (binV .num .neq v16 (.n .i64 0)) s33 fun v34 s35 =>
 splitP v34 (
 (True) ∧ k18 s35) (
 optP (faV v0 0 1 false) s35 fun v36 s37 =>
 optP (ldV v36 1 false s37) s37 fun v38 s39 =>
 (True) ∧ optP (binV .num .neq v14 v38) s39 fun v40 s41 =>
 splitP v40 (
 k18 s41) (
 k20 s41))) (
 (True) ∧ k20 s33)
theorem e_entries_Log_Join_c1 (E : Env) (a0 a1 a2 : V) (s : St) (K : V → St → Prop) : axF E c_entries_Log_Join_c1 [a0, a1, a2] s K = p_entries_Log_Join_c1 E a0 a1 a2 s K := by kernel_rfl
theorem g_entries_Log_Join_c1 {E : Env} {a0 a1 a2 : V} {s : St} {K : V → St → Prop} (h : chkF E.P E.m (E.m 95) c_entries_Log_Join_c1 = true) (hp : p_entries_Log_Join_c1 E a0 a1 a2 s K) : ACalls E 95 [a0, a1, a2] s K :=
  acalls h rfl (by rw [e_entries_Log_Join_c1]; exact hp)

/-- slices.Index[[]int,int] -/
def c_slices_Index_int_int : AFunc := .mk 2 19 [.t 4] <|
  .seq (.reg [q 4 (.mv (.c (.n .i64 0)))]) <|
  .seq (.seq (.reg [q 6 (.mv (.t 0)), q 7 (.len (.t 6)), q 8 (.mv (.c (.n .i64 0)))]) <|
  .block 0 <|
  .loop [8] [0, 1, 7] <|
  .seq (.reg [qs 9 (.bin .num .lss (.t 8) (.t 7))]) <|
  .seq (.cond (.t 9) (.skip) <|
  .exit 0) <|
  .seq (.block 1 <|
  .seq (.reg [q 10 (.mv (.t 8)), q 5 (.mv (.t 10))]) <|
  .seq (.reg [q 11 (.mv (.t 1)), q 12 (.mv (.t 0)), q 13 (.mv (.t 5)), q 14 (.ias (.t 12) (.t 13) 1), q 15 (.load (.t 14) 1 false), qs 16 (.bin .num .eql (.t 11) (.t 15))]) <|
  .cond (.t 16) (.seq (.reg [q 17 (.mv (.t 5)), q 4 (.mv (.t 17))]) <|
  .ret) <|
  .skip) <|
  .reg [q 18 (.bin .num .add (.t 8) (.c (.n .i64 1))), q 8 (.mv (.t 18))]) <|
  .seq (.reg [q 4 (.mv (.c (.n .i64 (-1))))]) <|
  .ret

/-- slices.Index[[]int,int] -/
def p_slices_Index_int_int (E : Env) (a0 a1 : V) (s : St) (K : V → St → Prop) : Prop :=
 optP (lenV a0) s fun v0 s1 =>
 ∃ I2 : Nat → List V → St → Prop, (∃ n3, I2 n3 [(.n .i64 0)] s1) ∧ ∀ n3, ∀ x5 : V, ∀ s4, I2 n3 [x5] s4 →
 optP (binV .num .lss x5 v0) s4 fun v7 s8 =>
 splitP v7 (
 optP (iasV a0 x5 1) s8 fun v9 s10 =>
 optP (ldV v9 1 false s10) s10 fun v11 s12 =>
 optP (binV .num .eql a1 v11) s12 fun v13 s14 =>
 splitP v13 (
 K x5 s14) (
 optP (binV .num .add x5 (.n .i64 1)) s14 fun v15 s16 =>
 (a0 : V) = a0 ∧ (a1 : V) = a1 ∧ (v0 : V) = v0 ∧ ∃ n6, n6 < n3 ∧ I2 n6 [v15] s16)) (
 K (.n .i64 (-1)) s8)
theorem e_slices_Index_int_int (E : Env) (a0 a1 : V) (s : St) (K : V → St → Prop) : axF E c_slices_Index_int_int [a0, a1] s K = p_slices_Index_int_int E a0 a1 s K := by kernel_rfl
theorem g_slices_Index_int_int {E : Env} {a0 a1 : V} {s : St} {K : V → St → Prop} (h : chkF E.P E.m (E.m 96) c_slices_Index_int_int = true) (hp : p_slices_Index_int_int E a0 a1 s K) : ACalls E 96 [a0, a1] s K :=
  acalls h rfl (by rw [e_slices_Index_int_int]; exact hp)

/-- math/bits.Len -/
def c_math_bits_Len : AFunc := .mk 1 8 [.t 2] <|
  .seq (.reg [q 2 (.mv (.c (.n .i64 0)))]) <|
  .seq (.cond (.c (.b false)) (.seq (.reg [q 3 (.mv (.t 0)), q 4 (.cnv .u32 (.t 3)), q 5 (.call 103 [(.t 4)]), q 2 (.mv (.t 5))]) <|
  .ret) <|
  .skip) <|
  .seq (.reg [q 6 (.mv (.t 0)), q 7 (.call 104 [(.t 6)]), q 2 (.mv (.t 7))]) <|
  .ret

/-- math/bits.Len -/
def p_math_bits_Len (E : Env) (a0 : V) (s : St) (K : V → St → Prop) : Prop :=
 ACalls E 104 [a0] s fun v0 s1 =>
 K v0 s1
theorem e_math_bits_Len (E : Env) (a0 : V) (s : St) (K : V → St → Prop) : axF E c_math_bits_Len [a0] s K = p_math_bits_Len E a0 s K := by kernel_rfl
theorem g_math_bits_Len {E : Env} {a0 : V} {s : St} {K : V → St → Prop} (h : chkF E.P E.m (E.m 97) c_math_bits_Len = true) (hp : p_math_bits_Len E a0 s K) : ACalls E 97 [a0] s K :=
  acalls h rfl (by rw [e_math_bits_Len]; exact hp)

/-- cmp.Less[int] -/
def c_cmp_Less_int : AFunc := .mk 2 17 [.t 4] <|
  .seq (.reg [q 4 (.mv (.c (.b false)))]) <|
  .seq (.reg [q 5 (.mv (.t 0)), qs 6 (.call 105 [(.t 5)]), q 7 (.mv (.t 6)), qg 8 false 7 true (.mv (.t 1)), qg 9 true 7 true (.call 105 [(.t 8)]), qg 10 false 7 true (.un .not (.t 9)), q 11 (.pick (.t 7) (.t 10) (.c (.b false))), q 12 (.mv (.t 11)), qg 13 false 12 false (.mv (.t 0)), qg 14 false 12 false (.mv (.t 1)), qg 15 true 12 false (.bin .num .lss (.t 13) (.t 14)), q 16 (.pick (.t 12) (.c (.b true)) (.t 15)), q 4 (.mv (.t 16))]) <|
  .ret

/-- cmp.Less[int] -/
def p_cmp_Less_int (E : Env) (a0 a1 : V) (s : St) (K : V → St → Prop) : Prop :=
 let k0 : St → Prop := (fun s1 =>
 K (.b true) s1);
 let k2 : St → Prop := (fun s3 =>
 K (.b false) s3);
 ACalls E 105 [a0] s fun v4 s5 =>
 splitP v4 (
 ACalls E 105 [a1] s5 fun v6 s7 =>
 splitP v6 (
 optP (binV .num .lss a0 a1) s7 fun v8 s9 =>
 splitP v8 (
 k0 s9) (
 k2 s9)) (
 k0 s7)) (
 optP (binV .num .lss a0 a1) s5 fun v10 s11 =>
 splitP v10 (
 k0 s11) (
 k2 s11))
theorem e_cmp_Less_int (E : Env) (a0 a1 : V) (s : St) (K : V → St → Prop) : axF E c_cmp_Less_int [a0, a1] s K = p_cmp_Less_int E a0 a1 s K := by kernel_rfl
theorem g_cmp_Less_int {E : Env} {a0 a1 : V} {s : St} {K : V → St → Prop} (h : chkF E.P E.m (E.m 98) c_cmp_Less_int = true) (hp : p_cmp_Less_int E a0 a1 s K) : ACalls E 98 [a0, a1] s K :=
  acalls h rfl (by rw [e_cmp_Less_int]; exact hp)

/-- slices.isNaN[int] -/
def c_slices_isNaN_int : AFunc := .mk 1 6 [.t 2] <|
  .seq (.reg [q 2 (.mv (.c (.b false)))]) <|
  .seq (.reg [q 3 (.mv (.t 0)), q 4 (.mv (.t 0)), qs 5 (.bin .num .neq (.t 3) (.t 4)), q 2 (.mv (.t 5))]) <|
  .ret

/-- slices.isNaN[int] -/
def p_slices_isNaN_int (E : Env) (a0 : V) (s : St) (K : V → St → Prop) : Prop :=
 optP (binV .num .neq a0 a0) s fun v0 s1 =>
 splitP v0 (
 K (.b true) s1) (
 K (.b false) s1)
theorem e_slices_isNaN_int (E : Env) (a0 : V) (s : St) (K : V → St → Prop) : axF E c_slices_isNaN_int [a0] s K = p_slices_isNaN_int E a0 s K := by kernel_rfl
theorem g_slices_isNaN_int {E : Env} {a0 : V} {s : St} {K : V → St → Prop} (h : chkF E.P E.m (E.m 99) c_slices_isNaN_int = true) (hp : p_slices_isNaN_int E a0 s K) : ACalls E 99 [a0] s K :=
  acalls h rfl (by rw [e_slices_isNaN_int]; exact hp)

/-- slices.rotateRight[int] -/
def c_slices_rotateRight_int : AFunc := .mk 2 10 [] <|
  .reg [q 4 (.mv (.t 0)), q 5 (.mv (.t 0)), q 6 (.len (.t 5)), q 7 (.mv (.t 1)), q 8 (.bin .num .sub (.t 6) (.t 7)), q 9 (.call 106 [(.t 4), (.t 8)])]

/-- slices.rotateRight[int] -/
def p_slices_rotateRight_int (E : Env) (a0 a1 : V) (s : St) (K : V → St → Prop) : Prop :=
 optP (lenV a0) s fun v0 s1 =>
 optP (binV .num .sub v0 a1) s1 fun v2 s3 =>
 ACalls E 106 [a0, v2] s3 fun v4 s5 =>
 K (.tup []) s5
theorem e_slices_rotateRight_int (E : Env) (a0 a1 : V) (s : St) (K : V → St → Prop) : axF E c_slices_rotateRight_int [a0, a1] s K = p_slices_rotateRight_int E a0 a1 s K := by kernel_rfl
theorem g_slices_rotateRight_int {E : Env} {a0 a1 : V} {s : St} {K : V → St → Prop} (h : chkF E.P E.m (E.m 101) c_slices_rotateRight_int = true) (hp : p_slices_rotateRight_int E a0 a1 s K) : ACalls E 101 [a0, a1] s K :=
  acalls h rfl (by rw [e_slices_rotateRight_int]; exact hp)

/-- slices.Sort[[]int,int] -/
def c_slices_Sort_int_int : AFunc := .mk 1 11 [] <|
  .seq (.reg [q 3 (.mv (.t 0)), q 4 (.len (.t 3)), q 2 (.mv (.t 4))]) <|
  .reg [q 5 (.mv (.t 0)), q 6 (.mv (.t 2)), q 7 (.mv (.t 2)), q 8 (.cnv .u64 (.t 7)), q 9 (.call 97 [(.t 8)]), q 10 (.call 107 [(.t 5), (.c (.n .i64 0)), (.t 6), (.t 9)])]

/-- slices.Sort[[]int,int] -/
def p_slices_Sort_int_int (E : Env) (a0 : V) (s : St) (K : V → St → Prop) : Prop :=
 optP (lenV a0) s fun v0 s1 =>
 optP (cnvV .u64 v0) s1 fun v2 s3 =>
 ACalls E 97 [v2] s3 fun v4 s5 =>
 ACalls E 107 [a0, (.n .i64 0), v0, v4] s5 fun v6 s7 =>
 K (.tup []) s7
theorem e_slices_Sort_int_int (E : Env) (a0 : V) (s : St) (K : V → St → Prop) : axF E c_slices_Sort_int_int [a0] s K = p_slices_Sort_int_int E a0 s K := by kernel_rfl
theorem g_slices_Sort_int_int {E : Env} {a0 : V} {s : St} {K : V → St → Prop} (h : chkF E.P E.m (E.m 102) c_slices_Sort_int_int = true) (hp : p_slices_Sort_int_int E a0 s K) : ACalls E 102 [a0] s K :=
  acalls h rfl (by rw [e_slices_Sort_int_int]; exact hp)

/-- math/bits.Len32 -/
def c_math_bits_Len32 : AFunc := .mk 1 19 [.t 2] <|
  .seq (.reg [q 2 (.mv (.c (.n .i64 0)))]) <|
  .seq (.seq (.reg [q 3 (.mv (.t 0)), qs 4 (.bin .num .geq (.t 3) (.c (.n .u32 65536)))]) <|
  .cond (.t 4) (.seq (.reg [q 5 (.mv (.t 0)), q 6 (.bin .num .shr (.t 5) (.c (.n .u64 16))), q 0 (.mv (.t 6))]) <|
  .reg [q 2 (.mv (.c (.n .i64 16)))]) <|
  .skip) <|
  .seq (.seq (.reg [q 7 (.mv (.t 0)), qs 8 (.bin .num .geq (.t 7) (.c (.n .u32 256)))]) <|
  .cond (.t 8) (.seq (.reg [q 9 (.mv (.t 0)), q 10 (.bin .num .shr (.t 9) (.c (.n .u64 8))), q 0 (.mv (.t 10))]) <|
  .reg [q 11 (.mv (.t 2)), q 12 (.bin .num .add (.t 11) (.c (.n .i64 8))), q 2 (.mv (.t 12))]) <|
  .skip) <|
  .seq (.reg [q 13 (.mv (.t 2)), q 14 (.mv (.t 0)), q 15 (.cnv .u8 (.t 14)), q 16 (.ixs (.c (.s lit_256_224579321)) (.t 15)), q 17 (.cnv .i64 (.t 16)), q 18 (.bin .num .add (.t 13) (.t 17)), q 2 (.mv (.t 18))]) <|
  .ret

/-- math/bits.Len32 -/
def p_math_bits_Len32 (E : Env) (a0 : V) (s : St) (K : V → St → Prop) : Prop :=
 let k0 : V → V → St → Prop := (fun x2 x3 s1 =>
 let k4 : V → V → St → Prop := (fun x6 x7 s5 =>
 optP (cnvV .u8 x6) s5 fun v8 s9 =>
 optP (ixsV (.s lit_256_224579321) v8) s9 fun v10 s11 =>
 optP (cnvV .i64 v10) s11 fun v12 s13 =>
 optP (binV .num .add x7 v12) s13 fun v14 s15 =>
 K v14 s15);
 optP (binV .num .geq x2 (.n .u32 256)) s1 fun v16 s17 =>
 splitP v16 (
 optP (binV .num .shr x2 (.n .u64 8)) s17 fun v18 s19 =>
 optP (binV .num .add x3 (.n .i64 8)) s19 fun v20 s21 =>
 k4 v18 v20 s21) (
 k4 x2 x3 s17));
 optP (binV .num .geq a0 (.n .u32 65536)) s fun v22 s23 =>
 splitP v22 (
 optP (binV .num .shr a0 (.n .u64 16)) s23 fun v24 s25 =>
 k0 v24 (.n .i64 16) s25) (
 k0 a0 (.n .i64 0) s23)
theorem e_math_bits_Len32 (E : Env) (a0 : V) (s : St) (K : V → St → Prop) : axF E c_math_bits_Len32 [a0] s K = p_math_bits_Len32 E a0 s K := by kernel_rfl
theorem g_math_bits_Len32 {E : Env} {a0 : V} {s : St} {K : V → St → Prop} (h : chkF E.P E.m (E.m 103) c_math_bits_Len32 = true) (hp : p_math_bits_Len32 E a0 s K) : ACalls E 103 [a0] s K :=
  acalls h rfl (by rw [e_math_bits_Len32]; exact hp)

/-- math/bits.Len64 -/
def c_math_bits_Len64 : AFunc := .mk 1 25 [.t 2] <|
  .seq (.reg [q 2 (.mv (.c (.n .i64 0)))]) <|
  .seq (.seq (.reg [q 3 (.mv (.t 0)), qs 4 (.bin .num .geq (.t 3) (.c (.n .u64 4294967296)))]) <|
  .cond (.t 4) (.seq (.reg [q 5 (.mv (.t 0)), q 6 (.bin .num .shr (.t 5) (.c (.n .u64 32))), q 0 (.mv (.t 6))]) <|
  .reg [q 2 (.mv (.c (.n .i64 32)))]) <|
  .skip) <|
  .seq (.seq (.reg [q 7 (.mv (.t 0)), qs 8 (.bin .num .geq (.t 7) (.c (.n .u64 65536)))]) <|
  .cond (.t 8) (.seq (.reg [q 9 (.mv (.t 0)), q 10 (.bin .num .shr (.t 9) (.c (.n .u64 16))), q 0 (.mv (.t 10))]) <|
  .reg [q 11 (.mv (.t 2)), q 12 (.bin .num .add (.t 11) (.c (.n .i64 16))), q 2 (.mv (.t 12))]) <|
  .skip) <|
  .seq (.seq (.reg [q 13 (.mv (.t 0)), qs 14 (.bin .num .geq (.t 13) (.c (.n .u64 256)))]) <|
  .cond (.t 14) (.seq (.reg [q 15 (.mv (.t 0)), q 16 (.bin .num .shr (.t 15) (.c (.n .u64 8))), q 0 (.mv (.t 16))]) <|
  .reg [q 17 (.mv (.t 2)), q 18 (.bin .num .add (.t 17) (.c (.n .i64 8))), q 2 (.mv (.t 18))]) <|
  .skip) <|
  .seq (.reg [q 19 (.mv (.t 2)), q 20 (.mv (.t 0)), q 21 (.cnv .u8 (.t 20)), q 22 (.ixs (.c (.s lit_256_224579321)) (.t 21)), q 23 (.cnv .i64 (.t 22)), q 24 (.bin .num .add (.t 19) (.t 23)), q 2 (.mv (.t 24))]) <|
  .ret

/-- math/bits.Len64 -/
def p_math_bits_Len64 (E : Env) (a0 : V) (s : St) (K : V → St → Prop) : Prop :=
 let k0 : V → V → St → Prop := (fun x2 x3 s1 =>
 let k4 : V → V → St → Prop := (fun x6 x7 s5 =>
 let k8 : V → V → St → Prop := (fun x10 x11 s9 =>
 optP (cnvV .u8 x10) s9 fun v12 s13 =>
 optP (ixsV (.s lit_256_224579321) v12) s13 fun v14 s15 =>
 optP (cnvV .i64 v14) s15 fun v16 s17 =>
 optP (binV .num .add x11 v16) s17 fun v18 s19 =>
 K v18 s19);
 optP (binV .num .geq x6 (.n .u64 256)) s5 fun v20 s21 =>
 splitP v20 (
 optP (binV .num .shr x6 (.n .u64 8)) s21 fun v22 s23 =>
 optP (binV .num .add x7 (.n .i64 8)) s23 fun v24 s25 =>
 k8 v22 v24 s25) (
 k8 x6 x7 s21));
 optP (binV .num .geq x2 (.n .u64 65536)) s1 fun v26 s27 =>
 splitP v26 (
 optP (binV .num .shr x2 (.n .u64 16)) s27 fun v28 s29 =>
 optP (binV .num .add x3 (.n .i64 16)) s29 fun v30 s31 =>
 k4 v28 v30 s31) (
 k4 x2 x3 s27));
 optP (binV .num .geq a0 (.n .u64 4294967296)) s fun v32 s33 =>
 splitP v32 (
 optP (binV .num .shr a0 (.n .u64 32)) s33 fun v34 s35 =>
 k0 v34 (.n .i64 32) s35) (
 k0 a0 (.n .i64 0) s33)
theorem e_math_bits_Len64 (E : Env) (a0 : V) (s : St) (K : V → St → Prop) : axF E c_math_bits_Len64 [a0] s K = p_math_bits_Len64 E a0 s K := by kernel_rfl
theorem g_math_bits_Len64 {E : Env} {a0 : V} {s : St} {K : V → St → Prop} (h : chkF E.P E.m (E.m 104) c_math_bits_Len64 = true) (hp : p_math_bits_Len64 E a0 s K) : ACalls E 104 [a0] s K :=
  acalls h rfl (by rw [e_math_bits_Len64]; exact hp)

/-- cmp.isNaN[int] -/
def c_cmp_isNaN_int : AFunc := .mk 1 6 [.t 2] <|
  .seq (.reg [q 2 (.mv (.c (.b false)))]) <|
  .seq (.reg [q 3 (.mv (.t 0)), q 4 (.mv (.t 0)), qs 5 (.bin .num .neq (.t 3) (.t 4)), q 2 (.mv (.t 5))]) <|
  .ret

/-- cmp.isNaN[int] -/
def p_cmp_isNaN_int (E : Env) (a0 : V) (s : St) (K : V → St → Prop) : Prop :=
 optP (binV .num .neq a0 a0) s fun v0 s1 =>
 splitP v0 (
 K (.b true) s1) (
 K (.b false) s1)
theorem e_cmp_isNaN_int (E : Env) (a0 : V) (s : St) (K : V → St → Prop) : axF E c_cmp_isNaN_int [a0] s K = p_cmp_isNaN_int E a0 s K := by kernel_rfl
theorem g_cmp_isNaN_int {E : Env} {a0 : V} {s : St} {K : V → St → Prop} (h : chkF E.P E.m (E.m 105) c_cmp_isNaN_int = true) (hp : p_cmp_isNaN_int E a0 s K) : ACalls E 105 [a0] s K :=
  acalls h rfl (by rw [e_cmp_isNaN_int]; exact hp)

/-- slices.rotateLeft[int] -/
def c_slices_rotateLeft_int : AFunc := .mk 2 14 [] <|
  .seq (.reg [q 4 (.mv (.t 0)), q 5 (.mv (.t 1)), q 6 (.slc (.t 4) none (some (.t 5)) none 1), q 7 (.call 108 [(.t 6)])]) <|
  .seq (.reg [q 8 (.mv (.t 0)), q 9 (.mv (.t 1)), q 10 (.slc (.t 8) (some (.t 9)) none none 1), q 11 (.call 108 [(.t 10)])]) <|
  .reg [q 12 (.mv (.t 0)), q 13 (.call 108 [(.t 12)])]

/-- slices.rotateLeft[int] -/
def p_slices_rotateLeft_int (E : Env) (a0 a1 : V) (s : St) (K : V → St → Prop) : Prop :=
 optP (slcV a0 none (some a1) none 1) s fun v0 s1 =>
 ACalls E 108 [v0] s1 fun v2 s3 =>
 optP (slcV a0 (some a1) none none 1) s3 fun v4 s5 =>
 ACalls E 108 [v4] s5 fun v6 s7 =>
 ACalls E 108 [a0] s7 fun v8 s9 =>
 K (.tup []) s9
theorem e_slices_rotateLeft_int (E : Env) (a0 a1 : V) (s : St) (K : V → St → Prop) : axF E c_slices_rotateLeft_int [a0, a1] s K = p_slices_rotateLeft_int E a0 a1 s K := by kernel_rfl
theorem g_slices_rotateLeft_int {E : Env} {a0 a1 : V} {s : St} {K : V → St → Prop} (h : chkF E.P E.m (E.m 106) c_slices_rotateLeft_int = true) (hp : p_slices_rotateLeft_int E a0 a1 s K) : ACalls E 106 [a0, a1] s K :=
  acalls h rfl (by rw [e_slices_rotateLeft_int]; exact hp)

/-- slices.pdqsortOrdered[int] -/
def c_slices_pdqsortOrdered_int : AFunc := .mk 4 134 [] <|
  .seq (.reg [q 8 (.mv (.c (.b true)))]) <|
  .seq (.reg [q 9 (.mv (.c (.b true)))]) <|
  .block 0 <|
  .loop [1, 2, 3, 8, 9] [0] <|
  .block 1 <|
  .seq (.reg [q 19 (.mv (.t 2)), q 20 (.mv (.t 1)), q 21 (.bin .num .sub (.t 19) (.t 20)), q 10 (.mv (.t 21))]) <|
  .seq (.seq (.reg [q 22 (.mv (.t 10)), qs 23 (.bin .num .leq (.t 22) (.c (.n .i64 12)))]) <|
  .cond (.t 23) (.seq (.reg [q 24 (.mv (.t 0)), q 25 (.mv (.t 1)), q 26 (.mv (.t 2)), q 27 (.call 109 [(.t 24), (.t 25), (.t 26)])]) <|
  .ret) <|
  .skip) <|
  .seq (.seq (.reg [q 28 (.mv (.t 3)), qs 29 (.bin .num .eql (.t 28) (.c (.n .i64 0)))]) <|
  .cond (.t 29) (.seq (.reg [q 30 (.mv (.t 0)), q 31 (.mv (.t 1)), q 32 (.mv (.t 2)), q 33 (.call 110 [(.t 30), (.t 31), (.t 32)])]) <|
  .ret) <|
  .skip) <|
  .seq (.seq (.reg [qs 34 (.mv (.t 8)), q 35 (.un .not (.t 34))]) <|
  .cond (.t 35) (.seq (.reg [q 36 (.mv (.t 0)), q 37 (.mv (.t 1)), q 38 (.mv (.t 2)), q 39 (.call 111 [(.t 36), (.t 37), (.t 38)])]) <|
  .reg [q 40 (.mv (.t 3)), q 41 (.bin .num .sub (.t 40) (.c (.n .i64 1))), q 3 (.mv (.t 41))]) <|
  .skip) <|
  .seq (.reg [q 43 (.mv (.t 0)), q 44 (.mv (.t 1)), q 45 (.mv (.t 2)), q 46 (.call 112 [(.t 43), (.t 44), (.t 45)]), q 42 (.mv (.t 46)), q 47 (.ext (.t 42) 0), q 48 (.ext (.t 42) 1), q 11 (.mv (.t 47)), q 12 (.mv (.t 48))]) <|
  .seq (.seq (.reg [q 49 (.mv (.t 12)), qs 50 (.bin .num .eql (.t 49) (.c (.n .i64 2)))]) <|
  .cond (.t 50) (.seq (.reg [q 51 (.mv (.t 0)), q 52 (.mv (.t 1)), q 53 (.mv (.t 2)), q 54 (.call 113 [(.t 51), (.t 52), (.t 53)])]) <|
  .seq (.reg [q 55 (.mv (.t 2)), q 56 (.bin .num .sub (.t 55) (.c (.n .i64 1))), q 57 (.mv (.t 11)), q 58 (.mv (.t 1)), q 59 (.bin .num .sub (.t 57) (.t 58)), q 60 (.bin .num .sub (.t 56) (.t 59)), q 11 (.mv (.t 60))]) <|
  .reg [q 12 (.mv (.c (.n .i64 1)))]) <|
  .skip) <|
  .seq (.seq (.reg [qs 61 (.mv (.t 8)), q 62 (.mv (.t 61)), qg 63 true 62 true (.mv (.t 9)), q 64 (.pick (.t 62) (.t 63) (.c (.b false))), q 65 (.mv (.t 64)), qg 66 false 65 true (.mv (.t 12)), qg 67 true 65 true (.bin .num .eql (.t 66) (.c (.n .i64 1))), q 68 (.pick (.t 65) (.t 67) (.c (.b false)))]) <|
  .cond (.t 68) (.seq (.reg [q 69 (.mv (.t 0)), q 70 (.mv (.t 1)), q 71 (.mv (.t 2)), qs 72 (.call 114 [(.t 69), (.t 70), (.t 71)])]) <|
  .cond (.t 72) (.ret) <|
  .skip) <|
  .skip) <|
  .seq (.seq (.draw [qd (some 73) false [] (.mv (.t 1)), qd (some 74) true [0] (.bin .num .gtr (.t 73) (.c (.n .i64 0))), qd (some 75) false [0, 1] (.mv (.t 74)), qdg (some 76) false 75 true [0, 1, 2] (.mv (.t 0)), qdg (some 77) false 75 true [0, 1, 2] (.mv (.t 1)), qdg (some 78) false 75 true [0, 1, 2, 4] (.bin .num .sub (.t 77) (.c (.n .i64 1))), qdg (some 79) false 75 true [0, 1, 2, 3, 4, 5] (.ias (.t 76) (.t 78) 1), qdg (some 80) false 75 true [0, 1, 2, 3, 4, 5, 6] (.load (.t 79) 1 false), qdg (some 81) false 75 true [0, 1, 2] (.mv (.t 0)), qdg (some 82) false 75 true [0, 1, 2] (.mv (.t 11)), qdg (some 83) false 75 true [0, 1, 2, 8, 9] (.ias (.t 81) (.t 82) 1), qdg (some 84) false 75 true [0, 1, 2, 8, 9, 10] (.load (.t 83) 1 false), qdg (some 85) true 75 true [0, 1, 2, 3, 4, 5, 6, 7, 8, 9, 10, 11] (.call 98 [(.t 80), (.t 84)]), qdg (some 86) false 75 true [0, 1, 2, 3, 4, 5, 6, 7, 8, 9, 10, 11, 12] (.un .not (.t 85)), qd (some 87) false [0, 1, 2, 3, 4, 5, 6, 7, 8, 9, 10, 11, 12, 13] (.pick (.t 75) (.t 86) (.c (.b false)))]) <|
  .cond (.t 87) (.seq (.reg [q 88 (.mv (.t 0)), q 89 (.mv (.t 1)), q 90 (.mv (.t 2)), q 91 (.mv (.t 11)), q 92 (.call 115 [(.t 88), (.t 89), (.t 90), (.t 91)]), q 13 (.mv (.t 92))]) <|
  .seq (.reg [q 93 (.mv (.t 13)), q 1 (.mv (.t 93))]) <|
  .exit 1) <|
  .skip) <|
  .seq (.reg [q 95 (.mv (.t 0)), q 96 (.mv (.t 1)), q 97 (.mv (.t 2)), q 98 (.mv (.t 11)), q 99 (.call 116 [(.t 95), (.t 96), (.t 97), (.t 98)]), q 94 (.mv (.t 99)), q 100 (.ext (.t 94) 0), qs 101 (.ext (.t 94) 1), q 14 (.mv (.t 100)), q 15 (.mv (.t 101))]) <|
  .seq (.reg [qs 102 (.mv (.t 15)), q 9 (.mv (.t 102))]) <|
  .seq (.reg [q 103 (.mv (.t 14)), q 104 (.mv (.t 1)), q 105 (.bin .num .sub (.t 103) (.t 104)), q 106 (.mv (.t 2)), q 107 (.mv (.t 14)), q 108 (.bin .num .sub (.t 106) (.t 107)), q 16 (.mv (.t 105)), q 17 (.mv (.t 108))]) <|
  .seq (.reg [q 109 (.mv (.t 10)), q 110 (.bin .num .quo (.t 109) (.c (.n .i64 8))), q 18 (.mv (.t 110))]) <|
  .seq (.reg [q 111 (.mv (.t 16)), q 112 (.mv (.t 17)), qs 113 (.bin .num .lss (.t 111) (.t 112))]) <|
  .cond (.t 113) (.seq (.reg [q 114 (.mv (.t 16)), q 115 (.mv (.t 18)), qs 116 (.bin .num .geq (.t 114) (.t 115)), q 8 (.mv (.t 116))]) <|
  .seq (.reg [q 117 (.mv (.t 0)), q 118 (.mv (.t 1)), q 119 (.mv (.t 14)), q 120 (.mv (.t 3)), q 121 (.call 107 [(.t 117), (.t 118), (.t 119), (.t 120)])]) <|
  .reg [q 122 (.mv (.t 14)), q 123 (.bin .num .add (.t 122) (.c (.n .i64 1))), q 1 (.mv (.t 123))]) <|
  .seq (.reg [q 124 (.mv (.t 17)), q 125 (.mv (.t 18)), qs 126 (.bin .num .geq (.t 124) (.t 125)), q 8 (.mv (.t 126))]) <|
  .seq (.reg [q 127 (.mv (.t 0)), q 128 (.mv (.t 14)), q 129 (.bin .num .add (.t 128) (.c (.n .i64 1))), q 130 (.mv (.t 2)), q 131 (.mv (.t 3)), q 132 (.call 107 [(.t 127), (.t 129), (.t 130), (.t 131)])]) <|
  .reg [q 133 (.mv (.t 14)), q 2 (.mv (.t 133))]

/-- slices.pdqsortOrdered[int] -/
def p_slices_pdqsortOrdered_int (E : Env) (a0 a1 a2 a3 : V) (s : St) (K : V → St → Prop) : Prop :=
 ∃ I0 : Nat → List V → St → Prop, (∃ n1, I0 n1 [a1, a2, a3, (.b true), (.b true)] s) ∧ ∀ n1, ∀ x3 : V, ∀ x4 : V, ∀ x5 : V, ∀ x6 : V, ∀ x7 : V, ∀ s2, I0 n1 [x3, x4, x5, x6, x7] s2 →
 optP (binV .num .sub x4 x3) s2 fun v9 s10 =>
 optP (binV .num .leq v9 (.n .i64 12)) s10 fun v11 s12 =>
 splitP v11 (
 ACalls E 109 [a0, x3, x4] s12 fun v13 s14 =>
 K (.tup []) s14) (
 optP (binV .num .eql x5 (.n .i64 0)) s12 fun v15 s16 =>
 splitP v15 (
 ACalls E 110 [a0, x3, x4] s16 fun v17 s18 =>
 K (.tup []) s18) (
 let k19 : V → St → Prop := (fun x21 s20 =>
 ACalls E 112 [a0, x3, x4] s20 fun v22 s23 =>
 optP (extV v22 0) s23 fun v24 s25 =>
 optP (extV v22 1) s25 fun v26 s27 =>
 let k28 : V → V → St → Prop := (fun x30 x31 s29 =>
 let k32 : St → Prop := (fun s33 =>
 let k34 : St → Prop := (fun s35 =>
 ACalls E 116 [a0, x3, x4, x30] s35 fun v36 s37 =>
 optP (extV v36 0) s37 fun v38 s39 =>
 optP (extV v36 1) s39 fun v40 s41 =>
 splitP v40 (
 splitP (.b true) (
 optP (binV .num .sub v38 x3) s41 fun v42 s43 =>
 optP (binV .num .sub x4 v38) s43 fun v44 s45 =>
 optP (binV .num .quo v9 (.n .i64 8)) s45 fun v46 s47 =>
 optP (binV .num .lss v42 v44) s47 fun v48 s49 =>
 splitP v48 (
 optP (binV .num .geq v42 v46) s49 fun v50 s51 =>
 splitP v50 (
 ACalls E 107 [a0, x3, v38, x21] s51 fun v52 s53 =>
 optP (binV .num .add v38 (.n .i64 1)) s53 fun v54 s55 =>
 (a0 : V) = a0 ∧ ∃ n8, n8 < n1 ∧ I0 n8 [v54, x4, x21, (.b true), (.b true)] s55) (
 ACalls E 107 [a0, x3, v38, x21] s51 fun v56 s57 =>
 optP (binV .num .add v38 (.n .i64 1)) s57 fun v58 s59 =>
 (a0 : V) = a0 ∧ ∃ n8, n8 < n1 ∧ I0 n8 [v58, x4, x21, (.b false), (.b true)] s59)) (
 optP (binV .num .geq v44 v46) s49 fun v60 s61 =>
 splitP v60 (
 optP (binV .num .add v38 (.n .i64 1)) s61 fun v62 s63 =>
 ACalls E 107 [a0, v62, x4, x21] s63 fun v64 s65 =>
 (a0 : V) = a0 ∧ ∃ n8, n8 < n1 ∧ I0 n8 [x3, v38, x21, (.b true), (.b true)] s65) (
 optP (binV .num .add v38 (.n .i64 1)) s61 fun v66 s67 =>
 ACalls E 107 [a0, v66, x4, x21] s67 fun v68 s69 =>
 (a0 : V) = a0 ∧ ∃ n8, n8 < n1 ∧ I0 n8 [x3, v38, x21, (.b false), (.b true)] s69))) (
 optP (binV .num .sub v38 x3) s41 fun v70 s71 =>
 optP (binV .num .sub x4 v38) s71 fun v72 s73 =>
 optP (binV .num .quo v9 (.n .i64 8)) s73 fun v74 s75 =>
 optP (binV .num .lss v70 v72) s75 fun v76 s77 =>
 splitP v76 (
 optP (binV .num .geq v70 v74) s77 fun v78 s79 =>
 splitP v78 (
 ACalls E 107 [a0, x3, v38, x21] s79 fun v80 s81 =>
 optP (binV .num .add v38 (.n .i64 1)) s81 fun v82 s83 =>
 (a0 : V) = a0 ∧ ∃ n8, n8 < n1 ∧ I0 n8 [v82, x4, x21, (.b true), (.b false)] s83) (
 ACalls E 107 [a0, x3, v38, x21] s79 fun v84 s85 =>
 optP (binV .num .add v38 (.n .i64 1)) s85 fun v86 s87 =>
 (a0 : V) = a0 ∧ ∃ n8, n8 < n1 ∧ I0 n8 [v86, x4, x21, (.b false), (.b false)] s87)) (
 optP (binV .num .geq v72 v74) s77 fun v88 s89 =>
 splitP v88 (
 optP (binV .num .add v38 (.n .i64 1)) s89 fun v90 s91 =>
 ACalls E 107 [a0, v90, x4, x21] s91 fun v92 s93 =>
 (a0 : V) = a0 ∧ ∃ n8, n8 < n1 ∧ I0 n8 [x3, v38, x21, (.b true), (.b false)] s93) (
 optP (binV .num .add v38 (.n .i64 1)) s89 fun v94 s95 =>
 ACalls E 107 [a0, v94, x4, x21] s95 fun v96 s97 =>
 (a0 : V) = a0 ∧ ∃ n8, n8 < n1 ∧ I0 n8 [x3, v38, x21, (.b false), (.b false)] s97)))) (
 splitP (.b false) (
 optP (binV .num .sub v38 x3) s41 fun v98 s99 =>
 optP (binV .num .sub x4 v38) s99 fun v100 s101 =>
 optP (binV .num .quo v9 (.n .i64 8)) s101 fun v102 s103 =>
 optP (binV .num .lss v98 v100) s103 fun v104 s105 =>
 splitP v104 (
 optP (binV .num .geq v98 v102) s105 fun v106 s107 =>
 splitP v106 (
 ACalls E 107 [a0, x3, v38, x21] s107 fun v108 s109 =>
 optP (binV .num .add v38 (.n .i64 1)) s109 fun v110 s111 =>
 (a0 : V) = a0 ∧ ∃ n8, n8 < n1 ∧ I0 n8 [v110, x4, x21, (.b true), (.b true)] s111) (
 ACalls E 107 [a0, x3, v38, x21] s107 fun v112 s113 =>
 optP (binV .num .add v38 (.n .i64 1)) s113 fun v114 s115 =>
 (a0 : V) = a0 ∧ ∃ n8, n8 < n1 ∧ I0 n8 [v114, x4, x21, (.b false), (.b true)] s115)) (
 optP (binV .num .geq v100 v102) s105 fun v116 s117 =>
 splitP v116 (
 optP (binV .num .add v38 (.n .i64 1)) s117 fun v118 s119 =>
 ACalls E 107 [a0, v118, x4, x21] s119 fun v120 s121 =>
 (a0 : V) = a0 ∧ ∃ n8, n8 < n1 ∧ I0 n8 [x3, v38, x21, (.b true), (.b true)] s121) (
 optP (binV .num .add v38 (.n .i64 1)) s117 fun v122 s123 =>
 ACalls E 107 [a0, v122, x4, x21] s123 fun v124 s125 =>
 (a0 : V) = a0 ∧ ∃ n8, n8 < n1 ∧ I0 n8 [x3, v38, x21, (.b false), (.b true)] s125))) (
 optP (binV .num .sub v38 x3) s41 fun v126 s127 =>
 optP (binV .num .sub x4 v38) s127 fun v128 s129 =>
 optP (binV .num .quo v9 (.n .i64 8)) s129 fun v130 s131 =>
 optP (binV .num .lss v126 v128) s131 fun v132 s133 =>
 splitP v132 (
 optP (binV .num .geq v126 v130) s133 fun v134 s135 =>
 splitP v134 (
 ACalls E 107 [a0, x3, v38, x21] s135 fun v136 s137 =>
 optP (binV .num .add v38 (.n .i64 1)) s137 fun v138 s139 =>
 (a0 : V) = a0 ∧ ∃ n8, n8 < n1 ∧ I0 n8 [v138, x4, x21, (.b true), (.b false)] s139) (
 ACalls E 107 [a0, x3, v38, x21] s135 fun v140 s141 =>
 optP (binV .num .add v38 (.n .i64 1)) s141 fun v142 s143 =>
 (a0 : V) = a0 ∧ ∃ n8, n8 < n1 ∧ I0 n8 [v142, x4, x21, (.b false), (.b false)] s143)) (
 optP (binV .num .geq v128 v130) s133 fun v144 s145 =>
 splitP v144 (
 optP (binV .num .add v38 (.n .i64 1)) s145 fun v146 s147 =>
 ACalls E 107 [a0, v146, x4, x21] s147 fun v148 s149 =>
 (a0 : V) = a0 ∧ ∃ n8, n8 < n1 ∧ I0 n8 [x3, v38, x21, (.b true), (.b false)] s149) (
 optP (binV .num .add v38 (.n .i64 1)) s145 fun v150 s151 =>
 ACalls E 107 [a0, v150, x4, x21] s151 fun v152 s153 =>
 (a0 : V) = a0 ∧ ∃ n8, n8 < n1 ∧ I0 n8 [x3, v38, x21, (.b false), (.b false)] s153)))));
 optP (binV .num .gtr x3 (.n .i64 0)) s33 fun v154 s155 =>
 splitP v154 (
 optP (binV .num .sub x3 (.n .i64 1)) s155 fun v156 s157 =>
 optP (iasV a0 v156 1) s157 fun v158 s159 =>
 optP (ldV v158 1 false s159) s159 fun v160 s161 =>
 (True) ∧ optP (iasV a0 x30 1) s161 fun v162 s163 =>
 optP (ldV v162 1 false s163) s163 fun v164 s165 =>
 (True) ∧ ACalls E 98 [v160, v164] s165 fun v166 s167 =>
 splitP v166 (
 (True) ∧ k34 s167) (
 (True) ∧ ACalls E 115 [a0, x3, x4, x30] s167 fun v168 s169 =>
 (a0 : V) = a0 ∧ ∃ n8, n8 < n1 ∧ I0 n8 [v168, x4, x21, x6, x7] s169)) (
 (True) ∧ (True) ∧ (True) ∧ k34 s155));
 let k170 : St → Prop := (fun s171 =>
 k32 s171);
 splitP x6 (
 splitP x7 (
 optP (binV .num .eql x31 (.n .i64 1)) s29 fun v172 s173 =>
 splitP v172 (
 ACalls E 114 [a0, x3, x4] s173 fun v174 s175 =>
 splitP v174 (
 K (.tup []) s175) (
 k32 s175)) (
 k170 s173)) (
 k170 s29)) (
 k170 s29));
 optP (binV .num .eql v26 (.n .i64 2)) s27 fun v176 s177 =>
 splitP v176 (
 ACalls E 113 [a0, x3, x4] s177 fun v178 s179 =>
 optP (binV .num .sub x4 (.n .i64 1)) s179 fun v180 s181 =>
 optP (binV .num .sub v24 x3) s181 fun v182 s183 =>
 optP (binV .num .sub v180 v182) s183 fun v184 s185 =>
 k28 v184 (.n .i64 1) s185) (
 k28 v24 v26 s177));
 splitP x6 (
 k19 x5 s16) (
 ACalls E 111 [a0, x3, x4] s16 fun v186 s187 =>
 optP (binV .num .sub x5 (.n .i64 1)) s187 fun v188 s189 =>
 k19 v188 s189)))
theorem e_slices_pdqsortOrdered_int (E : Env) (a0 a1 a2 a3 : V) (s : St) (K : V → St → Prop) : axF E c_slices_pdqsortOrdered_int [a0, a1, a2, a3] s K = p_slices_pdqsortOrdered_int E a0 a1 a2 a3 s K := by kernel_rfl
theorem g_slices_pdqsortOrdered_int {E : Env} {a0 a1 a2 a3 : V} {s : St} {K : V → St → Prop} (h : chkF E.P E.m (E.m 107) c_slices_pdqsortOrdered_int = true) (hp : p_slices_pdqsortOrdered_int E a0 a1 a2 a3 s K) : ACalls E 107 [a0, a1, a2, a3] s K :=
  acalls h rfl (by rw [e_slices_pdqsortOrdered_int]; exact hp)

/-- slices.Reverse[[]int,int] -/
def c_slices_Reverse_int_int : AFunc := .mk 1 28 [] <|
  .seq (.reg [q 4 (.mv (.t 0)), q 5 (.len (.t 4)), q 6 (.bin .num .sub (.t 5) (.c (.n .i64 1))), q 2 (.mv (.c (.n .i64 0))), q 3 (.mv (.t 6))]) <|
  .block 0 <|
  .loop [2, 3] [0] <|
  .seq (.seq (.reg [q 7 (.mv (.t 2)), q 8 (.mv (.t 3)), qs 9 (.bin .num .lss (.t 7) (.t 8))]) <|
  .cond (.t 9) (.skip) <|
  .exit 0) <|
  .seq (.block 1 <|
  .draw [qd (some 14) false [] (.mv (.t 0)), qd (some 15) false [] (.mv (.t 2)), qd (some 16) false [] (.mv (.t 0)), qd (some 17) false [] (.mv (.t 3)), qd (some 18) false [] (.mv (.t 0)), qd (some 19) false [] (.mv (.t 3)), qd (some 20) false [4, 5] (.ias (.t 18) (.t 19) 1), qd (some 21) false [4, 5, 6] (.load (.t 20) 1 false), qd (some 22) false [] (.mv (.t 0)), qd (some 23) false [] (.mv (.t 2)), qd (some 24) false [8, 9] (.ias (.t 22) (.t 23) 1), qd (some 25) false [8, 9, 10] (.load (.t 24) 1 false), qd (some 26) false [0, 1, 4, 5, 6, 7, 8, 9, 10, 11] (.ias (.t 14) (.t 15) 1), qd none false [0, 1, 4, 5, 6, 7, 8, 9, 10, 11, 12] (.store (.t 26) (.t 21) 1), qd (some 27) false [0, 1, 2, 3, 4, 5, 6, 7, 8, 9, 10, 11, 12, 13] (.ias (.t 16) (.t 17) 1), qd none false [0, 1, 2, 3, 4, 5, 6, 7, 8, 9, 10, 11, 12, 13, 14] (.store (.t 27) (.t 25) 1)]) <|
  .reg [q 10 (.mv (.t 2)), q 11 (.bin .num .add (.t 10) (.c (.n .i64 1))), q 12 (.mv (.t 3)), q 13 (.bin .num .sub (.t 12) (.c (.n .i64 1))), q 2 (.mv (.t 11)), q 3 (.mv (.t 13))]

/-- slices.Reverse[[]int,int] -/
def p_slices_Reverse_int_int (E : Env) (a0 : V) (s : St) (K : V → St → Prop) : Prop :=
 optP (lenV a0) s fun v0 s1 =>
 optP (binV .num .sub v0 (.n .i64 1)) s1 fun v2 s3 =>
 ∃ I4 : Nat → List V → St → Prop, (∃ n5, I4 n5 [(.n .i64 0), v2] s3) ∧ ∀ n5, ∀ x7 : V, ∀ x8 : V, ∀ s6, I4 n5 [x7, x8] s6 →
 optP (binV .num .lss x7 x8) s6 fun v10 s11 =>
 splitP v10 (
 optP (iasV a0 x8 1) s11 fun v12 s13 =>
 optP (ldV v12 1 false s13) s13 fun v14 s15 =>
 (True) ∧ optP (iasV a0 x7 1) s15 fun v16 s17 =>
 optP (ldV v16 1 false s17) s17 fun v18 s19 =>
 (True) ∧ optP (iasV a0 x7 1) s19 fun v20 s21 =>
 optW (storeV v20 v14 1 s21) fun v22 s23 =>
 (True) ∧ optP (iasV a0 x8 1) s23 fun v24 s25 =>
 optW (storeV v24 v18 1 s25) fun v26 s27 =>
 (True) ∧ optP (binV .num .add x7 (.n .i64 1)) s27 fun v28 s29 =>
 optP (binV .num .sub x8 (.n .i64 1)) s29 fun v30 s31 =>
 (a0 : V) = a0 ∧ ∃ n9, n9 < n5 ∧ I4 n9 [v28, v30] s31) (
 K (.tup []) s11)
theorem e_slices_Reverse_int_int (E : Env) (a0 : V) (s : St) (K : V → St → Prop) : axF E c_slices_Reverse_int_int [a0] s K = p_slices_Reverse_int_int E a0 s K := by kernel_rfl
theorem g_slices_Reverse_int_int {E : Env} {a0 : V} {s : St} {K : V → St → Prop} (h : chkF E.P E.m (E.m 108) c_slices_Reverse_int_int = true) (hp : p_slices_Reverse_int_int E a0 s K) : ACalls E 108 [a0] s K :=
  acalls h rfl (by rw [e_slices_Reverse_int_int]; exact hp)

/-- slices.insertionSortOrdered[int] -/
def c_slices_insertionSortOrdered_int : AFunc := .mk 3 49 [] <|
  .seq (.reg [q 8 (.mv (.t 1)), q 9 (.bin .num .add (.t 8) (.c (.n .i64 1))), q 6 (.mv (.t 9))]) <|
  .block 0 <|
  .loop [6] [0, 1, 2] <|
  .seq (.seq (.reg [q 10 (.mv (.t 6)), q 11 (.mv (.t 2)), qs 12 (.bin .num .lss (.t 10) (.t 11))]) <|
  .cond (.t 12) (.skip) <|
  .exit 0) <|
  .seq (.block 1 <|
  .seq (.reg [q 15 (.mv (.t 6)), q 7 (.mv (.t 15))]) <|
  .block 2 <|
  .loop [7] [0, 1, 2, 6] <|
  .seq (.seq (.draw [qd (some 16) false [] (.mv (.t 7)), qd (some 17) false [] (.mv (.t 1)), qd (some 18) true [0, 1] (.bin .num .gtr (.t 16) (.t 17)), qd (some 19) false [0, 1, 2] (.mv (.t 18)), qdg (some 20) false 19 true [0, 1, 2, 3] (.mv (.t 0)), qdg (some 21) false 19 true [0, 1, 2, 3] (.mv (.t 7)), qdg (some 22) false 19 true [0, 1, 2, 3, 4, 5] (.ias (.t 20) (.t 21) 1), qdg (some 23) false 19 true [0, 1, 2, 3, 4, 5, 6] (.load (.t 22) 1 false), qdg (some 24) false 19 true [0, 1, 2, 3] (.mv (.t 0)), qdg (some 25) false 19 true [0, 1, 2, 3] (.mv (.t 7)), qdg (some 26) false 19 true [0, 1, 2, 3, 9] (.bin .num .sub (.t 25) (.c (.n .i64 1))), qdg (some 27) false 19 true [0, 1, 2, 3, 8, 9, 10] (.ias (.t 24) (.t 26) 1), qdg (some 28) false 19 true [0, 1, 2, 3, 8, 9, 10, 11] (.load (.t 27) 1 false), qdg (some 29) true 19 true [0, 1, 2, 3, 4, 5, 6, 7, 8, 9, 10, 11, 12] (.call 98 [(.t 23), (.t 28)]), qd (some 30) false [0, 1, 2, 3, 4, 5, 6, 7, 8, 9, 10, 11, 12, 13] (.pick (.t 19) (.t 29) (.c (.b false)))]) <|
  .cond (.t 30) (.skip) <|
  .exit 2) <|
  .seq (.block 3 <|
  .draw [qd (some 33) false [] (.mv (.t 0)), qd (some 34) false [] (.mv (.t 7)), qd (some 35) false [] (.mv (.t 0)), qd (some 36) false [] (.mv (.t 7)), qd (some 37) false [3] (.bin .num .sub (.t 36) (.c (.n .i64 1))), qd (some 38) false [] (.mv (.t 0)), qd (some 39) false [] (.mv (.t 7)), qd (some 40) false [6] (.bin .num .sub (.t 39) (.c (.n .i64 1))), qd (some 41) false [5, 6, 7] (.ias (.t 38) (.t 40) 1), qd (some 42) false [5, 6, 7, 8] (.load (.t 41) 1 false), qd (some 43) false [] (.mv (.t 0)), qd (some 44) false [] (.mv (.t 7)), qd (some 45) false [10, 11] (.ias (.t 43) (.t 44) 1), qd (some 46) false [10, 11, 12] (.load (.t 45) 1 false), qd (some 47) false [0, 1, 5, 6, 7, 8, 9, 10, 11, 12, 13] (.ias (.t 33) (.t 34) 1), qd none false [0, 1, 5, 6, 7, 8, 9, 10, 11, 12, 13, 14] (.store (.t 47) (.t 42) 1), qd (some 48) false [0, 1, 2, 3, 4, 5, 6, 7, 8, 9, 10, 11, 12, 13, 14, 15] (.ias (.t 35) (.t 37) 1), qd none false [0, 1, 2, 3, 4, 5, 6, 7, 8, 9, 10, 11, 12, 13, 14, 15, 16] (.store (.t 48) (.t 46) 1)]) <|
  .reg [q 31 (.mv (.t 7)), q 32 (.bin .num .sub (.t 31) (.c (.n .i64 1))), q 7 (.mv (.t 32))]) <|
  .reg [q 13 (.mv (.t 6)), q 14 (.bin .num .add (.t 13) (.c (.n .i64 1))), q 6 (.mv (.t 14))]

/-- slices.insertionSortOrdered[int] -/
def p_slices_insertionSortOrdered_int (E : Env) (a0 a1 a2 : V) (s : St) (K : V → St → Prop) : Prop :=
 optP (binV .num .add a1 (.n .i64 1)) s fun v0 s1 =>
 ∃ I2 : Nat → List V → St → Prop, (∃ n3, I2 n3 [v0] s1) ∧ ∀ n3, ∀ x5 : V, ∀ s4, I2 n3 [x5] s4 →
 optP (binV .num .lss x5 a2) s4 fun v7 s8 =>
 splitP v7 (
 ∃ I9 : Nat → List V → St → Prop, (∃ n10, I9 n10 [x5] s8) ∧ ∀ n10, ∀ x12 : V, ∀ s11, I9 n10 [x12] s11 →
 let k14 : St → Prop := (fun s15 =>
 optP (binV .num .add x5 (.n .i64 1)) s15 fun v16 s17 =>
 (a0 : V) = a0 ∧ (a1 : V) = a1 ∧ (a2 : V) = a2 ∧ ∃ n6, n6 < n3 ∧ I2 n6 [v16] s17);
 optP (binV .num .gtr x12 a1) s11 fun v18 s19 =>
 splitP v18 (
 optP (iasV a0 x12 1) s19 fun v20 s21 =>
 optP (ldV v20 1 false s21) s21 fun v22 s23 =>
 (True) ∧ optP (binV .num .sub x12 (.n .i64 1)) s23 fun v24 s25 =>
 optP (iasV a0 v24 1) s25 fun v26 s27 =>
 optP (ldV v26 1 false s27) s27 fun v28 s29 =>
 (True) ∧ ACalls E 98 [v22, v28] s29 fun v30 s31 =>
 splitP v30 (
 (True) ∧ optP (binV .num .sub x12 (.n .i64 1)) s31 fun v32 s33 =>
 optP (binV .num .sub x12 (.n .i64 1)) s33 fun v34 s35 =>
 optP (iasV a0 v34 1) s35 fun v36 s37 =>
 optP (ldV v36 1 false s37) s37 fun v38 s39 =>
 (True) ∧ optP (iasV a0 x12 1) s39 fun v40 s41 =>
 optP (ldV v40 1 false s41) s41 fun v42 s43 =>
 (True) ∧ optP (iasV a0 x12 1) s43 fun v44 s45 =>
 optW (storeV v44 v38 1 s45) fun v46 s47 =>
 (True) ∧ optP (iasV a0 v32 1) s47 fun v48 s49 =>
 optW (storeV v48 v42 1 s49) fun v50 s51 =>
 (True) ∧ optP (binV .num .sub x12 (.n .i64 1)) s51 fun v52 s53 =>
 (a0 : V) = a0 ∧ (a1 : V) = a1 ∧ (a2 : V) = a2 ∧ (x5 : V) = x5 ∧ ∃ n13, n13 < n10 ∧ I9 n13 [v52] s53) (
 (True) ∧ k14 s31)) (
 (True) ∧ (True) ∧ (True) ∧ k14 s19)) (
 K (.tup []) s8)
theorem e_slices_insertionSortOrdered_int (E : Env) (a0 a1 a2 : V) (s : St) (K : V → St → Prop) : axF E c_slices_insertionSortOrdered_int [a0, a1, a2] s K = p_slices_insertionSortOrdered_int E a0 a1 a2 s K := by kernel_rfl
theorem g_slices_insertionSortOrdered_int {E : Env} {a0 a1 a2 : V} {s : St} {K : V → St → Prop} (h : chkF E.P E.m (E.m 109) c_slices_insertionSortOrdered_int = true) (hp : p_slices_insertionSortOrdered_int E a0 a1 a2 s K) : ACalls E 109 [a0, a1, a2] s K :=
  acalls h rfl (by rw [e_slices_insertionSortOrdered_int]; exact hp)

/-- slices.heapSortOrdered[int] -/
def c_slices_heapSortOrdered_int : AFunc := .mk 3 56 [] <|
  .seq (.reg [q 11 (.mv (.t 1)), q 6 (.mv (.t 11))]) <|
  .seq (.reg [q 7 (.mv (.c (.n .i64 0)))]) <|
  .seq (.reg [q 12 (.mv (.t 2)), q 13 (.mv (.t 1)), q 14 (.bin .num .sub (.t 12) (.t 13)), q 8 (.mv (.t 14))]) <|
  .seq (.seq (.reg [q 15 (.mv (.t 8)), q 16 (.bin .num .sub (.t 15) (.c (.n .i64 1))), q 17 (.bin .num .quo (.t 16) (.c (.n .i64 2))), q 9 (.mv (.t 17))]) <|
  .block 0 <|
  .loop [9] [0, 6, 7, 8] <|
  .seq (.seq (.reg [q 18 (.mv (.t 9)), qs 19 (.bin .num .geq (.t 18) (.c (.n .i64 0)))]) <|
  .cond (.t 19) (.skip) <|
  .exit 0) <|
  .seq (.block 1 <|
  .reg [q 22 (.mv (.t 0)), q 23 (.mv (.t 9)), q 24 (.mv (.t 8)), q 25 (.mv (.t 6)), q 26 (.call 117 [(.t 22), (.t 23), (.t 24), (.t 25)])]) <|
  .reg [q 20 (.mv (.t 9)), q 21 (.bin .num .sub (.t 20) (.c (.n .i64 1))), q 9 (.mv (.t 21))]) <|
  .seq (.reg [q 27 (.mv (.t 8)), q 28 (.bin .num .sub (.t 27) (.c (.n .i64 1))), q 10 (.mv (.t 28))]) <|
  .block 2 <|
  .loop [10] [0, 6, 7] <|
  .seq (.seq (.reg [q 29 (.mv (.t 10)), qs 30 (.bin .num .geq (.t 29) (.c (.n .i64 0)))]) <|
  .cond (.t 30) (.skip) <|
  .exit 2) <|
  .seq (.block 3 <|
  .seq (.draw [qd (some 33) false [] (.mv (.t 0)), qd (some 34) false [] (.mv (.t 6)), qd (some 35) false [] (.mv (.t 0)), qd (some 36) false [] (.mv (.t 6)), qd (some 37) false [] (.mv (.t 10)), qd (some 38) false [3, 4] (.bin .num .add (.t 36) (.t 37)), qd (some 39) false [] (.mv (.t 0)), qd (some 40) false [] (.mv (.t 6)), qd (some 41) false [] (.mv (.t 10)), qd (some 42) false [7, 8] (.bin .num .add (.t 40) (.t 41)), qd (some 43) false [6, 7, 8, 9] (.ias (.t 39) (.t 42) 1), qd (some 44) false [6, 7, 8, 9, 10] (.load (.t 43) 1 false), qd (some 45) false [] (.mv (.t 0)), qd (some 46) false [] (.mv (.t 6)), qd (some 47) false [12, 13] (.ias (.t 45) (.t 46) 1), qd (some 48) false [12, 13, 14] (.load (.t 47) 1 false), qd (some 49) false [0, 1, 6, 7, 8, 9, 10, 11, 12, 13, 14, 15] (.ias (.t 33) (.t 34) 1), qd none false [0, 1, 6, 7, 8, 9, 10, 11, 12, 13, 14, 15, 16] (.store (.t 49) (.t 44) 1), qd (some 50) false [0, 1, 2, 3, 4, 5, 6, 7, 8, 9, 10, 11, 12, 13, 14, 15, 16, 17] (.ias (.t 35) (.t 38) 1), qd none false [0, 1, 2, 3, 4, 5, 6, 7, 8, 9, 10, 11, 12, 13, 14, 15, 16, 17, 18] (.store (.t 50) (.t 48) 1)]) <|
  .reg [q 51 (.mv (.t 0)), q 52 (.mv (.t 7)), q 53 (.mv (.t 10)), q 54 (.mv (.t 6)), q 55 (.call 117 [(.t 51), (.t 52), (.t 53), (.t 54)])]) <|
  .reg [q 31 (.mv (.t 10)), q 32 (.bin .num .sub (.t 31) (.c (.n .i64 1))), q 10 (.mv (.t 32))]

/-- slices.heapSortOrdered[int] -/
def p_slices_heapSortOrdered_int (E : Env) (a0 a1 a2 : V) (s : St) (K : V → St → Prop) : Prop :=
 optP (binV .num .sub a2 a1) s fun v0 s1 =>
 optP (binV .num .sub v0 (.n .i64 1)) s1 fun v2 s3 =>
 optP (binV .num .quo v2 (.n .i64 2)) s3 fun v4 s5 =>
 ∃ I6 : Nat → List V → St → Prop, (∃ n7, I6 n7 [v4] s5) ∧ ∀ n7, ∀ x9 : V, ∀ s8, I6 n7 [x9] s8 →
 optP (binV .num .geq x9 (.n .i64 0)) s8 fun v11 s12 =>
 splitP v11 (
 ACalls E 117 [a0, x9, v0, a1] s12 fun v13 s14 =>
 optP (binV .num .sub x9 (.n .i64 1)) s14 fun v15 s16 =>
 (a0 : V) = a0 ∧ (a1 : V) = a1 ∧ ((.n .i64 0) : V) = (.n .i64 0) ∧ (v0 : V) = v0 ∧ ∃ n10, n10 < n7 ∧ I6 n10 [v15] s16) (
 optP (binV .num .sub v0 (.n .i64 1)) s12 fun v17 s18 =>
 ∃ I19 : Nat → List V → St → Prop, (∃ n20, I19 n20 [v17] s18) ∧ ∀ n20, ∀ x22 : V, ∀ s21, I19 n20 [x22] s21 →
 optP (binV .num .geq x22 (.n .i64 0)) s21 fun v24 s25 =>
 splitP v24 (
 optP (binV .num .add a1 x22) s25 fun v26 s27 =>
 optP (binV .num .add a1 x22) s27 fun v28 s29 =>
 optP (iasV a0 v28 1) s29 fun v30 s31 =>
 optP (ldV v30 1 false s31) s31 fun v32 s33 =>
 (True) ∧ optP (iasV a0 a1 1) s33 fun v34 s35 =>
 optP (ldV v34 1 false s35) s35 fun v36 s37 =>
 (True) ∧ optP (iasV a0 a1 1) s37 fun v38 s39 =>
 optW (storeV v38 v32 1 s39) fun v40 s41 =>
 (True) ∧ optP (iasV a0 v26 1) s41 fun v42 s43 =>
 optW (storeV v42 v36 1 s43) fun v44 s45 =>
 (True) ∧ ACalls E 117 [a0, (.n .i64 0), x22, a1] s45 fun v46 s47 =>
 optP (binV .num .sub x22 (.n .i64 1)) s47 fun v48 s49 =>
 (a0 : V) = a0 ∧ (a1 : V) = a1 ∧ ((.n .i64 0) : V) = (.n .i64 0) ∧ ∃ n23, n23 < n20 ∧ I19 n23 [v48] s49) (
 K (.tup []) s25))
theorem e_slices_heapSortOrdered_int (E : Env) (a0 a1 a2 : V) (s : St) (K : V → St → Prop) : axF E c_slices_heapSortOrdered_int [a0, a1, a2] s K = p_slices_heapSortOrdered_int E a0 a1 a2 s K := by kernel_rfl
theorem g_slices_heapSortOrdered_int {E : Env} {a0 a1 a2 : V} {s : St} {K : V → St → Prop} (h : chkF E.P E.m (E.m 110) c_slices_heapSortOrdered_int = true) (hp : p_slices_heapSortOrdered_int E a0 a1 a2 s K) : ACalls E 110 [a0, a1, a2] s K :=
  acalls h rfl (by rw [e_slices_heapSortOrdered_int]; exact hp)

/-- slices.breakPatternsOrdered[int] -/
def c_slices_breakPatternsOrdered_int : AFunc := .mk 3 65 [] <|
  .seq (.reg [q 11 (.mv (.t 2)), q 12 (.mv (.t 1)), q 13 (.bin .num .sub (.t 11) (.t 12)), q 6 (.mv (.t 13))]) <|
  .seq (.reg [q 14 (.mv (.t 6)), qs 15 (.bin .num .geq (.t 14) (.c (.n .i64 8)))]) <|
  .cond (.t 15) (.seq (.reg [q 16 (.mv (.t 6)), q 17 (.cnv .u64 (.t 16)), q 7 (.alloc [.n .u64 0]), qn (.store (.t 7) (.t 17) 1)]) <|
  .seq (.reg [q 18 (.mv (.t 6)), q 19 (.call 118 [(.t 18)]), q 8 (.mv (.t 19))]) <|
  .seq (.reg [q 20 (.mv (.t 1)), q 21 (.mv (.t 6)), q 22 (.bin .num .quo (.t 21) (.c (.n .i64 4))), q 23 (.bin .num .mul (.t 22) (.c (.n .i64 2))), q 24 (.bin .num .add (.t 20) (.t 23)), q 25 (.bin .num .sub (.t 24) (.c (.n .i64 1))), q 9 (.mv (.t 25))]) <|
  .block 0 <|
  .loop [9] [0, 1, 6, 7, 8] <|
  .seq (.seq (.reg [q 26 (.mv (.t 9)), q 27 (.mv (.t 1)), q 28 (.mv (.t 6)), q 29 (.bin .num .quo (.t 28) (.c (.n .i64 4))), q 30 (.bin .num .mul (.t 29) (.c (.n .i64 2))), q 31 (.bin .num .add (.t 27) (.t 30)), q 32 (.bin .num .add (.t 31) (.c (.n .i64 1))), qs 33 (.bin .num .leq (.t 26) (.t 32))]) <|
  .cond (.t 33) (.skip) <|
  .exit 0) <|
  .seq (.block 1 <|
  .seq (.reg [q 36 (.call 119 [(.t 7)]), q 37 (.mv (.t 8)), q 38 (.bin .num .sub (.t 37) (.c (.n .u64 1))), q 39 (.bin .num .and (.t 36) (.t 38)), q 40 (.cnv .i64 (.t 39)), q 10 (.mv (.t 40))]) <|
  .seq (.seq (.reg [q 41 (.mv (.t 10)), q 42 (.mv (.t 6)), qs 43 (.bin .num .geq (.t 41) (.t 42))]) <|
  .cond (.t 43) (.reg [q 44 (.mv (.t 10)), q 45 (.mv (.t 6)), q 46 (.bin .num .sub (.t 44) (.t 45)), q 10 (.mv (.t 46))]) <|
  .skip) <|
  .draw [qd (some 47) false [] (.mv (.t 0)), qd (some 48) false [] (.mv (.t 9)), qd (some 49) false [] (.mv (.t 0)), qd (some 50) false [] (.mv (.t 1)), qd (some 51) false [] (.mv (.t 10)), qd (some 52) false [3, 4] (.bin .num .add (.t 50) (.t 51)), qd (some 53) false [] (.mv (.t 0)), qd (some 54) false [] (.mv (.t 1)), qd (some 55) false [] (.mv (.t 10)), qd (some 56) false [7, 8] (.bin .num .add (.t 54) (.t 55)), qd (some 57) false [6, 7, 8, 9] (.ias (.t 53) (.t 56) 1), qd (some 58) false [6, 7, 8, 9, 10] (.load (.t 57) 1 false), qd (some 59) false [] (.mv (.t 0)), qd (some 60) false [] (.mv (.t 9)), qd (some 61) false [12, 13] (.ias (.t 59) (.t 60) 1), qd (some 62) false [12, 13, 14] (.load (.t 61) 1 false), qd (some 63) false [0, 1, 6, 7, 8, 9, 10, 11, 12, 13, 14, 15] (.ias (.t 47) (.t 48) 1), qd none false [0, 1, 6, 7, 8, 9, 10, 11, 12, 13, 14, 15, 16] (.store (.t 63) (.t 58) 1), qd (some 64) false [0, 1, 2, 3, 4, 5, 6, 7, 8, 9, 10, 11, 12, 13, 14, 15, 16, 17] (.ias (.t 49) (.t 52) 1), qd none false [0, 1, 2, 3, 4, 5, 6, 7, 8, 9, 10, 11, 12, 13, 14, 15, 16, 17, 18] (.store (.t 64) (.t 62) 1)]) <|
  .reg [q 34 (.mv (.t 9)), q 35 (.bin .num .add (.t 34) (.c (.n .i64 1))), q 9 (.mv (.t 35))]) <|
  .skip

/-- slices.breakPatternsOrdered[int] -/
def p_slices_breakPatternsOrdered_int (E : Env) (a0 a1 a2 : V) (s : St) (K : V → St → Prop) : Prop :=
 optP (binV .num .sub a2 a1) s fun v0 s1 =>
 optP (binV .num .geq v0 (.n .i64 8)) s1 fun v2 s3 =>
 splitP v2 (
 optP (cnvV .u64 v0) s3 fun v4 s5 =>
 optW (allocW [.n .u64 0] s5) fun v6 s7 =>
 optW (storeV v6 v4 1 s7) fun v8 s9 =>
 ACalls E 118 [v0] s9 fun v10 s11 =>
 optP (binV .num .quo v0 (.n .i64 4)) s11 fun v12 s13 =>
 optP (binV .num .mul v12 (.n .i64 2)) s13 fun v14 s15 =>
 optP (binV .num .add a1 v14) s15 fun v16 s17 =>
 optP (binV .num .sub v16 (.n .i64 1)) s17 fun v18 s19 =>
 ∃ I20 : Nat → List V → St → Prop, (∃ n21, I20 n21 [v18] s19) ∧ ∀ n21, ∀ x23 : V, ∀ s22, I20 n21 [x23] s22 →
 optP (binV .num .quo v0 (.n .i64 4)) s22 fun v25 s26 =>
 optP (binV .num .mul v25 (.n .i64 2)) s26 fun v27 s28 =>
 optP (binV .num .add a1 v27) s28 fun v29 s30 =>
 optP (binV .num .add v29 (.n .i64 1)) s30 fun v31 s32 =>
 optP (binV .num .leq x23 v31) s32 fun v33 s34 =>
 splitP v33 (
 ACalls E 119 [v6] s34 fun v35 s36 =>
 optP (binV .num .sub v10 (.n .u64 1)) s36 fun v37 s38 =>
 optP (binV .num .and v35 v37) s38 fun v39 s40 =>
 optP (cnvV .i64 v39) s40 fun v41 s42 =>
 let k43 : V → St → Prop := (fun x45 s44 =>
 optP (binV .num .add a1 x45) s44 fun v46 s47 =>
 optP (binV .num .add a1 x45) s47 fun v48 s49 =>
 optP (iasV a0 v48 1) s49 fun v50 s51 =>
 optP (ldV v50 1 false s51) s51 fun v52 s53 =>
 (True) ∧ optP (iasV a0 x23 1) s53 fun v54 s55 =>
 optP (ldV v54 1 false s55) s55 fun v56 s57 =>
 (True) ∧ optP (iasV a0 x23 1) s57 fun v58 s59 =>
 optW (storeV v58 v52 1 s59) fun v60 s61 =>
 (True) ∧ optP (iasV a0 v46 1) s61 fun v62 s63 =>
 optW (storeV v62 v56 1 s63) fun v64 s65 =>
 (True) ∧ optP (binV .num .add x23 (.n .i64 1)) s65 fun v66 s67 =>
 (a0 : V) = a0 ∧ (a1 : V) = a1 ∧ (v0 : V) = v0 ∧ (v6 : V) = v6 ∧ (v10 : V) = v10 ∧ ∃ n24, n24 < n21 ∧ I20 n24 [v66] s67);
 optP (binV .num .geq v41 v0) s42 fun v68 s69 =>
 splitP v68 (
 optP (binV .num .sub v41 v0) s69 fun v70 s71 =>
 k43 v70 s71) (
 k43 v41 s69)) (
 K (.tup []) s34)) (
 K (.tup []) s3)
theorem e_slices_breakPatternsOrdered_int (E : Env) (a0 a1 a2 : V) (s : St) (K : V → St → Prop) : axF E c_slices_breakPatternsOrdered_int [a0, a1, a2] s K = p_slices_breakPatternsOrdered_int E a0 a1 a2 s K := by kernel_rfl
theorem g_slices_breakPatternsOrdered_int {E : Env} {a0 a1 a2 : V} {s : St} {K : V → St → Prop} (h : chkF E.P E.m (E.m 111) c_slices_breakPatternsOrdered_int = true) (hp : p_slices_breakPatternsOrdered_int E a0 a1 a2 s K) : ACalls E 111 [a0, a1, a2] s K :=
  acalls h rfl (by rw [e_slices_breakPatternsOrdered_int]; exact hp)

/-- slices.choosePivotOrdered[int] -/
def c_slices_choosePivotOrdered_int : AFunc := .mk 3 57 [.t 6, .t 7] <|
  .seq (.reg [q 6 (.mv (.c (.n .i64 0))), q 7 (.mv (.c (.n .i64 0)))]) <|
  .seq (.reg [q 13 (.mv (.t 2)), q 14 (.mv (.t 1)), q 15 (.bin .num .sub (.t 13) (.t 14)), q 8 (.mv (.t 15))]) <|
  .seq (.reg [q 9 (.alloc [.n .i64 0])]) <|
  .seq (.reg [q 16 (.mv (.t 1)), q 17 (.mv (.t 8)), q 18 (.bin .num .quo (.t 17) (.c (.n .i64 4))), q 19 (.bin .num .mul (.t 18) (.c (.n .i64 1))), q 20 (.bin .num .add (.t 16) (.t 19)), q 10 (.mv (.t 20))]) <|
  .seq (.reg [q 21 (.mv (.t 1)), q 22 (.mv (.t 8)), q 23 (.bin .num .quo (.t 22) (.c (.n .i64 4))), q 24 (.bin .num .mul (.t 23) (.c (.n .i64 2))), q 25 (.bin .num .add (.t 21) (.t 24)), q 11 (.mv (.t 25))]) <|
  .seq (.reg [q 26 (.mv (.t 1)), q 27 (.mv (.t 8)), q 28 (.bin .num .quo (.t 27) (.c (.n .i64 4))), q 29 (.bin .num .mul (.t 28) (.c (.n .i64 3))), q 30 (.bin .num .add (.t 26) (.t 29)), q 12 (.mv (.t 30))]) <|
  .seq (.seq (.reg [q 31 (.mv (.t 8)), qs 32 (.bin .num .geq (.t 31) (.c (.n .i64 8)))]) <|
  .cond (.t 32) (.seq (.seq (.reg [q 33 (.mv (.t 8)), qs 34 (.bin .num .geq (.t 33) (.c (.n .i64 50)))]) <|
  .cond (.t 34) (.seq (.reg [q 35 (.mv (.t 0)), q 36 (.mv (.t 10)), q 37 (.call 120 [(.t 35), (.t 36), (.t 9)]), q 10 (.mv (.t 37))]) <|
  .seq (.reg [q 38 (.mv (.t 0)), q 39 (.mv (.t 11)), q 40 (.call 120 [(.t 38), (.t 39), (.t 9)]), q 11 (.mv (.t 40))]) <|
  .reg [q 41 (.mv (.t 0)), q 42 (.mv (.t 12)), q 43 (.call 120 [(.t 41), (.t 42), (.t 9)]), q 12 (.mv (.t 43))]) <|
  .skip) <|
  .reg [q 44 (.mv (.t 0)), q 45 (.mv (.t 10)), q 46 (.mv (.t 11)), q 47 (.mv (.t 12)), q 48 (.call 121 [(.t 44), (.t 45), (.t 46), (.t 47), (.t 9)]), q 11 (.mv (.t 48))]) <|
  .skip) <|
  .seq (.reg [q 49 (.load (.t 9) 1 false)]) <|
  .block 0 <|
  .seq (.reg [qs 52 (.bin .num .eql (.t 49) (.c (.n .i64 0))), q 51 (.mv (.t 52))]) <|
  .cond (.t 51) (.seq (.reg [q 53 (.mv (.t 11)), q 6 (.mv (.t 53)), q 7 (.mv (.c (.n .i64 1)))]) <|
  .ret) <|
  .seq (.reg [qs 55 (.bin .num .eql (.t 49) (.c (.n .i64 12))), q 54 (.mv (.t 55))]) <|
  .cond (.t 54) (.seq (.reg [q 56 (.mv (.t 11)), q 6 (.mv (.t 56)), q 7 (.mv (.c (.n .i64 2)))]) <|
  .ret) <|
  .seq (.reg [q 50 (.mv (.t 11)), q 6 (.mv (.t 50)), q 7 (.mv (.c (.n .i64 0)))]) <|
  .ret

/-- slices.choosePivotOrdered[int] -/
def p_slices_choosePivotOrdered_int (E : Env) (a0 a1 a2 : V) (s : St) (K : V → St → Prop) : Prop :=
 optP (binV .num .sub a2 a1) s fun v0 s1 =>
 optW (allocW [.n .i64 0] s1) fun v2 s3 =>
 optP (binV .num .quo v0 (.n .i64 4)) s3 fun v4 s5 =>
 optP (binV .num .mul v4 (.n .i64 1)) s5 fun v6 s7 =>
 optP (binV .num .add a1 v6) s7 fun v8 s9 =>
 optP (binV .num .quo v0 (.n .i64 4)) s9 fun v10 s11 =>
 optP (binV .num .mul v10 (.n .i64 2)) s11 fun v12 s13 =>
 optP (binV .num .add a1 v12) s13 fun v14 s15 =>
 optP (binV .num .quo v0 (.n .i64 4)) s15 fun v16 s17 =>
 optP (binV .num .mul v16 (.n .i64 3)) s17 fun v18 s19 =>
 optP (binV .num .add a1 v18) s19 fun v20 s21 =>
 let k22 : V → St → Prop := (fun x24 s23 =>
 optP (ldV v2 1 false s23) s23 fun v25 s26 =>
 optP (binV .num .eql v25 (.n .i64 0)) s26 fun v27 s28 =>
 splitP v27 (
 K (.tup [x24, (.n .i64 1)]) s28) (
 optP (binV .num .eql v25 (.n .i64 12)) s28 fun v29 s30 =>
 splitP v29 (
 K (.tup [x24, (.n .i64 2)]) s30) (
 K (.tup [x24, (.n .i64 0)]) s30)));
 optP (binV .num .geq v0 (.n .i64 8)) s21 fun v31 s32 =>
 splitP v31 (
 let k33 : V → V → V → St → Prop := (fun x35 x36 x37 s34 =>
 ACalls E 121 [a0, x35, x36, x37, v2] s34 fun v38 s39 =>
 k22 v38 s39);
 optP (binV .num .geq v0 (.n .i64 50)) s32 fun v40 s41 =>
 splitP v40 (
 ACalls E 120 [a0, v8, v2] s41 fun v42 s43 =>
 ACalls E 120 [a0, v14, v2] s43 fun v44 s45 =>
 ACalls E 120 [a0, v20, v2] s45 fun v46 s47 =>
 k33 v42 v44 v46 s47) (
 k33 v8 v14 v20 s41)) (
 k22 v14 s32)
theorem e_slices_choosePivotOrdered_int (E : Env) (a0 a1 a2 : V) (s : St) (K : V → St → Prop) : axF E c_slices_choosePivotOrdered_int [a0, a1, a2] s K = p_slices_choosePivotOrdered_int E a0 a1 a2 s K := by kernel_rfl
theorem g_slices_choosePivotOrdered_int {E : Env} {a0 a1 a2 : V} {s : St} {K : V → St → Prop} (h : chkF E.P E.m (E.m 112) c_slices_choosePivotOrdered_int = true) (hp : p_slices_choosePivotOrdered_int E a0 a1 a2 s K) : ACalls E 112 [a0, a1, a2] s K :=
  acalls h rfl (by rw [e_slices_choosePivotOrdered_int]; exact hp)

/-- slices.reverseRangeOrdered[int] -/
def c_slices_reverseRangeOrdered_int : AFunc := .mk 3 32 [] <|
  .seq (.reg [q 8 (.mv (.t 1)), q 6 (.mv (.t 8))]) <|
  .seq (.reg [q 9 (.mv (.t 2)), q 10 (.bin .num .sub (.t 9) (.c (.n .i64 1))), q 7 (.mv (.t 10))]) <|
  .block 0 <|
  .loop [6, 7] [0] <|
  .seq (.seq (.reg [q 11 (.mv (.t 6)), q 12 (.mv (.t 7)), qs 13 (.bin .num .lss (.t 11) (.t 12))]) <|
  .cond (.t 13) (.skip) <|
  .exit 0) <|
  .block 1 <|
  .seq (.draw [qd (some 14) false [] (.mv (.t 0)), qd (some 15) false [] (.mv (.t 6)), qd (some 16) false [] (.mv (.t 0)), qd (some 17) false [] (.mv (.t 7)), qd (some 18) false [] (.mv (.t 0)), qd (some 19) false [] (.mv (.t 7)), qd (some 20) false [4, 5] (.ias (.t 18) (.t 19) 1), qd (some 21) false [4, 5, 6] (.load (.t 20) 1 false), qd (some 22) false [] (.mv (.t 0)), qd (some 23) false [] (.mv (.t 6)), qd (some 24) false [8, 9] (.ias (.t 22) (.t 23) 1), qd (some 25) false [8, 9, 10] (.load (.t 24) 1 false), qd (some 26) false [0, 1, 4, 5, 6, 7, 8, 9, 10, 11] (.ias (.t 14) (.t 15) 1), qd none false [0, 1, 4, 5, 6, 7, 8, 9, 10, 11, 12] (.store (.t 26) (.t 21) 1), qd (some 27) false [0, 1, 2, 3, 4, 5, 6, 7, 8, 9, 10, 11, 12, 13] (.ias (.t 16) (.t 17) 1), qd none false [0, 1, 2, 3, 4, 5, 6, 7, 8, 9, 10, 11, 12, 13, 14] (.store (.t 27) (.t 25) 1)]) <|
  .seq (.reg [q 28 (.mv (.t 6)), q 29 (.bin .num .add (.t 28) (.c (.n .i64 1))), q 6 (.mv (.t 29))]) <|
  .reg [q 30 (.mv (.t 7)), q 31 (.bin .num .sub (.t 30) (.c (.n .i64 1))), q 7 (.mv (.t 31))]

/-- slices.reverseRangeOrdered[int] -/
def p_slices_reverseRangeOrdered_int (E : Env) (a0 a1 a2 : V) (s : St) (K : V → St → Prop) : Prop :=
 optP (binV .num .sub a2 (.n .i64 1)) s fun v0 s1 =>
 ∃ I2 : Nat → List V → St → Prop, (∃ n3, I2 n3 [a1, v0] s1) ∧ ∀ n3, ∀ x5 : V, ∀ x6 : V, ∀ s4, I2 n3 [x5, x6] s4 →
 optP (binV .num .lss x5 x6) s4 fun v8 s9 =>
 splitP v8 (
 optP (iasV a0 x6 1) s9 fun v10 s11 =>
 optP (ldV v10 1 false s11) s11 fun v12 s13 =>
 (True) ∧ optP (iasV a0 x5 1) s13 fun v14 s15 =>
 optP (ldV v14 1 false s15) s15 fun v16 s17 =>
 (True) ∧ optP (iasV a0 x5 1) s17 fun v18 s19 =>
 optW (storeV v18 v12 1 s19) fun v20 s21 =>
 (True) ∧ optP (iasV a0 x6 1) s21 fun v22 s23 =>
 optW (storeV v22 v16 1 s23) fun v24 s25 =>
 (True) ∧ optP (binV .num .add x5 (.n .i64 1)) s25 fun v26 s27 =>
 optP (binV .num .sub x6 (.n .i64 1)) s27 fun v28 s29 =>
 (a0 : V) = a0 ∧ ∃ n7, n7 < n3 ∧ I2 n7 [v26, v28] s29) (
 K (.tup []) s9)
theorem e_slices_reverseRangeOrdered_int (E : Env) (a0 a1 a2 : V) (s : St) (K : V → St → Prop) : axF E c_slices_reverseRangeOrdered_int [a0, a1, a2] s K = p_slices_reverseRangeOrdered_int E a0 a1 a2 s K := by kernel_rfl
theorem g_slices_reverseRangeOrdered_int {E : Env} {a0 a1 a2 : V} {s : St} {K : V → St → Prop} (h : chkF E.P E.m (E.m 113) c_slices_reverseRangeOrdered_int = true) (hp : p_slices_reverseRangeOrdered_int E a0 a1 a2 s K) : ACalls E 113 [a0, a1, a2] s K :=
  acalls h rfl (by rw [e_slices_reverseRangeOrdered_int]; exact hp)

/-- slices.partialInsertionSortOrdered[int] -/
def c_slices_partialInsertionSortOrdered_int : AFunc := .mk 3 133 [.t 6] <|
  .seq (.reg [q 6 (.mv (.c (.b false)))]) <|
  .seq (.reg [q 11 (.mv (.t 1)), q 12 (.bin .num .add (.t 11) (.c (.n .i64 1))), q 7 (.mv (.t 12))]) <|
  .seq (.seq (.reg [q 8 (.mv (.c (.n .i64 0)))]) <|
  .block 0 <|
  .loop [7, 8] [0, 1, 2] <|
  .seq (.seq (.reg [q 13 (.mv (.t 8)), qs 14 (.bin .num .lss (.t 13) (.c (.n .i64 5)))]) <|
  .cond (.t 14) (.skip) <|
  .exit 0) <|
  .seq (.block 1 <|
  .seq (.block 2 <|
  .loop [7] [0, 1, 2, 8] <|
  .seq (.seq (.draw [qd (some 17) false [] (.mv (.t 7)), qd (some 18) false [] (.mv (.t 2)), qd (some 19) true [0, 1] (.bin .num .lss (.t 17) (.t 18)), qd (some 20) false [0, 1, 2] (.mv (.t 19)), qdg (some 21) false 20 true [0, 1, 2, 3] (.mv (.t 0)), qdg (some 22) false 20 true [0, 1, 2, 3] (.mv (.t 7)), qdg (some 23) false 20 true [0, 1, 2, 3, 4, 5] (.ias (.t 21) (.t 22) 1), qdg (some 24) false 20 true [0, 1, 2, 3, 4, 5, 6] (.load (.t 23) 1 false), qdg (some 25) false 20 true [0, 1, 2, 3] (.mv (.t 0)), qdg (some 26) false 20 true [0, 1, 2, 3] (.mv (.t 7)), qdg (some 27) false 20 true [0, 1, 2, 3, 9] (.bin .num .sub (.t 26) (.c (.n .i64 1))), qdg (some 28) false 20 true [0, 1, 2, 3, 8, 9, 10] (.ias (.t 25) (.t 27) 1), qdg (some 29) false 20 true [0, 1, 2, 3, 8, 9, 10, 11] (.load (.t 28) 1 false), qdg (some 30) true 20 true [0, 1, 2, 3, 4, 5, 6, 7, 8, 9, 10, 11, 12] (.call 98 [(.t 24), (.t 29)]), qdg (some 31) false 20 true [0, 1, 2, 3, 4, 5, 6, 7, 8, 9, 10, 11, 12, 13] (.un .not (.t 30)), qd (some 32) false [0, 1, 2, 3, 4, 5, 6, 7, 8, 9, 10, 11, 12, 13, 14] (.pick (.t 20) (.t 31) (.c (.b false)))]) <|
  .cond (.t 32) (.skip) <|
  .exit 2) <|
  .block 3 <|
  .reg [q 33 (.mv (.t 7)), q 34 (.bin .num .add (.t 33) (.c (.n .i64 1))), q 7 (.mv (.t 34))]) <|
  .seq (.seq (.reg [q 35 (.mv (.t 7)), q 36 (.mv (.t 2)), qs 37 (.bin .num .eql (.t 35) (.t 36))]) <|
  .cond (.t 37) (.seq (.reg [q 6 (.mv (.c (.b true)))]) <|
  .ret) <|
  .skip) <|
  .seq (.seq (.reg [q 38 (.mv (.t 2)), q 39 (.mv (.t 1)), q 40 (.bin .num .sub (.t 38) (.t 39)), qs 41 (.bin .num .lss (.t 40) (.c (.n .i64 50)))]) <|
  .cond (.t 41) (.seq (.reg [q 6 (.mv (.c (.b false)))]) <|
  .ret) <|
  .skip) <|
  .seq (.draw [qd (some 42) false [] (.mv (.t 0)), qd (some 43) false [] (.mv (.t 7)), qd (some 44) false [] (.mv (.t 0)), qd (some 45) false [] (.mv (.t 7)), qd (some 46) false [3] (.bin .num .sub (.t 45) (.c (.n .i64 1))), qd (some 47) false [] (.mv (.t 0)), qd (some 48) false [] (.mv (.t 7)), qd (some 49) false [6] (.bin .num .sub (.t 48) (.c (.n .i64 1))), qd (some 50) false [5, 6, 7] (.ias (.t 47) (.t 49) 1), qd (some 51) false [5, 6, 7, 8] (.load (.t 50) 1 false), qd (some 52) false [] (.mv (.t 0)), qd (some 53) false [] (.mv (.t 7)), qd (some 54) false [10, 11] (.ias (.t 52) (.t 53) 1), qd (some 55) false [10, 11, 12] (.load (.t 54) 1 false), qd (some 56) false [0, 1, 5, 6, 7, 8, 9, 10, 11, 12, 13] (.ias (.t 42) (.t 43) 1), qd none false [0, 1, 5, 6, 7, 8, 9, 10, 11, 12, 13, 14] (.store (.t 56) (.t 51) 1), qd (some 57) false [0, 1, 2, 3, 4, 5, 6, 7, 8, 9, 10, 11, 12, 13, 14, 15] (.ias (.t 44) (.t 46) 1), qd none false [0, 1, 2, 3, 4, 5, 6, 7, 8, 9, 10, 11, 12, 13, 14, 15, 16] (.store (.t 57) (.t 55) 1)]) <|
  .seq (.seq (.reg [q 58 (.mv (.t 7)), q 59 (.mv (.t 1)), q 60 (.bin .num .sub (.t 58) (.t 59)), qs 61 (.bin .num .geq (.t 60) (.c (.n .i64 2)))]) <|
  .cond (.t 61) (.seq (.reg [q 62 (.mv (.t 7)), q 63 (.bin .num .sub (.t 62) (.c (.n .i64 1))), q 9 (.mv (.t 63))]) <|
  .block 4 <|
  .loop [9] [0, 1, 2, 7, 8] <|
  .seq (.seq (.reg [q 64 (.mv (.t 9)), qs 65 (.bin .num .geq (.t 64) (.c (.n .i64 1)))]) <|
  .cond (.t 65) (.skip) <|
  .exit 4) <|
  .seq (.block 5 <|
  .seq (.seq (.draw [qd (some 68) false [] (.mv (.t 0)), qd (some 69) false [] (.mv (.t 9)), qd (some 70) false [0, 1] (.ias (.t 68) (.t 69) 1), qd (some 71) false [0, 1, 2] (.load (.t 70) 1 false), qd (some 72) false [] (.mv (.t 0)), qd (some 73) false [] (.mv (.t 9)), qd (some 74) false [5] (.bin .num .sub (.t 73) (.c (.n .i64 1))), qd (some 75) false [4, 5, 6] (.ias (.t 72) (.t 74) 1), qd (some 76) false [4, 5, 6, 7] (.load (.t 75) 1 false), qd (some 77) true [0, 1, 2, 3, 4, 5, 6, 7, 8] (.call 98 [(.t 71), (.t 76)]), qd (some 78) false [0, 1, 2, 3, 4, 5, 6, 7, 8, 9] (.un .not (.t 77))]) <|
  .cond (.t 78) (.exit 4) <|
  .skip) <|
  .draw [qd (some 79) false [] (.mv (.t 0)), qd (some 80) false [] (.mv (.t 9)), qd (some 81) false [] (.mv (.t 0)), qd (some 82) false [] (.mv (.t 9)), qd (some 83) false [3] (.bin .num .sub (.t 82) (.c (.n .i64 1))), qd (some 84) false [] (.mv (.t 0)), qd (some 85) false [] (.mv (.t 9)), qd (some 86) false [6] (.bin .num .sub (.t 85) (.c (.n .i64 1))), qd (some 87) false [5, 6, 7] (.ias (.t 84) (.t 86) 1), qd (some 88) false [5, 6, 7, 8] (.load (.t 87) 1 false), qd (some 89) false [] (.mv (.t 0)), qd (some 90) false [] (.mv (.t 9)), qd (some 91) false [10, 11] (.ias (.t 89) (.t 90) 1), qd (some 92) false [10, 11, 12] (.load (.t 91) 1 false), qd (some 93) false [0, 1, 5, 6, 7, 8, 9, 10, 11, 12, 13] (.ias (.t 79) (.t 80) 1), qd none false [0, 1, 5, 6, 7, 8, 9, 10, 11, 12, 13, 14] (.store (.t 93) (.t 88) 1), qd (some 94) false [0, 1, 2, 3, 4, 5, 6, 7, 8, 9, 10, 11, 12, 13, 14, 15] (.ias (.t 81) (.t 83) 1), qd none false [0, 1, 2, 3, 4, 5, 6, 7, 8, 9, 10, 11, 12, 13, 14, 15, 16] (.store (.t 94) (.t 92) 1)]) <|
  .reg [q 66 (.mv (.t 9)), q 67 (.bin .num .sub (.t 66) (.c (.n .i64 1))), q 9 (.mv (.t 67))]) <|
  .skip) <|
  .seq (.reg [q 95 (.mv (.t 2)), q 96 (.mv (.t 7)), q 97 (.bin .num .sub (.t 95) (.t 96)), qs 98 (.bin .num .geq (.t 97) (.c (.n .i64 2)))]) <|
  .cond (.t 98) (.seq (.reg [q 99 (.mv (.t 7)), q 100 (.bin .num .add (.t 99) (.c (.n .i64 1))), q 10 (.mv (.t 100))]) <|
  .block 6 <|
  .loop [10] [0, 1, 2, 7, 8] <|
  .seq (.seq (.reg [q 101 (.mv (.t 10)), q 102 (.mv (.t 2)), qs 103 (.bin .num .lss (.t 101) (.t 102))]) <|
  .cond (.t 103) (.skip) <|
  .exit 6) <|
  .seq (.block 7 <|
  .seq (.seq (.draw [qd (some 106) false [] (.mv (.t 0)), qd (some 107) false [] (.mv (.t 10)), qd (some 108) false [0, 1] (.ias (.t 106) (.t 107) 1), qd (some 109) false [0, 1, 2] (.load (.t 108) 1 false), qd (some 110) false [] (.mv (.t 0)), qd (some 111) false [] (.mv (.t 10)), qd (some 112) false [5] (.bin .num .sub (.t 111) (.c (.n .i64 1))), qd (some 113) false [4, 5, 6] (.ias (.t 110) (.t 112) 1), qd (some 114) false [4, 5, 6, 7] (.load (.t 113) 1 false), qd (some 115) true [0, 1, 2, 3, 4, 5, 6, 7, 8] (.call 98 [(.t 109), (.t 114)]), qd (some 116) false [0, 1, 2, 3, 4, 5, 6, 7, 8, 9] (.un .not (.t 115))]) <|
  .cond (.t 116) (.exit 6) <|
  .skip) <|
  .draw [qd (some 117) false [] (.mv (.t 0)), qd (some 118) false [] (.mv (.t 10)), qd (some 119) false [] (.mv (.t 0)), qd (some 120) false [] (.mv (.t 10)), qd (some 121) false [3] (.bin .num .sub (.t 120) (.c (.n .i64 1))), qd (some 122) false [] (.mv (.t 0)), qd (some 123) false [] (.mv (.t 10)), qd (some 124) false [6] (.bin .num .sub (.t 123) (.c (.n .i64 1))), qd (some 125) false [5, 6, 7] (.ias (.t 122) (.t 124) 1), qd (some 126) false [5, 6, 7, 8] (.load (.t 125) 1 false), qd (some 127) false [] (.mv (.t 0)), qd (some 128) false [] (.mv (.t 10)), qd (some 129) false [10, 11] (.ias (.t 127) (.t 128) 1), qd (some 130) false [10, 11, 12] (.load (.t 129) 1 false), qd (some 131) false [0, 1, 5, 6, 7, 8, 9, 10, 11, 12, 13] (.ias (.t 117) (.t 118) 1), qd none false [0, 1, 5, 6, 7, 8, 9, 10, 11, 12, 13, 14] (.store (.t 131) (.t 126) 1), qd (some 132) false [0, 1, 2, 3, 4, 5, 6, 7, 8, 9, 10, 11, 12, 13, 14, 15] (.ias (.t 119) (.t 121) 1), qd none false [0, 1, 2, 3, 4, 5, 6, 7, 8, 9, 10, 11, 12, 13, 14, 15, 16] (.store (.t 132) (.t 130) 1)]) <|
  .reg [q 104 (.mv (.t 10)), q 105 (.bin .num .add (.t 104) (.c (.n .i64 1))), q 10 (.mv (.t 105))]) <|
  .skip) <|
  .reg [q 15 (.mv (.t 8)), q 16 (.bin .num .add (.t 15) (.c (.n .i64 1))), q 8 (.mv (.t 16))]) <|
  .seq (.reg [q 6 (.mv (.c (.b false)))]) <|
  .ret

/-- slices.partialInsertionSortOrdered[int] -/
def p_slices_partialInsertionSortOrdered_int (E : Env) (a0 a1 a2 : V) (s : St) (K : V → St → Prop) : Prop :=
 optP (binV .num .add a1 (.n .i64 1)) s fun v0 s1 =>
 ∃ I2 : Nat → List V → St → Prop, (∃ n3, I2 n3 [v0, (.n .i64 0)] s1) ∧ ∀ n3, ∀ x5 : V, ∀ x6 : V, ∀ s4, I2 n3 [x5, x6] s4 →
 optP (binV .num .lss x6 (.n .i64 5)) s4 fun v8 s9 =>
 splitP v8 (
 let k10 : V → St → Prop := (fun x12 s11 =>
 optP (binV .num .add x6 (.n .i64 1)) s11 fun v13 s14 =>
 (a0 : V) = a0 ∧ (a1 : V) = a1 ∧ (a2 : V) = a2 ∧ ∃ n7, n7 < n3 ∧ I2 n7 [x12, v13] s14);
 ∃ I15 : Nat → List V → St → Prop, (∃ n16, I15 n16 [x5] s9) ∧ ∀ n16, ∀ x18 : V, ∀ s17, I15 n16 [x18] s17 →
 let k20 : St → Prop := (fun s21 =>
 optP (binV .num .eql x18 a2) s21 fun v22 s23 =>
 splitP v22 (
 K (.b true) s23) (
 optP (binV .num .sub a2 a1) s23 fun v24 s25 =>
 optP (binV .num .lss v24 (.n .i64 50)) s25 fun v26 s27 =>
 splitP v26 (
 K (.b false) s27) (
 optP (binV .num .sub x18 (.n .i64 1)) s27 fun v28 s29 =>
 optP (binV .num .sub x18 (.n .i64 1)) s29 fun v30 s31 =>
 optP (iasV a0 v30 1) s31 fun v32 s33 =>
 optP (ldV v32 1 false s33) s33 fun v34 s35 =>
 (True) ∧ optP (iasV a0 x18 1) s35 fun v36 s37 =>
 optP (ldV v36 1 false s37) s37 fun v38 s39 =>
 (True) ∧ optP (iasV a0 x18 1) s39 fun v40 s41 =>
 optW (storeV v40 v34 1 s41) fun v42 s43 =>
 (True) ∧ optP (iasV a0 v28 1) s43 fun v44 s45 =>
 optW (storeV v44 v38 1 s45) fun v46 s47 =>
 (True) ∧ let k48 : St → Prop := (fun s49 =>
 optP (binV .num .sub a2 x18) s49 fun v50 s51 =>
 optP (binV .num .geq v50 (.n .i64 2)) s51 fun v52 s53 =>
 splitP v52 (
 optP (binV .num .add x18 (.n .i64 1)) s53 fun v54 s55 =>
 ∃ I56 : Nat → List V → St → Prop, (∃ n57, I56 n57 [v54] s55) ∧ ∀ n57, ∀ x59 : V, ∀ s58, I56 n57 [x59] s58 →
 optP (binV .num .lss x59 a2) s58 fun v61 s62 =>
 splitP v61 (
 optP (iasV a0 x59 1) s62 fun v63 s64 =>
 optP (ldV v63 1 false s64) s64 fun v65 s66 =>
 (True) ∧ optP (binV .num .sub x59 (.n .i64 1)) s66 fun v67 s68 =>
 optP (iasV a0 v67 1) s68 fun v69 s70 =>
 optP (ldV v69 1 false s70) s70 fun v71 s72 =>
 (True) ∧ ACalls E 98 [v65, v71] s72 fun v73 s74 =>
 splitP v73 (
 (True) ∧ optP (binV .num .sub x59 (.n .i64 1)) s74 fun v75 s76 =>
 optP (binV .num .sub x59 (.n .i64 1)) s76 fun v77 s78 =>
 optP (iasV a0 v77 1) s78 fun v79 s80 =>
 optP (ldV v79 1 false s80) s80 fun v81 s82 =>
 (True) ∧ optP (iasV a0 x59 1) s82 fun v83 s84 =>
 optP (ldV v83 1 false s84) s84 fun v85 s86 =>
 (True) ∧ optP (iasV a0 x59 1) s86 fun v87 s88 =>
 optW (storeV v87 v81 1 s88) fun v89 s90 =>
 (True) ∧ optP (iasV a0 v75 1) s90 fun v91 s92 =>
 optW (storeV v91 v85 1 s92) fun v93 s94 =>
 (True) ∧ optP (binV .num .add x59 (.n .i64 1)) s94 fun v95 s96 =>
 (a0 : V) = a0 ∧ (a1 : V) = a1 ∧ (a2 : V) = a2 ∧ (x18 : V) = x18 ∧ (x6 : V) = x6 ∧ ∃ n60, n60 < n57 ∧ I56 n60 [v95] s96) (
 (True) ∧ k10 x18 s74)) (
 k10 x18 s62)) (
 k10 x18 s53));
 optP (binV .num .sub x18 a1) s47 fun v97 s98 =>
 optP (binV .num .geq v97 (.n .i64 2)) s98 fun v99 s100 =>
 splitP v99 (
 optP (binV .num .sub x18 (.n .i64 1)) s100 fun v101 s102 =>
 ∃ I103 : Nat → List V → St → Prop, (∃ n104, I103 n104 [v101] s102) ∧ ∀ n104, ∀ x106 : V, ∀ s105, I103 n104 [x106] s105 →
 optP (binV .num .geq x106 (.n .i64 1)) s105 fun v108 s109 =>
 splitP v108 (
 optP (iasV a0 x106 1) s109 fun v110 s111 =>
 optP (ldV v110 1 false s111) s111 fun v112 s113 =>
 (True) ∧ optP (binV .num .sub x106 (.n .i64 1)) s113 fun v114 s115 =>
 optP (iasV a0 v114 1) s115 fun v116 s117 =>
 optP (ldV v116 1 false s117) s117 fun v118 s119 =>
 (True) ∧ ACalls E 98 [v112, v118] s119 fun v120 s121 =>
 splitP v120 (
 (True) ∧ optP (binV .num .sub x106 (.n .i64 1)) s121 fun v122 s123 =>
 optP (binV .num .sub x106 (.n .i64 1)) s123 fun v124 s125 =>
 optP (iasV a0 v124 1) s125 fun v126 s127 =>
 optP (ldV v126 1 false s127) s127 fun v128 s129 =>
 (True) ∧ optP (iasV a0 x106 1) s129 fun v130 s131 =>
 optP (ldV v130 1 false s131) s131 fun v132 s133 =>
 (True) ∧ optP (iasV a0 x106 1) s133 fun v134 s135 =>
 optW (storeV v134 v128 1 s135) fun v136 s137 =>
 (True) ∧ optP (iasV a0 v122 1) s137 fun v138 s139 =>
 optW (storeV v138 v132 1 s139) fun v140 s141 =>
 (True) ∧ optP (binV .num .sub x106 (.n .i64 1)) s141 fun v142 s143 =>
 (a0 : V) = a0 ∧ (a1 : V) = a1 ∧ (a2 : V) = a2 ∧ (x18 : V) = x18 ∧ (x6 : V) = x6 ∧ ∃ n107, n107 < n104 ∧ I103 n107 [v142] s143) (
 (True) ∧ k48 s121)) (
 k48 s109)) (
 k48 s100))));
 optP (binV .num .lss x18 a2) s17 fun v144 s145 =>
 splitP v144 (
 optP (iasV a0 x18 1) s145 fun v146 s147 =>
 optP (ldV v146 1 false s147) s147 fun v148 s149 =>
 (True) ∧ optP (binV .num .sub x18 (.n .i64 1)) s149 fun v150 s151 =>
 optP (iasV a0 v150 1) s151 fun v152 s153 =>
 optP (ldV v152 1 false s153) s153 fun v154 s155 =>
 (True) ∧ ACalls E 98 [v148, v154] s155 fun v156 s157 =>
 splitP v156 (
 (True) ∧ k20 s157) (
 (True) ∧ optP (binV .num .add x18 (.n .i64 1)) s157 fun v158 s159 =>
 (a0 : V) = a0 ∧ (a1 : V) = a1 ∧ (a2 : V) = a2 ∧ (x6 : V) = x6 ∧ ∃ n19, n19 < n16 ∧ I15 n19 [v158] s159)) (
 (True) ∧ (True) ∧ (True) ∧ k20 s145)) (
 K (.b false) s9)
theorem e_slices_partialInsertionSortOrdered_int (E : Env) (a0 a1 a2 : V) (s : St) (K : V → St → Prop) : axF E c_slices_partialInsertionSortOrdered_int [a0, a1, a2] s K = p_slices_partialInsertionSortOrdered_int E a0 a1 a2 s K := by kernel_rfl
theorem g_slices_partialInsertionSortOrdered_int {E : Env} {a0 a1 a2 : V} {s : St} {K : V → St → Prop} (h : chkF E.P E.m (E.m 114) c_slices_partialInsertionSortOrdered_int = true) (hp : p_slices_partialInsertionSortOrdered_int E a0 a1 a2 s K) : ACalls E 114 [a0, a1, a2] s K :=
  acalls h rfl (by rw [e_slices_partialInsertionSortOrdered_int]; exact hp)

/-- slices.partitionEqualOrdered[int] -/
def c_slices_partitionEqualOrdered_int : AFunc := .mk 4 84 [.t 8] <|
  .seq (.reg [q 8 (.mv (.c (.n .i64 0)))]) <|
  .seq (.draw [qd (some 11) false [] (.mv (.t 0)), qd (some 12) false [] (.mv (.t 1)), qd (some 13) false [] (.mv (.t 0)), qd (some 14) false [] (.mv (.t 3)), qd (some 15) false [] (.mv (.t 0)), qd (some 16) false [] (.mv (.t 3)), qd (some 17) false [4, 5] (.ias (.t 15) (.t 16) 1), qd (some 18) false [4, 5, 6] (.load (.t 17) 1 false), qd (some 19) false [] (.mv (.t 0)), qd (some 20) false [] (.mv (.t 1)), qd (some 21) false [8, 9] (.ias (.t 19) (.t 20) 1), qd (some 22) false [8, 9, 10] (.load (.t 21) 1 false), qd (some 23) false [0, 1, 4, 5, 6, 7, 8, 9, 10, 11] (.ias (.t 11) (.t 12) 1), qd none false [0, 1, 4, 5, 6, 7, 8, 9, 10, 11, 12] (.store (.t 23) (.t 18) 1), qd (some 24) false [0, 1, 2, 3, 4, 5, 6, 7, 8, 9, 10, 11, 12, 13] (.ias (.t 13) (.t 14) 1), qd none false [0, 1, 2, 3, 4, 5, 6, 7, 8, 9, 10, 11, 12, 13, 14] (.store (.t 24) (.t 22) 1)]) <|
  .seq (.reg [q 25 (.mv (.t 1)), q 26 (.bin .num .add (.t 25) (.c (.n .i64 1))), q 27 (.mv (.t 2)), q 28 (.bin .num .sub (.t 27) (.c (.n .i64 1))), q 9 (.mv (.t 26)), q 10 (.mv (.t 28))]) <|
  .seq (.block 0 <|
  .loop [9, 10] [0, 1] <|
  .block 1 <|
  .seq (.block 2 <|
  .loop [9] [0, 1, 10] <|
  .seq (.seq (.draw [qd (some 29) false [] (.mv (.t 9)), qd (some 30) false [] (.mv (.t 10)), qd (some 31) true [0, 1] (.bin .num .leq (.t 29) (.t 30)), qd (some 32) false [0, 1, 2] (.mv (.t 31)), qdg (some 33) false 32 true [0, 1, 2, 3] (.mv (.t 0)), qdg (some 34) false 32 true [0, 1, 2, 3] (.mv (.t 1)), qdg (some 35) false 32 true [0, 1, 2, 3, 4, 5] (.ias (.t 33) (.t 34) 1), qdg (some 36) false 32 true [0, 1, 2, 3, 4, 5, 6] (.load (.t 35) 1 false), qdg (some 37) false 32 true [0, 1, 2, 3] (.mv (.t 0)), qdg (some 38) false 32 true [0, 1, 2, 3] (.mv (.t 9)), qdg (some 39) false 32 true [0, 1, 2, 3, 8, 9] (.ias (.t 37) (.t 38) 1), qdg (some 40) false 32 true [0, 1, 2, 3, 8, 9, 10] (.load (.t 39) 1 false), qdg (some 41) true 32 true [0, 1, 2, 3, 4, 5, 6, 7, 8, 9, 10, 11] (.call 98 [(.t 36), (.t 40)]), qdg (some 42) false 32 true [0, 1, 2, 3, 4, 5, 6, 7, 8, 9, 10, 11, 12] (.un .not (.t 41)), qd (some 43) false [0, 1, 2, 3, 4, 5, 6, 7, 8, 9, 10, 11, 12, 13] (.pick (.t 32) (.t 42) (.c (.b false)))]) <|
  .cond (.t 43) (.skip) <|
  .exit 2) <|
  .block 3 <|
  .reg [q 44 (.mv (.t 9)), q 45 (.bin .num .add (.t 44) (.c (.n .i64 1))), q 9 (.mv (.t 45))]) <|
  .seq (.block 4 <|
  .loop [10] [0, 1, 9] <|
  .seq (.seq (.draw [qd (some 46) false [] (.mv (.t 9)), qd (some 47) false [] (.mv (.t 10)), qd (some 48) true [0, 1] (.bin .num .leq (.t 46) (.t 47)), qd (some 49) false [0, 1, 2] (.mv (.t 48)), qdg (some 50) false 49 true [0, 1, 2, 3] (.mv (.t 0)), qdg (some 51) false 49 true [0, 1, 2, 3] (.mv (.t 1)), qdg (some 52) false 49 true [0, 1, 2, 3, 4, 5] (.ias (.t 50) (.t 51) 1), qdg (some 53) false 49 true [0, 1, 2, 3, 4, 5, 6] (.load (.t 52) 1 false), qdg (some 54) false 49 true [0, 1, 2, 3] (.mv (.t 0)), qdg (some 55) false 49 true [0, 1, 2, 3] (.mv (.t 10)), qdg (some 56) false 49 true [0, 1, 2, 3, 8, 9] (.ias (.t 54) (.t 55) 1), qdg (some 57) false 49 true [0, 1, 2, 3, 8, 9, 10] (.load (.t 56) 1 false), qdg (some 58) true 49 true [0, 1, 2, 3, 4, 5, 6, 7, 8, 9, 10, 11] (.call 98 [(.t 53), (.t 57)]), qd (some 59) false [0, 1, 2, 3, 4, 5, 6, 7, 8, 9, 10, 11, 12] (.pick (.t 49) (.t 58) (.c (.b false)))]) <|
  .cond (.t 59) (.skip) <|
  .exit 4) <|
  .block 5 <|
  .reg [q 60 (.mv (.t 10)), q 61 (.bin .num .sub (.t 60) (.c (.n .i64 1))), q 10 (.mv (.t 61))]) <|
  .seq (.seq (.reg [q 62 (.mv (.t 9)), q 63 (.mv (.t 10)), qs 64 (.bin .num .gtr (.t 62) (.t 63))]) <|
  .cond (.t 64) (.exit 0) <|
  .skip) <|
  .seq (.draw [qd (some 65) false [] (.mv (.t 0)), qd (some 66) false [] (.mv (.t 9)), qd (some 67) false [] (.mv (.t 0)), qd (some 68) false [] (.mv (.t 10)), qd (some 69) false [] (.mv (.t 0)), qd (some 70) false [] (.mv (.t 10)), qd (some 71) false [4, 5] (.ias (.t 69) (.t 70) 1), qd (some 72) false [4, 5, 6] (.load (.t 71) 1 false), qd (some 73) false [] (.mv (.t 0)), qd (some 74) false [] (.mv (.t 9)), qd (some 75) false [8, 9] (.ias (.t 73) (.t 74) 1), qd (some 76) false [8, 9, 10] (.load (.t 75) 1 false), qd (some 77) false [0, 1, 4, 5, 6, 7, 8, 9, 10, 11] (.ias (.t 65) (.t 66) 1), qd none false [0, 1, 4, 5, 6, 7, 8, 9, 10, 11, 12] (.store (.t 77) (.t 72) 1), qd (some 78) false [0, 1, 2, 3, 4, 5, 6, 7, 8, 9, 10, 11, 12, 13] (.ias (.t 67) (.t 68) 1), qd none false [0, 1, 2, 3, 4, 5, 6, 7, 8, 9, 10, 11, 12, 13, 14] (.store (.t 78) (.t 76) 1)]) <|
  .seq (.reg [q 79 (.mv (.t 9)), q 80 (.bin .num .add (.t 79) (.c (.n .i64 1))), q 9 (.mv (.t 80))]) <|
  .reg [q 81 (.mv (.t 10)), q 82 (.bin .num .sub (.t 81) (.c (.n .i64 1))), q 10 (.mv (.t 82))]) <|
  .seq (.reg [q 83 (.mv (.t 9)), q 8 (.mv (.t 83))]) <|
  .ret

/-- slices.partitionEqualOrdered[int] -/
def p_slices_partitionEqualOrdered_int (E : Env) (a0 a1 a2 a3 : V) (s : St) (K : V → St → Prop) : Prop :=
 optP (iasV a0 a3 1) s fun v0 s1 =>
 optP (ldV v0 1 false s1) s1 fun v2 s3 =>
 (True) ∧ optP (iasV a0 a1 1) s3 fun v4 s5 =>
 optP (ldV v4 1 false s5) s5 fun v6 s7 =>
 (True) ∧ optP (iasV a0 a1 1) s7 fun v8 s9 =>
 optW (storeV v8 v2 1 s9) fun v10 s11 =>
 (True) ∧ optP (iasV a0 a3 1) s11 fun v12 s13 =>
 optW (storeV v12 v6 1 s13) fun v14 s15 =>
 (True) ∧ optP (binV .num .add a1 (.n .i64 1)) s15 fun v16 s17 =>
 optP (binV .num .sub a2 (.n .i64 1)) s17 fun v18 s19 =>
 ∃ I20 : Nat → List V → St → Prop, (∃ n21, I20 n21 [v16, v18] s19) ∧ ∀ n21, ∀ x23 : V, ∀ x24 : V, ∀ s22, I20 n21 [x23, x24] s22 →
 ∃ I26 : Nat → List V → St → Prop, (∃ n27, I26 n27 [x23] s22) ∧ ∀ n27, ∀ x29 : V, ∀ s28, I26 n27 [x29] s28 →
 let k31 : St → Prop := (fun s32 =>
 ∃ I33 : Nat → List V → St → Prop, (∃ n34, I33 n34 [x24] s32) ∧ ∀ n34, ∀ x36 : V, ∀ s35, I33 n34 [x36] s35 →
 let k38 : St → Prop := (fun s39 =>
 optP (binV .num .gtr x29 x36) s39 fun v40 s41 =>
 splitP v40 (
 K x29 s41) (
 optP (iasV a0 x36 1) s41 fun v42 s43 =>
 optP (ldV v42 1 false s43) s43 fun v44 s45 =>
 (True) ∧ optP (iasV a0 x29 1) s45 fun v46 s47 =>
 optP (ldV v46 1 false s47) s47 fun v48 s49 =>
 (True) ∧ optP (iasV a0 x29 1) s49 fun v50 s51 =>
 optW (storeV v50 v44 1 s51) fun v52 s53 =>
 (True) ∧ optP (iasV a0 x36 1) s53 fun v54 s55 =>
 optW (storeV v54 v48 1 s55) fun v56 s57 =>
 (True) ∧ optP (binV .num .add x29 (.n .i64 1)) s57 fun v58 s59 =>
 optP (binV .num .sub x36 (.n .i64 1)) s59 fun v60 s61 =>
 (a0 : V) = a0 ∧ (a1 : V) = a1 ∧ ∃ n25, n25 < n21 ∧ I20 n25 [v58, v60] s61));
 optP (binV .num .leq x29 x36) s35 fun v62 s63 =>
 splitP v62 (
 optP (iasV a0 a1 1) s63 fun v64 s65 =>
 optP (ldV v64 1 false s65) s65 fun v66 s67 =>
 (True) ∧ optP (iasV a0 x36 1) s67 fun v68 s69 =>
 optP (ldV v68 1 false s69) s69 fun v70 s71 =>
 (True) ∧ ACalls E 98 [v66, v70] s71 fun v72 s73 =>
 splitP v72 (
 (True) ∧ optP (binV .num .sub x36 (.n .i64 1)) s73 fun v74 s75 =>
 (a0 : V) = a0 ∧ (a1 : V) = a1 ∧ (x29 : V) = x29 ∧ ∃ n37, n37 < n34 ∧ I33 n37 [v74] s75) (
 (True) ∧ k38 s73)) (
 (True) ∧ (True) ∧ (True) ∧ k38 s63));
 optP (binV .num .leq x29 x24) s28 fun v76 s77 =>
 splitP v76 (
 optP (iasV a0 a1 1) s77 fun v78 s79 =>
 optP (ldV v78 1 false s79) s79 fun v80 s81 =>
 (True) ∧ optP (iasV a0 x29 1) s81 fun v82 s83 =>
 optP (ldV v82 1 false s83) s83 fun v84 s85 =>
 (True) ∧ ACalls E 98 [v80, v84] s85 fun v86 s87 =>
 splitP v86 (
 (True) ∧ k31 s87) (
 (True) ∧ optP (binV .num .add x29 (.n .i64 1)) s87 fun v88 s89 =>
 (a0 : V) = a0 ∧ (a1 : V) = a1 ∧ (x24 : V) = x24 ∧ ∃ n30, n30 < n27 ∧ I26 n30 [v88] s89)) (
 (True) ∧ (True) ∧ (True) ∧ k31 s77)
theorem e_slices_partitionEqualOrdered_int (E : Env) (a0 a1 a2 a3 : V) (s : St) (K : V → St → Prop) : axF E c_slices_partitionEqualOrdered_int [a0, a1, a2, a3] s K = p_slices_partitionEqualOrdered_int E a0 a1 a2 a3 s K := by kernel_rfl
theorem g_slices_partitionEqualOrdered_int {E : Env} {a0 a1 a2 a3 : V} {s : St} {K : V → St → Prop} (h : chkF E.P E.m (E.m 115) c_slices_partitionEqualOrdered_int = true) (hp : p_slices_partitionEqualOrdered_int E a0 a1 a2 a3 s K) : ACalls E 115 [a0, a1, a2, a3] s K :=
  acalls h rfl (by rw [e_slices_partitionEqualOrdered_int]; exact hp)

end Go.Ab

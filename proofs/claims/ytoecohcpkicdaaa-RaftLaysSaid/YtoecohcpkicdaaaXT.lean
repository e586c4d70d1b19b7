/-
  The statements' inputs: what reads as an entry, a message, a node stands for one.
-/
import Derived.Test.YtoecohcpkicdaaaProg
import Derived.Test.YtoecohcpkicdaaaXD
import Derived.Test.YtoecohcpkicdaaaXG
import Derived.Test.YtoecohcpkicdaaaXK
import Derived.KernelRfl
set_option linter.unusedVariables false
set_option linter.unusedSimpArgs false
set_option linter.unnecessarySimpa false
namespace Go.Proofs.Ytoecohcpkicdaaa
open Go.Ab Go.RowKit Go.ChangeShapes Go.WideShapes

variable {H : Type} {enc : TypeId × Value → H} {w : World}

theorem c3 : Try.prog.cellsOf 3 = 1 := by kernel_rfl
theorem c4 : Try.prog.cellsOf 4 = 1 := by kernel_rfl
theorem c22 : Try.prog.cellsOf 22 = 1 := by kernel_rfl
theorem c24 : Try.prog.cellsOf 24 = 2 := by kernel_rfl
theorem c25 : Try.prog.cellsOf 25 = 1 := by kernel_rfl
theorem c27 : Try.prog.cellsOf 27 = 4 := by kernel_rfl
theorem c28 : Try.prog.cellsOf 28 = 1 := by kernel_rfl
theorem c54 : Try.prog.cellsOf 54 = 4 := by kernel_rfl
theorem oInt : Opens enc Try.prog w mA 3 inV := (Opens.int Try.underlying3).map (fun x => x.1) fun _ => rfl
theorem oBool : Opens enc Try.prog w mA 4 V.b := Opens.bool Try.underlying4
theorem oInts : Opens enc Try.prog w mA 22 intsV := Opens.slice Try.underlying22 oInt (by kernel_rfl) (by decide) fun _ => rfl
theorem oBytes : Opens enc Try.prog w mA 25 bytesV := Opens.slice (v := byV) Try.underlying25 (Opens.byte Try.underlying5) (by kernel_rfl) (by decide) fun _ => rfl

theorem oEnt : Opens enc Try.prog w mA 54 Ent.v :=
  (Opens.struct Try.underlying54 (n := 4) (by kernel_rfl) (by kernel_rfl)
    (.cons oInt (by rfl) c3 (.cons oInt (by rfl) c3 (.cons oBytes (by rfl) c25 (.cons oInts (by rfl) c22 .nil))))).map
    (fun a => ⟨a.1, a.2.1, a.2.2.1, a.2.2.2.1⟩) fun _ => rfl
theorem oEnts : Opens enc Try.prog w mA 28 entsV := Opens.slice Try.underlying28 oEnt (by kernel_rfl) (by decide) fun _ => rfl
theorem oSnap : Opens enc Try.prog w mA 27 Snap.v :=
  (Opens.struct Try.underlying27 (n := 4) (by kernel_rfl) (by kernel_rfl)
    (.cons oInt (by rfl) c3 (.cons oInt (by rfl) c3 (.cons oInts (by rfl) c22 (.cons oBytes (by rfl) c25 .nil))))).map
    (fun a => ⟨a.1, a.2.1, a.2.2.1, a.2.2.2.1⟩) fun _ => rfl
theorem oHard : Opens enc Try.prog w mA 24 (fun a : Int × Int => V.agg [inV a.1, inV a.2]) :=
  (Opens.struct Try.underlying24 (n := 2) (by kernel_rfl) (by kernel_rfl)
    (.cons oInt (by rfl) c3 (.cons oInt (by rfl) c3 .nil))).map
    (fun a => (a.1, a.2.1)) fun _ => rfl
theorem oNode : Opens enc Try.prog w mA 30 Node.v :=
  (Opens.struct Try.underlying30 (n := 10) (by kernel_rfl) (by kernel_rfl)
    (.cons oInt (by rfl) c3 (.cons oInt (by rfl) c3 (.cons oInts (by rfl) c22 (.cons oHard (by rfl) c24 (.cons oSnap (by rfl) c27 (.cons oEnts (by rfl) c28 .nil))))))).map
    (fun a => ⟨a.1, a.2.1, a.2.2.1, a.2.2.2.1.1, a.2.2.2.1.2, a.2.2.2.2.1, a.2.2.2.2.2.1⟩) fun _ => rfl
theorem oMsg : Opens enc Try.prog w mA 32 Msg.v :=
  (Opens.struct Try.underlying32 (n := 11) (by kernel_rfl) (by kernel_rfl)
    (.cons oInt (by rfl) c3 (.cons oInt (by rfl) c3 (.cons oInt (by rfl) c3 (.cons oInt (by rfl) c3 (.cons oInt (by rfl) c3 (.cons oInt (by rfl) c3 (.cons oInt (by rfl) c3
      (.cons oBool (by rfl) c4 (.cons oEnts (by rfl) c28 (.cons oInts (by rfl) c22 (.cons oBytes (by rfl) c25 .nil)))))))))))).map
    (fun a => ⟨a.1, a.2.1, a.2.2.1, a.2.2.2.1, a.2.2.2.2.1, a.2.2.2.2.2.1, a.2.2.2.2.2.2.1, a.2.2.2.2.2.2.2.1, a.2.2.2.2.2.2.2.2.1, a.2.2.2.2.2.2.2.2.2.1, a.2.2.2.2.2.2.2.2.2.2.1⟩) fun _ => rfl

/-- Numbers, with their range. -/
theorem oIntR : Opens enc Try.prog w mA 3 (fun x : { x : Int // -9223372036854775808 ≤ x ∧ x < 9223372036854775808 } => inV x.1) := Opens.int Try.underlying3
theorem oIntsR : Opens enc Try.prog w mA 22 (fun l : List { x : Int // -9223372036854775808 ≤ x ∧ x < 9223372036854775808 } => V.l 1 (l.map fun x => inV x.1) .may) := Opens.slice Try.underlying22 oIntR (by kernel_rfl) (by decide) fun _ => rfl

theorem Try.own : ownKnob Try.prog.godebug = none := by kernel_rfl
theorem Try.laidOut : laidOutB Try.prog = true := by kernel_rfl

end Go.Proofs.Ytoecohcpkicdaaa

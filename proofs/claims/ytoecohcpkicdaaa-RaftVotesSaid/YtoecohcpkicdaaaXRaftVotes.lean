/-
  RaftVotes: whatever the input, the law returns true, and each argument reads behind the call as it read before. No condition.
-/
import Derived.Test.YtoecohcpkicdaaaRows
import Derived.Test.YtoecohcpkicdaaaXT
import Derived.ProofKit
set_option linter.unusedVariables false
set_option linter.unusedSimpArgs false
set_option linter.unnecessarySimpa false
namespace Go.Proofs.Ytoecohcpkicdaaa
open Go.ChangeShapes Go.WideShapes Go.ChangeAt Go.RowKit Go.Ab

set_option maxRecDepth 100000 in
theorem raftVotes_lifted (os : Os) (started : os.Started) (H : Type) (enc : TypeId × Value → H) :
    ReturnsInHanded {} Try.checked os 4 .any (Rows.raftVotesSpec.pre6 enc Try.prog Try.f4 Rows.raftVotesRow.domain false) (Rows.raftVotesSpec.post enc Try.prog Try.f4 false true false false) := by
  refine returnsInHanded_of_change (C := Try.checked) Try.own started (by kernel_rfl) Try.func4
    (ChangeSpec.witness6 (enc := enc) (C := Try.checked) false ⟨#[], #[.int .i64 0, .slice none 0 0], []⟩ 8 (by kernel_rfl) (by kernel_rfl) (by kernel_rfl) (by kernel_rfl)) ?_
  intro W base args ds gs before hval0 hW hcnd _
  have hval : ∀ (j : Nat) t v, Try.f4.params[j]? = some t → args[j]? = some v → Value.okWide Try.prog W .any base t v := hval0
  have hW' := hW
  obtain ⟨p, q, hA0, hV, rfl, hfz, hnd⟩ := hW
  have hA : DataW.TrodAll enc Try.prog W 0 (fun _ => true) true Try.f4.params.toList args.toList ds p := hA0
  rw [Try.params4] at hA hval
  obtain ⟨v0, v1, d0, d1, p0, p1, rfl, rfl, rfl, h0, h1⟩ := trodAll_two hA
  obtain ⟨rfl, rfl⟩ := trodVars_none hV
  obtain ⟨n, hn, r0⟩ := argI (m := mA) Try.underlying3 (hval 0 3 v0 rfl rfl) h0
  obtain ⟨l, r1⟩ := oIntsR.argL Try.underlying22 (fun a => rfl) (hval 1 22 v1 rfl rfl) h1
  have e1 : V.l 1 (l.map fun x => inV x.1) .may = intsV (l.map Subtype.val) := by simp [intsV]
  rw [e1] at r1
  clear hA0 hval0
  simp only [List.append_nil] at hW'
  refine (law_ends (id := 2) (RepA.two r0 r1) (law_RaftVotes hOkV n (l.map Subtype.val) hn (fun x hx => by simp only [List.mem_map] at hx; obtain ⟨y, -, rfl⟩ := hx; exact y.2) rfl)).mono fun e W' ⟨he, hb⟩ => ?_
  subst he
  have hlt : ∀ x ∈ p0 ++ p1, x.block < W.heap.size := fun x hx => by simpa using hW'.lt x hx
  exact ⟨_, rfl, post_of_below (pa := p0 ++ p1) (pv := []) hW' (fun _ _ _ => trodAll_mk1 (shut_bool Try.underlying4 true))
    (trodAll_mk2 (Below.trod Try.laidOut (by kernel_rfl) (of_decide_eq_true (by kernel_rfl)) h0 hb fun x hx => hlt x (by simp [hx]))
      (Below.trod Try.laidOut (by kernel_rfl) (of_decide_eq_true (by kernel_rfl)) h1 hb fun x hx => hlt x (by simp [hx])))
    (fun _ _ => rfl) (by simp) hb rfl⟩

theorem raftVotes_holds : Rows.RaftVotesSaid :=
  OpenClaim.holds_of_wide 4 Try.f4 rfl rfl rfl rfl rfl rfl rfl ⟨rfl, rfl, rfl, rfl, rfl⟩ rfl rfl rfl rfl rfl (by kernel_rfl) Try.func4 (by kernel_rfl)
    (of_decide_eq_true (by kernel_rfl)) (by unfold Func.isWrapper; first | (rw [if_pos (by decide +kernel)]; kernel_rfl) | (rw [if_neg (by decide +kernel)]; exact ⟨rfl, rfl⟩))
    (fun os started H enc _ => raftVotes_lifted os started H enc)

end Go.Proofs.Ytoecohcpkicdaaa

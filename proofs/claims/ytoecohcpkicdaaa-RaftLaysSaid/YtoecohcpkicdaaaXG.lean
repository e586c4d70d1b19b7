/-
  What a node of the raft does, as contracts, and what the laws do (more). Each holds of a program whose functions are those of the texts.
-/
import Derived.Test.YtoecohcpkicdaaaXF
import Derived.KernelRfl
set_option linter.unusedVariables false
set_option linter.unusedSimpArgs false
set_option linter.unnecessarySimpa false
/-
  A node of the raft: asked whether it would vote; told so; a late message: contracts.
-/
namespace Go.Ab

variable {E : Env}

structure OkP (E : Env) : Prop extends OkO E where
  pre : chkF E.P E.m (E.m 28) c_raft_Raft_pre = true
  preYes : chkF E.P E.m (E.m 29) c_raft_Raft_preYes = true
  late : chkF E.P E.m (E.m 54) c_raft_Raft_late = true

theorem Left.boxed {σ σ' : St} {r : Nat} {S : List Nat} {R : Raft} {xs : St} (h : Left (σ ++ xs) r S R σ') : Left σ r S R σ' :=
  .trans (.app _ _ _) (fun x hx => .inl hx) h

theorem raft_late (H : OkP E) {σ : St} {K : V → St → Prop} {r : Nat} {R : Raft} {S : List Nat} {b : Nat} (m : Msg) (h : RAt σ r R S) (hok : R.Ok b) (hb : b ≤ 68719476736)
    (k : ∀ σ', Left σ r S (R.late m) σ' → K (.tup []) σ') : ACalls E 54 [.p r 0, m.v] σ K := by
  refine g_raft_Raft_late H.late ?_
  unfold p_raft_Raft_late
  have hbx : boxV m.v σ = some (.p σ.length 0, σ ++ [.obj m.cs]) := rfl
  obtain ⟨lg, cl, cy, cm, hS0, h'⟩ := id h
  have h1 := h'.app [.obj m.cs]
  have hm : cellsOf (σ ++ [Ob.obj m.cs]) σ.length = some m.cs := by simp
  have hms : R.out.msgs.length ≤ 68719476736 := by have := hok.msgs; omega
  have hA : RAt (σ ++ [Ob.obj m.cs]) r R S := h.app _
  simp -zeta only [hbx, optW_some, faV_p, optP_some, Nat.zero_add, ldV_at, hm, ldC_some, mk0, mk1, inV, eql_i64, splitP_b, nilV_p, h1.raft, rc1, rc1', Nat.add_zero, true_and]
  refine ⟨fun h3 => ?_, fun h3 => ?_⟩
  · have e3 : m.kind = 3 := by simpa using h3
    refine optP_of (v := .agg [inV 4, inV 0, inV m.frm, inV R.term, inV 0, inV 0, inV 0, .b false, .l 4 [] .nil, .l 1 [] .nil, .l 1 [] .nil]) rfl ?_
    refine raft_says' H.toOkS { Msg.blank with kind := 4, to := m.frm, term := R.term } ?_ hA hms fun σ' hL => k σ' ?_
    · exact .cons (.refl _) (.cons (.refl _) (.cons (.refl _) (.cons (.refl _) (.cons (.refl _) (.cons (.refl _) (.cons (.refl _) (.cons (.refl _) (.cons fg_nilE (.cons fg_nilI (.cons fg_nilB .nil))))))))))
    · unfold Raft.late; rw [if_pos e3]; exact hL.boxed
  · have e3 : ¬ m.kind = 3 := by simpa using h3
    intro k24
    have hk24 : (m.kind = 5 ∨ m.kind = 7) → k24 (σ ++ [Ob.obj m.cs]) := by
      intro h57
      simp -zeta only [k24, nilV_p, faV_p, optP_some, Nat.zero_add, ldV_at, hm, ldC_some, mk1, h1.raft, rc1, rc1', rc5, Nat.add_zero, true_and]
      refine log_last H.toOkL h1.log hok.log ?_
      simp -zeta only [hm, ldC_some, mk1, h1.raft, rc1, rc1', true_and]
      refine optP_of (v := .agg [inV 6, inV 0, inV m.frm, inV R.term, inV R.log.last, inV 0, inV 0, .b false, .l 4 [] .nil, .l 1 [] .nil, .l 1 [] .nil]) rfl ?_
      refine raft_says' H.toOkS { Msg.blank with kind := 6, to := m.frm, term := R.term, index := R.log.last } ?_ hA hms fun σ' hL => k σ' ?_
      · exact .cons (.refl _) (.cons (.refl _) (.cons (.refl _) (.cons (.refl _) (.cons (.refl _) (.cons (.refl _) (.cons (.refl _) (.cons (.refl _) (.cons fg_nilE (.cons fg_nilI (.cons fg_nilB .nil))))))))))
      · unfold Raft.late; rw [if_neg e3, if_pos h57]; exact hL.boxed
    clear_value k24
    refine ⟨fun h5 => hk24 (.inl (by simpa using h5)), fun h5 => ⟨fun h7 => hk24 (.inr (by simpa using h7)), fun h7 => k _ ?_⟩⟩
    have e5 : ¬ (m.kind = 5 ∨ m.kind = 7) := by simp at h5 h7; omega
    unfold Raft.late; rw [if_neg e3, if_neg e5]
    exact .trans (.app _ _ _) (fun x hx => .inl hx) (.self hA)

theorem raft_pre (H : OkP E) {σ : St} {K : V → St → Prop} {r : Nat} {R : Raft} {S : List Nat} {b : Nat} (m : Msg) (h : RAt σ r R S) (hok : R.Ok b) (hb : b ≤ 68719476736)
    (k : ∀ σ', Left σ r S (R.pre m) σ' → K (.tup []) σ') : ACalls E 28 [.p r 0, m.v] σ K := by
  refine g_raft_Raft_pre H.pre ?_
  unfold p_raft_Raft_pre
  have hbx : boxV m.v σ = some (.p σ.length 0, σ ++ [.obj m.cs]) := rfl
  obtain ⟨lg, cl, cy, cm, hS0, h'⟩ := id h
  have h1 := h'.app [.obj m.cs]
  have hm : cellsOf (σ ++ [Ob.obj m.cs]) σ.length = some m.cs := by simp
  have hms : R.out.msgs.length ≤ 68719476736 := by have := hok.msgs; omega
  have hA : RAt (σ ++ [Ob.obj m.cs]) r R S := h.app _
  have fin : ∀ (y : Bool) (t : Int), decide (R.term < m.term ∧ ¬ (R.role = 3 ∨ R.lead ≠ 0 ∧ R.passed < R.timeout) ∧ R.log.behind m.index m.logTerm = true) = y → (if y = true then m.term else R.term) = t →
      ACalls E 50 [.p r 0, .agg [inV 2, inV 0, inV m.frm, inV t, inV 0, inV 0, inV 0, .b y, .l 4 [] .nil, .l 1 [] .nil, .l 1 [] .nil]] (σ ++ [Ob.obj m.cs]) (fun _ s => K (.tup []) s) := by
    intro y t hy ht
    refine raft_says' H.toOkS { Msg.blank with kind := 2, to := m.frm, term := t, yes := y } ?_ hA hms fun σ' hL => k σ' ?_
    · exact .cons (.refl _) (.cons (.refl _) (.cons (.refl _) (.cons (.refl _) (.cons (.refl _) (.cons (.refl _) (.cons (.refl _) (.cons (.refl _) (.cons fg_nilE (.cons fg_nilI (.cons fg_nilB .nil))))))))))
    · have : R.pre m = R.says { Msg.blank with kind := 2, to := m.frm, term := t, yes := y } := by
        unfold Raft.pre; simp only [hy, ht]
      rw [this]; exact hL.boxed
  generalize hτ : σ ++ [Ob.obj m.cs] = τ at *
  simp -zeta only [hbx, optW_some]
  intro k2
  have hk2 : (R.role = 3 ∨ R.lead ≠ 0 ∧ R.passed < R.timeout) → k2 τ := by
    intro hled
    simp -zeta only [k2]
    intro k4
    have hk4 : k4 τ := by
      simp only [k4, nilV_p, faV_p, optP_some, Nat.zero_add, ldV_at, hm, ldC_some, mk1, h1.raft, rc1, rc1', Nat.add_zero, splitP_b, Bool.false_eq_true, false_implies, true_and, forall_const]
      refine optP_of (v := .agg [inV 2, inV 0, inV m.frm, inV R.term, inV 0, inV 0, inV 0, .b false, .l 4 [] .nil, .l 1 [] .nil, .l 1 [] .nil]) rfl ?_
      exact fin false _ (by simp [hled]) rfl
    clear_value k4
    simp -zeta only [nilV_p, faV_p, optP_some, Nat.zero_add, ldV_at, hm, ldC_some, mk1, mk3, h1.raft, rc1, rc1', Nat.add_zero, inV, gtr_i64, splitP_b, Bool.true_eq_false, false_implies, true_and, and_true, forall_const]
    exact ⟨fun _ => hk4, fun _ => hk4⟩
  clear_value k2
  intro k90
  have hk90 : ¬ (R.role = 3 ∨ R.lead ≠ 0 ∧ R.passed < R.timeout) → k90 τ := by
    intro hled
    simp -zeta only [k90]
    intro k92
    have hk92 : ¬ (R.term < m.term ∧ R.log.behind m.index m.logTerm = true) → k92 τ := by
      intro hno
      simp only [k92, nilV_p, faV_p, optP_some, Nat.zero_add, ldV_at, hm, ldC_some, mk1, h1.raft, rc1, rc1', Nat.add_zero, splitP_b, Bool.false_eq_true, false_implies, true_and, forall_const]
      refine optP_of (v := .agg [inV 2, inV 0, inV m.frm, inV R.term, inV 0, inV 0, inV 0, .b false, .l 4 [] .nil, .l 1 [] .nil, .l 1 [] .nil]) rfl ?_
      exact fin false _ (decide_eq_false fun hh => hno ⟨hh.1, hh.2.2⟩) rfl
    clear_value k92
    simp -zeta only [nilV_p, faV_p, optP_some, Nat.zero_add, ldV_at, hm, ldC_some, mk1, mk3, mk4, mk5, h1.raft, rc1, rc1', rc5, Nat.add_zero, inV, gtr_i64, splitP_b, Bool.false_eq_true, Bool.true_eq_false, false_implies, true_and, and_true, forall_const]
    refine ⟨fun hgt => ?_, fun hle => hk92 (by simp at hle; omega)⟩
    have hgt' : R.term < m.term := by simpa using hgt
    refine log_behind H.toOkM m.index m.logTerm h1.log hok.log ?_
    simp -zeta only [splitP_b]
    refine ⟨fun hb => ?_, fun hb => hk92 fun hh => ?_⟩
    · simp only [nilV_p, faV_p, optP_some, Nat.zero_add, ldV_at, hm, ldC_some, mk1, mk3, h1.raft, rc1, rc1', Nat.add_zero, splitP_b, Bool.true_eq_false, false_implies, and_true, forall_const]
      refine optP_of (v := .agg [inV 2, inV 0, inV m.frm, inV m.term, inV 0, inV 0, inV 0, .b true, .l 4 [] .nil, .l 1 [] .nil, .l 1 [] .nil]) rfl ?_
      exact fin true _ (decide_eq_true ⟨hgt', hled, hb⟩) rfl
    · have := hh.2
      unfold Log.behind at this
      rw [hb] at this; cases this
  clear_value k90
  simp -zeta only [nilV_p, faV_p, optP_some, Nat.zero_add, ldV_at, h1.raft, ldC_some, rc3, rc4, rc12, rc13, inV, eql_i64, neq_i64, lss_i64, splitP_b, true_and]
  refine ⟨fun h3 => hk2 (.inl (by simpa using h3)), fun h3 => ⟨fun h4 => ⟨fun h5 => hk2 (.inr ⟨by simpa using h4, by simpa using h5⟩), fun h5 => hk90 ?_⟩, fun h4 => hk90 ?_⟩⟩
  · simp at h3 h5; omega
  · simp at h3 h4; simp [h3, h4]
end Go.Ab
/-
  A node of the raft: the answers to its asking; a snapshot that is taken: contracts.
-/
namespace Go.Ab

variable {E : Env}

/-- What holds of a message that is not odd. -/
structure Raft.Fine (R : Raft) (m : Msg) : Prop where
  index : 0 ≤ m.index ∧ m.index ≤ 1099511627776
  logTerm : 0 ≤ m.logTerm ∧ m.logTerm ≤ 1099511627776
  commit : 0 ≤ m.commit ∧ m.commit ≤ 1099511627776
  term : 0 ≤ m.term ∧ m.term ≤ 1099511627776
  kind : 1 ≤ m.kind ∧ m.kind ≤ 8
  to : m.to = R.id
  frm : 1 ≤ m.frm ∧ m.frm ≤ 7
  self : m.frm ≠ R.id
  len : m.ents.length ≤ 8 ∧ m.index + m.ents.length ≤ 1099511627776
  snap : m.kind = 7 → m.index ≠ 0 ∧ chkMem m.mem = true
  ents : ∀ x ∈ m.ents, entErr x = 0 ∧ x.term ≤ m.term

theorem odd_false {R : Raft} {m : Msg} (h : R.odd m = false) : R.Fine m := by
  unfold Raft.odd at h
  simp only [Bool.or_eq_false_iff, List.any_cons, List.any_nil, decide_eq_false_iff_not, not_or, Bool.or_false] at h
  obtain ⟨⟨⟨⟨h1, h2, h3, h4⟩, h5⟩, h6⟩, h7⟩ := h
  refine ⟨by omega, by omega, by omega, by omega, by omega, Classical.not_not.1 h5.2.2.1, by omega, h5.2.2.2.1, by omega, fun hk => ?_, fun x hx => ?_⟩
  · have := fun hh => h6 ⟨hk, hh⟩
    refine ⟨fun h0 => this (.inl h0), ?_⟩
    cases hc : chkMem m.mem
    · exact absurd (.inr hc) this
    · rfl
  · have := List.any_eq_false.1 h7 x hx
    simp only [decide_eq_true_eq, not_or] at this
    exact ⟨Classical.not_not.1 this.1, by omega⟩

theorem addYes {σ : St} {r lg : Nat} {R : Raft} {cl cy cm : Cap} {S : List Nat} (hS0 : S = r :: lg :: (cl.toks ++ cy.toks ++ cm.toks)) (h : At σ r R lg cl cy cm) (hlen : R.yes.length ≤ 68719476736) (x : Int) {Q : V → St → Prop}
    (k : ∀ s, Left σ r S { R with yes := R.yes ++ [x] } s → Q .u s) : optW (appV (.l 1 (R.yes.map inV) cy) (.l 1 [inV x] .full) 1 8 σ) fun v s => optW (storeV (.p r 11) v 1 s) Q := by
  refine app_room h.ry (by omega) (by simp; omega) (by simp; omega) fun c' σ' hc hr ht => ?_
  obtain ⟨g1, g2⟩ := h.growY hc hr ht (R.yes ++ [x])
  simp only [storeV_at, g1, cells_l, stC_some]
  rw [show List.map inV R.yes ++ [inV x] = (R.yes ++ [x]).map inV by simp]
  rw [if_pos ⟨rfl, by simp⟩]
  simp only [optW_some, sp11]
  refine k _ ⟨_, g2.rat, ?_, fun y hy => ?_⟩
  · rw [hS0]
    exact (hc.mono fun t ht => by simp [ht]).then (.set _ (by simp))
  · rw [hS0]
    simp only [List.mem_cons, List.mem_append] at hy ⊢
    rcases hy with h | h | (h | h) | h
    · exact .inl (.inl h)
    · exact .inl (.inr (.inl h))
    · exact .inl (.inr (.inr (.inl (.inl h))))
    · rcases ht y h with h | h
      · exact .inl (.inr (.inr (.inl (.inr h))))
      · exact .inr h
    · exact .inl (.inr (.inr (.inr h)))

theorem addYes_ok {b : Nat} {R : Raft} (h : R.Ok b) (x : Int) : ({ R with yes := R.yes ++ [x] } : Raft).Ok (b + 1) :=
  ⟨h.log, Nat.le_succ_of_le h.len, h.term, h.idx, h.mem, h.data, by simp; exact h.yes, h.passed, h.timeout, h.next, h.mat, Nat.le_succ_of_le h.msgs, h.lead, h.mems⟩

theorem preYes_ok {b : Nat} {R : Raft} {m : Msg} (h : R.Ok b) (hb : b + 1 < 1099511627776) (hm : R.Fine m) : (R.preYes m).Ok (b + 9) := by
  unfold Raft.preYes
  split
  · exact (fallBack_ok h _ _ hm.term.2).mono (by omega)
  · split
    · rename_i h1 h2
      have h3 := addYes_ok h m.frm
      simp only
      split
      · refine (runs_ok h3 (by omega) hb ?_ ?_).mono (by omega)
        · have := hm.term; show R.term < _; omega
        · exact h.lead (by rw [h2.2.1]; decide)
      · exact h3.mono (by omega)
    · exact h.mono (by omega)

theorem raft_preYes (H : OkP E) {σ : St} {K : V → St → Prop} {r : Nat} {R : Raft} {S : List Nat} {b : Nat} (m : Msg) (h : RAt σ r R S) (hok : R.Ok b) (hb : b + 9 ≤ 68719476736) (hm : R.Fine m)
    (k : ∀ σ', Left σ r S (R.preYes m) σ' → K (.tup []) σ') : ACalls E 29 [.p r 0, m.v] σ K := by
  refine g_raft_Raft_preYes H.preYes ?_
  unfold p_raft_Raft_preYes
  have hbx : boxV m.v σ = some (.p σ.length 0, σ ++ [.obj m.cs]) := rfl
  obtain ⟨lg, cl, cy, cm, hS0, h'⟩ := id h
  have h1 := h'.app [.obj m.cs]
  have hmc : cellsOf (σ ++ [Ob.obj m.cs]) σ.length = some m.cs := by simp
  have hA : RAt (σ ++ [Ob.obj m.cs]) r R S := h.app _
  have hmt := hm.term
  have hrt := hok.term
  have fin : ∀ s, Left (σ ++ [Ob.obj m.cs]) r S (R.preYes m) s → K (.tup []) s := fun s hL => k s hL.boxed
  generalize hτ : σ ++ [Ob.obj m.cs] = τ at *
  simp -zeta only [hbx, optW_some]
  intro k2
  have hk2 : ¬ (m.yes = false ∧ R.term < m.term) → k2 τ := by
    intro hn1
    simp -zeta only [k2]
    intro k4
    have hk4 : ¬ (m.yes = true ∧ R.role = 1 ∧ m.term = R.term + 1) → k4 τ := by
      intro hn2
      simp only [k4]
      refine fin τ ?_
      unfold Raft.preYes; rw [if_neg hn1, if_neg hn2]; exact .self hA
    clear_value k4
    simp -zeta only [nilV_p, faV_p, optP_some, Nat.zero_add, ldV_at, hmc, ldC_some, mk1, mk3, mk7, h1.raft, rc1, rc1', rc3, rc11, Nat.add_zero, inV, eql_i64, add_i64, splitP_b, true_and]
    refine ⟨fun hy => ⟨fun hr => ?_, fun hr => hk4 fun hh => ?_⟩, fun hy => hk4 fun hh => ?_⟩
    · rw [wrap64 (by omega) (by omega)]
      refine ⟨fun ht => ?_, fun ht => hk4 fun hh => ?_⟩
      · rw [mksV_one 1 (V.n .i64 m.frm) [V.n .i64 m.frm] rfl rfl (by omega)]
        simp -zeta only [optP_some]
        refine addYes hS0 h1 (by have := hok.yes; omega) m.frm fun s1 hL1 => hL1.bind fun S1 h1' hC1 hS1 => ?_
        have hok1 := addYes_ok hok m.frm
        obtain ⟨lg1, cl1, cy1, cm1, hS10, h1''⟩ := id h1'
        refine raft_most H.toOkM2 h1'' hok1.log hok1.mem (by have := hok1.yes; omega) ?_
        have hc : m.yes = true ∧ R.role = 1 ∧ m.term = R.term + 1 := ⟨hy, by simpa using hr, by simpa using ht⟩
        have hd : R.preYes m = if mostOf ({ R with yes := R.yes ++ [m.frm] } : Raft).members ({ R with yes := R.yes ++ [m.frm] } : Raft).yes = true then ({ R with yes := R.yes ++ [m.frm] } : Raft).runs else { R with yes := R.yes ++ [m.frm] } := by
          unfold Raft.preYes; rw [if_neg hn1, if_pos hc]
        simp -zeta only [splitP_b]
        refine ⟨fun hmo => ?_, fun hmo => ?_⟩
        · refine raft_runs H.toOkS h1' hok1 (by omega) (by omega) ?_ ?_ fun s2 hL2 => fin s2 ?_
          · show R.term < _; omega
          · exact hok.lead (by rw [hc.2.1]; decide)
          · rw [hd, if_pos hmo]; exact .trans hC1 hS1 hL2
        · refine fin s1 ?_
          rw [hd, if_neg (by simp [hmo])]; exact ⟨S1, h1', hC1, hS1⟩
      · simp at ht; omega
    · simp at hr; omega
    · rw [hy] at hh; cases hh.1
  clear_value k2
  simp -zeta only [nilV_p, faV_p, optP_some, Nat.zero_add, ldV_at, hmc, ldC_some, mk3, mk7, h1.raft, rc1, rc1', Nat.add_zero, inV, gtr_i64, splitP_b, true_and]
  refine ⟨fun hy => hk2 fun hh => (by rw [hy] at hh; cases hh.1), fun hy => ⟨fun hg => ?_, fun hg => hk2 fun hh => (by simp at hg; omega)⟩⟩
  have hg' : R.term < m.term := by simpa using hg
  refine raft_fallBack H.toOkR m.term 0 hA fun s hL => fin s ?_
  unfold Raft.preYes; rw [if_pos ⟨hy, hg'⟩]; exact hL
end Go.Ab
/-
  What holds of a node always, holds when it took a message.
-/
namespace Go.Ab

theorem Log.differs_none {g : Log} : ∀ {l : List Ent} {i : Int}, g.differs i l = none → i ≤ g.last → i + l.length ≤ g.last
  | [], i, _, hi => by simpa using hi
  | x :: r, i, h, hi => by
    rw [Log.differs] at h
    split at h
    · cases h
    · rename_i ho
      have h1 : i + 1 ≤ g.last := by
        simp [Log.other] at ho
        by_cases hq : g.index < i + 1
        · exact Log.termOf_last (ho hq).1
        · simp only [Log.last]; omega
      have := Log.differs_none (Option.map_eq_none_iff.1 h) h1
      simp only [List.length_cons]; push_cast; omega

structure Log.Joined (g g' : Log) (c n : Int) (l : List Ent) (ok : Bool) : Prop where
  index : g'.index = g.index
  ents : ∀ e ∈ g'.l, e.ok
  len : g'.l.length ≤ g.l.length + l.length
  last : c ≤ g'.last
  upto : ok = true → n ≤ g'.last

theorem join_spec {g : Log} {i t c : Int} {l : List Ent} (hg : g.Ok) (hl : ∀ e ∈ l, e.ok) (hc : c ≤ i) (hc2 : c ≤ g.last) : g.Joined (g.join i t l).1 c (g.join i t l).2.1 l (g.join i t l).2.2.2 := by
  unfold Log.join
  split
  · exact ⟨rfl, hg.ents.2, by simp, hc2, by simp⟩
  · rename_i h1
    split
    · exact ⟨rfl, hg.ents.2, by simp, hc2, by simp⟩
    · have hi : i ≤ g.last := by omega
      split
      · rename_i h2
        exact ⟨rfl, hg.ents.2, by simp, hc2, fun _ => Log.differs_none h2 hi⟩
      · rename_i j h2
        obtain ⟨s1, s2, s3⟩ := Log.differs_spec h2 hi
        have e0 : g.last = g.index + g.l.length := rfl
        have e1 : (i + j - g.index).toNat ≤ g.l.length := by omega
        have hlen : ((g.l.take (i + j - g.index).toNat ++ l.drop j).length : Int) = (i + j - g.index) + (l.length - j) := by
          simp only [List.length_append, List.length_take, List.length_drop, Nat.min_eq_left e1]; omega
        refine ⟨rfl, fun e he => ?_, ?_, ?_, fun _ => ?_⟩
        · simp only [List.mem_append] at he
          rcases he with he | he
          · exact hg.ents.2 e (List.mem_of_mem_take he)
          · exact hl e (List.mem_of_mem_drop he)
        · simp only [List.length_append, List.length_take, List.length_drop]; omega
        · simp only [Log.last, hlen]; omega
        · simp only [Log.last, hlen]; omega

theorem base_log {g : Log} {i t : Int} (hg : g.Ok) (h1 : g.index ≤ i) (h2 : i ≤ 1099511627776) : (g.base i t).1.Ok ∧ (g.base i t).1.index = i ∧ (g.base i t).1.l.length ≤ g.l.length ∧ i ≤ (g.base i t).1.last := by
  unfold Log.base
  rw [if_neg (by omega)]
  have a0 := hg.lo
  have a1 := hg.ents.1
  split
  · refine ⟨⟨⟨by simp; omega, fun e he => hg.ents.2 e (List.mem_of_mem_drop he)⟩, by simp only; omega, h2⟩, rfl, by simp, by simp only [Log.last]; omega⟩
  · refine ⟨⟨⟨by simp, by simp⟩, by simp only; omega, h2⟩, rfl, by simp, by simp [Log.last]⟩

theorem based_ok {b : Nat} {R : Raft} {m : Msg} (h : R.Ok b) (hr : R.role ≠ 3) (hm : R.Fine m) (hmo : m.ok) (h7 : m.kind = 7) (hc : R.commit < m.index) :
    ({ R.base ⟨m.index, m.logTerm, m.mem, m.data⟩ with commit := m.index } : Raft).Ok b := by
  have hi := hm.index
  have hx := h.idx
  obtain ⟨b1, b2, b3, b4⟩ := base_log (t := m.logTerm) h.log (i := m.index) (by omega) (by omega)
  exact ⟨b1, Nat.le_trans b3 h.len, h.term, ⟨by show (R.log.base m.index m.logTerm).1.index ≤ m.index; omega, b4⟩, .inr (hm.snap h7).2, hmo.2.2, h.yes, h.passed, h.timeout, h.next, h.mat, h.msgs, h.lead, fun h3 => absurd h3 hr⟩

theorem joined_ok {b : Nat} {R : Raft} {m : Msg} (h : R.Ok b) (hb : b + 8 ≤ 1099511627776) (hr : R.role ≠ 3) (hm : R.Fine m) (hmo : m.ok) (hc : R.commit ≤ m.index) :
    ({ R with log := (R.log.join m.index m.logTerm m.ents).1 } : Raft).Ok (b + 8) := by
  have J := join_spec (t := m.logTerm) (l := m.ents) h.log hmo.1.2 hc h.idx.2
  have hl := hm.len.1
  have hlen := h.len
  have J3 := J.len
  have J1 := J.index
  exact ⟨⟨⟨by simp only; omega, J.ents⟩, by simp only [J1]; exact h.log.lo, by simp only [J1]; exact h.log.hi⟩, by simp only; omega, h.term, ⟨by simp only [J1]; exact h.idx.1, J.last⟩, h.mem, h.data, Nat.le_trans h.yes (by omega), h.passed, h.timeout, h.next, h.mat, Nat.le_trans h.msgs (by omega), h.lead, fun h3 => absurd h3 hr⟩

theorem follows_ok {b : Nat} {R : Raft} {m : Msg} (h : R.Ok b) (hb : b + 8 ≤ 1099511627776) (hr : R.role ≠ 3) (hm : R.Fine m) (hmo : m.ok) : (R.follows m).Ok (b + 9) := by
  unfold Raft.follows
  split
  · rename_i h7
    simp only
    split
    · rename_i hc
      exact (says_ok (based_ok h hr hm hmo h7 hc) _).mono (by omega)
    · exact (says_ok h _).mono (by omega)
  · split
    · exact (says_ok h _).mono (by omega)
    · rename_i hc
      have h1 := joined_ok h hb hr hm hmo (by omega)
      have J := join_spec (t := m.logTerm) (l := m.ents) h.log hmo.1.2 (show R.commit ≤ m.index by omega) h.idx.2
      simp only
      generalize hj : R.log.join m.index m.logTerm m.ents = j at *
      have h2 : (if 0 < j.2.2.1 then ({ R with log := j.1 } : Raft).fresh j.2.2.1 else { R with log := j.1 }).Ok (b + 8) := by
        split
        · exact fresh_ok h1 _
        · exact h1
      have hlog : (if 0 < j.2.2.1 then ({ R with log := j.1 } : Raft).fresh j.2.2.1 else { R with log := j.1 }).log = j.1 := by split <;> rfl
      have hcm : (if 0 < j.2.2.1 then ({ R with log := j.1 } : Raft).fresh j.2.2.1 else { R with log := j.1 }).commit = R.commit := by split <;> rfl
      refine (says_ok ?_ _).mono (Nat.le_refl _)
      split
      · rename_i hy
        have hx := h.idx
        have := J.upto hy
        have hl := J.last
        have hi := J.index
        refine ⟨h2.log, h2.len, h2.term, ⟨?_, ?_⟩, h2.mem, h2.data, h2.yes, h2.passed, h2.timeout, h2.next, h2.mat, h2.msgs, h2.lead, h2.mems⟩
        · simp only [hlog, hcm]; omega
        · simp only [hlog, hcm]; omega
      · exact h2

theorem upN_ok {f : Nat → Int} {n : Nat} {x : Int} {lo hi : Int} (h : ∀ i, lo ≤ f i ∧ f i ≤ hi) (hx : lo ≤ x ∧ x ≤ hi) : ∀ i, lo ≤ upN f n x i ∧ upN f n x i ≤ hi := fun i => by
  unfold upN; split
  · exact hx
  · exact h i

theorem told_ok {b : Nat} {R : Raft} {m : Msg} (h : R.Ok b) (hm : R.Fine m) : (R.told m).Ok (b + 7) := by
  have hi := hm.index
  have hn := h.next m.frm.toNat
  have hma := h.mat m.frm.toNat
  unfold Raft.told
  simp only
  split
  · have h2 : ({ R with next := upN R.next m.frm.toNat (max (R.mat m.frm.toNat + 1) (min (R.next m.frm.toNat - 1) (m.index + 1))) } : Raft).Ok b :=
      ⟨h.log, h.len, h.term, h.idx, h.mem, h.data, h.yes, h.passed, h.timeout, upN_ok h.next (by omega), h.mat, h.msgs, h.lead, h.mems⟩
    split
    · exact (sendTo_ok h2 _).mono (by omega)
    · exact h2.mono (by omega)
  · have h2 : ({ R with mat := upN R.mat m.frm.toNat (max (R.mat m.frm.toNat) m.index), next := upN R.next m.frm.toNat (max (R.mat m.frm.toNat) m.index + 1) } : Raft).Ok b :=
      ⟨h.log, h.len, h.term, h.idx, h.mem, h.data, h.yes, h.passed, h.timeout, upN_ok h.next (by omega), upN_ok h.mat (by omega), h.msgs, h.lead, h.mems⟩
    have h3 := agree_ok h2
    split
    · exact h3.mono (by omega)
    · split
      · exact others_ok (fun b R n h => sendTo_ok h n) h3
      · split
        · exact (sendTo_ok h3 _).mono (by omega)
        · exact h3.mono (by omega)

theorem late_ok {b : Nat} {R : Raft} {m : Msg} (h : R.Ok b) : (R.late m).Ok (b + 1) := by
  unfold Raft.late
  split
  · exact says_ok h _
  · split
    · exact says_ok h _
    · exact h.mono (by omega)
theorem pre_ok {b : Nat} {R : Raft} {m : Msg} (h : R.Ok b) : (R.pre m).Ok (b + 1) := says_ok h _

theorem vote_ok {b : Nat} {R : Raft} (h : R.Ok b) (v : Int) : ({ R with vote := v } : Raft).Ok b :=
  ⟨h.log, h.len, h.term, h.idx, h.mem, h.data, h.yes, h.passed, h.timeout, h.next, h.mat, h.msgs, h.lead, h.mems⟩

theorem fine_same {R R' : Raft} {m : Msg} (h : R.Fine m) (hid : R'.id = R.id) : R'.Fine m :=
  ⟨h.index, h.logTerm, h.commit, h.term, h.kind, by rw [hid]; exact h.to, h.frm, by rw [hid]; exact h.self, h.len, h.snap, h.ents⟩
theorem fallBack_id (R : Raft) (t l : Int) : (R.fallBack t l).id = R.id := by unfold Raft.fallBack Raft.stands; simp only; split <;> rfl
theorem fallBack_role (R : Raft) (t l : Int) : (R.fallBack t l).role = 0 := by unfold Raft.fallBack Raft.stands; rfl

theorem take_ok {b : Nat} {R : Raft} {m : Msg} (h : R.Ok b) (hb : b + 10 ≤ 1099511627776) (hm : R.Fine m) (hmo : m.ok) : (R.take m).Ok (b + 9) := by
  unfold Raft.take
  simp only
  have h1 : (if R.term < m.term then R.fallBack m.term 0 else R).Ok b := by
    split
    · exact fallBack_ok h _ _ hm.term.2
    · exact h
  have hid : (if R.term < m.term then R.fallBack m.term 0 else R).id = R.id := by
    split
    · exact fallBack_id _ _ _
    · rfl
  generalize (if R.term < m.term then R.fallBack m.term 0 else R) = R1 at *
  have hm1 := fine_same hm hid
  split
  · exact (late_ok h1).mono (by omega)
  · split
    · refine (says_ok ?_ _).mono (show b + 1 ≤ b + 9 by omega)
      split
      · exact stands_ok (vote_ok h1 _) _ _ _ (by simp) (by simp) (by simp)
      · exact h1
    · split
      · split
        · rename_i h4
          have h5 := addYes_ok h1 m.frm
          split
          · rename_i hmo
            exact (leads_ok h5 (by omega) (h1.lead (by rw [h4.2]; decide)) (mostOf_ne hmo)).mono (by omega)
          · exact h5.mono (by omega)
        · exact h1.mono (by omega)
      · split
        · split
          · exact follows_ok (fallBack_ok h1 _ _ h1.term.2) (by omega) (by rw [fallBack_role]; decide) (fine_same hm1 (fallBack_id _ _ _)) hmo
          · exact h1.mono (by omega)
        · split
          · split
            · exact (told_ok h1 hm1).mono (by omega)
            · exact h1.mono (by omega)
          · exact h1.mono (by omega)

theorem takes_ok {b : Nat} {R : Raft} {m : Msg} (h : R.Ok b) (hb : b + 10 ≤ 1099511627776) (hmo : m.ok) : (R.takes m).Ok (b + 9) := by
  unfold Raft.takes
  split
  · exact h.mono (by omega)
  · rename_i ho
    have hm : R.Fine m := odd_false (by simpa using ho)
    split
    · exact (pre_ok h).mono (by omega)
    · split
      · exact preYes_ok h (by omega) hm
      · exact take_ok h hb hm hmo
end Go.Ab
/-
  A node of the raft: a snapshot in the place of its own; what a leader says to it: contracts.
-/
namespace Go.Ab

variable {E : Env}

structure OkF (E : Env) : Prop extends OkP E where
  rbase : chkF E.P E.m (E.m 45) c_raft_Raft_base = true
  follows : chkF E.P E.m (E.m 57) c_raft_Raft_follows = true

theorem raft_base (H : OkF E) {σ : St} {K : V → St → Prop} {r : Nat} {R : Raft} {S : List Nat} (s : Snap) (hs : s.ok) (h : RAt σ r R S) (hg : R.log.Ok)
    (k : ∀ σ', Left σ r S (R.base s) σ' → K (.tup []) σ') : ACalls E 45 [.p r 0, s.v] σ K := by
  refine g_raft_Raft_base H.rbase ?_
  unfold p_raft_Raft_base
  have hbx : boxV s.v σ = some (.p σ.length 0, σ ++ [.obj s.cs]) := rfl
  obtain ⟨lg, cl, cy, cm, hS0, h'⟩ := id h
  have h1 := h'.app [.obj s.cs]
  have hsc : cellsOf (σ ++ [Ob.obj s.cs]) σ.length = some s.cs := by simp
  have s0 : partV s.cs 0 1 false = some (inV s.index) := rfl
  have s1 : partV s.cs 1 1 false = some (inV s.term) := rfl
  have hx := h.lt
  have out0 : σ.length ∉ S := fun hi => by have := hx _ hi; omega
  simp only [hbx, optW_some, nilV_p, faV_p, optP_some, Nat.zero_add, ldV_at, hsc, ldC_some, h1.raft, rc5, s0, s1, true_and]
  refine log_base H.toOkM s.index s.term h1.log hg h1.rl fun σ2 c2 hC hR ht hcell => ?_
  have hC' : Chg (σ ++ [Ob.obj s.cs]) σ2 (lg :: cl.toks) := hC.mono fun x hx => by simp at hx; simp [hx]
  have h2 := h1.relog hC' hR ht hcell
  have hlg : lg ∈ S := by rw [hS0]; simp
  have hsc2 : cellsOf σ2 σ.length = some s.cs := hC.cells hsc fun hi => by simp at hi; rw [← hi] at hlg; exact out0 hlg
  have hC2 : Chg σ σ2 S := (Chg.app σ _ S).then (hC.mono fun x hx => by simp at hx; rw [hx]; exact hlg)
  have hlt := cellsOf_lt h2.raft
  simp only [ldV_at, hsc2, ldC_some, sc0, optP_some]
  refine own_snap H.toOkR s hs ?_
  simp only [storeV_at, h2.raft, cells_snap, stC_some, rc_len, snap_len, Nat.zero_add, Nat.reduceAdd, Nat.reduceLeDiff, and_self, if_true, optW_some, sp7]
  have h3 := h2.set (R' := { R with log := (R.log.base s.index s.term).1, snap := s }) rfl
  have ne0 : r ≠ σ.length := fun e => by have := h.mem; rw [e] at this; exact out0 this
  have hsc3 := (cellsOf_far (o := Ob.obj ({ R with log := (R.log.base s.index s.term).1, snap := s }.cells lg cy cm)) ne0).trans hsc2
  simp only [ldV_at, hsc3, ldC_some, sc0, optP_some]
  refine own_snap H.toOkR s hs ?_
  simp only [storeV_at, h3.raft, cells_snap, stC_some, rc_len, snap_len, Nat.zero_add, Nat.reduceAdd, Nat.reduceLeDiff, and_self, if_true, optW_some, sp33]
  have h4 := h3.set (R' := R.base s) rfl
  refine k _ ⟨_, h4.rat, (hC2.then (.set _ h.mem)).then (.set _ h.mem), fun x hx => ?_⟩
  rw [hS0]
  simp only [List.mem_cons, List.mem_append] at hx ⊢
  rcases hx with h | h | (h | h) | h
  · simp [h]
  · simp [h]
  · rcases ht x h with h | h
    · simp [h]
    · right; simp at h; omega
  · simp [h]
  · simp [h]

/-- An answer that is being made. -/
def ansC (kind frm term index : Int) (yes : Bool) : List V := [inV kind, inV 0, inV frm, inV term, inV index, inV 0, inV 0, .b yes, .l 4 [] .nil, .l 1 [] .nil, .l 1 [] .nil]
/-- A local of the caller is set. -/
theorem RAt.setL {s : St} {r : Nat} {R : Raft} {S : List Nat} (h : RAt s r R S) {l : Nat} (hl : l ∉ S) (o : Ob) : RAt (s.set l o) r R S :=
  h.frame (.set (S := [l]) _ (by simp)) fun x hx hx' => by simp at hx'; subst hx'; exact hl hx

theorem raft_follows (H : OkF E) {σ : St} {K : V → St → Prop} {r : Nat} {R : Raft} {S : List Nat} {b : Nat} (m : Msg) (h : RAt σ r R S) (hok : R.Ok b) (hb : b + 9 ≤ 68719476736) (hr3 : R.role ≠ 3) (hm : R.Fine m) (hmo : m.ok)
    (k : ∀ σ', Left σ r S (R.follows m) σ' → K (.tup []) σ') : ACalls E 57 [.p r 0, m.v] σ K := by
  refine g_raft_Raft_follows H.follows ?_
  unfold p_raft_Raft_follows
  have hbx : boxV m.v σ = some (.p σ.length 0, σ ++ [.obj m.cs]) := rfl
  obtain ⟨lg, cl, cy, cm, hS0, h'⟩ := id h
  have hx := h.lt
  have out : ∀ i, σ.length + i ∉ S := fun i hi => by have := hx _ hi; omega
  have out0 : σ.length ∉ S := out 0
  have h1 := h'.app [.obj m.cs]
  have hmc0 : cellsOf (σ ++ [Ob.obj m.cs]) σ.length = some m.cs := by simp
  simp -zeta only [hbx, optW_some, faV_p, optP_some, Nat.zero_add, Nat.add_zero, ldV_at, hmc0, ldC_some, mk0, mk1, nilV_p, h1.raft, rc1, rc1', true_and, allocW_eq]
  refine optP_of (v := .agg [inV 6, inV 0, inV m.frm, inV R.term, inV 0, inV 0, inV 0, .b false, .l 4 [] .nil, .l 1 [] .nil, .l 1 [] .nil]) rfl ?_
  have hmc1 : ∀ xs, cellsOf (σ ++ [Ob.obj m.cs] ++ xs) σ.length = some m.cs := fun xs => cellsOf_left hmc0 xs
  have hr1 : ∀ xs, cellsOf (σ ++ [Ob.obj m.cs] ++ xs) r = some (R.cells lg cy cm) := fun xs => cellsOf_left h1.raft xs
  simp -zeta only [hmc1, hr1, ldC_some, mk1, rc1, true_and]
  have e0 : storeV (.p (σ ++ [Ob.obj m.cs]).length 0) (.agg [inV 6, inV 0, inV m.frm, inV R.term, inV 0, inV 0, inV 0, .b false, .l 4 [] .nil, .l 1 [] .nil, .l 1 [] .nil]) 11 (σ ++ [Ob.obj m.cs] ++ [Ob.obj [.n .i64 0, .n .i64 0, .n .i64 0, .n .i64 0, .n .i64 0, .n .i64 0, .n .i64 0, .b false, .l 4 [] .nil, .l 1 [] .nil, .l 1 [] .nil]]) = some (.u, σ ++ [Ob.obj m.cs] ++ [Ob.obj (ansC 6 m.frm R.term 0 false)]) := by
    rw [storeV_at, cellsOf_right0]; simp [ansC]
  rw [e0]
  have hYl : (σ ++ [Ob.obj m.cs]).length = σ.length + 1 := by simp
  rw [hYl]
  have hA : RAt (σ ++ [Ob.obj m.cs] ++ [Ob.obj (ansC 6 m.frm R.term 0 false)]) r R S := (h.app _).app _
  have hmc : cellsOf (σ ++ [Ob.obj m.cs] ++ [Ob.obj (ansC 6 m.frm R.term 0 false)]) σ.length = some m.cs := hmc1 _
  have hY : cellsOf (σ ++ [Ob.obj m.cs] ++ [Ob.obj (ansC 6 m.frm R.term 0 false)]) (σ.length + 1) = some (ansC 6 m.frm R.term 0 false) := by
    rw [← hYl, cellsOf_right0]; rfl
  have hC : Chg σ (σ ++ [Ob.obj m.cs] ++ [Ob.obj (ansC 6 m.frm R.term 0 false)]) S := (Chg.app _ _ _).then (.app _ _ _)
  simp -zeta only [optW_some]
  generalize σ ++ [Ob.obj m.cs] ++ [Ob.obj (ansC 6 m.frm R.term 0 false)] = τ at *
  have setY : ∀ (s : St) (c c' : List V) (i : Nat) (v : V), cellsOf s (σ.length + 1) = some c → v.cells? = some [v] → c.length = 11 → i + 1 ≤ 11 → splice c i [v] = c' → storeV (.p (σ.length + 1) i) v 1 s = some (.u, s.set (σ.length + 1) (.obj c')) := by
    intro s c c' i v h1 h2 h3 h4 h5
    rw [storeV_at, h1, h2, stC_some, if_pos ⟨rfl, by omega⟩, h5]
  intro k20
  have hk20 : ∀ (s : St) (R' : Raft) (S' : List Nat) (kind index : Int) (yes : Bool), RAt s r R' S' → Chg σ s S → (∀ x ∈ S', x ∈ S ∨ σ.length + 2 ≤ x) → cellsOf s (σ.length + 1) = some (ansC kind m.frm R.term index yes) →
      R'.out.msgs.length ≤ 68719476736 → R.follows m = R'.says { Msg.blank with kind := kind, to := m.frm, term := R.term, index := index, yes := yes } → k20 s := by
    intro s R' S' kind index yes g1 g2 g3 g4 g5 g6
    simp only [k20, ldV_at, g4, ldC_some]
    refine optP_of (v := .agg (ansC kind m.frm R.term index yes)) rfl ?_
    refine raft_says' H.toOkS { Msg.blank with kind := kind, to := m.frm, term := R.term, index := index, yes := yes } ?_ g1 g5 fun σ' hL => k σ' ?_
    · exact .cons (.refl _) (.cons (.refl _) (.cons (.refl _) (.cons (.refl _) (.cons (.refl _) (.cons (.refl _) (.cons (.refl _) (.cons (.refl _) (.cons fg_nilE (.cons fg_nilI (.cons fg_nilB .nil))))))))))
    · rw [g6]; exact .trans g2 (fun x hx => by rcases g3 x hx with h | h; exact .inl h; right; omega) hL
  clear_value k20
  have outS : ∀ {S' : List Nat}, (∀ x ∈ S', x ∈ S ∨ σ.length + 2 ≤ x) → σ.length ∉ S' ∧ σ.length + 1 ∉ S' := fun {S'} g => ⟨fun hi => by rcases g _ hi with h | h; exact out0 h; omega, fun hi => by rcases g _ hi with h | h; exact out 1 h; omega⟩
  have CY : ∀ {s : St} (o : Ob), Chg σ s S → Chg σ (s.set (σ.length + 1) o) S := fun {s} o g => g.trans (.set (S := [σ.length + 1]) _ (by simp)) fun x hx => by simp at hx; right; omega
  have hτl := cellsOf_lt hY
  have hmsg : R.out.msgs.length ≤ 68719476736 := by have := hok.msgs; omega
  simp -zeta only [faV_p, optP_some, Nat.zero_add, ldV_at, hmc, ldC_some, mk0, mk4, inV, eql_i64, splitP_b]
  refine ⟨fun h7 => ?_, fun h7 => ?_⟩
  · have e7 : m.kind = 7 := by simpa using h7
    rw [setY τ _ (ansC 8 m.frm R.term 0 false) 0 (.n .i64 8) hY rfl rfl (by omega) rfl]
    simp -zeta only [optW_some]
    intro k36
    have hk36 : ∀ (s : St) (R' : Raft) (S' : List Nat), RAt s r R' S' → Chg σ s S → (∀ x ∈ S', x ∈ S ∨ σ.length + 2 ≤ x) → cellsOf s (σ.length + 1) = some (ansC 8 m.frm R.term 0 false) → R'.out.msgs.length ≤ 68719476736 →
        R.follows m = R'.says { Msg.blank with kind := 8, to := m.frm, term := R.term, index := R'.commit } → k36 s := by
      intro s R' S' g1 g2 g3 g4 g5 g6
      obtain ⟨lg', cl', cy', cm', hS', g1'⟩ := id g1
      simp only [k36, nilV_p, faV_p, optP_some, Nat.zero_add, ldV_at, g1'.raft, ldC_some, rc6]
      rw [setY s _ (ansC 8 m.frm R.term R'.commit false) 4 (inV R'.commit) g4 rfl rfl (by omega) rfl]
      simp only [optW_some]
      exact hk20 _ R' S' 8 R'.commit false (g1.setL (outS g3).2 _) (CY _ g2) g3 (cellsOf_self (cellsOf_lt g4)) g5 g6
    clear_value k36
    have hA2 := hA.setL (out 1) (Ob.obj (ansC 8 m.frm R.term 0 false))
    have hC2 := CY (Ob.obj (ansC 8 m.frm R.term 0 false)) hC
    have hY2 : cellsOf (τ.set (σ.length + 1) (Ob.obj (ansC 8 m.frm R.term 0 false))) (σ.length + 1) = some (ansC 8 m.frm R.term 0 false) := cellsOf_self hτl
    have hm2 : cellsOf (τ.set (σ.length + 1) (Ob.obj (ansC 8 m.frm R.term 0 false))) σ.length = some m.cs := (cellsOf_far (by omega)).trans hmc
    generalize τ.set (σ.length + 1) (Ob.obj (ansC 8 m.frm R.term 0 false)) = τ2 at *
    obtain ⟨lg2, cl2, cy2, cm2, hS2, h2'⟩ := id hA2
    simp -zeta only [nilV_p, faV_p, optP_some, Nat.zero_add, ldV_at, hm2, h2'.raft, ldC_some, rc6, mk4, mk5, mk9, mk10, inV, gtr_i64, splitP_b, true_and]
    refine ⟨fun hg => ?_, fun hg => ?_⟩
    · have hg' : R.commit < m.index := by simpa using hg
      refine optP_of (v := (Snap.mk m.index m.logTerm m.mem m.data).v) rfl ?_
      have hok3 := based_ok hok hr3 hm hmo e7 hg'
      refine raft_base H ⟨m.index, m.logTerm, m.mem, m.data⟩ hmo.2 hA2 hok.log fun σ3 hL3 => hL3.bind fun S3 h3 hC3 hS3 => ?_
      have hm3 : cellsOf σ3 σ.length = some m.cs := hC3.cells hm2 out0
      have hY3 := hC3.cells hY2 (out 1)
      have hlt2 := cellsOf_lt hY2
      have gS3 : ∀ x ∈ S3, x ∈ S ∨ σ.length + 2 ≤ x := fun x hx => by
        rcases hS3 x hx with h | h
        · exact .inl h
        · right; omega
      obtain ⟨lg3, cl3, cy3, cm3, hS30, h3'⟩ := id h3
      simp -zeta only [faV_p, optP_some, Nat.zero_add, ldV_at, hm3, ldC_some, mk4, nilV_p, storeV_at, h3'.raft, cells_n, stC_some, rc_len, sp6, List.length_cons, List.length_nil, Nat.reduceAdd, Nat.reduceLeDiff, and_self, if_true, optW_some]
      have h4 := h3'.set (R' := { R.base ⟨m.index, m.logTerm, m.mem, m.data⟩ with commit := m.index }) rfl
      have hYS : r ≠ σ.length + 1 := fun e => out 1 (e ▸ h.mem)
      refine hk36 _ { R.base ⟨m.index, m.logTerm, m.mem, m.data⟩ with commit := m.index } S3 (hS30 ▸ h4.rat) ((hC2.then hC3).trans (.set _ h3.mem) fun x hx => ?_) gS3 ((cellsOf_far hYS).trans hY3) (by have := hok3.msgs; omega) ?_
      · rcases gS3 x hx with h | h
        · exact .inl h
        · right; omega
      · unfold Raft.follows; rw [if_pos e7]; simp only; rw [if_pos hg']
    · have hg' : ¬ R.commit < m.index := by simpa using hg
      refine hk36 τ2 R S hA2 hC2 (fun x hx => .inl hx) hY2 hmsg ?_
      unfold Raft.follows; rw [if_pos e7]; simp only; rw [if_neg hg']
  · have e7 : ¬ m.kind = 7 := by simpa using h7
    obtain ⟨lg2, cl2, cy2, cm2, hS2, h2'⟩ := id hA
    simp -zeta only [nilV_p, faV_p, optP_some, Nat.zero_add, ldV_at, hmc, h2'.raft, ldC_some, rc6, rc5, mk4, mk5, mk8, inV, lss_i64, splitP_b, true_and]
    refine ⟨fun hg => ?_, fun hg => ?_⟩
    · have hg' : m.index < R.commit := by simpa using hg
      rw [setY τ _ (ansC 6 m.frm R.term 0 true) 7 (.b true) hY rfl rfl (by omega) rfl]
      have hA3 := hA.setL (out 1) (Ob.obj (ansC 6 m.frm R.term 0 true))
      have hY3 : cellsOf (τ.set (σ.length + 1) (Ob.obj (ansC 6 m.frm R.term 0 true))) (σ.length + 1) = some (ansC 6 m.frm R.term 0 true) := cellsOf_self hτl
      have hC3 := CY (Ob.obj (ansC 6 m.frm R.term 0 true)) hC
      have hr3' : cellsOf (τ.set (σ.length + 1) (Ob.obj (ansC 6 m.frm R.term 0 true))) r = some (R.cells lg2 cy2 cm2) := (cellsOf_far (fun e => out 1 (by rw [e]; exact h.mem))).trans h2'.raft
      simp -zeta only [optW_some, hr3', ldC_some, rc6, true_and]
      rw [setY _ _ (ansC 6 m.frm R.term R.commit true) 4 (.n .i64 R.commit) hY3 rfl rfl (by omega) rfl]
      simp -zeta only [optW_some]
      refine hk20 _ R S 6 R.commit true (hA3.setL (out 1) _) (CY _ hC3) (fun x hx => .inl hx) (cellsOf_self (cellsOf_lt hY3)) hmsg ?_
      unfold Raft.follows; rw [if_neg e7, if_pos hg']
    · have hg' : ¬ m.index < R.commit := by simpa using hg
      refine log_join H.toOkJ m.index m.logTerm m.ents h2'.log hok.log h2'.rl hmo.1 hm.index.1 hm.index.2 fun σ3 c3 hCj hRj htj hcj => ?_
      have hok3 := joined_ok hok (by omega) hr3 hm hmo (show R.commit ≤ m.index by omega)
      have hdef : R.follows m = (let j := R.log.join m.index m.logTerm m.ents
          let R1 := { R with log := j.1 }
          let R2 := if 0 < j.2.2.1 then R1.fresh j.2.2.1 else R1
          let R3 := if j.2.2.2 = true then { R2 with commit := max R2.commit (min m.commit j.2.1) } else R2
          R3.says { Msg.blank with kind := 6, to := m.frm, term := R.term, yes := j.2.2.2, index := j.2.1 }) := by
        unfold Raft.follows; rw [if_neg e7, if_neg hg']
      have hlgS : lg2 ∈ S := by rw [hS2]; simp
      have hCj' : Chg τ σ3 (lg2 :: cl2.toks) := hCj.mono fun x hx => by simp at hx; simp [hx]
      have h3' := h2'.relog hCj' hRj htj hcj
      have hCj2 : Chg τ σ3 S := hCj.mono fun x hx => by simp at hx; rw [hx]; exact hlgS
      have hC3 : Chg σ σ3 S := hC.then hCj2
      have hm3 := hCj2.cells hmc out0
      have hY3 := hCj2.cells hY (out 1)
      obtain ⟨S3, hS3⟩ : ∃ S3, S3 = r :: lg2 :: (c3.toks ++ cy2.toks ++ cm2.toks) := ⟨_, rfl⟩
      have gS3 : ∀ x ∈ S3, x ∈ S ∨ σ.length + 2 ≤ x := fun x hx => by
        rw [hS3] at hx; rw [hS2]
        simp only [List.mem_cons, List.mem_append] at hx ⊢
        rcases hx with h | h | (h | h) | h
        · simp [h]
        · simp [h]
        · rcases htj x h with h | h
          · simp [h]
          · right; omega
        · simp [h]
        · simp [h]
      generalize hjj : R.log.join m.index m.logTerm m.ents = j at *
      simp -zeta only [true_and, extV_tup, List.getElem?_cons_zero, List.getElem?_cons_succ, optP_some, splitP_b]
      obtain ⟨R1, hR1⟩ : ∃ R1, R1 = { R with log := j.1 } := ⟨_, rfl⟩
      rw [← hR1] at hok3 h3'
      have hA3 : RAt σ3 r R1 S3 := hS3 ▸ h3'.rat
      -- behind the answer: what the two ways share
      have rest : ∀ (s : St), RAt s r R1 S3 → Chg σ s S → cellsOf s σ.length = some m.cs → cellsOf s (σ.length + 1) = some (ansC 6 m.frm R.term j.2.1 j.2.2.2) →
          ∀ (k1 : St → Prop), (∀ (s' : St) (R2 : Raft) (S' : List Nat), R2 = (if 0 < j.2.2.1 then R1.fresh j.2.2.1 else R1) → RAt s' r R2 S' → Chg σ s' S → (∀ x ∈ S', x ∈ S ∨ σ.length + 2 ≤ x) → cellsOf s' σ.length = some m.cs → cellsOf s' (σ.length + 1) = some (ansC 6 m.frm R.term j.2.1 j.2.2.2) → k1 s') →
          (optP (binV .num .gtr (inV j.2.2.1) (.n .i64 0)) s fun v166 s167 => splitP v166 (ACalls E 74 [.p r 0, inV j.2.2.1] s167 fun v168 s169 => k1 s169) (k1 s167)) := by
        intro s g1 g2 g3 g4 k1 hk1
        simp only [inV, gtr_i64, optP_some, splitP_b]
        refine ⟨fun hpos => ?_, fun hpos => ?_⟩
        · refine raft_fresh H.toOkR j.2.2.1 g1 hok3.log fun s' hL => hL.bind fun S' q1 q2 q3 => ?_
          have gS' : ∀ x ∈ S', x ∈ S ∨ σ.length + 2 ≤ x := fun x hx => by
            rcases q3 x hx with h | h
            · exact gS3 x h
            · have := cellsOf_lt g4; right; omega
          refine hk1 s' _ S' (by rw [if_pos (by simpa using hpos)]) q1 (g2.trans q2 fun x hx => ?_) gS' (q2.cells g3 (outS gS3).1) (q2.cells g4 (outS gS3).2)
          rcases gS3 x hx with h | h
          · exact .inl h
          · right; omega
        · exact hk1 s _ S3 (by rw [if_neg (by simpa using hpos)]) g1 g2 gS3 g3 g4
      have hR2ok : (if 0 < j.2.2.1 then R1.fresh j.2.2.1 else R1).Ok (b + 8) := by
        split
        · exact fresh_ok hok3 _
        · exact hok3
      refine ⟨fun hy => ?_, fun hy => ?_⟩
      · rw [hy] at rest
        simp only [hy] at hdef
        intro k142
        have hk142 : ∀ s, RAt s r R1 S3 → Chg σ s S → cellsOf s σ.length = some m.cs → cellsOf s (σ.length + 1) = some (ansC 6 m.frm R.term j.2.1 true) → k142 s := by
          intro s g1 g2 g3 g4
          simp only [k142]
          refine rest s g1 g2 g3 g4 _ fun s' R2 S' q0 q1 q2 q3 q4 q5 => ?_
          obtain ⟨lg5, cl5, cy5, cm5, hS5, q1'⟩ := id q1
          simp only [splitP_b, forall_const, Bool.true_eq_false, false_implies, and_true, nilV_p, faV_p, optP_some, Nat.zero_add, ldV_at, q4, q1'.raft, ldC_some, rc6, mk6, minV_two, maxV_two, storeV_at, cells_n, inV, stC_some, rc_len, sp6, List.length_cons, List.length_nil, Nat.reduceAdd, Nat.reduceLeDiff, and_self, if_true, optW_some, true_and]
          have q6 := q1'.set (R' := { R2 with commit := max R2.commit (min m.commit j.2.1) }) rfl
          refine hk20 _ { R2 with commit := max R2.commit (min m.commit j.2.1) } S' 6 j.2.1 true (hS5 ▸ q6.rat) (q2.trans (.set _ q1.mem) fun x hx => ?_) q3 ((cellsOf_far (fun e => (outS q3).2 (by rw [← e]; exact q1.mem))).trans q5) ?_ ?_
          · rcases q3 x hx with h | h
            · exact .inl h
            · right; omega
          · have := hR2ok.msgs; rw [q0]; show (if 0 < j.2.2.1 then R1.fresh j.2.2.1 else R1).out.msgs.length ≤ _; omega
          · rw [hdef, q0, hR1]; simp
        clear_value k142
        simp -zeta only [splitP_b, forall_const, Bool.true_eq_false, false_implies, and_true, faV_p, Nat.zero_add, optP_some]
        rw [setY σ3 _ (ansC 6 m.frm R.term 0 true) 7 (.b true) hY3 rfl rfl (by omega) rfl]
        simp -zeta only [optW_some]
        have hY4 : cellsOf (σ3.set (σ.length + 1) (Ob.obj (ansC 6 m.frm R.term 0 true))) (σ.length + 1) = some (ansC 6 m.frm R.term 0 true) := cellsOf_self (cellsOf_lt hY3)
        rw [setY _ _ (ansC 6 m.frm R.term j.2.1 true) 4 (inV j.2.1) hY4 rfl rfl (by omega) rfl]
        simp -zeta only [optW_some]
        refine hk142 _ ((hA3.setL (outS gS3).2 _).setL (outS gS3).2 _) (CY _ (CY _ hC3)) ?_ (cellsOf_self (cellsOf_lt hY4))
        rw [cellsOf_far (by omega), cellsOf_far (by omega)]; exact hm3
      · rw [hy] at rest
        simp only [hy] at hdef
        intro k186
        have hk186 : ∀ s, RAt s r R1 S3 → Chg σ s S → cellsOf s σ.length = some m.cs → cellsOf s (σ.length + 1) = some (ansC 6 m.frm R.term j.2.1 false) → k186 s := by
          intro s g1 g2 g3 g4
          simp only [k186]
          refine rest s g1 g2 g3 g4 _ fun s' R2 S' q0 q1 q2 q3 q4 q5 => ?_
          simp only [splitP_b, forall_const, Bool.false_eq_true, false_implies, true_and]
          refine hk20 _ R2 S' 6 j.2.1 false q1 q2 q3 q5 ?_ ?_
          · have := hR2ok.msgs; rw [q0]; omega
          · rw [hdef, q0, hR1]; simp
        clear_value k186
        simp -zeta only [splitP_b, forall_const, Bool.false_eq_true, false_implies, true_and, faV_p, Nat.zero_add, optP_some]
        rw [setY σ3 _ (ansC 6 m.frm R.term 0 false) 7 (.b false) hY3 rfl rfl (by omega) rfl]
        simp -zeta only [optW_some]
        have hY4 : cellsOf (σ3.set (σ.length + 1) (Ob.obj (ansC 6 m.frm R.term 0 false))) (σ.length + 1) = some (ansC 6 m.frm R.term 0 false) := cellsOf_self (cellsOf_lt hY3)
        rw [setY _ _ (ansC 6 m.frm R.term j.2.1 false) 4 (inV j.2.1) hY4 rfl rfl (by omega) rfl]
        simp -zeta only [optW_some]
        refine hk186 _ ((hA3.setL (outS gS3).2 _).setL (outS gS3).2 _) (CY _ (CY _ hC3)) ?_ (cellsOf_self (cellsOf_lt hY4))
        rw [cellsOf_far (by omega), cellsOf_far (by omega)]; exact hm3
end Go.Ab
/-
  A node of the raft: what a follower says to its leader: contracts.
-/
namespace Go.Ab

variable {E : Env}

structure OkU (E : Env) : Prop extends OkF E where
  told : chkF E.P E.m (E.m 58) c_raft_Raft_told = true
  rtake : chkF E.P E.m (E.m 30) c_raft_Raft_take = true

theorem raft_told (H : OkU E) {σ : St} {K : V → St → Prop} {r : Nat} {R : Raft} {S : List Nat} {b : Nat} (m : Msg) (h : RAt σ r R S) (hok : R.Ok b) (hb : b + 7 ≤ 68719476736) (hr3 : R.role = 3) (hm : R.Fine m)
    (k : ∀ σ', Left σ r S (R.told m) σ' → K (.tup []) σ') : ACalls E 58 [.p r 0, m.v] σ K := by
  refine g_raft_Raft_told H.told ?_
  unfold p_raft_Raft_told
  have hbx : boxV m.v σ = some (.p σ.length 0, σ ++ [.obj m.cs]) := rfl
  obtain ⟨lg, cl, cy, cm, hS0, h'⟩ := id h
  have hx := h.lt
  have out0 : σ.length ∉ S := fun hi => by have := hx _ hi; omega
  have h1 := h'.app [.obj m.cs]
  have hmc : cellsOf (σ ++ [Ob.obj m.cs]) σ.length = some m.cs := by simp
  have hA : RAt (σ ++ [Ob.obj m.cs]) r R S := h.app _
  have hC : Chg σ (σ ++ [Ob.obj m.cs]) S := .app _ _ _
  have hfr := hm.frm
  have hix := hm.index
  obtain ⟨f, hf⟩ : ∃ f : Nat, m.frm = f := ⟨m.frm.toNat, by omega⟩
  have hf8 : f < 8 := by omega
  have hft : m.frm.toNat = f := by omega
  have hn := hok.next f
  have hma := hok.mat f
  have hlast : R.log.last = R.log.index + R.log.l.length := rfl
  have a0 := hok.log.lo; have a1 := hok.log.hi; have a2 := hok.len
  simp -zeta only [hbx, optW_some]
  generalize σ ++ [Ob.obj m.cs] = τ at *
  have hia : iaaV (.p r 14) (inV m.frm) 8 2 = some (.p r (14 + f * 2)) := by
    rw [hf]; simp only [iaaV, inV]; rw [if_pos ⟨by omega, by omega⟩, Int.toNat_natCast]
  simp -zeta only [faV_p, optP_some, Nat.zero_add, Nat.add_zero, ldV_at, hmc, ldC_some, mk1, nilV_p, true_and, hia]
  intro k12
  have hne : R.members ≠ [] := hok.mems hr3
  have hmlen := (members_ok hok.mem).len
  have hk12 : ¬ (m.kind = 6 ∧ m.yes = false) → k12 τ := by
    intro hno
    have hdef : R.told m = (let R1 := { R with mat := upN R.mat f (max (R.mat f) m.index), next := upN R.next f (max (R.mat f) m.index + 1) }
        let R2 := R1.agree
        if R2.role ≠ 3 then R2
        else if R1.commit < R2.commit then R2.others Raft.sendTo
        else if R2.next f ≤ R2.log.last ∧ m.frm ∈ R2.members then R2.sendTo m.frm
        else R2) := by
      unfold Raft.told; simp only [hft]; rw [if_neg hno]
    have e1 := rc_mat R lg cy cm hf8
    have e2 := sp_mat R lg cy cm hf8 (max (R.mat f) m.index)
    obtain ⟨R1, hR1⟩ : ∃ R1, R1 = { R with mat := upN R.mat f (max (R.mat f) m.index) } := ⟨_, rfl⟩
    rw [← hR1] at e2
    have g1 := h1.set (R' := R1) (by rw [hR1])
    have e3 := rc_mat R1 lg cy cm hf8
    have e3' : R1.mat f = max (R.mat f) m.index := by rw [hR1]; simp [upN]
    rw [e3'] at e3
    have e4 := sp_next R1 lg cy cm hf8 (max (R.mat f) m.index + 1)
    obtain ⟨R2, hR2⟩ : ∃ R2, R2 = { R with mat := upN R.mat f (max (R.mat f) m.index), next := upN R.next f (max (R.mat f) m.index + 1) } := ⟨_, rfl⟩
    have hR12 : { R1 with next := upN R1.next f (max (R.mat f) m.index + 1) } = R2 := by rw [hR1, hR2]
    rw [hR12] at e4
    have g2 := g1.set (R' := R2) (by rw [hR1, hR2])
    simp -zeta only [k12, nilV_p, faV_p, optP_some, Nat.zero_add, Nat.add_zero, ldV_at, hmc, h1.raft, ldC_some, e1, mk4, true_and, inV, maxV_two, storeV_at, cells_n, stC_some, rc_len, List.length_cons, List.length_nil]
    simp only [inV] at e2 e3 e4
    rw [if_pos (by first | omega | exact ⟨trivial, by omega⟩), e2]
    simp -zeta only [optW_some, g1.raft, ldC_some, e3, inV, optP_some, add_i64]
    rw [wrap64 (by omega) (by omega)]
    simp -zeta only [cells_n, stC_some, rc_len, List.length_cons, List.length_nil]
    rw [if_pos (by first | omega | exact ⟨trivial, by omega⟩), e4]
    simp -zeta only [optW_some, g2.raft, ldC_some, rc6, optP_some]
    have hok2 : R2.Ok b := by
      rw [hR2]
      exact ⟨hok.log, hok.len, hok.term, hok.idx, hok.mem, hok.data, hok.yes, hok.passed, hok.timeout, upN_ok hok.next (by omega), upN_ok hok.mat (by omega), hok.msgs, hok.lead, hok.mems⟩
    have hne2 : R2.members ≠ [] := by rw [hR2]; exact hne
    have g3 : RAt ((τ.set r (Ob.obj (R1.cells lg cy cm))).set r (Ob.obj (R2.cells lg cy cm))) r R2 S := hS0 ▸ g2.rat
    have g4 : Chg σ ((τ.set r (Ob.obj (R1.cells lg cy cm))).set r (Ob.obj (R2.cells lg cy cm))) S := (hC.then (.set _ h.mem)).then (.set _ h.mem)
    have nr : r ≠ σ.length := fun e => out0 (by rw [← e]; exact h.mem)
    have g5 : cellsOf ((τ.set r (Ob.obj (R1.cells lg cy cm))).set r (Ob.obj (R2.cells lg cy cm))) σ.length = some m.cs := by
      rw [cellsOf_far nr, cellsOf_far nr]; exact hmc
    have hτl := cellsOf_lt g5
    generalize (τ.set r (Ob.obj (R1.cells lg cy cm))).set r (Ob.obj (R2.cells lg cy cm)) = τ2 at *
    refine raft_agree H.toOkS g3 hok2 (by omega) hne2 fun σ3 hL3 => hL3.bind fun S3 h3 hC3 hS3 => ?_
    have hok3 := agree_ok hok2
    have hm3 := hC3.cells g5 out0
    obtain ⟨lg3, cl3, cy3, cm3, hS30, h3'⟩ := id h3
    have gS3 : ∀ x ∈ S3, x ∈ S ∨ σ.length < x := fun x hx => by
      rcases hS3 x hx with h | h
      · exact .inl h
      · right; omega
    have hdef2 : R.told m = if R2.agree.role ≠ 3 then R2.agree else if R2.commit < R2.agree.commit then R2.agree.others Raft.sendTo
        else if R2.agree.next f ≤ R2.agree.log.last ∧ m.frm ∈ R2.agree.members then R2.agree.sendTo m.frm else R2.agree := by rw [hdef, hR2]
    clear hdef
    have fin : ∀ s, Left σ3 r S3 (R.told m) s → K (.tup []) s := fun s hL => k s (.trans (g4.then hC3) (fun x hx => by rcases gS3 x hx with h | h; exact .inl h; right; omega) hL)
    have agid : R2.agree.log = R2.log := by
      have := commits_same R2
      unfold Raft.agree
      split
      · show (R2.commits.fallBack R2.term 0).log = R2.log
        rw [← this.2.2.2.1]; unfold Raft.fallBack Raft.stands; simp only; split <;> rfl
      · exact this.2.2.2.1
    have hlast2 : R2.agree.log.last = R.log.last := by rw [agid, hR2]
    generalize R2.agree = A at *
    simp -zeta only [h3'.raft, ldC_some, rc3, optP_some, inV, neq_i64, splitP_b]
    refine ⟨fun hr => fin _ ?_, fun hr => ?_⟩
    · rw [hdef2, if_pos (by simpa using hr)]; exact .self h3
    · have hr' : ¬ A.role ≠ 3 := by simpa using hr
      simp -zeta only [h3'.raft, ldC_some, rc6, optP_some, inV, gtr_i64, splitP_b]
      refine ⟨fun hc => ?_, fun hc => ?_⟩
      · refine raft_sends H.toOkS h3 hok3 (by omega) fun s hL => fin s ?_
        rw [hdef2, if_neg hr', if_pos (by simpa using hc)]; exact hL
      · have hc' : ¬ R2.commit < A.commit := by simpa using hc
        intro k72
        have hk72 : ¬ (A.next f ≤ A.log.last ∧ m.frm ∈ A.members) → k72 σ3 := fun hn => by
          simp only [k72]
          refine fin _ ?_
          rw [hdef2, if_neg hr', if_neg hc', if_neg hn]; exact .self h3
        clear_value k72
        have e5 := rc_next A lg3 cy3 cm3 hf8
        simp -zeta only [h3'.raft, ldC_some, e5, rc5, optP_some, true_and]
        refine log_last H.toOkL h3'.log hok3.log ?_
        simp -zeta only [h3'.raft, ldC_some, e5, true_and, inV, leq_i64, optP_some, splitP_b]
        refine ⟨fun hle => ?_, fun hle => ?_⟩
        · have hle' : A.next f ≤ A.log.last := by simpa using hle
          have hml3 := (members_ok hok3.mem)
          refine raft_members H.toOkR h3' hok3.log ?_
          simp -zeta only [ldV_at, hm3, ldC_some, mk1, optP_some, true_and]
          refine quorum_has H.toOkH _ _ (by have := hml3.len; omega) ?_
          simp -zeta only [splitP_b]
          refine ⟨fun hin => ?_, fun hin => hk72 fun hh => (by simp [hh.2] at hin)⟩
          have hin' : m.frm ∈ A.members := by simpa using hin
          simp -zeta only [ldV_at, hm3, ldC_some, mk1, optP_some, true_and]
          refine raft_sendTo H.toOkS m.frm h3 hok3 (by omega) (by omega) (by omega) fun s hL => fin s ?_
          rw [hdef2, if_neg hr', if_neg hc', if_pos ⟨hle', hin'⟩]; exact hL
        · refine hk72 fun hh => ?_
          have : ¬ A.next f ≤ A.log.last := by simpa using hle
          exact this hh.1
  clear_value k12
  simp -zeta only [faV_p, optP_some, Nat.zero_add, ldV_at, hmc, ldC_some, mk0, mk7, inV, eql_i64, splitP_b]
  refine ⟨fun h6 => ⟨fun hy => hk12 fun hh => (by rw [hy] at hh; cases hh.2), fun hy => ?_⟩, fun h6 => hk12 fun hh => (by simp [hh.1] at h6)⟩
  have h6' : m.kind = 6 := by simpa using h6
  obtain ⟨R1, hR1⟩ : ∃ R1, R1 = { R with next := upN R.next f (max (R.mat f + 1) (min (R.next f - 1) (m.index + 1))) } := ⟨_, rfl⟩
  have hdef : R.told m = if m.frm ∈ R1.members then R1.sendTo m.frm else R1 := by
    unfold Raft.told; simp only [hft]; rw [if_pos ⟨h6', hy⟩, hR1]
  have hok1 : R1.Ok b := by
    rw [hR1]
    exact ⟨hok.log, hok.len, hok.term, hok.idx, hok.mem, hok.data, hok.yes, hok.passed, hok.timeout, upN_ok hok.next (by omega), hok.mat, hok.msgs, hok.lead, hok.mems⟩
  have e1 := rc_mat R lg cy cm hf8
  have e2 := rc_next R lg cy cm hf8
  have e3 := sp_next R lg cy cm hf8 (max (R.mat f + 1) (min (R.next f - 1) (m.index + 1)))
  rw [← hR1] at e3
  simp only [inV] at e1 e2 e3
  simp -zeta only [nilV_p, faV_p, optP_some, Nat.zero_add, Nat.add_zero, ldV_at, hmc, h1.raft, ldC_some, e1, e2, mk4, true_and, inV, add_i64, sub_i64]
  rw [wrap64 (by omega) (by omega), wrap64 (by omega) (by omega), wrap64 (by omega) (by omega)]
  simp -zeta only [minV_two, maxV_two, optP_some, storeV_at, h1.raft, cells_n, stC_some, rc_len, List.length_cons, List.length_nil]
  rw [if_pos (by first | omega | exact ⟨trivial, by omega⟩), e3]
  simp -zeta only [optW_some]
  have g1 := h1.set (R' := R1) (by rw [hR1])
  have nr : r ≠ σ.length := fun e => out0 (by rw [← e]; exact h.mem)
  have g5 : cellsOf (τ.set r (Ob.obj (R1.cells lg cy cm))) σ.length = some m.cs := by rw [cellsOf_far nr]; exact hmc
  have g4 : Chg σ (τ.set r (Ob.obj (R1.cells lg cy cm))) S := hC.then (.set _ h.mem)
  have g3 : RAt (τ.set r (Ob.obj (R1.cells lg cy cm))) r R1 S := hS0 ▸ g1.rat
  have fin : ∀ s, Left (τ.set r (Ob.obj (R1.cells lg cy cm))) r S (R.told m) s → K (.tup []) s := fun s hL => k s (.trans g4 (fun x hx => .inl hx) hL)
  generalize τ.set r (Ob.obj (R1.cells lg cy cm)) = τ2 at *
  intro k146
  have hk146 : ∀ s, Left τ2 r S (R.told m) s → k146 s := fun s hL => fin s hL
  clear_value k146
  refine raft_members H.toOkR g1 hok1.log ?_
  simp -zeta only [ldV_at, g5, ldC_some, mk1, optP_some, true_and]
  refine quorum_has H.toOkH _ _ (by have := (members_ok hok1.mem).len; omega) ?_
  simp -zeta only [splitP_b]
  refine ⟨fun hin => ?_, fun hin => hk146 _ ?_⟩
  · simp -zeta only [ldV_at, g5, ldC_some, mk1, optP_some, true_and]
    refine raft_sendTo H.toOkS m.frm g3 hok1 (by omega) (by omega) (by omega) fun s hL => hk146 s ?_
    rw [hdef, if_pos (by simpa using hin)]; exact hL
  · rw [hdef, if_neg (by simpa using hin)]; exact .self g3
end Go.Ab
/-
  A node of the raft takes a message: contracts.
-/
namespace Go.Ab

variable {E : Env}

theorem stands_def (R : Raft) (a b : Int) (ys : List Int) : (R.stands a b ys).term = R.term := rfl

theorem raft_take (H : OkU E) {σ : St} {K : V → St → Prop} {r : Nat} {R : Raft} {S : List Nat} {b : Nat} (m : Msg) (h : RAt σ r R S) (hok : R.Ok b) (hb : b + 10 ≤ 68719476736) (hm : R.Fine m) (hmo : m.ok)
    (k : ∀ σ', Left σ r S (R.take m) σ' → K (.tup []) σ') : ACalls E 30 [.p r 0, m.v] σ K := by
  refine g_raft_Raft_take H.rtake ?_
  unfold p_raft_Raft_take
  have hbx : boxV m.v σ = some (.p σ.length 0, σ ++ [.obj m.cs]) := rfl
  obtain ⟨lg, cl, cy, cm, hS0, h'⟩ := id h
  have hx := h.lt
  have out0 : σ.length ∉ S := fun hi => by have := hx _ hi; omega
  have h1 := h'.app [.obj m.cs]
  have hmc : cellsOf (σ ++ [Ob.obj m.cs]) σ.length = some m.cs := by simp
  have hA : RAt (σ ++ [Ob.obj m.cs]) r R S := h.app _
  have hC : Chg σ (σ ++ [Ob.obj m.cs]) S := .app _ _ _
  have hfr := hm.frm
  obtain ⟨R1, hR1⟩ : ∃ R1, R1 = if R.term < m.term then R.fallBack m.term 0 else R := ⟨_, rfl⟩
  have hok1 : R1.Ok b := by
    rw [hR1]; split
    · exact fallBack_ok hok _ _ hm.term.2
    · exact hok
  have hid : R1.id = R.id := by
    rw [hR1]; split
    · exact fallBack_id _ _ _
    · rfl
  have hm1 := fine_same hm hid
  have hdef : R.take m = (if m.term < R1.term then R1.late m
      else if m.kind = 3 then
        (if decide ((R1.vote = 0 ∨ R1.vote = m.frm) ∧ R1.lead = 0 ∧ R1.log.behind m.index m.logTerm = true) = true then { R1 with vote := m.frm }.stands 0 0 [] else R1).says
          { Msg.blank with kind := 4, to := m.frm, term := (if decide ((R1.vote = 0 ∨ R1.vote = m.frm) ∧ R1.lead = 0 ∧ R1.log.behind m.index m.logTerm = true) = true then { R1 with vote := m.frm }.stands 0 0 [] else R1).term, yes := decide ((R1.vote = 0 ∨ R1.vote = m.frm) ∧ R1.lead = 0 ∧ R1.log.behind m.index m.logTerm = true) }
      else if m.kind = 4 then
        if m.yes = true ∧ R1.role = 2 then
          if mostOf ({ R1 with yes := R1.yes ++ [m.frm] } : Raft).members ({ R1 with yes := R1.yes ++ [m.frm] } : Raft).yes = true then ({ R1 with yes := R1.yes ++ [m.frm] } : Raft).leads else { R1 with yes := R1.yes ++ [m.frm] }
        else R1
      else if m.kind = 5 ∨ m.kind = 7 then
        if R1.role ≠ 3 then (R1.fallBack R1.term m.frm).follows m else R1
      else if m.kind = 6 ∨ m.kind = 8 then
        if R1.role = 3 ∧ m.index ≤ R1.log.last then R1.told m else R1
      else R1) := by rw [hR1]; rfl
  simp -zeta only [hbx, optW_some]
  generalize hτ : σ ++ [Ob.obj m.cs] = τ at *
  intro k2
  have hk2 : ∀ s S1, RAt s r R1 S1 → Chg σ s S → (∀ x ∈ S1, x ∈ S ∨ σ.length < x) → cellsOf s σ.length = some m.cs → k2 s := by
    intro s S1 g1 g2 g3 g4
    have fin : ∀ s', Left s r S1 (R.take m) s' → K (.tup []) s' := fun s' hL => k s' (.trans g2 (fun x hx => by rcases g3 x hx with h | h; exact .inl h; right; omega) hL)
    have out1 : σ.length ∉ S1 := fun hi => by rcases g3 _ hi with h | h; exact out0 h; omega
    obtain ⟨lg1, cl1, cy1, cm1, hS1, g1'⟩ := id g1
    simp -zeta only [k2, nilV_p, faV_p, optP_some, Nat.zero_add, Nat.add_zero, ldV_at, g4, g1'.raft, ldC_some, mk0, mk3, mc0, rc1, rc1', inV, lss_i64, eql_i64, splitP_b, true_and]
    refine ⟨fun c0 => ?_, fun c0 => ?_⟩
    · have c0' : m.term < R1.term := by simpa using c0
      refine raft_late H.toOkP m g1 hok1 (by omega) fun s' hL => fin s' ?_
      rw [hdef, if_pos c0']; exact hL
    have c0' : ¬ m.term < R1.term := by simpa using c0
    rw [if_neg c0'] at hdef
    refine ⟨fun c3 => ?_, fun c3 => ?_⟩
    · have c3' : m.kind = 3 := by simpa using c3
      rw [if_pos c3'] at hdef
      -- the vote
      have hms : R1.out.msgs.length ≤ 68719476736 := by have := hok1.msgs; omega
      intro k28
      have hk28 : ((R1.vote = 0 ∨ R1.vote = m.frm) ∧ R1.lead = 0 ∧ R1.log.behind m.index m.logTerm = true) → k28 s := by
        intro hy
        rw [decide_eq_true hy] at hdef
        simp only [if_true] at hdef
        simp only [k28, splitP_b, forall_const, Bool.true_eq_false, false_implies, and_true, true_and, nilV_p, faV_p, optP_some, Nat.zero_add, Nat.add_zero, ldV_at, g4, ldC_some, mk1, storeV_at, g1'.raft, cells_n, inV, stC_some, rc_len, sp2, List.length_cons, List.length_nil, Nat.reduceAdd, Nat.reduceLeDiff, and_self, if_true, optW_some]
        have q1 := g1'.set (R' := { R1 with vote := m.frm }) rfl
        have q2 : RAt (s.set r (Ob.obj ({ R1 with vote := m.frm }.cells lg1 cy1 cm1))) r { R1 with vote := m.frm } S1 := hS1 ▸ q1.rat
        refine raft_stands H.toOkR 0 0 [] .nil (.inl rfl) q2 fun s2 hL2 => hL2.bind fun S2 q3 q4 q5 => ?_
        have nr : r ≠ σ.length := fun e => out1 (by rw [← e]; exact g1.mem)
        have q6 := q4.cells ((cellsOf_far nr).trans g4) out1
        obtain ⟨lg2, cl2, cy2, cm2, hS2, q3'⟩ := id q3
        simp only [q6, ldC_some, mk1, q3'.raft, rc1, rc1', optP_some, inV]
        refine optP_of (v := .agg [inV 4, inV 0, inV m.frm, inV R1.term, inV 0, inV 0, inV 0, .b true, .l 4 [] .nil, .l 1 [] .nil, .l 1 [] .nil]) rfl ?_
        refine raft_says' H.toOkS { Msg.blank with kind := 4, to := m.frm, term := R1.term, yes := true } ?_ q3 hms fun s' hL => fin s' ?_
        · exact .cons (.refl _) (.cons (.refl _) (.cons (.refl _) (.cons (.refl _) (.cons (.refl _) (.cons (.refl _) (.cons (.refl _) (.cons (.refl _) (.cons fg_nilE (.cons fg_nilI (.cons fg_nilB .nil))))))))))
        · rw [hdef]
          exact .trans ((Chg.set _ g1.mem).then q4) (fun x hx => by rcases q5 x hx with h | h; exact .inl h; right; simpa using h) hL
      clear_value k28
      intro k66
      have hk66 : ¬ ((R1.vote = 0 ∨ R1.vote = m.frm) ∧ R1.lead = 0 ∧ R1.log.behind m.index m.logTerm = true) → k66 s := by
        intro hy
        rw [decide_eq_false hy] at hdef
        simp only [Bool.false_eq_true, if_false] at hdef
        simp only [k66, splitP_b, forall_const, Bool.false_eq_true, false_implies, true_and, nilV_p, faV_p, optP_some, Nat.zero_add, Nat.add_zero, ldV_at, g4, ldC_some, mk1, g1'.raft, rc1, rc1', inV]
        refine optP_of (v := .agg [inV 4, inV 0, inV m.frm, inV R1.term, inV 0, inV 0, inV 0, .b false, .l 4 [] .nil, .l 1 [] .nil, .l 1 [] .nil]) rfl ?_
        refine raft_says' H.toOkS { Msg.blank with kind := 4, to := m.frm, term := R1.term, yes := false } ?_ g1 hms fun s' hL => fin s' ?_
        · exact .cons (.refl _) (.cons (.refl _) (.cons (.refl _) (.cons (.refl _) (.cons (.refl _) (.cons (.refl _) (.cons (.refl _) (.cons (.refl _) (.cons fg_nilE (.cons fg_nilI (.cons fg_nilB .nil))))))))))
        · rw [hdef]; exact hL
      clear_value k66
      have tail : (R1.vote = 0 ∨ R1.vote = m.frm) →
          (decide (R1.lead = 0) = true → optP (some (.p lg1 0)) s fun v126 s127 => ACalls E 49 [v126, inV m.index, inV m.logTerm] s fun v136 s137 => splitP v136 (k28 s137) (k66 s137)) ∧ (decide (R1.lead = 0) = false → k66 s) := by
        intro hv
        refine ⟨fun hl => ?_, fun hl => hk66 fun hh => (by simp [hh.2.1] at hl)⟩
        have hl' : R1.lead = 0 := by simpa using hl
        simp only [optP_some]
        refine log_behind H.toOkM m.index m.logTerm g1'.log hok1.log ?_
        simp only [splitP_b]
        refine ⟨fun hbh => hk28 ⟨hv, hl', hbh⟩, fun hbh => hk66 fun hh => ?_⟩
        have := hh.2.2
        unfold Log.behind at this
        rw [hbh] at this; cases this
      simp -zeta only [nilV_p, faV_p, optP_some, Nat.zero_add, Nat.add_zero, Nat.reduceAdd, ldV_at, g4, g1'.raft, ldC_some, mk1, mk4, mk5, rc2, rc4, rc5, inV, eql_i64, splitP_b, true_and]
      simp only [optP_some, inV] at tail
      refine ⟨fun hv => tail (.inl (by simpa using hv)), fun hv => ⟨fun hv2 => tail (.inr (by simpa using hv2)), fun hv2 => hk66 fun hh => ?_⟩⟩
      simp at hv hv2
      rcases hh.1 with h | h
      · exact hv h
      · exact hv2 h
    have c3' : ¬ m.kind = 3 := by simpa using c3
    rw [if_neg c3'] at hdef
    refine ⟨fun c4 => ?_, fun c4 => ?_⟩
    · have c4' : m.kind = 4 := by simpa using c4
      rw [if_pos c4'] at hdef
      intro k178
      have hk178 : ¬ (m.yes = true ∧ R1.role = 2) → k178 s := fun hn => by
        simp only [k178]
        refine fin s ?_
        rw [hdef, if_neg hn]; exact .self g1
      clear_value k178
      simp -zeta only [faV_p, optP_some, Nat.zero_add, ldV_at, g4, ldC_some, mk7, splitP_b]
      refine ⟨fun hy => ?_, fun hy => hk178 fun hh => (by rw [hy] at hh; cases hh.1)⟩
      simp -zeta only [nilV_p, faV_p, optP_some, Nat.zero_add, ldV_at, g1'.raft, ldC_some, rc3, inV, eql_i64, splitP_b]
      refine ⟨fun hro => ?_, fun hro => hk178 fun hh => (by simp [hh.2] at hro)⟩
      have hro' : R1.role = 2 := by simpa using hro
      rw [if_pos ⟨hy, hro'⟩] at hdef
      simp -zeta only [nilV_p, faV_p, optP_some, Nat.zero_add, ldV_at, g1'.raft, g4, ldC_some, rc11, mk1, inV, true_and]
      rw [mksV_one 1 (V.n .i64 m.frm) [V.n .i64 m.frm] rfl rfl (by omega)]
      simp -zeta only [optP_some]
      refine addYes hS1 g1' (by have := hok1.yes; omega) m.frm fun s2 hL2 => hL2.bind fun S2 q1 q2 q3 => ?_
      have hok2 := addYes_ok hok1 m.frm
      obtain ⟨lg2, cl2, cy2, cm2, hS2, q1'⟩ := id q1
      refine raft_most H.toOkM2 q1' hok2.log hok2.mem (by have := hok2.yes; omega) ?_
      simp -zeta only [splitP_b]
      refine ⟨fun hmo2 => ?_, fun hmo2 => fin s2 ?_⟩
      · refine raft_leads H.toOkS q1 hok2 (by omega) (hok1.lead (by rw [hro']; decide)) (mostOf_ne hmo2) fun s' hL => fin s' ?_
        rw [hdef, if_pos hmo2]; exact .trans q2 q3 hL
      · rw [hdef, if_neg (by simp [hmo2])]; exact ⟨S2, q1, q2, q3⟩
    have c4' : ¬ m.kind = 4 := by simpa using c4
    rw [if_neg c4'] at hdef
    intro k216
    have hk216 : (m.kind = 5 ∨ m.kind = 7) → k216 s := by
      intro h57
      rw [if_pos h57] at hdef
      simp -zeta only [k216, nilV_p, faV_p, optP_some, Nat.zero_add, ldV_at, g1'.raft, ldC_some, rc3, inV, neq_i64, splitP_b]
      refine ⟨fun hro => ?_, fun hro => fin s ?_⟩
      · have hro' : R1.role ≠ 3 := by simpa using hro
        rw [if_pos hro'] at hdef
        simp -zeta only [nilV_p, faV_p, optP_some, Nat.zero_add, Nat.add_zero, ldV_at, g1'.raft, g4, ldC_some, rc1, rc1', mk1, inV, true_and]
        refine raft_fallBack H.toOkR R1.term m.frm g1 fun s2 hL2 => hL2.bind fun S2 q1 q2 q3 => ?_
        have q4 := q2.cells g4 out1
        have q4' : cellsOf s2 (σ.length + 0) = some m.cs := q4
        simp -zeta only [ldV_at, q4, ldC_some, mc0, optP_some]
        refine raft_follows H.toOkF m q1 (fallBack_ok hok1 _ _ hok1.term.2) (by omega) (by rw [fallBack_role]; decide) (fine_same hm1 (fallBack_id _ _ _)) hmo fun s' hL => fin s' ?_
        rw [hdef]; exact .trans q2 q3 hL
      · rw [hdef, if_neg (by simpa using hro)]; exact .self g1
    clear_value k216
    refine ⟨fun c5 => hk216 (.inl (by simpa using c5)), fun c5 => ⟨fun c7 => hk216 (.inr (by simpa using c7)), fun c7 => ?_⟩⟩
    have c57 : ¬ (m.kind = 5 ∨ m.kind = 7) := by simp at c5 c7; simp [c5, c7]
    rw [if_neg c57] at hdef
    intro k248
    have hk248 : (m.kind = 6 ∨ m.kind = 8) → k248 s := by
      intro h68
      rw [if_pos h68] at hdef
      simp -zeta only [k248]
      intro k250
      have hk250 : ¬ (R1.role = 3 ∧ m.index ≤ R1.log.last) → k250 s := fun hn => by
        simp only [k250]
        refine fin s ?_
        rw [hdef, if_neg hn]; exact .self g1
      clear_value k250
      simp -zeta only [nilV_p, faV_p, optP_some, Nat.zero_add, ldV_at, g1'.raft, ldC_some, rc3, inV, eql_i64, splitP_b, true_and]
      refine ⟨fun hro => ?_, fun hro => hk250 fun hh => (by simp [hh.1] at hro)⟩
      have hro' : R1.role = 3 := by simpa using hro
      simp -zeta only [nilV_p, faV_p, optP_some, Nat.zero_add, ldV_at, g4, g1'.raft, ldC_some, mk4, rc5, true_and]
      refine log_last H.toOkL g1'.log hok1.log ?_
      simp -zeta only [g4, ldC_some, mk4, true_and, inV, leq_i64, optP_some, splitP_b]
      refine ⟨fun hle => ?_, fun hle => hk250 fun hh => ?_⟩
      · have hle' : m.index ≤ R1.log.last := by simpa using hle
        rw [if_pos ⟨hro', hle'⟩] at hdef
        simp -zeta only [ldV_at, g4, ldC_some, mc0, optP_some]
        refine raft_told H m g1 hok1 (by omega) hro' hm1 fun s' hL => fin s' ?_
        rw [hdef]; exact hL
      · have : ¬ m.index ≤ R1.log.last := by simpa using hle
        exact this hh.2
    clear_value k248
    refine ⟨fun c6 => hk248 (.inl (by simpa using c6)), fun c6 => ⟨fun c8 => hk248 (.inr (by simpa using c8)), fun c8 => fin s ?_⟩⟩
    have c68 : ¬ (m.kind = 6 ∨ m.kind = 8) := by simp at c6 c8; simp [c6, c8]
    rw [hdef, if_neg c68]; exact .self g1
  clear_value k2
  simp -zeta only [nilV_p, faV_p, optP_some, Nat.zero_add, Nat.add_zero, ldV_at, hmc, h1.raft, ldC_some, mk3, rc1, rc1', inV, gtr_i64, splitP_b, true_and]
  have hτl := cellsOf_lt hmc
  refine ⟨fun hg => ?_, fun hg => ?_⟩
  · have hg' : R.term < m.term := by simpa using hg
    refine raft_fallBack H.toOkR m.term 0 hA fun s hL => hL.bind fun S1 q1 q2 q3 => ?_
    rw [if_pos hg'] at hR1
    refine hk2 s S1 (hR1 ▸ q1) (hC.then q2) (fun x hx => ?_) (q2.cells hmc out0)
    rcases q3 x hx with h | h
    · exact .inl h
    · right; omega
  · have hg' : ¬ R.term < m.term := by simpa using hg
    rw [if_neg hg'] at hR1
    exact hk2 τ S (hR1 ▸ hA) hC (fun x hx => .inl hx) hmc
end Go.Ab
/-
  A node of the raft takes any message: the outer step.
-/
namespace Go.Ab

variable {E : Env}

theorem raft_take1 (H : OkU E) {s : St} {K : V → St → Prop} {r : Nat} {R : Raft} {S : List Nat} {m : Msg} {a b n : Nat} (hm : m.ok) (hok : R.Ok n) (hn : n + 10 ≤ 68719476736) (h : RAt s r R S) (ha : cellsOf s a = some [.p r 0]) (hb : cellsOf s b = some m.cs)
    (k : ∀ v s', Left s r S (R.takes m) s' → K v s') : ACalls E 26 [.p a 0, .p b 0] s K := by
  refine g_raft_Raft_Take_c1 H.take1 ?_
  unfold p_raft_Raft_Take_c1
  obtain ⟨lg, cl, cy, cm, hS0, h'⟩ := id h
  have p0 : partV [V.p r 0] 0 1 false = some (.p r 0) := rfl
  simp only [ldV_at, ha, hb, ldC_some, p0, mc0, optP_some, faV_p, Nat.zero_add, mk0]
  refine raft_odd H.toOkW m hm h' ?_
  simp only [splitP_b]
  refine ⟨fun ho => k _ s ?_, fun ho => ?_⟩
  · unfold Raft.takes; rw [if_pos ho]; exact .self h
  have ho' : ¬ R.odd m = true := by simp [ho]
  have hf := odd_false ho
  simp only [hb, ha, p0, ldC_some, mk0, mc0, optP_some, inV, eql_i64, splitP_b]
  refine ⟨fun h1 => ?_, fun h1 => ⟨fun h2 => ?_, fun h2 => ?_⟩⟩
  · have h1' : m.kind = 1 := by simpa using h1
    refine raft_pre H.toOkP m h hok (by omega) fun s' hL => k _ s' ?_
    unfold Raft.takes; rw [if_neg ho', if_pos h1']; exact hL
  · have h1' : ¬ m.kind = 1 := by simpa using h1
    have h2' : m.kind = 2 := by simpa using h2
    refine raft_preYes H.toOkP m h hok (by omega) hf fun s' hL => k _ s' ?_
    unfold Raft.takes; rw [if_neg ho', if_neg h1', if_pos h2']; exact hL
  · have h1' : ¬ m.kind = 1 := by simpa using h1
    have h2' : ¬ m.kind = 2 := by simpa using h2
    refine raft_take H m h hok (by omega) hf hm fun s' hL => k _ s' ?_
    unfold Raft.takes; rw [if_neg ho', if_neg h1', if_neg h2']; exact hL

theorem raft_Take (H : OkU E) {σ : St} {K : V → St → Prop} {r : Nat} {R : Raft} {S : List Nat} {m : Msg} {n : Nat} (hm : m.ok) (hok : R.Ok n) (hn : n + 10 ≤ 68719476736) (h : RAt σ r R S)
    (k : ∀ σ', Left σ r S (R.does fun R => R.takes m).1 σ' → K (R.does fun R => R.takes m).2.v σ') : ACalls E 9 [.p r 0, m.v] σ K :=
  raft_Take_of H.toOkO m (fun R => R.takes m) h (fun s a b K hs ha hb _ _ hk => raft_take1 H hm hok hn hs ha hb hk) k
end Go.Ab
/-
  RaftLate: the function answers true.
-/
namespace Go.Ab

variable {E : Env}

structure OkLate (E : Env) : Prop extends OkU E where
  rlate : chkF E.P E.m (E.m 3) c_strongroomlaw19_RaftLate = true

theorem late_takes {R : Raft} {m : Msg} (ht : m.term < R.term) (hr : R.role = 0) : (∃ x, R.takes m = R.says x) ∨ R.takes m = R := by
  unfold Raft.takes
  split
  · exact .inr rfl
  · split
    · exact .inl ⟨_, rfl⟩
    · split
      · unfold Raft.preYes
        rw [if_neg (by omega), if_neg (by rw [hr]; simp)]
        exact .inr rfl
      · have e : (if R.term < m.term then R.fallBack m.term 0 else R) = R := if_neg (by omega)
        unfold Raft.take
        simp only [e]
        rw [if_pos ht]
        unfold Raft.late
        split
        · exact .inl ⟨_, rfl⟩
        · split
          · exact .inl ⟨_, rfl⟩
          · exact .inr rfl

theorem late_does {R : Raft} {m : Msg} (ht : m.term < R.term) (hr : R.role = 0) (hz : R.out = Ready.zero) :
    ∃ y : Ready, (R.does fun R => R.takes m).2 = y ∧ (R.does fun R => R.takes m).1.stand = R.stand ∧ y.new = false ∧ y.first = 0 ∧ y.snap.index = 0 ∧ y.msgs.length ≤ 1 := by
  refine ⟨_, rfl, ?_⟩
  rcases late_takes ht hr with ⟨x, hx⟩ | hx
  · simp only [Raft.does, hx]
    refine ⟨rfl, ?_⟩
    simp [Raft.says, hz, Ready.zero]
  · simp only [Raft.does, hx]
    refine ⟨rfl, ?_⟩
    simp [hz, Ready.zero]

theorem law_RaftLate (H : OkLate E) {σ : St} {K : V → St → Prop} (n : Node) (m : Msg) (k : K (.b true) σ) : ACalls E 3 [n.v, m.v] σ K := by
  refine .same (g_strongroomlaw19_RaftLate H.rlate ?_)
  unfold p_strongroomlaw19_RaftLate
  have hbn : ∀ σ : St, boxV n.v σ = some (.p σ.length 0, σ ++ [.obj n.cs]) := fun _ => rfl
  have hbm : ∀ σ : St, boxV m.v σ = some (.p σ.length 0, σ ++ [.obj m.cs]) := fun _ => rfl
  simp -zeta only [hbn, hbm, optW_some, List.append_assoc, List.cons_append, List.nil_append, List.length_append, List.length_cons, List.length_nil, Nat.zero_add]
  refine law_shown H.toOkX ?_
  simp -zeta only [splitP_b, forall_const, Bool.true_eq_false, false_implies, and_true]
  have hA : cellsOf (σ ++ [Ob.obj n.cs, Ob.obj m.cs]) σ.length = some n.cs := by simp
  have hB : cellsOf (σ ++ [Ob.obj n.cs, Ob.obj m.cs]) (σ.length + 1) = some m.cs := by simp
  have pn : partV n.cs 0 10 true = some n.v := rfl
  have pn3 : partV n.cs 3 1 false = some (inV n.term) := rfl
  intro k6
  have hk6 : k6 (σ ++ [Ob.obj n.cs, Ob.obj m.cs]) := .app _ (.refl _) (.b _) k
  clear_value k6
  simp -zeta only [faV_p, ldV_at, hA, ldC_some, pn, pn3, optP_some, Nat.zero_add, Nat.add_zero, inV, lss_i64, gtr_i64, splitP_b]
  refine ⟨fun _ => hk6, fun h1 => ⟨fun _ => hk6, fun h2 => ?_⟩⟩
  have t1 : 1 ≤ n.term := by simp at h1; omega
  have t2 : n.term ≤ 1099511627776 := by simpa using h2
  refine law_made H.toOkI n fun σ1 r S1 hr1 hc1 hs1 => ?_
  generalize hR : n.raft = R at *
  have hok : R.Ok 12 := by rw [← hR]; exact n.raft_ok (by omega)
  have hz : R.out = Ready.zero := by rw [← hR]; rfl
  have hro : R.role = 0 := by rw [← hR]; rfl
  have htm : R.term = n.term := by rw [← hR]; simp only [Node.raft, Raft.new, clamp]; omega
  have hc0 : Chg σ σ1 [] := (Chg.app σ _ []).then hc1
  have hA1 := hc1.cells hA (by simp)
  have hB1 := hc1.cells hB (by simp)
  intro k28
  clear_value k28
  have e1 : ∀ l, binV .ptr .eql (.p l 0) .nilp = some (.b false) := fun _ => rfl
  simp -zeta only [e1, optP_some, splitP_b, Bool.false_eq_true, false_implies, true_and, forall_const, hB1, ldV_at, ldC_some, mc0]
  refine law_lent H.toOkI m ?_
  have hBlt := cellsOf_lt hB1
  generalize hm' : m.cut = m' at *
  have hmok : m'.ok := by rw [← hm']; exact cut_ok m
  simp -zeta only [storeV_at, hB1, cells_msg, stC_some, msg_len, Nat.zero_add, Nat.le_refl, and_self, if_true, optW_some, ms0]
  have hs1' : ∀ x ∈ S1, σ.length + 2 ≤ x := fun x hx => by have := hs1 x hx; simpa using this
  have hout : σ.length ∉ S1 ∧ σ.length + 1 ∉ S1 := ⟨fun h => by have := hs1' _ h; omega, fun h => by have := hs1' _ h; omega⟩
  have hA2 : cellsOf (σ1.set (σ.length + 1) (.obj m'.cs)) σ.length = some n.cs := by rw [cellsOf_far (by omega)]; exact hA1
  have hB2 : cellsOf (σ1.set (σ.length + 1) (.obj m'.cs)) (σ.length + 1) = some m'.cs := cellsOf_self hBlt
  obtain ⟨x, hx⟩ : ∃ x : Msg, x = { m' with term := n.term - 1 } := ⟨_, rfl⟩
  have hms : List.set m'.cs 3 (inV (n.term - 1)) = x.cs := by rw [hx]; rfl
  have hxok : x.ok := by rw [hx]; exact hmok
  simp -zeta only [hA2, ldC_some, pn3, optP_some, inV, sub_i64]
  rw [wrap64 (by omega) (by omega)]
  simp only [inV] at hms
  simp -zeta only [storeV_at, hB2, cells_n, stC_some, msg_len, Nat.zero_add, List.length_cons, List.length_nil, Nat.reduceAdd, Nat.reduceLeDiff, and_self, if_true, optW_some, splice_cons, splice_nil, hms, List.set_set]
  have hr2 : RAt (σ1.set (σ.length + 1) (.obj x.cs)) r R S1 := hr1.setL hout.2 _
  have hC2 : Chg σ (σ1.set (σ.length + 1) (.obj x.cs)) [] := hc0.trans (.set (S := [σ.length + 1]) _ (by simp)) fun x hx => by simp at hx; omega
  have hB3 : cellsOf (σ1.set (σ.length + 1) (.obj x.cs)) (σ.length + 1) = some x.cs := cellsOf_self hBlt
  generalize σ1.set (σ.length + 1) (.obj x.cs) = σ2 at *
  refine raft_stand H.toOkN hr2 hok ?_
  change optW (storeV (.p σ2.length 0) _ 8 (σ2 ++ [Ob.obj zeroStand])) _
  rw [storeStand]
  have hstl : R.stand.mem.length ≤ 1099511627776 := by have := (members_ok hok.mem).len; simp only [Raft.stand]; omega
  have hB4 := cellsOf_left hB3 [Ob.obj R.stand.cs]
  have hD4 : cellsOf (σ2 ++ [Ob.obj R.stand.cs]) σ2.length = some R.stand.cs := by simp
  have hr4 : RAt (σ2 ++ [Ob.obj R.stand.cs]) r R S1 := hr2.app _
  have hC4 : Chg σ (σ2 ++ [Ob.obj R.stand.cs]) [] := hC2.then (.app _ _ _)
  have hD : σ2.length ∉ S1 := fun h => by have := hr2.lt _ h; omega
  generalize σ2 ++ [Ob.obj R.stand.cs] = σ4 at *
  simp -zeta only [optW_some, hB4, ldC_some, mc0, optP_some]
  refine raft_Take H.toOkU hxok hok (by omega) hr4 fun σ5 hL => hL.bind fun S5 hr5 hC5 hS5 => ?_
  obtain ⟨y, hy, hys, y1, y2, y3, y4⟩ := late_does (R := R) (m := x) (by rw [hx]; simp only; omega) hro hz
  have hok5 : (R.does fun R => R.takes x).1.Ok 21 := does_ok (takes_ok hok (by omega) hxok)
  rw [hy]
  generalize (R.does fun R => R.takes x).1 = R5 at *
  change optW (storeV (.p σ5.length 0) _ 10 (σ5 ++ [Ob.obj zeroReady])) _
  rw [storeReady]
  have hD6 := cellsOf_left (hC5.cells hD4 hD) [Ob.obj (y.cs .may)]
  have hr6 : RAt (σ5 ++ [Ob.obj (y.cs .may)]) r R5 S5 := hr5.app _
  have hY6 : cellsOf (σ5 ++ [Ob.obj (y.cs .may)]) σ5.length = some (y.cs .may) := by simp
  have hC6 : Chg σ (σ5 ++ [Ob.obj (y.cs .may)]) [] := (hC4.trans hC5 fun x hx => .inr (by have := hs1' x hx; omega)).then (.app _ _ _)
  generalize σ5 ++ [Ob.obj (y.cs .may)] = σ6 at *
  simp -zeta only [optW_some, ldV_at, hD6, ldC_some, tc8, optP_some, true_and]
  refine raft_stand H.toOkN hr6 hok5 ?_
  rw [hys]
  simp -zeta only [hD6, ldC_some, tc8, optP_some, true_and]
  refine law_sameStand H.toOkX R.stand R.stand hstl ?_
  simp -zeta only [decide_true, splitP_b, forall_const, Bool.true_eq_false, false_implies, and_true, true_and]
  intro k70
  clear_value k70
  have p0 : partV (y.cs .may) 3 1 false = some (inV y.snap.index) := rfl
  simp -zeta only [faV_p, ldV_at, hY6, ldC_some, yc2, yc3, yc7, yc9, y1, y2, y3, Nat.zero_add, Nat.add_zero, optP_some, splitP_b, Bool.false_eq_true, false_implies, true_and, forall_const, inV, eql_i64, decide_true, Bool.true_eq_false, and_true, lenV_l, List.length_map, leq_i64]
  refine ⟨fun _ => ?_, fun h => ?_⟩
  · obtain ⟨xs, hxs⟩ := hC6.more
    rw [hxs]
    exact .app _ (.refl _) (.b _) k
  · simp at h; omega
end Go.Ab
/-
  RaftVotes: the function answers true.
-/
namespace Go.Ab

variable {E : Env}

structure OkV (E : Env) : Prop extends OkLate E where
  rvotes : chkF E.P E.m (E.m 2) c_strongroomlaw19_RaftVotes = true

def askV (t f i : Int) : Msg := ⟨3, f, 1, t, i, t - 1, 0, false, [], [], []⟩
structure VInv (t : Int) (R : Raft) (c : Int) : Prop where
  id : R.id = 1
  log : R.log = ⟨0, 0, []⟩
  lead : R.lead = 0
  out : R.out = Ready.zero
  st : (c = 0 ∧ R.term = 0 ∧ R.vote = 0) ∨ (2 ≤ c ∧ c ≤ 7 ∧ R.term = t ∧ R.vote = c)

theorem does_msgs (R : Raft) (F : Raft → Raft) : (R.does F).2.msgs = (F R).out.msgs := by
  simp only [Raft.does]; split <;> rfl

theorem votes_step {t : Int} {R : Raft} {c f i : Int} (h : VInv t R c) (ht : 1 ≤ t ∧ t ≤ 100) (hf : 2 ≤ f ∧ f ≤ 7) (hi : 0 ≤ i ∧ i ≤ 49) :
    ∃ y, (R.does fun R => R.takes (askV t f i)).2 = y ∧ VInv t (R.does fun R => R.takes (askV t f i)).1 (if c = 0 then f else c) ∧ y.msgs = [⟨4, 1, f, t, 0, 0, 0, decide (c = 0 ∨ c = f), [], [], []⟩] := by
  refine ⟨_, rfl, ?_⟩
  have hno : R.odd (askV t f i) = false := by
    unfold Raft.odd
    simp [askV, h.id]; omega
  have hb : (⟨0, 0, []⟩ : Log).behind i (t - 1) = true := by
    simp [Log.behind, Log.termOf, Log.last]; omega
  have hk : R.takes (askV t f i) = R.take (askV t f i) := by
    unfold Raft.takes; rw [if_neg (by simp [hno]), if_neg (by simp [askV]), if_neg (by simp [askV])]
  have key : ∀ R1 : Raft, (if R.term < (askV t f i).term then R.fallBack (askV t f i).term 0 else R) = R1 → R1.term = t → R1.lead = 0 → R1.log = ⟨0, 0, []⟩ → R1.id = 1 → R1.out = Ready.zero →
      R.take (askV t f i) = if R1.vote = 0 ∨ R1.vote = f then ({ R1 with vote := f }.stands 0 0 []).says { Msg.blank with kind := 4, to := f, term := t, yes := true } else R1.says { Msg.blank with kind := 4, to := f, term := t, yes := false } := by
    intro R1 h1 h2 h3 h4 h5 h6
    unfold Raft.take
    simp only [h1]
    have e1 : (askV t f i).term = t := rfl
    have e2 : (askV t f i).kind = 3 := rfl
    have e3 : (askV t f i).frm = f := rfl
    have e4 : (askV t f i).index = i := rfl
    have e5 : (askV t f i).logTerm = t - 1 := rfl
    rw [if_neg (by rw [e1, h2]; omega), if_pos e2]
    simp only [e3, e4, e5, h3, h4, hb, and_true]
    by_cases hv : R1.vote = 0 ∨ R1.vote = f
    · simp only [hv, decide_true, if_true]
      simp [Raft.stands, h2]
    · simp only [hv, decide_false, if_false, Bool.false_eq_true]
      simp [h2]
  rcases h.st with ⟨hc, h1, h2⟩ | ⟨hc1, hc2, h1, h2⟩
  · have e := key (R.fallBack t 0) (by rw [if_pos (by rw [h1]; simp [askV]; omega)]; rfl) (by unfold Raft.fallBack Raft.stands; simp only; rw [if_pos (by omega)]) rfl (by unfold Raft.fallBack Raft.stands; simp only; rw [if_pos (by omega)]; exact h.log)
      (by rw [fallBack_id]; exact h.id) (by unfold Raft.fallBack Raft.stands; simp only; rw [if_pos (by omega)]; exact h.out)
    have hv : (R.fallBack t 0).vote = 0 := by unfold Raft.fallBack Raft.stands; simp only; rw [if_pos (by omega)]
    rw [if_pos (.inl hv)] at e
    have F : (R.fallBack t 0).out = Ready.zero ∧ (R.fallBack t 0).id = 1 ∧ (R.fallBack t 0).log = ⟨0, 0, []⟩ ∧ (R.fallBack t 0).term = t :=
      ⟨by unfold Raft.fallBack Raft.stands; simp only; rw [if_pos (by omega)]; exact h.out, by rw [fallBack_id]; exact h.id, by unfold Raft.fallBack Raft.stands; simp only; rw [if_pos (by omega)]; exact h.log,
        by unfold Raft.fallBack Raft.stands; simp only; rw [if_pos (by omega)]⟩
    rw [does_msgs]
    simp only [hk, e, hc, if_true, true_or, decide_true]
    generalize R.fallBack t 0 = A at *
    refine ⟨⟨?_, ?_, ?_, rfl, .inr ⟨hf.1, hf.2, ?_, ?_⟩⟩, ?_⟩
    · simp only [Raft.does, hk, e]; exact F.2.1
    · simp only [Raft.does, hk, e]; exact F.2.2.1
    · simp only [Raft.does, hk, e]; rfl
    · simp only [Raft.does, hk, e]; exact F.2.2.2
    · simp only [Raft.does, hk, e]; rfl
    · simp [Raft.says, Raft.stands, Msg.blank, F.1, F.2.1, Ready.zero]
  · have e := key R (by rw [if_neg (by rw [h1]; simp [askV])]) h1 h.lead h.log h.id h.out
    rw [does_msgs]
    have hc0 : c ≠ 0 := by omega
    simp only [hk, e, if_neg hc0]
    by_cases hcf : c = f
    · have hv : R.vote = 0 ∨ R.vote = f := .inr (by omega)
      rw [if_pos hv] at e ⊢
      refine ⟨⟨?_, ?_, ?_, rfl, .inr ⟨hc1, hc2, ?_, ?_⟩⟩, ?_⟩
      · simp only [Raft.does, hk, e]; exact h.id
      · simp only [Raft.does, hk, e]; exact h.log
      · simp only [Raft.does, hk, e]; rfl
      · simp only [Raft.does, hk, e]; exact h1
      · simp only [Raft.does, hk, e]; exact hcf.symm
      · simp [Raft.says, Raft.stands, Msg.blank, h.out, h.id, Ready.zero, hcf]
    · have hv : ¬ (R.vote = 0 ∨ R.vote = f) := by omega
      rw [if_neg hv] at e ⊢
      refine ⟨⟨?_, ?_, ?_, rfl, .inr ⟨hc1, hc2, ?_, ?_⟩⟩, ?_⟩
      · simp only [Raft.does, hk, e]; exact h.id
      · simp only [Raft.does, hk, e]; exact h.log
      · simp only [Raft.does, hk, e]; exact h.lead
      · simp only [Raft.does, hk, e]; exact h1
      · simp only [Raft.does, hk, e]; exact h2
      · simp [Raft.says, Msg.blank, h.out, h.id, Ready.zero, hcf, hc0]
def raftV : Raft := Raft.new 1 [1, 2, 3, 4, 5, 6, 7] 0 0 ⟨0, 0, [], []⟩ [] 10
theorem raftV_inv (t : Int) : VInv t raftV 0 := ⟨rfl, rfl, rfl, rfl, .inl ⟨rfl, rfl, rfl⟩⟩
theorem raftV_ok : raftV.Ok 12 := new_ok _ _ _ _ _ _ _ (by simp) ⟨by simp, by simp⟩ (by simp)

def kindOf (c n : Int) : Int := (if c < 0 then -(c + 1) else c).tmod n
theorem kindOf_range {c n : Int} (hn : 0 < n) : 0 ≤ kindOf c n ∧ kindOf c n < n := by
  unfold kindOf
  have h : 0 ≤ (if c < 0 then -(c + 1) else c) := by split <;> omega
  rw [Int.tmod_eq_emod_of_nonneg h]
  exact ⟨Int.emod_nonneg _ (by omega), Int.emod_lt_of_pos _ hn⟩

abbrev I64 (x : Int) : Prop := -9223372036854775808 ≤ x ∧ x < 9223372036854775808

theorem law_RaftVotes (H : OkV E) {σ : St} {K : V → St → Prop} (term : Int) (who : List Int) (hterm : I64 term) (hwho : ∀ x ∈ who, I64 x) (k : K (.b true) σ) : ACalls E 2 [inV term, intsV who] σ K := by
  refine .same (g_strongroomlaw19_RaftVotes H.rvotes ?_)
  unfold p_strongroomlaw19_RaftVotes
  refine law_shown H.toOkX ?_
  simp -zeta only [splitP_b, forall_const, Bool.true_eq_false, false_implies, and_true]
  refine law_kind H.toOkX term 100 hterm.1 hterm.2 (by decide) ?_
  have hkt := kindOf_range (c := term) (n := 100) (by omega)
  obtain ⟨t, ht⟩ : ∃ t, t = 1 + kindOf term 100 := ⟨_, rfl⟩
  have ht1 : 1 ≤ t ∧ t ≤ 100 := by omega
  have m7 : mksV 1 [V.n .i64 1, .n .i64 2, .n .i64 3, .n .i64 4, .n .i64 5, .n .i64 6, .n .i64 7] = some (.l 1 ([1, 2, 3, 4, 5, 6, 7].map inV) .full) := by simp [mksV]
  have hk0 : (if term < 0 then -(term + 1) else term).tmod 100 = kindOf term 100 := rfl
  simp -zeta only [inV, add_i64, optP_some, hk0]
  rw [← ht, wrap64 (by omega) (by omega)]
  simp -zeta only [m7, optP_some]
  refine optP_of (v := .agg [inV 0, inV 0]) rfl ?_
  refine optP_of (v := .agg [inV 0, inV 0, .l 1 [] .nil, .l 1 [] .nil]) rfl ?_
  have fgz : FgV E.m (.agg [inV 0, inV 0, .l 1 [] .nil, .l 1 [] .nil]) (Snap.v ⟨0, 0, [], []⟩) := .agg (.cons (.refl _) (.cons (.refl _) (.cons fg_nilI (.cons fg_nilB .nil))))
  refine .args (.cons (.refl _) (.cons (.may _ _ _) (.cons (.refl _) (.cons fgz (.cons fg_nilE (.cons (.refl _) .nil)))))) ?_
  refine raft_new H.toOkN 1 [1, 2, 3, 4, 5, 6, 7] 0 0 ⟨0, 0, [], []⟩ [] 10 ⟨by simp, by simp⟩ (by simp) ⟨by simp, by simp⟩ fun σ1 r S1 hr1 hc1 hs1 => ?_
  intro k14
  clear_value k14
  have e1 : ∀ l, binV .ptr .eql (.p l 0) .nilp = some (.b false) := fun _ => rfl
  simp -zeta only [e1, optP_some, splitP_b, Bool.false_eq_true, false_implies, true_and, forall_const, Bool.true_eq_false, and_true]
  refine ⟨fun w vs s => ∃ (j : Nat) (c : Int) (R : Raft) (S : List Nat), vs = [inV c, inV j] ∧ j ≤ 30 ∧ w = 30 - j ∧ VInv t R c ∧ (0 < j → c ≠ 0) ∧ R.Ok (12 + 9 * j) ∧ RAt s r R S ∧ Chg σ s [] ∧ (∀ x ∈ S, σ.length ≤ x),
    ⟨_, 0, 0, raftV, S1, rfl, by omega, rfl, raftV_inv t, by omega, raftV_ok, hr1, hc1, hs1⟩, ?_⟩
  rintro w x21 x22 s ⟨j, c, R, S, hvs, hj, hw, hI, hjc, hok, hr, hC, hS⟩
  simp only [List.cons.injEq, and_true] at hvs
  obtain ⟨rfl, rfl⟩ := hvs
  intro k24
  have hk24 : (who.length ≤ j ∨ 30 ≤ j) → k24 s := by
    intro hend
    simp -zeta only [k24]
    refine raft_stand H.toOkN hr hok ?_
    change optW (storeV (.p s.length 0) _ 8 (s ++ [Ob.obj zeroStand])) _
    rw [storeStand]
    have hD : cellsOf (s ++ [Ob.obj R.stand.cs]) s.length = some R.stand.cs := by simp
    have hC2 : Chg σ (s ++ [Ob.obj R.stand.cs]) [] := hC.then (.app _ _ _)
    simp -zeta only [optW_some]
    generalize s ++ [Ob.obj R.stand.cs] = s2 at *
    intro k32
    have hk32 : k32 s2 := by
      simp only [k32]
      obtain ⟨xs, hxs⟩ := hC2.more
      rw [hxs]
      exact .app _ (.refl _) (.b _) k
    clear_value k32
    intro k34
    clear_value k34
    have hv : R.stand.vote = c := by
      rcases hI.st with ⟨h1, h2, h3⟩ | ⟨h1, h2, h3, h4⟩
      · show R.vote = c; omega
      · exact h4
    simp -zeta only [faV_p, optP_some, Nat.zero_add, ldV_at, hD, ldC_some, tc2, tc3, hv, inV, eql_i64, neq_i64, decide_true, splitP_b, forall_const, Bool.true_eq_false, false_implies, and_true, lenV_ints]
    refine ⟨fun _ => hk32, fun hl => ?_⟩
    have hl' : who.length ≠ 0 := by simpa using hl
    have hc0 : c ≠ 0 := hjc (by omega)
    have hst : R.stand.term = t := by
      rcases hI.st with ⟨h1, -, -⟩ | ⟨h1, h2, h3, h4⟩
      · exact absurd h1 hc0
      · exact h3
    simp [hc0, hst]
    exact hk32
  clear_value k24
  simp -zeta only [lenV_ints, optP_some, inV, lss_i64, splitP_b]
  refine ⟨fun hlt => ⟨fun hlt2 => ?_, fun hge => hk24 (.inr (by simp at hge; omega))⟩, fun hge => hk24 (.inl (by simpa using hge))⟩
  have hj1 : j < who.length := by simpa using hlt
  have hj2 : j < 30 := by simp at hlt2; omega
  intro k60
  have hk60 : ∀ (s' : St) (c' : Int) (R' : Raft) (S' : List Nat), VInv t R' c' → c' ≠ 0 → R'.Ok (12 + 9 * (j + 1)) → RAt s' r R' S' → Chg σ s' [] → (∀ x ∈ S', σ.length ≤ x) → k60 (inV c') s' := by
    intro s' c' R' S' g1 g2 g3 g4 g5 g6
    simp only [k60, inV, add_i64, optP_some]
    rw [wrap64 (by omega) (by omega)]
    exact ⟨30 - (j + 1), by omega, j + 1, c', R', S', by push_cast; rfl, by omega, rfl, g1, fun _ => g2, g3, g4, g5, g6⟩
  clear_value k60
  obtain ⟨p, hp1, hp2⟩ := (sees_ints who .may s).2 j hj1
  have hp1' : iasV (intsV who) (.n .i64 (j : Int)) 1 = some p := hp1
  have hx := hwho (who[j]) (by simp)
  generalize who[j] = x at *
  simp -zeta only [hp1', hp2, optP_some]
  refine law_kind H.toOkX x 6 hx.1 hx.2 (by decide) ?_
  have hkf := kindOf_range (c := x) (n := 6) (by omega)
  have hki := kindOf_range (c := x) (n := 50) (by omega)
  have hk1 : (if x < 0 then -(x + 1) else x).tmod 6 = kindOf x 6 := rfl
  have hk2 : (if x < 0 then -(x + 1) else x).tmod 50 = kindOf x 50 := rfl
  obtain ⟨f, hf⟩ : ∃ f, f = 2 + kindOf x 6 := ⟨_, rfl⟩
  simp -zeta only [inV, add_i64, optP_some, hk1]
  rw [← hf, wrap64 (by omega) (by omega)]
  simp -zeta only [hp1', hp2, optP_some]
  refine law_kind H.toOkX x 50 hx.1 hx.2 (by decide) ?_
  simp -zeta only [inV, sub_i64, optP_some, hk2]
  rw [wrap64 (by omega) (by omega)]
  generalize hi : kindOf x 50 = i at *
  refine optP_of (v := .agg [inV 3, inV f, inV 1, inV t, inV i, inV (t - 1), inV 0, .b false, .l 4 [] .nil, .l 1 [] .nil, .l 1 [] .nil]) rfl ?_
  have hfg : FgV E.m (.agg [inV 3, inV f, inV 1, inV t, inV i, inV (t - 1), inV 0, .b false, .l 4 [] .nil, .l 1 [] .nil, .l 1 [] .nil]) (askV t f i).v :=
    .agg (.cons (.refl _) (.cons (.refl _) (.cons (.refl _) (.cons (.refl _) (.cons (.refl _) (.cons (.refl _) (.cons (.refl _) (.cons (.refl _) (.cons fg_nilE (.cons fg_nilI (.cons fg_nilB .nil)))))))))))
  have hmok : (askV t f i).ok := ⟨⟨by simp [askV], by simp [askV]⟩, by simp [askV], by simp [askV]⟩
  refine .args (.cons (.refl _) (.cons hfg .nil)) ?_
  refine raft_Take H.toOkU hmok hok (by omega) hr fun s1 hL => hL.bind fun T hT hC1 hTs => ?_
  obtain ⟨y, hy, hI', hms⟩ := votes_step (f := f) (i := i) hI ht1 (by omega) (by omega)
  have hok' : (R.does fun R => R.takes (askV t f i)).1.Ok (12 + 9 * (j + 1)) := (does_ok (takes_ok hok (by omega) hmok)).mono (by omega)
  rw [hy]
  generalize (R.does fun R => R.takes (askV t f i)).1 = R' at *
  change optW (storeV (.p s1.length 0) _ 10 (s1 ++ [Ob.obj zeroReady])) _
  rw [storeReady]
  have hY : cellsOf (s1 ++ [Ob.obj (y.cs .may)]) s1.length = some (y.cs .may) := by simp
  have hT2 : RAt (s1 ++ [Ob.obj (y.cs .may)]) r R' T := hT.app _
  have hC2 : Chg σ (s1 ++ [Ob.obj (y.cs .may)]) [] := (hC.trans hC1 fun x hx => .inr (hS x hx)).then (.app _ _ _)
  have hS2 : ∀ x ∈ T, σ.length ≤ x := fun x hx => by
    rcases hTs x hx with h | h
    · exact hS x h
    · have := hC.1; omega
  simp -zeta only [optW_some]
  generalize s1 ++ [Ob.obj (y.cs .may)] = s2 at *
  intro k89
  clear_value k89
  have i0 : ∀ (a : V) (c : Cap), iasV (.l 11 [a] c) (.n .i64 0) 11 = some (.ep a) := fun _ _ => rfl
  have t1 : (((1 : Nat) : Int) = 1) := rfl
  simp -zeta only [faV_p, optP_some, ldV_at, hY, ldC_some, Nat.zero_add, yc9, hms, List.map_cons, List.map_nil, lenV_l, List.length_cons, List.length_nil, t1, i0, faV_msg, mk0, mk2, mk3, mk7, Option.map_some, ldV_ep, heldV_n, heldV_b, inV, neq_i64, decide_true, Bool.not_true, splitP_b, Bool.false_eq_true, false_implies, forall_const, true_and]
  refine ⟨fun hyes => ?_, fun hno => ?_⟩
  · have hyes' : c = 0 ∨ c = f := by simpa using hyes
    intro k145
    have hcf : (if c = 0 then f else c) = f := by
      rcases hyes' with h | h
      · rw [if_pos h]
      · split
        · rfl
        · exact h
    have hk145 : k145 s2 := hk60 s2 f R' T (hcf ▸ hI') (by omega) hok' hT2 hC2 hS2
    clear_value k145
    refine ⟨fun h0 => ⟨fun hne => ?_, fun _ => hk145⟩, fun _ => hk145⟩
    simp at h0 hne; omega
  · have hno' : ¬ (c = 0 ∨ c = f) := by simpa using hno
    have hc0 : c ≠ 0 := fun h => hno' (.inl h)
    rw [if_neg hc0] at hI'
    exact hk60 s2 c R' T hI' hc0 hok' hT2 hC2 hS2
end Go.Ab
/-
  A node of the raft: something is proposed to it.
-/
namespace Go.Ab

variable {E : Env}

structure OkPr (E : Env) : Prop extends OkV E where
  Propose : chkF E.P E.m (E.m 14) c_raft_Raft_Propose = true
  propose1 : chkF E.P E.m (E.m 40) c_raft_Raft_Propose_c1 = true

/-- .., a local of the caller's being changed, too. -/
def Left2 (σ : St) (r : Nat) (S X : List Nat) (R : Raft) (σ' : St) : Prop := ∃ S', RAt σ' r R S' ∧ Chg σ σ' (X ++ S) ∧ ∀ x ∈ S', x ∈ S ∨ σ.length ≤ x

theorem raft_does2 (H : OkT E) {σ : St} {K : V → St → Prop} {r : Nat} {R : Raft} {S : List Nat} {fv : V} {l : Nat} {lcs : List V} (F : Raft → Raft) (h : RAt σ r R S) (hl : l < σ.length) (hlS : l ∉ S)
    (hcall : ∀ (xs : St) (K : V → St → Prop), (∀ v s', Left2 (σ ++ xs) r S [l] (F R) s' → cellsOf s' l = some lcs → K v s') → callV E fv [] (σ ++ xs) K)
    (k : ∀ σ', Left2 σ r S [l] (R.does F).1 σ' → cellsOf σ' l = some lcs → K (R.does F).2.v σ') : ACalls E 25 [.p r 0, fv] σ K := by
  refine .post (K := fun v s => ∃ o cm s0 S' lg cl cy, v = .agg (o.cs cm) ∧ o = (R.does F).2 ∧ s = s0.set r (.obj (splice ((F R).cells lg cy cm) 30 zeroReady)) ∧ At s0 r (F R) lg cl cy cm ∧ S' = r :: lg :: (cl.toks ++ cy.toks ++ cm.toks) ∧ Chg σ s0 ([l] ++ S) ∧ (∀ x ∈ S', x ∈ S ∨ σ.length ≤ x) ∧ cellsOf s0 l = some lcs) ?_ ?_
  · refine g_raft_Raft_does H.does ?_
    unfold p_raft_Raft_does
    have hx := h.lt
    have hrS := h.mem
    have out0 : σ.length ∉ S := fun hi => by have := hx _ hi; omega
    have out1 : σ.length + 1 ∉ S := fun hi => by have := hx _ hi; omega
    obtain ⟨lg, cl, cy, cm, hS0, h'⟩ := id h
    have hr : ∀ xs, cellsOf (σ ++ xs) r = some (R.cells lg cy cm) := fun xs => cellsOf_left h'.raft xs
    simp -zeta only [allocW_eq, optW_some, nilV_p, faV_p, optP_some, ldV_at, hr, ldC_some, Nat.zero_add, Nat.add_zero, rc1', List.append_assoc, List.cons_append, List.nil_append]
    have hst : storeV (.p (σ ++ [Ob.obj zeroReady]).length 0) (.agg [inV R.term, inV R.vote]) 2 (σ ++ [Ob.obj zeroReady, Ob.obj [.n .i64 0, .n .i64 0]]) = some (.u, σ ++ [Ob.obj zeroReady, Ob.obj [inV R.term, inV R.vote]]) := by
      simp [storeV_at]
    simp only [zeroReady] at hst
    simp -zeta only [hst, optW_some]
    refine hcall _ _ fun v s ⟨S', hA, hC, hS⟩ hlc => ?_
    obtain ⟨lg', cl', cy', cm', hS0', hA'⟩ := id hA
    have c0 : cellsOf s σ.length = some zeroReady := hC.cells (by simp [zeroReady]) (by simp only [List.mem_append, List.mem_singleton, not_or]; exact ⟨by omega, out0⟩)
    have c1 : cellsOf s (σ.length + 1) = some [inV R.term, inV R.vote] := hC.cells (by simp) (by simp only [List.mem_append, List.mem_singleton, not_or]; exact ⟨by omega, out1⟩)
    have hlt := cellsOf_lt hA'.raft
    have l0 := cellsOf_lt c0
    have l1 := cellsOf_lt c1
    have ne0 : r ≠ σ.length := fun e => by rw [e] at hrS; exact out0 hrS
    have ne1 : r ≠ σ.length + 1 := fun e => by rw [e] at hrS; exact out1 hrS
    simp -zeta only [hA'.raft, ldC_some, rc30, optP_some]
    have hst2 : storeV (.p s.length 0) (.agg ((F R).out.cs cm')) 10 (s ++ [Ob.obj zeroReady]) = some (.u, s ++ [Ob.obj ((F R).out.cs cm')]) := by
      simp [storeV_at, zeroReady]
      rfl
    simp only [zeroReady] at hst2
    simp -zeta only [hst2, optW_some]
    refine optP_of (v := .agg zeroReady) rfl ?_
    have hr2 : ∀ xs, cellsOf (s ++ xs) r = some ((F R).cells lg' cy' cm') := fun xs => cellsOf_left hA'.raft xs
    have hst3 : storeV (.p r 30) (.agg zeroReady) 10 (s ++ [Ob.obj ((F R).out.cs cm')]) = some (.u, s.set r (.obj (splice ((F R).cells lg' cy' cm') 30 zeroReady)) ++ [Ob.obj ((F R).out.cs cm')]) := by
      rw [storeV_at, hr2, cells_agg, stC_some, if_pos ⟨rfl, by simp⟩, set_near hlt]
    simp -zeta only [hst3, optW_some]
    generalize hcs : splice ((F R).cells lg' cy' cm') 30 zeroReady = cs
    have hcs1 : partV cs 1 2 true = some (.agg [inV (F R).term, inV (F R).vote]) := by rw [← hcs]; rfl
    have q0 : ∀ xs, cellsOf (s.set r (.obj cs) ++ xs) r = some cs := fun xs => by rw [cellsOf_near (by simpa using hlt)]; exact cellsOf_self hlt
    have q1 : ∀ xs, cellsOf (s.set r (.obj cs) ++ xs) (σ.length + 1) = some [inV R.term, inV R.vote] := fun xs => by rw [cellsOf_near (by simpa using l1), cellsOf_far ne1]; exact c1
    have q2 : ∀ xs, cellsOf (s.set r (.obj cs) ++ xs) σ.length = some zeroReady := fun xs => by rw [cellsOf_near (by simpa using l0), cellsOf_far ne0]; exact c0
    have hC2 : Chg σ s ([l] ++ S) := (Chg.app σ _ _).then hC
    have hS2 : ∀ x ∈ S', x ∈ S ∨ σ.length ≤ x := fun x hx => by
      rcases hS x hx with h | h
      · exact .inl h
      · right; simp at h; omega
    intro k32
    have hk32 : ∀ o, o = (R.does F).2 → k32 (s.set r (.obj cs) ++ [.obj (o.cs cm')]) := by
      intro o ho
      simp only [k32]
      have e1 : ldC 0 10 true (cellsOf (s.set r (.obj cs) ++ [.obj (o.cs cm')]) s.length) = some (.agg (o.cs cm')) := by
        rw [cellsOf_rightS0]; rfl
      have e2 : storeV (.p σ.length 0) (.agg (o.cs cm')) 10 (s.set r (.obj cs) ++ [.obj (o.cs cm')]) = some (.u, (s.set σ.length (Ob.obj (o.cs cm')) ++ [Ob.obj (o.cs cm')]).set r (Ob.obj cs)) := by
        have hsp : splice zeroReady 0 (o.cs cm') = o.cs cm' := rfl
        rw [storeV_at, q2, cells_agg, stC_some, if_pos ⟨rfl, by simp [zeroReady]⟩, set_near (by simpa using l0), set_near (by simpa using hlt), hsp, List.set_comm _ _ ne0]
      simp only [e1, e2, optP_some, optW_some]
      have hA3 : At (s.set σ.length (.obj (o.cs cm')) ++ [.obj (o.cs cm')]) r (F R) lg' cl' cy' cm' := by
        have hout : σ.length ∉ S' := fun hi => by
          rcases hS _ hi with h | h
          · exact out0 h
          · simp at h; omega
        refine (hA'.frame (Chg.set (S := [σ.length]) (Ob.obj (o.cs cm')) (by simp)) fun x hx hx' => ?_).app [Ob.obj (o.cs cm')]
        obtain rfl : x = σ.length := by simpa using hx'
        exact hout (hS0' ▸ hx)
      have e3 : ldC 0 10 true (cellsOf ((s.set σ.length (Ob.obj (o.cs cm')) ++ [Ob.obj (o.cs cm')]).set r (Ob.obj cs)) σ.length) = some (.agg (o.cs cm')) := by
        rw [cellsOf_far ne0, cellsOf_near (by simpa using l0), cellsOf_self l0]; rfl
      simp only [e3, optP_some]
      refine ⟨o, cm', _, S', lg', cl', cy', rfl, ho, by rw [hcs], hA3, by rw [hS0']; simp, ?_, hS2, ?_⟩
      · refine hC2.trans ((Chg.set (S := [σ.length]) _ (by simp)).then (.app _ _ _)) fun x hx => ?_
        simp at hx; right; omega
      · refine cellsOf_left ?_ _
        rw [cellsOf_far (by omega)]; exact hlc
    clear_value k32
    simp -zeta only [List.length_append, List.length_cons, List.length_nil, Nat.zero_add, q0, q1, ldC_some, hcs1, optP_some, true_and]
    have hp2 : partV [inV R.term, inV R.vote] 0 2 true = some (.agg [inV R.term, inV R.vote]) := rfl
    simp -zeta only [hp2, optP_some, true_and]
    have hb : binV .ints .neq (.agg [inV (F R).term, inV (F R).vote]) (.agg [inV R.term, inV R.vote]) = some (.b (!(decide ((F R).term = R.term) && decide ((F R).vote = R.vote)))) := rfl
    simp -zeta only [hb, optP_some, splitP_b]
    refine ⟨fun hne => ?_, fun he => ?_⟩
    · obtain ⟨o1, ho1⟩ : ∃ o : Ready, o = { (F R).out with new := true } := ⟨_, rfl⟩
      obtain ⟨o2, ho2⟩ : ∃ o : Ready, o = { (F R).out with new := true, term := (F R).term, vote := (F R).vote } := ⟨_, rfl⟩
      have e4 : storeV (.p s.length 2) (.b true) 1 (s.set r (.obj cs) ++ [Ob.obj ((F R).out.cs cm')]) = some (.u, s.set r (.obj cs) ++ [Ob.obj (o1.cs cm')]) := by
        rw [storeV_at, cellsOf_rightS0, ho1]; simp [Ready.cs]
      simp -zeta only [e4, optW_some, q0, ldC_some, hcs1, optP_some, true_and]
      have e5 : storeV (.p s.length 0) (.agg [inV (F R).term, inV (F R).vote]) 2 (s.set r (.obj cs) ++ [Ob.obj (o1.cs cm')]) = some (.u, s.set r (.obj cs) ++ [Ob.obj (o2.cs cm')]) := by
        rw [storeV_at, cellsOf_rightS0, ho1, ho2]; simp [Ready.cs]
      simp -zeta only [e5, optW_some]
      refine hk32 _ ?_
      have : ¬ ((F R).term = R.term ∧ (F R).vote = R.vote) := by
        rintro ⟨h1, h2⟩; simp [h1, h2] at hne
      simp only [Raft.does]; rw [if_neg this, ho2]
    · refine hk32 _ ?_
      have : (F R).term = R.term ∧ (F R).vote = R.vote := by simpa using he
      simp only [Raft.does]; rw [if_pos this]
  · rintro v s ⟨o, cm, s0, S', lg, cl, cy, rfl, ho, rfl, hA, hS', hC, hS, hlc⟩
    have hlt := cellsOf_lt hA.raft
    have hc : cellsOf (s0.set r (.obj (splice ((F R).cells lg cy cm) 30 zeroReady))) r = some (splice ((F R).cells lg cy cm) 30 zeroReady) := cellsOf_self hlt
    refine ⟨o.v, _, .trans (.fg (.cons (.agg (fg_ready o cm)) .nil) _) (Gh.obj hc (fg_zero (F R) lg cy cm) _), ?_⟩
    rw [ho, set_obj_same]
    refine k _ ⟨_, hA.none.rat, hC.then (.set _ (List.mem_append_right _ h.mem)), fun x hx => hS x ?_⟩ ((cellsOf_far (fun e => hlS (by rw [← e]; exact h.mem))).trans hlc)
    rw [hS']
    simp [Cap.toks] at hx ⊢
    rcases hx with h | h | h | h <;> simp [h]


/-- Why an entry may not be laid down; mc: the same, for a change of the members. -/
def Raft.propErr (R : Raft) (x : Ent) (mc : Int) : Int :=
  if R.role ≠ 3 then 190
  else if x.kind ≠ 1 ∧ x.kind ≠ 2 then 1
  else if entErr { x with term := R.term } ≠ 0 then entErr { x with term := R.term }
  else if 64 ≤ R.log.last - (R.log.index + 1) + 1 then 191
  else if x.kind = 2 then mc else 0

def Raft.proposed (R : Raft) (x : Ent) (mc : Int) : Raft × Ready × Int × Int :=
  if R.propErr x mc ≠ 0 then (R, Ready.zero, 0, R.propErr x mc)
  else ((R.does fun R => R.lays { x with term := R.term }).1, (R.does fun R => R.lays { x with term := R.term }).2, R.log.last + 1, 0)

theorem raft_Propose (H : OkPr E) {σ : St} {K : V → St → Prop} {r : Nat} {R : Raft} {S : List Nat} {b : Nat} (x : Ent) (mc : Int) (hx : x.ok) (h : RAt σ r R S) (hok : R.Ok b) (hb : b + 8 ≤ 68719476736)
    (hmc : R.role = 3 → x.kind = 2 → entErr { x with term := R.term } = 0 → ∀ (s : St) (K : V → St → Prop), RAt s r R S → K (inV mc) s → ACalls E 39 [.p r 0, intsV x.mem] s K)
    (k : ∀ σ', Left σ r S (R.proposed x mc).1 σ' → K (.tup [inV (R.proposed x mc).2.2.1, (R.proposed x mc).2.1.v, inV (R.proposed x mc).2.2.2]) σ') : ACalls E 14 [.p r 0, x.v] σ K := by
  refine .post (K := fun v s => ∃ i y cs e, v = .tup [inV i, .agg cs, inV e] ∧ FgP E.m cs (Ready.cs y .may) ∧ i = (R.proposed x mc).2.2.1 ∧ y = (R.proposed x mc).2.1 ∧ e = (R.proposed x mc).2.2.2 ∧ Left σ r S (R.proposed x mc).1 s) ?_ ?_
  · refine g_raft_Raft_Propose H.Propose ?_
    unfold p_raft_Raft_Propose
    have hbx : ∀ σ : St, boxV x.v σ = some (.p σ.length 0, σ ++ [.obj [inV x.term, inV x.kind, bytesV x.data, intsV x.mem]]) := fun _ => rfl
    obtain ⟨x', hx'⟩ : ∃ x' : Ent, x' = { x with term := R.term } := ⟨_, rfl⟩
    obtain ⟨lg, cl, cy, cm, hS0, h'⟩ := id h
    have hxl := h.lt
    have out : ∀ i, σ.length + i ∉ S := fun i hi => by have := hxl _ hi; omega
    have out0 : σ.length ∉ S := out 0
    simp -zeta only [boxV_p, hbx, optW_some, allocW_eq, List.append_assoc, List.cons_append, List.nil_append, List.length_append, List.length_cons, List.length_nil, Nat.zero_add, ldV_at, cellsOf_right0, cellsOf_cons0, ldC_some]
    have p0 : partV [V.p r 0] 0 1 false = some (.p r 0) := rfl
    have hr1 : ∀ xs, cellsOf (σ ++ xs) r = some (R.cells lg cy cm) := fun xs => cellsOf_left h'.raft xs
    have e1 : storeV (.p (σ.length + 1) 0) (inV R.term) 1 (σ ++ [Ob.obj [V.p r 0], Ob.obj [inV x.term, inV x.kind, bytesV x.data, intsV x.mem], Ob.obj [.n .i64 0, .n .i64 0, .b false, .n .i64 0, .n .i64 0, .l 1 [] .nil, .l 1 [] .nil, .n .i64 0, .l 4 [] .nil, .l 11 [] .nil]]) = some (.u, σ ++ [Ob.obj [V.p r 0], Ob.obj [inV x'.term, inV x'.kind, bytesV x'.data, intsV x'.mem], Ob.obj zeroReady]) := by
      rw [storeV_at, cellsOf_right]; simp [hx', zeroReady]
    simp -zeta only [p0, optP_some, nilV_p, faV_p, Nat.add_zero, ldV_at, hr1, ldC_some, rc1, rc1']
    simp -zeta only [e1, optW_some]
    have c0 : cellsOf (σ ++ [Ob.obj [V.p r 0], Ob.obj [inV x'.term, inV x'.kind, bytesV x'.data, intsV x'.mem], Ob.obj zeroReady]) σ.length = some [.p r 0] := by simp
    have c1 : cellsOf (σ ++ [Ob.obj [V.p r 0], Ob.obj [inV x'.term, inV x'.kind, bytesV x'.data, intsV x'.mem], Ob.obj zeroReady]) (σ.length + 1) = some [inV x'.term, inV x'.kind, bytesV x'.data, intsV x'.mem] := by simp
    have c2 : cellsOf (σ ++ [Ob.obj [V.p r 0], Ob.obj [inV x'.term, inV x'.kind, bytesV x'.data, intsV x'.mem], Ob.obj zeroReady]) (σ.length + 2) = some zeroReady := by simp
    have hA : RAt (σ ++ [Ob.obj [V.p r 0], Ob.obj [inV x'.term, inV x'.kind, bytesV x'.data, intsV x'.mem], Ob.obj zeroReady]) r R S := h.app _
    have hC : Chg σ (σ ++ [Ob.obj [V.p r 0], Ob.obj [inV x'.term, inV x'.kind, bytesV x'.data, intsV x'.mem], Ob.obj zeroReady]) S := .app _ _ _
    have hr2 : cellsOf (σ ++ [Ob.obj [V.p r 0], Ob.obj [inV x'.term, inV x'.kind, bytesV x'.data, intsV x'.mem], Ob.obj zeroReady]) r = some (R.cells lg cy cm) := hr1 _
    have hA' := h'.app [Ob.obj [V.p r 0], Ob.obj [inV x'.term, inV x'.kind, bytesV x'.data, intsV x'.mem], Ob.obj zeroReady]
    have hτl : (σ ++ [Ob.obj [V.p r 0], Ob.obj [inV x'.term, inV x'.kind, bytesV x'.data, intsV x'.mem], Ob.obj zeroReady]).length = σ.length + 3 := by simp
    generalize σ ++ [Ob.obj [V.p r 0], Ob.obj [inV x'.term, inV x'.kind, bytesV x'.data, intsV x'.mem], Ob.obj zeroReady] = τ at *
    have pe : partV [inV x'.term, inV x'.kind, bytesV x'.data, intsV x'.mem] 0 4 true = some x'.v := rfl
    have pk : partV [inV x'.term, inV x'.kind, bytesV x'.data, intsV x'.mem] 1 1 false = some (inV x'.kind) := rfl
    have pm : partV [inV x'.term, inV x'.kind, bytesV x'.data, intsV x'.mem] 3 1 false = some (intsV x'.mem) := rfl
    have hxok : x'.ok := by rw [hx']; exact hx
    have hkind : x'.kind = x.kind := by rw [hx']
    have hmem : x'.mem = x.mem := by rw [hx']
    have c1' : cellsOf τ (σ.length + 1 + 0) = some [inV x'.term, inV x'.kind, bytesV x'.data, intsV x'.mem] := c1
    simp -zeta only [ldV_at, c1, ldC_some, pe, optP_some]
    refine wire_entry H.toOkW x' hxok ?_
    simp -zeta only [extV_tup, List.getElem?_cons_zero, List.getElem?_cons_succ, optP_some]
    have a0 := hok.log.lo; have a1 := hok.log.hi; have a2 := hok.len
    have hlast : R.log.last = R.log.index + R.log.l.length := rfl
    have perr : R.propErr x mc = (if R.role ≠ 3 then 190 else if x.kind ≠ 1 ∧ x.kind ≠ 2 then 1 else if entErr x' ≠ 0 then entErr x' else if 64 ≤ R.log.last - (R.log.index + 1) + 1 then 191 else if x.kind = 2 then mc else 0) := by rw [hx']; rfl
    intro k28
    have hk28 : ∀ e : Int, R.propErr x mc = e → k28 (inV e) τ := by
      intro e he
      simp only [k28, inV, neq_i64, optP_some, splitP_b]
      refine ⟨fun hne => ?_, fun heq => ?_⟩
      · have hne' : R.propErr x mc ≠ 0 := by rw [he]; simpa using hne
        refine optP_of (v := .agg zeroReady) rfl ?_
        have e2 : storeV (.p (σ.length + 2) 0) (.agg zeroReady) 10 τ = some (.u, τ.set (σ.length + 2) (.obj zeroReady)) := by
          rw [storeV_at, c2]; rfl
        have lt2 := cellsOf_lt c2
        rw [e2]
        simp only [optW_some, cellsOf_self lt2, ldC_some]
        refine optP_of (v := .agg zeroReady) rfl ?_
        refine ⟨0, Ready.zero, zeroReady, e, rfl, ?_, ?_, ?_, ?_, ?_⟩
        · exact .cons (.refl _) (.cons (.refl _) (.cons (.refl _) (.cons (.refl _) (.cons (.refl _) (.cons fg_nilI (.cons fg_nilB (.cons (.refl _) (.cons fg_nilE (.cons (.may _ _ _) .nil)))))))))
        · unfold Raft.proposed; rw [if_pos hne']
        · unfold Raft.proposed; rw [if_pos hne']
        · unfold Raft.proposed; rw [if_pos hne', he]
        · have hp : (R.proposed x mc).1 = R := by unfold Raft.proposed; rw [if_pos hne']
          rw [hp]
          exact .trans (hC.trans (.set (S := [σ.length + 2]) _ (by simp)) fun y hy => by simp at hy; right; omega) (fun y hy => .inl hy) (.self (hA.setL (out 2) _))
      · have he0 : e = 0 := by simpa using heq
        have hno : ¬ R.propErr x mc ≠ 0 := by rw [he, he0]; simp
        have hrole : R.role = 3 := by
          by_cases hr : R.role = 3
          · exact hr
          · rw [perr, if_pos hr] at he; omega
        have e3 : storeV (.p τ.length 0) (.n .i64 0) 1 (τ ++ [Ob.obj [.n .i64 0]]) = some (.u, τ ++ [Ob.obj [inV 0]]) := by
          rw [storeV_at, cellsOf_right0]; simp
        simp only [allocW_eq, optW_some, e3]
        have d0 := cellsOf_left c0 [Ob.obj [inV 0]]
        have d1 := cellsOf_left c1 [Ob.obj [inV 0]]
        have d2 := cellsOf_left c2 [Ob.obj [inV 0]]
        have d3 : cellsOf (τ ++ [Ob.obj [inV 0]]) (σ.length + 3) = some [inV 0] := by rw [← hτl, cellsOf_right0]; rfl
        have hA2 : RAt (τ ++ [Ob.obj [inV 0]]) r R S := hA.app _
        have hC2 : Chg σ (τ ++ [Ob.obj [inV 0]]) S := hC.then (.app _ _ _)
        have hl4 : (τ ++ [Ob.obj [inV 0]]).length = σ.length + 4 := by simp [hτl]
        rw [hτl]
        generalize τ ++ [Ob.obj [inV 0]] = τ2 at *
        simp only [d0, ldC_some, p0, optP_some]
        have hp1 : (R.proposed x mc).1 = (R.does fun R => R.lays { x with term := R.term }).1 := by unfold Raft.proposed; rw [if_neg hno]
        have hp2 : (R.proposed x mc).2.1 = (R.does fun R => R.lays { x with term := R.term }).2 := by unfold Raft.proposed; rw [if_neg hno]
        have hp3 : (R.proposed x mc).2.2.1 = R.log.last + 1 := by unfold Raft.proposed; rw [if_neg hno]
        have hp4 : (R.proposed x mc).2.2.2 = 0 := by unfold Raft.proposed; rw [if_neg hno]
        have hl3 : σ.length + 3 < τ2.length := by omega
        have hid : 1 ≤ R.id ∧ R.id ≤ 7 := hok.lead (by rw [hrole]; decide)
        have hne : (R.lay1 x').members ≠ [] := lay1_members hok (by omega) (hok.mems hrole) x' hxok
        refine raft_does2 H.toOkT (l := σ.length + 3) (lcs := [inV (R.log.last + 1)]) (fun R => R.lays { x with term := R.term }) hA2 hl3 (out 3) (fun xs K' hk => ?_) fun s5 hL5 hl5 => ?_
        · simp only [callV, List.nil_append, List.append_nil]
          refine g_raft_Raft_Propose_c1 H.propose1 ?_
          unfold p_raft_Raft_Propose_c1
          have q0 := cellsOf_left d0 xs
          have q1 := cellsOf_left d1 xs
          have q3 := cellsOf_left d3 xs
          simp only [ldV_at, q0, q1, ldC_some, p0, pe, optP_some]
          refine raft_lays H.toOkS x' (.refl _) rfl (hA2.app xs) hok hb hxok hid hne fun s6 hL6 => hL6.bind fun S6 g1 g2 g3 => ?_
          have q6 := g2.cells q3 (out 3)
          have lt6 := cellsOf_lt q6
          simp only [storeV_at, q6, cells_n, inV, stC_some, List.length_cons, List.length_nil, Nat.reduceAdd, Nat.le_refl, and_self, if_true, optW_some, splice_cons, splice_nil, List.set_cons_zero]
          refine hk _ _ ⟨S6, ?_, ?_, g3⟩ (cellsOf_self lt6)
          · have : σ.length + 3 ∉ S6 := fun hi => by
              rcases g3 _ hi with h | h
              · exact out 3 h
              · simp at h; omega
            have hF : R.lays { x with term := R.term } = R.lays x' := by rw [hx']
            show RAt _ r (R.lays { x with term := R.term }) S6
            rw [hF]
            exact g1.setL this _
          · exact (g2.mono fun y hy => by simp [hy]).then (.set _ (by simp))
        · obtain ⟨S5, g1, g2, g3⟩ := hL5
          rw [← hp1] at g1
          rw [← hp2]
          generalize (R.proposed x mc).2.1 = y at *
          have o1 : ∀ {i : Nat} {cs : List V}, i ≠ 3 → cellsOf τ2 (σ.length + i) = some cs → cellsOf s5 (σ.length + i) = some cs := fun hi hc => g2.cells hc (by simp only [List.mem_append, List.mem_singleton, not_or]; exact ⟨by omega, out _⟩)
          have u2 := o1 (by omega) d2
          have v2 := cellsOf_left u2 [Ob.obj (y.cs .may)]
          have v3 := cellsOf_left hl5 [Ob.obj (y.cs .may)]
          have v5 : cellsOf (s5 ++ [Ob.obj (y.cs .may)]) s5.length = some (y.cs .may) := by simp
          change optW (storeV (.p s5.length 0) _ 10 (s5 ++ [Ob.obj zeroReady])) _
          rw [storeReady]
          have pv : partV [inV (R.log.last + 1)] 0 1 false = some (inV (R.log.last + 1)) := rfl
          have py : partV (y.cs .may) 0 10 true = some y.v := rfl
          have g1' : RAt (s5 ++ [Ob.obj (y.cs .may)]) r (R.proposed x mc).1 S5 := g1.app _
          have lt2 := cellsOf_lt v2
          simp only [optW_some, ldV_at, v3, v5, ldC_some, pv, py, optP_some, true_and, storeV_at, v2, cells_ready, stC_some, ready_len, zeroReady, List.length_cons, List.length_nil, Nat.reduceAdd, Nat.zero_add, Nat.le_refl, and_self, if_true, cellsOf_self lt2]
          have e3 : splice [V.n .i64 0, .n .i64 0, .b false, .n .i64 0, .n .i64 0, .l 1 [] .nil, .l 1 [] .nil, .n .i64 0, .l 4 [] .nil, .l 11 [] .nil] 0 (y.cs .may) = y.cs .may := rfl
          simp only [e3, py, optP_some]
          have hS5 : ∀ z ∈ S5, z ∈ S ∨ σ.length + 4 ≤ z := fun z hz => by
            rcases g3 z hz with h | h
            · exact .inl h
            · right; omega
          have out5 : σ.length + 2 ∉ S5 := fun hi => by rcases hS5 _ hi with h | h; exact out 2 h; omega
          refine ⟨_, y, y.cs .may, 0, rfl, .refl _, hp3.symm, rfl, hp4.symm, S5, g1'.setL out5 _, ?_, fun z hz => by rcases hS5 z hz with h | h; exact .inl h; right; omega⟩
          refine (hC2.trans g2 fun z hz => ?_).trans ((Chg.app s5 _ [σ.length + 2]).then (.set (S := [σ.length + 2]) _ (by simp))) fun z hz => ?_
          · simp only [List.mem_append, List.mem_singleton] at hz
            rcases hz with h | h
            · right; omega
            · exact .inl h
          · simp at hz; right; omega
    clear_value k28
    simp -zeta only [c0, c1, c2, hr2, nilV_p, faV_p, optP_some, ldV_at, ldC_some, p0, pk, pm, rc3, rc5, inV, neq_i64, splitP_b, Nat.zero_add]
    refine ⟨fun h3 => ?_, fun h3 => ?_⟩
    · exact hk28 190 (by rw [perr, if_pos (by simpa using h3)])
    have h3' : ¬ R.role ≠ 3 := by simpa using h3
    rw [if_neg h3'] at perr
    intro k67
    have hk67 : ¬ (x.kind ≠ 1 ∧ x.kind ≠ 2) → k67 τ := by
      intro hkk
      rw [if_neg hkk] at perr
      simp -zeta only [k67, c0, c1, c2, hr2, nilV_p, faV_p, optP_some, ldV_at, ldC_some, p0, pk, pm, rc3, rc5, inV, neq_i64, splitP_b, Nat.zero_add, true_and]
      refine ⟨fun he => ?_, fun he => ?_⟩
      · have he' : entErr x' ≠ 0 := by simpa using he
        exact hk28 _ (by rw [perr, if_pos he'])
      have he' : ¬ entErr x' ≠ 0 := by simpa using he
      rw [if_neg he'] at perr
      refine log_last H.toOkL hA'.log hok.log ?_
      simp -zeta only [c0, c1, c2, hr2, nilV_p, faV_p, optP_some, ldV_at, ldC_some, p0, pk, pm, rc3, rc5, inV, Nat.zero_add, true_and]
      refine log_first H.toOkL hA'.log hok.log ?_
      simp -zeta only [c0, c1, c2, hr2, nilV_p, faV_p, optP_some, ldV_at, ldC_some, p0, pk, pm, rc3, rc5, inV, Nat.zero_add, true_and, sub_i64, add_i64, geq_i64, splitP_b]
      rw [wrap64 (x := R.log.last - (R.log.index + 1)) (by omega) (by omega), wrap64 (by omega) (by omega)]
      refine ⟨fun hg => ?_, fun hg => ?_⟩
      · exact hk28 191 (by rw [perr, if_pos (by simpa using hg)])
      rw [if_neg (by simpa using hg)] at perr
      simp -zeta only [c0, c1, c2, hr2, nilV_p, faV_p, optP_some, ldV_at, ldC_some, p0, pk, pm, inV, eql_i64, splitP_b, Nat.zero_add]
      have he0 : entErr x' = 0 := Classical.not_not.1 he'
      refine ⟨fun hc2 => ?_, fun hc2 => ?_⟩
      · have hc2' : x.kind = 2 := by rw [← hkind]; simpa using hc2
        rw [if_pos hc2'] at perr
        rw [hmem]
        refine hmc (Classical.not_not.1 h3') hc2' (by rw [← hx']; exact he0) τ _ hA ?_
        exact hk28 _ perr
      · have hc2' : ¬ x.kind = 2 := by rw [← hkind]; simpa using hc2
        rw [if_neg hc2'] at perr
        rw [he0]
        exact hk28 _ perr
    clear_value k67
    rw [hkind]
    refine ⟨fun h1 => ⟨fun h2 => ?_, fun h2 => hk67 fun hh => (by simp at h2; exact hh.2 h2)⟩, fun h1 => hk67 fun hh => (by simp at h1; exact hh.1 h1)⟩
    refine hk28 1 ?_
    rw [perr, if_pos ⟨by simpa using h1, by simpa using h2⟩]
  · rintro v s ⟨i, y, cs, e, rfl, hfg, h1, h2, h3, hL⟩
    refine ⟨_, s, .fg (.cons (.tup (.cons (.refl _) (.cons (.agg hfg) (.cons (.refl _) .nil)))) .nil) _, ?_⟩
    rw [h1, h3]
    have := k s hL
    rw [← h2] at this
    exact this
end Go.Ab
/-
  A node of the raft lays a snapshot: contracts.
-/
namespace Go.Ab

variable {E : Env}

structure OkLy (E : Env) : Prop extends OkPr E where
  lay : chkF E.P E.m (E.m 15) c_raft_Raft_Lay = true
  layc1 : chkF E.P E.m (E.m 44) c_raft_Raft_Lay_c1 = true

/-- (*strongroom/raft.Raft).Lay -/
def p2_raft_Raft_Lay (E : Env) (a0 a1 a2 : V) (s : St) (K : V → St → Prop) : Prop :=
 optW (boxV a0 s) fun v0 s1 =>
 optW (boxV a1 s1) fun v2 s3 =>
 optW (boxV a2 s3) fun v4 s5 =>
 optW (allocW [.n .i64 0, .n .i64 0, .b false, .n .i64 0, .n .i64 0, .l 1 [] .nil, .l 1 [] .nil, .n .i64 0, .l 4 [] .nil, .l 11 [] .nil] s5) fun v6 s7 =>
 let k8 : St → Prop := (fun s9 =>
 optP (buildV [.n .i64 0, .n .i64 0, .b false, .n .i64 0, .n .i64 0, .l 1 [] .nil, .l 1 [] .nil, .n .i64 0, .l 4 [] .nil, .l 11 [] .nil] []) s9 fun v10 s11 =>
 optW (storeV v6 v10 10 s11) fun v12 s13 =>
 optP (ldV v6 10 true s13) s13 fun v14 _ =>
 K (.tup [v14, (.n .i64 1)]) s13);
 optP (ldV v2 1 false s7) s7 fun v15 s16 =>
 (True) ∧ optP (ldV v0 1 false s16) s16 fun v17 s18 =>
 (True) ∧ optP (nilV v17) s18 fun v19 s20 =>
 optP (faV v19 5 1 false) s20 fun v21 s22 =>
 optP (ldV v21 1 false s22) s22 fun v23 s24 =>
 (True) ∧ ACalls E 21 [v23] s24 fun v25 s26 =>
 (ldV v2 1 false s26 = some v15 ∧ True) ∧ optP (binV .num .lss v15 v25) s26 fun v27 s28 =>
 splitP v27 (
 (True) ∧ (True) ∧ (True) ∧ k8 s28) (
 optP (ldV v2 1 false s28) s28 fun v29 s30 =>
 (True) ∧ optP (ldV v0 1 false s30) s30 fun v31 s32 =>
 (True) ∧ optP (nilV v31) s32 fun v33 s34 =>
 optP (faV v33 6 1 false) s34 fun v35 s36 =>
 optP (ldV v35 1 false s36) s36 fun v37 s38 =>
 (True) ∧ optP (binV .num .gtr v29 v37) s38 fun v39 s40 =>
 splitP v39 (
 k8 s40) (
 let k100 : V → St → Prop := (fun v57 s60 =>
 optP (ldV v0 1 false s60) s60 fun v61 s62 =>
 optP (ldV v2 1 false s62) s62 fun v63 s64 =>
 ACalls E 43 [v61, v63] s64 fun v65 s66 =>
 optP (extV v65 0) s66 fun v67 s68 =>
 optP (extV v65 1) s68 fun v69 s70 =>
 optW (allocW [.l 1 [] .nil] s70) fun v71 s72 =>
 optW (storeV v71 v67 1 s72) fun v73 s74 =>
 optP (ldV v0 1 false s74) s74 fun v75 s76 =>
 ACalls E 25 [v75, (.f 44 [] [v0, v2, v57, v71, v4])] s76 fun v77 s78 =>
 optW (storeV v6 v77 10 s78) fun v79 s80 =>
 optP (ldV v6 10 true s80) s80 fun v81 _ =>
 K (.tup [v81, (.n .i64 0)]) s80);
 ( optP (ldV v0 1 false s40) s40 fun v41 s42 =>
 (True) ∧ optP (nilV v41) s42 fun v43 s44 =>
 optP (faV v43 5 1 false) s44 fun v45 s46 =>
 optP (ldV v45 1 false s46) s46 fun v47 s48 =>
 (True) ∧ optP (ldV v2 1 false s48) s48 fun v49 s50 =>
 (True) ∧ ACalls E 42 [v47, v49] s50 fun v51 s52 =>
 (True) ∧ optP (extV v51 0) s52 fun v53 s54 =>
 optP (extV v51 1) s54 fun v55 s56 =>
 optW (allocW [.n .i64 0] s56) fun v57 s58 =>
 (ldV v0 1 false s58 = some v41 ∧ ldV v45 1 false s58 = some v47 ∧ ldV v2 1 false s58 = some v49 ∧ True) ∧ optW (storeV v57 v53 1 s58) fun v59 s60 =>
 (True) ∧ k100 v57 s60) ∧ (
 optW (allocW [.n .i64 0] s40) fun v57 s41 =>
 optP (ldV v0 1 false s41) s41 fun v41 s42 =>
 (ldV v0 1 false s40 = some v41 ∧ True) ∧ optP (nilV v41) s42 fun v43 s44 =>
 optP (faV v43 5 1 false) s44 fun v45 s46 =>
 optP (ldV v45 1 false s46) s46 fun v47 s48 =>
 (ldV v45 1 false s40 = some v47 ∧ True) ∧ optP (ldV v2 1 false s48) s48 fun v49 s50 =>
 (ldV v2 1 false s40 = some v49 ∧ True) ∧ ACalls E 42 [v47, v49] s50 fun v51 s52 =>
 (True) ∧ optP (extV v51 0) s52 fun v53 s54 =>
 optP (extV v51 1) s54 fun v55 s56 =>
 optW (storeV v57 v53 1 s56) fun v59 s60 =>
 (True) ∧ k100 v57 s60)))

theorem e2_raft_Raft_Lay (E : Env) (a0 a1 a2 : V) (s : St) (K : V → St → Prop) : axF E c_raft_Raft_Lay [a0, a1, a2] s K = p2_raft_Raft_Lay E a0 a1 a2 s K := by kernel_rfl
theorem g2_raft_Raft_Lay {E : Env} {a0 a1 a2 : V} {s : St} {K : V → St → Prop} (h : chkF E.P E.m (E.m 15) c_raft_Raft_Lay = true) (hp : p2_raft_Raft_Lay E a0 a1 a2 s K) : ACalls E 15 [a0, a1, a2] s K :=
  acalls h rfl (by rw [e2_raft_Raft_Lay]; exact hp)

def Raft.layd (R : Raft) (i : Int) (d : List UInt8) : Raft × Ready × Int :=
  if i < R.log.index + 1 ∨ R.commit < i then (R, Ready.zero, 1)
  else ((R.does fun R' => R'.base ⟨i, (R.log.termOf i).1, (R.membersTo i).1, d⟩).1, (R.does fun R' => R'.base ⟨i, (R.log.termOf i).1, (R.membersTo i).1, d⟩).2, 0)

theorem raft_Lay (H : OkLy E) {σ : St} {K : V → St → Prop} {r : Nat} {R : Raft} {S : List Nat} {b : Nat} (i : Int) (d : List UInt8) (hd : d.length ≤ 1099511627776) (h : RAt σ r R S) (hok : R.Ok b) (hb : b ≤ 68719476736)
    (k : ∀ σ', Left σ r S (R.layd i d).1 σ' → K (.tup [(R.layd i d).2.1.v, inV (R.layd i d).2.2]) σ') : ACalls E 15 [.p r 0, inV i, bytesV d] σ K := by
  refine .post (K := fun v s => ∃ y cs e, v = .tup [.agg cs, inV e] ∧ FgP E.m cs (Ready.cs y .may) ∧ y = (R.layd i d).2.1 ∧ e = (R.layd i d).2.2 ∧ Left σ r S (R.layd i d).1 s) ?_ ?_
  · refine g2_raft_Raft_Lay H.lay ?_
    unfold p2_raft_Raft_Lay
    obtain ⟨lg, cl, cy, cm, hS0, h'⟩ := id h
    have hxl := h.lt
    have out : ∀ i, σ.length + i ∉ S := fun i hi => by have := hxl _ hi; omega
    have out0 : σ.length ∉ S := out 0
    have bb : ∀ σ : St, boxV (bytesV d) σ = some (.p σ.length 0, σ ++ [.obj [bytesV d]]) := fun _ => rfl
    simp -zeta only [boxV_p, boxV_n, bb, inV, optW_some, allocW_eq, List.append_assoc, List.cons_append, List.nil_append, List.length_append, List.length_cons, List.length_nil, Nat.zero_add, Nat.reduceAdd]
    have hz : ([V.n .i64 0, .n .i64 0, .b false, .n .i64 0, .n .i64 0, .l 1 [] .nil, .l 1 [] .nil, .n .i64 0, .l 4 [] .nil, .l 11 [] .nil] : List V) = zeroReady := rfl
    have c0 : cellsOf (σ ++ [Ob.obj [V.p r 0], Ob.obj [.n .i64 i], Ob.obj [bytesV d], Ob.obj zeroReady]) σ.length = some [.p r 0] := by simp
    have c1 : cellsOf (σ ++ [Ob.obj [V.p r 0], Ob.obj [.n .i64 i], Ob.obj [bytesV d], Ob.obj zeroReady]) (σ.length + 1) = some [.n .i64 i] := by simp
    have c2 : cellsOf (σ ++ [Ob.obj [V.p r 0], Ob.obj [.n .i64 i], Ob.obj [bytesV d], Ob.obj zeroReady]) (σ.length + 2) = some [bytesV d] := by simp
    have c3 : cellsOf (σ ++ [Ob.obj [V.p r 0], Ob.obj [.n .i64 i], Ob.obj [bytesV d], Ob.obj zeroReady]) (σ.length + 3) = some zeroReady := by simp
    have hA : RAt (σ ++ [Ob.obj [V.p r 0], Ob.obj [.n .i64 i], Ob.obj [bytesV d], Ob.obj zeroReady]) r R S := h.app _
    have hC : Chg σ (σ ++ [Ob.obj [V.p r 0], Ob.obj [.n .i64 i], Ob.obj [bytesV d], Ob.obj zeroReady]) S := .app _ _ _
    have hA' := h'.app [Ob.obj [V.p r 0], Ob.obj [.n .i64 i], Ob.obj [bytesV d], Ob.obj zeroReady]
    have hτl : (σ ++ [Ob.obj [V.p r 0], Ob.obj [.n .i64 i], Ob.obj [bytesV d], Ob.obj zeroReady]).length = σ.length + 4 := by simp
    rw [hz]
    generalize σ ++ [Ob.obj [V.p r 0], Ob.obj [.n .i64 i], Ob.obj [bytesV d], Ob.obj zeroReady] = τ at *
    have p0 : partV [V.p r 0] 0 1 false = some (.p r 0) := rfl
    have pi : partV [V.n .i64 i] 0 1 false = some (.n .i64 i) := rfl
    have pd : partV [bytesV d] 0 1 false = some (bytesV d) := rfl
    have lt3 := cellsOf_lt c3
    intro k8
    have hk8 : (i < R.log.index + 1 ∨ R.commit < i) → k8 τ := by
      intro hbad
      simp only [k8]
      refine optP_of (v := .agg zeroReady) rfl ?_
      have e2 : storeV (.p (σ.length + 3) 0) (.agg zeroReady) 10 τ = some (.u, τ.set (σ.length + 3) (.obj zeroReady)) := by
        rw [storeV_at, c3]; rfl
      rw [e2]
      simp only [optW_some, ldV_at, cellsOf_self lt3, ldC_some]
      refine optP_of (v := .agg zeroReady) rfl ?_
      have hl : R.layd i d = (R, Ready.zero, 1) := by unfold Raft.layd; rw [if_pos hbad]
      refine ⟨Ready.zero, zeroReady, 1, rfl, ?_, by rw [hl], by rw [hl], ?_⟩
      · exact .cons (.refl _) (.cons (.refl _) (.cons (.refl _) (.cons (.refl _) (.cons (.refl _) (.cons fg_nilI (.cons fg_nilB (.cons (.refl _) (.cons fg_nilE (.cons (.may _ _ _) .nil)))))))))
      · rw [hl]
        exact .trans (hC.trans (.set (S := [σ.length + 3]) _ (by simp)) fun y hy => by simp at hy; right; omega) (fun y hy => .inl hy) (.self (hA.setL (out 3) _))
    clear_value k8
    have a0 := hok.log.lo; have a1 := hok.log.hi; have a2 := hok.log.ents.1
    have hlast : R.log.last = R.log.index + R.log.l.length := rfl
    have hidx := hok.idx
    simp -zeta only [nilV_p, faV_p, optP_some, Nat.zero_add, ldV_at, c0, c1, hA'.raft, ldC_some, p0, pi, rc5, rc6, true_and]
    refine log_first H.toOkL hA'.log hok.log ?_
    simp -zeta only [c0, c1, ldC_some, p0, pi, true_and, lss_i64, inV, optP_some, splitP_b]
    refine ⟨fun h1 => hk8 (.inl (by simpa using h1)), fun h1 => ?_⟩
    simp -zeta only [nilV_p, faV_p, optP_some, Nat.zero_add, ldV_at, c0, c1, hA'.raft, ldC_some, p0, pi, rc5, rc6, true_and, inV, gtr_i64, splitP_b]
    refine ⟨fun h2 => hk8 (.inr (by simpa using h2)), fun h2 => ?_⟩
    have h1' : R.log.index + 1 ≤ i := by simpa using h1
    have h2' : i ≤ R.commit := by simpa using h2
    have hl : R.layd i d = ((R.does fun R' => R'.base ⟨i, (R.log.termOf i).1, (R.membersTo i).1, d⟩).1, (R.does fun R' => R'.base ⟨i, (R.log.termOf i).1, (R.membersTo i).1, d⟩).2, 0) := by
      unfold Raft.layd; rw [if_neg (by omega)]
    intro k100
    have hk100 : k100 (.p τ.length 0) (τ ++ [.obj [inV (R.log.termOf i).1]]) := by
      have d0 := cellsOf_left c0 [Ob.obj [inV (R.log.termOf i).1]]
      have d1 := cellsOf_left c1 [Ob.obj [inV (R.log.termOf i).1]]
      have d2 := cellsOf_left c2 [Ob.obj [inV (R.log.termOf i).1]]
      have d3 := cellsOf_left c3 [Ob.obj [inV (R.log.termOf i).1]]
      have d4 : cellsOf (τ ++ [Ob.obj [inV (R.log.termOf i).1]]) (σ.length + 4) = some [inV (R.log.termOf i).1] := by rw [← hτl, cellsOf_right0]; rfl
      have hA2 := hA'.app [Ob.obj [inV (R.log.termOf i).1]]
      have hR2 : RAt (τ ++ [Ob.obj [inV (R.log.termOf i).1]]) r R S := hA.app _
      have hC2 : Chg σ (τ ++ [Ob.obj [inV (R.log.termOf i).1]]) S := hC.then (.app _ _ _)
      have hl5 : (τ ++ [Ob.obj [inV (R.log.termOf i).1]]).length = σ.length + 5 := by simp [hτl]
      simp only [k100]
      rw [hτl]
      generalize τ ++ [Ob.obj [inV (R.log.termOf i).1]] = τ2 at *
      simp only [ldV_at, d0, d1, ldC_some, p0, pi, optP_some]
      refine raft_membersTo H.toOkR i hA2 hok.log (by omega) (by omega) ?_
      simp only [extV_tup, List.getElem?_cons_zero, List.getElem?_cons_succ, optP_some, allocW_eq, optW_some]
      have e3 : storeV (.p τ2.length 0) (intsV (R.membersTo i).1) 1 (τ2 ++ [Ob.obj [.l 1 [] .nil]]) = some (.u, τ2 ++ [Ob.obj [intsV (R.membersTo i).1]]) := by
        rw [storeV_at, cellsOf_right0]; simp
      simp only [e3, optW_some]
      have q0 := cellsOf_left d0 [Ob.obj [intsV (R.membersTo i).1]]
      have q1 := cellsOf_left d1 [Ob.obj [intsV (R.membersTo i).1]]
      have q2 := cellsOf_left d2 [Ob.obj [intsV (R.membersTo i).1]]
      have q3 := cellsOf_left d3 [Ob.obj [intsV (R.membersTo i).1]]
      have q4 := cellsOf_left d4 [Ob.obj [intsV (R.membersTo i).1]]
      have q5 : cellsOf (τ2 ++ [Ob.obj [intsV (R.membersTo i).1]]) (σ.length + 5) = some [intsV (R.membersTo i).1] := by rw [← hl5, cellsOf_right0]; rfl
      have hR3 : RAt (τ2 ++ [Ob.obj [intsV (R.membersTo i).1]]) r R S := hR2.app _
      have hC3 : Chg σ (τ2 ++ [Ob.obj [intsV (R.membersTo i).1]]) S := hC2.then (.app _ _ _)
      rw [hl5]
      generalize τ2 ++ [Ob.obj [intsV (R.membersTo i).1]] = τ3 at *
      simp only [q0, ldC_some, p0, optP_some]
      have hml := (membersTo_ok hok.mem i).len
      refine raft_does H.toOkT (fun R' => R'.base ⟨i, (R.log.termOf i).1, (R.membersTo i).1, d⟩) hR3 (fun xs K' hk => ?_) fun s5 hL5 => hL5.bind fun S5 g1 g2 g3 => ?_
      · simp only [callV, List.nil_append, List.append_nil]
        refine g_raft_Raft_Lay_c1 H.layc1 ?_
        unfold p_raft_Raft_Lay_c1
        have pt : partV [inV (R.log.termOf i).1] 0 1 false = some (inV (R.log.termOf i).1) := rfl
        have pm : partV [intsV (R.membersTo i).1] 0 1 false = some (intsV (R.membersTo i).1) := rfl
        simp only [ldV_at, cellsOf_left q0 xs, cellsOf_left q1 xs, cellsOf_left q2 xs, cellsOf_left q4 xs, cellsOf_left q5 xs, ldC_some, p0, pi, pd, pt, pm, optP_some]
        refine optP_of (v := (Snap.mk i (R.log.termOf i).1 (R.membersTo i).1 d).v) rfl ?_
        refine raft_base H.toOkF ⟨i, (R.log.termOf i).1, (R.membersTo i).1, d⟩ ⟨by simp only; omega, hd⟩ (hR3.app xs) hok.log fun s6 hL6 => hk _ s6 hL6
      · have hy : (R.layd i d).2.1 = (R.does fun R' => R'.base ⟨i, (R.log.termOf i).1, (R.membersTo i).1, d⟩).2 := by rw [hl]
        have hR1 : (R.layd i d).1 = (R.does fun R' => R'.base ⟨i, (R.log.termOf i).1, (R.membersTo i).1, d⟩).1 := by rw [hl]
        rw [← hy]
        rw [← hR1] at g1
        generalize (R.layd i d).2.1 = y at *
        have u3 := g2.cells q3 (out 3)
        have lt := cellsOf_lt u3
        have e4 : storeV (.p (σ.length + 3) 0) y.v 10 s5 = some (.u, s5.set (σ.length + 3) (.obj (y.cs .may))) := by
          rw [storeV_at, u3]; rfl
        have py : partV (y.cs .may) 0 10 true = some y.v := rfl
        rw [e4]
        simp only [optW_some, cellsOf_self lt, ldC_some, py, optP_some]
        have hS5 : ∀ z ∈ S5, z ∈ S ∨ σ.length + 5 ≤ z := fun z hz => by
          rcases g3 z hz with h | h
          · exact .inl h
          · right; have := cellsOf_lt q5; omega
        have out5 : σ.length + 3 ∉ S5 := fun hi => by rcases hS5 _ hi with h | h; exact out 3 h; omega
        refine ⟨y, y.cs .may, 0, rfl, .refl _, rfl, by rw [hl], S5, g1.setL out5 _, (hC3.then g2).trans (.set (S := [σ.length + 3]) _ (by simp)) fun z hz => ?_, fun z hz => by rcases hS5 z hz with h | h; exact .inl h; right; omega⟩
        simp at hz; right; omega
    clear_value k100
    have est : storeV (.p τ.length 0) (inV (R.log.termOf i).1) 1 (τ ++ [Ob.obj [.n .i64 0]]) = some (.u, τ ++ [Ob.obj [inV (R.log.termOf i).1]]) := by
      rw [storeV_at, cellsOf_right0]; simp
    have x0 := cellsOf_left c0 [Ob.obj [V.n .i64 0]]
    have x1 := cellsOf_left c1 [Ob.obj [V.n .i64 0]]
    have xr := cellsOf_left hA'.raft [Ob.obj [V.n .i64 0]]
    refine ⟨?_, ?_⟩
    · refine log_term H.toOkL i hA'.log hok.log ?_
      simp -zeta only [extV_tup, List.getElem?_cons_zero, List.getElem?_cons_succ, optP_some, allocW_eq, optW_some, x0, x1, xr, ldC_some, p0, pi, rc5, true_and, and_self, est]
      exact hk100
    · simp -zeta only [allocW_eq, optW_some, nilV_p, faV_p, optP_some, Nat.zero_add, ldV_at, x0, x1, xr, c0, c1, hA'.raft, ldC_some, p0, pi, rc5, true_and, and_self]
      refine log_term H.toOkL i (cellsOf_left hA'.log _) hok.log ?_
      simp -zeta only [extV_tup, List.getElem?_cons_zero, List.getElem?_cons_succ, optP_some, est, optW_some]
      exact hk100
  · rintro v s ⟨y, cs, e, rfl, hfg, h1, h2, hL⟩
    refine ⟨_, s, .fg (.cons (.tup (.cons (.agg hfg) (.cons (.refl _) .nil))) .nil) _, ?_⟩
    rw [h2]
    have := k s hL
    rw [← h1] at this
    exact this
end Go.Ab
/-
  RaftLays: the function answers true.
-/
namespace Go.Ab

variable {E : Env}

structure OkRL (E : Env) : Prop extends OkLy E where
  rlays : chkF E.P E.m (E.m 4) c_strongroomlaw19_RaftLays = true

theorem memAt_none {l : List Ent} (h : ∀ e ∈ l, e.kind ≠ 2) : ∀ n, memAt l n = none
  | 0 => rfl
  | n + 1 => by
    have hk : (l.getD n default).kind ≠ 2 := by
      by_cases hn : n < l.length
      · have e : l.getD n default = l[n] := by simp [List.getD, hn]
        rw [e]; exact h _ (by simp)
      · have e : l.getD n default = default := by simp [List.getD, List.getElem?_eq_none (Nat.le_of_not_lt hn)]
        rw [e]; decide
    rw [memAt, if_neg (fun hh => hk hh.1), memAt_none h n]
theorem membersTo_plain {R : Raft} (h : ∀ e ∈ R.log.l, e.kind ≠ 2) (i : Int) : R.membersTo i = (R.snap.mem, 0) := by
  unfold Raft.membersTo
  rw [memAt_none fun e he => h e ?_]
  unfold Log.part at he
  split at he
  · simp at he
  · exact List.mem_of_mem_drop (List.mem_of_mem_take he)

theorem proposed_ok {b : Nat} {R : Raft} (h : R.Ok b) (hb : b < 1099511627776) (x : Ent) (hx : x.ok) (mc : Int) : (R.proposed x mc).1.Ok (b + 8) := by
  unfold Raft.proposed
  split
  · exact h.mono (by omega)
  · exact does_ok (lays_ok h hb _ hx)

def entN (k : Nat) : Ent := ⟨0, 1, [UInt8.ofNat k], []⟩
/-- A node alone that laid k entries. -/
def raftN : Nat → Raft
  | 0 => (raftA.does Raft.tick).1
  | k + 1 => ((raftN k).proposed (entN k) 0).1

theorem raftN_ok : ∀ k, k < 100 → (raftN k).Ok (20 + 8 * k)
  | 0, _ => does_ok (tick_ok (new_ok (b := 12) _ _ _ _ _ _ _ (by simp) ⟨by simp, by simp⟩ (by simp)) (by omega) (by omega))
  | k + 1, h => (proposed_ok (raftN_ok k (by omega)) (by omega) _ ⟨by simp [entN], by simp [entN]⟩ 0).mono (by omega)

theorem raftN_facts : ∀ k, k < 41 → (raftN k).commit = k + 1 ∧ (raftN k).log.index = 0 ∧ (raftN k).log.l.length = k + 1 ∧ (raftN k).snap.mem = [1] ∧ (raftN k).log.l.all (fun e => decide (e.kind ≠ 2)) = true := by decide +kernel

theorem termOf_there {g : Log} {i : Int} (h1 : g.index + 1 ≤ i) (h2 : i ≤ g.last) : (g.termOf i).2 = 0 := by
  have hw : g.within i = true := by simp only [Log.within, Bool.and_eq_true, decide_eq_true_eq]; omega
  obtain ⟨e, he, -⟩ := Log.at_within hw
  unfold Log.termOf
  rw [if_neg (by omega), he]

structure Laid (R R' : Raft) (y : Ready) (i : Int) (d : List UInt8) : Prop where
  snap : y.snap.index = i ∧ y.snap.mem = (R.membersTo i).1 ∧ y.snap.data = d
  commit : R'.commit = R.commit
  index : R'.log.index = i
  last : R'.log.last = R.log.last

theorem layd_spec {R : Raft} {i : Int} {d : List UInt8} (h0 : 0 ≤ R.log.index) (h1 : R.log.index + 1 ≤ i) (h2 : i ≤ R.commit) (hc : R.commit ≤ R.log.last) (hi : i ≤ 1099511627776) : (R.layd i d).2.2 = 0 ∧ Laid R (R.layd i d).1 (R.layd i d).2.1 i d := by
  have hl : R.layd i d = ((R.does fun R' => R'.base ⟨i, (R.log.termOf i).1, (R.membersTo i).1, d⟩).1, (R.does fun R' => R'.base ⟨i, (R.log.termOf i).1, (R.membersTo i).1, d⟩).2, 0) := by
    unfold Raft.layd; rw [if_neg (by omega)]
  have hb : (R.log.base i (R.log.termOf i).1).1 = ⟨i, (R.log.termOf i).1, R.log.l.drop (i - R.log.index).toNat⟩ := by
    unfold Log.base
    rw [if_neg (by omega), if_pos (.inr ⟨termOf_there h1 (by omega), rfl⟩)]
  have hlast : R.log.last = R.log.index + R.log.l.length := rfl
  rw [hl]
  refine ⟨rfl, ⟨?_, rfl, ?_, ?_⟩⟩
  · simp only [Raft.does]; split <;> exact ⟨rfl, rfl, rfl⟩
  · show (R.log.base i (R.log.termOf i).1).1.index = i
    rw [hb]
  · show (R.log.base i (R.log.termOf i).1).1.last = R.log.last
    rw [hb]
    simp only [Log.last, List.length_drop]
    omega

theorem layd_bad {R : Raft} {i : Int} {d : List UInt8} (h : i < R.log.index + 1 ∨ R.commit < i) : R.layd i d = (R, Ready.zero, 1) := by
  unfold Raft.layd; rw [if_pos h]

theorem layd_ok {b : Nat} {R : Raft} (h : R.Ok b) {i : Int} {d : List UInt8} (hd : d.length ≤ 1099511627776) (hi : i ≤ 1099511627776) (hne : R.role = 3 → (R.membersTo i).1 ≠ []) : (R.layd i d).1.Ok b := by
  by_cases hbad : i < R.log.index + 1 ∨ R.commit < i
  · rw [layd_bad hbad]; exact h
  · have hx := h.idx
    obtain ⟨b1, b2, b3, b4⟩ := base_log (t := (R.log.termOf i).1) h.log (i := i) (by omega) hi
    obtain ⟨-, L⟩ := layd_spec (d := d) h.log.lo (show R.log.index + 1 ≤ i by omega) (by omega) hx.2 hi
    have hl : (R.layd i d).1 = (R.does fun R' => R'.base ⟨i, (R.log.termOf i).1, (R.membersTo i).1, d⟩).1 := by
      unfold Raft.layd; rw [if_neg hbad]
    rw [hl] at L ⊢
    refine does_ok ?_
    have hm := membersTo_ok h.mem i
    refine ⟨b1, Nat.le_trans b3 h.len, h.term, ⟨?_, ?_⟩, hm, hd, h.yes, h.passed, h.timeout, h.next, h.mat, h.msgs, h.lead, fun h3 => ?_⟩
    · show (R.log.base i (R.log.termOf i).1).1.index ≤ R.commit; omega
    · have := L.last
      show R.commit ≤ (R.log.base i (R.log.termOf i).1).1.last
      have e : (R.does fun R' => R'.base ⟨i, (R.log.termOf i).1, (R.membersTo i).1, d⟩).1.log.last = (R.log.base i (R.log.termOf i).1).1.last := rfl
      rw [← e, this]; exact hx.2
    · have hne' := hne h3
      have e : (R.base ⟨i, (R.log.termOf i).1, (R.membersTo i).1, d⟩).members = (match memAt (R.log.base i (R.log.termOf i).1).1.l (R.log.base i (R.log.termOf i).1).1.l.length with | some (_, m) => m | none => (R.membersTo i).1) :=
        members_eq (R := R.base ⟨i, (R.log.termOf i).1, (R.membersTo i).1, d⟩) (by show 0 ≤ (R.log.base i (R.log.termOf i).1).1.index; have := h.log.lo; omega)
      rw [e]
      split
      · rename_i hq; exact memAt_ne hq
      · exact hne'

theorem b2s_bytes (l : List UInt8) : ∃ s, b2sV (bytesV l) = some (.s s) := by
  exact ⟨⟨((l.map byV).map byteOf).toArray⟩, if_pos (by simp [byV])⟩

theorem law_RaftLays (H : OkRL E) {σ : St} {K : V → St → Prop} (many at_ : Int) (data : List UInt8) (hmany : I64 many) (hat : I64 at_) (k : K (.b true) σ) : ACalls E 4 [inV many, inV at_, bytesV data] σ K := by
  refine .same (g_strongroomlaw19_RaftLays H.rlays ?_)
  unfold p_strongroomlaw19_RaftLays
  refine law_shown H.toOkX ?_
  simp -zeta only [splitP_b, forall_const, Bool.true_eq_false, false_implies, and_true]
  have m1 : mksV 1 [V.n .i64 1] = some (.l 1 ([1].map inV) .full) := by simp [mksV]
  simp -zeta only [m1, optP_some]
  refine optP_of (v := .agg [inV 0, inV 0]) rfl ?_
  refine optP_of (v := .agg [inV 0, inV 0, .l 1 [] .nil, .l 1 [] .nil]) rfl ?_
  have fgz : FgV E.m (.agg [inV 0, inV 0, .l 1 [] .nil, .l 1 [] .nil]) (Snap.v ⟨0, 0, [], []⟩) := .agg (.cons (.refl _) (.cons (.refl _) (.cons fg_nilI (.cons fg_nilB .nil))))
  refine .args (.cons (.refl _) (.cons (.may _ _ _) (.cons (.refl _) (.cons fgz (.cons fg_nilE (.cons (.refl _) .nil)))))) ?_
  refine raft_new H.toOkN 1 [1] 0 0 ⟨0, 0, [], []⟩ [] 1 ⟨by simp, by simp⟩ (by simp) ⟨by simp, by simp⟩ fun σ1 r S1 hr1 hc1 hs1 => ?_
  intro k10
  clear_value k10
  have e1 : ∀ l, binV .ptr .eql (.p l 0) .nilp = some (.b false) := fun _ => rfl
  simp -zeta only [e1, optP_some, splitP_b, Bool.false_eq_true, false_implies, true_and, forall_const, Bool.true_eq_false, and_true]
  have hokA : raftA.Ok 12 := new_ok _ _ _ _ _ _ _ (by simp) ⟨by simp, by simp⟩ (by simp)
  refine raft_Tick H.toOkT (R := raftA) hr1 hokA (by omega) (by omega) fun σ2 hL2 => hL2.bind fun S2 hr2 hc2 hs2 => ?_
  refine law_kind H.toOkX many 41 hmany.1 hmany.2 (by decide) ?_
  have hkr := kindOf_range (c := many) (n := 41) (by omega)
  have hk0 : (if many < 0 then -(many + 1) else many).tmod 41 = kindOf many 41 := rfl
  rw [hk0]
  obtain ⟨n, hn⟩ : ∃ n : Nat, kindOf many 41 = n := ⟨(kindOf many 41).toNat, by omega⟩
  rw [hn]
  have hn41 : n < 41 := by omega
  have hC2 : Chg σ σ2 [] := hc1.trans hc2 fun x hx => .inr (hs1 x hx)
  have hS2 : ∀ x ∈ S2, σ.length ≤ x := fun x hx => by
    rcases hs2 x hx with h | h
    · exact hs1 x h
    · have := hc1.1; omega
  refine ⟨fun w vs s => ∃ (j : Nat) (S : List Nat), vs = [inV j] ∧ j ≤ n ∧ w = n - j ∧ RAt s r (raftN j) S ∧ Chg σ s [] ∧ (∀ x ∈ S, σ.length ≤ x),
    ⟨_, 0, S2, rfl, by omega, rfl, hr2, hC2, hS2⟩, ?_⟩
  rintro w x21 s ⟨j, S, hvs, hj, hw, hr, hC, hS⟩
  simp only [List.cons.injEq, and_true] at hvs
  obtain rfl := hvs
  have hokj := raftN_ok j (by omega)
  simp -zeta only [inV, lss_i64, optP_some, splitP_b]
  refine ⟨fun hlt => ?_, fun hge => ?_⟩
  · have hjn : j < n := by simpa using hlt
    have ecv : cnvV .u8 (.n .i64 (j : Int)) = some (byV (UInt8.ofNat j)) := by
      have : IntKind.u8.wrap (j : Int) = ((UInt8.ofNat j).toNat : Int) := by
        rw [UInt8.toNat_ofNat']
        simp only [IntKind.wrap, IntKind.bits, IntKind.signed]
        simp
      simp only [cnvV, this]
    simp -zeta only [ecv, optP_some]
    rw [mksV_one 1 (byV (UInt8.ofNat j)) [byV (UInt8.ofNat j)] rfl rfl (by omega)]
    simp -zeta only [optP_some]
    refine optP_of (v := .agg [inV 0, inV 1, .l 1 ([UInt8.ofNat j].map byV) .full, .l 1 [] .nil]) rfl ?_
    have hfg : FgV E.m (.agg [inV 0, inV 1, .l 1 ([UInt8.ofNat j].map byV) .full, .l 1 [] .nil]) (entN j).v := .agg (.cons (.refl _) (.cons (.refl _) (.cons (.may _ _ _) (.cons fg_nilI .nil))))
    refine .args (.cons (.refl _) (.cons hfg .nil)) ?_
    refine raft_Propose H.toOkPr (entN j) 0 ⟨by simp [entN], by simp [entN]⟩ hr hokj (by omega) (fun _ h2 => by simp [entN] at h2) fun s1 hL => hL.bind fun T hT hC1 hTs => ?_
    simp only [add_i64, optP_some]
    rw [wrap64 (by omega) (by omega)]
    refine ⟨n - (j + 1), by omega, j + 1, T, by push_cast; rfl, by omega, rfl, hT, hC.trans hC1 fun x hx => .inr (hS x hx), fun x hx => ?_⟩
    rcases hTs x hx with h | h
    · exact hS x h
    · have := hC.1; omega
  · have hjn : j = n := by simp at hge; omega
    subst hjn
    obtain ⟨f1, f2, f3, f4, f5⟩ := raftN_facts j hn41
    have f5' : ∀ e ∈ (raftN j).log.l, e.kind ≠ 2 := fun e he => by have := List.all_eq_true.1 f5 e he; simpa using this
    have hmt : ∀ i, ((raftN j).membersTo i).1 = [1] := fun i => by rw [membersTo_plain f5', f4]
    have hlast : (raftN j).log.last = j + 1 := by simp only [Log.last, f2, f3]; omega
    have g1 : (raftN j).stand.commit = j + 1 := f1
    have g2 : (raftN j).stand.last = j + 1 := hlast
    have g3 : (raftN j).stand.first = 1 := by show (raftN j).log.index + 1 = 1; omega
    generalize hRR : raftN j = R at *
    refine raft_stand H.toOkN hr hokj ?_
    change optW (storeV (.p s.length 0) _ 8 (s ++ [Ob.obj zeroStand])) _
    rw [storeStand]
    have c0 : cellsOf (s ++ [Ob.obj R.stand.cs]) s.length = some R.stand.cs := by simp
    have hr3 : RAt (s ++ [Ob.obj R.stand.cs]) r R S := hr.app _
    have hC3 : Chg σ (s ++ [Ob.obj R.stand.cs]) [] := hC.then (.app _ _ _)
    have l3 : (s ++ [Ob.obj R.stand.cs]).length = s.length + 1 := by simp
    have hSs := hr.lt
    simp -zeta only [optW_some]
    generalize s ++ [Ob.obj R.stand.cs] = s3 at *
    intro k41
    clear_value k41
    simp -zeta only [faV_p, optP_some, Nat.zero_add, ldV_at, c0, ldC_some, tc4, tc5, tc6, g1, g2, g3, inV, add_i64, neq_i64, splitP_b]
    rw [wrap64 (by omega) (by omega)]
    simp -zeta only [decide_true, Bool.not_true, Bool.false_eq_true, false_implies, true_and, forall_const]
    refine law_kind H.toOkX at_ _ hat.1 hat.2 (by omega) ?_
    have hir := kindOf_range (c := at_) (n := (j : Int) + 1) (by omega)
    have hki : (if at_ < 0 then -(at_ + 1) else at_).tmod ((j : Int) + 1) = kindOf at_ (j + 1) := rfl
    obtain ⟨i, hi⟩ : ∃ i, i = 1 + kindOf at_ (j + 1) := ⟨_, rfl⟩
    simp -zeta only [inV, add_i64, optP_some, hki]
    rw [← hi, wrap64 (by omega) (by omega)]
    refine law_bytes H.toOkI data ?_
    obtain ⟨d, hd⟩ : ∃ d, d = data.take 50 := ⟨_, rfl⟩
    have hdl : d.length ≤ 1099511627776 := by rw [hd]; simp; omega
    rw [← hd]
    refine raft_Lay H.toOkLy i d hdl hr3 hokj (by omega) fun s4 hL4 => hL4.bind fun S4 hr4 hC4 hS4 => ?_
    obtain ⟨z0, Z⟩ := layd_spec (R := R) (i := i) (d := d) (by omega) (by omega) (by omega) hokj.idx.2 (by omega)
    have hok4 := layd_ok (d := d) hokj hdl (show i ≤ 1099511627776 by omega) (fun _ => by rw [hmt]; simp)
    rw [z0]
    have hzm : (R.membersTo i).1 = [1] := hmt i
    generalize (R.layd i d).1 = R4 at *
    generalize (R.layd i d).2.1 = y at *
    have hS4' : ∀ x ∈ S4, σ.length ≤ x := fun x hx => by
      rcases hS4 x hx with h | h
      · exact hS x h
      · have := hC3.1; omega
    have hC4' : Chg σ s4 [] := hC3.trans hC4 fun x hx => .inr (hS x hx)
    simp -zeta only [extV_tup, List.getElem?_cons_zero, List.getElem?_cons_succ, optP_some, allocW_eq, optW_some]
    change optW (storeV (.p s4.length 0) _ 10 (s4 ++ [Ob.obj zeroReady])) _
    rw [storeReady]
    simp -zeta only [optW_some]
    have hr5 : RAt (s4 ++ [Ob.obj (y.cs .may)]) r R4 S4 := hr4.app _
    refine raft_stand H.toOkN hr5 hok4 ?_
    change optW (storeV (.p (s4 ++ [Ob.obj (y.cs .may)]).length 0) _ 8 (s4 ++ [Ob.obj (y.cs .may)] ++ [Ob.obj zeroStand])) _
    rw [storeStand]
    have l5 : (s4 ++ [Ob.obj (y.cs .may)]).length = s4.length + 1 := by simp
    have cY : cellsOf (s4 ++ [Ob.obj (y.cs .may)] ++ [Ob.obj R4.stand.cs]) s4.length = some (y.cs .may) := cellsOf_left (by simp) _
    have cT : cellsOf (s4 ++ [Ob.obj (y.cs .may)] ++ [Ob.obj R4.stand.cs]) (s4.length + 1) = some R4.stand.cs := by rw [← l5, cellsOf_right0]; rfl
    have hr6 : RAt (s4 ++ [Ob.obj (y.cs .may)] ++ [Ob.obj R4.stand.cs]) r R4 S4 := hr5.app _
    have hC6 : Chg σ (s4 ++ [Ob.obj (y.cs .may)] ++ [Ob.obj R4.stand.cs]) [] := (hC4'.then (.app _ _ _)).then (.app _ _ _)
    have out : ∀ q, s4.length ≤ q → q ∉ S4 := fun q hq hi => by have := hr4.lt _ hi; omega
    rw [l5]
    simp -zeta only [optW_some]
    generalize s4 ++ [Ob.obj (y.cs .may)] ++ [Ob.obj R4.stand.cs] = s6 at *
    refine .args (.cons (.refl _) (.cons (.refl _) (.cons fg_nilB .nil))) ?_
    refine raft_Lay H.toOkLy i [] (by simp) hr6 hok4 (by omega) fun s7 hL7 => ?_
    have hb7 : R4.layd i [] = (R4, Ready.zero, 1) := layd_bad (.inl (by rw [Z.index]; omega))
    rw [hb7] at hL7 ⊢
    refine hL7.bind fun S7 hr7 hC7 hS7 => ?_
    have cY7 := hC7.cells cY (out _ (by omega))
    have cT7 := hC7.cells cT (out _ (by omega))
    have hC7' : Chg σ s7 [] := hC6.trans hC7 fun x hx => .inr (hS4' x hx)
    have lt6 := cellsOf_lt cT
    have hS7' : ∀ x ∈ S7, σ.length ≤ x ∧ x ≠ s4.length ∧ x ≠ s4.length + 1 := fun x hx => by
      rcases hS7 x hx with h | h
      · exact ⟨hS4' x h, fun e => out _ (Nat.le_refl _) (e ▸ h), fun e => out _ (by omega) (e ▸ h)⟩
      · have := hC4'.1; exact ⟨by omega, by omega, by omega⟩
    simp -zeta only [extV_tup, List.getElem?_cons_zero, List.getElem?_cons_succ, optP_some, allocW_eq, optW_some]
    change optW (storeV (.p s7.length 0) _ 10 (s7 ++ [Ob.obj zeroReady])) _
    rw [storeReady]
    have cY8 := cellsOf_left cY7 [Ob.obj (Ready.zero.cs .may)]
    have cT8 := cellsOf_left cT7 [Ob.obj (Ready.zero.cs .may)]
    have hr8 : RAt (s7 ++ [Ob.obj (Ready.zero.cs .may)]) r R4 S7 := hr7.app _
    have hC8 : Chg σ (s7 ++ [Ob.obj (Ready.zero.cs .may)]) [] := hC7'.then (.app _ _ _)
    simp -zeta only [optW_some]
    generalize s7 ++ [Ob.obj (Ready.zero.cs .may)] = s8 at *
    simp -zeta only [inV, add_i64, optP_some]
    rw [wrap64 (by omega) (by omega)]
    refine .args (.cons (.refl _) (.cons (.refl _) (.cons fg_nilB .nil))) ?_
    refine raft_Lay H.toOkLy ((j : Int) + 2) [] (by simp) hr8 hok4 (by omega) fun s9 hL9 => ?_
    have hb9 : R4.layd ((j : Int) + 2) [] = (R4, Ready.zero, 1) := layd_bad (.inr (by rw [Z.commit]; omega))
    rw [hb9] at hL9 ⊢
    refine hL9.bind fun S9 hr9 hC9 hS9 => ?_
    have cY9 := hC9.cells cY8 (fun hi => (hS7' _ hi).2.1 rfl)
    have cT9 := hC9.cells cT8 (fun hi => (hS7' _ hi).2.2 rfl)
    have hC9' : Chg σ s9 [] := hC8.trans hC9 fun x hx => .inr (hS7' x hx).1
    simp -zeta only [extV_tup, List.getElem?_cons_zero, List.getElem?_cons_succ, optP_some, allocW_eq, optW_some]
    change optW (storeV (.p s9.length 0) _ 10 (s9 ++ [Ob.obj zeroReady])) _
    rw [storeReady]
    have cY10 := cellsOf_left cY9 [Ob.obj (Ready.zero.cs .may)]
    have cT10 := cellsOf_left cT9 [Ob.obj (Ready.zero.cs .may)]
    have hr10 : RAt (s9 ++ [Ob.obj (Ready.zero.cs .may)]) r R4 S9 := hr9.app _
    have hC10 : Chg σ (s9 ++ [Ob.obj (Ready.zero.cs .may)]) [] := hC9'.then (.app _ _ _)
    simp -zeta only [optW_some]
    generalize s9 ++ [Ob.obj (Ready.zero.cs .may)] = s10 at *
    refine raft_at H.toOkN i hr10 hok4.log ?_
    have hwi : R4.log.within i = false := by
      have := Z.index
      simp only [Log.within]; simp; omega
    rw [hwi]
    simp -zeta only [extV_tup, List.getElem?_cons_zero, List.getElem?_cons_succ, optP_some, allocW_eq, optW_some, Bool.false_eq_true, if_false]
    generalize (R4.log.at? i).getD noEnt = e at *
    have est : storeV (.p s10.length 0) e.v 4 (s10 ++ [Ob.obj [.n .i64 0, .n .i64 0, .l 1 [] .nil, .l 1 [] .nil]]) = some (.u, s10 ++ [Ob.obj [inV e.term, inV e.kind, bytesV e.data, intsV e.mem]]) := by simp [storeV_at]
    rw [est]
    have cY11 := cellsOf_left cY10 [Ob.obj [inV e.term, inV e.kind, bytesV e.data, intsV e.mem]]
    have cT11 := cellsOf_left cT10 [Ob.obj [inV e.term, inV e.kind, bytesV e.data, intsV e.mem]]
    have hC11 : Chg σ (s10 ++ [Ob.obj [inV e.term, inV e.kind, bytesV e.data, intsV e.mem]]) [] := hC10.then (.app _ _ _)
    simp -zeta only [optW_some]
    generalize s10 ++ [Ob.obj [inV e.term, inV e.kind, bytesV e.data, intsV e.mem]] = s11 at *
    intro k121
    clear_value k121
    obtain ⟨bs, hbs⟩ := b2s_bytes d
    have sd : y.snap.data = d := Z.snap.2.2
    have si : y.snap.index = i := Z.snap.1
    have sm : y.snap.mem = [1] := Z.snap.2.1.trans hzm
    have h5 : R4.stand.first = i + 1 := by show R4.log.index + 1 = i + 1; rw [Z.index]
    have h6 : R4.stand.last = j + 1 := Z.last.trans hlast
    have h7 : R4.stand.commit = j + 1 := Z.commit.trans f1
    have bne : binV .str .neq (.s bs) (.s bs) = some (.b false) := by simp [binV, eqOr]
    simp -zeta only [faV_p, optP_some, Nat.zero_add, Nat.reduceAdd, ldV_at, cY11, ldC_some, yc3, yc5, yc6, sd, si, sm, inV, neq_i64, decide_true, Bool.not_true, splitP_b, Bool.false_eq_true, false_implies, true_and, forall_const, hbs]
    refine law_bytes H.toOkI data ?_
    rw [← hd]
    simp -zeta only [faV_p, optP_some, Nat.zero_add, Nat.reduceAdd, ldV_at, cY11, cT11, ldC_some, yc3, yc5, yc6, sd, si, sm, inV, neq_i64, add_i64, decide_true, Bool.not_true, splitP_b, Bool.false_eq_true, false_implies, true_and, forall_const, hbs, bne, lenV_ints, List.length_cons, List.length_nil, tc4, tc5, tc6, h5, h6, h7]
    rw [wrap64 (by omega) (by omega)]
    refine ⟨fun h => absurd h (by decide), fun _ => ⟨fun h => (by simp at h), fun _ => ?_⟩⟩
    intro k181
    clear_value k181
    simp -zeta only [eql_i64, optP_some, decide_true, splitP_b, forall_const, Bool.true_eq_false, false_implies, and_true]
    obtain ⟨xs, hxs⟩ := hC11.more
    rw [hxs]
    exact .app _ (.refl _) (.b _) k
end Go.Ab

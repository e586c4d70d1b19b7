/-
  What a node of the raft does, as contracts. Each holds of a program whose functions are those of the texts.
-/
import Derived.Test.YtoecohcpkicdaaaXE
set_option linter.unusedVariables false
set_option linter.unusedSimpArgs false
set_option linter.unnecessarySimpa false
/-
  What a node of the raft does, in plain words; and what holds of it always.
-/
namespace Go.Ab

def Raft.says (R : Raft) (m : Msg) : Raft := { R with out := { R.out with msgs := R.out.msgs ++ [{ m with frm := R.id }] } }
def Msg.blank : Msg := ⟨0, 0, 0, 0, 0, 0, 0, false, [], [], []⟩

/-- What a leader sends to n. -/
def Raft.mail (R : Raft) (n : Int) : Msg :=
  let at_ := R.next n.toNat - 1
  if at_ < R.log.index then { Msg.blank with kind := 7, to := n, term := R.term, index := R.log.index, logTerm := (R.log.termOf R.log.index).1, mem := R.snap.mem, data := R.snap.data }
  else { Msg.blank with kind := 5, to := n, term := R.term, index := at_, commit := R.commit, logTerm := (R.log.termOf at_).1, ents := R.log.part (at_ + 1) 8 }
def Raft.sendTo (R : Raft) (n : Int) : Raft := R.says (R.mail n)
def Raft.others (R : Raft) (F : Raft → Int → Raft) : Raft := (R.members.filter fun n => !decide (n = R.id)).foldl F R
def Raft.asks (R : Raft) (kind term : Int) : Raft :=
  R.others fun R' n => R'.says { Msg.blank with kind := kind, to := n, term := term, index := R.log.last, logTerm := (R.log.termOf R.log.last).1 }

def Raft.mats (R : Raft) : List Int := [R.mat 0, R.mat 1, R.mat 2, R.mat 3, R.mat 4, R.mat 5, R.mat 6, R.mat 7]
/-- What most have is committed, if it is of this term. -/
def Raft.commits (R : Raft) : Raft :=
  let n := agreedOf R.members R.mats
  if R.commit < n ∧ (R.log.termOf n).2 = 0 ∧ (R.log.termOf n).1 = R.term then { R with commit := n } else R
def Raft.agree (R : Raft) : Raft :=
  if R.id ∉ R.members ∧ (R.membersTo R.log.last).2 ≤ R.commits.commit then R.commits.fallBack R.term 0 else R.commits

def Raft.lay1 (R : Raft) (x : Ent) : Raft :=
  let R1 := { R with log := { R.log with l := R.log.l ++ [x] } }
  { R1.fresh (R.log.last + 1) with mat := upN R.mat R.id.toNat (R.log.last + 1) }
def Raft.lays (R : Raft) (x : Ent) : Raft :=
  let R1 := (R.lay1 x).agree
  if R1.role = 3 then R1.others Raft.sendTo else R1
def Raft.lead1 (R : Raft) : Raft := { R.stands 3 R.id [] with next := fun _ => R.log.last + 1, mat := fun _ => 0 }
def Raft.leads (R : Raft) : Raft := R.lead1.lays ⟨R.term, 0, [], []⟩
def Raft.run1 (R : Raft) : Raft := { R with term := R.term + 1, vote := R.id }.stands 2 0 [R.id]
def Raft.runs (R : Raft) : Raft := if mostOf R.run1.members R.run1.yes then R.run1.leads else R.run1.asks 3 R.run1.term

def Raft.tick (R : Raft) : Raft :=
  if R.role ≠ 3 ∧ R.id ∉ R.members then R else
  let R1 := { R with passed := R.passed + 1 }
  if R1.role = 3 ∧ 2 ≤ R1.passed then { R1 with passed := 0 }.others Raft.sendTo
  else if R1.role = 3 ∨ R1.passed < R1.timeout then R1
  else if 1099511627776 ≤ R1.term then { R1 with passed := 0 }
  else
    let R2 := R1.stands 1 0 [R1.id]
    if mostOf R2.members R2.yes then R2.runs else R2.asks 1 (R2.term + 1)

def Log.behind (g : Log) (i t : Int) : Bool := decide ((g.termOf g.last).1 < t ∨ t = (g.termOf g.last).1 ∧ g.last ≤ i)

def Raft.pre (R : Raft) (m : Msg) : Raft :=
  let led := R.role = 3 ∨ R.lead ≠ 0 ∧ R.passed < R.timeout
  let yes := decide (R.term < m.term ∧ ¬ led ∧ R.log.behind m.index m.logTerm = true)
  R.says { Msg.blank with kind := 2, to := m.frm, term := if yes then m.term else R.term, yes := yes }

def Raft.preYes (R : Raft) (m : Msg) : Raft :=
  if m.yes = false ∧ R.term < m.term then R.fallBack m.term 0
  else if m.yes = true ∧ R.role = 1 ∧ m.term = R.term + 1 then
    let R1 := { R with yes := R.yes ++ [m.frm] }
    if mostOf R1.members R1.yes then R1.runs else R1
  else R

def Raft.late (R : Raft) (m : Msg) : Raft :=
  if m.kind = 3 then R.says { Msg.blank with kind := 4, to := m.frm, term := R.term }
  else if m.kind = 5 ∨ m.kind = 7 then R.says { Msg.blank with kind := 6, to := m.frm, term := R.term, index := R.log.last }
  else R

def Raft.base (R : Raft) (s : Snap) : Raft := { R with log := (R.log.base s.index s.term).1, snap := s, out := { R.out with snap := s } }

def Raft.follows (R : Raft) (m : Msg) : Raft :=
  if m.kind = 7 then
    let R1 := if R.commit < m.index then { R.base ⟨m.index, m.logTerm, m.mem, m.data⟩ with commit := m.index } else R
    R1.says { Msg.blank with kind := 8, to := m.frm, term := R.term, index := R1.commit }
  else if m.index < R.commit then R.says { Msg.blank with kind := 6, to := m.frm, term := R.term, yes := true, index := R.commit }
  else
    let j := R.log.join m.index m.logTerm m.ents
    let R1 := { R with log := j.1 }
    let R2 := if 0 < j.2.2.1 then R1.fresh j.2.2.1 else R1
    let R3 := if j.2.2.2 = true then { R2 with commit := max R2.commit (min m.commit j.2.1) } else R2
    R3.says { Msg.blank with kind := 6, to := m.frm, term := R.term, yes := j.2.2.2, index := j.2.1 }

def Raft.told (R : Raft) (m : Msg) : Raft :=
  let f := m.frm.toNat
  if m.kind = 6 ∧ m.yes = false then
    let R1 := { R with next := upN R.next f (max (R.mat f + 1) (min (R.next f - 1) (m.index + 1))) }
    if m.frm ∈ R1.members then R1.sendTo m.frm else R1
  else
    let R1 := { R with mat := upN R.mat f (max (R.mat f) m.index), next := upN R.next f (max (R.mat f) m.index + 1) }
    let R2 := R1.agree
    if R2.role ≠ 3 then R2
    else if R1.commit < R2.commit then R2.others Raft.sendTo
    else if R2.next f ≤ R2.log.last ∧ m.frm ∈ R2.members then R2.sendTo m.frm
    else R2

def Raft.take (R : Raft) (m : Msg) : Raft :=
  let R1 := if R.term < m.term then R.fallBack m.term 0 else R
  if m.term < R1.term then R1.late m
  else if m.kind = 3 then
    let yes := decide ((R1.vote = 0 ∨ R1.vote = m.frm) ∧ R1.lead = 0 ∧ R1.log.behind m.index m.logTerm = true)
    let R2 := if yes then { R1 with vote := m.frm }.stands 0 0 [] else R1
    R2.says { Msg.blank with kind := 4, to := m.frm, term := R2.term, yes := yes }
  else if m.kind = 4 then
    if m.yes = true ∧ R1.role = 2 then
      let R2 := { R1 with yes := R1.yes ++ [m.frm] }
      if mostOf R2.members R2.yes then R2.leads else R2
    else R1
  else if m.kind = 5 ∨ m.kind = 7 then
    if R1.role ≠ 3 then (R1.fallBack R1.term m.frm).follows m else R1
  else if m.kind = 6 ∨ m.kind = 8 then
    if R1.role = 3 ∧ m.index ≤ R1.log.last then R1.told m else R1
  else R1

/-- What is wrong with an entry, where it is written. -/
def entErr (x : Ent) : Int :=
  if x.term < 0 ∨ 1099511627776 < x.term ∨ x.kind < 0 ∨ 2 < x.kind ∨ x.mem.any (fun n => decide (n < 0)) = true then 1
  else if 4096 < x.data.length ∨ 7 < x.mem.length then 2 else 0

def Raft.odd (R : Raft) (m : Msg) : Bool :=
  [m.index, m.logTerm, m.commit, m.term].any (fun n => decide (n < 0 ∨ 1099511627776 < n)) ||
  decide (m.kind < 1 ∨ 8 < m.kind ∨ m.to ≠ R.id ∨ m.frm = R.id ∨ m.frm < 1 ∨ 7 < m.frm ∨ min 8 (1099511627776 - m.index) < m.ents.length) ||
  decide (m.kind = 7 ∧ (m.index = 0 ∨ chkMem m.mem = false)) ||
  m.ents.any fun x => decide (entErr x ≠ 0 ∨ m.term < x.term)

def Raft.takes (R : Raft) (m : Msg) : Raft :=
  if R.odd m = true then R else if m.kind = 1 then R.pre m else if m.kind = 2 then R.preYes m else R.take m

def Ready.zero : Ready := ⟨0, 0, false, ⟨0, 0, [], []⟩, 0, [], []⟩
/-- A step, and what it says. -/
def Raft.does (R : Raft) (F : Raft → Raft) : Raft × Ready :=
  let R1 := F R
  ({ R1 with out := Ready.zero }, if R1.term = R.term ∧ R1.vote = R.vote then R1.out else { R1.out with new := true, term := R1.term, vote := R1.vote })

/-! What holds always; b: a bound for what grows. -/
structure Raft.Ok (b : Nat) (R : Raft) : Prop where
  log : R.log.Ok
  len : R.log.l.length ≤ b
  term : 0 ≤ R.term ∧ R.term ≤ 1099511627776
  idx : R.log.index ≤ R.commit ∧ R.commit ≤ R.log.last
  mem : MemOk R.snap.mem
  data : R.snap.data.length ≤ 1099511627776
  yes : R.yes.length ≤ b
  passed : 0 ≤ R.passed ∧ R.passed ≤ 100
  timeout : 1 ≤ R.timeout ∧ R.timeout ≤ 100
  next : ∀ n, 0 ≤ R.next n ∧ R.next n ≤ 4398046511104
  mat : ∀ n, 0 ≤ R.mat n ∧ R.mat n ≤ 2199023255552
  msgs : R.out.msgs.length ≤ b
  lead : R.role ≠ 0 → 1 ≤ R.id ∧ R.id ≤ 7
  mems : R.role = 3 → R.members ≠ []

theorem Raft.Ok.mono {b b' : Nat} {R : Raft} (h : R.Ok b) (hb : b ≤ b') : R.Ok b' :=
  ⟨h.log, Nat.le_trans h.len hb, h.term, h.idx, h.mem, h.data, Nat.le_trans h.yes hb, h.passed, h.timeout, h.next, h.mat, Nat.le_trans h.msgs hb, h.lead, h.mems⟩
theorem Raft.Ok.snapOk {b : Nat} {R : Raft} (h : R.Ok b) : R.snap.ok := ⟨by have := h.mem.len; omega, h.data⟩

theorem says_ok {b : Nat} {R : Raft} (h : R.Ok b) (m : Msg) : (R.says m).Ok (b + 1) :=
  ⟨h.log, Nat.le_succ_of_le h.len, h.term, h.idx, h.mem, h.data, Nat.le_succ_of_le h.yes, h.passed, h.timeout, h.next, h.mat, by simp [Raft.says]; exact h.msgs, h.lead, h.mems⟩
theorem sendTo_ok {b : Nat} {R : Raft} (h : R.Ok b) (n : Int) : (R.sendTo n).Ok (b + 1) := says_ok h _

theorem foldl_ok {F : Raft → Int → Raft} (hF : ∀ b R n, Raft.Ok b R → (F R n).Ok (b + 1)) : ∀ (l : List Int) (b : Nat) (R : Raft), R.Ok b → (l.foldl F R).Ok (b + l.length)
  | [], b, R, h => h
  | n :: l, b, R, h => by
    have := foldl_ok hF l (b + 1) (F R n) (hF b R n h)
    simp only [List.foldl_cons, List.length_cons]
    exact this.mono (by omega)
theorem others_ok {F : Raft → Int → Raft} (hF : ∀ b R n, Raft.Ok b R → (F R n).Ok (b + 1)) {b : Nat} {R : Raft} (h : R.Ok b) : (R.others F).Ok (b + 7) := by
  have h1 := foldl_ok hF (R.members.filter fun n => !decide (n = R.id)) b R h
  have h2 := (members_ok h.mem).len
  have h3 := List.length_filter_le (fun n => !decide (n = R.id)) R.members
  exact h1.mono (by omega)
theorem asks_ok {b : Nat} {R : Raft} (h : R.Ok b) (kind term : Int) : (R.asks kind term).Ok (b + 7) := others_ok (fun b R n h => says_ok h _) h

theorem stands_ok {b : Nat} {R : Raft} (h : R.Ok b) (role lead : Int) (yes : List Int) (hy : yes.length ≤ b) (hl : role ≠ 0 → 1 ≤ R.id ∧ R.id ≤ 7) (hm : role = 3 → R.members ≠ []) : (R.stands role lead yes).Ok b :=
  ⟨h.log, h.len, h.term, h.idx, h.mem, h.data, hy, by simp [Raft.stands], h.timeout, h.next, h.mat, h.msgs, hl, hm⟩

theorem fallBack_ok {b : Nat} {R : Raft} (h : R.Ok b) (term lead : Int) (ht : term ≤ 1099511627776) : (R.fallBack term lead).Ok b := by
  unfold Raft.fallBack
  refine stands_ok ?_ _ _ _ (by simp) (by simp) (by simp)
  split
  · have := h.term
    exact ⟨h.log, h.len, ⟨by simp only; omega, ht⟩, h.idx, h.mem, h.data, h.yes, h.passed, h.timeout, h.next, h.mat, h.msgs, h.lead, h.mems⟩
  · exact h

theorem fresh_ok {b : Nat} {R : Raft} (h : R.Ok b) (i : Int) : (R.fresh i).Ok b :=
  ⟨h.log, h.len, h.term, h.idx, h.mem, h.data, h.yes, h.passed, h.timeout, h.next, h.mat, h.msgs, h.lead, h.mems⟩

theorem part_all (g : Log) : g.part 0 (g.last - (g.index + 1) + 1) = if 0 ≤ g.index + 1 then g.l else g.part 0 (g.last - (g.index + 1) + 1) := by
  split
  · rename_i h
    have hlast : g.last = g.index + g.l.length := rfl
    unfold Log.part
    rw [Int.max_eq_right h]
    by_cases he : g.l = []
    · rw [if_pos]
      · exact he.symm
      · left; rw [hlast, he]; simp; omega
    · have hpos : 0 < g.l.length := List.length_pos_iff.2 he
      rw [if_neg (by omega)]
      have e1 : (g.index + 1 - (g.index + 1)).toNat = 0 := by omega
      rw [e1, List.drop_zero, List.take_of_length_le (by omega)]
  · rfl

theorem members_eq {R : Raft} (h : 0 ≤ R.log.index) : R.members = (match memAt R.log.l R.log.l.length with | some (_, m) => m | none => R.snap.mem) := by
  unfold Raft.members Raft.membersTo
  have := part_all R.log
  rw [if_pos (by omega)] at this
  rw [this]
  cases memAt R.log.l R.log.l.length <;> rfl

theorem memAt_ne {l : List Ent} {n j : Nat} {m : List Int} (h : memAt l n = some (j, m)) : m ≠ [] := (chkMem_spec (memAt_spec h).1).2.2

theorem memAt_app (l : List Ent) (x : Ent) : ∀ n, n ≤ l.length → memAt (l ++ [x]) n = memAt l n
  | 0, _ => rfl
  | n + 1, h => by
    have e : (l ++ [x]).getD n default = l.getD n default := by
      simp only [List.getD]; rw [List.getElem?_append_left (by omega)]
    rw [memAt, memAt, e, memAt_app l x n (by omega)]

theorem commits_ok {b : Nat} {R : Raft} (h : R.Ok b) : R.commits.Ok b := by
  unfold Raft.commits
  simp only
  split
  · rename_i hc
    refine ⟨h.log, h.len, h.term, ?_, h.mem, h.data, h.yes, h.passed, h.timeout, h.next, h.mat, h.msgs, h.lead, h.mems⟩
    have := h.idx
    have := Log.termOf_last hc.2.1
    exact ⟨by simp only; omega, this⟩
  · exact h
theorem commits_same (R : Raft) : R.commits.role = R.role ∧ R.commits.id = R.id ∧ R.commits.term = R.term ∧ R.commits.log = R.log ∧ R.commits.snap = R.snap := by
  unfold Raft.commits; simp only; split <;> exact ⟨rfl, rfl, rfl, rfl, rfl⟩
theorem agree_ok {b : Nat} {R : Raft} (h : R.Ok b) : R.agree.Ok b := by
  unfold Raft.agree
  split
  · exact fallBack_ok (commits_ok h) _ _ h.term.2
  · exact commits_ok h

theorem lay1_ok {b : Nat} {R : Raft} (h : R.Ok b) (hb : b < 1099511627776) (x : Ent) (hx : x.ok) : (R.lay1 x).Ok (b + 1) := by
  have hlen := h.len
  have h0 := h.log.lo; have h1 := h.log.hi
  have hlast : R.log.last = R.log.index + R.log.l.length := rfl
  refine ⟨⟨⟨by simp [Raft.lay1, Raft.fresh]; omega, fun e he => ?_⟩, h.log.lo, h.log.hi⟩, by simp [Raft.lay1, Raft.fresh]; omega, h.term, ?_, h.mem, h.data, Nat.le_succ_of_le h.yes, h.passed, h.timeout, h.next, fun n => ?_, Nat.le_succ_of_le h.msgs, h.lead, fun h3 => ?_⟩
  · simp only [Raft.lay1, Raft.fresh, List.mem_append, List.mem_singleton] at he
    rcases he with he | rfl
    · exact h.log.ents.2 e he
    · exact hx
  · have := h.idx
    simp only [Raft.lay1, Raft.fresh, Log.last, List.length_append, List.length_singleton]
    constructor
    · omega
    · have : R.commit ≤ R.log.index + R.log.l.length := by rw [← hlast]; omega
      push_cast; omega
  · simp only [Raft.lay1, Raft.fresh, upN]
    split
    · omega
    · exact h.mat n
  · have hm := h.mems h3
    rw [members_eq h0] at hm
    rw [members_eq (by exact h0)]
    simp only [Raft.lay1, Raft.fresh, List.length_append, List.length_singleton]
    have e : (R.log.l ++ [x]).getD R.log.l.length default = x := by simp [List.getD]
    have e2 := memAt_app R.log.l x R.log.l.length (Nat.le_refl _)
    have e3 : memAt (R.log.l ++ [x]) (R.log.l.length + 1) = if x.kind = 2 ∧ chkMem x.mem = true then some (R.log.l.length, x.mem) else memAt R.log.l R.log.l.length := by
      rw [memAt, e, e2]
    rw [e3]
    split
    · rename_i hq
      split at hq
      · cases hq; rename_i hq2 ; exact (chkMem_spec hq2.2).2.2
      · exact memAt_ne hq
    · rename_i hq
      split at hq
      · cases hq
      · rw [hq] at hm; exact hm

theorem lays_ok {b : Nat} {R : Raft} (h : R.Ok b) (hb : b < 1099511627776) (x : Ent) (hx : x.ok) : (R.lays x).Ok (b + 8) := by
  have h1 := agree_ok (lay1_ok h hb x hx)
  unfold Raft.lays
  simp only
  split
  · exact others_ok (fun b R n h => sendTo_ok h n) h1
  · exact h1.mono (by omega)

theorem leads_ok {b : Nat} {R : Raft} (h : R.Ok b) (hb : b < 1099511627776) (hid : 1 ≤ R.id ∧ R.id ≤ 7) (hm : R.members ≠ []) : R.leads.Ok (b + 8) := by
  have h0 := h.log.lo; have h1 := h.log.hi; have h2 := h.len
  have hlast : R.log.last = R.log.index + R.log.l.length := rfl
  refine lays_ok ?_ hb _ ⟨by simp, by simp⟩
  exact ⟨h.log, h.len, h.term, h.idx, h.mem, h.data, by simp [Raft.lead1, Raft.stands], by simp [Raft.lead1, Raft.stands], h.timeout, fun n => by simp only [Raft.lead1, Raft.stands]; omega, fun n => by simp [Raft.lead1, Raft.stands], h.msgs, fun _ => hid, fun _ => hm⟩

theorem mostOf_ne {ms yes : List Int} (h : mostOf ms yes = true) : ms ≠ [] := by
  rintro rfl; simp [mostOf] at h

theorem run1_ok {b : Nat} {R : Raft} (h : R.Ok b) (hb : 1 ≤ b) (ht : R.term < 1099511627776) (hid : 1 ≤ R.id ∧ R.id ≤ 7) : R.run1.Ok b := by
  have := h.term
  exact ⟨h.log, h.len, ⟨by simp only [Raft.run1, Raft.stands]; omega, by simp only [Raft.run1, Raft.stands]; omega⟩, h.idx, h.mem, h.data, by simp [Raft.run1, Raft.stands]; omega, by simp [Raft.run1, Raft.stands], h.timeout, h.next, h.mat, h.msgs, fun _ => hid, fun h3 => by simp [Raft.run1, Raft.stands] at h3⟩

theorem runs_ok {b : Nat} {R : Raft} (h : R.Ok b) (hb : 1 ≤ b) (hb2 : b < 1099511627776) (ht : R.term < 1099511627776) (hid : 1 ≤ R.id ∧ R.id ≤ 7) : R.runs.Ok (b + 8) := by
  have h1 := run1_ok h hb ht hid
  unfold Raft.runs
  split
  · rename_i hm; exact leads_ok h1 hb2 hid (mostOf_ne hm)
  · exact (asks_ok h1 _ _).mono (by omega)

theorem tick_ok {b : Nat} {R : Raft} (h : R.Ok b) (hb : 1 ≤ b) (hb2 : b < 1099511627776) : R.tick.Ok (b + 8) := by
  unfold Raft.tick
  split
  · exact h.mono (by omega)
  · rename_i h1
    have hp := h.passed
    have ht := h.timeout
    have hid : 1 ≤ R.id ∧ R.id ≤ 7 := by
      by_cases hr : R.role = 3
      · exact h.lead (by omega)
      · have hin : R.id ∈ R.members := Classical.byContradiction fun hn => h1 ⟨hr, hn⟩
        exact (members_ok h.mem).all _ hin
    simp only
    split
    · rename_i h2
      have : ({ R with passed := 0 } : Raft).Ok b := ⟨h.log, h.len, h.term, h.idx, h.mem, h.data, h.yes, by simp, h.timeout, h.next, h.mat, h.msgs, h.lead, h.mems⟩
      exact (others_ok (fun b R n h => sendTo_ok h n) this).mono (by omega)
    · rename_i h2
      split
      · rename_i h3
        refine ⟨h.log, Nat.le_trans h.len (by omega), h.term, h.idx, h.mem, h.data, Nat.le_trans h.yes (by omega), ?_, h.timeout, h.next, h.mat, Nat.le_trans h.msgs (by omega), h.lead, h.mems⟩
        simp only
        rcases h3 with h3 | h3
        · have : ¬ 2 ≤ R.passed + 1 := fun hh => h2 ⟨h3, hh⟩
          omega
        · omega
      · split
        · exact ⟨h.log, Nat.le_trans h.len (by omega), h.term, h.idx, h.mem, h.data, Nat.le_trans h.yes (by omega), by simp, h.timeout, h.next, h.mat, Nat.le_trans h.msgs (by omega), h.lead, h.mems⟩
        · rename_i h4
          have h5 : ({ R with passed := R.passed + 1 } : Raft).stands 1 0 [R.id] |>.Ok b :=
            ⟨h.log, h.len, h.term, h.idx, h.mem, h.data, by simp [Raft.stands]; omega, by simp [Raft.stands], h.timeout, h.next, h.mat, h.msgs, fun _ => hid, fun h3 => by simp [Raft.stands] at h3⟩
          split
          · exact runs_ok h5 hb hb2 (by simpa [Raft.stands] using h4) hid
          · exact (asks_ok h5 _ _).mono (by omega)
end Go.Ab
/-
  A node of the raft: saying, sending, agreeing, laying: contracts.
-/
namespace Go.Ab

variable {E : Env}

structure OkS (E : Env) : Prop extends OkA E where
  sendTo : chkF E.P E.m (E.m 63) c_raft_Raft_sendTo = true
  asks : chkF E.P E.m (E.m 64) c_raft_Raft_asks = true
  asks1 : chkF E.P E.m (E.m 84) c_raft_Raft_asks_c1 = true
  agree : chkF E.P E.m (E.m 75) c_raft_Raft_agree = true
  lays : chkF E.P E.m (E.m 41) c_raft_Raft_lays = true
  leads : chkF E.P E.m (E.m 56) c_raft_Raft_leads = true
  runs : chkF E.P E.m (E.m 53) c_raft_Raft_runs = true
  tick : chkF E.P E.m (E.m 37) c_raft_Raft_tick = true

theorem toks_nodup (c : Cap) : c.toks.Nodup := by cases c <;> simp [Cap.toks]

theorem nd_repl {L1 L2 c c' : List Nat} {n : Nat} (h : (L1 ++ c ++ L2).Nodup) (hlt : ∀ x ∈ L1 ++ c ++ L2, x < n) (hc : c'.Nodup) (ht : ∀ t ∈ c', t ∈ c ∨ n ≤ t) : (L1 ++ c' ++ L2).Nodup := by
  simp only [List.nodup_append, List.mem_append] at *
  obtain ⟨⟨h1, h2, h3⟩, h4, h5⟩ := h
  refine ⟨⟨h1, hc, fun a ha b hb => ?_⟩, h4, fun a ha b hb => ?_⟩
  · rcases ht b hb with hb' | hb'
    · exact h3 a ha b hb'
    · have := hlt a (.inl (.inl ha)); omega
  · rcases ha with ha | ha
    · exact h5 a (.inl ha) b hb
    · rcases ht a ha with ha' | ha'
      · exact h5 a (.inr ha') b hb
      · have := hlt b (.inr hb); omega

theorem At.lt {σ : St} {r lg : Nat} {R : Raft} {cl cy cm : Cap} (h : At σ r R lg cl cy cm) : ∀ x ∈ r :: lg :: (cl.toks ++ cy.toks ++ cm.toks), x < σ.length := h.rat.lt

/-- Its messages grew. -/
theorem At.growM {σ σ' : St} {r lg : Nat} {R : Raft} {cl cy cm c' : Cap} (h : At σ r R lg cl cy cm) (hc : Chg σ σ' cm.toks) (hr : Room σ' c') (ht : ∀ t ∈ c'.toks, t ∈ cm.toks ∨ σ.length ≤ t) (xs : List Msg) :
    cellsOf σ' r = some (R.cells lg cy cm) ∧ At (σ'.set r (.obj ({ R with out := { R.out with msgs := xs } }.cells lg cy c'))) r { R with out := { R.out with msgs := xs } } lg cl cy c' := by
  have nd := h.nd
  have hlt := h.lt
  have nd' : (r :: lg :: (cl.toks ++ cy.toks ++ c'.toks)).Nodup := by
    have := nd_repl (L1 := r :: lg :: (cl.toks ++ cy.toks)) (L2 := []) (c := cm.toks) (c' := c'.toks) (n := σ.length) (by simpa using nd) (by simpa using hlt) (toks_nodup _) ht
    simpa using this
  simp only [List.nodup_cons, List.mem_cons, List.mem_append, not_or, List.nodup_append] at nd
  have hr0 : cellsOf σ' r = some (R.cells lg cy cm) := hc.cells h.raft nd.1.2.2
  have hl0 : cellsOf σ' lg = some (R.log.cells cl) := hc.cells h.log nd.2.1.2
  have keep : ∀ {c : Cap}, Room σ c → (∀ t ∈ c.toks, t ∉ cm.toks) → Room σ' c := fun hq hd => hq.of fun t ht => hc.2 t ((List.getElem?_eq_some_iff.1 (hq.at ht)).1) (hd t ht)
  have rl := keep h.rl fun t ht hm => nd.2.2.2.2 t (.inl ht) t hm rfl
  have ry := keep h.ry fun t ht hm => nd.2.2.2.2 t (.inr ht) t hm rfl
  exact ⟨hr0, nd', cellsOf_self (cellsOf_lt hr0), by rw [cellsOf_far (by simpa using nd.1.1)]; exact hl0, rl.set _ (rl.ne hr0), ry.set _ (ry.ne hr0), hr.set _ (hr.ne hr0)⟩

/-- Whoever said yes to it grew. -/
theorem At.growY {σ σ' : St} {r lg : Nat} {R : Raft} {cl cy cm c' : Cap} (h : At σ r R lg cl cy cm) (hc : Chg σ σ' cy.toks) (hr : Room σ' c') (ht : ∀ t ∈ c'.toks, t ∈ cy.toks ∨ σ.length ≤ t) (xs : List Int) :
    cellsOf σ' r = some (R.cells lg cy cm) ∧ At (σ'.set r (.obj ({ R with yes := xs }.cells lg c' cm))) r { R with yes := xs } lg cl c' cm := by
  have nd := h.nd
  have hlt := h.lt
  have nd' : (r :: lg :: (cl.toks ++ c'.toks ++ cm.toks)).Nodup := by
    have := nd_repl (L1 := r :: lg :: cl.toks) (L2 := cm.toks) (c := cy.toks) (c' := c'.toks) (n := σ.length) (by simpa using nd) (by simpa using hlt) (toks_nodup _) ht
    simpa using this
  simp only [List.nodup_cons, List.mem_cons, List.mem_append, not_or, List.nodup_append] at nd
  have hr0 : cellsOf σ' r = some (R.cells lg cy cm) := hc.cells h.raft nd.1.2.1.2
  have hl0 : cellsOf σ' lg = some (R.log.cells cl) := hc.cells h.log nd.2.1.1.2
  have keep : ∀ {c : Cap}, Room σ c → (∀ t ∈ c.toks, t ∉ cy.toks) → Room σ' c := fun hq hd => hq.of fun t ht => hc.2 t ((List.getElem?_eq_some_iff.1 (hq.at ht)).1) (hd t ht)
  have rl := keep h.rl fun t ht hm => nd.2.2.1.2.2 t ht t hm rfl
  have rm := keep h.rm fun t ht hm => nd.2.2.2.2 t (.inr hm) t ht rfl
  exact ⟨hr0, nd', cellsOf_self (cellsOf_lt hr0), by rw [cellsOf_far (by simpa using nd.1.1)]; exact hl0, rl.set _ (rl.ne hr0), hr.set _ (hr.ne hr0), rm.set _ (rm.ne hr0)⟩

/-- Its log is another one. -/
theorem At.relog {σ σ' : St} {r lg : Nat} {R : Raft} {cl cy cm c' : Cap} {g : Log} (h : At σ r R lg cl cy cm) (hc : Chg σ σ' (lg :: cl.toks)) (hr : Room σ' c') (ht : ∀ t ∈ c'.toks, t ∈ cl.toks ∨ σ.length ≤ t) (hg : cellsOf σ' lg = some (g.cells c')) :
    At σ' r { R with log := g } lg c' cy cm := by
  have nd := h.nd
  have hlt := h.lt
  have nd' : (r :: lg :: (c'.toks ++ cy.toks ++ cm.toks)).Nodup := by
    have := nd_repl (L1 := [r, lg]) (L2 := cy.toks ++ cm.toks) (c := cl.toks) (c' := c'.toks) (n := σ.length) (by simpa using nd) (by simpa using hlt) (toks_nodup _) ht
    simpa using this
  simp only [List.nodup_cons, List.mem_cons, List.mem_append, not_or, List.nodup_append] at nd
  have hr0 : cellsOf σ' r = some (R.cells lg cy cm) := hc.cells h.raft (by simp only [List.mem_cons, not_or]; exact ⟨nd.1.1, nd.1.2.1.1⟩)
  have keep : ∀ {c : Cap}, Room σ c → (∀ t ∈ c.toks, t ∉ lg :: cl.toks) → Room σ' c := fun hq hd => hq.of fun t ht => hc.2 t ((List.getElem?_eq_some_iff.1 (hq.at ht)).1) (hd t ht)
  have ry := keep h.ry fun t ht hm => by
    rcases List.mem_cons.1 hm with rfl | hm
    · exact nd.2.1.1.2 ht
    · exact nd.2.2.1.2.2 t hm t ht rfl
  have rm := keep h.rm fun t ht hm => by
    rcases List.mem_cons.1 hm with rfl | hm
    · exact nd.2.1.2 ht
    · exact nd.2.2.2.2 t (.inl hm) t ht rfl
  exact ⟨nd', hr0, hg, hr, ry, rm⟩

theorem raft_says (H : OkS E) {σ : St} {K : V → St → Prop} {r : Nat} {R : Raft} {S : List Nat} (m : Msg) (h : RAt σ r R S) (hlen : R.out.msgs.length ≤ 68719476736)
    (k : ∀ σ', Left σ r S (R.says m) σ' → K (.tup []) σ') : ACalls E 50 [.p r 0, m.v] σ K := by
  obtain ⟨lg, cl, cy, cm, rfl, h⟩ := h
  refine g_raft_Raft_says H.says ?_
  unfold p_raft_Raft_says
  have hb : boxV m.v σ = some (.p σ.length 0, σ ++ [.obj m.cs]) := rfl
  have hr1 := (h.app [.obj m.cs]).raft
  simp [hb, ldV_at, storeV_at, hr1]
  have hr2 := cellsOf_left h.raft [.obj { m with frm := R.id }.cs]
  simp [hr2]
  rw [mksV_one 11 _ _ (cells_msg _) (msg_len _) (by omega)]
  simp only [optP_some]
  have h2 := h.app [.obj { m with frm := R.id }.cs]
  refine app_room h2.rm (by omega) (by simp; omega) (by simp; omega) fun c' σ' hc hr ht => ?_
  obtain ⟨g1, g2⟩ := h2.growM hc hr ht (R.out.msgs ++ [{ m with frm := R.id }])
  simp only [storeV_at, g1, cells_l, stC_some]
  rw [show List.map Msg.v R.out.msgs ++ [Msg.v { m with frm := R.id }] = (R.out.msgs ++ [{ m with frm := R.id }]).map Msg.v by simp]
  rw [if_pos ⟨rfl, by simp⟩]
  simp only [optW_some, sp39]
  refine k _ ⟨_, g2.rat, ?_, fun x hx => ?_⟩
  · exact ((Chg.app σ _ _).trans (hc.mono fun t ht => by simp [ht]) fun x hx => .inl hx).then (.set _ (by simp))
  · simp only [List.mem_cons, List.mem_append] at hx ⊢
    rcases hx with h | h | h | h
    · exact .inl (.inl h)
    · exact .inl (.inr (.inl h))
    · exact .inl (.inr (.inr (.inl h)))
    · rcases ht x h with h | h
      · exact .inl (.inr (.inr (.inr h)))
      · right; simp at h; omega

/-- What is done with each member but the node itself. -/
theorem raft_others (H : OkS E) {σ : St} {K : V → St → Prop} {r : Nat} {R : Raft} {S : List Nat} {fv : V} {F : Raft → Int → Raft} {b : Nat} (h : RAt σ r R S) (hok : R.Ok b)
    (hF : ∀ b R n, Raft.Ok b R → (F R n).Ok (b + 1)) (hid : ∀ R n, (F R n).id = R.id)
    (hcall : ∀ (s : St) (R' : Raft) (S' : List Nat) (n : Int) (K : V → St → Prop), RAt s r R' S' → Chg σ s S → (∀ x ∈ S', x ∈ S ∨ σ.length ≤ x) → R'.Ok (b + 7) → n ∈ R.members → R'.id = R.id →
      (∀ v s', Left s r S' (F R' n) s' → K v s') → callV E fv [inV n] s K)
    (k : ∀ s', Left σ r S (R.others F) s' → K (.tup []) s') : ACalls E 62 [.p r 0, fv] σ K := by
  have h' := h
  obtain ⟨lg, cl, cy, cm, hS0, h⟩ := h
  refine g_raft_Raft_others H.others ?_
  unfold p_raft_Raft_others
  refine raft_members H.toOkR h hok.log ?_
  have hml := (members_ok hok.mem).len
  simp -zeta only [lenV_ints, optP_some]
  have hlast : R.others F = ((R.members.take R.members.length).filter fun n => !decide (n = R.id)).foldl F R := by simp [Raft.others]
  have hpre : ∀ j, (((R.members.take j).filter fun n => !decide (n = R.id)).foldl F R).Ok (b + 7) ∧ (((R.members.take j).filter fun n => !decide (n = R.id)).foldl F R).id = R.id := by
    have gen : ∀ (l : List Int) (R0 : Raft), (l.foldl F R0).id = R0.id := by
      intro l
      induction l with
      | nil => intro R0; rfl
      | cons n l ih => intro R0; exact (ih _).trans (hid _ _)
    refine fun j => ⟨(foldl_ok hF _ b R hok).mono ?_, gen _ _⟩
    have := List.length_filter_le (fun n => !decide (n = R.id)) (R.members.take j)
    simp at this; omega
  refine ⟨fun n vs s => ∃ j : Nat, vs = [inV j] ∧ j ≤ R.members.length ∧ n = R.members.length - j ∧ Left σ r S (((R.members.take j).filter fun n => !decide (n = R.id)).foldl F R) s,
    ⟨_, 0, rfl, Nat.zero_le _, rfl, .self h'⟩, ?_⟩
  rintro n x7 s ⟨j, hvs, hj, hn, hL⟩
  simp only [List.cons.injEq, and_true] at hvs
  obtain rfl := hvs
  simp -zeta only [inV, lss_i64, optP_some, splitP_b]
  refine ⟨fun hlt => ?_, fun hge => ?_⟩
  · have hj2 : j < R.members.length := by simpa using hlt
    intro k11
    have htk : R.members.take (j + 1) = R.members.take j ++ [R.members[j]] := by rw [List.take_add_one]; simp [hj2]
    have hk11 : ∀ s', Left σ r S (((R.members.take (j + 1)).filter fun n => !decide (n = R.id)).foldl F R) s' → k11 s' := by
      intro s' hL'
      simp only [k11, add_i64, optP_some]
      rw [wrap64 (by omega) (by omega)]
      exact ⟨trivial, trivial, trivial, trivial, R.members.length - (j + 1), by omega, j + 1, by push_cast; rfl, by omega, rfl, hL'⟩
    clear_value k11
    obtain ⟨S', hA, hC, hS⟩ := hL
    obtain ⟨lg', cl', cy', cm', hS1, hA'⟩ := id hA
    have hg : iasV (intsV R.members) (.n .i64 j) 1 = some (.ep (inV R.members[j])) := by
      have : (0 : Int) ≤ j ∧ (j : Int) < (R.members.length : Int) := ⟨by omega, by omega⟩
      simp [intsV, this, List.getD, hj2, inV]
    obtain ⟨p1, p2⟩ := hpre j
    generalize hRj : (((R.members.take j).filter fun n => !decide (n = R.id)).foldl F R) = Rj at *
    simp -zeta [hg, ldV_at, hA'.raft, inV, p2]
    have hmem : R.members[j] ∈ R.members := by simp
    refine ⟨fun hne => ?_, fun he => ?_⟩
    · refine hcall s Rj _ _ _ hA hC hS p1 hmem p2 fun v s' hL' => hk11 s' ?_
      rw [htk, List.filter_append, List.foldl_append, hRj]
      simp [hne]
      exact .trans hC hS hL'
    · refine hk11 s ?_
      rw [htk, List.filter_append, List.foldl_append, hRj]
      simp [he]
      exact ⟨_, hA, hC, hS⟩
  · have : j = R.members.length := by simp at hge; omega
    subst this
    rw [← hlast] at hL
    exact k _ hL

theorem fg_nilE {m : Nat → FuncId} : FgV m (.l 4 [] .nil) (entsV []) := .may _ _ _
theorem fg_nilI {m : Nat → FuncId} : FgV m (.l 1 [] .nil) (intsV []) := .may _ _ _
theorem fg_nilB {m : Nat → FuncId} : FgV m (.l 1 [] .nil) (bytesV []) := .may _ _ _

theorem raft_says' (H : OkS E) {σ : St} {K : V → St → Prop} {r : Nat} {R : Raft} {S : List Nat} (m : Msg) {cs : List V} (hfg : FgP E.m cs m.cs) (h : RAt σ r R S) (hlen : R.out.msgs.length ≤ 68719476736)
    (k : ∀ σ', Left σ r S (R.says m) σ' → K (.tup []) σ') : ACalls E 50 [.p r 0, .agg cs] σ K :=
  .args (.cons (.refl _) (.cons (.agg hfg) .nil)) (raft_says H m h hlen k)

theorem raft_sendTo (H : OkS E) {σ : St} {K : V → St → Prop} {r : Nat} {R : Raft} {S : List Nat} {b : Nat} (n : Int) (h : RAt σ r R S) (hok : R.Ok b) (hb : b ≤ 68719476736) (h0 : 0 ≤ n) (h1 : n < 8)
    (k : ∀ σ', Left σ r S (R.sendTo n) σ' → K (.tup []) σ') : ACalls E 63 [.p r 0, inV n] σ K := by
  have h' := h
  obtain ⟨lg, cl, cy, cm, hS0, h⟩ := h
  refine g_raft_Raft_sendTo H.sendTo ?_
  unfold p_raft_Raft_sendTo
  obtain ⟨q, rfl⟩ := Int.eq_ofNat_of_zero_le h0
  have hq : q < 8 := by omega
  have hr := h.raft
  have hnx := hok.next q
  have hlo := hok.log.lo; have hhi := hok.log.hi
  have hpn := rc_next R lg cy cm hq
  have hia : iaaV (.p r 14) (inV (q : Int)) 8 2 = some (.p r (14 + q * 2)) := by
    simp only [iaaV, inV]; rw [if_pos ⟨by omega, by omega⟩, Int.toNat_natCast]
  have hr2 : ∀ xs, cellsOf (σ ++ xs) r = some (R.cells lg cy cm) := fun xs => cellsOf_left hr xs
  have hl2 : ∀ xs, cellsOf (σ ++ xs) lg = some (R.log.cells cl) := fun xs => cellsOf_left h.log xs
  have hsub : binV .num .sub (inV (R.next q)) (.n .i64 1) = some (inV (R.next q - 1)) := by
    simp only [inV, sub_i64]; rw [wrap64 (by omega) (by omega)]
  simp -zeta only [nilV_p, faV_p, optP_some, optW_some, allocW_eq, Nat.zero_add, Nat.add_zero, true_and, hia, ldV_at, hr, ldC_some, hpn, rc1, rc6, hsub]
  refine optP_of (v := .agg [inV 5, inV 0, inV q, inV R.term, inV (R.next q - 1), inV 0, inV R.commit, .b false, .l 4 [] .nil, .l 1 [] .nil, .l 1 [] .nil]) rfl ?_
  have hstore : ∀ (s : St) (cs0 cs : List V), cs0.length = 11 → cs.length = 11 → storeV (.p s.length 0) (.agg cs) 11 (s ++ [.obj cs0]) = some (.u, s ++ [.obj cs]) := by
    intro s cs0 cs q0 q1
    rw [storeV_at, cellsOf_push, cells_agg, stC_some, if_pos ⟨q1, by omega⟩, set_right0]
    congr 3
    have := splice_app cs [] cs0 (by omega)
    simp only [List.nil_append, List.length_nil] at this
    simp only [List.set_cons_zero, this, List.drop_of_length_le (show cs0.length ≤ cs.length by omega), List.append_nil]
  simp -zeta only [hr2, hstore, List.length_cons, List.length_nil, Nat.reduceAdd, optW_some, ldC_some, rc1, rc6, true_and]
  intro k32
  have fin : ∀ (m : Msg) (cs : List V) (xs : St), cs.length = 11 → FgP E.m cs m.cs → R.says m = R.sendTo q → k32 (σ ++ (.obj cs :: xs)) := by
    intro m cs xs hcl hfg hm
    simp only [k32]
    have e : ldC 0 11 true (cellsOf (σ ++ (.obj cs :: xs)) σ.length) = some (.agg cs) := by
      rw [cellsOf_right0]; simp [partV, hcl]
      exact List.take_of_length_le (by omega)
    simp only [e, optP_some]
    refine raft_says' H m hfg (h'.app _) (by have := hok.msgs; omega) fun σ' hL => k σ' ?_
    rw [← hm]
    exact .trans (.app _ _ _) (fun x hx => .inl hx) hL
  clear_value k32
  simp -zeta only [nilV_p, faV_p, optP_some, hr2, ldC_some, rc5, Nat.zero_add]
  refine log_first H.toOkL (hl2 _) hok.log ?_
  simp -zeta only [inV, sub_i64, optP_some, lss_i64, splitP_b]
  rw [show R.log.index + 1 - 1 = R.log.index by omega, wrap64 (by omega) (by omega)]
  have hnat : ((q : Int)).toNat = q := Int.toNat_natCast q
  refine ⟨fun hlt => ?_, fun hge => ?_⟩
  · have hlt' : R.next q - 1 < R.log.index := by simpa using hlt
    have hm : R.mail q = { Msg.blank with kind := 7, to := q, term := R.term, index := R.log.index, logTerm := (R.log.termOf R.log.index).1, mem := R.snap.mem, data := R.snap.data } := by
      unfold Raft.mail; rw [hnat]; simp only; rw [if_pos hlt']
    simp -zeta only [hr2, ldC_some, rc7, optP_some]
    refine own_snap H.toOkR _ hok.snapOk ?_
    simp -zeta [hr2, storeV_at]
    refine log_term H.toOkL _ (hl2 _) hok.log ?_
    simp -zeta [hr2]
    refine optP_of (v := intsV R.snap.mem) rfl ?_
    refine optP_of (v := bytesV R.snap.data) (by rw [cellsOf_right]; rfl) ?_
    refine optP_of (v := .agg [inV 7, inV 0, inV q, inV R.term, inV R.log.index, inV (R.log.termOf R.log.index).1, inV 0, .b false, .l 4 [] .nil, intsV R.snap.mem, bytesV R.snap.data]) rfl ?_
    simp
    exact fin (R.mail q) _ _ rfl (hm ▸ .cons (.refl _) (.cons (.refl _) (.cons (.refl _) (.cons (.refl _) (.cons (.refl _) (.cons (.refl _) (.cons (.refl _) (.cons (.refl _) (.cons fg_nilE (.cons (.refl _) (.cons (.refl _) .nil))))))))))) rfl
  · have hge' : ¬ R.next q - 1 < R.log.index := by simpa using hge
    have hm : R.mail q = { Msg.blank with kind := 5, to := q, term := R.term, index := R.next q - 1, commit := R.commit, logTerm := (R.log.termOf (R.next q - 1)).1, ents := R.log.part (R.next q) 8 } := by
      unfold Raft.mail; rw [hnat]; simp only; rw [if_neg hge', Int.sub_add_cancel]
    simp -zeta only [hr2, ldC_some, rc5, optP_some]
    refine log_term H.toOkL _ (hl2 _) hok.log ?_
    simp -zeta [hr2, storeV_at]
    rw [wrap64 (by omega) (by omega)]
    refine log_from H.toOkL _ _ (hl2 _) hok.log ?_
    simp [storeV_at]
    exact fin (R.mail q) _ [] rfl (hm ▸ .cons (.refl _) (.cons (.refl _) (.cons (.refl _) (.cons (.refl _) (.cons (.refl _) (.cons (.refl _) (.cons (.refl _) (.cons (.refl _) (.cons (.refl _) (.cons fg_nilI (.cons fg_nilB .nil))))))))))) rfl
end Go.Ab
/-
  A node of the raft: asking, agreeing, laying, leading, ticking: contracts.
-/
namespace Go.Ab

variable {E : Env}

theorem raft_asks_c1 (H : OkS E) {σ : St} {K : V → St → Prop} {r l0 l1 l2 l3 l4 : Nat} {R : Raft} {S : List Nat} (n kind term index last : Int) (h : RAt σ r R S) (hlen : R.out.msgs.length ≤ 68719476736)
    (h0 : cellsOf σ l0 = some [.p r 0]) (h1 : cellsOf σ l1 = some [inV kind]) (h2 : cellsOf σ l2 = some [inV term]) (h3 : cellsOf σ l3 = some [inV index]) (h4 : cellsOf σ l4 = some [inV last])
    (k : ∀ σ', Left σ r S (R.says { Msg.blank with kind := kind, to := n, term := term, index := index, logTerm := last }) σ' → K (.tup []) σ') :
    ACalls E 84 [inV n, .p l0 0, .p l1 0, .p l2 0, .p l3 0, .p l4 0] σ K := by
  refine g_raft_Raft_asks_c1 H.asks1 ?_
  unfold p_raft_Raft_asks_c1
  simp only [ldV_at, h0, h1, h2, h3, h4, ldC_some]
  refine optP_of (v := .p r 0) rfl ?_
  refine optP_of (v := inV kind) (by rw [h1]; rfl) ?_
  refine optP_of (v := inV term) (by rw [h2]; rfl) ?_
  refine optP_of (v := inV index) (by rw [h3]; rfl) ?_
  refine optP_of (v := inV last) (by rw [h4]; rfl) ?_
  refine optP_of (v := .agg [inV kind, inV 0, inV n, inV term, inV index, inV last, inV 0, .b false, .l 4 [] .nil, .l 1 [] .nil, .l 1 [] .nil]) rfl ?_
  refine raft_says' H _ ?_ h hlen k
  exact .cons (.refl _) (.cons (.refl _) (.cons (.refl _) (.cons (.refl _) (.cons (.refl _) (.cons (.refl _) (.cons (.refl _) (.cons (.refl _) (.cons fg_nilE (.cons fg_nilI (.cons fg_nilB .nil))))))))))

theorem raft_asks (H : OkS E) {σ : St} {K : V → St → Prop} {r : Nat} {R : Raft} {S : List Nat} {b : Nat} (kind term : Int) (h : RAt σ r R S) (hok : R.Ok b) (hb : b + 7 ≤ 68719476736)
    (k : ∀ σ', Left σ r S (R.asks kind term) σ' → K (.tup []) σ') : ACalls E 64 [.p r 0, inV kind, inV term] σ K := by
  refine g_raft_Raft_asks H.asks ?_
  unfold p_raft_Raft_asks
  simp [ldV_at, partV]
  obtain ⟨lg, cl, cy, cm, hS0, h'⟩ := id h
  refine raft_end H.toOkR (h'.app _) hok.log ?_
  simp [storeV_at, ldV_at, partV, Nat.add_assoc]
  have hx := h.lt
  refine raft_others H (h.app _) hok (F := fun R' n => R'.says { Msg.blank with kind := kind, to := n, term := term, index := R.log.last, logTerm := (R.log.termOf R.log.last).1 }) (fun b R n h => says_ok h _) (fun _ _ => rfl) ?_ ?_
  · intro s R' S' n K hA hC hS hok' hn hid k'
    have out : ∀ i, σ.length + i ∉ S := fun i hi => by have := hx _ hi; omega
    have out0 : σ.length ∉ S := fun hi => by have := hx _ hi; omega
    simp only [callV, List.nil_append, List.cons_append]
    refine raft_asks_c1 H n kind term R.log.last (R.log.termOf R.log.last).1 hA (by have := hok'.msgs; omega) (hC.cells ?_ out0) (hC.cells ?_ (out 1)) (hC.cells ?_ (out 2)) (hC.cells ?_ (out 3)) (hC.cells ?_ (out 4)) fun s' hL => k' _ s' hL
    all_goals simp
  · intro s' hL
    exact k s' (.trans (.app _ _ _) (fun x hx => .inl hx) hL)

theorem mats_get (R : Raft) {j : Nat} (hj : j < 8) : R.mats.getD j 0 = R.mat j := by
  match j, hj with
  | 0, _ | 1, _ | 2, _ | 3, _ | 4, _ | 5, _ | 6, _ | 7, _ => rfl
theorem peers_get (R : Raft) {j : Nat} (hj : j < 8) : partV R.peers (j * 2) 2 true = some (.agg [inV (R.next j), inV (R.mat j)]) := by
  match j, hj with
  | 0, _ | 1, _ | 2, _ | 3, _ | 4, _ | 5, _ | 6, _ | 7, _ => rfl

theorem mats_step (l : List Int) (j : Nat) (hj : j < 8) (hl : l.length = 8) : ((l.take j).map inV ++ List.replicate (8 - j) (inV 0)).set j (inV (l.getD j 0)) = (l.take (j + 1)).map inV ++ List.replicate (8 - (j + 1)) (inV 0) := by
  have h1 : ((l.take j).map inV).length = j := by simp; omega
  rw [List.set_append_right _ _ (by omega), h1, Nat.sub_self]
  obtain ⟨q, hq⟩ : ∃ q, 8 - j = q + 1 := ⟨8 - j - 1, by omega⟩
  rw [hq, show 8 - (j + 1) = q by omega, List.replicate_succ, List.set_cons_zero]
  have h2 : l.take (j + 1) = l.take j ++ [l.getD j 0] := by rw [List.take_add_one]; simp [List.getD, show j < l.length by omega]
  rw [h2]; simp

theorem raft_agree (H : OkS E) {σ : St} {K : V → St → Prop} {r : Nat} {R : Raft} {S : List Nat} {b : Nat} (h : RAt σ r R S) (hok : R.Ok b) (hb : b ≤ 68719476736) (hne : R.members ≠ [])
    (k : ∀ σ', Left σ r S R.agree σ' → K (.tup []) σ') : ACalls E 75 [.p r 0] σ K := by
  refine g_raft_Raft_agree H.agree ?_
  unfold p_raft_Raft_agree
  obtain ⟨lg, cl, cy, cm, hS0, h'⟩ := id h
  have hr : ∀ xs, cellsOf (σ ++ xs) r = some (R.cells lg cy cm) := fun xs => cellsOf_left h'.raft xs
  have hlg : ∀ xs, cellsOf (σ ++ xs) lg = some (R.log.cells cl) := fun xs => cellsOf_left h'.log xs
  have hlast : R.log.last = R.log.index + R.log.l.length := rfl
  have a0 := hok.log.lo; have a1 := hok.log.hi; have a2 := hok.log.ents.1
  simp -zeta [ldV_at, hr]
  refine ⟨fun n vs s => ∃ (j : Nat) (xs : St), vs = [inV j] ∧ j ≤ 8 ∧ n = 8 - j ∧ s = σ ++ (.obj ((R.mats.take j).map inV ++ List.replicate (8 - j) (inV 0)) :: xs),
    ⟨_, 0, [], rfl, by omega, rfl, by simp [List.replicate]⟩, ?_⟩
  rintro n x11 s ⟨j, xs, hvs, hj, hn, rfl⟩
  simp only [List.cons.injEq, and_true] at hvs
  obtain rfl := hvs
  simp -zeta only [inV, lss_i64, optP_some, splitP_b]
  refine ⟨fun hlt => ?_, fun hge => ?_⟩
  · have hj2 : j < 8 := by simp at hlt; omega
    have hix : ixaV (.agg R.peers) (.n .i64 (j : Int)) 8 2 true = some (.agg [inV (R.next j), inV (R.mat j)]) := by
      simp only [ixaV]; rw [if_pos ⟨by omega, by omega⟩, Int.toNat_natCast]; exact peers_get R hj2
    have hia : iaaV (.p σ.length 0) (.n .i64 (j : Int)) 8 1 = some (.p σ.length j) := by
      simp only [iaaV]; rw [if_pos ⟨by omega, by omega⟩, Int.toNat_natCast]; simp
    simp only [hix, hia, optP_some]
    simp [storeV_at, partV]
    rw [wrap64 (by omega) (by omega)]
    have hml : R.mats.length = 8 := rfl
    refine ⟨by omega, 8 - (j + 1), by omega, j + 1, by push_cast; rfl, by omega, rfl, ?_⟩
    have := mats_step R.mats j hj2 rfl
    rw [mats_get R hj2] at this
    simpa only [inV, List.map_take] using this
  · have hj8 : j = 8 := by simp at hge; omega
    subst hj8
    have hobj : (R.mats.take 8).map inV ++ List.replicate (8 - 8) (inV 0) = R.mats.map inV := by simp [Raft.mats]
    rw [hobj]
    simp -zeta only [hr, ldC_some, rc5, optP_some]
    refine log_last H.toOkL (hlg _) hok.log ?_
    refine raft_membersTo H.toOkR _ (h'.app _) hok.log (by omega) (by omega) ?_
    simp -zeta only [extV_tup, List.getElem?_cons_zero, List.getElem?_cons_succ, optP_some]
    have hsl : slcaV (.p σ.length 0) 8 1 false (σ ++ (.obj (R.mats.map inV) :: xs)) = some (.l 1 (R.mats.map inV) .full, σ ++ (.dead :: xs)) := by
      simp [slcaV, Raft.mats, chunks]
    simp -zeta only [hsl, optW_some]
    have hmo := members_ok hok.mem
    refine .args (.cons (.refl _) (.cons (FgV.may _ _ _) .nil)) (quorum_agreed H.toOkA _ _ hne (fun x hx => by have := hmo.all x hx; omega) hmo.len (by simp [Raft.mats]) ?_)
    intro k49
    have hmem : (R.membersTo R.log.last).1 = R.members := rfl
    have hk49 : ∀ (σ1 : St) (R1 : Raft), R1 = R.commits → At σ1 r R1 lg cl cy cm → Chg σ σ1 S → k49 σ1 := by
      rintro σ1 R1 hR1 h1 hc
      have hcs := commits_same R
      simp only [k49, ldV_at, h1.raft, ldC_some, rc0, optP_some, hmem]
      have hid : R1.id = R.id := by rw [hR1]; exact hcs.2.1
      have htm : R1.term = R.term := by rw [hR1]; exact hcs.2.2.1
      rw [hid]
      refine quorum_has H.toOkH _ _ (by have := hmo.len; omega) ?_
      simp only [splitP_b]
      have fin : R.agree = R1 → K (.tup []) σ1 := fun he => k _ ⟨_, he ▸ h1.rat, hc, fun x hx => .inl (hS0 ▸ hx)⟩
      refine ⟨fun hin => fin ?_, fun hout => ?_⟩
      · have hin' : R.id ∈ R.members := by simpa using hin
        rw [Raft.agree, if_neg (by simp [hin']), hR1]
      · have hout' : R.id ∉ R.members := by simpa using hout
        simp only [h1.raft, ldC_some, rc6, optP_some, leq_i64, splitP_b, inV]
        refine ⟨fun hle => ?_, fun hgt => fin ?_⟩
        · have hle' : (R.membersTo R.log.last).2 ≤ R.commits.commit := by rw [← hR1]; simpa using hle
          simp only [ldC_some, rc1, rc1', optP_some, h1.raft]
          refine raft_fallBack H.toOkR _ _ (hS0 ▸ h1.rat) fun σ' hL => k σ' ?_
          rw [Raft.agree, if_pos ⟨hout', hle'⟩, ← hR1, ← htm]
          exact .trans hc (fun x hx => .inl hx) hL
        · have hgt' : ¬ (R.membersTo R.log.last).2 ≤ R.commits.commit := by rw [← hR1]; simpa using hgt
          rw [Raft.agree, if_neg (by simp [hgt']), hR1]
    clear_value k49
    have hd := h'.app (.dead :: xs)
    have hCd : Chg σ (σ ++ (.dead :: xs)) S := .app _ _ _
    simp -zeta only [hd.raft, ldC_some, rc5, optP_some]
    have hag : agreedOf (R.membersTo R.log.last).1 R.mats = agreedOf R.members R.mats := rfl
    rw [hag]
    generalize hn : agreedOf R.members R.mats = n at *
    refine log_term H.toOkL _ hd.log hok.log ?_
    simp -zeta only [extV_tup, List.getElem?_cons_zero, List.getElem?_cons_succ, optP_some]
    intro k91
    have hcm : R.commits = if R.commit < n ∧ (R.log.termOf n).2 = 0 ∧ (R.log.termOf n).1 = R.term then { R with commit := n } else R := by unfold Raft.commits; rw [hn]
    have hk91 : ¬ (R.commit < n ∧ (R.log.termOf n).2 = 0 ∧ (R.log.termOf n).1 = R.term) → k91 (σ ++ (.dead :: xs)) := fun hc => hk49 _ R (by rw [hcm, if_neg hc]) hd hCd
    clear_value k91
    simp -zeta only [hd.raft, ldC_some, rc1, rc1', rc6, optP_some, inV, gtr_i64, eql_i64, splitP_b]
    refine ⟨fun c1 => ⟨fun c2 => ⟨fun c3 => ?_, fun c3 => hk91 (by simp at c3; simp [c3])⟩, fun c2 => hk91 (by simp at c2; simp [c2])⟩, fun c1 => hk91 (by simp at c1; simp; omega)⟩
    simp at c1 c2 c3
    simp -zeta only [storeV_at, hd.raft, cells_n, stC_some, List.length_cons, List.length_nil, rc_len, sp6]
    simp -zeta
    exact hk49 _ _ (by rw [hcm, if_pos ⟨c1, c2, c3⟩]) (hd.set (R' := { R with commit := n }) rfl) (hCd.then (.set _ (by rw [hS0]; simp)))
end Go.Ab
/-
  A node of the raft: laying, leading, running, ticking: contracts.
-/
namespace Go.Ab

variable {E : Env}

/-- What is set in the node alone. -/
theorem Left.set {σ : St} {r lg : Nat} {R R' : Raft} {cl cy cm : Cap} {S : List Nat} (hS : S = r :: lg :: (cl.toks ++ cy.toks ++ cm.toks)) (h : At σ r R lg cl cy cm) (hl : R'.log = R.log) : Left σ r S R' (σ.set r (.obj (R'.cells lg cy cm))) :=
  ⟨S, hS ▸ (h.set hl).rat, .set _ (by rw [hS]; simp), fun _ hx => .inl hx⟩
/-- One step behind another. -/
theorem Left.bind {a b : St} {r : Nat} {S : List Nat} {R : Raft} (h : Left a r S R b) {p : Prop} (k : ∀ S', RAt b r R S' → Chg a b S → (∀ x ∈ S', x ∈ S ∨ a.length ≤ x) → p) : p := by
  obtain ⟨S', h1, h2, h3⟩ := h; exact k S' h1 h2 h3

theorem raft_sends (H : OkS E) {σ : St} {K : V → St → Prop} {r : Nat} {R : Raft} {S : List Nat} {b : Nat} (h : RAt σ r R S) (hok : R.Ok b) (hb : b + 7 ≤ 68719476736)
    (k : ∀ σ', Left σ r S (R.others Raft.sendTo) σ' → K (.tup []) σ') : ACalls E 62 [.p r 0, .f 63 [.p r 0] []] σ K := by
  have hmo := members_ok hok.mem
  refine raft_others H h hok (F := Raft.sendTo) (fun b R n h => sendTo_ok h n) (fun _ _ => rfl) ?_ k
  intro s R' S' n K hA hC hS hok' hn hid k'
  have := hmo.all n hn
  simp only [callV, List.nil_append, List.cons_append]
  exact raft_sendTo H n hA hok' hb (by omega) (by omega) fun s' hL => k' _ s' hL

theorem raft_lays (H : OkS E) {σ : St} {K : V → St → Prop} {r : Nat} {R : Raft} {S : List Nat} {b : Nat} (x : Ent) {cs : List V} (hfg : FgP E.m cs [inV x.term, inV x.kind, bytesV x.data, intsV x.mem]) (hcl : cs.length = 4) (h : RAt σ r R S) (hok : R.Ok b) (hb : b + 8 ≤ 68719476736) (hx : x.ok) (hid : 1 ≤ R.id ∧ R.id ≤ 7)
    (hne : (R.lay1 x).members ≠ []) (k : ∀ σ', Left σ r S (R.lays x) σ' → K (inV (R.log.last + 1)) σ') : ACalls E 41 [.p r 0, .agg cs] σ K := by
  have hlen := hok.len
  have hfv : FgV E.m (.agg cs) x.v := .agg hfg
  refine g_raft_Raft_lays H.lays ?_
  unfold p_raft_Raft_lays
  obtain ⟨lg, cl, cy, cm, hS0, h'⟩ := id h
  have h1 := h'.app [.obj cs]
  have e : partV cs 0 4 true = some (.agg cs) := by simp [partV, hcl]; exact List.take_of_length_le (by omega)
  simp -zeta [ldV_at, h1.raft, e]
  refine .args (.cons (.refl _) (.cons hfv .nil)) (log_append H.toOkM x h1.log hok.log (by omega) hx h1.rl fun σ2 cl2 hC hR ht hcell => ?_)
  have h2 := h1.relog hC hR ht hcell
  have hC2 : Chg σ σ2 S := (Chg.app σ _ S).then (hC.mono fun t ht => by rw [hS0]; simp at ht ⊢; rcases ht with h | h <;> simp [h])
  have hS2 : ∀ x ∈ r :: lg :: (cl2.toks ++ cy.toks ++ cm.toks), x ∈ S ∨ σ.length ≤ x := by
    intro y hy
    rw [hS0]
    simp only [List.mem_cons, List.mem_append] at hy ⊢
    rcases hy with h | h | (h | h) | h
    · simp [h]
    · simp [h]
    · rcases ht y h with h | h
      · simp [h]
      · right; simp at h; omega
    · simp [h]
    · simp [h]
  have hlast : R.log.last = R.log.index + R.log.l.length := rfl
  have hlok : Log.Ok { R.log with l := R.log.l ++ [x] } := (lay1_ok hok (by omega) x hx).log
  refine raft_fresh H.toOkR _ h2.rat hlok fun σ3 hL3 => ?_
  obtain ⟨R1, hR1⟩ : ∃ R1, R1 = Raft.fresh { R with log := { R.log with l := R.log.l ++ [x] } } (R.log.last + 1) := ⟨_, rfl⟩
  rw [← hR1] at hL3
  refine hL3.bind fun S3 h3 hC3 hS3 => ?_
  obtain ⟨lg3, cl3, cy3, cm3, hS30, h3'⟩ := id h3
  simp -zeta only [h3'.raft, ldC_some, rc0, optP_some]
  obtain ⟨q, hq⟩ : ∃ q : Nat, R.id = q := ⟨R.id.toNat, by omega⟩
  have hq8 : q < 8 := by omega
  have hidf : R1.id = R.id := by rw [hR1]; rfl
  have hia : iaaV (.p r 14) (inV R.id) 8 2 = some (.p r (14 + q * 2)) := by
    rw [hq]; simp only [iaaV, inV]; rw [if_pos ⟨by omega, by omega⟩, Int.toNat_natCast]
  rw [hidf]
  have hsm := sp_mat R1 lg3 cy3 cm3 hq8 (R.log.last + 1)
  simp -zeta only [hia, optP_some, faV_p, storeV_at, h3'.raft, cells_n, stC_some, rc_len, hsm, List.length_cons, List.length_nil]
  rw [if_pos (by constructor <;> first | trivial | omega)]
  simp -zeta only [optW_some]
  have hlay : { R1 with mat := upN R1.mat q (R.log.last + 1) } = R.lay1 x := by
    rw [hR1]; simp only [Raft.lay1, Raft.fresh, hq, Int.toNat_natCast]
  have hL4 : Left σ3 r S3 (R.lay1 x) (σ3.set r (.obj ((R.lay1 x).cells lg3 cy3 cm3))) := .set hS30 h3' (by rw [← hlay])
  rw [hlay]
  refine hL4.bind fun S4 h4 hC4 hS4 => ?_
  have hok1 := lay1_ok hok (by omega) x hx
  refine raft_agree H h4 hok1 (by omega) hne fun σ5 hL5 => hL5.bind fun S5 h5 hC5 hS5 => ?_
  intro k32
  have step : ∀ σ6, Left σ5 r S5 (R.lays x) σ6 → K (inV (R.log.last + 1)) σ6 := fun σ6 hL6 =>
    k σ6 (.trans hC2 hS2 (.trans hC3 hS3 (.trans hC4 hS4 (.trans hC5 hS5 hL6))))
  have hok5 := agree_ok hok1
  obtain ⟨lg5, cl5, cy5, cm5, hS50, h5'⟩ := id h5
  simp -zeta only [h5'.raft, ldC_some, rc3, optP_some, eql_i64, splitP_b, inV]
  refine ⟨fun h3 => ?_, fun h3 => ?_⟩
  · have h3' : (R.lay1 x).agree.role = 3 := by simpa using h3
    refine raft_sends H h5 hok5 (by omega) fun σ6 hL6 => ?_
    simp only [k32]
    refine step σ6 ?_
    unfold Raft.lays; simp only; rw [if_pos h3']; exact hL6
  · have h3' : ¬ (R.lay1 x).agree.role = 3 := by simpa using h3
    simp only [k32]
    refine step σ5 ?_
    unfold Raft.lays; simp only; rw [if_neg h3']; exact .self h5

theorem lay1_members {b : Nat} {R : Raft} (h : R.Ok b) (hb : b < 1099511627776) (hm : R.members ≠ []) (x : Ent) (hx : x.ok) : (R.lay1 x).members ≠ [] := by
  by_cases hid : 1 ≤ R.id ∧ R.id ≤ 7
  · have : ({ R with role := 3 } : Raft).Ok b := ⟨h.log, h.len, h.term, h.idx, h.mem, h.data, h.yes, h.passed, h.timeout, h.next, h.mat, h.msgs, fun _ => hid, fun _ => hm⟩
    exact (lay1_ok this hb x hx).mems rfl
  · have : ({ R with role := 3, id := 1 } : Raft).Ok b := ⟨h.log, h.len, h.term, h.idx, h.mem, h.data, h.yes, h.passed, h.timeout, h.next, h.mat, h.msgs, fun _ => ⟨by simp, by simp⟩, fun _ => hm⟩
    exact (lay1_ok this hb x hx).mems rfl

theorem raft_leads (H : OkS E) {σ : St} {K : V → St → Prop} {r : Nat} {R : Raft} {S : List Nat} {b : Nat} (h : RAt σ r R S) (hok : R.Ok b) (hb : b + 8 ≤ 68719476736) (hid : 1 ≤ R.id ∧ R.id ≤ 7) (hm : R.members ≠ [])
    (k : ∀ σ', Left σ r S R.leads σ' → K (.tup []) σ') : ACalls E 56 [.p r 0] σ K := by
  refine g_raft_Raft_leads H.leads ?_
  unfold p_raft_Raft_leads
  obtain ⟨lg, cl, cy, cm, hS0, h'⟩ := id h
  have a0 := hok.log.lo; have a1 := hok.log.hi; have a2 := hok.log.ents.1
  have hlast : R.log.last = R.log.index + R.log.l.length := rfl
  simp -zeta only [nilV_p, faV_p, optP_some, ldV_at, h'.raft, ldC_some, rc0, Nat.zero_add, true_and]
  refine raft_stands H.toOkR 3 R.id [] .nil (.inl rfl) h fun σ1 hL1 => hL1.bind fun S1 h1 hC1 hS1 => ?_
  obtain ⟨lg1, cl1, cy1, cm1, hS10, h1'⟩ := id h1
  refine ⟨fun n vs s => ∃ (j : Nat) (R' : Raft), vs = [inV j] ∧ j ≤ 8 ∧ n = 8 - j ∧ s = σ1.set r (.obj (R'.cells lg1 cy1 cm1)) ∧ At s r R' lg1 cl1 cy1 cm1 ∧
      R' = { R.stands 3 R.id [] with next := fun i => if i < j then R.log.last + 1 else R.next i, mat := fun i => if i < j then 0 else R.mat i },
    ⟨_, 0, R.stands 3 R.id [], rfl, by omega, rfl, by rw [set_same h1'.raft], by exact h1', by simp [Raft.stands]⟩, ?_⟩
  rintro n x11 s ⟨j, R', hvs, hj, hn, hs, hA, hR'⟩
  simp only [List.cons.injEq, and_true] at hvs
  obtain rfl := hvs
  have hlog : R'.log = R.log := by rw [hR']; rfl
  have htm : R'.term = R.term := by rw [hR']; rfl
  simp -zeta only [inV, lss_i64, optP_some, splitP_b]
  refine ⟨fun hlt => ?_, fun hge => ?_⟩
  · have hj2 : j < 8 := by simp at hlt; omega
    have hia : iaaV (.p r 14) (.n .i64 (j : Int)) 8 2 = some (.p r (14 + j * 2)) := by
      simp only [iaaV]; rw [if_pos ⟨by omega, by omega⟩, Int.toNat_natCast]
    simp -zeta only [hA.raft, ldC_some, rc5, optP_some]
    refine log_last H.toOkL hA.log (hlog ▸ hok.log) ?_
    rw [hlog]
    simp -zeta only [inV, add_i64, optP_some]
    rw [wrap64 (by omega) (by omega), wrap64 (by omega) (by omega)]
    refine optP_of (v := .agg [inV (R.log.last + 1), inV 0]) rfl ?_
    have hsp := sp_peer R' lg1 cy1 cm1 hj2 (R.log.last + 1) 0
    simp -zeta only [hia, optP_some, storeV_at, hA.raft, cells_agg, stC_some, rc_len, hsp, List.length_cons, List.length_nil]
    rw [if_pos (by constructor <;> first | trivial | omega)]
    simp -zeta only [optW_some]
    refine ⟨8 - (j + 1), by omega, j + 1, _, by push_cast; rfl, by omega, rfl, ?_, hA.set rfl, ?_⟩
    · rw [hs, List.set_set]
    · rw [hR']
      simp only [Raft.stands, Raft.mk.injEq, true_and]
      refine ⟨?_, ?_, trivial⟩
      · funext i; simp only [upN]
        by_cases h1 : i = j
        · subst h1; simp
        · by_cases h2 : i < j
          · simp [h1, h2, show i < j + 1 by omega]
          · simp [h1, h2, show ¬ i < j + 1 by omega]
      · funext i; simp only [upN]
        by_cases h1 : i = j
        · subst h1; simp
        · by_cases h2 : i < j
          · simp [h1, h2, show i < j + 1 by omega]
          · simp [h1, h2, show ¬ i < j + 1 by omega]
  · have hj8 : j = 8 := by simp at hge; omega
    subst hj8
    simp -zeta only [hA.raft, ldC_some, Nat.add_zero, rc1, rc1', optP_some, htm]
    refine optP_of (v := .agg [inV R.term, inV 0, .l 1 [] .nil, .l 1 [] .nil]) rfl ?_
    have hcells : R'.cells lg1 cy1 cm1 = R.lead1.cells lg1 cy1 cm1 := by rw [hR']; rfl
    have hA2 : At s r R.lead1 lg1 cl1 cy1 cm1 := ⟨hA.nd, hcells ▸ hA.raft, by have := hA.log; rw [hlog] at this; exact this, hA.rl, hA.ry, hA.rm⟩
    have hCs : Chg σ1 s S1 := by rw [hs]; exact .set _ (by rw [hS10]; simp)
    have hok1 : R.lead1.Ok b := ⟨hok.log, hok.len, hok.term, hok.idx, hok.mem, hok.data, by simp [Raft.lead1, Raft.stands], by simp [Raft.lead1, Raft.stands], hok.timeout, fun n => by simp only [Raft.lead1, Raft.stands]; omega, fun n => by simp [Raft.lead1, Raft.stands], hok.msgs, fun _ => hid, fun _ => hm⟩
    refine raft_lays H ⟨R.term, 0, [], []⟩ (.cons (.refl _) (.cons (.refl _) (.cons fg_nilB (.cons fg_nilI .nil)))) rfl hA2.rat hok1 hb ⟨by simp, by simp⟩ hid (lay1_members hok1 (by omega) hm _ ⟨by simp, by simp⟩) fun σ' hL => k σ' ?_
    exact .trans hC1 hS1 (.trans hCs (fun x hx => .inl (hS10 ▸ hx)) hL)

theorem raft_runs (H : OkS E) {σ : St} {K : V → St → Prop} {r : Nat} {R : Raft} {S : List Nat} {b : Nat} (h : RAt σ r R S) (hok : R.Ok b) (hb1 : 1 ≤ b) (hb : b + 8 ≤ 68719476736) (ht : R.term < 1099511627776) (hid : 1 ≤ R.id ∧ R.id ≤ 7)
    (k : ∀ σ', Left σ r S R.runs σ' → K (.tup []) σ') : ACalls E 53 [.p r 0] σ K := by
  refine g_raft_Raft_runs H.runs ?_
  unfold p_raft_Raft_runs
  obtain ⟨lg, cl, cy, cm, hS0, h'⟩ := id h
  have a0 := hok.term
  simp -zeta only [nilV_p, faV_p, optP_some, ldV_at, h'.raft, ldC_some, rc0, rc1, Nat.zero_add, Nat.add_zero, true_and, inV, add_i64]
  rw [wrap64 (by omega) (by omega)]
  refine optP_of (v := .agg [inV (R.term + 1), inV R.id]) rfl ?_
  simp -zeta only [storeV_at, h'.raft, cells_agg, stC_some, rc_len, sp1, List.length_cons, List.length_nil]
  rw [if_pos (by constructor <;> first | trivial | omega)]
  have hL1 : Left σ r S { R with term := R.term + 1, vote := R.id } (σ.set r (.obj ({ R with term := R.term + 1, vote := R.id }.cells lg cy cm))) := .set hS0 h' rfl
  simp -zeta only [optW_some, cellsOf_self (cellsOf_lt h'.raft), ldC_some, rc0, optP_some]
  refine hL1.bind fun S1 h1 hC1 hS1 => ?_
  rw [mksV_one 1 (inV R.id) [inV R.id] rfl rfl (by omega)]
  simp -zeta only [optP_some]
  refine raft_stands H.toOkR 2 0 [R.id] .full (.inr rfl) h1 fun σ2 hL2 => hL2.bind fun S2 h2 hC2 hS2 => ?_
  have hok1 := run1_ok hok hb1 ht hid
  obtain ⟨lg2, cl2, cy2, cm2, hS20, h2'⟩ := id h2
  have step : ∀ σ3, Left σ2 r S2 R.runs σ3 → K (.tup []) σ3 := fun σ3 hL3 => k σ3 (.trans hC1 hS1 (.trans hC2 hS2 hL3))
  refine raft_most H.toOkM2 (R := R.run1) h2' hok1.log hok1.mem (by have := hok1.yes; omega) ?_
  simp -zeta only [splitP_b]
  refine ⟨fun hm => ?_, fun hm => ?_⟩
  · refine raft_leads H (R := R.run1) h2 hok1 hb hid (mostOf_ne hm) fun σ3 hL3 => step σ3 ?_
    unfold Raft.runs; rw [if_pos hm]; exact hL3
  · simp -zeta only [h2'.raft, ldC_some, rc1, optP_some]
    refine raft_asks H 3 R.run1.term (R := R.run1) h2 hok1 (by omega) fun σ3 hL3 => step σ3 ?_
    unfold Raft.runs; rw [if_neg (by simp [hm])]; exact hL3
theorem Raft.tick_def (R : Raft) : R.tick = if R.role ≠ 3 ∧ R.id ∉ R.members then R else
    if R.role = 3 ∧ 2 ≤ R.passed + 1 then { R with passed := 0 }.others Raft.sendTo
    else if R.role = 3 ∨ R.passed + 1 < R.timeout then { R with passed := R.passed + 1 }
    else if 1099511627776 ≤ R.term then { R with passed := 0 }
    else if mostOf (R.stands 1 0 [R.id]).members (R.stands 1 0 [R.id]).yes then (R.stands 1 0 [R.id]).runs else (R.stands 1 0 [R.id]).asks 1 (R.term + 1) := rfl

theorem raft_tick (H : OkS E) {σ : St} {K : V → St → Prop} {r : Nat} {R : Raft} {S : List Nat} {b : Nat} (h : RAt σ r R S) (hok : R.Ok b) (hb1 : 1 ≤ b) (hb : b + 8 ≤ 68719476736)
    (k : ∀ σ', Left σ r S R.tick σ' → K (.tup []) σ') : ACalls E 37 [.p r 0] σ K := by
  refine g_raft_Raft_tick H.tick ?_
  unfold p_raft_Raft_tick
  obtain ⟨lg, cl, cy, cm, hS0, h'⟩ := id h
  have hp := hok.passed; have ht := hok.timeout; have htm := hok.term
  have hmo := members_ok hok.mem
  have hlt := cellsOf_lt h'.raft
  have hself : ∀ cs, cellsOf (σ.set r (.obj cs)) r = some cs := fun cs => cellsOf_self hlt
  intro k0
  have hk0 : ¬ (R.role ≠ 3 ∧ R.id ∉ R.members) → k0 σ := by
    intro hc
    have hid : 1 ≤ R.id ∧ R.id ≤ 7 := by
      by_cases hr : R.role = 3
      · exact hok.lead (by omega)
      · have hin : R.id ∈ R.members := Classical.byContradiction fun hn => hc ⟨hr, hn⟩
        exact hmo.all _ hin
    have hdef := R.tick_def
    rw [if_neg hc] at hdef
    simp -zeta only [k0, nilV_p, faV_p, optP_some, ldV_at, storeV_at, h'.raft, ldC_some, rc12, Nat.zero_add, inV, add_i64, cells_n, stC_some, rc_len, sp12, List.length_cons, List.length_nil]
    rw [wrap64 (by omega) (by omega), if_pos (by constructor <;> first | trivial | omega)]
    simp -zeta only [optW_some, hself, ldC_some, rc3, rc12, rc13, rc1, rc1', rc0, optP_some, eql_i64, splitP_b, sp12]
    have hA1 : At (σ.set r (.obj ({ R with passed := R.passed + 1 }.cells lg cy cm))) r { R with passed := R.passed + 1 } lg cl cy cm := h'.set rfl
    have hC1 : Chg σ (σ.set r (.obj ({ R with passed := R.passed + 1 }.cells lg cy cm))) S := .set _ (by rw [hS0]; simp)
    intro k16
    have hk16 : ¬ (R.role = 3 ∧ 2 ≤ R.passed + 1) → k16 (σ.set r (.obj ({ R with passed := R.passed + 1 }.cells lg cy cm))) := by
      intro hc2
      rw [if_neg hc2] at hdef
      simp -zeta only [k16, hself, ldC_some, rc3, rc12, rc13, optP_some, eql_i64, splitP_b, true_and, inV, lss_i64]
      intro k18
      have hk18 : (R.role = 3 ∨ R.passed + 1 < R.timeout) → k18 (σ.set r (.obj ({ R with passed := R.passed + 1 }.cells lg cy cm))) := by
        intro hc3
        rw [if_pos hc3] at hdef
        simp only [k18]
        refine k _ ?_
        rw [hdef]; exact .set hS0 h' rfl
      clear_value k18
      refine ⟨fun h3 => hk18 (.inl (by simpa using h3)), fun h3 => ⟨fun h4 => hk18 (.inr (by simpa using h4)), fun h4 => ?_⟩⟩
      have hc3 : ¬ (R.role = 3 ∨ R.passed + 1 < R.timeout) := by simp at h3 h4; omega
      rw [if_neg hc3] at hdef
      simp -zeta only [hself, ldC_some, Nat.add_zero, rc1, rc0, optP_some, geq_i64, splitP_b]
      refine ⟨fun h5 => ?_, fun h5 => ?_⟩
      · have h5' : 1099511627776 ≤ R.term := by simpa using h5
        rw [if_pos h5'] at hdef
        simp -zeta only [cells_n, stC_some, rc_len, sp12, List.length_cons, List.length_nil, hself]
        rw [if_pos (by constructor <;> first | trivial | omega)]
        simp only [optW_some, List.set_set]
        refine k _ ?_
        rw [hdef]; exact .set hS0 h' rfl
      · have h5' : ¬ 1099511627776 ≤ R.term := by simpa using h5
        rw [if_neg h5'] at hdef
        have hst : ({ R with passed := R.passed + 1 } : Raft).stands 1 0 [R.id] = R.stands 1 0 [R.id] := rfl
        have hok1 : (R.stands 1 0 [R.id]).Ok b := stands_ok hok _ _ _ (by simp; omega) (fun _ => hid) (by simp)
        rw [mksV_one 1 (.n .i64 R.id) [inV R.id] rfl rfl (by omega)]
        simp -zeta only [optP_some]
        refine raft_stands H.toOkR 1 0 [R.id] .full (.inr rfl) (hS0 ▸ hA1.rat) fun σ2 hL2 => hL2.bind fun S2 h2 hC2 hS2 => ?_
        rw [hst] at h2
        obtain ⟨lg2, cl2, cy2, cm2, hS20, h2'⟩ := id h2
        have step : ∀ σ3, Left σ2 r S2 R.tick σ3 → K (.tup []) σ3 := fun σ3 hL3 => k σ3 (.trans hC1 (fun x hx => .inl hx) (.trans hC2 hS2 hL3))
        refine raft_most H.toOkM2 h2' hok1.log hok1.mem (by simp [Raft.stands]) ?_
        simp -zeta only [splitP_b]
        refine ⟨fun hm => ?_, fun hm => ?_⟩
        · refine raft_runs H h2 hok1 hb1 hb (by simp only [Raft.stands]; omega) hid fun σ3 hL3 => step σ3 ?_
          rw [hdef, if_pos hm]; exact hL3
        · simp -zeta only [h2'.raft, ldC_some, rc1, optP_some]
          have : (R.stands 1 0 [R.id]).term = R.term := rfl
          rw [this]
          simp -zeta only [inV, add_i64, optP_some]
          rw [wrap64 (by omega) (by omega)]
          refine raft_asks H 1 (R.term + 1) h2 hok1 (by omega) fun σ3 hL3 => step σ3 ?_
          rw [hdef, if_neg (by simp [hm])]; exact hL3
    clear_value k16
    refine ⟨fun h3 => ⟨fun h4 => ?_, fun h4 => hk16 (by simp at h4; omega)⟩, fun h3 => hk16 (by simp at h3; simp [h3])⟩
    have hc2 : R.role = 3 ∧ 2 ≤ R.passed + 1 := by simp at h3 h4; exact ⟨h3, h4⟩
    rw [if_pos hc2] at hdef
    simp -zeta only [cells_n, stC_some, rc_len, sp12, List.length_cons, List.length_nil, hself]
    rw [if_pos (by constructor <;> first | trivial | omega)]
    simp only [optW_some, List.set_set]
    have hok2 : ({ R with passed := 0 } : Raft).Ok b := ⟨hok.log, hok.len, hok.term, hok.idx, hok.mem, hok.data, hok.yes, by simp, hok.timeout, hok.next, hok.mat, hok.msgs, hok.lead, hok.mems⟩
    refine raft_sends H (hS0 ▸ (h'.set (R' := { R with passed := 0 }) rfl).rat) hok2 (by omega) fun σ' hL => k σ' ?_
    rw [hdef]; exact .trans (.set _ (by rw [hS0]; simp)) (fun x hx => .inl hx) hL
  clear_value k0
  simp -zeta only [nilV_p, faV_p, optP_some, ldV_at, h'.raft, ldC_some, rc3, Nat.zero_add, inV, neq_i64, splitP_b, true_and]
  refine ⟨fun h3 => ?_, fun h3 => hk0 (by simp at h3; simp [h3])⟩
  have h3' : R.role ≠ 3 := by simpa using h3
  refine raft_members H.toOkR h' hok.log ?_

  simp -zeta only [h'.raft, ldC_some, rc0, optP_some, true_and]
  refine quorum_has H.toOkH _ _ (by have := hmo.len; omega) ?_
  simp -zeta only [splitP_b]
  refine ⟨fun h4 => hk0 (by simp at h4; simp [h4]), fun h4 => ?_⟩
  have h4' : R.id ∉ R.members := by simpa using h4
  refine k _ ?_
  rw [R.tick_def, if_pos ⟨h3', h4'⟩]; exact .self h
end Go.Ab
/-
  A node of the raft: a step, and what it says; a tick.
-/
namespace Go.Ab

variable {E : Env}

structure OkT (E : Env) : Prop extends OkS E where
  does : chkF E.P E.m (E.m 25) c_raft_Raft_does = true
  Tick : chkF E.P E.m (E.m 13) c_raft_Raft_Tick = true

def Ready.v (o : Ready) : V := .agg (o.cs .may)

theorem fg_ready {m : Nat → FuncId} (o : Ready) (c : Cap) : FgP m (o.cs c) (o.cs .may) :=
  .cons (.refl _) (.cons (.refl _) (.cons (.refl _) (.cons (.refl _) (.cons (.refl _) (.cons (.refl _) (.cons (.refl _) (.cons (.refl _) (.cons (.refl _) (.cons (.may _ _ _) .nil)))))))))

def zeroReady : List V := [.n .i64 0, .n .i64 0, .b false, .n .i64 0, .n .i64 0, .l 1 [] .nil, .l 1 [] .nil, .n .i64 0, .l 4 [] .nil, .l 11 [] .nil]

/-- The node's cells, but for what it says: that is none. -/
theorem cells_split (R : Raft) (lg : Nat) (cy cm : Cap) : R.cells lg cy cm = (R.cells lg cy cm).take 30 ++ R.out.cs cm := rfl
theorem fg_zero {m : Nat → FuncId} (R : Raft) (lg : Nat) (cy cm : Cap) : FgP m (splice (R.cells lg cy cm) 30 zeroReady) ({ R with out := Ready.zero }.cells lg cy .nil) := by
  have e : splice (R.cells lg cy cm) 30 zeroReady = (R.cells lg cy cm).take 30 ++ zeroReady := rfl
  have e2 : { R with out := Ready.zero }.cells lg cy .nil = (R.cells lg cy cm).take 30 ++ Ready.zero.cs .nil := rfl
  rw [e, e2]
  refine .app (.refl _) ?_
  exact .cons (.refl _) (.cons (.refl _) (.cons (.refl _) (.cons (.refl _) (.cons (.refl _) (.cons (.may _ _ _) (.cons (.may _ _ _) (.cons (.refl _) (.cons (.may _ _ _) (.cons (.refl _) .nil)))))))))

/-- Where it says nothing. -/
theorem At.none {σ : St} {r lg : Nat} {R : Raft} {cl cy cm : Cap} (h : At σ r R lg cl cy cm) : At (σ.set r (.obj ({ R with out := Ready.zero }.cells lg cy .nil))) r { R with out := Ready.zero } lg cl cy .nil := by
  have nd := h.nd
  have hlt := cellsOf_lt h.raft
  refine ⟨?_, cellsOf_self hlt, ?_, h.rl.set _ (h.rl.ne h.raft), h.ry.set _ (h.ry.ne h.raft), .inl rfl⟩
  · refine List.Nodup.sublist ?_ nd
    simp [Cap.toks]
  · simp only [List.nodup_cons, List.mem_cons, List.mem_append, not_or] at nd
    rw [cellsOf_far (by simpa using nd.1.1)]; exact h.log

theorem set_obj_same (σ : St) (l : Nat) (a b : Ob) : (σ.set l a).set l b = σ.set l b := List.set_set ..

theorem raft_does (H : OkT E) {σ : St} {K : V → St → Prop} {r : Nat} {R : Raft} {S : List Nat} {fv : V} (F : Raft → Raft) (h : RAt σ r R S)
    (hcall : ∀ (xs : St) (K : V → St → Prop), (∀ v s', Left (σ ++ xs) r S (F R) s' → K v s') → callV E fv [] (σ ++ xs) K)
    (k : ∀ σ', Left σ r S (R.does F).1 σ' → K (R.does F).2.v σ') : ACalls E 25 [.p r 0, fv] σ K := by
  refine .post (K := fun v s => ∃ o cm s0 S' lg cl cy, v = .agg (o.cs cm) ∧ o = (R.does F).2 ∧ s = s0.set r (.obj (splice ((F R).cells lg cy cm) 30 zeroReady)) ∧ At s0 r (F R) lg cl cy cm ∧ S' = r :: lg :: (cl.toks ++ cy.toks ++ cm.toks) ∧ Chg σ s0 S ∧ (∀ x ∈ S', x ∈ S ∨ σ.length ≤ x)) ?_ ?_
  · refine g_raft_Raft_does H.does ?_
    unfold p_raft_Raft_does
    have hx := h.lt
    have hrS := h.mem
    have out0 : σ.length ∉ S := fun hi => by have := hx _ hi; omega
    have out1 : σ.length + 1 ∉ S := fun hi => by have := hx _ hi; omega
    obtain ⟨lg, cl, cy, cm, hS0, h'⟩ := id h
    have hr : ∀ xs, cellsOf (σ ++ xs) r = some (R.cells lg cy cm) := fun xs => cellsOf_left h'.raft xs
    simp -zeta only [allocW_eq, optW_some, nilV_p, faV_p, optP_some, ldV_at, hr, ldC_some, Nat.zero_add, Nat.add_zero, rc1', List.append_assoc, List.cons_append, List.nil_append]
    have hst : storeV (.p (σ ++ [Ob.obj zeroReady]).length 0) (.agg [inV R.term, inV R.vote]) 2 (σ ++ [Ob.obj zeroReady, Ob.obj [.n .i64 0, .n .i64 0]]) = some (.u, σ ++ [Ob.obj zeroReady, Ob.obj [inV R.term, inV R.vote]]) := by
      simp [storeV_at]
    simp only [zeroReady] at hst
    simp -zeta only [hst, optW_some]
    refine hcall _ _ fun v s hL => hL.bind fun S' hA hC hS => ?_
    obtain ⟨lg', cl', cy', cm', hS0', hA'⟩ := id hA
    have c0 : cellsOf s σ.length = some zeroReady := hC.cells (by simp [zeroReady]) out0
    have c1 : cellsOf s (σ.length + 1) = some [inV R.term, inV R.vote] := hC.cells (by simp) out1
    have hlt := cellsOf_lt hA'.raft
    have l0 := cellsOf_lt c0
    have l1 := cellsOf_lt c1
    have ne0 : r ≠ σ.length := fun e => by rw [e] at hrS; exact out0 hrS
    have ne1 : r ≠ σ.length + 1 := fun e => by rw [e] at hrS; exact out1 hrS
    simp -zeta only [hA'.raft, ldC_some, rc30, optP_some]
    have hst2 : storeV (.p s.length 0) (.agg ((F R).out.cs cm')) 10 (s ++ [Ob.obj zeroReady]) = some (.u, s ++ [Ob.obj ((F R).out.cs cm')]) := by
      simp [storeV_at, zeroReady]
      rfl
    simp only [zeroReady] at hst2
    simp -zeta only [hst2, optW_some]
    refine optP_of (v := .agg zeroReady) rfl ?_
    have hr2 : ∀ xs, cellsOf (s ++ xs) r = some ((F R).cells lg' cy' cm') := fun xs => cellsOf_left hA'.raft xs
    have hst3 : storeV (.p r 30) (.agg zeroReady) 10 (s ++ [Ob.obj ((F R).out.cs cm')]) = some (.u, s.set r (.obj (splice ((F R).cells lg' cy' cm') 30 zeroReady)) ++ [Ob.obj ((F R).out.cs cm')]) := by
      rw [storeV_at, hr2, cells_agg, stC_some, if_pos ⟨rfl, by simp⟩, set_near hlt]
    simp -zeta only [hst3, optW_some]
    generalize hcs : splice ((F R).cells lg' cy' cm') 30 zeroReady = cs
    have hcs1 : partV cs 1 2 true = some (.agg [inV (F R).term, inV (F R).vote]) := by rw [← hcs]; rfl
    have q0 : ∀ xs, cellsOf (s.set r (.obj cs) ++ xs) r = some cs := fun xs => by rw [cellsOf_near (by simpa using hlt)]; exact cellsOf_self hlt
    have q1 : ∀ xs, cellsOf (s.set r (.obj cs) ++ xs) (σ.length + 1) = some [inV R.term, inV R.vote] := fun xs => by rw [cellsOf_near (by simpa using l1), cellsOf_far ne1]; exact c1
    have q2 : ∀ xs, cellsOf (s.set r (.obj cs) ++ xs) σ.length = some zeroReady := fun xs => by rw [cellsOf_near (by simpa using l0), cellsOf_far ne0]; exact c0
    have hC2 : Chg σ s S := (Chg.app σ _ S).then hC
    have hS2 : ∀ x ∈ S', x ∈ S ∨ σ.length ≤ x := fun x hx => by
      rcases hS x hx with h | h
      · exact .inl h
      · right; simp at h; omega
    intro k32
    have hk32 : ∀ o, o = (R.does F).2 → k32 (s.set r (.obj cs) ++ [.obj (o.cs cm')]) := by
      intro o ho
      simp only [k32]
      have e1 : ldC 0 10 true (cellsOf (s.set r (.obj cs) ++ [.obj (o.cs cm')]) s.length) = some (.agg (o.cs cm')) := by
        rw [cellsOf_rightS0]; rfl
      have e2 : storeV (.p σ.length 0) (.agg (o.cs cm')) 10 (s.set r (.obj cs) ++ [.obj (o.cs cm')]) = some (.u, (s.set σ.length (Ob.obj (o.cs cm')) ++ [Ob.obj (o.cs cm')]).set r (Ob.obj cs)) := by
        have hsp : splice zeroReady 0 (o.cs cm') = o.cs cm' := rfl
        rw [storeV_at, q2, cells_agg, stC_some, if_pos ⟨rfl, by simp [zeroReady]⟩, set_near (by simpa using l0), set_near (by simpa using hlt), hsp, List.set_comm _ _ ne0]
      simp only [e1, e2, optP_some, optW_some]
      have hA3 : At (s.set σ.length (.obj (o.cs cm')) ++ [.obj (o.cs cm')]) r (F R) lg' cl' cy' cm' := by
        have hout : σ.length ∉ S' := fun hi => by
          rcases hS _ hi with h | h
          · exact out0 h
          · simp at h; omega
        refine (hA'.frame (Chg.set (S := [σ.length]) (Ob.obj (o.cs cm')) (by simp)) fun x hx hx' => ?_).app [Ob.obj (o.cs cm')]
        obtain rfl : x = σ.length := by simpa using hx'
        exact hout (hS0' ▸ hx)
      have e3 : ldC 0 10 true (cellsOf ((s.set σ.length (Ob.obj (o.cs cm')) ++ [Ob.obj (o.cs cm')]).set r (Ob.obj cs)) σ.length) = some (.agg (o.cs cm')) := by
        rw [cellsOf_far ne0, cellsOf_near (by simpa using l0), cellsOf_self l0]; rfl
      simp only [e3, optP_some]
      refine ⟨o, cm', _, S', lg', cl', cy', rfl, ho, by rw [hcs], hA3, by rw [hS0']; simp, ?_, hS2⟩
      refine hC2.trans ((Chg.set (S := [σ.length]) _ (by simp)).then (.app _ _ _)) fun x hx => ?_
      simp at hx; right; omega
    clear_value k32
    simp -zeta only [List.length_append, List.length_cons, List.length_nil, Nat.zero_add, q0, q1, ldC_some, hcs1, optP_some, true_and]
    have hp2 : partV [inV R.term, inV R.vote] 0 2 true = some (.agg [inV R.term, inV R.vote]) := rfl
    simp -zeta only [hp2, optP_some, true_and]
    have hb : binV .ints .neq (.agg [inV (F R).term, inV (F R).vote]) (.agg [inV R.term, inV R.vote]) = some (.b (!(decide ((F R).term = R.term) && decide ((F R).vote = R.vote)))) := rfl
    simp -zeta only [hb, optP_some, splitP_b]
    refine ⟨fun hne => ?_, fun he => ?_⟩
    · obtain ⟨o1, ho1⟩ : ∃ o : Ready, o = { (F R).out with new := true } := ⟨_, rfl⟩
      obtain ⟨o2, ho2⟩ : ∃ o : Ready, o = { (F R).out with new := true, term := (F R).term, vote := (F R).vote } := ⟨_, rfl⟩
      have e4 : storeV (.p s.length 2) (.b true) 1 (s.set r (.obj cs) ++ [Ob.obj ((F R).out.cs cm')]) = some (.u, s.set r (.obj cs) ++ [Ob.obj (o1.cs cm')]) := by
        rw [storeV_at, cellsOf_rightS0, ho1]; simp [Ready.cs]
      simp -zeta only [e4, optW_some, q0, ldC_some, hcs1, optP_some, true_and]
      have e5 : storeV (.p s.length 0) (.agg [inV (F R).term, inV (F R).vote]) 2 (s.set r (.obj cs) ++ [Ob.obj (o1.cs cm')]) = some (.u, s.set r (.obj cs) ++ [Ob.obj (o2.cs cm')]) := by
        rw [storeV_at, cellsOf_rightS0, ho1, ho2]; simp [Ready.cs]
      simp -zeta only [e5, optW_some]
      refine hk32 _ ?_
      have : ¬ ((F R).term = R.term ∧ (F R).vote = R.vote) := by
        rintro ⟨h1, h2⟩; simp [h1, h2] at hne
      simp only [Raft.does]; rw [if_neg this, ho2]
    · refine hk32 _ ?_
      have : (F R).term = R.term ∧ (F R).vote = R.vote := by simpa using he
      simp only [Raft.does]; rw [if_pos this]
  · rintro v s ⟨o, cm, s0, S', lg, cl, cy, rfl, ho, rfl, hA, hS', hC, hS⟩
    have hlt := cellsOf_lt hA.raft
    have hc : cellsOf (s0.set r (.obj (splice ((F R).cells lg cy cm) 30 zeroReady))) r = some (splice ((F R).cells lg cy cm) 30 zeroReady) := cellsOf_self hlt
    refine ⟨o.v, _, .trans (.fg (.cons (.agg (fg_ready o cm)) .nil) _) (Gh.obj hc (fg_zero (F R) lg cy cm) _), ?_⟩
    rw [ho, set_obj_same]
    refine k _ ⟨_, hA.none.rat, hC.then (.set _ h.mem), fun x hx => hS x ?_⟩
    rw [hS']
    simp [Cap.toks] at hx ⊢
    rcases hx with h | h | h | h <;> simp [h]

theorem raft_Tick (H : OkT E) {σ : St} {K : V → St → Prop} {r : Nat} {R : Raft} {S : List Nat} {b : Nat} (h : RAt σ r R S) (hok : R.Ok b) (hb1 : 1 ≤ b) (hb : b + 8 ≤ 68719476736)
    (k : ∀ σ', Left σ r S (R.does Raft.tick).1 σ' → K (R.does Raft.tick).2.v σ') : ACalls E 13 [.p r 0] σ K := by
  refine g_raft_Raft_Tick H.Tick ?_
  unfold p_raft_Raft_Tick
  simp only [allocW_eq, optW_some]
  have hx := h.lt
  have out0 : σ.length ∉ S := fun hi => by have := hx _ hi; omega
  refine raft_does H Raft.tick (h.app _) (fun xs K' hk => ?_) fun σ1 hL => ?_
  · simp only [callV, List.nil_append, List.append_nil]
    refine raft_tick H.toOkS ((h.app _).app xs) hok hb1 hb fun s' hL => hk _ s' hL
  · have hc : cellsOf σ1 σ.length = some zeroReady := hL.chg.cells (by simp [zeroReady]) out0
    have hlt := cellsOf_lt hc
    have e1 : storeV (.p σ.length 0) (R.does Raft.tick).2.v 10 σ1 = some (.u, σ1.set σ.length (.obj ((R.does Raft.tick).2.cs .may))) := by
      rw [storeV_at, hc]; rfl
    have e2 : ldV (.p σ.length 0) 10 true (σ1.set σ.length (.obj ((R.does Raft.tick).2.cs .may))) = some (R.does Raft.tick).2.v := by
      rw [ldV_at, cellsOf_self hlt]; rfl
    simp only [e1, e2, optW_some, optP_some]
    refine k _ ?_
    obtain ⟨S', h1, h2, h3⟩ := hL
    have hout : σ.length ∉ S' := fun hi => by
      rcases h3 _ hi with h | h
      · exact out0 h
      · simp at h; omega
    refine ⟨S', h1.frame (.set (S := [σ.length]) _ (by simp)) (fun x hx hx' => by simp at hx'; subst hx'; exact hout hx), ?_, fun x hx => ?_⟩
    · refine (Chg.app σ _ S).then h2 |>.trans (.set (S := [σ.length]) _ (by simp)) fun x hx => ?_
      simp at hx; right; omega
    · rcases h3 x hx with h | h
      · exact .inl h
      · right; simp at h; omega
end Go.Ab
/-
  Entries as bytes: what is wrong with one; odd messages.
-/
namespace Go.Ab

variable {E : Env}

structure OkW (E : Env) : Prop extends OkT E where
  put : chkF E.P E.m (E.m 86) c_pack_Put = true
  putText : chkF E.P E.m (E.m 68) c_pack_PutText = true
  putList : chkF E.P E.m (E.m 70) c_pack_PutList = true
  putList1 : chkF E.P E.m (E.m 87) c_pack_PutList_c1 = true
  wwithin : chkF E.P E.m (E.m 65) c_wire_within = true
  wnumbers : chkF E.P E.m (E.m 69) c_wire_numbers = true
  containsI : chkF E.P E.m (E.m 66) c_slices_ContainsFunc_int_int = true
  wentry : chkF E.P E.m (E.m 38) c_wire_Entry = true
  wentry1 : chkF E.P E.m (E.m 67) c_wire_Entry_c1 = true
  containsE : chkF E.P E.m (E.m 47) c_slices_ContainsFunc_api_Entry_api_Entry = true
  odd1 : chkF E.P E.m (E.m 48) c_raft_Raft_odd_c1 = true
  odd : chkF E.P E.m (E.m 27) c_raft_Raft_odd = true

theorem tab_le : ∀ i, i < 256 → (lit_256_224579321.data.toList.getD i 0).toNat ≤ 8 := by
  have h : (List.range 256).all (fun i => decide ((lit_256_224579321.data.toList.getD i 0).toNat ≤ 8)) = true := by kernel_rfl
  intro i hi
  have := List.all_eq_true.1 h i (by simpa using hi)
  simpa using this

theorem bits_len64 (H : OkW E) {σ : St} {K : V → St → Prop} (a : Int) (k : ∀ n : Int, 0 ≤ n → n ≤ 64 → K (inV n) σ) : ACalls E 97 [.n .u64 a] σ K := by
  refine g_math_bits_Len H.blen ?_
  unfold p_math_bits_Len
  refine g_math_bits_Len64 H.blen64 ?_
  unfold p_math_bits_Len64
  have geq : ∀ a b : Int, binV .num .geq (.n .u64 a) (.n .u64 b) = some (.b (decide (b ≤ a))) := fun _ _ => rfl
  have shr : ∀ a b : Int, 0 ≤ b → binV .num .shr (.n .u64 a) (.n .u64 b) = some (.n .u64 (a.fdiv (2 ^ min b.toNat 64))) := fun a b hb => by
    have : binV .num .shr (.n .u64 a) (.n .u64 b) = if 0 ≤ b then some (.n .u64 (a.fdiv (2 ^ min b.toNat IntKind.u64.bits))) else none := rfl
    rw [this, if_pos hb]; rfl
  intro k0
  have hsz : lit_256_224579321.size = 256 := by kernel_rfl
  have fin : ∀ (x n : Int) (K' : V → St → Prop), 0 ≤ n → n ≤ 56 → (∀ m, 0 ≤ m → m ≤ 64 → K' (inV m) σ) → optP (cnvV .u8 (.n .u64 x)) σ fun v12 s13 => optP (ixsV (.s lit_256_224579321) v12) s13 fun v14 s15 => optP (cnvV .i64 v14) s15 fun v16 s17 => optP (binV .num .add (inV n) v16) s17 fun v18 s19 => K' v18 s19 := by
    intro x n K' h0 h1 hk
    have hw : 0 ≤ IntKind.u8.wrap x ∧ IntKind.u8.wrap x < 256 := by
      simp only [IntKind.wrap, IntKind.bits, IntKind.signed]; simp; omega
    refine optP_of (v := .n .u8 (IntKind.u8.wrap x)) rfl ?_
    generalize IntKind.u8.wrap x = y at hw
    have a5 : ixsV (.s lit_256_224579321) (.n .u8 y) = some (.n .u8 (lit_256_224579321.data.toList.getD y.toNat 0).toNat) := by
      simp only [ixsV, hsz]; rw [if_pos ⟨hw.1, by omega⟩]
    refine optP_of a5 ?_
    have ht := tab_le y.toNat (by omega)
    generalize (lit_256_224579321.data.toList.getD y.toNat 0).toNat = t at ht
    have e1 : cnvV .i64 (.n .u8 (t : Int)) = some (inV t) := by
      simp only [cnvV]; rw [wrap64 (by omega) (by omega)]
    refine optP_of e1 ?_
    have e2 : binV .num .add (inV n) (inV (t : Int)) = some (inV (n + t)) := by
      simp only [inV, add_i64]; rw [wrap64 (by omega) (by omega)]
    refine optP_of e2 ?_
    exact hk _ (by omega) (by omega)
  have h0 : ∀ (x n : Int), 0 ≤ n → n ≤ 32 → k0 (.n .u64 x) (inV n) σ := by
    intro x n q0 q1
    simp only [k0, geq, optP_some, splitP_b]
    have h8 : ∀ (x n : Int), 0 ≤ n → n ≤ 48 → (decide ((256 : Int) ≤ x) = true → optP (binV .num .shr (.n .u64 x) (.n .u64 8)) σ fun v22 s23 => optP (binV .num .add (inV n) (.n .i64 8)) s23 fun v24 s25 => optP (cnvV .u8 v22) s25 fun v12 s13 => optP (ixsV (.s lit_256_224579321) v12) s13 fun v14 s15 => optP (cnvV .i64 v14) s15 fun v16 s17 => optP (binV .num .add v24 v16) s17 fun v18 s19 => K v18 s19) ∧
        (decide ((256 : Int) ≤ x) = false → optP (cnvV .u8 (.n .u64 x)) σ fun v12 s13 => optP (ixsV (.s lit_256_224579321) v12) s13 fun v14 s15 => optP (cnvV .i64 v14) s15 fun v16 s17 => optP (binV .num .add (inV n) v16) s17 fun v18 s19 => K v18 s19) := by
      intro x n r0 r1
      refine ⟨fun _ => ?_, fun _ => fin x n _ r0 (by omega) k⟩
      refine optP_of (shr x 8 (by omega)) ?_
      have e2 : binV .num .add (inV n) (.n .i64 8) = some (inV (n + 8)) := by
        simp only [inV, add_i64]; rw [wrap64 (by omega) (by omega)]
      refine optP_of e2 ?_
      exact fin _ (n + 8) _ (by omega) (by omega) k
    refine ⟨fun _ => ?_, fun _ => h8 x n q0 (by omega)⟩
    refine optP_of (shr x 16 (by omega)) ?_
    have e2 : binV .num .add (inV n) (.n .i64 16) = some (inV (n + 16)) := by
      simp only [inV, add_i64]; rw [wrap64 (by omega) (by omega)]
    refine optP_of e2 ?_
    exact h8 _ (n + 16) (by omega) (by omega)
  clear_value k0
  refine optP_of (geq _ _) ?_
  rw [splitP_b]
  refine ⟨fun _ => ?_, fun _ => h0 a 0 (by omega) (by omega)⟩
  refine optP_of (shr a 32 (by omega)) ?_
  exact h0 _ 32 (by omega) (by omega)

theorem u8_of (x : Int) : ∃ u : UInt8, V.n .u8 (IntKind.u8.wrap x) = byV u := by
  have hw : 0 ≤ IntKind.u8.wrap x ∧ IntKind.u8.wrap x < 256 := by
    simp only [IntKind.wrap, IntKind.bits, IntKind.signed]; simp; omega
  refine ⟨UInt8.ofNat (IntKind.u8.wrap x).toNat, ?_⟩
  simp only [byV, UInt8.toNat_ofNat']
  congr 1
  omega

/-- A copy with room behind. -/
theorem clone_bytes' (H : Ok E) {σ : St} {K : V → St → Prop} (xs : List UInt8) (c0 : Cap) (hlen : xs.length ≤ 1099511627776) (k : ∀ c s', NewRoom σ (σ ++ s') c → K (.l 1 (xs.map byV) c) (σ ++ s')) : ACalls E 60 [.l 1 (xs.map byV) c0] σ K := by
  refine .args (.cons (FgV.may _ _ _) .nil) (.byMay ?_ ?_)
  · refine g_slices_Clone_byte_byte H.cloneB ?_
    unfold p_slices_Clone_byte_byte
    simp [binV, eqOr]
    have := app_at (σ := σ) (s' := []) (c := .full) (e := 1) (bytes := 1) (xs := []) (ys := xs.map byV) (c2 := .any) (K := K) (.inr (.inl rfl)) (by omega) (by simp; omega) (by simp; omega) (fun c' s2 h _ => by simpa using k c' s2 h)
    simpa using this
  · intro h
    refine g_slices_Clone_byte_byte H.cloneB ?_
    unfold p_slices_Clone_byte_byte
    simp [binV, eqOr]
    have : xs = [] := by simpa using h
    subst this
    simpa using k .nil [] (.inl rfl)

theorem pack_put (H : OkW E) {σ : St} {K : V → St → Prop} (l : List UInt8) (c0 : Cap) (n : Int) (hn : 0 ≤ n) (hlen : l.length ≤ 1099511627776)
    (k : ∀ (l' : List UInt8) c s', l'.length ≤ l.length + 9 → NewRoom σ (σ ++ s') c → K (.tup [.l 1 (l'.map byV) c, inV 0]) (σ ++ s')) : ACalls E 86 [.l 1 (l.map byV) c0, inV n] σ K := by
  refine g_pack_Put H.put ?_
  unfold p_pack_Put
  simp only [inV, lss_i64, optP_some, splitP_b]
  refine ⟨fun h => by simp at h; omega, fun _ => ?_⟩
  refine optP_of (v := .n .u64 (IntKind.u64.wrap n)) rfl ?_
  refine bits_len64 H _ fun b h0 h1 => ?_
  simp only [inV, add_i64, optP_some]
  rw [wrap64 (by omega) (by omega)]
  have hq : binV .num .quo (.n .i64 (b + 7)) (.n .i64 8) = some (.n .i64 ((b + 7) / 8)) := by
    have e2 : binV .num .quo (.n .i64 (b + 7)) (.n .i64 8) = some (.n .i64 (IntKind.i64.wrap (Int.tdiv (b + 7) 8))) := rfl
    rw [e2, Int.tdiv_eq_ediv_of_nonneg (by omega), wrap64 (by omega) (by omega)]
  simp only [hq, optP_some]
  obtain ⟨sz, hsz⟩ : ∃ sz : Nat, (b + 7) / 8 = sz := ⟨((b + 7) / 8).toNat, by omega⟩
  have hsz8 : sz ≤ 8 := by omega
  rw [hsz]
  refine clone_bytes' H.toOk l c0 hlen fun c1 s1 hr1 => ?_
  refine optP_of (v := .n .u8 (IntKind.u8.wrap sz)) rfl ?_
  obtain ⟨u, hu⟩ := u8_of sz
  rw [hu, mksV_one 1 (byV u) [byV u] rfl rfl (by omega)]
  simp only [optP_some]
  have happ : ∀ (xs : List UInt8) (c : Cap) (s : St) (v : UInt8) (K' : V → St → Prop), xs.length ≤ 1099511627800 → NewRoom σ (σ ++ s) c → (∀ c' s', NewRoom σ (σ ++ s') c' → K' (.l 1 ((xs ++ [v]).map byV) c') (σ ++ s')) → optW (appV (.l 1 (xs.map byV) c) (.l 1 [byV v] .full) 1 1 (σ ++ s)) K' := by
    intro xs c s v K' hx hr hk
    refine app_at hr (by omega) (by simp; omega) (by simp; omega) fun c' s2 hr2 _ => ?_
    have := hk c' s2 hr2
    simpa using this
  refine happ l c1 s1 u _ (by omega) hr1 fun c2 s2 hr2 => ?_
  simp only [sub_i64, optP_some]
  rw [wrap64 (by omega) (by omega)]
  refine ⟨fun n vs s => ∃ (j : Nat) (xs : List UInt8) (c : Cap) (s' : St), vs = [.l 1 (xs.map byV) c, inV ((j : Int) - 1)] ∧ j ≤ sz ∧ n = j ∧ s = σ ++ s' ∧ NewRoom σ s c ∧ xs.length = l.length + 1 + (sz - j),
    ⟨_, sz, l ++ [u], c2, s2, rfl, Nat.le_refl _, rfl, rfl, hr2, by simp⟩, ?_⟩
  rintro n1 x23 x24 s ⟨j, xs, c, s', hvs, hj, hn1, rfl, hr, hxl⟩
  subst hn1
  simp only [List.cons.injEq, and_true] at hvs
  obtain ⟨rfl, rfl⟩ := hvs
  simp only [inV, geq_i64, optP_some, splitP_b]
  refine ⟨fun hge => ?_, fun hlt => ?_⟩
  · have hpos : 0 < n1 := by simp at hge; omega
    obtain ⟨q, rfl⟩ : ∃ q, n1 = q + 1 := ⟨n1 - 1, by omega⟩
    have e1 : (((q + 1 : Nat) : Int) - 1) = q := by push_cast; omega
    rw [e1]
    have hm : binV .num .mul (.n .i64 8) (.n .i64 (q : Int)) = some (.n .i64 (8 * q)) := by
      have : binV .num .mul (.n .i64 8) (.n .i64 (q : Int)) = some (.n .i64 (IntKind.i64.wrap (8 * q))) := rfl
      rw [this, wrap64 (by omega) (by omega)]
    have hs : binV .num .shr (.n .i64 n) (.n .i64 (8 * (q : Int))) = some (.n .i64 (n.fdiv (2 ^ min (8 * (q : Int)).toNat 64))) := by
      have : binV .num .shr (.n .i64 n) (.n .i64 (8 * (q : Int))) = if 0 ≤ 8 * (q : Int) then some (.n .i64 (n.fdiv (2 ^ min (8 * (q : Int)).toNat IntKind.i64.bits))) else none := rfl
      rw [this, if_pos (by omega)]; rfl
    simp only [hm, hs, optP_some]
    refine optP_of (v := .n .u8 (IntKind.u8.wrap (n.fdiv (2 ^ min (8 * (q : Int)).toNat 64)))) rfl ?_
    obtain ⟨u2, hu2⟩ := u8_of (n.fdiv (2 ^ min (8 * (q : Int)).toNat 64))
    rw [hu2, mksV_one 1 (byV u2) [byV u2] rfl rfl (by omega)]
    simp only [optP_some]
    refine happ xs c s' u2 _ (by omega) hr fun c3 s3 hr3 => ?_
    simp only [sub_i64, optP_some]
    rw [wrap64 (by omega) (by omega)]
    exact ⟨trivial, q, by omega, q, xs ++ [u2], c3, s3, rfl, by omega, rfl, rfl, hr3, by simp; omega⟩
  · have h00 : n1 = 0 := by simp at hlt; omega
    subst h00
    exact k xs c s' (by omega) hr

theorem pack_putText (H : OkW E) {σ : St} {K : V → St → Prop} (l : List UInt8) (c0 : Cap) (t : List UInt8) (ht : t.length ≤ 4096) (hlen : l.length ≤ 1099511627776)
    (k : ∀ (l' : List UInt8) c s', l'.length ≤ l.length + 4105 → NewRoom σ (σ ++ s') c → K (.tup [.l 1 (l'.map byV) c, inV 0]) (σ ++ s')) : ACalls E 68 [.l 1 (l.map byV) c0, bytesV t] σ K := by
  refine g_pack_PutText H.putText ?_
  unfold p_pack_PutText
  simp only [lenV_bytes, optP_some, gtr_i64, splitP_b]
  refine ⟨fun h => by simp at h; omega, fun _ => ?_⟩
  refine pack_put H l c0 _ (by omega) hlen fun l' c s' hl' hr => ?_
  simp only [extV_tup, List.getElem?_cons_zero, List.getElem?_cons_succ, optP_some]
  refine app_at hr (by omega) (by simp; omega) (by simp; omega) fun c' s2 hr2 _ => ?_
  have := k (l' ++ t) c' s2 (by simp; omega) hr2
  simpa using this

theorem neg_c1 (H : OkW E) {σ : St} {K : V → St → Prop} (n : Int) (k : K (.b (decide (n < 0))) σ) : ACalls E 67 [inV n] σ K ∧ ACalls E 87 [inV n] σ K := by
  constructor
  · refine g_wire_Entry_c1 H.wentry1 ?_
    unfold p_wire_Entry_c1
    simp only [inV, lss_i64, optP_some, splitP_b]
    exact ⟨fun h => by rwa [h] at k, fun h => by rwa [h] at k⟩
  · refine g_pack_PutList_c1 H.putList1 ?_
    unfold p_pack_PutList_c1
    simp only [inV, lss_i64, optP_some, splitP_b]
    exact ⟨fun h => by rwa [h] at k, fun h => by rwa [h] at k⟩

theorem contains_ints (H : OkW E) {σ : St} {K : V → St → Prop} (x fv : V) (xs : List Int) (f : Int → Bool) (hx : Sees x xs σ) (hlen : xs.length ≤ 1099511627776)
    (hf : ∀ y (K : V → St → Prop), K (.b (f y)) σ → callV E fv [inV y] σ K) (k : K (.b (xs.any f)) σ) : ACalls E 66 [x, fv] σ K := by
  refine g_slices_ContainsFunc_int_int H.containsI ?_
  unfold p_slices_ContainsFunc_int_int
  refine index_func H.toOkM2 x fv xs f hx hlen hf (fun h => ?_) fun j hj h1 _ => ?_
  · have : xs.any f = false := by simpa using h
    rw [this] at k
    simpa [inV] using k
  · have : xs.any f = true := List.any_eq_true.2 ⟨_, by simp, h1⟩
    rw [this] at k
    simpa [inV] using k

theorem pack_putList (H : OkW E) {σ : St} {K : V → St → Prop} (l : List UInt8) (c0 : Cap) (t : List Int) (ht : t.length ≤ 4096) (h0 : t.any (fun n => decide (n < 0)) = false) (hlen : l.length ≤ 1000000000)
    (k : ∀ (l' : List UInt8) c s', NewRoom σ (σ ++ s') c → K (.tup [.l 1 (l'.map byV) c, inV 0]) (σ ++ s')) : ACalls E 70 [.l 1 (l.map byV) c0, intsV t] σ K := by
  refine g_pack_PutList H.putList ?_
  unfold p_pack_PutList
  simp only [lenV_ints, optP_some, gtr_i64, splitP_b]
  refine ⟨fun h => by simp at h; omega, fun _ => ?_⟩
  refine contains_ints H _ _ t (fun n => decide (n < 0)) (sees_ints t _ _) (by omega) (fun y K' hk => by simp only [callV, List.nil_append, List.append_nil]; exact (neg_c1 H y hk).2) ?_
  simp only [h0, splitP_b]
  refine ⟨fun h => by simp at h, fun _ => ?_⟩
  refine pack_put H l c0 _ (by omega) (by omega) fun l1 c1 s1 hl1 hr1 => ?_
  simp only [extV_tup, List.getElem?_cons_zero, List.getElem?_cons_succ, optP_some]
  refine ⟨fun n vs s => ∃ (j : Nat) (xs : List UInt8) (c : Cap) (s' : St), vs = [.l 1 (xs.map byV) c, inV j] ∧ j ≤ t.length ∧ n = t.length - j ∧ s = σ ++ s' ∧ NewRoom σ s c ∧ xs.length ≤ l.length + 9 + 9 * j,
    ⟨_, 0, l1, c1, s1, rfl, Nat.zero_le _, rfl, rfl, hr1, by omega⟩, ?_⟩
  rintro n x19 x20 s ⟨j, xs, c, s', hvs, hj, hn, rfl, hr, hxl⟩
  simp only [List.cons.injEq, and_true] at hvs
  obtain ⟨rfl, rfl⟩ := hvs
  simp only [inV, lss_i64, optP_some, splitP_b]
  refine ⟨fun hlt => ?_, fun hge => k xs c s' hr⟩
  have hj2 : j < t.length := by simpa using hlt
  obtain ⟨p, hp1, hp2⟩ := (sees_ints t .may (σ ++ s')).2 j hj2
  have hp1' : iasV (intsV t) (.n .i64 (j : Int)) 1 = some p := hp1
  simp only [hp1', hp2, optP_some]
  have hnn : 0 ≤ t[j] := by
    have := List.any_eq_false.1 h0 t[j] (by simp)
    simpa using this
  refine pack_put H xs c _ hnn (by omega) fun l2 c2 s2 hl2 hr2 => ?_
  simp only [extV_tup, List.getElem?_cons_zero, List.getElem?_cons_succ, optP_some, add_i64]
  rw [wrap64 (by omega) (by omega)]
  refine ⟨trivial, trivial, t.length - (j + 1), by omega, j + 1, l2, c2, s' ++ s2, by push_cast; rfl, by omega, rfl, by simp, ?_, by omega⟩
  rw [List.append_assoc] at hr2 ⊢
  exact hr2.since (by simp)
end Go.Ab
/-
  What is wrong with an entry; odd messages.
-/
namespace Go.Ab

variable {E : Env}

theorem wire_within (H : OkW E) {σ : St} {K : V → St → Prop} (n a b : Int) (k : K (.b (decide (a ≤ n ∧ n ≤ b))) σ) : ACalls E 65 [inV n, inV a, inV b] σ K := by
  refine g_wire_within H.wwithin ?_
  unfold p_wire_within
  intro k0
  simp -zeta only [inV, geq_i64, leq_i64, optP_some, splitP_b]
  refine ⟨fun h1 => ⟨fun h2 => ?_, fun h2 => ?_⟩, fun h1 => ?_⟩
  · simp at h1 h2; simpa [h1, h2] using k
  · simp at h1 h2; simp only [k0]
    have : ¬ (a ≤ n ∧ n ≤ b) := by omega
    simpa [this] using k
  · simp at h1; simp only [k0]
    have : ¬ (a ≤ n ∧ n ≤ b) := by omega
    simpa [this] using k

theorem wire_numbers (H : OkW E) {σ : St} {K : V → St → Prop} (t : List Int) (c : Cap) (ht : t.length ≤ 4096) (h0 : ∀ n ∈ t, 0 ≤ n)
    (k : ∀ (l' : List UInt8) c s', l'.length ≤ 9 * t.length → NewRoom σ (σ ++ s') c → K (.l 1 (l'.map byV) c) (σ ++ s')) : ACalls E 69 [.l 1 (t.map inV) c] σ K := by
  refine g_wire_numbers H.wnumbers ?_
  unfold p_wire_numbers
  simp only [lenV_l, List.length_map, optP_some]
  refine ⟨fun n vs s => ∃ (j : Nat) (xs : List UInt8) (c : Cap) (s' : St), vs = [.l 1 (xs.map byV) c, inV j] ∧ j ≤ t.length ∧ n = t.length - j ∧ s = σ ++ s' ∧ NewRoom σ s c ∧ xs.length ≤ 9 * j,
    ⟨_, 0, [], .nil, [], rfl, Nat.zero_le _, rfl, by simp, .inl rfl, by simp⟩, ?_⟩
  rintro n x19 x20 s ⟨j, xs, c1, s', hvs, hj, hn, rfl, hr, hxl⟩
  simp only [List.cons.injEq, and_true] at hvs
  obtain ⟨rfl, rfl⟩ := hvs
  simp only [inV, lss_i64, optP_some, splitP_b]
  refine ⟨fun hlt => ?_, fun hge => k xs c1 s' (by omega) hr⟩
  have hj2 : j < t.length := by simpa using hlt
  obtain ⟨p, hp1, hp2⟩ := (sees_ints t c (σ ++ s')).2 j hj2
  simp only [hp1, hp2, optP_some]
  refine pack_put H xs c1 _ (h0 _ (by simp)) (by omega) fun l2 c2 s2 hl2 hr2 => ?_
  simp only [extV_tup, List.getElem?_cons_zero, List.getElem?_cons_succ, optP_some, add_i64]
  rw [wrap64 (by omega) (by omega)]
  refine ⟨trivial, trivial, t.length - (j + 1), by omega, j + 1, l2, c2, s' ++ s2, by push_cast; rfl, by omega, rfl, by simp, ?_, by omega⟩
  rw [List.append_assoc] at hr2 ⊢
  exact hr2.since (by simp)

theorem wire_entry (H : OkW E) {σ : St} {K : V → St → Prop} (x : Ent) (hx : x.ok) (k : K (.tup [.u, inV (entErr x)]) σ) : ACalls E 38 [x.v] σ K := by
  refine .same (g_wire_Entry H.wentry ?_)
  unfold p_wire_Entry
  have hb : boxV x.v σ = some (.p σ.length 0, σ ++ [.obj [inV x.term, inV x.kind, bytesV x.data, intsV x.mem]]) := rfl
  simp -zeta only [hb, optW_some]
  intro k2
  have fin : ∀ (e : Int) (v : V) (s' : St), entErr x = e → Same E σ K (.tup [v, inV e]) (σ ++ s') := by
    intro e v s' he
    rw [he] at k
    exact .app (.tup [.u, inV e]) (.tup (.cons (.u _) (.cons (.refl _) .nil))) (.tup (.cons .u (.cons (.n _ _) .nil))) k
  have hk2 : entErr x = 1 → k2 (σ ++ [.obj [inV x.term, inV x.kind, bytesV x.data, intsV x.mem]]) := by
    intro he; simp only [k2]; exact fin 1 _ _ he
  clear_value k2
  have hc : ∀ xs : St, cellsOf (σ ++ (.obj [inV x.term, inV x.kind, bytesV x.data, intsV x.mem] :: xs)) σ.length = some [inV x.term, inV x.kind, bytesV x.data, intsV x.mem] := fun xs => by simp
  have g0 : partV [inV x.term, inV x.kind, bytesV x.data, intsV x.mem] 0 1 false = some (inV x.term) := rfl
  have g1 : partV [inV x.term, inV x.kind, bytesV x.data, intsV x.mem] 1 1 false = some (inV x.kind) := rfl
  have g2 : partV [inV x.term, inV x.kind, bytesV x.data, intsV x.mem] 2 1 false = some (bytesV x.data) := rfl
  have g3 : partV [inV x.term, inV x.kind, bytesV x.data, intsV x.mem] 3 1 false = some (intsV x.mem) := rfl
  simp -zeta only [faV_p, ldV_at, hc, ldC_some, Nat.zero_add, Nat.add_zero, g0, g1, g2, g3, optP_some]
  refine wire_within H _ 0 1099511627776 ?_
  simp -zeta only [splitP_b]
  refine ⟨fun h1 => ?_, fun h1 => hk2 (by rw [entErr, if_pos (by simp at h1; omega)])⟩
  simp at h1
  simp -zeta only [hc, ldC_some, g1, optP_some]
  refine wire_within H _ 0 2 ?_
  simp -zeta only [splitP_b]
  refine ⟨fun h2 => ?_, fun h2 => hk2 (by rw [entErr, if_pos (by simp at h2; omega)])⟩
  simp at h2
  simp -zeta only [hc, ldC_some, g3, optP_some]
  refine contains_ints H _ _ x.mem (fun n => decide (n < 0)) (sees_ints x.mem _ _) hx.2 (fun y K' hk => by simp only [callV, List.nil_append, List.append_nil]; exact (neg_c1 H y hk).1) ?_
  simp -zeta only [splitP_b]
  refine ⟨fun h3 => hk2 (by rw [entErr, if_pos (by simp [h3])]), fun h3 => ?_⟩
  have hneg : ¬ (x.term < 0 ∨ 1099511627776 < x.term ∨ x.kind < 0 ∨ 2 < x.kind ∨ x.mem.any (fun n => decide (n < 0)) = true) := by
    rw [h3]; simp; omega
  intro k22
  have hk22 : (4096 < x.data.length ∨ 7 < x.mem.length) → k22 (σ ++ [.obj [inV x.term, inV x.kind, bytesV x.data, intsV x.mem]]) := by
    intro he; simp only [k22]; refine fin 2 _ _ ?_
    rw [entErr, if_neg hneg, if_pos he]
  clear_value k22
  simp -zeta only [hc, ldC_some, g2, g3, optP_some, lenV_bytes, lenV_ints, gtr_i64, splitP_b]
  refine ⟨fun h4 => hk22 (.inl (by simp at h4; omega)), fun h4 => ⟨fun h5 => hk22 (.inr (by simp at h5; omega)), fun h5 => ?_⟩⟩
  simp at h4 h5
  have herr : entErr x = 0 := by rw [entErr, if_neg hneg, if_neg (by omega)]
  simp only [hc, ldC_some, g0, g1, optP_some, true_and]
  have hmk : mksV 1 [inV x.term, inV x.kind] = some (.l 1 ([x.term, x.kind].map inV) .full) := by simp [mksV]
  simp only [hmk, optP_some]
  refine wire_numbers H [x.term, x.kind] .full (by simp) (fun n hn => by simp at hn; rcases hn with rfl | rfl; exact h1.1; exact h2.1) fun l1 c1 s1 hl1 hr1 => ?_
  simp only [List.append_assoc, List.cons_append, List.nil_append, hc, ldC_some, g2, optP_some, true_and]
  refine pack_putText H l1 c1 x.data (by omega) (by simp at hl1; omega) fun l2 c2 s2 hl2 hr2 => ?_
  simp only [List.append_assoc, List.cons_append, extV_tup, List.getElem?_cons_zero, List.getElem?_cons_succ, optP_some, hc, ldC_some, g3]
  refine pack_putList H l2 c2 x.mem (by omega) h3 (by simp at hl1; omega) fun l3 c3 s3 hr3 => ?_
  simp only [List.append_assoc, List.cons_append, extV_tup, List.getElem?_cons_zero, List.getElem?_cons_succ, optP_some]
  exact fin 0 _ _ herr

/-- A message that is not too long to be copied. -/
def Msg.ok (m : Msg) : Prop := EntsOk m.ents ∧ m.mem.length ≤ 1099511627776 ∧ m.data.length ≤ 1099511627776

theorem odd_c1 (H : OkW E) {σ : St} {K : V → St → Prop} (x : Ent) (hx : x.ok) (m : Msg) {l : Nat} (hm : cellsOf σ l = some m.cs) (k : K (.b (decide (entErr x ≠ 0 ∨ m.term < x.term))) σ) : ACalls E 48 [x.v, .p l 0] σ K := by
  refine .same (g_raft_Raft_odd_c1 H.odd1 ?_)
  unfold p_raft_Raft_odd_c1
  have hb : boxV x.v σ = some (.p σ.length 0, σ ++ [.obj [inV x.term, inV x.kind, bytesV x.data, intsV x.mem]]) := rfl
  have hm2 := cellsOf_left hm [.obj [inV x.term, inV x.kind, bytesV x.data, intsV x.mem]]
  have g0 : partV [inV x.term, inV x.kind, bytesV x.data, intsV x.mem] 0 1 false = some (inV x.term) := rfl
  have g4 : partV [inV x.term, inV x.kind, bytesV x.data, intsV x.mem] 0 4 true = some x.v := rfl
  simp -zeta only [hb, optW_some, ldV_at, cellsOf_right0, cellsOf_cons0, ldC_some, g4, optP_some]
  refine wire_entry H x hx ?_
  simp -zeta only [extV_tup, List.getElem?_cons_zero, List.getElem?_cons_succ, optP_some]
  intro k10
  have fin : ∀ b, decide (entErr x ≠ 0 ∨ m.term < x.term) = b → Same E σ K (.b b) (σ ++ [.obj [inV x.term, inV x.kind, bytesV x.data, intsV x.mem]]) := by
    intro b hb; rw [hb] at k; exact .app _ (.refl _) (.b _) k
  have hk10 : (entErr x ≠ 0 ∨ m.term < x.term) → k10 (σ ++ [.obj [inV x.term, inV x.kind, bytesV x.data, intsV x.mem]]) := fun h => fin _ (by simpa using h)
  clear_value k10
  simp -zeta only [inV, neq_i64, optP_some, splitP_b]
  refine ⟨fun h => hk10 (.inl (by simpa using h)), fun h => ?_⟩
  simp -zeta only [faV_p, Nat.zero_add, ldV_at, cellsOf_right0, cellsOf_cons0, ldC_some, hm2, mk3, optP_some, inV, gtr_i64, splitP_b]
  have g0' : partV [V.n .i64 x.term, .n .i64 x.kind, bytesV x.data, intsV x.mem] 0 1 false = some (.n .i64 x.term) := rfl
  have hm2' : cellsOf (σ ++ [Ob.obj [V.n .i64 x.term, .n .i64 x.kind, bytesV x.data, intsV x.mem]]) l = some m.cs := hm2
  simp -zeta only [g0', hm2', ldC_some, mk3, inV, gtr_i64, optP_some, splitP_b]
  refine ⟨fun h2 => hk10 (.inr (by simpa using h2)), fun h2 => fin _ ?_⟩
  simp at h h2 ⊢; exact ⟨h, h2⟩

theorem index_ents (H : OkW E) {σ : St} {K : V → St → Prop} (l : List Ent) (fv : V) (f : Ent → Bool) (hlen : l.length ≤ 1099511627776)
    (hf : ∀ e ∈ l, ∀ (K : V → St → Prop), K (.b (f e)) σ → callV E fv [e.v] σ K) (k0 : (∀ e ∈ l, f e = false) → K (inV (-1)) σ) (k1 : (∃ e ∈ l, f e = true) → ∀ j : Nat, K (inV j) σ) :
    ACalls E 79 [entsV l, fv] σ K := by
  refine g_slices_IndexFunc_api_Entry_api_Entry H.indexE ?_
  unfold p_slices_IndexFunc_api_Entry_api_Entry
  simp only [entsV, lenV_l, optP_some, List.length_map]
  refine ⟨fun n vs s => ∃ (j : Nat), vs = [inV j] ∧ j ≤ l.length ∧ n = l.length - j ∧ s = σ ∧ ∀ q (hq : q < l.length), q < j → f l[q] = false,
    ⟨_, 0, rfl, Nat.zero_le _, rfl, rfl, fun i hi h => by omega⟩, ?_⟩
  rintro n x5 s ⟨j, hvs, hj, hn, rfl, hc⟩
  simp only [List.cons.injEq, and_true] at hvs
  obtain rfl := hvs
  simp only [lss_i64, optP_some, splitP_b]
  refine ⟨fun hlt => ?_, fun hge => ?_⟩
  · have hlt' : j < l.length := by simpa using hlt
    have hj0 : (0 : Int) ≤ j ∧ (j : Int) < (l.length : Int) := ⟨by omega, by omega⟩
    simp only [iasV_l, List.length_map, hj0, and_self, if_true, optP_some, Int.toNat_natCast, getD_map_ent _ _ hlt', ldV_ep, heldV_ent]
    refine hf _ (by simp) _ ?_
    simp
    refine ⟨fun h => k1 ⟨_, by simp, h⟩ j, fun h => ?_⟩
    rw [wrap64 (by omega) (by omega)]
    refine ⟨l.length - (j + 1), by omega, j + 1, by simp, by omega, rfl, fun q hq hqj => ?_⟩
    by_cases e : q = j
    · subst e; exact h
    · exact hc q hq (by omega)
  · have : j = l.length := by simp at hge; omega
    subst this
    refine k0 fun y hy => ?_
    obtain ⟨q, hq, rfl⟩ := List.getElem_of_mem hy
    exact hc q hq hq

theorem contains_ents (H : OkW E) {σ : St} {K : V → St → Prop} (l : List Ent) (fv : V) (f : Ent → Bool) (hlen : l.length ≤ 1099511627776)
    (hf : ∀ e ∈ l, ∀ (K : V → St → Prop), K (.b (f e)) σ → callV E fv [e.v] σ K) (k : K (.b (l.any f)) σ) : ACalls E 47 [entsV l, fv] σ K := by
  refine g_slices_ContainsFunc_api_Entry_api_Entry H.containsE ?_
  unfold p_slices_ContainsFunc_api_Entry_api_Entry
  refine index_ents H l fv f hlen hf (fun h => ?_) fun ⟨e, he, h1⟩ j => ?_
  · have : l.any f = false := by simpa using h
    rw [this] at k
    simpa [inV] using k
  · have : l.any f = true := List.any_eq_true.2 ⟨e, he, h1⟩
    rw [this] at k
    simpa [inV] using k

theorem raft_odd (H : OkW E) {σ : St} {K : V → St → Prop} {r lg : Nat} {R : Raft} {cl cy cm : Cap} (m : Msg) (hm : m.ok) (h : At σ r R lg cl cy cm) (k : K (.b (R.odd m)) σ) : ACalls E 27 [.p r 0, m.v] σ K := by
  refine .same (g_raft_Raft_odd H.odd ?_)
  unfold p_raft_Raft_odd
  have hb : boxV m.v σ = some (.p σ.length 0, σ ++ [.obj m.cs]) := rfl
  have hm0 : cellsOf (σ ++ [.obj m.cs]) σ.length = some m.cs := by simp
  have hr := cellsOf_left h.raft [.obj m.cs]
  simp -zeta only [hb, optW_some, faV_p, Nat.zero_add, ldV_at, hm0, ldC_some, mk4, mk5, mk6, mk3, optP_some]
  have hmk : mksV 1 [inV m.index, inV m.logTerm, inV m.commit, inV m.term] = some (.l 1 ([m.index, m.logTerm, m.commit, m.term].map inV) .full) := by simp [mksV]
  simp -zeta only [hmk, optP_some]
  have fin : ∀ b, R.odd m = b → Same E σ K (.b b) (σ ++ [.obj m.cs]) := by
    intro b hb; rw [hb] at k; exact .app _ (.refl _) (.b _) k
  have hlen : lenV (.l 1 ([m.index, m.logTerm, m.commit, m.term].map inV) .full) = some (.n .i64 4) := by simp
  simp -zeta only [hlen, optP_some]
  refine ⟨fun n vs s => ∃ (j : Nat), vs = [inV j] ∧ j ≤ 4 ∧ n = 4 - j ∧ s = σ ++ [.obj m.cs] ∧ ∀ q (hq : q < 4), q < j → ¬ ([m.index, m.logTerm, m.commit, m.term][q] < 0 ∨ 1099511627776 < [m.index, m.logTerm, m.commit, m.term][q]),
    ⟨_, 0, rfl, Nat.zero_le _, rfl, rfl, fun i hi h => by omega⟩, ?_⟩
  rintro n x5 s ⟨j, hvs, hj, hn, rfl, hc⟩
  simp only [List.cons.injEq, and_true] at hvs
  obtain rfl := hvs
  simp -zeta only [inV, lss_i64, optP_some, splitP_b]
  refine ⟨fun hlt => ?_, fun hge => ?_⟩
  · have hj2 : j < 4 := by simp at hlt; omega
    obtain ⟨p, hp1, hp2⟩ := (sees_ints [m.index, m.logTerm, m.commit, m.term] .full (σ ++ [.obj m.cs])).2 j (by simpa using hj2)
    simp -zeta only [hp1, hp2, optP_some]
    intro k33
    have hk33 : ([m.index, m.logTerm, m.commit, m.term][j] < 0 ∨ 1099511627776 < [m.index, m.logTerm, m.commit, m.term][j]) → k33 (σ ++ [.obj m.cs]) := by
      intro hbad
      simp only [k33]
      refine fin true ?_
      have : [m.index, m.logTerm, m.commit, m.term].any (fun n => decide (n < 0 ∨ 1099511627776 < n)) = true := List.any_eq_true.2 ⟨[m.index, m.logTerm, m.commit, m.term][j], by simp, by simpa using hbad⟩
      unfold Raft.odd; rw [this]; rfl
    clear_value k33
    simp -zeta only [inV, lss_i64, gtr_i64, optP_some, splitP_b]
    refine ⟨fun h1 => hk33 (.inl (by simpa using h1)), fun h1 => ⟨fun h2 => hk33 (.inr (by simpa using h2)), fun h2 => ?_⟩⟩
    simp only [add_i64, optP_some]
    rw [wrap64 (by omega) (by omega)]
    refine ⟨trivial, trivial, trivial, trivial, 4 - (j + 1), by omega, j + 1, by push_cast; rfl, by omega, rfl, trivial, fun q hq hqj => ?_⟩
    by_cases e : q = j
    · subst e; simp at h1 h2; simp; omega
    · exact hc q hq (by omega)
  · have hj4 : j = 4 := by simp at hge; omega
    subst hj4
    have hany : [m.index, m.logTerm, m.commit, m.term].any (fun n => decide (n < 0 ∨ 1099511627776 < n)) = false := by
      refine List.any_eq_false.2 fun x hx => ?_
      obtain ⟨q, hq, rfl⟩ := List.getElem_of_mem hx
      have := hc q (by simpa using hq) (by simpa using hq)
      simpa using this
    have i0 := hc 0 (by omega) (by omega)
    simp at i0
    intro k41
    have hk41 : (m.kind < 1 ∨ 8 < m.kind ∨ m.to ≠ R.id ∨ m.frm = R.id ∨ m.frm < 1 ∨ 7 < m.frm ∨ min 8 (1099511627776 - m.index) < m.ents.length) → k41 (σ ++ [.obj m.cs]) := by
      intro hbad
      simp only [k41]
      refine fin true ?_
      unfold Raft.odd; rw [hany, decide_eq_true hbad]; rfl
    clear_value k41
    simp -zeta only [nilV_p, faV_p, Nat.add_zero, Nat.zero_add, ldV_at, hm0, hr, ldC_some, mk0, mk1, mk2, mk8, rc0, optP_some, inV, lss_i64, gtr_i64, neq_i64, eql_i64, splitP_b, true_and, lenV_ents, mk4]
    refine ⟨fun h1 => hk41 (.inl (by simpa using h1)), fun h1 => ⟨fun h2 => hk41 (.inr (.inl (by simpa using h2))), fun h2 => ⟨fun h3 => hk41 (.inr (.inr (.inl (by simpa using h3)))), fun h3 => ⟨fun h4 => hk41 (.inr (.inr (.inr (.inl (by simpa using h4))))), fun h4 =>
      ⟨fun h5 => hk41 (.inr (.inr (.inr (.inr (.inl (by simpa using h5)))))), fun h5 => ⟨fun h6 => hk41 (.inr (.inr (.inr (.inr (.inr (.inl (by simpa using h6))))))), fun h6 => ?_⟩⟩⟩⟩⟩⟩
    simp -zeta only [sub_i64, optP_some]
    rw [wrap64 (by omega) (by omega)]
    simp -zeta only [minV_two, optP_some, gtr_i64, splitP_b]
    refine ⟨fun h7 => hk41 (.inr (.inr (.inr (.inr (.inr (.inr (by simpa using h7))))))), fun h7 => ?_⟩
    have hno : ¬ (m.kind < 1 ∨ 8 < m.kind ∨ m.to ≠ R.id ∨ m.frm = R.id ∨ m.frm < 1 ∨ 7 < m.frm ∨ min 8 (1099511627776 - m.index) < m.ents.length) := by
      simp at h1 h2 h3 h4 h5 h6 h7; simp [h3, h4]; omega
    intro k107 k109
    have hk107 : (m.kind = 7 ∧ (m.index = 0 ∨ chkMem m.mem = false)) → k107 (σ ++ [.obj m.cs]) := by
      intro hbad
      simp only [k107]
      refine fin true ?_
      unfold Raft.odd; rw [hany, decide_eq_false hno, decide_eq_true hbad]; rfl
    have hk109 : ¬ (m.kind = 7 ∧ (m.index = 0 ∨ chkMem m.mem = false)) → k109 (σ ++ [.obj m.cs]) := by
      intro hgood
      simp only [k109, hm0, ldC_some, mk8, optP_some]
      refine contains_ents H m.ents _ (fun x => decide (entErr x ≠ 0 ∨ m.term < x.term)) hm.1.1 (fun e he K' hk => by
        simp only [callV, List.nil_append, List.cons_append]
        exact odd_c1 H e (hm.1.2 e he) m hm0 hk) ?_
      have hodd : R.odd m = m.ents.any (fun x => decide (entErr x ≠ 0 ∨ m.term < x.term)) := by
        unfold Raft.odd; rw [hany, decide_eq_false hno, decide_eq_false hgood]; simp
      simp only [splitP_b]
      exact ⟨fun h => fin true (by rw [hodd, h]), fun h => fin false (by rw [hodd, h])⟩
    clear_value k107 k109
    simp -zeta only [hm0, ldC_some, mk0, mk4, mk9, optP_some, inV, eql_i64, splitP_b]
    refine ⟨fun h8 => ⟨fun h9 => hk107 ⟨by simpa using h8, .inl (by simpa using h9)⟩, fun h9 => ?_⟩, fun h8 => hk109 (by simp at h8; simp [h8])⟩
    refine quorum_check H.toOkQ _ hm.2.1 ?_
    simp -zeta only [inV, neq_i64, optP_some, splitP_b]
    refine ⟨fun h10 => hk107 ⟨by simpa using h8, .inr (by cases hq : chkMem m.mem <;> simp [hq] at h10 ⊢)⟩, fun h10 => hk109 ?_⟩
    simp at h9
    cases hq : chkMem m.mem <;> simp [hq] at h10 ⊢
    simp [h9]
end Go.Ab
/-
  A node of the raft: making one; where it stands; an entry of it.
-/
namespace Go.Ab

variable {E : Env}

structure OkN (E : Env) : Prop extends OkW E where
  rnew : chkF E.P E.m (E.m 12) c_raft_New = true
  stand : chkF E.P E.m (E.m 8) c_raft_Raft_Stand = true
  rat : chkF E.P E.m (E.m 17) c_raft_Raft_At = true

structure Stand where
  role : Int
  lead : Int
  term : Int
  vote : Int
  commit : Int
  first : Int
  last : Int
  mem : List Int
  deriving DecidableEq, Inhabited

def Stand.v (s : Stand) : V := .agg [inV s.role, inV s.lead, inV s.term, inV s.vote, inV s.commit, inV s.first, inV s.last, intsV s.mem]
def Raft.stand (R : Raft) : Stand := ⟨R.role, R.lead, R.term, R.vote, R.commit, R.log.index + 1, R.log.last, R.members⟩
theorem bel_stand (n : Nat) (s : Stand) : BelV E.m n s.v :=
  .agg (.cons (.n _ _) (.cons (.n _ _) (.cons (.n _ _) (.cons (.n _ _) (.cons (.n _ _) (.cons (.n _ _) (.cons (.n _ _) (.cons (bel_ints _ _) .nil))))))))

theorem raft_stand (H : OkN E) {σ : St} {K : V → St → Prop} {r : Nat} {R : Raft} {S : List Nat} {b : Nat} (h : RAt σ r R S) (hok : R.Ok b) (k : K R.stand.v σ) : ACalls E 8 [.p r 0] σ K := by
  obtain ⟨lg, cl, cy, cm, hS0, h'⟩ := h
  refine .same (g_raft_Raft_Stand H.stand ?_)
  unfold p_raft_Raft_Stand
  have hr : ∀ xs, cellsOf (σ ++ xs) r = some (R.cells lg cy cm) := fun xs => cellsOf_left h'.raft xs
  have hlg : ∀ xs, cellsOf (σ ++ xs) lg = some (R.log.cells cl) := fun xs => cellsOf_left h'.log xs
  simp only [allocW_eq, optW_some, nilV_p, faV_p, optP_some, ldV_at, hr, ldC_some, Nat.zero_add, Nat.add_zero, rc3, rc4, rc1, rc2, rc5, rc6, Nat.reduceAdd, true_and, and_true]
  refine log_first H.toOkL (hlg _) hok.log ?_
  simp only [hr, ldC_some, rc3, rc4, rc1, rc2, rc5, rc6, Nat.reduceAdd, optP_some, true_and, and_true]
  refine log_last H.toOkL (hlg _) hok.log ?_
  simp only [hr, ldC_some, rc3, rc4, rc1, rc2, rc5, rc6, Nat.reduceAdd, optP_some, true_and, and_true]
  refine raft_members H.toOkR (h'.app _) hok.log ?_
  simp only [hr, ldC_some, rc3, rc4, rc1, rc2, rc5, rc6, Nat.reduceAdd, optP_some, true_and, and_true]
  refine clone_ints H.toOk _ (by have := (members_ok hok.mem).len; omega) ?_
  simp only [hr, ldC_some, rc3, rc4, rc1, rc2, rc5, rc6, Nat.reduceAdd, optP_some, true_and, and_true]
  refine optP_of (v := R.stand.v) rfl ?_
  have e1 : storeV (.p σ.length 0) R.stand.v 8 (σ ++ [Ob.obj [.n .i64 0, .n .i64 0, .n .i64 0, .n .i64 0, .n .i64 0, .n .i64 0, .n .i64 0, .l 1 [] .nil]]) = some (.u, σ ++ [Ob.obj [inV R.role, inV R.lead, inV R.term, inV R.vote, inV R.commit, inV (R.log.index + 1), inV R.log.last, intsV R.members]]) := by
    simp [storeV_at, Stand.v, Raft.stand]
  simp only [e1, optW_some]
  have e2 : ldC 0 8 true (cellsOf (σ ++ [Ob.obj [inV R.role, inV R.lead, inV R.term, inV R.vote, inV R.commit, inV (R.log.index + 1), inV R.log.last, intsV R.members]]) σ.length) = some R.stand.v := by
    rw [cellsOf_right0]; rfl
  simp only [e2, optP_some]
  exact .app _ (.refl _) (bel_stand _ _) k

theorem raft_at (H : OkN E) {σ : St} {K : V → St → Prop} {r : Nat} {R : Raft} {S : List Nat} (i : Int) (h : RAt σ r R S) (hl : R.log.Ok)
    (k : K (.tup [((R.log.at? i).getD noEnt).v, inV (if R.log.within i then 0 else 170)]) σ) : ACalls E 17 [.p r 0, inV i] σ K := by
  obtain ⟨lg, cl, cy, cm, hS0, h'⟩ := h
  refine .same (g_raft_Raft_At H.rat ?_)
  unfold p_raft_Raft_At
  have hr : ∀ xs, cellsOf (σ ++ xs) r = some (R.cells lg cy cm) := fun xs => cellsOf_left h'.raft xs
  have hlg : ∀ xs, cellsOf (σ ++ xs) lg = some (R.log.cells cl) := fun xs => cellsOf_left h'.log xs
  simp only [allocW_eq, optW_some, nilV_p, faV_p, optP_some, ldV_at, hr, ldC_some, Nat.zero_add, Nat.add_zero, rc5]
  refine log_at H.toOkM i (hlg _) hl ?_
  simp only [extV_tup, List.getElem?_cons_zero, List.getElem?_cons_succ, optP_some]
  generalize (R.log.at? i).getD noEnt = e at *
  have e1 : storeV (.p σ.length 0) e.v 4 (σ ++ [Ob.obj [.n .i64 0, .n .i64 0, .l 1 [] .nil, .l 1 [] .nil]]) = some (.u, σ ++ [Ob.obj [inV e.term, inV e.kind, bytesV e.data, intsV e.mem]]) := by
    simp [storeV_at]
  simp only [e1, optW_some]
  have e2 : ldC 0 4 true (cellsOf (σ ++ [Ob.obj [inV e.term, inV e.kind, bytesV e.data, intsV e.mem]]) σ.length) = some e.v := by
    rw [cellsOf_right0]; rfl
  simp only [e2, optP_some]
  exact .app _ (.refl _) (.tup (.cons (bel_ent _ _) (.cons (.n _ _) .nil))) k

def Raft.new (id : Int) (ms : List Int) (ht hv : Int) (s : Snap) (l : List Ent) (timeout : Int) : Raft :=
  { id := id, term := clamp ht 0 1099511627776, vote := clamp hv 0 1099511627776, role := 0, lead := 0, log := ⟨max 0 (min s.index 1099511627776), s.term, l⟩, commit := max 0 (min s.index 1099511627776),
    snap := ⟨max 0 (min s.index 1099511627776), s.term, if chkMem s.mem then s.mem else if chkMem ms then ms else [], s.data⟩, yes := [], passed := 0, timeout := clamp timeout 1 100, next := fun _ => 1, mat := fun _ => 0, out := Ready.zero }

theorem new_ok (id : Int) (ms : List Int) (ht hv : Int) (s : Snap) (l : List Ent) (timeout : Int) (hs : s.data.length ≤ 1099511627776) (hl : EntsOk l) {b : Nat} (hb : l.length ≤ b) : (Raft.new id ms ht hv s l timeout).Ok b := by
  refine ⟨⟨hl, ?_, ?_⟩, hb, ?_, ⟨?_, ?_⟩, ?_, hs, by simp [Raft.new], by simp [Raft.new], ?_, by simp [Raft.new], by simp [Raft.new], by simp [Raft.new, Ready.zero], by simp [Raft.new], by simp [Raft.new]⟩
  · simp only [Raft.new]; omega
  · simp only [Raft.new]; omega
  · simp only [Raft.new, clamp]; omega
  · simp only [Raft.new]; omega
  · simp only [Raft.new, Log.last]; omega
  · simp only [Raft.new]
    split
    · exact .inr (by assumption)
    · split
      · exact .inr (by assumption)
      · exact .inl rfl
  · simp only [Raft.new, clamp]; omega

theorem raft_new (H : OkN E) {σ : St} {K : V → St → Prop} (id : Int) (ms : List Int) (ht hv : Int) (s : Snap) (l : List Ent) (timeout : Int) (hs : s.ok) (hms : ms.length ≤ 1099511627776) (hl : EntsOk l)
    (k : ∀ σ' r S', RAt σ' r (Raft.new id ms ht hv s l timeout) S' → Chg σ σ' [] → (∀ x ∈ S', σ.length ≤ x) → K (.p r 0) σ') :
    ACalls E 12 [inV id, intsV ms, .agg [inV ht, inV hv], s.v, entsV l, inV timeout] σ K := by
  refine g_raft_New H.rnew ?_
  unfold p_raft_New
  have hb : ∀ σ : St, boxV s.v σ = some (.p σ.length 0, σ ++ [.obj s.cs]) := fun _ => rfl
  have hh : ∀ xs, cellsOf (σ ++ (Ob.obj [inV ht, inV hv] :: xs)) σ.length = some [inV ht, inV hv] := fun xs => by simp
  have hsn : ∀ xs, cellsOf (σ ++ (Ob.obj [inV ht, inV hv] :: Ob.obj s.cs :: xs)) (σ.length + 1) = some s.cs := fun xs => by simp
  have p0 : partV [inV ht, inV hv] 0 1 false = some (inV ht) := rfl
  have p1 : partV [inV ht, inV hv] 1 1 false = some (inV hv) := rfl
  have s0 : partV s.cs 0 1 false = some (inV s.index) := rfl
  have s1 : partV s.cs 1 1 false = some (inV s.term) := rfl
  simp -zeta only [boxV_agg, hb, optW_some, faV_p, optP_some, ldV_at, List.append_assoc, List.cons_append, List.nil_append, Nat.zero_add, Nat.add_zero, hh, ldC_some, p0, p1, true_and, and_true, List.length_append, List.length_cons, List.length_nil]
  refine within_call H.toOkR _ _ _ ?_
  simp -zeta only [hh, ldC_some, p0, p1, optP_some, true_and, and_true]
  refine within_call H.toOkR _ _ _ ?_
  refine optP_of (v := .agg [inV (clamp ht 0 1099511627776), inV (clamp hv 0 1099511627776)]) rfl ?_
  simp -zeta only [hsn, ldC_some, s0, s1, optP_some, true_and, and_true]
  refine log_new H.toOkM _ _ l hl fun s' c p hr hp hcell => ?_
  simp -zeta only [List.append_assoc, List.cons_append, List.nil_append, hsn, ldC_some, sc0, optP_some, true_and, and_true] at hr hp hcell ⊢
  refine own_snap H.toOkR s hs ?_
  generalize hG : σ ++ (Ob.obj [inV ht, inV hv] :: Ob.obj s.cs :: s') = τ at *
  have hτ : Chg σ τ [] := by rw [← hG]; exact .app _ _ _
  have hτl : σ.length ≤ τ.length := hτ.1
  have hsn' : cellsOf τ (σ.length + 1) = some s.cs := by rw [← hG]; exact hsn s'
  obtain ⟨R0, hR0⟩ : ∃ R : Raft, R = ⟨id, clamp ht 0 1099511627776, clamp hv 0 1099511627776, 0, 0, ⟨max 0 (min s.index 1099511627776), s.term, l⟩, 0, s, [], 0, 0, fun _ => 0, fun _ => 0, Ready.zero⟩ := ⟨_, rfl⟩
  obtain ⟨cs0, hcs0⟩ : ∃ cs0, cs0 = [inV id, inV (clamp ht 0 1099511627776), inV (clamp hv 0 1099511627776), inV 0, inV 0, .p p 0, inV 0, inV s.index, inV s.term, intsV s.mem, bytesV s.data, .l 1 [] .nil, inV 0, inV 0,
      inV 0, inV 0, inV 0, inV 0, inV 0, inV 0, inV 0, inV 0, inV 0, inV 0, inV 0, inV 0, inV 0, inV 0, inV 0, inV 0, inV 0, inV 0, .b false, inV 0, inV 0, .l 1 [] .nil, .l 1 [] .nil, inV 0, .l 4 [] .nil, .l 11 [] .nil] := ⟨_, rfl⟩
  refine optP_of (v := .agg cs0) (by rw [hcs0]; rfl) ?_
  have hfg : FgP E.m cs0 (R0.cells p .nil .nil) := by
    have e1 : cs0 = (R0.cells p .nil .nil).take 30 ++ zeroReady := by rw [hcs0, hR0]; rfl
    have e2 : R0.cells p .nil .nil = (R0.cells p .nil .nil).take 30 ++ Ready.zero.cs .nil := by rw [hR0]; rfl
    have h : FgP E.m ((R0.cells p .nil .nil).take 30 ++ zeroReady) ((R0.cells p .nil .nil).take 30 ++ Ready.zero.cs .nil) := .app (.refl _) (.cons (.refl _) (.cons (.refl _) (.cons (.refl _) (.cons (.refl _) (.cons (.refl _) (.cons (.may _ _ _) (.cons (.may _ _ _) (.cons (.refl _) (.cons (.may _ _ _) (.cons (.refl _) .nil))))))))))
    rw [← e2] at h
    rw [e1]; exact h
  simp -zeta only [boxV_agg, optW_some]
  intro k36
  have hpl := cellsOf_lt hcell
  have htk : ∀ t ∈ c.toks, σ.length ≤ t ∧ t < τ.length ∧ t ≠ p := by
    intro t ht
    rcases hr with rfl | rfl | ⟨u, rfl, h1, h2⟩
    · simp [Cap.toks] at ht
    · simp [Cap.toks] at ht
    · simp [Cap.toks] at ht; subst ht
      refine ⟨by simp at h1; omega, (List.getElem?_eq_some_iff.1 h2).1, ?_⟩
      rintro rfl
      rw [cellsOf_eq, h2] at hcell; cases hcell
  have hroomτ : Room τ c := hr.room
  have hp' : σ.length ≤ p := by simp at hp; omega
  -- the node, its members being known
  have hk36 : ∀ (R : Raft), R.log = R0.log → At (τ ++ [.obj (R.cells p .nil .nil)]) τ.length R p c .nil .nil →
      { R with snap := { R.snap with index := R.log.index }, commit := R.log.index, next := fun _ => 1, timeout := clamp timeout 1 100 } = Raft.new id ms ht hv s l timeout → k36 (τ ++ [.obj (R.cells p .nil .nil)]) := by
    intro R hlog hA hfin
    have hlok : R.log.Ok := by rw [hlog, hR0]; exact ⟨hl, by simp only; omega, by simp only; omega⟩
    have a0 := hlok.lo; have a1 := hlok.hi
    simp only [k36, nilV_p, faV_p, optP_some, ldV_at, hA.raft, ldC_some, rc5, Nat.zero_add]
    refine log_first H.toOkL hA.log hlok ?_
    simp only [inV, sub_i64, optP_some]
    rw [wrap64 (by omega) (by omega), show R.log.index + 1 - 1 = R.log.index by omega]
    have hlt := cellsOf_lt hA.raft
    simp only [storeV_at, hA.raft, cells_n, stC_some, rc_len, Nat.add_zero, sp7', List.length_cons, List.length_nil]
    rw [if_pos (by constructor <;> first | trivial | omega)]
    simp only [optW_some, cellsOf_self hlt, ldC_some, rc7', optP_some, cells_n, stC_some, rc_len, sp6, List.length_cons, List.length_nil, List.set_set]
    rw [if_pos (by constructor <;> first | trivial | omega)]
    simp only [optW_some, List.set_set]
    have hA1 := hA.set (R' := { R with snap := { R.snap with index := R.log.index }, commit := R.log.index }) rfl
    refine ⟨fun n vs s' => ∃ (j : Nat) (R' : Raft), vs = [inV j] ∧ j ≤ 8 ∧ n = 8 - j ∧ At s' τ.length R' p c .nil .nil ∧ Chg τ s' [] ∧
      R' = { R with snap := { R.snap with index := R.log.index }, commit := R.log.index, next := fun i => if i < j then 1 else R.next i },
      ⟨_, 0, _, rfl, by omega, rfl, hA1, ?_, by simp⟩, ?_⟩
    · exact (Chg.app τ _ []).trans (.set (S := [τ.length]) _ (by simp)) fun x hx => by simp at hx; right; omega
    · rintro n x11 s2 ⟨j, R', hvs, hj, hn, hA2, hC2, hR'⟩
      simp only [List.cons.injEq, and_true] at hvs
      obtain rfl := hvs
      simp only [inV, lss_i64, optP_some, splitP_b]
      refine ⟨fun hlt2 => ?_, fun hge => ?_⟩
      · have hj2 : j < 8 := by simp at hlt2; omega
        have hia : iaaV (.p τ.length 14) (.n .i64 (j : Int)) 8 2 = some (.p τ.length (14 + j * 2)) := by
          simp only [iaaV]; rw [if_pos ⟨by omega, by omega⟩, Int.toNat_natCast]
        have hsp := sp_next R' p .nil .nil hj2 1
        simp only [inV] at hsp
        simp only [hia, optP_some, faV_p, storeV_at, Nat.add_zero, hA2.raft, cells_n, stC_some, rc_len, hsp, List.length_cons, List.length_nil]
        rw [if_pos (by constructor <;> first | trivial | omega)]
        simp only [optW_some, add_i64, optP_some]
        rw [wrap64 (by omega) (by omega)]
        refine ⟨8 - (j + 1), by omega, j + 1, _, by push_cast; rfl, by omega, rfl, hA2.set rfl, hC2.trans (.set (S := [τ.length]) _ (by simp)) (fun x hx => by simp at hx; right; omega), ?_⟩
        rw [hR']
        simp only [Raft.mk.injEq, true_and, and_true]
        funext i; simp only [upN]
        by_cases h1 : i = j
        · subst h1; simp
        · by_cases h2 : i < j
          · simp [h1, h2, show i < j + 1 by omega]
          · simp [h1, h2, show ¬ i < j + 1 by omega]
      · have hj8 : j = 8 := by simp at hge; omega
        subst hj8
        refine raft_draw H.toOkR timeout hA2.rat fun σ3 hL => ?_
        obtain ⟨S3, h3, hC3, hS3⟩ := hL
        obtain ⟨lg3, cl3, cy3, cm3, hS30, h3'⟩ := (show RAt _ _ _ _ from h3)
        have hcells : ({ R' with timeout := clamp timeout 1 100 } : Raft).cells lg3 cy3 cm3 = (Raft.new id ms ht hv s l timeout).cells lg3 cy3 cm3 := by
          rw [← hfin, hR']; rfl
        have hlg3 : ({ R' with timeout := clamp timeout 1 100 } : Raft).log = (Raft.new id ms ht hv s l timeout).log := by rw [← hfin, hR']
        have h4 : At σ3 τ.length (Raft.new id ms ht hv s l timeout) lg3 cl3 cy3 cm3 := ⟨h3'.nd, hcells ▸ h3'.raft, hlg3 ▸ h3'.log, h3'.rl, h3'.ry, h3'.rm⟩
        refine k _ _ _ (hS30 ▸ h4.rat : RAt σ3 τ.length _ S3) ?_ fun x hx => ?_
        · refine (hτ.then hC2).trans hC3 fun x hx => ?_
          simp [Cap.toks] at hx
          rcases hx with rfl | rfl | hx
          · exact .inr hτl
          · exact .inr hp'
          · exact .inr (htk x hx).1
        · rcases hS3 x hx with h | h
          · simp [Cap.toks] at h
            rcases h with rfl | rfl | h
            · exact hτl
            · exact hp'
            · exact (htk x h).1
          · have := hC2.1; omega
  clear_value k36
  have mkAt : ∀ R : Raft, R.log = R0.log → At (τ ++ [.obj (R.cells p .nil .nil)]) τ.length R p c .nil .nil := by
    intro R hlog
    refine ⟨?_, by simp, ?_, hroomτ.of fun t ht => by rw [List.getElem?_append_left (htk t ht).2.1], .inl rfl, .inl rfl⟩
    · simp only [Cap.toks, List.append_nil, List.nodup_cons, List.mem_cons, not_or]
      exact ⟨⟨by omega, fun h => by have := (htk _ h).2.1; omega⟩, fun h => (htk _ h).2.2 rfl, toks_nodup c⟩
    · rw [cellsOf_near hpl, hlog, hR0]; exact hcell
  have hlτ : ∀ xs : St, cellsOf (τ ++ xs) (σ.length + 1) = some s.cs := fun xs => cellsOf_left hsn' xs
  simp -zeta only [faV_p, Nat.zero_add, hlτ, ldC_some, sc2, optP_some, ldV_at]
  refine .pre (Gh.obj (cellsOf_push τ cs0) hfg _) ?_
  rw [List.set_append_right _ _ (Nat.le_refl _), Nat.sub_self, List.set_cons_zero]
  refine quorum_check H.toOkQ s.mem hs.1 ?_
  simp -zeta only [inV, neq_i64, optP_some, splitP_b]
  refine ⟨fun hbad => ?_, fun hgood => ?_⟩
  · have hc : chkMem s.mem = false := by cases hq : chkMem s.mem <;> simp [hq] at hbad ⊢
    simp -zeta only [nilV_p, faV_p, optP_some, storeV_at, cellsOf_push, cells_l, stC_some, rc_len, List.length_cons, List.length_nil]
    rw [if_pos (by constructor <;> first | trivial | omega)]
    simp -zeta only [optW_some]
    rw [List.set_append_right _ _ (Nat.le_refl _), Nat.sub_self, List.set_cons_zero]
    have hfg2 : FgP E.m (splice (R0.cells p .nil .nil) 9 [.l 1 [] .nil]) ({ R0 with snap := { R0.snap with mem := [] } }.cells p .nil .nil) := by
      have e1 : splice (R0.cells p .nil .nil) 9 [.l 1 [] .nil] = (R0.cells p .nil .nil).take 9 ++ (.l 1 [] .nil :: (R0.cells p .nil .nil).drop 10) := rfl
      have e2 : { R0 with snap := { R0.snap with mem := [] } }.cells p .nil .nil = (R0.cells p .nil .nil).take 9 ++ (intsV [] :: (R0.cells p .nil .nil).drop 10) := rfl
      rw [e1, e2]
      exact .app (.refl _) (.cons fg_nilI (.refl _))
    refine .pre (Gh.obj (cellsOf_push τ _) hfg2 _) ?_
    rw [List.set_append_right _ _ (Nat.le_refl _), Nat.sub_self, List.set_cons_zero]
    refine quorum_check H.toOkQ ms hms ?_
    simp -zeta only [inV, eql_i64, optP_some, splitP_b]
    refine ⟨fun h2 => ?_, fun h2 => ?_⟩
    · have hc2 : chkMem ms = true := by cases hq : chkMem ms <;> simp [hq] at h2 ⊢
      refine clone_ints H.toOk ms hms ?_
      simp -zeta only [nilV_p, faV_p, optP_some, storeV_at, cellsOf_push, cells_ints, stC_some, rc_len, List.length_cons, List.length_nil, Nat.zero_add]
      rw [if_pos (by constructor <;> first | trivial | omega)]
      simp -zeta only [optW_some, Nat.reduceAdd, sp9]
      rw [List.set_append_right _ _ (Nat.le_refl _), Nat.sub_self, List.set_cons_zero]
      refine hk36 _ rfl (mkAt _ rfl) ?_
      rw [hR0]; simp [Raft.new, hc, hc2]
    · have hc2 : chkMem ms = false := by cases hq : chkMem ms <;> simp [hq] at h2 ⊢
      refine hk36 _ rfl (mkAt _ rfl) ?_
      rw [hR0]; simp [Raft.new, hc, hc2]
  · have hc : chkMem s.mem = true := by cases hq : chkMem s.mem <;> simp [hq] at hgood ⊢
    refine hk36 R0 rfl (mkAt _ rfl) ?_
    rw [hR0]; simp [Raft.new, hc]
end Go.Ab
/-
  What the statements' functions make of their inputs: at most so many entries, numbers, bytes.
-/
namespace Go.Ab

variable {E : Env}

structure OkI (E : Env) : Prop extends OkN E where
  bytes : chkF E.P E.m (E.m 16) c_strongroomlaw19_bytes = true
  numbers : chkF E.P E.m (E.m 18) c_strongroomlaw19_numbers = true
  snap : chkF E.P E.m (E.m 19) c_strongroomlaw19_snap = true
  few : chkF E.P E.m (E.m 20) c_strongroomlaw19_few = true
  lent : chkF E.P E.m (E.m 7) c_strongroomlaw19_lent = true
  made : chkF E.P E.m (E.m 6) c_strongroomlaw19_made = true

def Ent.cut (e : Ent) : Ent := { e with data := e.data.take 50, mem := e.mem.take 9 }
def fewE (l : List Ent) : List Ent := (l.take 12).map Ent.cut
def Msg.cut (m : Msg) : Msg := { m with ents := fewE m.ents, mem := m.mem.take 9, data := m.data.take 50 }
def Snap.cut (s : Snap) : Snap := { s with mem := s.mem.take 9, data := s.data.take 50 }

theorem few_ok (l : List Ent) : EntsOk (fewE l) := by
  refine ⟨by simp [fewE]; omega, fun e he => ?_⟩
  simp only [fewE, List.mem_map] at he
  obtain ⟨x, -, rfl⟩ := he
  exact ⟨by simp [Ent.cut]; omega, by simp [Ent.cut]; omega⟩
theorem few_len (l : List Ent) : (fewE l).length ≤ 12 := by simp [fewE]; omega
theorem cut_ok (m : Msg) : m.cut.ok := ⟨few_ok _, by simp [Msg.cut]; omega, by simp [Msg.cut]; omega⟩
theorem snapcut_ok (s : Snap) : s.cut.ok := ⟨by simp [Snap.cut]; omega, by simp [Snap.cut]; omega⟩

theorem law_bytes (H : OkI E) {σ : St} {K : V → St → Prop} (l : List UInt8) (k : K (bytesV (l.take 50)) σ) : ACalls E 16 [bytesV l] σ K := by
  refine .same (g_strongroomlaw19_bytes H.bytes ?_)
  unfold p_strongroomlaw19_bytes
  intro k0
  have hk0 : k0 (bytesV (l.take 50)) σ := by
    simp only [k0]
    simp [bytesV, appV]
    refine ⟨by omega, ?_⟩
    split
    · rename_i h
      have e : l.take 50 = [] := by simpa using h
      exact .at (bytesV []) (.may _ _ _) (bel_bytes _ _) (by rw [e] at k; exact k)
    · exact .app (bytesV (l.take 50)) (by rw [← List.map_take]; exact .may _ _ _) (bel_bytes _ _) k
  clear_value k0
  simp -zeta -letToHave only [lenV_bytes, optP_some, gtr_i64, splitP_b]
  refine ⟨fun h => ?_, fun h => ?_⟩
  · have : 50 < l.length := by simp at h; omega
    have e : slcV (bytesV l) none (some (.n .i64 50)) none 1 = some (bytesV (l.take 50)) := by
      simp [slcV, bytesV, loOf, hiOf, mxOk, capOf, List.map_take]; omega
    rw [e]; exact hk0
  · have : l.length ≤ 50 := by simp at h; omega
    rw [List.take_of_length_le this] at hk0
    exact hk0

theorem law_numbers (H : OkI E) {σ : St} {K : V → St → Prop} (l : List Int) (k : K (intsV (l.take 9)) σ) : ACalls E 18 [intsV l] σ K := by
  refine .same (g_strongroomlaw19_numbers H.numbers ?_)
  unfold p_strongroomlaw19_numbers
  intro k0
  have hk0 : k0 (intsV (l.take 9)) σ := by
    simp only [k0]
    simp [intsV, appV]
    refine ⟨by omega, ?_⟩
    split
    · rename_i h
      have e : l.take 9 = [] := by simpa using h
      exact .at (intsV []) (.may _ _ _) (bel_ints _ _) (by rw [e] at k; exact k)
    · exact .app (intsV (l.take 9)) (by rw [← List.map_take]; exact .may _ _ _) (bel_ints _ _) k
  clear_value k0
  simp -zeta -letToHave only [lenV_ints, optP_some, gtr_i64, splitP_b]
  refine ⟨fun h => ?_, fun h => ?_⟩
  · have : 9 < l.length := by simp at h; omega
    have e : slcV (intsV l) none (some (.n .i64 9)) none 1 = some (intsV (l.take 9)) := by
      simp [slcV, intsV, loOf, hiOf, mxOk, capOf, List.map_take]; omega
    rw [e]; exact hk0
  · have : l.length ≤ 9 := by simp at h; omega
    rw [List.take_of_length_le this] at hk0
    exact hk0

theorem law_snap (H : OkI E) {σ : St} {K : V → St → Prop} (s : Snap) (k : K s.cut.v σ) : ACalls E 19 [s.v] σ K := by
  refine .same (g_strongroomlaw19_snap H.snap ?_)
  unfold p_strongroomlaw19_snap
  have hb : ∀ σ : St, boxV s.v σ = some (.p σ.length 0, σ ++ [.obj s.cs]) := fun _ => rfl
  simp only [hb, optW_some, allocW_eq, faV_p, optP_some, ldV_at, Nat.zero_add, Nat.add_zero, List.append_assoc, List.cons_append, List.nil_append, cellsOf_right0, cellsOf_cons0, ldC_some, sc2, List.length_append, List.length_cons, List.length_nil]
  refine law_numbers H _ ?_
  simp only [storeV_at, cellsOf_right0, cellsOf_cons0, cells_ints, stC_some, snap_len, List.length_cons, List.length_nil]
  rw [if_pos (by constructor <;> first | trivial | omega)]
  obtain ⟨s1, hs1⟩ : ∃ s1 : Snap, s1 = { s with mem := s.mem.take 9 } := ⟨_, rfl⟩
  have e1 : splice s.cs 2 [intsV (s.mem.take 9)] = s1.cs := by rw [hs1]; rfl
  simp only [optW_some, e1, set_right0, List.set_cons_zero, faV_p, optP_some, ldV_at, Nat.zero_add, cellsOf_right0, cellsOf_cons0, ldC_some, sc3]
  refine law_bytes H _ ?_
  simp only [storeV_at, cellsOf_right0, cellsOf_cons0, cells_bytes, stC_some, snap_len, List.length_cons, List.length_nil]
  rw [if_pos (by constructor <;> first | trivial | omega)]
  have e2 : splice s1.cs 3 [bytesV (s1.data.take 50)] = s.cut.cs := by rw [hs1]; rfl
  simp only [optW_some, e2, set_right0, List.set_cons_zero, faV_p, optP_some, ldV_at, Nat.zero_add, cellsOf_right0, cellsOf_cons0, ldC_some, sc0]
  simp only [storeV_at, cellsOf_right, cellsOf_consS, cellsOf_cons0, cells_snap, stC_some, snap_len, List.length_cons, List.length_nil]
  rw [if_pos (by constructor <;> first | trivial | omega)]
  have e3 : splice [V.n .i64 0, .n .i64 0, .l 1 [] .nil, .l 1 [] .nil] 0 s.cut.cs = s.cut.cs := rfl
  simp only [optW_some, e3, set_right, List.set_cons_succ, List.set_cons_zero, cellsOf_right, cellsOf_consS, cellsOf_cons0, ldC_some, sc0, optP_some]
  exact .app _ (.refl _) (.agg (.cons (.n _ _) (.cons (.n _ _) (.cons (bel_ints _ _) (.cons (bel_bytes _ _) .nil))))) k

theorem ent_cells_fg {m : Nat → FuncId} (e : Ent) (c1 c2 : Cap) : FgP m (V.agg [inV e.term, inV e.kind, .l 1 (e.data.map byV) c1, .l 1 (e.mem.map inV) c2]).cells e.v.cells :=
  .cons (.refl _) (.cons (.refl _) (.cons (.may _ _ _) (.cons (.may _ _ _) .nil)))

theorem law_few (H : OkI E) {σ : St} {K : V → St → Prop} (l : List Ent) (k : K (entsV (fewE l)) σ) : ACalls E 20 [entsV l] σ K := by
  refine .same (g_strongroomlaw19_few H.few ?_)
  unfold p_strongroomlaw19_few
  simp -zeta -letToHave only [mksV_nil 4 (by omega), optP_some]
  refine ⟨fun n vs s => ∃ (j : Nat) (c : Cap) (xs : List V), vs = [.l 4 xs c, inV j] ∧ j ≤ l.length ∧ j ≤ 12 ∧ n = 12 - j ∧ Ext σ s ∧ NewRoom σ s c ∧ FgE E.m xs (((l.take j).map Ent.cut).map Ent.v) ∧ xs.length = j,
    ⟨_, 0, .full, [], rfl, Nat.zero_le _, by omega, rfl, .refl _, .inr (.inl rfl), .nil, rfl⟩, ?_⟩
  rintro n x5 x6 τ ⟨j, c, xs, hvs, hj, hj12, hn, hx, hr, hfg, hxl⟩
  simp only [List.cons.injEq, and_true] at hvs
  obtain ⟨rfl, rfl⟩ := hvs
  intro k8
  have hk8 : (l.length ≤ j ∨ 12 ≤ j) → k8 τ := by
    intro h
    simp only [k8]
    have e : (l.take j).map Ent.cut = fewE l := by
      unfold fewE
      rcases h with h | h
      · rw [List.take_of_length_le h, List.take_of_length_le (by omega)]
      · rw [show j = 12 by omega]
    rw [e] at hfg
    obtain ⟨s', rfl⟩ := hx.more
    exact .app (entsV (fewE l)) (.l' _ hfg) (bel_ents _ _) k
  clear_value k8
  simp -zeta -letToHave only [lenV_ents, optP_some, inV, lss_i64, splitP_b]
  refine ⟨fun h1 => ⟨fun h2 => ?_, fun h2 => hk8 (.inr (by simp at h2; omega))⟩, fun h1 => hk8 (.inl (by simpa using h1))⟩
  have hjl : j < l.length := by simpa using h1
  have hj2 : j < 12 := by simp at h2; omega
  have hi : iasV (entsV l) (.n .i64 (j : Int)) 4 = some (.ep (l[j]).v) := by
    have hj0 : (0 : Int) ≤ j ∧ (j : Int) < (l.length : Int) := ⟨by omega, by omega⟩
    simp only [entsV, iasV_l, List.length_map, hj0, and_self, if_true, Int.toNat_natCast, getD_map_ent _ _ hjl]
  simp -zeta -letToHave only [hi, optP_some, ldV_ep, heldV_ent, allocW_eq, optW_some]
  generalize he : l[j] = e
  have e1 : storeV (.p τ.length 0) e.v 4 (τ ++ [Ob.obj [.n .i64 0, .n .i64 0, .l 1 [] .nil, .l 1 [] .nil]]) = some (.u, τ ++ [Ob.obj [inV e.term, inV e.kind, bytesV e.data, intsV e.mem]]) := by
    simp [storeV_at]
  simp -zeta -letToHave only [e1, optW_some]
  -- the entry's copy, as it stands
  have p2 : ∀ e : Ent, partV [inV e.term, inV e.kind, bytesV e.data, intsV e.mem] 2 1 false = some (bytesV e.data) := fun _ => rfl
  have p3 : ∀ e : Ent, partV [inV e.term, inV e.kind, bytesV e.data, intsV e.mem] 3 1 false = some (intsV e.mem) := fun _ => rfl
  have s2 : ∀ (e : Ent) (d : List UInt8), splice [inV e.term, inV e.kind, bytesV e.data, intsV e.mem] 2 [bytesV d] = [inV e.term, inV e.kind, bytesV d, intsV e.mem] := fun _ _ => rfl
  have s3 : ∀ (e : Ent) (d : List Int), splice [inV e.term, inV e.kind, bytesV e.data, intsV e.mem] 3 [intsV d] = [inV e.term, inV e.kind, bytesV e.data, intsV d] := fun _ _ => rfl
  intro k24
  have hk24 : ∀ e2 : Ent, e2.cut = e.cut → e2.data.length ≤ 50 → k24 (τ ++ [Ob.obj [inV e2.term, inV e2.kind, bytesV e2.data, intsV e2.mem]]) := by
    intro e2 t1 t2
    simp -zeta -letToHave only [k24]
    intro k26
    have hk26 : ∀ e3 : Ent, e3.cut = e.cut → e3.data.length ≤ 50 → e3.mem.length ≤ 9 → k26 (τ ++ [Ob.obj [inV e3.term, inV e3.kind, bytesV e3.data, intsV e3.mem]]) := by
      intro e3 t5 t6 t7
      have t8 : e.cut = e3 := by
        rw [← t5]; unfold Ent.cut
        rw [List.take_of_length_le t6, List.take_of_length_le t7]
      simp only [k26]
      simp only [mksV_nil 1 (by omega), optP_some, faV_p, Nat.zero_add, ldV_at, cellsOf_push, ldC_some, p2]
      obtain ⟨c1, σ1, a1, a2, a3, a4, a5, a6⟩ := app_new (e := 1) (bytes := 1) (xs := []) (ys := e3.data.map byV) (c := .full) (c2 := .may) (.inr (.inl rfl)) (by omega) (by simp; omega) (by simp; omega) (Ext.app τ [Ob.obj [inV e3.term, inV e3.kind, bytesV e3.data, intsV e3.mem]])
      have a7 := a5 _ _ (cellsOf_push τ [inV e3.term, inV e3.kind, bytesV e3.data, intsV e3.mem])
      have a8 := cellsOf_lt a7
      have a1' : appV (.l 1 [] .full) (bytesV e3.data) 1 1 (τ ++ [Ob.obj [inV e3.term, inV e3.kind, bytesV e3.data, intsV e3.mem]]) = some (.l 1 (e3.data.map byV) c1, σ1) := a1
      simp only [a1', optW_some, storeV_at, a7, cells_l, stC_some, List.length_cons, List.length_nil, Nat.reduceAdd, Nat.reduceLeDiff, and_self, if_true]
      have s4 : splice [inV e3.term, inV e3.kind, bytesV e3.data, intsV e3.mem] 2 [.l 1 (e3.data.map byV) c1] = [inV e3.term, inV e3.kind, .l 1 (e3.data.map byV) c1, intsV e3.mem] := rfl
      have p5 : partV [inV e3.term, inV e3.kind, .l 1 (e3.data.map byV) c1, intsV e3.mem] 3 1 false = some (intsV e3.mem) := rfl
      simp only [s4, cellsOf_self a8, ldC_some, p5, optP_some]
      obtain ⟨c2, σ2, b1, b2, b3, b4, b5, b6⟩ := app_new (e := 1) (bytes := 8) (xs := []) (ys := e3.mem.map inV) (c := .full) (c2 := .may) (σ0 := τ) (.inr (.inl rfl)) (by omega) (by simp; omega) (by simp; omega) (a3.set (Nat.le_refl _) (Ob.obj [inV e3.term, inV e3.kind, .l 1 (e3.data.map byV) c1, intsV e3.mem]))
      have b7 := b5 _ _ (cellsOf_self a8)
      have b8 := cellsOf_lt b7
      have b1' : appV (.l 1 [] .full) (intsV e3.mem) 1 8 (σ1.set τ.length (Ob.obj [inV e3.term, inV e3.kind, .l 1 (e3.data.map byV) c1, intsV e3.mem])) = some (.l 1 (e3.mem.map inV) c2, σ2) := b1
      simp only [b1', optW_some, b7, cells_l, stC_some, List.length_cons, List.length_nil, Nat.reduceAdd, Nat.reduceLeDiff, and_self, if_true]
      have s5 : splice [inV e3.term, inV e3.kind, .l 1 (e3.data.map byV) c1, intsV e3.mem] 3 [.l 1 (e3.mem.map inV) c2] = [inV e3.term, inV e3.kind, .l 1 (e3.data.map byV) c1, .l 1 (e3.mem.map inV) c2] := rfl
      have p6 : partV [inV e3.term, inV e3.kind, .l 1 (e3.data.map byV) c1, .l 1 (e3.mem.map inV) c2] 0 4 true = some (.agg [inV e3.term, inV e3.kind, .l 1 (e3.data.map byV) c1, .l 1 (e3.mem.map inV) c2]) := rfl
      simp only [s5, cellsOf_self b8, ldC_some, p6, optP_some]
      rw [mksV_one 4 _ _ rfl rfl (by omega)]
      simp only [optP_some]
      have b9 := b3.set (Nat.le_refl _) (Ob.obj [inV e3.term, inV e3.kind, .l 1 (e3.data.map byV) c1, .l 1 (e3.mem.map inV) c2])
      obtain ⟨c3, σ3, d1, d2, d3, d4, d5, d6⟩ := app_new (e := 4) (bytes := 64) (xs := xs) (ys := [.agg [inV e3.term, inV e3.kind, .l 1 (e3.data.map byV) c1, .l 1 (e3.mem.map inV) c2]]) (c := c) (c2 := .full) (hr.ext b9) (by omega) (by simp; omega) (by simp; omega) (hx.trans b9)
      simp only [d1, optW_some, add_i64, optP_some]
      rw [wrap64 (by omega) (by omega)]
      refine ⟨trivial, 12 - (j + 1), by omega, j + 1, c3, _, by push_cast; rfl, by omega, by omega, rfl, d3, d2, ?_, by simp [hxl]⟩
      rw [List.take_add_one]
      simp only [List.getElem?_eq_getElem hjl, he, Option.toList_some, List.map_append, List.map_cons, List.map_nil, t8]
      exact hfg.app (.cons (ent_cells_fg e3 c1 c2) .nil)
    clear_value k26
    simp -zeta -letToHave only [faV_p, optP_some, Nat.zero_add, ldV_at, cellsOf_push, ldC_some, p3, lenV_ints, gtr_i64, splitP_b]
    refine ⟨fun h => ?_, fun h => hk26 e2 t1 t2 (by simp at h; omega)⟩
    have h9 : 9 < e2.mem.length := by simp at h; omega
    have e3 : slcV (intsV e2.mem) none (some (.n .i64 9)) none 1 = some (intsV (e2.mem.take 9)) := by
      simp [slcV, intsV, loOf, hiOf, mxOk, capOf, List.map_take]; omega
    simp -zeta -letToHave only [e3, optP_some, storeV_at, cellsOf_push, cells_ints, stC_some, List.length_cons, List.length_nil, Nat.reduceAdd, Nat.reduceLeDiff, and_self, if_true, optW_some, s3, set_right0, List.set_cons_zero]
    refine hk26 { e2 with mem := e2.mem.take 9 } ?_ t2 (by simp; omega)
    rw [← t1]; simp [Ent.cut, List.take_take]
  clear_value k24
  simp -zeta -letToHave only [faV_p, optP_some, Nat.zero_add, ldV_at, cellsOf_push, ldC_some, p2, lenV_bytes, gtr_i64, splitP_b]
  refine ⟨fun h => ?_, fun h => hk24 e rfl (by simp at h; omega)⟩
  have h9 : 50 < e.data.length := by simp at h; omega
  have e3 : slcV (bytesV e.data) none (some (.n .i64 50)) none 1 = some (bytesV (e.data.take 50)) := by
    simp [slcV, bytesV, loOf, hiOf, mxOk, capOf, List.map_take]; omega
  simp -zeta -letToHave only [e3, optP_some, storeV_at, cellsOf_push, cells_bytes, stC_some, List.length_cons, List.length_nil, Nat.reduceAdd, Nat.reduceLeDiff, and_self, if_true, optW_some, s2, set_right0, List.set_cons_zero]
  refine hk24 { e with data := e.data.take 50 } ?_ (by simp; omega)
  simp [Ent.cut, List.take_take]

theorem law_lent (H : OkI E) {σ : St} {K : V → St → Prop} (m : Msg) (k : K m.cut.v σ) : ACalls E 7 [m.v] σ K := by
  refine .same (g_strongroomlaw19_lent H.lent ?_)
  unfold p_strongroomlaw19_lent
  have hb : ∀ σ : St, boxV m.v σ = some (.p σ.length 0, σ ++ [.obj m.cs]) := fun _ => rfl
  simp only [hb, optW_some, allocW_eq, faV_p, optP_some, ldV_at, Nat.zero_add, Nat.add_zero, List.append_assoc, List.cons_append, List.nil_append, cellsOf_right0, cellsOf_cons0, ldC_some, mk8, List.length_append, List.length_cons, List.length_nil]
  refine law_few H _ ?_
  obtain ⟨m1, hm1⟩ : ∃ m1 : Msg, m1 = { m with ents := fewE m.ents } := ⟨_, rfl⟩
  have e1 : splice m.cs 8 [entsV (fewE m.ents)] = m1.cs := by rw [hm1]; rfl
  simp only [storeV_at, cellsOf_right0, cellsOf_cons0, cells_ents, stC_some, msg_len, List.length_cons, List.length_nil, Nat.reduceAdd, Nat.reduceLeDiff, and_self, if_true, optW_some, e1, set_right0, List.set_cons_zero, faV_p, optP_some, ldV_at, Nat.zero_add, ldC_some, mk9]
  refine law_numbers H _ ?_
  obtain ⟨m2, hm2⟩ : ∃ m2 : Msg, m2 = { m1 with mem := m1.mem.take 9 } := ⟨_, rfl⟩
  have e2 : splice m1.cs 9 [intsV (m1.mem.take 9)] = m2.cs := by rw [hm2]; rfl
  simp only [storeV_at, cellsOf_right0, cellsOf_cons0, cells_ints, stC_some, msg_len, List.length_cons, List.length_nil, Nat.reduceAdd, Nat.reduceLeDiff, and_self, if_true, optW_some, e2, set_right0, List.set_cons_zero, faV_p, optP_some, ldV_at, Nat.zero_add, ldC_some, mk10]
  refine law_bytes H _ ?_
  have e3 : splice m2.cs 10 [bytesV (m2.data.take 50)] = m.cut.cs := by rw [hm2, hm1]; rfl
  have e4 : splice [V.n .i64 0, .n .i64 0, .n .i64 0, .n .i64 0, .n .i64 0, .n .i64 0, .n .i64 0, .b false, .l 4 [] .nil, .l 1 [] .nil, .l 1 [] .nil] 0 m.cut.cs = m.cut.cs := rfl
  simp only [storeV_at, cellsOf_right0, cellsOf_cons0, cells_bytes, stC_some, msg_len, List.length_cons, List.length_nil, Nat.reduceAdd, Nat.reduceLeDiff, and_self, if_true, optW_some, e3, set_right0, List.set_cons_zero, faV_p, optP_some, ldV_at, Nat.zero_add, ldC_some, mc0,
    cells_msg, cellsOf_right, cellsOf_consS, e4, set_right, List.set_cons_succ]
  exact .app _ (.refl _) (bel_msg _ _) k

structure Node where
  id : Int
  timeout : Int
  mem : List Int
  term : Int
  vote : Int
  snap : Snap
  ents : List Ent
  deriving DecidableEq, Inhabited
def Node.cs (n : Node) : List V := [inV n.id, inV n.timeout, intsV n.mem, inV n.term, inV n.vote, inV n.snap.index, inV n.snap.term, intsV n.snap.mem, bytesV n.snap.data, entsV n.ents]
def Node.v (n : Node) : V := .agg n.cs
@[simp] theorem node_len (n : Node) : n.cs.length = 10 := rfl

def Node.raft (n : Node) : Raft := Raft.new n.id (n.mem.take 9) n.term n.vote n.snap.cut (fewE n.ents) n.timeout
theorem Node.raft_ok (n : Node) {b : Nat} (hb : 12 ≤ b) : n.raft.Ok b :=
  new_ok _ _ _ _ _ _ _ (snapcut_ok _).2 (few_ok _) (Nat.le_trans (few_len _) hb)

theorem law_made (H : OkI E) {σ : St} {K : V → St → Prop} (n : Node)
    (k : ∀ σ' r S', RAt σ' r n.raft S' → Chg σ σ' [] → (∀ x ∈ S', σ.length ≤ x) → K (.p r 0) σ') : ACalls E 6 [n.v] σ K := by
  refine g_strongroomlaw19_made H.made ?_
  unfold p_strongroomlaw19_made
  have hb : boxV n.v σ = some (.p σ.length 0, σ ++ [.obj n.cs]) := rfl
  have n0 : partV n.cs 0 1 false = some (inV n.id) := rfl
  have n1 : partV n.cs 1 1 false = some (inV n.timeout) := rfl
  have n2 : partV n.cs 2 1 false = some (intsV n.mem) := rfl
  have n3 : partV n.cs 3 2 true = some (.agg [inV n.term, inV n.vote]) := rfl
  have n5 : partV n.cs 5 4 true = some n.snap.v := rfl
  have n9 : partV n.cs 9 1 false = some (entsV n.ents) := rfl
  simp only [hb, optW_some, faV_p, optP_some, ldV_at, Nat.zero_add, cellsOf_push, ldC_some, n0, n2, true_and, and_true]
  refine law_numbers H _ ?_
  simp only [ldV_at, cellsOf_push, ldC_some, n0, n3, n5, true_and, and_true, faV_p, optP_some, Nat.zero_add]
  refine law_snap H _ ?_
  simp only [ldV_at, cellsOf_push, ldC_some, n0, n3, n5, n9, true_and, and_true, faV_p, optP_some, Nat.zero_add]
  refine law_few H _ ?_
  simp only [ldV_at, cellsOf_push, ldC_some, n0, n1, n3, n5, n9, true_and, and_true, faV_p, optP_some, Nat.zero_add]
  refine raft_new H.toOkN _ _ _ _ _ _ _ (snapcut_ok _) (by simp; omega) (few_ok _) fun σ' r S' h hc hs => ?_
  refine k σ' r S' h ((Chg.app σ _ []).then hc) fun x hx => ?_
  have := hs x hx
  simp at this; omega
end Go.Ab
/-
  The document's examples; which of n kinds; stands that are the same.
-/
namespace Go.Ab

variable {E : Env}

structure OkX (E : Env) : Prop extends OkI E where
  shown : chkF E.P E.m (E.m 5) c_strongroomlaw19_shown = true
  kind : chkF E.P E.m (E.m 11) c_strongroomlaw19_kind = true
  sameStand : chkF E.P E.m (E.m 10) c_strongroomref19_SameStand = true
  same : chkF E.P E.m (E.m 31) c_strongroomref19_same = true

def raftA : Raft := Raft.new 1 [1] 0 0 ⟨0, 0, [], []⟩ [] 1
def raftB : Raft := Raft.new 1 [1, 2, 3] 0 0 ⟨0, 0, [], []⟩ [] 1

theorem shownA : (raftA.does Raft.tick).2 = ⟨1, 1, true, ⟨0, 0, [], []⟩, 1, [⟨1, 0, [], []⟩], []⟩ := by decide +kernel
theorem shownA2 : ((raftA.does Raft.tick).1.stand) = ⟨3, 1, 1, 1, 1, 1, 1, [1]⟩ := by decide +kernel
theorem shownB : (raftB.does Raft.tick).2 = ⟨0, 0, false, ⟨0, 0, [], []⟩, 0, [], [⟨1, 1, 2, 1, 0, 0, 0, false, [], [], []⟩, ⟨1, 1, 3, 1, 0, 0, 0, false, [], [], []⟩]⟩ := by decide +kernel

section
variable (o : Ready) (c : Cap) (s : Stand)
@[simp] theorem yc0 : partV (o.cs c) 0 1 false = some (inV o.term) := rfl
@[simp] theorem yc2 : partV (o.cs c) 2 1 false = some (.b o.new) := rfl
@[simp] theorem yc3 : partV (o.cs c) 3 1 false = some (inV o.snap.index) := rfl
@[simp] theorem yc6 : partV (o.cs c) 6 1 false = some (bytesV o.snap.data) := rfl
@[simp] theorem yc5 : partV (o.cs c) 5 1 false = some (intsV o.snap.mem) := rfl
@[simp] theorem yc7 : partV (o.cs c) 7 1 false = some (inV o.first) := rfl
@[simp] theorem yc8 : partV (o.cs c) 8 1 false = some (entsV o.ents) := rfl
@[simp] theorem yc9 : partV (o.cs c) 9 1 false = some (.l 11 (o.msgs.map Msg.v) c) := rfl
@[simp] theorem cells_ready (o : Ready) : o.v.cells? = some (o.cs .may) := rfl
def Stand.cs (s : Stand) : List V := [inV s.role, inV s.lead, inV s.term, inV s.vote, inV s.commit, inV s.first, inV s.last, intsV s.mem]
@[simp] theorem cells_stand (s : Stand) : s.v.cells? = some s.cs := rfl
@[simp] theorem stand_len (s : Stand) : s.cs.length = 8 := rfl
@[simp] theorem tc0 : partV s.cs 0 1 false = some (inV s.role) := rfl
@[simp] theorem tc1 : partV s.cs 1 1 false = some (inV s.lead) := rfl
@[simp] theorem tc2 : partV s.cs 2 1 false = some (inV s.term) := rfl
@[simp] theorem tc3 : partV s.cs 3 1 false = some (inV s.vote) := rfl
@[simp] theorem tc4 : partV s.cs 4 1 false = some (inV s.commit) := rfl
@[simp] theorem tc5 : partV s.cs 5 1 false = some (inV s.first) := rfl
@[simp] theorem tc6 : partV s.cs 6 1 false = some (inV s.last) := rfl
@[simp] theorem tc7 : partV s.cs 7 1 false = some (intsV s.mem) := rfl
@[simp] theorem tc8 : partV s.cs 0 8 true = some s.v := rfl
end

theorem faV_msg (m : Msg) (i : Nat) : faV (.ep m.v) i 1 false = (partV m.cs i 1 false).map .ep := rfl

theorem storeReady (σ : St) (o : Ready) : storeV (.p σ.length 0) o.v 10 (σ ++ [Ob.obj zeroReady]) = some (.u, σ ++ [Ob.obj (o.cs .may)]) := by
  rw [storeV_at, cellsOf_right0]
  simp [zeroReady]; rfl

def zeroStand : List V := [.n .i64 0, .n .i64 0, .n .i64 0, .n .i64 0, .n .i64 0, .n .i64 0, .n .i64 0, .l 1 [] .nil]
theorem storeStand (σ : St) (o : Stand) : storeV (.p σ.length 0) o.v 8 (σ ++ [Ob.obj zeroStand]) = some (.u, σ ++ [Ob.obj o.cs]) := by
  rw [storeV_at, cellsOf_right0]
  simp [zeroStand]; rfl

theorem Chg.more {σ σ' : St} (h : Chg σ σ' []) : ∃ x, σ' = σ ++ x := Ext.more ⟨h.1, fun l hl => h.2 l hl (by simp)⟩

theorem does_ok {R : Raft} {F : Raft → Raft} {b : Nat} (h : (F R).Ok b) : (R.does F).1.Ok b :=
  ⟨h.log, h.len, h.term, h.idx, h.mem, h.data, h.yes, h.passed, h.timeout, h.next, h.mat, by simp [Raft.does, Ready.zero], h.lead, h.mems⟩

theorem law_shown (H : OkX E) {σ : St} {K : V → St → Prop} (k : K (.b true) σ) : ACalls E 5 [] σ K := by
  refine .same (g_strongroomlaw19_shown H.shown ?_)
  unfold p_strongroomlaw19_shown
  have m1 : mksV 1 [V.n .i64 1] = some (.l 1 ([1].map inV) .full) := by simp [mksV]
  have m3 : mksV 1 [V.n .i64 1, .n .i64 2, .n .i64 3] = some (.l 1 ([1, 2, 3].map inV) .full) := by simp [mksV]
  simp -zeta only [m1, m3, optP_some]
  refine optP_of (v := .agg [inV 0, inV 0]) rfl ?_
  refine optP_of (v := .agg [inV 0, inV 0, .l 1 [] .nil, .l 1 [] .nil]) rfl ?_
  have fgz : FgV E.m (.agg [inV 0, inV 0, .l 1 [] .nil, .l 1 [] .nil]) (Snap.v ⟨0, 0, [], []⟩) := .agg (.cons (.refl _) (.cons (.refl _) (.cons fg_nilI (.cons fg_nilB .nil))))
  refine .args (.cons (.refl _) (.cons (.may _ _ _) (.cons (.refl _) (.cons fgz (.cons fg_nilE (.cons (.refl _) .nil)))))) ?_
  refine raft_new H.toOkN 1 [1] 0 0 ⟨0, 0, [], []⟩ [] 1 ⟨by simp, by simp⟩ (by simp) ⟨by simp, by simp⟩ fun σ1 r1 S1 hr1 hc1 hs1 => ?_
  refine optP_of (v := .agg [inV 0, inV 0]) rfl ?_
  refine optP_of (v := .agg [inV 0, inV 0, .l 1 [] .nil, .l 1 [] .nil]) rfl ?_
  refine .args (.cons (.refl _) (.cons (.may _ _ _) (.cons (.refl _) (.cons fgz (.cons fg_nilE (.cons (.refl _) .nil)))))) ?_
  refine raft_new H.toOkN 1 [1, 2, 3] 0 0 ⟨0, 0, [], []⟩ [] 1 ⟨by simp, by simp⟩ (by simp) ⟨by simp, by simp⟩ fun σ2 r2 S2 hr2 hc2 hs2 => ?_
  intro k16
  have e1 : ∀ l, binV .ptr .eql (.p l 0) .nilp = some (.b false) := fun _ => rfl
  simp -zeta only [e1, optP_some, splitP_b, Bool.false_eq_true, false_implies, true_and, forall_const, imp_false]
  have hA : (Raft.new 1 [1] 0 0 ⟨0, 0, [], []⟩ [] 1).Ok 12 := new_ok _ _ _ _ _ _ _ (by simp) ⟨by simp, by simp⟩ (by simp)
  have hB : (Raft.new 1 [1, 2, 3] 0 0 ⟨0, 0, [], []⟩ [] 1).Ok 12 := new_ok _ _ _ _ _ _ _ (by simp) ⟨by simp, by simp⟩ (by simp)
  have hr1' : RAt σ2 r1 raftA S1 := hr1.frame hc2 (by simp)
  have hC2 : Chg σ σ2 [] := hc1.then hc2
  have d12 : ∀ x ∈ S1, x ∉ S2 := fun x h1 h2 => by have := hr1.lt x h1; have := hs2 x h2; omega
  refine raft_Tick H.toOkT hr1' hA (by omega) (by omega) fun σ3 hL3 => hL3.bind fun T1 hT1 hC3 hT1s => ?_
  have hokT : (raftA.does Raft.tick).1.Ok 20 := does_ok (tick_ok hA (by omega) (by omega))
  simp -zeta only [allocW_eq, optW_some]
  change optW (storeV (.p σ3.length 0) _ 10 (σ3 ++ [Ob.obj zeroReady])) _
  rw [storeReady, shownA]
  simp -zeta only [optW_some]
  refine raft_stand H.toOkN (hT1.app _) hokT ?_
  change optW (storeV (.p (σ3 ++ _).length 0) _ 8 (σ3 ++ _ ++ [Ob.obj zeroStand])) _
  rw [storeStand, shownA2]
  simp -zeta only [optW_some]
  generalize hy : (⟨1, 1, true, ⟨0, 0, [], []⟩, 1, [⟨1, 0, [], []⟩], []⟩ : Ready) = y
  generalize ht : (⟨3, 1, 1, 1, 1, 1, 1, [1]⟩ : Stand) = t
  have hr3 : RAt (σ3 ++ [Ob.obj (y.cs .may)] ++ [Ob.obj t.cs]) r2 raftB S2 := ((hr2.frame hC3 fun x h1 h2 => d12 x h2 h1).app _).app _
  have out0 : σ3.length ∉ S2 := fun hi => by have := hr2.lt _ hi; have := hC3.1; omega
  have out1 : σ3.length + 1 ∉ S2 := fun hi => by have := hr2.lt _ hi; have := hC3.1; omega
  refine raft_Tick H.toOkT hr3 hB (by omega) (by omega) fun σ4 hL4 => hL4.bind fun T2 hT2 hC4 hT2s => ?_
  change optW (storeV (.p σ4.length 0) _ 10 (σ4 ++ [Ob.obj zeroReady])) _
  rw [storeReady, shownB]
  simp -zeta only [optW_some]
  have q0 : ∀ xs, cellsOf (σ4 ++ xs) σ3.length = some (y.cs .may) := fun xs => cellsOf_left (hC4.cells (by simp) out0) xs
  have q1 : ∀ xs, cellsOf (σ4 ++ xs) (σ3.length + 1) = some t.cs := fun xs => cellsOf_left (hC4.cells (by simp) out1) xs
  have hC5 : Chg σ (σ4 ++ [Ob.obj (Ready.cs ⟨0, 0, false, ⟨0, 0, [], []⟩, 0, [], [⟨1, 1, 2, 1, 0, 0, 0, false, [], [], []⟩, ⟨1, 1, 3, 1, 0, 0, 0, false, [], [], []⟩]⟩ .may)]) [] := by
    refine ((hC2.trans hC3 fun x hx => .inr (hs1 x hx)).then ((Chg.app σ3 _ []).then (Chg.app _ _ []))).trans (hC4.then (Chg.app _ _ _)) fun x hx => .inr ?_
    have := hs2 x hx; have := hc1.1; omega
  intro k40
  clear_value k40
  have i0 : ∀ (a b : V) (c : Cap), iasV (.l 11 [a, b] c) (.n .i64 0) 11 = some (.ep a) := fun _ _ _ => rfl
  have i1 : ∀ (a b : V) (c : Cap), iasV (.l 11 [a, b] c) (.n .i64 1) 11 = some (.ep b) := fun _ _ _ => rfl
  have t2 : (((2 : Nat) : Int) = 2) := rfl
  have t1 : (((1 : Nat) : Int) = 1) := rfl
  simp -zeta only [faV_p, optP_some, ldV_at, q0, q1, cellsOf_right0, cellsOf_cons0, ldC_some, Nat.zero_add, yc0, yc2, yc7, yc8, yc9, tc0, tc4, ← hy, ← ht, List.length_append, List.length_cons, List.length_nil, lenV_ents, inV, eql_i64, splitP_b, List.map_cons, List.map_nil, lenV_l,
    i0, i1, faV_msg, mk0, mk2, mk3, Option.map_some, ldV_ep, heldV_n, Nat.reduceAdd, t1, t2, decide_true, forall_const, Bool.true_eq_false, false_implies, and_true, true_and]
  obtain ⟨xs, hxs⟩ := hC5.more
  rw [hxs]
  exact .app _ (.refl _) (.b _) k

theorem law_kind (H : OkX E) {σ : St} {K : V → St → Prop} (c n : Int) (hc : -9223372036854775808 ≤ c) (hc2 : c < 9223372036854775808) (hn : n ≠ 0) (k : K (inV ((if c < 0 then -(c + 1) else c).tmod n)) σ) : ACalls E 11 [inV c, inV n] σ K := by
  refine g_strongroomlaw19_kind H.kind ?_
  unfold p_strongroomlaw19_kind
  intro k0
  have hk0 : ∀ x : Int, x = (if c < 0 then -(c + 1) else c) → k0 (inV x) σ := by
    rintro x rfl
    simp only [k0]
    have : binV .num .rem (inV (if c < 0 then -(c + 1) else c)) (inV n) = some (inV ((if c < 0 then -(c + 1) else c).tmod n)) := by
      show (if n = 0 then none else some _) = _
      rw [if_neg hn]
    rw [this]; exact k
  clear_value k0
  simp -zeta only [inV, lss_i64, optP_some, splitP_b]
  refine ⟨fun h => ?_, fun h => hk0 c (by rw [if_neg (by simpa using h)])⟩
  have h0 : c < 0 := by simpa using h
  have e : unV .neg (.n .i64 (c + 1)) = some (.n .i64 (IntKind.i64.wrap (-(c + 1)))) := by simp [unV]
  simp -zeta only [add_i64, optP_some]
  rw [wrap64 (by omega) (by omega), e, wrap64 (by omega) (by omega)]
  exact hk0 _ (by rw [if_pos h0])

theorem law_same (H : OkX E) {σ : St} {K : V → St → Prop} (a b : List Int) (ha : a.length ≤ 1099511627776) (k : K (.b (decide (a = b))) σ) : ACalls E 31 [intsV a, intsV b] σ K := by
  refine g_strongroomref19_same H.same ?_
  unfold p_strongroomref19_same
  simp -zeta only [lenV_ints, optP_some, neq_i64, splitP_b]
  refine ⟨fun h => ?_, fun h => ?_⟩
  · have : a ≠ b := by rintro rfl; simp at h
    simpa [this] using k
  · have hl : a.length = b.length := by simp at h; omega
    refine ⟨fun n vs s => ∃ (j : Nat), vs = [inV j] ∧ j ≤ a.length ∧ n = a.length - j ∧ s = σ ∧ ∀ q, q < j → a[q]? = b[q]?,
      ⟨_, 0, rfl, Nat.zero_le _, rfl, rfl, fun q hq => by omega⟩, ?_⟩
    rintro n x s ⟨j, hvs, hj, hn, rfl, hc⟩
    simp only [List.cons.injEq, and_true] at hvs
    obtain rfl := hvs
    simp -zeta only [inV, lss_i64, optP_some, splitP_b]
    refine ⟨fun hlt => ?_, fun hge => ?_⟩
    · have hj2 : j < a.length := by simpa using hlt
      have hj3 : j < b.length := by omega
      obtain ⟨p, hp1, hp2⟩ := (sees_ints a .may s).2 j hj2
      obtain ⟨q, hq1, hq2⟩ := (sees_ints b .may s).2 j hj3
      have hp1' : iasV (intsV a) (.n .i64 (j : Int)) 1 = some p := hp1
      have hq1' : iasV (intsV b) (.n .i64 (j : Int)) 1 = some q := hq1
      simp only [hp1', hp2, hq1', hq2, optP_some, true_and, neq_i64, inV, splitP_b]
      refine ⟨fun hne => ?_, fun he => ?_⟩
      · have : a ≠ b := by rintro rfl; simp at hne
        simpa [this] using k
      · simp only [add_i64, optP_some]
        rw [wrap64 (by omega) (by omega)]
        refine ⟨a.length - (j + 1), by omega, j + 1, by push_cast; rfl, by omega, rfl, trivial, fun q hq => ?_⟩
        by_cases e : q = j
        · subst e
          have : a[q] = b[q] := by simpa using he
          simp [hj2, hj3, this]
        · exact hc q (by omega)
    · have : j = a.length := by simp at hge; omega
      subst this
      have : a = b := by
        apply List.ext_getElem?
        intro i
        by_cases hi : i < a.length
        · exact hc i hi
        · rw [List.getElem?_eq_none (by omega), List.getElem?_eq_none (by omega)]
      simpa [this] using k

theorem law_sameStand (H : OkX E) {σ : St} {K : V → St → Prop} (a b : Stand) (ha : a.mem.length ≤ 1099511627776) (k : K (.b (decide (a = b))) σ) : ACalls E 10 [a.v, b.v] σ K := by
  refine .same (g_strongroomref19_SameStand H.sameStand ?_)
  unfold p_strongroomref19_SameStand
  have hb : ∀ (s : Stand) (σ : St), boxV s.v σ = some (.p σ.length 0, σ ++ [.obj s.cs]) := fun _ _ => rfl
  have hA : cellsOf (σ ++ [Ob.obj a.cs, Ob.obj b.cs]) σ.length = some a.cs := by simp
  have hB : cellsOf (σ ++ [Ob.obj a.cs, Ob.obj b.cs]) (σ.length + 1) = some b.cs := by simp
  simp -zeta only [hb, optW_some, List.append_assoc, List.cons_append, List.nil_append, List.length_append, List.length_cons, List.length_nil, Nat.zero_add]
  intro k4
  have hk4 : a ≠ b → k4 (σ ++ [Ob.obj a.cs, Ob.obj b.cs]) := by
    intro h
    simp only [k4]
    exact .app _ (.refl _) (.b _) (by simpa [h] using k)
  clear_value k4
  simp -zeta only [faV_p, optP_some, Nat.zero_add, ldV_at, hA, hB, ldC_some, tc0, tc1, tc2, tc3, tc4, tc5, tc6, tc7, inV, eql_i64, splitP_b]
  refine ⟨fun e0 => ⟨fun e1 => ⟨fun e2 => ⟨fun e3 => ⟨fun e4 => ⟨fun e5 => ⟨fun e6 => ?_, fun h => hk4 ?_⟩, fun h => hk4 ?_⟩, fun h => hk4 ?_⟩, fun h => hk4 ?_⟩, fun h => hk4 ?_⟩, fun h => hk4 ?_⟩, fun h => hk4 ?_⟩
  case refine_1 =>
    refine law_same H _ _ ha ?_
    simp -zeta only [splitP_b]
    simp only [decide_eq_true_eq] at e0 e1 e2 e3 e4 e5 e6
    refine ⟨fun e7 => ?_, fun h => hk4 ?_⟩
    · have : a = b := by
        cases a; cases b; simp at e0 e1 e2 e3 e4 e5 e6 e7; simp [e0, e1, e2, e3, e4, e5, e6, e7]
      exact .app _ (.refl _) (.b _) (by simpa [this] using k)
    · rintro rfl; simp at h
  all_goals (rintro rfl; simp at h)
end Go.Ab
/-
  A message is taken: the outer step; an odd one.
-/
namespace Go.Ab

variable {E : Env}

structure OkO (E : Env) : Prop extends OkX E where
  Take : chkF E.P E.m (E.m 9) c_raft_Raft_Take = true
  take1 : chkF E.P E.m (E.m 26) c_raft_Raft_Take_c1 = true
  rodd : chkF E.P E.m (E.m 1) c_strongroomlaw19_RaftOdd = true

theorem raft_Take_of (H : OkO E) {σ : St} {K : V → St → Prop} {r : Nat} {R : Raft} {S : List Nat} (m : Msg) (F : Raft → Raft) (h : RAt σ r R S)
    (hcall : ∀ (s : St) (a b : Nat) (K : V → St → Prop), RAt s r R S → cellsOf s a = some [.p r 0] → cellsOf s b = some m.cs → a ∉ S → b ∉ S → (∀ v s', Left s r S (F R) s' → K v s') → ACalls E 26 [.p a 0, .p b 0] s K)
    (k : ∀ σ', Left σ r S (R.does F).1 σ' → K (R.does F).2.v σ') : ACalls E 9 [.p r 0, m.v] σ K := by
  refine g_raft_Raft_Take H.Take ?_
  unfold p_raft_Raft_Take
  have hb : ∀ σ : St, boxV m.v σ = some (.p σ.length 0, σ ++ [.obj m.cs]) := fun _ => rfl
  have hx := h.lt
  have out : ∀ i, σ.length + i ∉ S := fun i hi => by have := hx _ hi; omega
  have out0 : σ.length ∉ S := out 0
  simp only [boxV_p, hb, optW_some, allocW_eq, List.append_assoc, List.cons_append, List.nil_append, List.length_append, List.length_cons, List.length_nil, Nat.zero_add, ldV_at, cellsOf_right0, cellsOf_cons0, ldC_some]
  have p0 : partV [V.p r 0] 0 1 false = some (.p r 0) := rfl
  simp only [p0, optP_some]
  generalize hτ : σ ++ [Ob.obj [V.p r 0], Ob.obj m.cs, Ob.obj [.n .i64 0, .n .i64 0, .b false, .n .i64 0, .n .i64 0, .l 1 [] .nil, .l 1 [] .nil, .n .i64 0, .l 4 [] .nil, .l 11 [] .nil]] = τ
  have hτl : τ.length = σ.length + 3 := by rw [← hτ]; simp
  have c0 : cellsOf τ σ.length = some [.p r 0] := by rw [← hτ]; simp
  have c1 : cellsOf τ (σ.length + 1) = some m.cs := by rw [← hτ]; simp
  have c2 : cellsOf τ (σ.length + 2) = some zeroReady := by rw [← hτ]; simp [zeroReady]
  have hCτ : Chg σ τ S := by rw [← hτ]; exact .app _ _ _
  have hτR : RAt τ r R S := by rw [← hτ]; exact h.app _
  refine raft_does H.toOkT F hτR (fun xs K' hk => ?_) fun σ1 hL => ?_
  · simp only [callV, List.nil_append, List.append_nil]
    exact hcall _ _ _ _ (hτR.app xs) (cellsOf_left c0 xs) (cellsOf_left c1 xs) out0 (out 1) fun v s' hL => hk v s' hL
  · have hc : cellsOf σ1 (σ.length + 2) = some zeroReady := hL.chg.cells c2 (out 2)
    have hlt := cellsOf_lt hc
    have e1 : storeV (.p (σ.length + 2) 0) (R.does F).2.v 10 σ1 = some (.u, σ1.set (σ.length + 2) (.obj ((R.does F).2.cs .may))) := by
      rw [storeV_at, hc]; rfl
    have e2 : ldV (.p (σ.length + 2) 0) 10 true (σ1.set (σ.length + 2) (.obj ((R.does F).2.cs .may))) = some (R.does F).2.v := by
      rw [ldV_at, cellsOf_self hlt]; rfl
    simp only [storeV_at, hc, cells_ready, stC_some, ready_len, zeroReady, List.length_cons, List.length_nil, Nat.reduceAdd, Nat.reduceLeDiff, Nat.zero_add, and_self, if_true, optW_some]
    have e3 : splice [V.n .i64 0, .n .i64 0, .b false, .n .i64 0, .n .i64 0, .l 1 [] .nil, .l 1 [] .nil, .n .i64 0, .l 4 [] .nil, .l 11 [] .nil] 0 ((R.does F).2.cs .may) = (R.does F).2.cs .may := rfl
    have e4 : partV ((R.does F).2.cs .may) 0 10 true = some (R.does F).2.v := rfl
    simp only [e3, cellsOf_self hlt, ldC_some, e4, optP_some]
    refine k _ ?_
    obtain ⟨S', h1, h2, h3⟩ := hL
    have hout : σ.length + 2 ∉ S' := fun hi => by
      rcases h3 _ hi with h | h
      · exact out 2 h
      · omega
    refine ⟨S', h1.frame (.set (S := [σ.length + 2]) _ (by simp)) (fun x hx hx' => by simp at hx'; subst hx'; exact hout hx), ?_, fun x hx => ?_⟩
    · refine (hCτ.then h2).trans (.set (S := [σ.length + 2]) _ (by simp)) fun x hx => ?_
      simp at hx; right; omega
    · rcases h3 x hx with h | h
      · exact .inl h
      · right; omega

theorem raft_take1_odd (H : OkO E) {s : St} {K : V → St → Prop} {r : Nat} {R : Raft} {S : List Nat} {m : Msg} {a b : Nat} (hm : m.ok) (ho : R.odd m = true) (h : RAt s r R S) (ha : cellsOf s a = some [.p r 0]) (hb : cellsOf s b = some m.cs)
    (k : K (.tup []) s) : ACalls E 26 [.p a 0, .p b 0] s K := by
  refine g_raft_Raft_Take_c1 H.take1 ?_
  unfold p_raft_Raft_Take_c1
  obtain ⟨lg, cl, cy, cm, hS0, h'⟩ := id h
  have p0 : partV [V.p r 0] 0 1 false = some (.p r 0) := rfl
  simp only [ldV_at, ha, hb, ldC_some, p0, mc0, optP_some]
  refine raft_odd H.toOkW m hm h' ?_
  rw [ho]
  simp only [splitP_b, forall_const, Bool.true_eq_false, false_implies, and_true]
  exact k

theorem does_id (R : Raft) (h : R.out = Ready.zero) : R.does (fun R => R) = (R, Ready.zero) := by
  simp only [Raft.does, and_self, if_true, h]
  cases R; simp at h; subst h; rfl

theorem raft_Take_odd (H : OkO E) {σ : St} {K : V → St → Prop} {r : Nat} {R : Raft} {S : List Nat} {m : Msg} (hm : m.ok) (ho : R.odd m = true) (hz : R.out = Ready.zero) (h : RAt σ r R S)
    (k : ∀ σ', Left σ r S R σ' → K Ready.zero.v σ') : ACalls E 9 [.p r 0, m.v] σ K := by
  refine raft_Take_of H m (fun R => R) h (fun s a b K hs ha hb _ _ hk => ?_) fun σ' hL => ?_
  · exact raft_take1_odd H hm ho hs ha hb (hk _ _ (.self hs))
  · rw [does_id R hz] at hL ⊢; exact k σ' hL
end Go.Ab
/-
  RaftOdd: the function answers true.
-/
namespace Go.Ab

variable {E : Env}

theorem xor_ne (a : Int) : bitsV .xor .i64 a 1 ≠ a := by
  intro h
  have e : bitsV .xor .i64 a 1 = IntKind.i64.wrap (BitVec.ofInt 64 a ^^^ BitVec.ofInt 64 1).toNat := rfl
  rw [e] at h
  have key : ∀ y : BitVec 64, BitVec.ofInt 64 (IntKind.i64.wrap y.toNat) = y := by
    intro y
    apply BitVec.eq_of_toNat_eq
    simp only [IntKind.wrap, IntKind.bits, IntKind.signed, BitVec.toNat_ofInt]
    have := y.isLt
    simp
    split <;> omega
  have h2 := congrArg (BitVec.ofInt 64) h
  rw [key] at h2
  have h3 : BitVec.ofInt 64 a ^^^ (BitVec.ofInt 64 a ^^^ BitVec.ofInt 64 1) = BitVec.ofInt 64 a ^^^ BitVec.ofInt 64 a := congrArg _ h2
  rw [← BitVec.xor_assoc, BitVec.xor_self, BitVec.zero_xor] at h3
  exact absurd h3 (by decide)

/-- The odd messages. -/
def oddly (id : Int) (m : Msg) : Nat → Msg
  | 0 => { m with kind := 9 }
  | 1 => { m with frm := 0 }
  | 2 => { m with frm := 8 }
  | 3 => { m with to := bitsV .xor .i64 id 1 }
  | 4 => { m with term := -1 }
  | _ => { m with commit := -1 }

theorem oddly_odd (R : Raft) (m : Msg) (j : Nat) : R.odd (oddly R.id m j) = true := by
  unfold Raft.odd
  match j with
  | 0 | 1 | 2 => simp [oddly]
  | 3 => simp [oddly, xor_ne]
  | 4 | n + 5 => simp [oddly]
theorem oddly_ok {m : Msg} (h : m.ok) (id : Int) (j : Nat) : (oddly id m j).ok := by
  match j with
  | 0 | 1 | 2 | 3 | 4 | n + 5 => exact h

theorem law_RaftOdd (H : OkO E) {σ : St} {K : V → St → Prop} (n : Node) (m : Msg) (k : K (.b true) σ) : ACalls E 1 [n.v, m.v] σ K := by
  refine .same (g_strongroomlaw19_RaftOdd H.rodd ?_)
  unfold p_strongroomlaw19_RaftOdd
  have hbn : ∀ σ : St, boxV n.v σ = some (.p σ.length 0, σ ++ [.obj n.cs]) := fun _ => rfl
  have hbm : ∀ σ : St, boxV m.v σ = some (.p σ.length 0, σ ++ [.obj m.cs]) := fun _ => rfl
  simp -zeta only [hbn, hbm, optW_some, List.append_assoc, List.cons_append, List.nil_append, List.length_append, List.length_cons, List.length_nil, Nat.zero_add]
  refine law_shown H.toOkX ?_
  simp -zeta only [splitP_b, forall_const, Bool.true_eq_false, false_implies, and_true]
  have hA : cellsOf (σ ++ [Ob.obj n.cs, Ob.obj m.cs]) σ.length = some n.cs := by simp
  have hB : cellsOf (σ ++ [Ob.obj n.cs, Ob.obj m.cs]) (σ.length + 1) = some m.cs := by simp
  have pn : partV n.cs 0 10 true = some n.v := rfl
  simp -zeta only [ldV_at, hA, ldC_some, pn, optP_some]
  refine law_made H.toOkI n fun σ1 r S1 hr1 hc1 hs1 => ?_
  generalize hR : n.raft = R at *
  have hok : R.Ok 12 := by rw [← hR]; exact n.raft_ok (by omega)
  have hz : R.out = Ready.zero := by rw [← hR]; rfl
  have hid : R.id = n.id := by rw [← hR]; rfl
  have hc0 : Chg σ σ1 [] := (Chg.app σ _ []).then hc1
  have hA1 := hc1.cells hA (by simp)
  have hB1 := hc1.cells hB (by simp)
  intro k10
  clear_value k10
  have e1 : ∀ l, binV .ptr .eql (.p l 0) .nilp = some (.b false) := fun _ => rfl
  simp -zeta only [e1, optP_some, splitP_b, Bool.false_eq_true, false_implies, true_and, forall_const, hB1, ldV_at, ldC_some, mc0]
  refine law_lent H.toOkI m ?_
  have hBlt := cellsOf_lt hB1
  generalize hm' : m.cut = m' at *
  have hmok : m'.ok := by rw [← hm']; exact cut_ok m
  simp -zeta only [storeV_at, hB1, cells_msg, stC_some, msg_len, Nat.zero_add, Nat.le_refl, and_self, if_true, optW_some, ms0]
  have hs1' : ∀ x ∈ S1, σ.length + 2 ≤ x := fun x hx => by have := hs1 x hx; simpa using this
  have hr2 : RAt (σ1.set (σ.length + 1) (.obj m'.cs)) r R S1 := hr1.frame (.set (S := [σ.length + 1]) _ (by simp)) fun x hx hx' => by
    simp at hx'; have := hs1' x hx; omega
  generalize hσ2 : σ1.set (σ.length + 1) (.obj m'.cs) = σ2 at *
  have hA2 : cellsOf σ2 σ.length = some n.cs := by rw [← hσ2, cellsOf_far (by omega)]; exact hA1
  have hB2 : cellsOf σ2 (σ.length + 1) = some m'.cs := by rw [← hσ2]; exact cellsOf_self hBlt
  have hC2 : Chg σ σ2 [] := by
    rw [← hσ2]; refine hc0.trans (.set (S := [σ.length + 1]) _ (by simp)) fun x hx => ?_
    simp at hx; omega
  refine raft_stand H.toOkN hr2 hok ?_
  simp -zeta only [allocW_eq, optW_some]
  change optW (storeV (.p σ2.length 0) _ 8 (σ2 ++ [Ob.obj zeroStand])) _
  rw [storeStand]
  simp -zeta only [optW_some]
  have hstl : R.stand.mem.length ≤ 1099511627776 := by have := (members_ok hok.mem).len; simp only [Raft.stand]; omega
  generalize hst : R.stand = t at *
  refine ⟨fun w vs s => ∃ (j : Nat) (S : List Nat), vs = [inV j] ∧ j ≤ 6 ∧ w = 6 - j ∧ RAt s r R S ∧ cellsOf s σ.length = some n.cs ∧ cellsOf s (σ.length + 1) = some m'.cs ∧ cellsOf s σ2.length = some t.cs ∧
      (∀ x ∈ S, σ.length + 2 ≤ x ∧ x ≠ σ2.length) ∧ Chg σ s [],
    ⟨_, 0, S1, rfl, by omega, rfl, hr2.app _, cellsOf_left hA2 _, cellsOf_left hB2 _, by simp, fun x hx => ⟨hs1' x hx, by have := hr2.lt x hx; omega⟩, hC2.then (.app _ _ _)⟩, ?_⟩
  rintro w x s ⟨j, S, hvs, hj, hw, hr, cA, cB, cC, hS, hC⟩
  simp only [List.cons.injEq, and_true] at hvs
  obtain rfl := hvs
  simp -zeta only [inV, lss_i64, optP_some, splitP_b]
  refine ⟨fun hlt => ?_, fun hge => ?_⟩
  · have hj6 : j < 6 := by simp at hlt; omega
    intro k33
    have hk33 : ∀ s', (∃ S, RAt s' r R S ∧ cellsOf s' σ.length = some n.cs ∧ cellsOf s' (σ.length + 1) = some m'.cs ∧ cellsOf s' σ2.length = some t.cs ∧ (∀ x ∈ S, σ.length + 2 ≤ x ∧ x ≠ σ2.length) ∧ Chg σ s' []) → k33 s' := by
      rintro s' ⟨S', h⟩
      simp only [k33, add_i64, optP_some]
      rw [wrap64 (by omega) (by omega)]
      exact ⟨6 - (j + 1), by omega, j + 1, S', by push_cast; rfl, by omega, rfl, h⟩
    clear_value k33
    simp -zeta only [ldV_at, cB, ldC_some, mc0, optP_some, allocW_eq, optW_some]
    have e2 : storeV (.p s.length 0) m'.v 11 (s ++ [Ob.obj [.n .i64 0, .n .i64 0, .n .i64 0, .n .i64 0, .n .i64 0, .n .i64 0, .n .i64 0, .b false, .l 4 [] .nil, .l 1 [] .nil, .l 1 [] .nil]]) = some (.u, s ++ [Ob.obj m'.cs]) := by
      rw [storeV_at, cellsOf_right0]; simp; rfl
    simp -zeta only [e2, optW_some]
    intro k43
    have hk43 : ∀ x : Msg, x = oddly R.id m' j → k43 (s ++ [.obj x.cs]) := by
      intro x hx
      have hxo : R.odd x = true := by rw [hx]; exact oddly_odd R m' j
      have hxk : x.ok := by rw [hx]; exact oddly_ok hmok _ _
      simp -zeta only [k43, cellsOf_right0, cellsOf_cons0, ldC_some, mc0, optP_some]
      refine raft_Take_odd H hxk hxo hz (hr.app _) fun s1 hL => hL.bind fun T hT hC1 hTs => ?_
      have hTs' : ∀ x ∈ T, σ.length + 2 ≤ x ∧ x ≠ σ2.length := fun x hx => by
        rcases hTs x hx with h | h
        · exact hS x h
        · have := cellsOf_lt cC; have := cellsOf_lt cB; simp at h; exact ⟨by omega, by omega⟩
      have o : ∀ {l cs}, l ∉ S → cellsOf s l = some cs → cellsOf s1 l = some cs := fun h1 h2 => hC1.cells (cellsOf_left h2 _) h1
      have cA1 := o (fun h => by have := hS _ h; omega) cA
      have cB1 := o (fun h => by have := hS _ h; omega) cB
      have cC1 := o (fun h => (hS _ h).2 rfl) cC
      have hCs1 : Chg σ s1 [] := (hC.then (.app _ _ _)).trans hC1 fun x hx => .inr (by have := hS x hx; omega)
      change optW (storeV (.p s1.length 0) _ 10 (s1 ++ [Ob.obj zeroReady])) _
      rw [storeReady]
      simp -zeta only [optW_some]
      refine raft_stand H.toOkN (hT.app _) hok ?_
      change optW (storeV (.p (s1 ++ [Ob.obj (Ready.zero.cs .may)]).length 0) _ 8 (s1 ++ [Ob.obj (Ready.zero.cs .may)] ++ [Ob.obj zeroStand])) _
      rw [storeStand, hst]
      have hT2 : RAt (s1 ++ [Ob.obj (Ready.zero.cs .may)] ++ [Ob.obj t.cs]) r R T := (hT.app _).app _
      have hC3 : Chg σ (s1 ++ [Ob.obj (Ready.zero.cs .may)] ++ [Ob.obj t.cs]) [] := (hCs1.then (.app _ _ _)).then (.app _ _ _)
      have q0 : cellsOf (s1 ++ [Ob.obj (Ready.zero.cs .may)] ++ [Ob.obj t.cs]) s1.length = some (Ready.zero.cs .may) := by simp
      have q1 : cellsOf (s1 ++ [Ob.obj (Ready.zero.cs .may)] ++ [Ob.obj t.cs]) (s1 ++ [Ob.obj (Ready.zero.cs .may)]).length = some t.cs := by
        rw [cellsOf_right0]; rfl
      have cA3 := cellsOf_left (cellsOf_left cA1 [Ob.obj (Ready.zero.cs .may)]) [Ob.obj t.cs]
      have cB3 := cellsOf_left (cellsOf_left cB1 [Ob.obj (Ready.zero.cs .may)]) [Ob.obj t.cs]
      have cC3 := cellsOf_left (cellsOf_left cC1 [Ob.obj (Ready.zero.cs .may)]) [Ob.obj t.cs]
      generalize hs3 : s1 ++ [Ob.obj (Ready.zero.cs .may)] ++ [Ob.obj t.cs] = s3 at *
      simp -zeta only [optW_some, cC3, q1, ldC_some, tc8, optP_some]
      refine law_sameStand H.toOkX t t hstl ?_
      simp -zeta only [decide_true, splitP_b, forall_const, Bool.true_eq_false, false_implies, and_true]
      intro k65
      clear_value k65
      have z1 : Ready.zero.new = false := rfl
      have z2 : Ready.zero.first = 0 := rfl
      have z3 : Ready.zero.msgs = [] := rfl
      have z4 : Ready.zero.ents = [] := rfl
      have z5 : Ready.zero.snap.index = 0 := rfl
      have p0 : partV (Ready.zero.cs .may) 3 1 false = some (inV 0) := rfl
      simp -zeta only [faV_p, ldV_at, q0, ldC_some, yc2, yc3, yc7, yc8, yc9, z1, z2, z3, z4, z5, Nat.zero_add, optP_some, splitP_b, Bool.false_eq_true, false_implies, true_and, forall_const, inV, neq_i64, lenV_ents, lenV_l, gtr_i64, List.map_nil, List.length_nil, decide_true, Bool.not_true, Int.lt_irrefl, decide_false, Nat.add_zero]
      have hk := hk33 _ ⟨T, hT2, cA3, cB3, cC3, hTs', hC3⟩
      exact ⟨fun h => absurd h (by decide), fun _ => ⟨fun h => absurd h (by decide), fun _ => hk⟩⟩
    clear_value k43
    have h5 : j = 0 ∨ j = 1 ∨ j = 2 ∨ j = 3 ∨ j = 4 ∨ j = 5 := by omega
    have n0 : partV n.cs 0 1 false = some (inV n.id) := rfl
    have hx1 : ∀ xs, cellsOf (s ++ xs) σ.length = some n.cs := fun xs => cellsOf_left cA _
    have bx : ∀ a, binV .num .xor (.n .i64 a) (.n .i64 1) = some (.n .i64 (bitsV .xor .i64 a 1)) := fun _ => rfl
    have st : ∀ (x y : Msg) (i : Nat) (v : V), v.cells? = some [v] → splice x.cs i [v] = y.cs → i + 1 ≤ 11 → storeV (.p s.length i) v 1 (s ++ [Ob.obj x.cs]) = some (.u, s ++ [Ob.obj y.cs]) := by
      intro x y i v h1 h2 h3
      rw [storeV_at, cellsOf_right0, h1, cellsOf_cons0, stC_some, if_pos ⟨rfl, by simpa using h3⟩, h2]; simp
    rcases h5 with rfl | rfl | rfl | rfl | rfl | rfl
    · have e0 := st m' (oddly R.id m' 0) 0 (.n .i64 9) rfl rfl (by omega)
      simp -zeta only [eql_i64, optP_some, splitP_b, faV_p, Nat.zero_add, e0, optW_some]
      exact ⟨fun _ => hk43 _ rfl, fun h => absurd h (by decide)⟩
    · have e0 := st m' (oddly R.id m' 1) 1 (.n .i64 0) rfl rfl (by omega)
      simp -zeta only [eql_i64, optP_some, splitP_b, faV_p, Nat.zero_add, e0, optW_some]
      exact ⟨fun h => absurd h (by decide), fun _ => ⟨fun _ => hk43 _ rfl, fun h => absurd h (by decide)⟩⟩
    · have e0 := st m' (oddly R.id m' 2) 1 (.n .i64 8) rfl rfl (by omega)
      simp -zeta only [eql_i64, optP_some, splitP_b, faV_p, Nat.zero_add, e0, optW_some]
      exact ⟨fun h => absurd h (by decide), fun _ => ⟨fun h => absurd h (by decide), fun _ => ⟨fun _ => hk43 _ rfl, fun h => absurd h (by decide)⟩⟩⟩
    · have e0 := st m' (oddly R.id m' 3) 2 (.n .i64 (bitsV .xor .i64 n.id 1)) rfl (by rw [← hid]; rfl) (by omega)
      simp -zeta only [eql_i64, optP_some, splitP_b, faV_p, Nat.zero_add, ldV_at, hx1, ldC_some, n0, inV, bx, e0, optW_some]
      exact ⟨fun h => absurd h (by decide), fun _ => ⟨fun h => absurd h (by decide), fun _ => ⟨fun h => absurd h (by decide), fun _ => ⟨fun _ => hk43 _ rfl, fun h => absurd h (by decide)⟩⟩⟩⟩
    · have e0 := st m' (oddly R.id m' 4) 3 (.n .i64 (-1)) rfl rfl (by omega)
      simp -zeta only [eql_i64, optP_some, splitP_b, faV_p, Nat.zero_add, e0, optW_some]
      exact ⟨fun h => absurd h (by decide), fun _ => ⟨fun h => absurd h (by decide), fun _ => ⟨fun h => absurd h (by decide), fun _ => ⟨fun h => absurd h (by decide), fun _ => ⟨fun _ => hk43 _ rfl, fun h => absurd h (by decide)⟩⟩⟩⟩⟩
    · have e0 := st m' (oddly R.id m' 5) 6 (.n .i64 (-1)) rfl rfl (by omega)
      simp -zeta only [eql_i64, optP_some, splitP_b, faV_p, Nat.zero_add, e0, optW_some]
      exact ⟨fun h => absurd h (by decide), fun _ => ⟨fun h => absurd h (by decide), fun _ => ⟨fun h => absurd h (by decide), fun _ => ⟨fun h => absurd h (by decide), fun _ => ⟨fun h => absurd h (by decide), fun _ => ⟨fun _ => hk43 _ rfl, fun h => absurd h (by decide)⟩⟩⟩⟩⟩⟩
  · obtain ⟨xs, hxs⟩ := hC.more
    rw [hxs]
    exact .app _ (.refl _) (.b _) k
end Go.Ab

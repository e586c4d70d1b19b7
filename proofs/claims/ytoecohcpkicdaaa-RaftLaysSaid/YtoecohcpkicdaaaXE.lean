/-
  What the log, the quorum and small functions of the raft do, as contracts. Each holds of a program whose functions are those of the texts.
-/
import Derived.Test.YtoecohcpkicdaaaXC
import Derived.Test.YtoecohcpkicdaaaXC0
import Derived.Test.YtoecohcpkicdaaaXC1
import Derived.Test.YtoecohcpkicdaaaXC2
import Derived.Test.YtoecohcpkicdaaaXC3
import Derived.Test.YtoecohcpkicdaaaXC4
import Derived.Test.YtoecohcpkicdaaaXC5
set_option linter.unusedVariables false
set_option linter.unusedSimpArgs false
set_option linter.unnecessarySimpa false
/-
  The log of a node as plain data, and what its functions do: contracts.
-/
namespace Go.Ab

variable {E : Env}

structure Ent where
  term : Int
  kind : Int
  data : List UInt8
  mem : List Int
  deriving DecidableEq, Inhabited

abbrev byV (x : UInt8) : V := .n .u8 (x.toNat : Int)
abbrev inV (x : Int) : V := .n .i64 x
def bytesV (l : List UInt8) : V := .l 1 (l.map byV) .may
def intsV (l : List Int) : V := .l 1 (l.map inV) .may
def Ent.v (e : Ent) : V := .agg [inV e.term, inV e.kind, bytesV e.data, intsV e.mem]
def entsV (l : List Ent) : V := .l 4 (l.map Ent.v) .may

/-- All the contracts that a text may lean on: the program's functions are those of the texts. -/
structure Ok (E : Env) : Prop where
  cloneB : chkF E.P E.m (E.m 60) c_slices_Clone_byte_byte = true
  cloneI : chkF E.P E.m (E.m 23) c_slices_Clone_int_int = true
  own : chkF E.P E.m (E.m 59) c_entries_own = true

theorem bel_ints (n : Nat) (l : List Int) : BelV E.m n (intsV l) :=
  .l (.flat (by simp [inV, V.cells]; intro x _; exact .cons (.n _ _) .nil)) trivial
theorem bel_bytes (n : Nat) (l : List UInt8) : BelV E.m n (bytesV l) :=
  .l (.flat (by simp [byV, V.cells]; intro x _; exact .cons (.n _ _) .nil)) trivial
theorem bel_ent (n : Nat) (e : Ent) : BelV E.m n e.v := .agg (.cons (.n _ _) (.cons (.n _ _) (.cons (bel_bytes _ _) (.cons (bel_ints _ _) .nil))))
theorem bel_ents (n : Nat) (l : List Ent) : BelV E.m n (entsV l) :=
  .l (.flat (by simp [Ent.v, V.cells]; intro x _; exact .cons (.n _ _) (.cons (.n _ _) (.cons (bel_bytes _ _) (.cons (bel_ints _ _) .nil))))) trivial

theorem clone_bytes (H : Ok E) {σ : St} {K : V → St → Prop} (xs : List UInt8) (hlen : xs.length ≤ 1099511627776) (k : K (bytesV xs) σ) : ACalls E 60 [bytesV xs] σ K := by
  refine .same (.byMay ?_ ?_)
  · refine g_slices_Clone_byte_byte H.cloneB ?_
    unfold p_slices_Clone_byte_byte
    simp [binV, eqOr, mksV, appV]
    refine ⟨by omega, ?_⟩
    split
    · rename_i h; subst h; exact .at (bytesV []) (.may _ _ _) (bel_bytes _ _) k
    · exact .app _ (.may _ _ _) (bel_bytes _ _) k
  · intro h
    refine g_slices_Clone_byte_byte H.cloneB ?_
    unfold p_slices_Clone_byte_byte
    simp [binV, eqOr]
    have : xs = [] := by simpa using h
    subst this
    exact .at (bytesV []) (.may _ _ _) (bel_bytes _ _) k

theorem clone_ints (H : Ok E) {σ : St} {K : V → St → Prop} (xs : List Int) (hlen : xs.length ≤ 1099511627776) (k : K (intsV xs) σ) : ACalls E 23 [intsV xs] σ K := by
  refine .same (.byMay ?_ ?_)
  · refine g_slices_Clone_int_int H.cloneI ?_
    unfold p_slices_Clone_int_int
    simp [binV, eqOr, mksV, appV]
    refine ⟨by omega, ?_⟩
    split
    · rename_i h; subst h; exact .at (intsV []) (.may _ _ _) (bel_ints _ _) k
    · exact .app _ (.may _ _ _) (bel_ints _ _) k
  · intro h
    refine g_slices_Clone_int_int H.cloneI ?_
    unfold p_slices_Clone_int_int
    simp [binV, eqOr]
    have : xs = [] := by simpa using h
    subst this
    exact .at (intsV []) (.may _ _ _) (bel_ints _ _) k
theorem fg_ents (l : List Ent) (c : Cap) : FgV E.m (.l 4 (l.map Ent.v) c) (entsV l) := .may _ _ _

theorem getD_map_ent (l : List Ent) (k : Nat) (h : k < l.length) : (l.map Ent.v).getD k .u = (l[k]).v := by simp [List.getD, h]

/-- Entries whose parts are not too long to be copied. -/
def Ent.ok (e : Ent) : Prop := e.data.length ≤ 1099511627776 ∧ e.mem.length ≤ 1099511627776
def EntsOk (l : List Ent) : Prop := l.length ≤ 1099511627776 ∧ ∀ e ∈ l, e.ok

theorem own_ents (H : Ok E) {σ : St} {K : V → St → Prop} (es : List Ent) (hok : EntsOk es) (k : ∀ c s', NewRoom σ (σ ++ s') c → K (.l 4 (es.map Ent.v) c) (σ ++ s')) : ACalls E 59 [entsV es] σ K := by
  refine g_entries_own H.own ?_
  unfold p_entries_own
  simp only [entsV, lenV_l, optP_some, List.length_map]
  refine ⟨fun n vs s => ∃ (k : Nat) (c' : Cap) (s' : St), vs = [.l 4 ((es.take k).map Ent.v) c', .n .i64 k] ∧ k ≤ es.length ∧ n = es.length - k ∧ s = σ ++ s' ∧ NewRoom σ s c',
    ⟨_, 0, .nil, [], rfl, Nat.zero_le _, rfl, by simp, .inl rfl⟩, ?_⟩
  rintro n x5 x6 s ⟨j, c', s', hvs, hj, hn, rfl, hroom⟩
  simp only [List.cons.injEq, and_true] at hvs
  obtain ⟨rfl, rfl⟩ := hvs
  simp only [lss_i64, optP_some, splitP_b]
  refine ⟨fun hlt => ?_, fun hge => ?_⟩
  · have hlt' : j < es.length := by simpa using hlt
    have hj0 : (0 : Int) ≤ j ∧ (j : Int) < (es.length : Int) := ⟨by omega, by omega⟩
    simp only [iasV_l, List.length_map, hj0, and_self, if_true, optP_some, Int.toNat_natCast, getD_map_ent _ _ hlt', ldV_ep]
    generalize he : es[j] = e
    have heok : e.ok := hok.2 e (by rw [← he]; simp)
    have hv : e.v = .agg [inV e.term, inV e.kind, bytesV e.data, intsV e.mem] := rfl
    rw [hv]
    simp [storeV_at, ldV_at, partV]
    refine clone_bytes H _ heok.1 ?_
    simp [storeV_at, ldV_at, partV]
    refine clone_ints H _ heok.2 ?_
    simp [storeV_at, ldV_at, partV, bytesV, intsV]
    have hr2 := hroom.more (xs := [Ob.obj [inV e.term, inV e.kind, bytesV e.data, intsV e.mem]])
    rw [List.append_assoc] at hr2
    rw [show [V.agg [inV e.term, inV e.kind, .l 1 (e.data.map byV) .may, .l 1 (e.mem.map inV) .may]] = [e].map Ent.v from rfl]
    have h1 := hok.1
    refine app_at hr2 (by omega) (by simp; omega) (by simp; omega) fun c2 s2 hc2 _ => ?_
    refine ⟨es.length - (j + 1), by omega, j + 1, c2, ⟨?_, ?_⟩, by omega, rfl, ⟨s2, rfl⟩, hc2⟩
    · rw [List.take_add_one]; simp [List.map_take, hlt', he]
    · rw [wrap64 (by omega) (by omega)]; simp
  · have : j = es.length := by simp at hge; omega
    subst this
    simpa using k c' s' hroom
end Go.Ab
/-
  The log: its functions' contracts.
-/
namespace Go.Ab

variable {E : Env}

structure Log where
  index : Int
  term : Int
  l : List Ent
  deriving DecidableEq, Inhabited

def Log.last (g : Log) : Int := g.index + g.l.length
def Log.cells (g : Log) (c : Cap) : List V := [inV g.index, inV g.term, .l 4 (g.l.map Ent.v) c]
structure Log.Ok (g : Log) : Prop where
  ents : EntsOk g.l
  lo : 0 ≤ g.index
  hi : g.index ≤ 1099511627776

structure OkL (E : Env) : Prop extends Ok E where
  first : chkF E.P E.m (E.m 21) c_entries_Log_First = true
  last : chkF E.P E.m (E.m 22) c_entries_Log_Last = true
  within : chkF E.P E.m (E.m 76) c_entries_Log_within = true
  term : chkF E.P E.m (E.m 42) c_entries_Log_Term = true
  from_ : chkF E.P E.m (E.m 77) c_entries_Log_From = true

theorem log_first (H : OkL E) {σ : St} {K : V → St → Prop} {lg : Nat} {g : Log} {c : Cap} (hl : cellsOf σ lg = some (g.cells c)) (hg : g.Ok) (k : K (inV (g.index + 1)) σ) : ACalls E 21 [.p lg 0] σ K := by
  refine g_entries_Log_First H.first ?_
  unfold p_entries_Log_First
  have := hg.lo; have := hg.hi
  simp [ldV_at, hl, partV, Log.cells, inV]
  rw [wrap64 (by omega) (by omega)]; exact k

theorem log_last (H : OkL E) {σ : St} {K : V → St → Prop} {lg : Nat} {g : Log} {c : Cap} (hl : cellsOf σ lg = some (g.cells c)) (hg : g.Ok) (k : K (inV g.last) σ) : ACalls E 22 [.p lg 0] σ K := by
  refine g_entries_Log_Last H.last ?_
  unfold p_entries_Log_Last
  have := hg.lo; have := hg.hi; have := hg.ents.1
  simp [ldV_at, hl, partV, Log.cells, inV]
  rw [wrap64 (by omega) (by omega)]; exact k

def Log.within (g : Log) (i : Int) : Bool := decide (g.index < i) && decide (i ≤ g.last)

theorem log_within (H : OkL E) {σ : St} {K : V → St → Prop} {lg : Nat} {g : Log} {c : Cap} (i : Int) (hl : cellsOf σ lg = some (g.cells c)) (hg : g.Ok) (k : K (.b (g.within i)) σ) : ACalls E 76 [.p lg 0, inV i] σ K := by
  refine g_entries_Log_within H.within ?_
  unfold p_entries_Log_within
  simp [ldV_at, hl, partV, Log.cells, inV]
  refine ⟨fun h => ?_, fun h => ?_⟩
  · refine log_last H hl hg ?_
    simp [inV]
    have e : g.within i = decide (i ≤ g.last) := by simp [Log.within, h]
    rw [e] at k
    refine ⟨fun h2 => ?_, fun h2 => ?_⟩
    · simpa [h2] using k
    · simpa [show ¬ i ≤ g.last by omega] using k
  · have h' : ¬ g.index < i := by omega
    simpa [Log.within, h'] using k

/-- The term of an entry, and whether it is there. -/
def Log.at? (g : Log) (i : Int) : Option Ent := if g.within i then g.l[((i - g.index).toNat - 1)]? else none
def Log.termOf (g : Log) (i : Int) : Int × Int :=
  if i = g.index then (g.term, 0) else match g.at? i with
    | some e => (e.term, 0)
    | none => (0, 170)

theorem Log.at_within {g : Log} {i : Int} (h : g.within i = true) : ∃ e, g.at? i = some e ∧ ((i - g.index).toNat - 1) < g.l.length ∧ 1 ≤ i - g.index ∧ g.l[((i - g.index).toNat - 1)]? = some e := by
  simp only [Log.within, Bool.and_eq_true, decide_eq_true_eq] at h
  obtain ⟨ha, hb⟩ := h
  have hb' := hb
  simp only [Log.last] at hb'
  have h1 : ((i - g.index).toNat - 1) < g.l.length := by omega
  have h3 : 1 ≤ i - g.index := by omega
  refine ⟨g.l[((i - g.index).toNat - 1)], ?_, h1, h3, by simp [h1]⟩
  simp [Log.at?, Log.within, ha, hb, h1]

theorem log_term (H : OkL E) {σ : St} {K : V → St → Prop} {lg : Nat} {g : Log} {c : Cap} (i : Int) (hl : cellsOf σ lg = some (g.cells c)) (hg : g.Ok) (k : K (.tup [inV (g.termOf i).1, inV (g.termOf i).2]) σ) : ACalls E 42 [.p lg 0, inV i] σ K := by
  refine g_entries_Log_Term H.term ?_
  unfold p_entries_Log_Term
  simp [ldV_at, hl, partV, Log.cells, inV]
  refine ⟨fun h => ?_, fun h => ?_⟩
  · simpa [Log.termOf, h, inV] using k
  · refine log_within H i hl hg ?_
    simp
    refine ⟨fun hw => ?_, fun hw => ?_⟩
    · obtain ⟨e, h1, h2, h3, h4⟩ := Log.at_within hw
      simp [hl, Log.cells, inV, partV]
      refine log_first H hl hg ?_
      have hi := hg.lo; have := hg.hi; have hlen := hg.ents.1
      simp [ldV_at, hl, partV, Log.cells, inV]
      rw [wrap64 (by omega) (by omega)]
      have e3 : (i - (g.index + 1)).toNat = (i - g.index).toNat - 1 := by omega
      have e4 : 0 ≤ i - (g.index + 1) := by omega
      have e2 : i - (g.index + 1) < (g.l.length : Int) := by omega
      rw [e3]
      simp only [e2, e4, and_self, true_and, List.getD, List.getElem?_map, h4, Option.map_some, Option.getD_some, Ent.v]
      simp [partV, inV]
      simpa [Log.termOf, h, h1, inV] using k
    · simpa [Log.termOf, h, Log.at?, hw, inV] using k
end Go.Ab
/-
  The log: reading some of it, making one, laying behind, beginning later.
-/
namespace Go.Ab

variable {E : Env}

@[simp] theorem maxV_two (k k' : IntKind) (a b : Int) : maxV [.n k a, .n k' b] = some (.n k (max a b)) := rfl
@[simp] theorem minV_two (k k' : IntKind) (a b : Int) : minV [.n k a, .n k' b] = some (.n k (min a b)) := rfl

theorem own_same (H : Ok E) {σ : St} {K : V → St → Prop} (es : List Ent) (hok : EntsOk es) (k : K (entsV es) σ) : ACalls E 59 [entsV es] σ K :=
  .same (own_ents H es hok fun c s' _ => .app _ (fg_ents _ _) (bel_ents _ _) k)

/-- Arguments that are known better than need be. -/
theorem ACalls.args {id : Nat} {as bs : List V} {σ : St} {K : V → St → Prop} (h : FgP E.m as bs) (k : ACalls E id bs σ K) : ACalls E id as σ K := .pre (.fg h σ) k
theorem own_any (H : Ok E) {σ : St} {K : V → St → Prop} (es : List Ent) (c : Cap) (hok : EntsOk es) (k : K (entsV es) σ) : ACalls E 59 [.l 4 (es.map Ent.v) c] σ K :=
  .args (.cons (fg_ents _ _) .nil) (own_same H es hok k)
theorem own_any' (H : Ok E) {σ : St} {K : V → St → Prop} (es : List Ent) (c : Cap) (hok : EntsOk es) (k : ∀ c s', NewRoom σ (σ ++ s') c → K (.l 4 (es.map Ent.v) c) (σ ++ s')) : ACalls E 59 [.l 4 (es.map Ent.v) c] σ K :=
  .args (.cons (fg_ents _ _) .nil) (own_ents H es hok k)

theorem EntsOk.sub {l : List Ent} (h : EntsOk l) (a b : Nat) : EntsOk ((l.drop a).take b) :=
  ⟨by have := h.1; simp; omega, fun e he => h.2 e (List.mem_of_mem_drop (List.mem_of_mem_take he))⟩
theorem EntsOk.drop {l : List Ent} (h : EntsOk l) (a : Nat) : EntsOk (l.drop a) :=
  ⟨by have := h.1; simp; omega, fun e he => h.2 e (List.mem_of_mem_drop he)⟩
theorem EntsOk.take {l : List Ent} (h : EntsOk l) (a : Nat) : EntsOk (l.take a) :=
  ⟨by have := h.1; simp; omega, fun e he => h.2 e (List.mem_of_mem_take he)⟩

def Log.part (g : Log) (i most : Int) : List Ent :=
  if g.last < max i (g.index + 1) ∨ most < 1 then [] else (g.l.drop (max i (g.index + 1) - (g.index + 1)).toNat).take (min (g.last - max i (g.index + 1) + 1) most).toNat

theorem log_from (H : OkL E) {σ : St} {K : V → St → Prop} {lg : Nat} {g : Log} {c : Cap} (i most : Int) (hl : cellsOf σ lg = .some (g.cells c)) (hg : g.Ok) (k : K (entsV (g.part i most)) σ) : ACalls E 77 [.p lg 0, inV i, inV most] σ K := by
  refine .same (g_entries_Log_From H.from_ ?_)
  unfold p_entries_Log_From
  refine log_first H hl hg ?_
  simp [inV]
  refine log_last H hl hg ?_
  simp [inV]
  have h0 := hg.lo; have h1 := hg.hi; have h2 := hg.ents.1
  obtain ⟨a, ha⟩ : ∃ a : Nat, max i (g.index + 1) = g.index + 1 + a := ⟨(max i (g.index + 1) - (g.index + 1)).toNat, by omega⟩
  simp only [Log.part, ha] at k ⊢
  refine ⟨fun h => ?_, fun h => ⟨fun h' => ?_, fun h' => ?_⟩⟩
  · refine .at (entsV []) (.may _ _ _) (bel_ents _ _) ?_
    simpa [h] using k
  · refine .at (entsV []) (.may _ _ _) (bel_ents _ _) ?_
    simpa [h'] using k
  · simp [ldV_at, hl, partV, Log.cells]
    refine log_first H hl hg ?_
    have h3 : ¬ (g.last < g.index + 1 + a ∨ most < 1) := by omega
    rw [if_neg h3] at k
    simp only [Log.last] at h
    have e1 : g.index + 1 + (a : Int) - (g.index + 1) = a := by omega
    simp [hl, partV, Log.cells, inV, slcV, loOf, hiOf, mxOk, e1]
    rw [wrap64 (by omega) (by omega)]
    refine ⟨by omega, ?_⟩
    simp only [Int.toNat_natCast]
    refine ⟨by omega, ?_⟩
    have hm : ∀ x y : Nat, x = (min (g.last - (g.index + 1 + a) + 1) most).toNat → g.l.length - a ≤ y →
        List.take x (List.take y (List.drop a (g.l.map Ent.v))) = (((g.l.drop a).take (min (g.last - (g.index + 1 + a) + 1) most).toNat).map Ent.v) := by
      intro x y hx hy
      rw [List.take_take, hx, List.map_take, List.map_drop]
      congr 1
      simp only [Log.last]
      omega
    rw [hm _ _ (by simp only [Log.last]; omega) (by omega)]
    rw [e1, Int.toNat_natCast] at k
    exact own_any H.toOk _ _ ((hg.ents.drop _).take _) (.at _ (.refl _) (bel_ents _ _) k)
end Go.Ab
/-
  The log: one entry; making one; laying behind.
-/
namespace Go.Ab

variable {E : Env}

structure OkM (E : Env) : Prop extends OkL E where
  at_ : chkF E.P E.m (E.m 46) c_entries_Log_At = true
  new : chkF E.P E.m (E.m 33) c_entries_New = true
  append : chkF E.P E.m (E.m 73) c_entries_Log_Append = true
  behind : chkF E.P E.m (E.m 49) c_entries_Log_Behind = true
  cloneE : chkF E.P E.m (E.m 92) c_slices_Clone_api_Entry_api_Entry = true
  base : chkF E.P E.m (E.m 78) c_entries_Log_Base = true

def noEnt : Ent := ⟨0, 0, [], []⟩
theorem fg_noEnt : FgV E.m (.agg [.n .i64 0, .n .i64 0, .l 1 [] .nil, .l 1 [] .nil]) noEnt.v :=
  .agg (.cons (.refl _) (.cons (.refl _) (.cons (.may _ _ _) (.cons (.may _ _ _) .nil))))

theorem bel_tup2 {n : Nat} {a b : V} (h : BelV E.m n a) (k : BelV E.m n b) : BelV E.m n (.tup [a, b]) := .tup (.cons h (.cons k .nil))

theorem log_at (H : OkM E) {σ : St} {K : V → St → Prop} {lg : Nat} {g : Log} {c : Cap} (i : Int) (hl : cellsOf σ lg = some (g.cells c)) (hg : g.Ok)
    (k : K (.tup [((g.at? i).getD noEnt).v, inV (if g.within i then 0 else 170)]) σ) : ACalls E 46 [.p lg 0, inV i] σ K := by
  refine .same (g_entries_Log_At H.at_ ?_)
  unfold p_entries_Log_At
  simp only [allocW_eq, optW_some]
  have hl' := cellsOf_left hl [.obj [.n .i64 0, .n .i64 0, .l 1 [] .nil, .l 1 [] .nil]]
  refine log_within H.toOkL i hl' hg ?_
  simp [ldV_at, storeV_at]
  have h0 := hg.lo; have h1 := hg.hi; have h2 := hg.ents.1
  refine ⟨fun hw => ?_, fun hw => ?_⟩
  · obtain ⟨e, a1, a2, a3, a4⟩ := Log.at_within hw
    simp only [hw, a1, if_true, Option.getD_some] at k
    simp [hl', partV, Log.cells]
    refine log_first H.toOkL hl' hg ?_
    simp [hl', partV, Log.cells, inV, slcV, loOf, hiOf, mxOk]
    obtain ⟨a, ha⟩ : ∃ a : Nat, i = g.index + 1 + a := ⟨(i - (g.index + 1)).toNat, by omega⟩
    subst ha
    rw [wrap64 (by omega) (by omega), wrap64 (by omega) (by omega)]
    have e1 : g.index + 1 + (a : Int) - (g.index + 1) = a := by omega
    have e2 : (g.index + 1 + (a : Int) - g.index).toNat - 1 = a := by omega
    rw [e2] at a2 a4
    simp only [e1]
    refine ⟨by omega, ?_⟩
    have e3 : List.take (g.index + 1 + (a : Int) - g.index - a).toNat (List.drop (a : Int).toNat (g.l.map Ent.v)) = [e].map Ent.v := by
      rw [show (g.index + 1 + (a : Int) - g.index - a).toNat = 1 by omega, Int.toNat_natCast, ← List.map_drop, ← List.map_take]
      congr 1
      rw [List.take_one, List.head?_drop, a4]; rfl
    rw [e3]
    refine own_any H.toOk [e] _ ⟨by simp, fun x hx => hg.ents.2 x ?_⟩ ?_
    · obtain rfl : x = e := by simpa using hx
      exact List.mem_of_getElem? a4
    · simp [entsV, Ent.v, storeV_at, ldV_at, partV]
      exact .app (.tup [e.v, inV 0]) (.refl _) (bel_tup2 (bel_ent _ _) (.n _ _)) k
  · have : g.at? i = none := by simp [Log.at?, hw]
    simp only [this, hw, Option.getD_none] at k
    simp [buildV, storeV_at, ldV_at, partV]
    exact .app (.tup [noEnt.v, inV 170]) (.tup (.cons fg_noEnt (.cons (.refl _) .nil))) (bel_tup2 (bel_ent _ _) (.n _ _)) k

theorem log_behind (H : OkM E) {σ : St} {K : V → St → Prop} {lg : Nat} {g : Log} {c : Cap} (i t : Int) (hl : cellsOf σ lg = some (g.cells c)) (hg : g.Ok)
    (k : K (.b (decide ((g.termOf g.last).1 < t ∨ t = (g.termOf g.last).1 ∧ g.last ≤ i))) σ) : ACalls E 49 [.p lg 0, inV i, inV t] σ K := by
  refine g_entries_Log_Behind H.behind ?_
  unfold p_entries_Log_Behind
  refine log_last H.toOkL hl hg ?_
  refine log_term H.toOkL _ hl hg ?_
  simp [inV]
  refine ⟨fun h => by simpa [h] using k, fun h => ⟨fun h' => ?_, fun h' => ?_⟩⟩
  · refine log_last H.toOkL hl hg ?_
    simp [inV]
    subst h'
    refine ⟨fun h2 => by simpa [h2] using k, fun h2 => ?_⟩
    have : ¬ g.last ≤ i := by omega
    simpa [this] using k
  · have : ¬ (g.termOf g.last).1 < t := by omega
    simpa [this, h'] using k
end Go.Ab
/-
  The log: making one; laying behind.
-/
namespace Go.Ab

variable {E : Env}

/-- The tokens that a slice's room is known by. -/
def Cap.toks : Cap → List Nat
  | .tok t => [t]
  | _ => []

/-- The room of a slice that may grow, is there. -/
def Room (σ : St) (c : Cap) : Prop := NewRoom [] σ c
theorem NewRoom.room {σ0 σ : St} {c : Cap} (h : NewRoom σ0 σ c) : Room σ c := h.since (Nat.zero_le _)

/-- Of the objects that were there, those of S alone may have changed. -/
def Chg (σ σ' : St) (S : List Nat) : Prop := σ.length ≤ σ'.length ∧ ∀ k, k < σ.length → k ∉ S → σ'[k]? = σ[k]?

theorem log_new (H : OkM E) {σ : St} {K : V → St → Prop} (i t : Int) (es : List Ent) (hok : EntsOk es)
    (k : ∀ s' c p, NewRoom σ (σ ++ s') c → σ.length ≤ p → cellsOf (σ ++ s') p = some (Log.cells ⟨max 0 (min i 1099511627776), t, es⟩ c) → K (.p p 0) (σ ++ s')) :
    ACalls E 33 [inV i, inV t, entsV es] σ K := by
  refine g_entries_New H.new ?_
  unfold p_entries_New
  simp [inV]
  refine own_ents H.toOk es hok fun c s' hr => ?_
  simp [buildV]
  refine k _ c _ ?_ ?_ ?_
  · have := hr.more (xs := [.obj [.n .i64 (max 0 (min i 1099511627776)), .n .i64 t, .l 4 (es.map Ent.v) c]])
    rwa [List.append_assoc] at this
  · omega
  · simp [Log.cells, inV]
theorem Chg.refl (σ : St) (S : List Nat) : Chg σ σ S := ⟨Nat.le_refl _, fun _ _ _ => rfl⟩
theorem Chg.app (σ xs : St) (S : List Nat) : Chg σ (σ ++ xs) S := ⟨by simp, fun k hk _ => by rw [List.getElem?_append_left hk]⟩
theorem Chg.trans {a b c : St} {S S' : List Nat} (h : Chg a b S) (k : Chg b c S') (hs : ∀ x ∈ S', x ∈ S ∨ a.length ≤ x) : Chg a c S :=
  ⟨Nat.le_trans h.1 k.1, fun i hi hn => (k.2 i (Nat.lt_of_lt_of_le hi h.1) fun hx => (hs i hx).elim hn (by omega)).trans (h.2 i hi hn)⟩
theorem Chg.set {σ : St} {l : Nat} (o : Ob) {S : List Nat} (h : l ∈ S) : Chg σ (σ.set l o) S := ⟨by simp, fun k _ hn => by rw [List.getElem?_set_ne (by rintro rfl; exact hn h)]⟩
theorem Chg.mono {a b : St} {S S' : List Nat} (h : Chg a b S) (hs : ∀ x ∈ S, x ∈ S') : Chg a b S' := ⟨h.1, fun k hk hn => h.2 k hk fun hx => hn (hs k hx)⟩
theorem Chg.then {a b c : St} {S : List Nat} (h : Chg a b S) (k : Chg b c S) : Chg a c S := h.trans k fun _ hx => .inl hx
theorem Room.set {σ : St} {l : Nat} {c : Cap} (h : Room σ c) (cs : List V) (hl : ∀ t ∈ c.toks, l ≠ t) : Room (σ.set l (.obj cs)) c := by
  rcases h with rfl | rfl | ⟨t, rfl, h0, ht⟩
  · exact .inl rfl
  · exact .inr (.inl rfl)
  · exact .inr (.inr ⟨t, rfl, h0, by rw [List.getElem?_set_ne (hl t (by simp [Cap.toks]))]; exact ht⟩)
theorem Room.ne {σ : St} {l : Nat} {cs : List V} {c : Cap} (h : Room σ c) (hl : cellsOf σ l = some cs) : ∀ t ∈ c.toks, l ≠ t := by
  rintro t ht rfl
  rcases h with rfl | rfl | ⟨t, rfl, -, hr⟩
  · simp [Cap.toks] at ht
  · simp [Cap.toks] at ht
  · obtain rfl : l = t := by simpa [Cap.toks] using ht
    rw [cellsOf_eq, hr] at hl; cases hl
theorem Chg.cells {σ σ' : St} {S : List Nat} (h : Chg σ σ' S) {l : Nat} {cs : List V} (hl : cellsOf σ l = some cs) (hn : l ∉ S) : cellsOf σ' l = some cs := by
  rw [cellsOf_eq] at hl ⊢
  rw [h.2 l (List.getElem?_eq_some_iff.1 hl).1 hn]; exact hl

/-- An append to a slice that may grow. -/
theorem app_room {σ : St} {e bytes : Nat} {xs ys : List V} {c c2 : Cap} {K : V → St → Prop} (hc : Room σ c) (he : 0 < e) (hb : (xs.length + ys.length) * bytes ≤ 140737488355328) (hl : xs.length + ys.length ≤ 140737488355328)
    (k : ∀ c' σ', Chg σ σ' c.toks → Room σ' c' → (∀ t ∈ c'.toks, t ∈ c.toks ∨ σ.length ≤ t) → K (.l e (xs ++ ys) c') σ') : optW (appV (.l e xs c) (.l e ys c2) e bytes σ) K := by
  by_cases hy : ys = []
  · subst hy
    simp only [List.length_nil, Nat.add_zero] at hb hl
    simp [appV, he, hb, hl]
    simpa using k c σ (.refl _ _) hc (fun t h => .inl h)
  · have hemp : ys.isEmpty = false := by cases ys <;> simp_all
    rcases hc with rfl | rfl | ⟨t, rfl, ht, hr⟩
    · simp only [appV, he, hb, hl, hemp, true_and, and_self, if_true, Bool.false_eq_true, if_false, optW_some]
      exact k _ _ (.app _ _ _) (.inr (.inr ⟨_, rfl, Nat.zero_le _, by simp⟩)) (fun t h => .inr (by simp [Cap.toks] at h; omega))
    · simp only [appV, he, hb, hl, hemp, true_and, and_self, if_true, Bool.false_eq_true, if_false, optW_some]
      exact k _ _ (.app _ _ _) (.inr (.inr ⟨_, rfl, Nat.zero_le _, by simp⟩)) (fun t h => .inr (by simp [Cap.toks] at h; omega))
    · simp only [appV, he, hb, hl, hemp, hr, true_and, and_self, if_true, Bool.false_eq_true, if_false, optW_some]
      refine k _ _ ((Chg.set _ (by simp [Cap.toks])).trans (.app _ _ []) (by simp)) (.inr (.inr ⟨_, rfl, Nat.zero_le _, ?_⟩)) (fun t h => .inr (by simp [Cap.toks] at h; omega))
      rw [List.getElem?_append_right (by simp)]; simp

theorem log_append (H : OkM E) {σ : St} {K : V → St → Prop} {lg : Nat} {g : Log} {c : Cap} (x : Ent) (hl : cellsOf σ lg = some (g.cells c)) (hg : g.Ok) (hlen : g.l.length < 1099511627776) (hx : x.ok) (hr : Room σ c)
    (k : ∀ σ' c', Chg σ σ' (lg :: c.toks) → Room σ' c' → (∀ t ∈ c'.toks, t ∈ c.toks ∨ σ.length ≤ t) → cellsOf σ' lg = some (Log.cells { g with l := g.l ++ [x] } c') → K (inV (g.last + 1)) σ') : ACalls E 73 [.p lg 0, x.v] σ K := by
  refine g_entries_Log_Append H.append ?_
  unfold p_entries_Log_Append
  have hv : x.v = .agg [inV x.term, inV x.kind, bytesV x.data, intsV x.mem] := rfl
  rw [hv]
  simp [ldV_at, cellsOf_left hl, Log.cells, partV]
  rw [show [V.agg [inV x.term, inV x.kind, bytesV x.data, intsV x.mem]] = [x].map Ent.v from rfl]
  refine own_any' H.toOk [x] _ ⟨by simp, by simpa using hx⟩ fun c2 s2 _ => ?_
  have hl2 := cellsOf_left hl ([Ob.obj [inV x.term, inV x.kind, bytesV x.data, intsV x.mem]] ++ s2)
  rw [List.append_assoc]
  simp only [hl2, Log.cells, ldC_some, partV]
  have hne : lg ∉ c.toks := fun hm => hr.ne hl _ hm rfl
  refine ⟨by simp, ?_⟩
  refine app_room (NewRoom.more hr) (by omega) (by simp; omega) (by simp; omega) fun c3 σ3 hch hroom htok => ?_
  have hl3 := hch.cells hl2 hne
  simp [storeV_at, hl3, Log.cells]
  have hg' : Log.Ok { g with l := g.l ++ [x] } := ⟨⟨by simp; omega, fun e he => (List.mem_append.1 he).elim (hg.ents.2 e) (fun h => by simp at h; rw [h]; exact hx)⟩, hg.lo, hg.hi⟩
  have hc4 := cellsOf_set (cs' := Log.cells { g with l := g.l ++ [x] } c3) hl3
  have e : [inV g.index, inV g.term, V.l 4 (List.map Ent.v g.l ++ [x.v]) c3] = Log.cells { g with l := g.l ++ [x] } c3 := by simp [Log.cells]
  rw [e]
  refine log_last H.toOkL hc4 hg' ?_
  have e2 : Log.last { g with l := g.l ++ [x] } = g.last + 1 := by simp [Log.last]; omega
  rw [e2]
  refine k _ c3 ?_ ?_ ?_ hc4
  · exact (Chg.app σ _ _).then ((hch.mono fun t ht => List.mem_cons_of_mem _ ht).then (.set _ (by simp)))
  · exact hroom.set _ (hroom.ne hl3)
  · intro t ht
    rcases htok t ht with h | h
    · exact .inl h
    · right; simp at h; omega
end Go.Ab
/-
  The log: beginning later.
-/
namespace Go.Ab

variable {E : Env}

theorem clone_ents (H : OkM E) {σ : St} {K : V → St → Prop} (es : List Ent) (c0 : Cap) (hlen : es.length ≤ 1099511627776) (k : ∀ c s', NewRoom σ (σ ++ s') c → K (.l 4 (es.map Ent.v) c) (σ ++ s')) :
    ACalls E 92 [.l 4 (es.map Ent.v) c0] σ K := by
  refine .args (.cons (FgV.may _ _ _) .nil) (.byMay ?_ ?_)
  · refine g_slices_Clone_api_Entry_api_Entry H.cloneE ?_
    unfold p_slices_Clone_api_Entry_api_Entry
    simp [binV, eqOr]
    have := app_at (σ := σ) (s' := []) (c := .full) (e := 4) (bytes := 64) (xs := []) (ys := es.map Ent.v) (c2 := .any) (K := K) (.inr (.inl rfl)) (by omega) (by simp; omega) (by simp; omega) (fun c' s2 h _ => by simpa using k c' s2 h)
    simpa using this
  · intro h
    refine g_slices_Clone_api_Entry_api_Entry H.cloneE ?_
    unfold p_slices_Clone_api_Entry_api_Entry
    simp [binV, eqOr]
    have : es = [] := by simpa using h
    subst this
    simpa using k .nil [] (.inl rfl)

def Log.base (g : Log) (i t : Int) : Log × Int :=
  if i < g.index ∨ 1099511627776 < i then (g, 1)
  else if i = g.index ∨ (g.termOf i).2 = 0 ∧ (g.termOf i).1 = t then (⟨i, t, g.l.drop (i - g.index).toNat⟩, 0) else (⟨i, t, []⟩, 0)

theorem log_base (H : OkM E) {σ : St} {K : V → St → Prop} {lg : Nat} {g : Log} {c : Cap} (i t : Int) (hl : cellsOf σ lg = some (g.cells c)) (hg : g.Ok) (hr : Room σ c)
    (k : ∀ σ' c', Chg σ σ' [lg] → Room σ' c' → (∀ t ∈ c'.toks, t ∈ c.toks ∨ σ.length ≤ t) → cellsOf σ' lg = some (Log.cells (g.base i t).1 c') → K (inV (g.base i t).2) σ') : ACalls E 78 [.p lg 0, inV i, inV t] σ K := by
  refine g_entries_Log_Base H.base ?_
  unfold p_entries_Log_Base
  have h0 := hg.lo; have h1 := hg.hi; have h2 := hg.ents.1
  intro k0
  simp -zeta [ldV_at, hl, Log.cells, partV, inV]
  refine ⟨fun h => ?_, fun h => ⟨fun h' => ?_, fun h' => ?_⟩⟩
  · have e : g.base i t = (g, 1) := by simp [Log.base, h]
    simpa [e, inV, k0] using k σ c (.refl _ _) hr (fun t h => .inl h) (by rw [e]; exact hl)
  · have e : g.base i t = (g, 1) := by simp [Log.base, h']
    simpa [e, inV, k0] using k σ c (.refl _ _) hr (fun t h => .inl h) (by rw [e]; exact hl)
  · refine log_term H.toOkL i hl hg ?_
    simp -zeta only [inV, extV_tup, List.getElem?_cons_zero, List.getElem?_cons_succ, optP_some]
    intro k18 k32 k58
    have fin : ∀ (σ1 : St) (l' : List Ent) (c' : Cap), cellsOf σ1 lg = some (Log.cells ⟨g.index, g.term, l'⟩ c') → Chg σ σ1 [lg] → Room σ1 c' → (∀ t ∈ c'.toks, t ∈ c.toks ∨ σ.length ≤ t) →
        g.base i t = (⟨i, t, l'⟩, 0) → k18 σ1 := by
      intro σ1 l' c' hl1 hch hroom htok hb
      simp only [k18]
      have hl2 := cellsOf_set (cs' := [.n .i64 i, .n .i64 g.term, .l 4 (l'.map Ent.v) c']) hl1
      have hl3 := cellsOf_set (cs' := [.n .i64 i, .n .i64 t, .l 4 (l'.map Ent.v) c']) hl2
      have e : Log.cells (g.base i t).1 c' = [.n .i64 i, .n .i64 t, .l 4 (l'.map Ent.v) c'] := by rw [hb]; rfl
      simp [storeV_at, hl1, Log.cells, inV] at hl2 hl3 ⊢
      simp [hl2]
      rw [hb] at k
      have := k (σ1.set lg (.obj [.n .i64 i, .n .i64 t, .l 4 (l'.map Ent.v) c'])) c' (hch.then (.set _ (by simp))) (hroom.set _ (hroom.ne hl1)) htok hl3
      simpa [inV] using this
    have hk32 : (i = g.index ∨ (g.termOf i).2 = 0 ∧ (g.termOf i).1 = t) → i ≤ g.last → k32 σ := by
      intro hc hlast
      simp only [Log.last] at hlast
      simp only [k32]
      simp [ldV_at, hl, Log.cells, inV, partV, slcV, loOf, hiOf, mxOk]
      rw [wrap64 (by omega) (by omega)]
      refine ⟨by omega, ?_⟩
      have e : List.take ((g.l.length : Int) - (i - g.index)).toNat (List.drop (i - g.index).toNat (g.l.map Ent.v)) = (g.l.drop (i - g.index).toNat).map Ent.v := by
        rw [← List.map_drop, ← List.map_take, List.take_of_length_le (by simp; omega)]
      rw [e]
      refine clone_ents H _ _ (by simp; omega) fun c2 s2 hr2 => ?_
      have hl2 := cellsOf_left hl s2
      simp [storeV_at, hl2, Log.cells]
      have hb : g.base i t = (⟨i, t, g.l.drop (i - g.index).toNat⟩, 0) := by
        rw [Log.base, if_neg (by omega), if_pos hc]
      refine fin _ (g.l.drop (i - g.index).toNat) c2 (by rw [cellsOf_set hl2]; simp [Log.cells, inV]) ((Chg.app σ s2 _).then (.set _ (by simp))) (hr2.room.set _ (hr2.room.ne hl2)) (fun t ht => ?_) hb
      rcases hr2 with rfl | rfl | ⟨u, rfl, hu, -⟩
      · simp [Cap.toks] at ht
      · simp [Cap.toks] at ht
      · right; simp [Cap.toks] at ht; omega
    have hk58 : ¬ (i = g.index ∨ (g.termOf i).2 = 0 ∧ (g.termOf i).1 = t) → k58 σ := by
      intro hc
      simp only [k58]
      simp [storeV_at, hl, Log.cells]
      have hb : g.base i t = (⟨i, t, []⟩, 0) := by rw [Log.base, if_neg (by omega), if_neg hc]
      exact fin _ [] .nil (by rw [cellsOf_set hl]; simp [Log.cells, inV]) (.set _ (by simp)) (.inl rfl) (fun t ht => by simp [Cap.toks] at ht) hb
    have hterm : (g.termOf i).2 = 0 → i ≤ g.last := by
      intro hz
      by_cases hi : i = g.index
      · simp only [Log.last]; omega
      · cases hw : g.within i with
        | true => simp [Log.within] at hw; exact hw.2
        | false => simp [Log.termOf, hi, Log.at?, hw] at hz
    simp -zeta [hl, Log.cells, inV, partV]
    refine ⟨fun h => hk32 (.inl h) (by simp only [Log.last]; omega), fun h => ⟨fun hz => ⟨fun ht => hk32 (.inr ⟨hz, ht⟩) (hterm hz), fun ht => hk58 (by simp [h, ht])⟩, fun hz => hk58 (by simp [h, hz])⟩⟩
end Go.Ab
/-
  Who is enough.
-/
namespace Go.Ab

variable {E : Env}

def chkFrom : Int → List Int → Bool
  | last, [] => !decide (last = 0)
  | last, x :: r => if x ≤ last ∨ 7 < x then false else chkFrom x r
def chkMem (l : List Int) : Bool := chkFrom 0 l

structure OkQ (E : Env) : Prop extends OkM E where
  check : chkF E.P E.m (E.m 35) c_quorum_Check = true

theorem quorum_check (H : OkQ E) {σ : St} {K : V → St → Prop} (l : List Int) (hlen : l.length ≤ 1099511627776) (k : K (inV (if chkMem l then 0 else 192)) σ) : ACalls E 35 [intsV l] σ K := by
  refine g_quorum_Check H.check ?_
  unfold p_quorum_Check
  simp only [intsV, lenV_l, optP_some, List.length_map]
  refine ⟨fun n vs s => ∃ (j : Nat) (last : Int), vs = [inV last, inV j] ∧ j ≤ l.length ∧ n = l.length - j ∧ s = σ ∧ chkMem l = chkFrom last (l.drop j),
    ⟨_, 0, 0, rfl, Nat.zero_le _, rfl, rfl, rfl⟩, ?_⟩
  rintro n x5 x6 s ⟨j, last, hvs, hj, hn, rfl, hc⟩
  simp only [List.cons.injEq, and_true] at hvs
  obtain ⟨rfl, rfl⟩ := hvs
  simp only [inV, lss_i64, optP_some, splitP_b]
  refine ⟨fun hlt => ?_, fun hge => ?_⟩
  · have hlt' : j < l.length := by simpa using hlt
    have hd : l.drop j = l[j] :: l.drop (j + 1) := List.drop_eq_getElem_cons hlt'
    have hj0 : (0 : Int) ≤ j ∧ (j : Int) < (l.length : Int) := ⟨by omega, by omega⟩
    have hget : (l.map inV).getD j .u = .n .i64 l[j] := by simp [List.getD, hlt', inV]
    simp only [iasV_l, List.length_map, hj0, and_self, if_true, optP_some, Int.toNat_natCast, hget, ldV_ep, heldV_n]
    rw [hd] at hc
    generalize l[j] = x at hc

    simp
    refine ⟨fun h1 => ?_, fun h1 => ⟨fun h2 => ?_, fun h2 => ?_⟩⟩
    · have : chkMem l = false := by rw [hc, chkFrom, if_pos (by omega)]
      simpa [this, inV] using k
    · have : chkMem l = false := by rw [hc, chkFrom, if_pos (by omega)]
      simpa [this, inV] using k
    · rw [wrap64 (by omega) (by omega)]
      refine ⟨l.length - (j + 1), by omega, j + 1, x, ?_⟩
      refine ⟨?_, by omega, rfl, ?_⟩
      · simp [inV]
      · rw [hc, chkFrom, if_neg (by omega)]
  · have : j = l.length := by simp at hge; omega
    subst this
    simp [chkFrom] at hc
    simp
    refine ⟨fun h => ?_, fun h => ?_⟩
    · simpa [hc, h, inV] using k
    · simpa [hc, h, inV] using k
end Go.Ab
/-
  Whether one is among them.
-/
namespace Go.Ab

variable {E : Env}

structure OkH (E : Env) : Prop extends OkQ E where
  index : chkF E.P E.m (E.m 96) c_slices_Index_int_int = true
  contains : chkF E.P E.m (E.m 82) c_slices_Contains_int_int = true
  has : chkF E.P E.m (E.m 61) c_quorum_Has = true

theorem ints_index (H : OkH E) {σ : St} {K : V → St → Prop} (l : List Int) (x : Int) (hlen : l.length ≤ 1099511627776)
    (k1 : x ∉ l → K (inV (-1)) σ) (k2 : ∀ j : Nat, l[j]? = some x → (∀ i, i < j → l[i]? ≠ some x) → K (inV j) σ) : ACalls E 96 [intsV l, inV x] σ K := by
  refine g_slices_Index_int_int H.index ?_
  unfold p_slices_Index_int_int
  simp only [intsV, lenV_l, optP_some, List.length_map]
  refine ⟨fun n vs s => ∃ (j : Nat), vs = [inV j] ∧ j ≤ l.length ∧ n = l.length - j ∧ s = σ ∧ ∀ i, i < j → l[i]? ≠ some x,
    ⟨_, 0, rfl, Nat.zero_le _, rfl, rfl, fun i hi => by omega⟩, ?_⟩
  rintro n x5 s ⟨j, hvs, hj, hn, rfl, hc⟩
  simp only [List.cons.injEq, and_true] at hvs
  obtain rfl := hvs
  simp only [inV, lss_i64, optP_some, splitP_b]
  refine ⟨fun hlt => ?_, fun hge => ?_⟩
  · have hlt' : j < l.length := by simpa using hlt
    have hj0 : (0 : Int) ≤ j ∧ (j : Int) < (l.length : Int) := ⟨by omega, by omega⟩
    have hget : (l.map inV).getD j .u = .n .i64 l[j] := by simp [List.getD, hlt', inV]
    have hsome : l[j]? = some l[j] := by simp [hlt']
    generalize l[j] = y at hget hsome
    simp only [iasV_l, List.length_map, hj0, and_self, if_true, optP_some, Int.toNat_natCast, hget, ldV_ep, heldV_n]
    simp
    refine ⟨fun h => ?_, fun h => ?_⟩
    · subst h; exact k2 j hsome hc
    · rw [wrap64 (by omega) (by omega)]
      refine ⟨l.length - (j + 1), by omega, j + 1, ?_⟩
      refine ⟨by simp [inV], by omega, rfl, fun i hi => ?_⟩
      by_cases hij : i = j
      · subst hij; rw [hsome]; intro h'; cases h'; exact h rfl
      · exact hc i (by omega)
  · have : j = l.length := by simp at hge; omega
    subst this
    refine k1 fun hm => ?_
    obtain ⟨i, hi⟩ := List.mem_iff_getElem?.1 hm
    exact hc i (List.getElem?_eq_some_iff.1 hi).1 hi

theorem quorum_has (H : OkH E) {σ : St} {K : V → St → Prop} (l : List Int) (x : Int) (hlen : l.length ≤ 1099511627776) (k : K (.b (decide (x ∈ l))) σ) : ACalls E 61 [intsV l, inV x] σ K := by
  refine g_quorum_Has H.has ?_
  unfold p_quorum_Has
  refine g_slices_Contains_int_int H.contains ?_
  unfold p_slices_Contains_int_int
  refine ints_index H l x hlen (fun h => ?_) fun j hj _ => ?_
  · simpa [inV, h] using k
  · have : x ∈ l := List.mem_iff_getElem?.2 ⟨j, hj⟩
    simpa [inV, this] using k
end Go.Ab
/-
  The log: laying down what stands elsewhere.
-/
namespace Go.Ab

variable {E : Env}

structure OkJ (E : Env) : Prop extends OkH E where
  join : chkF E.P E.m (E.m 81) c_entries_Log_Join = true
  join1 : chkF E.P E.m (E.m 95) c_entries_Log_Join_c1 = true
  indexE : chkF E.P E.m (E.m 79) c_slices_IndexFunc_api_Entry_api_Entry = true

/-- Whether another entry stands at i. -/
def Log.other (g : Log) (i : Int) (x : Ent) : Bool := decide (g.index < i) && (!decide ((g.termOf i).2 = 0) || !decide ((g.termOf i).1 = x.term))

theorem join_c1 (H : OkJ E) {σ : St} {K : V → St → Prop} {lg li lp : Nat} {g : Log} {c : Cap} (x : Ent) (i : Int) (hl : cellsOf σ lg = some (g.cells c)) (hg : g.Ok)
    (hi : cellsOf σ li = some [inV i]) (hp : cellsOf σ lp = some [.p lg 0]) (h1 : li ≠ lg) (h2 : li ≠ lp) (hb : -1 ≤ i) (hb2 : i < 4611686018427387904)
    (k : K (.b (g.other (i + 1) x)) (σ.set li (.obj [inV (i + 1)]))) : ACalls E 95 [x.v, .p li 0, .p lp 0] σ K := by
  refine .sets (g_entries_Log_Join_c1 H.join1 ?_)
  unfold p_entries_Log_Join_c1
  have hv : x.v = .agg [inV x.term, inV x.kind, bytesV x.data, intsV x.mem] := rfl
  rw [hv]
  have hi' := cellsOf_left hi [.obj [inV x.term, inV x.kind, bytesV x.data, intsV x.mem]]
  have hlt := cellsOf_lt hi
  simp -zeta [ldV_at, storeV_at, hi', partV, inV, List.set_append, hlt]
  rw [wrap64 (by omega) (by omega)]
  have hi2 : cellsOf (σ.set li (.obj [inV (i + 1)]) ++ [.obj [inV x.term, inV x.kind, bytesV x.data, intsV x.mem]]) li = some [inV (i + 1)] := cellsOf_left (cellsOf_set hi) _
  have hp2 : cellsOf (σ.set li (.obj [inV (i + 1)]) ++ [.obj [inV x.term, inV x.kind, bytesV x.data, intsV x.mem]]) lp = some [.p lg 0] := cellsOf_left (by rw [cellsOf_set_ne h2]; exact hp) _
  have hl2 : cellsOf (σ.set li (.obj [inV (i + 1)]) ++ [.obj [inV x.term, inV x.kind, bytesV x.data, intsV x.mem]]) lg = some (g.cells c) := cellsOf_left (by rw [cellsOf_set_ne h1]; exact hl) _
  simp only [inV] at hi2 hp2 hl2
  simp -zeta [hi2, hp2, partV]
  refine log_term H.toOkL (i + 1) hl2 hg ?_
  simp -zeta only [extV_tup, List.getElem?_cons_zero, List.getElem?_cons_succ, optP_some]
  intro k18 k20
  have hx2 := cellsOf_right0 (σ.set li (.obj [inV (i + 1)])) [.obj [inV x.term, inV x.kind, bytesV x.data, intsV x.mem]]
  rw [List.length_set] at hx2
  have fin : ∀ b, b = g.other (i + 1) x → Sets E σ K (.b b) (σ.set li (.obj [inV (i + 1)]) ++ [.obj [inV x.term, inV x.kind, bytesV x.data, intsV x.mem]]) := by
    rintro b rfl
    exact .app _ (.cons (.n _ _) .nil) (.refl _) (.b _) k
  simp -zeta [hi2, hp2, hl2, hx2, partV, ldV_at, Log.cells]
  refine ⟨fun a => ⟨fun b => fin _ ?_, fun b => ⟨fun d => fin _ ?_, fun d => fin _ ?_⟩⟩, fun a => fin _ ?_⟩
  · simp [Log.other, a, b]
  · simp [Log.other, a, b, d]
  · simp [Log.other, a, b, d]
  · have : ¬ g.index < i + 1 := by omega
    simp [Log.other, this]
end Go.Ab
/-
  The log: laying down what stands elsewhere: the search for the first other one.
-/
namespace Go.Ab

variable {E : Env}

/-- The first of l (behind i) that is other than what stands there. -/
def Log.differs (g : Log) : Int → List Ent → Option Nat
  | _, [] => none
  | i, x :: r => if g.other (i + 1) x then some 0 else (g.differs (i + 1) r).map (· + 1)

theorem Log.differs_step {g : Log} {i : Int} {l : List Ent} {j : Nat} (h : ∀ k, k < j → ∀ x, l[k]? = some x → g.other (i + k + 1) x = false) :
    g.differs i l = (g.differs (i + j) (l.drop j)).map (· + j) := by
  induction j generalizing i l with
  | zero => simp
  | succ j ih =>
    cases l with
    | nil => simp [Log.differs]
    | cons x r =>
      have h0 := h 0 (by omega) x (by simp)
      rw [Log.differs, if_neg (by simpa using h0), List.drop_succ_cons]
      rw [ih (i := i + 1) (l := r) (fun k hk y hy => by
        have := h (k + 1) (by omega) y (by simpa using hy)
        rw [← this]; congr 1; push_cast; omega)]
      rw [Option.map_map]
      have : i + 1 + (j : Int) = i + ((j + 1 : Nat) : Int) := by push_cast; omega
      rw [this]
      congr 1

theorem set_same {σ : St} {l : Nat} {cs : List V} (h : cellsOf σ l = some cs) : σ.set l (.obj cs) = σ := by
  rw [cellsOf_eq] at h
  apply List.ext_getElem?
  intro k
  by_cases hk : l = k
  · subst hk; rw [List.getElem?_set_self (List.getElem?_eq_some_iff.1 h).1, h]
  · rw [List.getElem?_set_ne hk]
theorem set_set (σ : St) (l : Nat) (a b : Ob) : (σ.set l a).set l b = σ.set l b := by simp

theorem index_other (H : OkJ E) {σ : St} {K : V → St → Prop} {lg li lp : Nat} {g : Log} {c : Cap} (l : List Ent) (i : Int) (hl : cellsOf σ lg = some (g.cells c)) (hg : g.Ok) (hlen : l.length ≤ 1099511627776)
    (hi : cellsOf σ li = some [inV i]) (hp : cellsOf σ lp = some [.p lg 0]) (h1 : li ≠ lg) (h2 : li ≠ lp) (hb : -1 ≤ i) (hb2 : i ≤ 2199023255552)
    (k1 : g.differs i l = none → K (inV (-1)) (σ.set li (.obj [inV (i + l.length)]))) (k2 : ∀ j : Nat, g.differs i l = some j → j < l.length → K (inV j) (σ.set li (.obj [inV (i + j + 1)]))) :
    ACalls E 79 [entsV l, .f 95 [] [.p li 0, .p lp 0]] σ K := by
  refine g_slices_IndexFunc_api_Entry_api_Entry H.indexE ?_
  unfold p_slices_IndexFunc_api_Entry_api_Entry
  simp only [entsV, lenV_l, optP_some, List.length_map]
  refine ⟨fun n vs s => ∃ (j : Nat), vs = [inV j] ∧ j ≤ l.length ∧ n = l.length - j ∧ s = σ.set li (.obj [inV (i + j)]) ∧ ∀ k, k < j → ∀ x, l[k]? = some x → g.other (i + k + 1) x = false,
    ⟨_, 0, rfl, Nat.zero_le _, rfl, by simp [set_same hi], fun i hi => by omega⟩, ?_⟩
  rintro n x5 s ⟨j, hvs, hj, hn, rfl, hc⟩
  simp only [List.cons.injEq, and_true] at hvs
  obtain rfl := hvs
  simp only [lss_i64, optP_some, splitP_b]
  have hstep := Log.differs_step hc
  refine ⟨fun hlt => ?_, fun hge => ?_⟩
  · have hlt' : j < l.length := by simpa using hlt
    have hj0 : (0 : Int) ≤ j ∧ (j : Int) < (l.length : Int) := ⟨by omega, by omega⟩
    simp only [iasV_l, List.length_map, hj0, and_self, if_true, optP_some, Int.toNat_natCast, getD_map_ent _ _ hlt', ldV_ep]
    have hsome : l[j]? = some l[j] := by simp [hlt']
    have hd : l.drop j = l[j] :: l.drop (j + 1) := List.drop_eq_getElem_cons hlt'
    generalize l[j] = e at hsome hd
    have hv : e.v = .agg [inV e.term, inV e.kind, bytesV e.data, intsV e.mem] := rfl
    rw [hv]
    simp only [heldV_agg, List.length_cons, List.length_nil, Nat.reduceAdd, if_true, optP_some, callV, List.nil_append, List.cons_append]
    rw [← hv]
    have s1 : cellsOf (σ.set li (.obj [inV (i + j)])) lg = some (g.cells c) := by rw [cellsOf_set_ne h1]; exact hl
    have s2 : cellsOf (σ.set li (.obj [inV (i + j)])) lp = some [.p lg 0] := by rw [cellsOf_set_ne h2]; exact hp
    refine join_c1 H e (i + j) s1 hg (cellsOf_set hi) s2 h1 h2 (by omega) (by omega) ?_
    rw [set_set]
    simp only [splitP_b]
    rw [hd, Log.differs] at hstep
    refine ⟨fun ho => ?_, fun ho => ?_⟩
    · rw [if_pos ho] at hstep
      exact k2 j (by simpa using hstep) hlt'
    · simp
      rw [wrap64 (by omega) (by omega)]
      refine ⟨l.length - (j + 1), by omega, j + 1, ?_⟩
      refine ⟨by simp, by omega, rfl, by push_cast; rw [show i + (j : Int) + 1 = i + ((j : Int) + 1) by omega], fun q hq x hx => ?_⟩
      by_cases hqj : q = j
      · subst hqj; rw [hsome] at hx; cases hx; exact ho
      · exact hc q (by omega) x hx
  · have : j = l.length := by simp at hge; omega
    subst this
    refine k1 ?_
    rw [hstep]; simp [Log.differs]
end Go.Ab
/-
  The log: laying down what stands elsewhere.
-/
namespace Go.Ab

variable {E : Env}

/-- Back over the run of a term, from n entries behind the base. -/
def Log.back (g : Log) (t : Int) : Nat → Nat
  | 0 => 0
  | n + 1 => if (g.l[n]?.map Ent.term) = some t then g.back t n else n + 1

def Log.join (g : Log) (i t : Int) (l : List Ent) : Log × Int × Int × Bool :=
  if g.last < i then (g, g.last, 0, false)
  else if (g.termOf i).2 = 0 ∧ (g.termOf i).1 ≠ t then (g, g.index + g.back (g.termOf i).1 (i - g.index).toNat, 0, false)
  else match g.differs i l with
    | none => (g, i + l.length, 0, true)
    | some j => ({ g with l := g.l.take (i + j - g.index).toNat ++ l.drop j }, i + l.length, i + j + 1, true)

theorem Log.termOf_last {g : Log} {i : Int} (h : (g.termOf i).2 = 0) : i ≤ g.last := by
  by_cases hi : i = g.index
  · simp only [Log.last]; omega
  · cases hw : g.within i with
    | true => simp [Log.within] at hw; exact hw.2
    | false => simp [Log.termOf, hi, Log.at?, hw] at h

theorem Log.termOf_first {g : Log} {i : Int} (h : (g.termOf i).2 = 0) : g.index ≤ i := by
  by_cases hi : i = g.index
  · omega
  · cases hw : g.within i with
    | true => simp [Log.within] at hw; omega
    | false => simp [Log.termOf, hi, Log.at?, hw] at h

theorem Log.differs_spec {g : Log} : ∀ {l : List Ent} {i : Int} {j : Nat}, g.differs i l = some j → i ≤ g.last → g.index ≤ i + j ∧ i + j ≤ g.last ∧ j < l.length
  | [], i, j, h, _ => by simp [Log.differs] at h
  | x :: r, i, j, h, hi => by
    rw [Log.differs] at h
    split at h
    · rename_i ho
      obtain rfl : 0 = j := by simpa using h
      simp [Log.other] at ho
      exact ⟨by omega, by simpa using hi, by simp⟩
    · rename_i ho
      obtain ⟨j', hj', rfl⟩ := Option.map_eq_some_iff.1 h
      have h1 : i + 1 ≤ g.last := by
        simp [Log.other] at ho
        by_cases hq : g.index < i + 1
        · exact Log.termOf_last (ho hq).1
        · simp only [Log.last]; omega
      have := Log.differs_spec hj' h1
      refine ⟨by push_cast; omega, by push_cast; omega, by simp; omega⟩

theorem log_join (H : OkJ E) {σ : St} {K : V → St → Prop} {lg : Nat} {g : Log} {c : Cap} (i t : Int) (l : List Ent) (hl : cellsOf σ lg = some (g.cells c)) (hg : g.Ok) (hr : Room σ c) (hlok : EntsOk l) (hi0 : 0 ≤ i) (hi1 : i ≤ 1099511627776)
    (k : ∀ σ' c', Chg σ σ' [lg] → Room σ' c' → (∀ t ∈ c'.toks, t ∈ c.toks ∨ σ.length ≤ t) → cellsOf σ' lg = some ((g.join i t l).1.cells c') → K (.tup [inV (g.join i t l).2.1, inV (g.join i t l).2.2.1, .b (g.join i t l).2.2.2]) σ') :
    ACalls E 81 [.p lg 0, inV i, inV t, entsV l] σ K := by
  refine g_entries_Log_Join H.join ?_
  unfold p_entries_Log_Join
  have hlb := cellsOf_left hl [.obj [.p lg 0], .obj [inV i]]
  have hlt := cellsOf_lt hl
  simp -zeta [ldV_at, partV]
  refine log_last H.toOkL hlb hg ?_
  simp -zeta [partV]
  refine ⟨fun h => ?_, fun h => ?_⟩
  · refine log_last H.toOkL hlb hg ?_
    have hj : g.join i t l = (g, g.last, 0, false) := by rw [Log.join, if_pos h]
    rw [hj] at k
    exact k _ c (.app _ _ _) (NewRoom.more hr) (fun t h => .inl h) hlb
  · have hnl : ¬ g.last < i := by omega
    refine log_term H.toOkL i hlb hg ?_
    simp -zeta
    intro k26
    have hk26 : ¬ ((g.termOf i).2 = 0 ∧ (g.termOf i).1 ≠ t) → k26 (σ ++ [.obj [.p lg 0], .obj [inV i]]) := by
      intro hc
      have h2 := hg.ents.1; have h3 := hg.lo; have h4 := hg.hi; have h5 := hlok.1
      simp only [k26]
      simp [partV, entsV]
      rw [wrap64 (by omega) (by omega)]
      refine index_other H (lg := lg) (g := g) (c := c) l i hlb hg hlok.1 (by simp) (by simp) (by omega) (by omega) (by omega) (by omega) (fun hd => ?_) fun j hd hj => ?_
      · simp
        have e : g.join i t l = (g, i + l.length, 0, true) := by rw [Log.join, if_neg hnl, if_neg hc, hd]
        rw [e] at k
        exact k _ c (.app _ _ _) (NewRoom.more hr) (fun t h => .inl h) (cellsOf_left hl _)
      · have hlb2 := cellsOf_left hl [.obj [.p lg 0], .obj [inV (i + j + 1)]]
        have e : g.join i t l = ({ g with l := g.l.take (i + j - g.index).toNat ++ l.drop j }, i + l.length, i + j + 1, true) := by rw [Log.join, if_neg hnl, if_neg hc, hd]
        rw [e] at k
        have hsp := Log.differs_spec hd h
        have hlast : g.last = g.index + g.l.length := rfl
        have e0 : ∀ xs : St, cellsOf (σ ++ (.obj [.p lg 0] :: xs)) σ.length = some [.p lg 0] := fun xs => by simp
        have e1 : ∀ (x : List V) (xs : St), cellsOf (σ ++ (.obj [.p lg 0] :: .obj x :: xs)) (σ.length + 1) = some x := fun x xs => by simp
        simp [partV, ldV_at, hlb2, Log.cells]
        refine ⟨fun hn => absurd hn (by omega), ?_⟩
        refine log_first H.toOkL hlb2 hg ?_
        simp [partV, hlb2, Log.cells, inV, slcV, loOf, hiOf, mxOk]
        rw [wrap64 (by omega) (by omega)]
        refine ⟨by omega, ?_⟩
        have hcl : List.take (i + ↑j + 1 - (g.index + 1)).toNat (g.l.map Ent.v) = (g.l.take (i + j - g.index).toNat).map Ent.v := by
          rw [List.map_take]; congr 1; omega
        rw [hcl]
        refine clone_ents H.toOkM _ _ (by simp; omega) fun c2 s2 hr2 => ?_
        simp only [List.append_assoc, List.cons_append, List.nil_append, e0, ldC_some, partV, true_and]
        have hdr : List.take (l.length - j) (List.drop j (l.map Ent.v)) = (l.drop j).map Ent.v := by
          rw [← List.map_drop, ← List.map_take, List.take_of_length_le (by simp)]
        simp [hdr]
        refine ⟨by omega, ?_⟩
        rw [← List.map_drop, ← List.map_take]
        refine own_any H.toOk _ _ (hlok.drop j) ?_
        simp only [e0, ldC_some, partV, true_and, entsV]
        rw [show σ ++ Ob.obj [V.p lg 0] :: Ob.obj [V.n IntKind.i64 (i + ↑j + 1)] :: s2 = (σ ++ [.obj [.p lg 0], .obj [inV (i + j + 1)]]) ++ s2 by simp]
        refine ⟨by simp, ?_⟩
        refine app_at hr2 (by omega) (by simp; omega) (by simp; omega) fun c3 s3 hr3 hc3 => ?_
        have g0 := hc3 σ.length [.p lg 0] (by simp)
        have g1 := hc3 (σ.length + 1) [inV (i + j + 1)] (by simp)
        have g2 := hc3 lg _ (cellsOf_left hlb2 s2)
        simp only [g0, ldC_some, partV]
        refine ⟨by simp, ?_⟩
        rw [storeV_at, g2, ← List.map_append]
        simp only [cells_l, stC_some, Log.cells, optW_ite, List.length_cons, List.length_nil, Nat.reduceAdd, Nat.le_refl, and_self, true_and, optW_some]
        have g3 : cellsOf ((σ ++ [Ob.obj [.p lg 0], Ob.obj [inV (i + j + 1)]] ++ s3).set lg (.obj [inV g.index, inV g.term, .l 4 ((g.l.take (i + j - g.index).toNat ++ l.drop j).map Ent.v) c3])) (σ.length + 1) = some [inV (i + j + 1)] := by
          rw [cellsOf_set_ne (by omega)]; exact g1
        simp only [splice_cons, splice_nil, List.set_cons_succ, List.set_cons_zero, g3, ldC_some]
        simp only [partV, List.length_cons, List.length_nil, Nat.reduceAdd, Nat.le_refl, if_true, Bool.false_eq_true, if_false, List.getD_cons_zero, optP_some]
        rw [List.append_assoc]
        refine k ((σ ++ ([Ob.obj [.p lg 0], Ob.obj [inV (i + j + 1)]] ++ s3)).set lg (.obj [inV g.index, inV g.term, .l 4 ((g.l.take (i + j - g.index).toNat ++ l.drop j).map Ent.v) c3])) c3 ((Chg.app _ _ _).then (.set _ (by simp))) ?_ ?_ ?_
        · rw [← List.append_assoc]; exact (NewRoom.room hr3).set _ ((NewRoom.room hr3).ne g2)
        · intro t ht
          rcases hr3 with rfl | rfl | ⟨u, rfl, hu, -⟩
          · simp [Cap.toks] at ht
          · simp [Cap.toks] at ht
          · right; simp [Cap.toks] at ht; simp at hu; omega
        · rw [← List.append_assoc, cellsOf_set g2]; rfl
    have hk26' : ∀ {p : Prop}, (¬ p → ¬ ((g.termOf i).2 = 0 ∧ (g.termOf i).1 ≠ t)) → ¬ p → k26 (σ ++ [.obj [.p lg 0], .obj [inV i]]) := fun h1 h2 => hk26 (h1 h2)
    clear_value k26
    refine ⟨fun hz => ⟨fun hne => ?_, fun he => hk26 (by simp [he])⟩, fun hz => hk26 (by simp [hz])⟩
    have hlo := Log.termOf_first hz
    have hhi := Log.termOf_last hz
    generalize hT : (g.termOf i).1 = T at *
    have hj : g.join i t l = (g, g.index + g.back T (i - g.index).toNat, 0, false) := by rw [Log.join, if_neg hnl, if_pos ⟨hz, by rw [hT]; exact hne⟩, hT]
    rw [hj] at k
    have h2 := hg.ents.1; have h3 := hg.lo; have h4 := hg.hi
    have hlast : g.last = g.index + g.l.length := rfl
    refine ⟨fun n vs s => ∃ m : Nat, n = m ∧ vs = [] ∧ s = σ ++ [.obj [.p lg 0], .obj [inV (g.index + m)]] ∧ m ≤ (i - g.index).toNat ∧ g.back T m = g.back T (i - g.index).toNat,
      ⟨_, (i - g.index).toNat, rfl, rfl, by rw [show g.index + ((i - g.index).toNat : Int) = i by omega], Nat.le_refl _, rfl⟩, ?_⟩
    rintro n s ⟨m, rfl, -, rfl, hm, hb⟩
    have hlb2 := cellsOf_left hl [.obj [.p lg 0], .obj [inV (g.index + n)]]
    intro k82
    have hk82 : g.back T n = n → k82 (σ ++ [.obj [.p lg 0], .obj [inV (g.index + n)]]) := by
      intro hq
      simp only [k82]
      simp [partV]
      rw [← hb, hq] at k
      exact k _ c (.app _ _ _) (NewRoom.more hr) (fun t h => .inl h) hlb2
    clear_value k82
    simp -zeta [partV, ldV_at, hlb2, Log.cells]
    refine ⟨fun h0 => ?_, fun h0 => hk82 (by rw [show n = 0 by omega]; rfl)⟩
    obtain ⟨q, rfl⟩ : ∃ q, n = q + 1 := ⟨n - 1, by omega⟩
    refine log_first H.toOkL hlb2 hg ?_
    simp -zeta [partV, hlb2, Log.cells]
    rw [wrap64 (by push_cast; omega) (by push_cast; omega)]
    have hql : q < g.l.length := by omega
    have eq1 : (g.index + ((q : Int) + 1) - (g.index + 1)) = q := by omega
    have hlb3 : cellsOf (σ ++ [Ob.obj [V.p lg 0], Ob.obj [inV (g.index + ((q : Int) + 1))]]) lg = some (g.cells c) := by simpa using hlb2
    simp -zeta [eq1, hql, List.getD, Ent.v, partV, hlb3, Log.cells]
    have hbk : g.back T (q + 1) = if (g.l[q]?.map Ent.term) = some T then g.back T q else q + 1 := rfl
    have hget : g.l[q]? = some g.l[q] := by simp [hql]
    rw [hget] at hbk
    simp only [Option.map_some, Option.some.injEq] at hbk
    refine ⟨fun he => ?_, fun hne2 => hk82 (by rw [hbk, if_neg hne2])⟩
    rw [if_pos he] at hbk
    rw [wrap64 (by omega) (by omega)]
    simp [storeV_at, partV]
    refine ⟨q, by omega, by congr 3; omega, by omega, by rw [← hbk, hb]⟩
end Go.Ab
/-
  A node of the raft as plain data; how it lies in memory.
-/
namespace Go.Ab

variable {E : Env}

structure Msg where
  kind : Int
  frm : Int
  to : Int
  term : Int
  index : Int
  logTerm : Int
  commit : Int
  yes : Bool
  ents : List Ent
  mem : List Int
  data : List UInt8
  deriving DecidableEq, Inhabited

structure Snap where
  index : Int
  term : Int
  mem : List Int
  data : List UInt8
  deriving DecidableEq, Inhabited

structure Ready where
  term : Int
  vote : Int
  new : Bool
  snap : Snap
  first : Int
  ents : List Ent
  msgs : List Msg
  deriving DecidableEq, Inhabited

structure Raft where
  id : Int
  term : Int
  vote : Int
  role : Int
  lead : Int
  log : Log
  commit : Int
  snap : Snap
  yes : List Int
  passed : Int
  timeout : Int
  next : Nat → Int
  mat : Nat → Int
  out : Ready

def Msg.cs (m : Msg) : List V := [inV m.kind, inV m.frm, inV m.to, inV m.term, inV m.index, inV m.logTerm, inV m.commit, .b m.yes, entsV m.ents, intsV m.mem, bytesV m.data]
def Msg.v (m : Msg) : V := .agg m.cs
def Snap.cs (s : Snap) : List V := [inV s.index, inV s.term, intsV s.mem, bytesV s.data]
def Snap.v (s : Snap) : V := .agg s.cs
def Raft.peers (R : Raft) : List V := [inV (R.next 0), inV (R.mat 0), inV (R.next 1), inV (R.mat 1), inV (R.next 2), inV (R.mat 2), inV (R.next 3), inV (R.mat 3), inV (R.next 4), inV (R.mat 4), inV (R.next 5), inV (R.mat 5), inV (R.next 6), inV (R.mat 6), inV (R.next 7), inV (R.mat 7)]
def Ready.cs (o : Ready) (cm : Cap) : List V := [inV o.term, inV o.vote, .b o.new, inV o.snap.index, inV o.snap.term, intsV o.snap.mem, bytesV o.snap.data, inV o.first, entsV o.ents, .l 11 (o.msgs.map Msg.v) cm]
def Raft.cells (R : Raft) (lg : Nat) (cy cm : Cap) : List V :=
  [inV R.id, inV R.term, inV R.vote, inV R.role, inV R.lead, .p lg 0, inV R.commit, inV R.snap.index, inV R.snap.term, intsV R.snap.mem, bytesV R.snap.data, .l 1 (R.yes.map inV) cy, inV R.passed, inV R.timeout,
    inV (R.next 0), inV (R.mat 0), inV (R.next 1), inV (R.mat 1), inV (R.next 2), inV (R.mat 2), inV (R.next 3), inV (R.mat 3), inV (R.next 4), inV (R.mat 4), inV (R.next 5), inV (R.mat 5), inV (R.next 6), inV (R.mat 6), inV (R.next 7), inV (R.mat 7),
    inV R.out.term, inV R.out.vote, .b R.out.new, inV R.out.snap.index, inV R.out.snap.term, intsV R.out.snap.mem, bytesV R.out.snap.data, inV R.out.first, entsV R.out.ents, .l 11 (R.out.msgs.map Msg.v) cm]

@[simp] theorem heldV_ints (l : List Int) (n : Nat) : heldV (intsV l) n false = some (intsV l) := rfl
@[simp] theorem heldV_bytes (l : List UInt8) (n : Nat) : heldV (bytesV l) n false = some (bytesV l) := rfl
@[simp] theorem heldV_ents (l : List Ent) (n : Nat) : heldV (entsV l) n false = some (entsV l) := rfl
@[simp] theorem cells_ints (l : List Int) : (intsV l).cells? = some [intsV l] := rfl
@[simp] theorem cells_bytes (l : List UInt8) : (bytesV l).cells? = some [bytesV l] := rfl
@[simp] theorem cells_ents (l : List Ent) : (entsV l).cells? = some [entsV l] := rfl
@[simp] theorem lenV_ints (l : List Int) : lenV (intsV l) = some (.n .i64 l.length) := by simp [intsV]
@[simp] theorem lenV_bytes (l : List UInt8) : lenV (bytesV l) = some (.n .i64 l.length) := by simp [bytesV]
@[simp] theorem lenV_ents (l : List Ent) : lenV (entsV l) = some (.n .i64 l.length) := by simp [entsV]
@[simp] theorem heldV_ent (e : Ent) : heldV e.v 4 true = some e.v := rfl
@[simp] theorem cells_ent (e : Ent) : e.v.cells? = some [inV e.term, inV e.kind, bytesV e.data, intsV e.mem] := rfl
@[simp] theorem cells_msg (m : Msg) : m.v.cells? = some m.cs := rfl
@[simp] theorem cells_snap (s : Snap) : s.v.cells? = some s.cs := rfl
@[simp] theorem snap_len (s : Snap) : s.cs.length = 4 := rfl
@[simp] theorem msg_len (m : Msg) : m.cs.length = 11 := rfl
@[simp] theorem ready_len (o : Ready) (c : Cap) : (o.cs c).length = 10 := rfl

def upN (f : Nat → Int) (n : Nat) (x : Int) : Nat → Int := fun i => if i = n then x else f i

section
variable (R : Raft) (lg : Nat) (cy cm : Cap)
@[simp] theorem rc_len : (R.cells lg cy cm).length = 40 := rfl
@[simp] theorem rc0 : partV (R.cells lg cy cm) 0 1 false = some (inV R.id) := rfl
@[simp] theorem rc1 : partV (R.cells lg cy cm) 1 1 false = some (inV R.term) := rfl
@[simp] theorem rc1' : partV (R.cells lg cy cm) 1 2 true = some (.agg [inV R.term, inV R.vote]) := rfl
@[simp] theorem rc2 : partV (R.cells lg cy cm) 2 1 false = some (inV R.vote) := rfl
@[simp] theorem rc3 : partV (R.cells lg cy cm) 3 1 false = some (inV R.role) := rfl
@[simp] theorem rc4 : partV (R.cells lg cy cm) 4 1 false = some (inV R.lead) := rfl
@[simp] theorem rc5 : partV (R.cells lg cy cm) 5 1 false = some (.p lg 0) := rfl
@[simp] theorem rc6 : partV (R.cells lg cy cm) 6 1 false = some (inV R.commit) := rfl
@[simp] theorem rc7 : partV (R.cells lg cy cm) 7 4 true = some R.snap.v := rfl
@[simp] theorem rc7' : partV (R.cells lg cy cm) 7 1 false = some (inV R.snap.index) := rfl
@[simp] theorem rc9 : partV (R.cells lg cy cm) 9 1 false = some (intsV R.snap.mem) := rfl
@[simp] theorem rc11 : partV (R.cells lg cy cm) 11 1 false = some (.l 1 (R.yes.map inV) cy) := rfl
@[simp] theorem rc12 : partV (R.cells lg cy cm) 12 1 false = some (inV R.passed) := rfl
@[simp] theorem rc13 : partV (R.cells lg cy cm) 13 1 false = some (inV R.timeout) := rfl
@[simp] theorem rc14 : partV (R.cells lg cy cm) 14 16 true = some (.agg R.peers) := rfl
@[simp] theorem rc30 : partV (R.cells lg cy cm) 30 10 true = some (.agg (R.out.cs cm)) := rfl
@[simp] theorem rc39 : partV (R.cells lg cy cm) 39 1 false = some (.l 11 (R.out.msgs.map Msg.v) cm) := rfl
theorem rc_next {n : Nat} (h : n < 8) : partV (R.cells lg cy cm) (14 + n * 2) 1 false = some (inV (R.next n)) := by
  match n, h with
  | 0, _ | 1, _ | 2, _ | 3, _ | 4, _ | 5, _ | 6, _ | 7, _ => rfl
theorem rc_mat {n : Nat} (h : n < 8) : partV (R.cells lg cy cm) (14 + n * 2 + 1) 1 false = some (inV (R.mat n)) := by
  match n, h with
  | 0, _ | 1, _ | 2, _ | 3, _ | 4, _ | 5, _ | 6, _ | 7, _ => rfl
@[simp] theorem sp1 (x y : Int) : splice (R.cells lg cy cm) 1 [inV x, inV y] = { R with term := x, vote := y }.cells lg cy cm := rfl
@[simp] theorem sp2 (x : Int) : splice (R.cells lg cy cm) 2 [inV x] = { R with vote := x }.cells lg cy cm := rfl
@[simp] theorem sp3 (x : Int) : splice (R.cells lg cy cm) 3 [inV x] = { R with role := x }.cells lg cy cm := rfl
@[simp] theorem sp4 (x : Int) : splice (R.cells lg cy cm) 4 [inV x] = { R with lead := x }.cells lg cy cm := rfl
@[simp] theorem sp6 (x : Int) : splice (R.cells lg cy cm) 6 [inV x] = { R with commit := x }.cells lg cy cm := rfl
@[simp] theorem sp7 (s : Snap) : splice (R.cells lg cy cm) 7 s.cs = { R with snap := s }.cells lg cy cm := rfl
@[simp] theorem sp7' (x : Int) : splice (R.cells lg cy cm) 7 [inV x] = { R with snap := { R.snap with index := x } }.cells lg cy cm := rfl
@[simp] theorem sp9 (x : List Int) : splice (R.cells lg cy cm) 9 [intsV x] = { R with snap := { R.snap with mem := x } }.cells lg cy cm := rfl
@[simp] theorem sp11 (x : List Int) (c : Cap) : splice (R.cells lg cy cm) 11 [.l 1 (x.map inV) c] = { R with yes := x }.cells lg c cm := rfl
@[simp] theorem sp12 (x : Int) : splice (R.cells lg cy cm) 12 [inV x] = { R with passed := x }.cells lg cy cm := rfl
@[simp] theorem sp13 (x : Int) : splice (R.cells lg cy cm) 13 [inV x] = { R with timeout := x }.cells lg cy cm := rfl
@[simp] theorem sp30 (o : Ready) (c : Cap) : splice (R.cells lg cy cm) 30 (o.cs c) = { R with out := o }.cells lg cy c := rfl
@[simp] theorem sp33 (s : Snap) : splice (R.cells lg cy cm) 33 s.cs = { R with out := { R.out with snap := s } }.cells lg cy cm := rfl
@[simp] theorem sp37 (x : Int) : splice (R.cells lg cy cm) 37 [inV x] = { R with out := { R.out with first := x } }.cells lg cy cm := rfl
@[simp] theorem sp38 (x : List Ent) : splice (R.cells lg cy cm) 38 [entsV x] = { R with out := { R.out with ents := x } }.cells lg cy cm := rfl
@[simp] theorem sp39 (x : List Msg) (c : Cap) : splice (R.cells lg cy cm) 39 [.l 11 (x.map Msg.v) c] = { R with out := { R.out with msgs := x } }.cells lg cy c := rfl
@[simp] theorem sp2_set (x : Int) : List.set (R.cells lg cy cm) 2 (inV x) = { R with vote := x }.cells lg cy cm := rfl
@[simp] theorem sp3_set (x : Int) : List.set (R.cells lg cy cm) 3 (inV x) = { R with role := x }.cells lg cy cm := rfl
@[simp] theorem sp4_set (x : Int) : List.set (R.cells lg cy cm) 4 (inV x) = { R with lead := x }.cells lg cy cm := rfl
@[simp] theorem sp6_set (x : Int) : List.set (R.cells lg cy cm) 6 (inV x) = { R with commit := x }.cells lg cy cm := rfl
@[simp] theorem sp7q_set (x : Int) : List.set (R.cells lg cy cm) 7 (inV x) = { R with snap := { R.snap with index := x } }.cells lg cy cm := rfl
@[simp] theorem sp9_set (x : List Int) : List.set (R.cells lg cy cm) 9 (intsV x) = { R with snap := { R.snap with mem := x } }.cells lg cy cm := rfl
@[simp] theorem sp11_set (x : List Int) (c : Cap) : List.set (R.cells lg cy cm) 11 (.l 1 (x.map inV) c) = { R with yes := x }.cells lg c cm := rfl
@[simp] theorem sp12_set (x : Int) : List.set (R.cells lg cy cm) 12 (inV x) = { R with passed := x }.cells lg cy cm := rfl
@[simp] theorem sp13_set (x : Int) : List.set (R.cells lg cy cm) 13 (inV x) = { R with timeout := x }.cells lg cy cm := rfl
@[simp] theorem sp37_set (x : Int) : List.set (R.cells lg cy cm) 37 (inV x) = { R with out := { R.out with first := x } }.cells lg cy cm := rfl
@[simp] theorem sp38_set (x : List Ent) : List.set (R.cells lg cy cm) 38 (entsV x) = { R with out := { R.out with ents := x } }.cells lg cy cm := rfl
@[simp] theorem sp39_set (x : List Msg) (c : Cap) : List.set (R.cells lg cy cm) 39 (.l 11 (x.map Msg.v) c) = { R with out := { R.out with msgs := x } }.cells lg cy c := rfl
theorem sp_next {n : Nat} (h : n < 8) (x : Int) : splice (R.cells lg cy cm) (14 + n * 2) [inV x] = { R with next := upN R.next n x }.cells lg cy cm := by
  match n, h with
  | 0, _ | 1, _ | 2, _ | 3, _ | 4, _ | 5, _ | 6, _ | 7, _ => rfl
theorem sp_mat {n : Nat} (h : n < 8) (x : Int) : splice (R.cells lg cy cm) (14 + n * 2 + 1) [inV x] = { R with mat := upN R.mat n x }.cells lg cy cm := by
  match n, h with
  | 0, _ | 1, _ | 2, _ | 3, _ | 4, _ | 5, _ | 6, _ | 7, _ => rfl
theorem sp_peer {n : Nat} (h : n < 8) (x y : Int) : splice (R.cells lg cy cm) (14 + n * 2) [inV x, inV y] = { R with next := upN R.next n x, mat := upN R.mat n y }.cells lg cy cm := by
  match n, h with
  | 0, _ | 1, _ | 2, _ | 3, _ | 4, _ | 5, _ | 6, _ | 7, _ => rfl
end

section
variable (s : Snap) (m : Msg)
@[simp] theorem sc2 : partV s.cs 2 1 false = some (intsV s.mem) := rfl
@[simp] theorem sc3 : partV s.cs 3 1 false = some (bytesV s.data) := rfl
@[simp] theorem sc0 : partV s.cs 0 4 true = some s.v := rfl
@[simp] theorem mc0 : partV m.cs 0 11 true = some m.v := rfl
@[simp] theorem ms1 (x : Int) : splice m.cs 1 [inV x] = { m with frm := x }.cs := rfl
@[simp] theorem ms5 (x : Int) : splice m.cs 5 [inV x] = { m with logTerm := x }.cs := rfl
@[simp] theorem ms8 (x : List Ent) : splice m.cs 8 [entsV x] = { m with ents := x }.cs := rfl
@[simp] theorem ms1_set (x : Int) : List.set m.cs 1 (inV x) = { m with frm := x }.cs := rfl
@[simp] theorem ms5_set (x : Int) : List.set m.cs 5 (inV x) = { m with logTerm := x }.cs := rfl
@[simp] theorem ms8_set (x : List Ent) : List.set m.cs 8 (entsV x) = { m with ents := x }.cs := rfl
@[simp] theorem ms0 (m' : Msg) : splice m.cs 0 m'.cs = m'.cs := rfl
@[simp] theorem mk0 : partV m.cs 0 1 false = some (inV m.kind) := rfl
@[simp] theorem mk1 : partV m.cs 1 1 false = some (inV m.frm) := rfl
@[simp] theorem mk2 : partV m.cs 2 1 false = some (inV m.to) := rfl
@[simp] theorem mk3 : partV m.cs 3 1 false = some (inV m.term) := rfl
@[simp] theorem mk4 : partV m.cs 4 1 false = some (inV m.index) := rfl
@[simp] theorem mk5 : partV m.cs 5 1 false = some (inV m.logTerm) := rfl
@[simp] theorem mk6 : partV m.cs 6 1 false = some (inV m.commit) := rfl
@[simp] theorem mk7 : partV m.cs 7 1 false = some (.b m.yes) := rfl
@[simp] theorem mk8 : partV m.cs 8 1 false = some (entsV m.ents) := rfl
@[simp] theorem mk9 : partV m.cs 9 1 false = some (intsV m.mem) := rfl
@[simp] theorem mk10 : partV m.cs 10 1 false = some (bytesV m.data) := rfl
end

/-! States that were set, or grew. -/
theorem cellsOf_self {σ : St} {l : Nat} {cs : List V} (h : l < σ.length) : cellsOf (σ.set l (.obj cs)) l = some cs := by simp [cellsOf, h]
theorem cellsOf_far {σ : St} {l k : Nat} {o : Ob} (h : k ≠ l) : cellsOf (σ.set k o) l = cellsOf σ l := cellsOf_set_ne h
theorem cellsOf_near {σ xs : St} {l : Nat} (h : l < σ.length) : cellsOf (σ ++ xs) l = cellsOf σ l := cellsOf_app h
@[simp] theorem cellsOf_rightS (σ xs : St) (r k : Nat) (o : Ob) : cellsOf (σ.set r o ++ xs) (σ.length + k) = cellsOf xs k := by
  have := cellsOf_right (σ.set r o) xs k; simpa using this
@[simp] theorem cellsOf_rightS0 (σ xs : St) (r : Nat) (o : Ob) : cellsOf (σ.set r o ++ xs) σ.length = cellsOf xs 0 := by
  have := cellsOf_right0 (σ.set r o) xs; simpa using this
theorem set_near {σ xs : St} {l : Nat} (h : l < σ.length) (o : Ob) : (σ ++ xs).set l o = σ.set l o ++ xs := List.set_append_left _ _ h
@[simp] theorem set_rightS (σ xs : St) (r k : Nat) (o o' : Ob) : (σ.set r o ++ xs).set (σ.length + k) o' = σ.set r o ++ xs.set k o' := by
  have := set_right (σ.set r o) xs k o'; rwa [List.length_set] at this
@[simp] theorem set_rightS0 (σ xs : St) (r : Nat) (o o' : Ob) : (σ.set r o ++ xs).set σ.length o' = σ.set r o ++ xs.set 0 o' := by
  have := set_right0 (σ.set r o) xs o'; rwa [List.length_set] at this

/-- A node of the raft lies at r, its log at lg; the rooms of its slices are there. -/
structure At (σ : St) (r : Nat) (R : Raft) (lg : Nat) (cl cy cm : Cap) : Prop where
  nd : (r :: lg :: (cl.toks ++ cy.toks ++ cm.toks)).Nodup
  raft : cellsOf σ r = some (R.cells lg cy cm)
  log : cellsOf σ lg = some (R.log.cells cl)
  rl : Room σ cl
  ry : Room σ cy
  rm : Room σ cm

/-- .., all of its objects being S. -/
def RAt (σ : St) (r : Nat) (R : Raft) (S : List Nat) : Prop := ∃ lg cl cy cm, S = r :: lg :: (cl.toks ++ cy.toks ++ cm.toks) ∧ At σ r R lg cl cy cm

theorem Room.at {σ : St} {c : Cap} (h : Room σ c) {t : Nat} (ht : t ∈ c.toks) : σ[t]? = some .room := by
  rcases h with rfl | rfl | ⟨u, rfl, -, h⟩
  · simp [Cap.toks] at ht
  · simp [Cap.toks] at ht
  · simp [Cap.toks] at ht; subst ht; exact h
theorem Room.of {σ σ' : St} {c : Cap} (h : Room σ c) (k : ∀ t ∈ c.toks, σ'[t]? = σ[t]?) : Room σ' c := by
  rcases h with rfl | rfl | ⟨u, rfl, h0, h⟩
  · exact .inl rfl
  · exact .inr (.inl rfl)
  · exact .inr (.inr ⟨u, rfl, h0, by rw [k u (by simp [Cap.toks]), h]⟩)
theorem RAt.lt {σ : St} {r : Nat} {R : Raft} {S : List Nat} (h : RAt σ r R S) : ∀ x ∈ S, x < σ.length := by
  obtain ⟨lg, cl, cy, cm, rfl, h⟩ := h
  intro x hx
  have room : ∀ {c : Cap}, Room σ c → x ∈ c.toks → x < σ.length := fun hr hx => (List.getElem?_eq_some_iff.1 (hr.at hx)).1
  simp only [List.mem_cons, List.mem_append] at hx
  rcases hx with rfl | rfl | (hx | hx) | hx
  · exact cellsOf_lt h.raft
  · exact cellsOf_lt h.log
  · exact room h.rl hx
  · exact room h.ry hx
  · exact room h.rm hx
/-- Objects apart from it may change. -/
theorem At.frame {σ σ' : St} {r lg : Nat} {R : Raft} {cl cy cm : Cap} {X : List Nat} (h : At σ r R lg cl cy cm) (hc : Chg σ σ' X) (hd : ∀ x ∈ r :: lg :: (cl.toks ++ cy.toks ++ cm.toks), x ∉ X) : At σ' r R lg cl cy cm := by
  have hlt := RAt.lt (S := r :: lg :: (cl.toks ++ cy.toks ++ cm.toks)) ⟨lg, cl, cy, cm, rfl, h⟩
  have key : ∀ x ∈ r :: lg :: (cl.toks ++ cy.toks ++ cm.toks), σ'[x]? = σ[x]? := fun x hx => hc.2 x (hlt x hx) (hd x hx)
  refine ⟨h.nd, ?_, ?_, h.rl.of fun t ht => key t (by simp [ht]), h.ry.of fun t ht => key t (by simp [ht]), h.rm.of fun t ht => key t (by simp [ht])⟩
  · rw [cellsOf_eq, key r (by simp), ← cellsOf_eq]; exact h.raft
  · rw [cellsOf_eq, key lg (by simp), ← cellsOf_eq]; exact h.log
theorem RAt.frame {σ σ' : St} {r : Nat} {R : Raft} {S S' : List Nat} (h : RAt σ r R S) (hc : Chg σ σ' S') (hd : ∀ x ∈ S, x ∉ S') : RAt σ' r R S := by
  obtain ⟨lg, cl, cy, cm, rfl, h⟩ := h
  exact ⟨lg, cl, cy, cm, rfl, h.frame hc hd⟩
theorem RAt.app {σ : St} {r : Nat} {R : Raft} {S : List Nat} (h : RAt σ r R S) (xs : St) : RAt (σ ++ xs) r R S := h.frame (.app σ xs []) (by simp)
theorem RAt.mem {σ : St} {r : Nat} {R : Raft} {S : List Nat} (h : RAt σ r R S) : r ∈ S := by obtain ⟨lg, cl, cy, cm, rfl, h⟩ := h; simp

/-- What a step leaves: the node, as R; of what was there, S alone may have changed; what it owns is S or new. -/
def Left (σ : St) (r : Nat) (S : List Nat) (R : Raft) (σ' : St) : Prop := ∃ S', RAt σ' r R S' ∧ Chg σ σ' S ∧ ∀ x ∈ S', x ∈ S ∨ σ.length ≤ x

theorem Left.self {σ : St} {r : Nat} {S : List Nat} {R : Raft} (h : RAt σ r R S) : Left σ r S R σ := ⟨S, h, .refl _ _, fun _ h => .inl h⟩
theorem Left.chg {σ σ' : St} {r : Nat} {S : List Nat} {R : Raft} (h : Left σ r S R σ') : Chg σ σ' S := h.choose_spec.2.1
theorem Left.trans {a b c : St} {r : Nat} {S S' : List Nat} {R : Raft} (hc : Chg a b S) (hs : ∀ x ∈ S', x ∈ S ∨ a.length ≤ x) (k : Left b r S' R c) : Left a r S R c := by
  obtain ⟨S2, h1, h2, h3⟩ := k
  refine ⟨S2, h1, hc.trans h2 hs, fun x hx => ?_⟩
  rcases h3 x hx with h | h
  · exact hs x h
  · right; have := hc.1; omega
end Go.Ab
/-
  A node of the raft: what only looks; what sets some of its parts.
-/
namespace Go.Ab

variable {E : Env}

structure OkR (E : Env) : Prop extends OkJ E where
  rwithin : chkF E.P E.m (E.m 32) c_raft_within = true
  rown : chkF E.P E.m (E.m 34) c_raft_own = true
  draw : chkF E.P E.m (E.m 36) c_raft_Raft_Draw = true
  membersTo : chkF E.P E.m (E.m 43) c_raft_Raft_membersTo = true
  members : chkF E.P E.m (E.m 24) c_raft_Raft_members = true
  others : chkF E.P E.m (E.m 62) c_raft_Raft_others = true
  says : chkF E.P E.m (E.m 50) c_raft_Raft_says = true
  end_ : chkF E.P E.m (E.m 83) c_raft_Raft_end = true
  stands : chkF E.P E.m (E.m 55) c_raft_Raft_stands = true
  fallBack : chkF E.P E.m (E.m 51) c_raft_Raft_fallBack = true
  fresh : chkF E.P E.m (E.m 74) c_raft_Raft_fresh = true

theorem bel_msg (n : Nat) (m : Msg) : BelV E.m n m.v :=
  .agg (.cons (.n _ _) (.cons (.n _ _) (.cons (.n _ _) (.cons (.n _ _) (.cons (.n _ _) (.cons (.n _ _) (.cons (.n _ _) (.cons (.b _) (.cons (bel_ents _ _) (.cons (bel_ints _ _) (.cons (bel_bytes _ _) .nil)))))))))))
theorem bel_snap (n : Nat) (s : Snap) : BelV E.m n s.v := .agg (.cons (.n _ _) (.cons (.n _ _) (.cons (bel_ints _ _) (.cons (bel_bytes _ _) .nil))))

theorem within_call (H : OkR E) {σ : St} {K : V → St → Prop} (n a b : Int) (k : K (inV (max a (min n b))) σ) : ACalls E 32 [inV n, inV a, inV b] σ K := by
  refine g_raft_within H.rwithin ?_
  unfold p_raft_within
  simpa using k

/-- A snapshot that is not too long to be copied. -/
def Snap.ok (s : Snap) : Prop := s.mem.length ≤ 1099511627776 ∧ s.data.length ≤ 1099511627776

theorem own_snap (H : OkR E) {σ : St} {K : V → St → Prop} (s : Snap) (hs : s.ok) (k : K s.v σ) : ACalls E 34 [s.v] σ K := by
  refine .same (g_raft_own H.rown ?_)
  unfold p_raft_own
  have hv : s.v = .agg [inV s.index, inV s.term, intsV s.mem, bytesV s.data] := rfl
  rw [hv] at *
  simp [ldV_at, partV]
  refine clone_ints H.toOk _ hs.1 ?_
  simp [ldV_at, partV]
  refine clone_bytes H.toOk _ hs.2 ?_
  simp [ldV_at, storeV_at, partV, intsV, bytesV]
  exact .app (.agg [inV s.index, inV s.term, intsV s.mem, bytesV s.data]) (.refl _) (hv ▸ bel_snap _ _) k

/-- The last entry of the first n of l that says who the members are. -/
def memAt (l : List Ent) : Nat → Option (Nat × List Int)
  | 0 => none
  | n + 1 => if (l.getD n default).kind = 2 ∧ chkMem (l.getD n default).mem = true then some (n, (l.getD n default).mem) else memAt l n

def Raft.membersTo (R : Raft) (i : Int) : List Int × Int :=
  match memAt (R.log.part 0 (i - (R.log.index + 1) + 1)) (R.log.part 0 (i - (R.log.index + 1) + 1)).length with
  | some (n, m) => (m, R.log.index + 1 + n)
  | none => (R.snap.mem, 0)
def Raft.members (R : Raft) : List Int := (R.membersTo R.log.last).1

theorem part_ok {g : Log} (h : g.Ok) (i n : Int) : EntsOk (g.part i n) := by
  unfold Log.part
  split
  · exact ⟨by simp, by simp⟩
  · exact (h.ents.drop _).take _

theorem ents_at {l : List Ent} {n : Nat} (h : n < l.length) : (l.map Ent.v).getD n .u = .agg [inV (l.getD n default).term, inV (l.getD n default).kind, bytesV (l.getD n default).data, intsV (l.getD n default).mem] := by
  rw [getD_map_ent _ _ h]
  have : l.getD n default = l[n] := by simp [List.getD, h]
  rw [this]; rfl

theorem raft_membersTo (H : OkR E) {σ : St} {K : V → St → Prop} {r lg : Nat} {R : Raft} {cl cy cm : Cap} (i : Int) (h : At σ r R lg cl cy cm) (hl : R.log.Ok) (h0 : -1 ≤ i) (h1 : i ≤ 4398046511104)
    (k : K (.tup [intsV (R.membersTo i).1, inV (R.membersTo i).2]) σ) : ACalls E 43 [.p r 0, inV i] σ K := by
  refine g_raft_Raft_membersTo H.membersTo ?_
  unfold p_raft_Raft_membersTo
  have hr := h.raft
  have hg := h.log
  have a0 := hl.lo; have a1 := hl.hi; have a2 := hl.ents.1
  simp -zeta [ldV_at, hr]
  refine log_first H.toOkL hg hl ?_
  simp -zeta [hr, inV]
  simp -zeta (disch := omega) only [wrap64]
  refine log_from H.toOkL _ _ hg hl ?_
  generalize hp : R.log.part 0 (i - (R.log.index + 1) + 1) = l at *
  have hok : EntsOk l := hp ▸ part_ok hl _ _
  have b2 := hok.1
  simp -zeta [entsV]
  rw [wrap64 (by omega) (by omega)]
  refine ⟨fun n vs s => n ≤ l.length ∧ vs = [inV ((n : Int) - 1)] ∧ s = σ ∧ memAt l l.length = memAt l n, ⟨l.length, Nat.le_refl _, rfl, rfl, rfl⟩, ?_⟩
  rintro n x s ⟨hn, hvs, rfl, hm⟩
  simp only [List.cons.injEq, and_true] at hvs
  subst hvs
  simp -zeta only [inV, geq_i64, optP_some, splitP_b, decide_eq_true_eq, decide_eq_false_iff_not]
  refine ⟨fun hge => ?_, fun hlt => ?_⟩
  · intro k31
    have hk31 : 0 < n → (memAt l n = memAt l (n - 1)) → k31 s := by
      intro hpos he
      obtain ⟨q, rfl⟩ : ∃ q, n = q + 1 := ⟨n - 1, by omega⟩
      simp only [k31]
      simp
      rw [wrap64 (by omega) (by omega)]
      exact ⟨q, by omega, by omega, by simp, by rw [hm, he]; rfl⟩
    clear_value k31
    obtain ⟨q, rfl⟩ : ∃ q, n = q + 1 := ⟨n - 1, by omega⟩
    have hq : q < l.length := by omega
    have e1 : (((q + 1 : Nat) : Int) - 1) = q := by push_cast; omega
    have e2 : ((q : Int) + 1 - 1) = q := by omega
    have hmq : memAt l (q + 1) = if (l.getD q default).kind = 2 ∧ chkMem (l.getD q default).mem = true then some (q, (l.getD q default).mem) else memAt l q := rfl
    have hmem : (l.getD q default) ∈ l := by simp [List.getD, hq]
    have hent := hok.2 _ hmem
    have hat := ents_at hq
    have hd : l.getD q default = l[q] := by simp [List.getD, hq]
    rw [hd] at hmq hmem hent hat
    simp -zeta [e2, hq, Ent.v, partV]
    generalize l[q] = e at *
    refine ⟨fun hk => ?_, fun hk => hk31 (by omega) (by rw [hmq, if_neg (by simp [hk])]; rfl)⟩
    refine quorum_check H.toOkQ _ hent.2 ?_
    simp -zeta
    refine ⟨fun hc => ?_, fun hc => hk31 (by omega) (by rw [hmq, if_neg (by simp [hc])]; rfl)⟩
    simp [hr]
    refine log_first H.toOkL hg hl ?_
    simp [partV]
    rw [wrap64 (by omega) (by omega)]
    have : R.membersTo i = (e.mem, R.log.index + 1 + q) := by
      unfold Raft.membersTo; rw [hp, hm, hmq, if_pos ⟨hk, hc⟩]
    rw [this] at k
    exact k
  · have hn0 : n = 0 := by omega
    subst hn0
    simp [hr]
    have : R.membersTo i = (R.snap.mem, 0) := by
      unfold Raft.membersTo; rw [hp, hm]; rfl
    rw [this] at k
    exact k

theorem raft_members (H : OkR E) {σ : St} {K : V → St → Prop} {r lg : Nat} {R : Raft} {cl cy cm : Cap} (h : At σ r R lg cl cy cm) (hl : R.log.Ok)
    (k : K (intsV R.members) σ) : ACalls E 24 [.p r 0] σ K := by
  refine g_raft_Raft_members H.members ?_
  unfold p_raft_Raft_members
  have hr := h.raft
  have a0 := hl.lo; have a1 := hl.hi; have a2 := hl.ents.1
  have hlast : R.log.last = R.log.index + R.log.l.length := rfl
  simp [ldV_at, hr]
  refine log_last H.toOkL h.log hl ?_
  refine raft_membersTo H _ h hl (by omega) (by omega) ?_
  simpa [Raft.members] using k

theorem raft_end (H : OkR E) {σ : St} {K : V → St → Prop} {r lg : Nat} {R : Raft} {cl cy cm : Cap} (h : At σ r R lg cl cy cm) (hl : R.log.Ok)
    (k : K (.tup [inV R.log.last, inV (R.log.termOf R.log.last).1]) σ) : ACalls E 83 [.p r 0] σ K := by
  refine g_raft_Raft_end H.end_ ?_
  unfold p_raft_Raft_end
  have hr := h.raft
  simp [ldV_at, hr]
  refine log_last H.toOkL h.log hl ?_
  simp [hr]
  refine log_term H.toOkL _ h.log hl ?_
  simpa using k

/-- A part of the node is set. -/
theorem At.set {σ : St} {r lg : Nat} {R R' : Raft} {cl cy cm : Cap} (h : At σ r R lg cl cy cm) (hl : R'.log = R.log) : At (σ.set r (.obj (R'.cells lg cy cm))) r R' lg cl cy cm := by
  have nd := h.nd
  have hlt := cellsOf_lt h.raft
  simp only [List.nodup_cons, List.mem_cons, List.mem_append, not_or] at nd
  exact ⟨h.nd, cellsOf_self hlt, by rw [cellsOf_far (by simpa using nd.1.1), hl]; exact h.log, h.rl.set _ (h.rl.ne h.raft), h.ry.set _ (h.ry.ne h.raft), h.rm.set _ (h.rm.ne h.raft)⟩
theorem At.app {σ : St} {r lg : Nat} {R : Raft} {cl cy cm : Cap} (h : At σ r R lg cl cy cm) (xs : St) : At (σ ++ xs) r R lg cl cy cm :=
  ⟨h.nd, cellsOf_left h.raft _, cellsOf_left h.log _, h.rl.of fun t ht => by rw [List.getElem?_append_left ((List.getElem?_eq_some_iff.1 (h.rl.at ht)).1)],
    h.ry.of fun t ht => by rw [List.getElem?_append_left ((List.getElem?_eq_some_iff.1 (h.ry.at ht)).1)], h.rm.of fun t ht => by rw [List.getElem?_append_left ((List.getElem?_eq_some_iff.1 (h.rm.at ht)).1)]⟩
theorem At.rat {σ : St} {r lg : Nat} {R : Raft} {cl cy cm : Cap} (h : At σ r R lg cl cy cm) : RAt σ r R (r :: lg :: (cl.toks ++ cy.toks ++ cm.toks)) := ⟨lg, cl, cy, cm, rfl, h⟩

def clamp (n a b : Int) : Int := max a (min n b)

theorem raft_draw (H : OkR E) {σ : St} {K : V → St → Prop} {r : Nat} {R : Raft} {S : List Nat} (n : Int) (h : RAt σ r R S)
    (k : ∀ σ', Left σ r S { R with timeout := clamp n 1 100 } σ' → K (.tup []) σ') : ACalls E 36 [.p r 0, inV n] σ K := by
  obtain ⟨lg, cl, cy, cm, rfl, h⟩ := h
  refine g_raft_Raft_Draw H.draw ?_
  unfold p_raft_Raft_Draw
  refine within_call H _ _ _ ?_
  simp [storeV_at, h.raft]
  exact k _ ⟨_, (h.set (R' := { R with timeout := clamp n 1 100 }) rfl).rat, .set _ (by simp), fun _ h => .inl h⟩

theorem At.sub {σ : St} {r lg : Nat} {R : Raft} {cl cy cy' cm : Cap} (h : At σ r R lg cl cy cm) (xs : List Int) (hc : cy' = .nil ∨ cy' = .full) :
    At (σ.set r (.obj ({ R with yes := xs }.cells lg cy' cm))) r { R with yes := xs } lg cl cy' cm := by
  have nd := h.nd
  have hlt := cellsOf_lt h.raft
  have ht : cy'.toks = [] := by rcases hc with rfl | rfl <;> rfl
  refine ⟨?_, cellsOf_self hlt, ?_, h.rl.set _ (h.rl.ne h.raft), hc.elim .inl (fun e => .inr (.inl e)), h.rm.set _ (h.rm.ne h.raft)⟩
  · rw [ht]
    refine List.Nodup.sublist ?_ nd
    simp
  · simp only [List.nodup_cons, List.mem_cons, List.mem_append, not_or] at nd
    rw [cellsOf_far (by simpa using nd.1.1)]; exact h.log

def Raft.stands (R : Raft) (role lead : Int) (yes : List Int) : Raft := { R with role := role, lead := lead, yes := yes, passed := 0 }

theorem raft_stands (H : OkR E) {σ : St} {K : V → St → Prop} {r : Nat} {R : Raft} {S : List Nat} (role lead : Int) (yes : List Int) (c : Cap) (hc : c = .nil ∨ c = .full) (h : RAt σ r R S)
    (k : ∀ σ', Left σ r S (R.stands role lead yes) σ' → K (.tup []) σ') : ACalls E 55 [.p r 0, inV role, inV lead, .l 1 (yes.map inV) c] σ K := by
  obtain ⟨lg, cl, cy, cm, rfl, h⟩ := h
  refine g_raft_Raft_stands H.stands ?_
  unfold p_raft_Raft_stands
  have hlt := cellsOf_lt h.raft
  simp [storeV_at, h.raft, cellsOf_self hlt]
  have ht : c.toks = [] := by rcases hc with rfl | rfl <;> rfl
  have h1 := (h.set (R' := { R with role := role, lead := lead, passed := 0 }) rfl).sub yes hc
  simp only [List.set_set] at h1
  refine k _ ⟨_, h1.rat, .set _ (by simp), fun x hx => .inl ?_⟩
  simp [ht] at hx ⊢
  rcases hx with h | h | h | h <;> simp [h]

def Raft.fallBack (R : Raft) (term lead : Int) : Raft := (if R.term < term then { R with term := term, vote := 0 } else R).stands 0 lead []

theorem raft_fallBack (H : OkR E) {σ : St} {K : V → St → Prop} {r : Nat} {R : Raft} {S : List Nat} (term lead : Int) (h : RAt σ r R S)
    (k : ∀ σ', Left σ r S (R.fallBack term lead) σ' → K (.tup []) σ') : ACalls E 51 [.p r 0, inV term, inV lead] σ K := by
  have h' := h
  obtain ⟨lg, cl, cy, cm, rfl, h⟩ := h
  refine g_raft_Raft_fallBack H.fallBack ?_
  unfold p_raft_Raft_fallBack
  intro k0
  have hk0 : ∀ (σ1 : St) (R1 : Raft), RAt σ1 r R1 (r :: lg :: (cl.toks ++ cy.toks ++ cm.toks)) → Chg σ σ1 (r :: lg :: (cl.toks ++ cy.toks ++ cm.toks)) → R1.stands 0 lead [] = R.fallBack term lead → k0 σ1 := by
    intro σ1 R1 h1 hc he
    simp only [k0]
    exact raft_stands H 0 lead [] .nil (.inl rfl) h1 fun σ' hL => k σ' (he ▸ .trans hc (fun _ h => .inl h) hL)
  clear_value k0
  simp -zeta [ldV_at, storeV_at, h.raft, buildV, inV]
  refine ⟨fun hlt => ?_, fun hge => hk0 σ R h' (.refl _ _) (by simp [Raft.fallBack, show ¬ R.term < term by omega])⟩
  exact hk0 _ _ (h.set (R' := { R with term := term, vote := 0 }) rfl).rat (.set _ (by simp)) (by simp [Raft.fallBack, hlt])

def Raft.fresh (R : Raft) (first : Int) : Raft := { R with out := { R.out with first := first, ents := R.log.part first 1099511627776 } }

theorem raft_fresh (H : OkR E) {σ : St} {K : V → St → Prop} {r : Nat} {R : Raft} {S : List Nat} (first : Int) (h : RAt σ r R S) (hl : R.log.Ok)
    (k : ∀ σ', Left σ r S (R.fresh first) σ' → K (.tup []) σ') : ACalls E 74 [.p r 0, inV first] σ K := by
  obtain ⟨lg, cl, cy, cm, rfl, h⟩ := h
  refine g_raft_Raft_fresh H.fresh ?_
  unfold p_raft_Raft_fresh
  have hlt := cellsOf_lt h.raft
  simp [ldV_at, h.raft]
  refine log_from H.toOkL _ _ h.log hl ?_
  simp [storeV_at, h.raft, cellsOf_self hlt]
  exact k _ ⟨_, (h.set (R' := R.fresh first) rfl).rat, .set _ (by simp), fun _ h => .inl h⟩
end Go.Ab
/-
  Who is enough: more than half.
-/
namespace Go.Ab

variable {E : Env}

structure OkM2 (E : Env) : Prop extends OkR E where
  cloneIm : chkF E.P E.m (E.m 23) cm_slices_Clone_int_int = true
  indexI : chkF E.P E.m (E.m 85) c_slices_IndexFunc_int_int = true
  delF : chkF E.P E.m (E.m 93) cm_slices_DeleteFunc_int_int = true
  qmost : chkF E.P E.m (E.m 80) c_quorum_Most = true
  qmost1 : chkF E.P E.m (E.m 94) c_quorum_Most_c1 = true
  most : chkF E.P E.m (E.m 52) c_raft_Raft_most = true

theorem flat_ints (l : List Int) : flat (l.map inV) = l.map inV := flat_one (by simp [inV, V.cells]) (by simp [inV, V.cells])

/-- A copy that may be written. -/
theorem clone_mut (H : OkM2 E) {σ : St} {K : V → St → Prop} (xs : List Int) (hlen : xs.length ≤ 1099511627776)
    (k0 : xs = [] → ∀ c, c = .nil ∨ c = .full → K (.l 1 [] c) σ) (k1 : xs ≠ [] → ∀ c, xs.length ≤ c → K (.ms σ.length 0 xs.length c 1) (σ ++ [.obj (xs.map inV ++ List.replicate (c - xs.length) .u)])) :
    ACalls E 23 [intsV xs] σ K := by
  refine .byMay ?_ fun h => ?_
  · refine gm_slices_Clone_int_int H.cloneIm ?_
    unfold pm_slices_Clone_int_int
    simp [binV, eqOr, appmP, cntV, srcC, appC, newM, flat_nil]
    refine ⟨by omega, by omega, fun h => k0 h _ (.inr rfl), fun hp c hc => ?_⟩
    have := k1 (by rintro rfl; simp at hp) c hc
    have e : xs.length = (xs.map inV).length := by simp
    rw [e, List.take_length, flat_ints]
    simpa using this
  · refine gm_slices_Clone_int_int H.cloneIm ?_
    unfold pm_slices_Clone_int_int
    simp [binV, eqOr]
    exact k0 (by simpa using h) _ (.inl rfl)

/-- A slice of numbers that is read element by element. -/
def Sees (x : V) (xs : List Int) (σ : St) : Prop :=
  lenV x = some (.n .i64 xs.length) ∧ ∀ (j : Nat) (hj : j < xs.length), ∃ p, iasV x (.n .i64 j) 1 = some p ∧ ldV p 1 false σ = some (inV xs[j])

theorem sees_ints (xs : List Int) (c : Cap) (σ : St) : Sees (.l 1 (xs.map inV) c) xs σ := by
  refine ⟨by simp, fun j hj => ⟨.ep (inV xs[j]), ?_, rfl⟩⟩
  have : (0 : Int) ≤ j ∧ (j : Int) < (xs.length : Int) := ⟨by omega, by omega⟩
  simp [this, List.getD, hj, inV]

theorem sees_ms {l off n c : Nat} {cs : List V} {xs : List Int} {σ : St} (hc : cellsOf σ l = some cs) (hn : n = xs.length) (h : ∀ (j : Nat) (hj : j < xs.length), cs[off + j]? = some (inV xs[j])) : Sees (.ms l off n c 1) xs σ := by
  refine ⟨by simp [lenV, hn], fun j hj => ⟨.p l (off + j), ?_, ?_⟩⟩
  · simp [iasV, hn, hj]
  · have := h j hj
    have hlt := (List.getElem?_eq_some_iff.1 this).1
    simp only [ldV_at, hc, ldC_some, partV]
    rw [if_pos (by omega)]
    simp [List.getD, this]

theorem index_func (H : OkM2 E) {σ : St} {K : V → St → Prop} (x fv : V) (xs : List Int) (f : Int → Bool) (hx : Sees x xs σ) (hlen : xs.length ≤ 1099511627776)
    (hf : ∀ y (K : V → St → Prop), K (.b (f y)) σ → callV E fv [inV y] σ K) (k0 : (∀ y ∈ xs, f y = false) → K (inV (-1)) σ)
    (k1 : ∀ j (hj : j < xs.length), f xs[j] = true → (∀ q (hq : q < j), f xs[q] = false) → K (inV j) σ) : ACalls E 85 [x, fv] σ K := by
  refine g_slices_IndexFunc_int_int H.indexI ?_
  unfold p_slices_IndexFunc_int_int
  obtain ⟨h1, h2⟩ := hx
  simp only [h1, optP_some]
  refine ⟨fun n vs s => ∃ (j : Nat), vs = [inV j] ∧ j ≤ xs.length ∧ n = xs.length - j ∧ s = σ ∧ ∀ q (hq : q < xs.length), q < j → f xs[q] = false,
    ⟨_, 0, rfl, Nat.zero_le _, rfl, rfl, fun i hi h => by omega⟩, ?_⟩
  rintro n x5 s ⟨j, hvs, hj, hn, rfl, hc⟩
  simp only [List.cons.injEq, and_true] at hvs
  obtain rfl := hvs
  simp only [inV, lss_i64, optP_some, splitP_b]
  refine ⟨fun hlt => ?_, fun hge => ?_⟩
  · have hlt' : j < xs.length := by simpa using hlt
    obtain ⟨p, hp1, hp2⟩ := h2 j hlt'
    simp only [hp1, hp2, optP_some]
    refine hf _ _ ?_
    simp
    refine ⟨fun h => k1 j hlt' h fun q hq => hc q (by omega) hq, fun h => ?_⟩
    rw [wrap64 (by omega) (by omega)]
    refine ⟨xs.length - (j + 1), by omega, j + 1, by simp, by omega, rfl, fun q hq hqj => ?_⟩
    by_cases e : q = j
    · subst e; exact h
    · exact hc q hq (by omega)
  · have : j = xs.length := by simp at hge; omega
    subst this
    refine k0 fun y hy => ?_
    obtain ⟨q, hq, rfl⟩ := List.getElem_of_mem hy
    exact hc q hq hq

theorem set_getElem? {α : Type} (l : List α) (i j : Nat) (x : α) (h : i ≠ j) : (l.set i x)[j]? = l[j]? := List.getElem?_set_ne h

theorem filter_take_succ (p : Int → Bool) (xs : List Int) (j : Nat) (hj : j < xs.length) : ((xs.take (j + 1)).filter p).length = ((xs.take j).filter p).length + (if p xs[j] then 1 else 0) := by
  have e : xs.take (j + 1) = xs.take j ++ [xs[j]] := by rw [List.take_add_one]; simp [hj]
  rw [e, List.filter_append, List.length_append]
  cases h : p xs[j] <;> simp [h]

/-- Those of a slice that may be written are left out for which f holds; how many are left. -/
theorem delete_func (H : OkM2 E) {σ : St} {K : V → St → Prop} (l c : Nat) (cs : List V) (fv : V) (xs : List Int) (f : Int → Bool) (hl : cellsOf σ l = some cs) (hcs : xs.length ≤ cs.length) (hcap : xs.length ≤ c) (hget : ∀ j (hj : j < xs.length), cs[j]? = some (inV xs[j])) (hlen : xs.length ≤ 1099511627776)
    (hf : ∀ σ', Chg σ σ' [l] → ∀ y (K : V → St → Prop), K (.b (f y)) σ' → callV E fv [inV y] σ' K)
    (k : ∀ n c cs', n = (xs.filter fun y => !f y).length → K (.ms l 0 n c 1) (σ.set l (.obj cs'))) : ACalls E 93 [.ms l 0 xs.length c 1, fv] σ K := by
  refine gm_slices_DeleteFunc_int_int H.delF ?_
  unfold pm_slices_DeleteFunc_int_int
  have hlt := cellsOf_lt hl
  refine index_func H _ _ xs f (sees_ms hl rfl (by simpa using hget)) hlen (hf σ (.refl _ _)) (fun h => ?_) fun i0 hi0 h1 h2 => ?_
  · simp [inV]
    have := k xs.length c cs (by
      have e : xs.filter (fun y => !f y) = xs := List.filter_eq_self.2 fun y hy => by simp [h y hy]
      rw [e])
    rwa [set_same hl] at this
  · simp -zeta [inV]
    rw [wrap64 (by omega) (by omega)]
    refine ⟨fun n vs s => ∃ (i j : Nat) (cs' : List V), vs = [inV i, inV j] ∧ i < j ∧ j ≤ xs.length ∧ n = xs.length - j ∧ s = σ.set l (.obj cs') ∧ cs'.length = cs.length ∧ i = ((xs.take j).filter fun y => !f y).length ∧ ∀ q (hq : q < xs.length), j ≤ q → cs'[q]? = some (inV xs[q]),
      ⟨_, i0, i0 + 1, cs, by simp, by omega, by omega, rfl, by rw [set_same hl], rfl, ?_, fun q hq _ => hget q hq⟩, ?_⟩
    · rw [filter_take_succ _ _ _ hi0]
      have e : (xs.take i0).filter (fun y => !f y) = xs.take i0 := List.filter_eq_self.2 fun y hy => by
        obtain ⟨q, hq, rfl⟩ := List.getElem_of_mem hy
        simp at hq
        simp [h2 q (by omega)]
      rw [e]; simp [h1]; omega
    · rintro n x9 x10 s ⟨i, j, cs', hvs, hij, hj, hn, rfl, hlc, hi, hg⟩
      simp only [List.cons.injEq, and_true] at hvs
      obtain ⟨rfl, rfl⟩ := hvs
      have hl' : cellsOf (σ.set l (.obj cs')) l = some cs' := cellsOf_self hlt
      simp -zeta [lenV]
      refine ⟨fun hlt2 => ?_, fun hge => ?_⟩
      · intro k16
        have hk16 : ∀ (i' : Nat) (cs2 : List V), i' < j + 1 → cs2.length = cs.length → i' = ((xs.take (j + 1)).filter fun y => !f y).length → (∀ q (hq : q < xs.length), j + 1 ≤ q → cs2[q]? = some (inV xs[q])) → k16 (inV i') (σ.set l (.obj cs2)) := by
          intro i' cs2 q1 q2 q3 q4
          simp only [k16]
          simp
          rw [wrap64 (by omega) (by omega)]
          exact ⟨xs.length - (j + 1), by omega, i', j + 1, ⟨rfl, by simp⟩, by omega, by omega, rfl, cs2, rfl, q2, q3, q4⟩
        clear_value k16
        have hjg := hg j hlt2 (Nat.le_refl _)
        have hjlt := (List.getElem?_eq_some_iff.1 hjg).1
        have hft := filter_take_succ (fun y => !f y) xs j hlt2
        simp -zeta [iasV, hlt2, ldV_at, hl', partV, hjg, List.getD, show j + 1 ≤ cs'.length by omega]
        refine hf _ (.set _ (by simp)) _ _ ?_
        simp -zeta only [splitP_b]
        refine ⟨fun h => ?_, fun h => ?_⟩
        · exact hk16 i cs' (by omega) hlc (by rw [hft, hi]; simp [h]) fun q hq hjq => hg q hq (by omega)
        · simp -zeta [storeV_at, hl', show i < xs.length by omega, show i + 1 ≤ cs'.length by omega]
          rw [wrap64 (by omega) (by omega)]
          have := hk16 (i + 1) (cs'.set i (inV xs[j])) (by omega) (by simpa using hlc) (by rw [hft, hi]; simp [h]) fun q hq hjq => by
            rw [List.getElem?_set_ne (by omega)]; exact hg q hq (by omega)
          simpa [inV] using this
      · have hjn : j = xs.length := by omega
        subst hjn
        simp [slcV, loOf, hiOf, mxOf, clrV, hl']
        refine ⟨by omega, ?_⟩
        by_cases hci : (c : Int) = i
        · exact absurd hci (by omega)
        · rw [if_neg hci]
          refine ⟨by omega, by omega, ?_⟩
          simp at hi
          exact k i _ _ hi

def mostOf (members yes : List Int) : Bool := decide (members.length / 2 < (members.filter fun y => decide (y ∈ yes)).length)

theorem quorum_most (H : OkM2 E) {σ : St} {K : V → St → Prop} (ms yes : List Int) (c : Cap) (h1 : ms.length ≤ 1099511627776) (h2 : yes.length ≤ 1099511627776) (k : K (.b (mostOf ms yes)) σ) : ACalls E 80 [intsV ms, .l 1 (yes.map inV) c] σ K := by
  refine .args (.cons (.refl _) (.cons (FgV.may _ _ _) .nil)) (.same (g_quorum_Most H.qmost ?_))
  show p_quorum_Most E (intsV ms) (intsV yes) σ (Same E σ K)
  unfold p_quorum_Most
  have hbox : boxV (intsV yes) σ = some (.p σ.length 0, σ ++ [.obj [intsV yes]]) := rfl
  rw [hbox]
  simp only [optW_some]
  have hf : ∀ σ' : St, cellsOf σ' σ.length = some [intsV yes] → ∀ y (K : V → St → Prop), K (.b (!decide (y ∈ yes))) σ' → callV E (.f 94 [] [.p σ.length 0]) [inV y] σ' K := by
    intro σ' hc y K hk
    simp only [callV, List.nil_append, List.cons_append]
    refine g_quorum_Most_c1 H.qmost1 ?_
    unfold p_quorum_Most_c1
    simp [ldV_at, hc, partV]
    refine quorum_has H.toOkH _ _ h2 ?_
    simp only [splitP_b]
    refine ⟨fun h => ?_, fun h => ?_⟩
    · simpa [h] using hk
    · simpa [h] using hk
  have fin : ∀ (n : Nat) (xs : St), n = (ms.filter fun y => decide (y ∈ yes)).length → (n : Int) ≤ ms.length → ∀ v, lenV v = some (.n .i64 n) → optP (lenV v) (σ ++ xs) (fun v6 s7 => optP (lenV (intsV ms)) s7 fun v8 s9 => optP (binV .num .quo v8 (.n .i64 2)) s9 fun v10 s11 => optP (binV .num .gtr v6 v10) s11 fun v12 s13 =>
      splitP v12 (Same E σ K (.b true) s13) (Same E σ K (.b false) s13)) := by
    intro n xs hn hle v hv
    have hq : binV .num .quo (.n .i64 (ms.length : Int)) (.n .i64 2) = some (.n .i64 ((ms.length / 2 : Nat) : Int)) := by
      have e : (Int.tdiv (ms.length : Int) 2) = ((ms.length / 2 : Nat) : Int) := by
        rw [Int.tdiv_eq_ediv_of_nonneg (by omega)]; omega
      have e2 : binV .num .quo (.n .i64 (ms.length : Int)) (.n .i64 2) = some (.n .i64 (IntKind.i64.wrap (Int.tdiv (ms.length : Int) 2))) := rfl
      rw [e2, e, wrap64 (by omega) (by omega)]
    simp only [hv, lenV_ints, optP_some, hq, gtr_i64, splitP_b]
    refine ⟨fun h => .app _ (.refl _) (.b _) ?_, fun h => .app _ (.refl _) (.b _) ?_⟩
    · have : mostOf ms yes = true := by simp at h; simp [mostOf, ← hn]; omega
      rwa [this] at k
    · have : mostOf ms yes = false := by simp at h; simp [mostOf, ← hn]; omega
      rwa [this] at k
  refine clone_mut H ms h1 (fun h c hc => ?_) fun hne c hc => ?_
  · subst h
    refine gm_slices_DeleteFunc_int_int H.delF ?_
    unfold pm_slices_DeleteFunc_int_int
    refine index_func H _ _ [] (fun y => !decide (y ∈ yes)) (sees_ints [] c _) (by simp) (hf _ (by simp)) (fun _ => ?_) fun j hj => by simp at hj
    simp only [inV, eql_i64, optP_some, splitP_b]
    refine ⟨fun _ => ?_, fun h => by simp at h⟩
    exact fin 0 _ (by simp) (by simp) _ (by simp)
  · have hcell : cellsOf (σ ++ [Ob.obj [intsV yes]] ++ [Ob.obj (ms.map inV ++ List.replicate (c - ms.length) .u)]) (σ ++ [Ob.obj [intsV yes]]).length = some (ms.map inV ++ List.replicate (c - ms.length) .u) := by simp
    refine delete_func H _ c _ _ ms (fun y => !decide (y ∈ yes)) hcell (by simp) hc (fun j hj => ?_) h1 (fun σ' hch => hf σ' ?_) fun n c' cs' hn => ?_
    · rw [List.getElem?_append_left (by simpa using hj)]; simp [hj]
    · exact hch.cells (by simp) (by simp)
    · simp only [Bool.not_not] at hn
      rw [List.set_append_right _ _ (by simp), List.append_assoc]
      refine fin n _ hn ?_ _ rfl
      rw [hn]; have := List.length_filter_le (fun y => decide (y ∈ yes)) ms; omega

theorem chkFrom_len : ∀ (l : List Int) (last : Int), chkFrom last l = true → (0 ≤ last ∨ l ≠ []) → (∀ x ∈ l, last < x ∧ x ≤ 7) ∧ (l.length : Int) ≤ 7 - last ∨ l = []
  | [], _, _, _ => .inr rfl
  | x :: r, last, h, _ => by
    rw [chkFrom] at h
    split at h
    · simp at h
    · rename_i hc
      left
      have hx : last < x ∧ x ≤ 7 := by omega
      by_cases hr : r = []
      · subst hr; refine ⟨by simp [hx], by simp; omega⟩
      · rcases chkFrom_len r x h (.inr hr) with ⟨h1, h2⟩ | h2
        · refine ⟨fun y hy => ?_, by simp; omega⟩
          rcases List.mem_cons.1 hy with rfl | hy
          · exact hx
          · have := h1 y hy; omega
        · exact absurd h2 hr
theorem chkMem_spec {l : List Int} (h : chkMem l = true) : (∀ x ∈ l, 1 ≤ x ∧ x ≤ 7) ∧ l.length ≤ 7 ∧ l ≠ [] := by
  have hne : l ≠ [] := by rintro rfl; simp [chkMem, chkFrom] at h
  rcases chkFrom_len l 0 h (.inr hne) with ⟨h1, h2⟩ | h2
  · exact ⟨fun x hx => by have := h1 x hx; omega, by omega, hne⟩
  · exact absurd h2 hne

theorem memAt_spec {l : List Ent} : ∀ {n j : Nat} {m : List Int}, memAt l n = some (j, m) → chkMem m = true ∧ j < n
  | 0, j, m, h => by simp [memAt] at h
  | n + 1, j, m, h => by
    rw [memAt] at h
    split at h
    · rename_i hc; cases h; exact ⟨hc.2, by omega⟩
    · have := memAt_spec h; exact ⟨this.1, by omega⟩

/-- Members that may be: none, or those that the check lets through. -/
def MemOk (l : List Int) : Prop := l = [] ∨ chkMem l = true
theorem MemOk.len {l : List Int} (h : MemOk l) : l.length ≤ 7 := by
  rcases h with rfl | h
  · simp
  · exact (chkMem_spec h).2.1
theorem MemOk.all {l : List Int} (h : MemOk l) : ∀ x ∈ l, 1 ≤ x ∧ x ≤ 7 := by
  rcases h with rfl | h
  · simp
  · exact (chkMem_spec h).1
theorem membersTo_ok {R : Raft} (h : MemOk R.snap.mem) (i : Int) : MemOk (R.membersTo i).1 := by
  unfold Raft.membersTo
  split
  · rename_i n m hm; exact .inr (memAt_spec hm).1
  · exact h
theorem members_ok {R : Raft} (h : MemOk R.snap.mem) : MemOk R.members := membersTo_ok h _

theorem raft_most (H : OkM2 E) {σ : St} {K : V → St → Prop} {r lg : Nat} {R : Raft} {cl cy cm : Cap} (h : At σ r R lg cl cy cm) (hl : R.log.Ok) (hm : MemOk R.snap.mem) (hy : R.yes.length ≤ 1099511627776)
    (k : K (.b (mostOf R.members R.yes)) σ) : ACalls E 52 [.p r 0] σ K := by
  refine g_raft_Raft_most H.most ?_
  unfold p_raft_Raft_most
  have hr := h.raft
  have hml := (members_ok hm).len
  refine raft_members H.toOkR h hl ?_
  simp [ldV_at, hr]
  refine quorum_most H _ _ _ (by omega) hy ?_
  simp only [splitP_b]
  exact ⟨fun h => by rwa [h] at k, fun h => by rwa [h] at k⟩
end Go.Ab
/-
  Who is enough: how far more than half are.
-/
namespace Go.Ab

variable {E : Env}

structure OkA (E : Env) : Prop extends OkM2 E where
  nan : chkF E.P E.m (E.m 105) c_cmp_isNaN_int = true
  less : chkF E.P E.m (E.m 98) c_cmp_Less_int = true
  blen : chkF E.P E.m (E.m 97) c_math_bits_Len = true
  blen64 : chkF E.P E.m (E.m 104) c_math_bits_Len64 = true
  ins : chkF E.P E.m (E.m 109) c_slices_insertionSortOrdered_int = true
  pdq : chkF E.P E.m (E.m 107) c_slices_pdqsortOrdered_int = true
  sort : chkF E.P E.m (E.m 102) c_slices_Sort_int_int = true
  agreed : chkF E.P E.m (E.m 91) cm_quorum_Agreed = true

theorem optP_of {x : Option V} {v : V} {σ : St} {K : V → St → Prop} (h : x = some v) (k : K v σ) : optP x σ K := by rw [h]; exact k

theorem cmp_nan (H : OkA E) {σ : St} {K : V → St → Prop} (a : Int) (k : K (.b false) σ) : ACalls E 105 [inV a] σ K := by
  refine g_cmp_isNaN_int H.nan ?_
  unfold p_cmp_isNaN_int
  simpa [inV] using k

theorem cmp_less (H : OkA E) {σ : St} {K : V → St → Prop} (a b : Int) (k : K (.b (decide (a < b))) σ) : ACalls E 98 [inV a, inV b] σ K := by
  refine g_cmp_Less_int H.less ?_
  unfold p_cmp_Less_int
  intro k0 k2
  refine cmp_nan H a ?_
  simp [inV, k0, k2]
  exact ⟨fun h => by simpa [h] using k, fun h => by simpa [show ¬ a < b by omega] using k⟩

theorem bits_len (H : OkA E) {σ : St} {K : V → St → Prop} (a : Int) (h0 : 0 ≤ a) (h1 : a < 256) (k : ∀ n : Int, K (inV n) σ) : ACalls E 97 [.n .u64 a] σ K := by
  refine g_math_bits_Len H.blen ?_
  unfold p_math_bits_Len
  refine g_math_bits_Len64 H.blen64 ?_
  unfold p_math_bits_Len64
  intro k0
  have e : IntKind.u8.wrap a = a := by
    simp only [IntKind.wrap, IntKind.bits, IntKind.signed]; simp; omega
  have a1 : binV .num .geq (.n .u64 a) (.n .u64 4294967296) = some (.b false) := by
    have : binV .num .geq (.n .u64 a) (.n .u64 4294967296) = some (.b (decide ((4294967296 : Int) ≤ a))) := rfl
    rw [this]; congr 2; simp; omega
  have a2 : binV .num .geq (.n .u64 a) (.n .u64 65536) = some (.b false) := by
    have : binV .num .geq (.n .u64 a) (.n .u64 65536) = some (.b (decide ((65536 : Int) ≤ a))) := rfl
    rw [this]; congr 2; simp; omega
  have a3 : binV .num .geq (.n .u64 a) (.n .u64 256) = some (.b false) := by
    have : binV .num .geq (.n .u64 a) (.n .u64 256) = some (.b (decide ((256 : Int) ≤ a))) := rfl
    rw [this]; congr 2; simp; omega
  simp only [a1, optP_some, splitP_b]
  refine ⟨fun h => by simp at h, fun _ => ?_⟩
  simp only [k0, a2, optP_some, splitP_b]
  refine ⟨fun h => by simp at h, fun _ => ?_⟩
  simp only [a3, optP_some, splitP_b]
  refine ⟨fun h => by simp at h, fun _ => ?_⟩
  have a4 : cnvV .u8 (.n .u64 a) = some (.n .u8 a) := by simp only [cnvV, e]
  refine optP_of a4 ?_
  have hsz : lit_256_224579321.size = 256 := by kernel_rfl
  have a5 : ixsV (.s lit_256_224579321) (.n .u8 a) = some (.n .u8 (lit_256_224579321.data.toList.getD a.toNat 0).toNat) := by
    simp only [ixsV, hsz]; rw [if_pos ⟨h0, by omega⟩]
  refine optP_of a5 ?_
  exact k _

/-- The numbers in an object, with something behind. -/
theorem ias_ms {l c n : Nat} {j : Nat} (hj : j < n) : iasV (.ms l 0 n c 1) (.n .i64 j) 1 = some (.p l j) := by simp [iasV, hj]
theorem ints_ld {l : Nat} {ys : List Int} {pad : List V} {σ : St} (hl : cellsOf σ l = some (ys.map inV ++ pad)) {j : Nat} (hj : j < ys.length) : ldV (.p l j) 1 false σ = some (inV (ys.getD j 0)) := by
  simp only [ldV_at, hl, ldC_some, partV]
  rw [if_pos (by simp; omega), List.getD, List.getElem?_append_left (by simpa using hj)]
  simp [List.getD, hj]
theorem ints_write {l : Nat} {ys : List Int} {pad : List V} {σ : St} (hl : cellsOf σ l = some (ys.map inV ++ pad)) {j : Nat} (hj : j < ys.length) (v : Int) :
    storeV (.p l j) (inV v) 1 σ = some (.u, σ.set l (.obj ((ys.set j v).map inV ++ pad))) := by
  have e : splice (ys.map inV ++ pad) j [inV v] = (ys.set j v).map inV ++ pad := by
    simp only [splice_cons, splice_nil]
    rw [List.set_append_left _ _ (by simpa using hj), List.map_set]
  simp only [storeV_at, hl, stC_some, cells_n]
  rw [if_pos ⟨rfl, by simp; omega⟩, e]

theorem getD_set_int (ys : List Int) (i j : Nat) (v : Int) (hi : i < ys.length) : (ys.set i v).getD j 0 = if j = i then v else ys.getD j 0 := by
  simp only [List.getD, List.getElem?_set]
  by_cases h : i = j
  · subst h; simp [hi]
  · have : ¬ j = i := fun h' => h h'.symm
    simp [h, this]

/-- The first i are in order. -/
def Ord (ys : List Int) (i : Nat) : Prop := ∀ p q, p < q → q < i → ys.getD p 0 ≤ ys.getD q 0

def sortI (xs : List Int) : List Int := xs.mergeSort fun a b => decide (a ≤ b)

theorem sortI_of {xs ys : List Int} (hp : ys.Perm xs) (ho : Ord ys ys.length) : ys = sortI xs := by
  refine List.Perm.eq_of_pairwise (le := fun a b => a ≤ b) (fun a b _ _ h1 h2 => by omega) ?_ ?_ (hp.trans (List.mergeSort_perm xs _).symm)
  · rw [List.pairwise_iff_getElem]
    intro i j hi hj hij
    have := ho i j hij hj
    simpa [List.getD, hi, hj] using this
  · have := List.pairwise_mergeSort (le := fun a b : Int => decide (a ≤ b)) (fun a b c h1 h2 => by simp at *; omega) (fun a b => by simp; omega) xs
    exact this.imp (by simp)

theorem ins_sort (H : OkA E) {σ : St} {K : V → St → Prop} {l c : Nat} (xs : List Int) (pad : List V) (hl : cellsOf σ l = some (xs.map inV ++ pad)) (hlen : xs.length ≤ 1099511627776)
    (k : K (.tup []) (σ.set l (.obj ((sortI xs).map inV ++ pad)))) : ACalls E 109 [.ms l 0 xs.length c 1, inV 0, inV xs.length] σ K := by
  refine g_slices_insertionSortOrdered_int H.ins ?_
  unfold p_slices_insertionSortOrdered_int
  have hlt := cellsOf_lt hl
  simp -zeta [inV]
  rw [wrap64 (by omega) (by omega)]
  refine ⟨fun n vs s => ∃ (i : Nat) (ys : List Int), vs = [inV i] ∧ 1 ≤ i ∧ n = xs.length - i ∧ s = σ.set l (.obj (ys.map inV ++ pad)) ∧ ys.Perm xs ∧ Ord ys i,
    ⟨_, 1, xs, by simp, by omega, rfl, by rw [set_same hl], .refl _, fun p q h1 h2 => by omega⟩, ?_⟩
  rintro n x5 s ⟨i, ys, hvs, hi1, hn, rfl, hperm, hord⟩
  simp only [List.cons.injEq, and_true] at hvs
  obtain rfl := hvs
  have hyl := hperm.length_eq
  simp -zeta only [inV, lss_i64, optP_some, splitP_b]
  refine ⟨fun hlt2 => ?_, fun hge => ?_⟩
  · have hin : i < xs.length := by simpa using hlt2
    refine ⟨fun n vs s => ∃ (j : Nat) (ys : List Int), vs = [inV j] ∧ j ≤ i ∧ n = j ∧ s = σ.set l (.obj (ys.map inV ++ pad)) ∧ ys.Perm xs ∧ (∀ p q, p < q → q ≤ i → p ≠ j → q ≠ j → ys.getD p 0 ≤ ys.getD q 0) ∧ (∀ q, j < q → q ≤ i → ys.getD j 0 ≤ ys.getD q 0),
      ⟨_, i, ys, rfl, Nat.le_refl _, rfl, rfl, hperm, fun p q h1 h2 h3 h4 => hord p q h1 (by omega), fun q h1 h2 => by omega⟩, ?_⟩
    rintro n2 x12 s2 ⟨j, zs, hvs, hji, hnj, rfl, hzp, ho1, ho2⟩
    subst hnj
    simp only [List.cons.injEq, and_true] at hvs
    obtain rfl := hvs
    have hzl := hzp.length_eq
    intro k14
    have hk14 : (n2 = 0 ∨ zs.getD (n2 - 1) 0 ≤ zs.getD n2 0) → k14 (σ.set l (.obj (zs.map inV ++ pad))) := by
      intro he
      simp only [k14, inV]
      simp
      rw [wrap64 (by omega) (by omega)]
      refine ⟨xs.length - (i + 1), by omega, i + 1, by simp, by omega, rfl, zs, rfl, hzp, fun p q h1 h2 => ?_⟩
      by_cases hp : p = n2
      · subst hp; exact ho2 q h1 (by omega)
      · by_cases hq : q = n2
        · subst hq
          rcases he with he | he
          · omega
          · by_cases hp1 : p = q - 1
            · subst hp1; exact he
            · exact Int.le_trans (ho1 p (q - 1) (by omega) (by omega) hp (by omega)) he
        · exact ho1 p q h1 (by omega) hp hq
    clear_value k14
    simp -zeta only [inV, gtr_i64, optP_some, splitP_b]
    refine ⟨fun hpos => ?_, fun hneg => hk14 (.inl (by simp at hneg; omega))⟩
    have hpos' : 0 < n2 := by simpa using hpos
    obtain ⟨q, rfl⟩ : ∃ q, n2 = q + 1 := ⟨n2 - 1, by omega⟩
    have hc0 : cellsOf (σ.set l (.obj (zs.map inV ++ pad))) l = some (zs.map inV ++ pad) := cellsOf_self hlt
    have r1 := ias_ms (l := l) (c := c) (n := xs.length) (j := q + 1) (by omega)
    have r2 := ints_ld hc0 (j := q + 1) (by omega)
    have r3 := ias_ms (l := l) (c := c) (n := xs.length) (j := q) (by omega)
    have r4 := ints_ld hc0 (j := q) (by omega)
    have hsub : binV .num .sub (.n .i64 ((q + 1 : Nat) : Int)) (.n .i64 1) = some (.n .i64 (q : Nat)) := by
      simp only [sub_i64]; rw [wrap64 (by push_cast; omega) (by push_cast; omega)]; congr 2; push_cast; omega
    simp -zeta only [r1, r2, r3, r4, hsub, optP_some, true_and]
    refine cmp_less H _ _ ?_
    simp -zeta only [splitP_b]
    refine ⟨fun hless => ?_, fun hnl => hk14 (.inr ?_)⟩
    · have w1 := ints_write hc0 (j := q + 1) (by omega) (zs.getD q 0)
      have hc1 : cellsOf ((σ.set l (.obj (zs.map inV ++ pad))).set l (.obj ((zs.set (q + 1) (zs.getD q 0)).map inV ++ pad))) l = some ((zs.set (q + 1) (zs.getD q 0)).map inV ++ pad) := cellsOf_self (by simpa using hlt)
      have w2 := ints_write hc1 (j := q) (by simp; omega) (zs.getD (q + 1) 0)
      simp -zeta only [r1, r2, r3, r4, hsub, w1, w2, optP_some, optW_some, true_and]
      have hless' : zs.getD (q + 1) 0 < zs.getD q 0 := by simpa using hless
      have hget : ∀ p, ((zs.set (q + 1) (zs.getD q 0)).set q (zs.getD (q + 1) 0)).getD p 0 = if p = q then zs.getD (q + 1) 0 else if p = q + 1 then zs.getD q 0 else zs.getD p 0 := fun p => by
        rw [getD_set_int _ _ _ _ (by simp; omega), getD_set_int _ _ _ _ (by omega)]
      refine ⟨q, by omega, q, (zs.set (q + 1) (zs.getD q 0)).set q (zs.getD (q + 1) 0), rfl, by omega, rfl, by simp, ?_, fun p r h1 h2 h3 h4 => ?_, fun r h1 h2 => ?_⟩
      · have hs := List.set_set_perm (as := zs) (i := q + 1) (j := q) (by omega) (by omega)
        have e1 : zs.getD q 0 = zs[q] := by simp [List.getD, show q < zs.length by omega]
        have e2 : zs.getD (q + 1) 0 = zs[q + 1] := by simp [List.getD, show q + 1 < zs.length by omega]
        rw [e1, e2]; exact hs.trans hzp
      · rw [hget, hget, if_neg h3, if_neg h4]
        by_cases hp : p = q + 1
        · rw [if_pos hp, if_neg (by omega)]; exact ho1 q r (by omega) h2 (by omega) (by omega)
        · rw [if_neg hp]
          by_cases hr : r = q + 1
          · rw [if_pos hr]; exact ho1 p q (by omega) (by omega) hp (by omega)
          · rw [if_neg hr]; exact ho1 p r h1 h2 hp hr
      · rw [hget, hget, if_pos rfl, if_neg (by omega)]
        by_cases hr : r = q + 1
        · rw [if_pos hr]; omega
        · rw [if_neg hr]; exact ho2 r (by omega) h2
    · simp at hnl; simpa using hnl
  · have : ys = sortI xs := sortI_of hperm (by rw [hyl]; intro p q h1 h2; exact hord p q h1 (by simp at hge; omega))
    rw [this]; exact k

theorem sort_ints (H : OkA E) {σ : St} {K : V → St → Prop} {l c : Nat} (xs : List Int) (pad : List V) (hl : cellsOf σ l = some (xs.map inV ++ pad)) (hlen : xs.length ≤ 12)
    (k : K (.tup []) (σ.set l (.obj ((sortI xs).map inV ++ pad)))) : ACalls E 102 [.ms l 0 xs.length c 1] σ K := by
  refine g_slices_Sort_int_int H.sort ?_
  unfold p_slices_Sort_int_int
  have e : cnvV .u64 (.n .i64 (xs.length : Int)) = some (.n .u64 xs.length) := by
    have : cnvV .u64 (.n .i64 (xs.length : Int)) = some (.n .u64 (IntKind.u64.wrap xs.length)) := rfl
    rw [this]; congr 2
    simp only [IntKind.wrap, IntKind.bits, IntKind.signed]; simp; omega
  simp only [lenV, optP_some, e]
  refine bits_len H _ (by omega) (by omega) fun lim => ?_
  refine g_slices_pdqsortOrdered_int H.pdq ?_
  unfold p_slices_pdqsortOrdered_int
  refine ⟨fun n vs s => s = σ ∧ vs = [inV 0, inV xs.length, inV lim, .b true, .b true], ⟨0, rfl, rfl⟩, ?_⟩
  rintro n x3 x4 x5 x6 x7 s ⟨rfl, hvs⟩
  simp only [List.cons.injEq, and_true] at hvs
  obtain ⟨rfl, rfl, rfl, rfl, rfl⟩ := hvs
  simp only [inV, sub_i64, optP_some, leq_i64, splitP_b]
  rw [wrap64 (by omega) (by omega)]
  refine ⟨fun _ => ?_, fun h => by simp at h; omega⟩
  exact ins_sort H xs pad hl (by omega) k

/-- How far more than half of the members are, by what each has. -/
def agreedOf (ms : List Int) (have_ : List Int) : Int :=
  (sortI (ms.map fun n => have_.getD n.toNat 0)).getD ((ms.length - 1) / 2) 0

theorem quorum_agreed (H : OkA E) {σ : St} {K : V → St → Prop} (ms hv : List Int) (hne : ms ≠ []) (hm : ∀ x ∈ ms, 0 ≤ x) (hl : ms.length ≤ 7) (hhl : hv.length ≤ 1099511627776)
    (k : K (inV (agreedOf ms hv)) σ) : ACalls E 91 [intsV ms, intsV hv] σ K := by
  refine .same (gm_quorum_Agreed H.agreed ?_)
  unfold pm_quorum_Agreed
  simp -zeta only [lenV_ints, optP_some]
  let val : Int → Int := fun n => hv.getD n.toNat 0
  refine ⟨fun n vs s => ∃ (j : Nat) (x : V) (s' : St), vs = [x, inV j] ∧ j ≤ ms.length ∧ n = ms.length - j ∧ s = σ ++ s' ∧
      ((j = 0 ∧ x = .l 1 [] .nil) ∨ ∃ l c, x = .ms l 0 j c 1 ∧ σ.length ≤ l ∧ j ≤ c ∧ cellsOf s l = some (((ms.take j).map val).map inV ++ List.replicate (c - j) V.u)),
    ⟨_, 0, _, [], rfl, Nat.zero_le _, rfl, by simp, .inl ⟨rfl, rfl⟩⟩, ?_⟩
  rintro n x5 x6 s ⟨j, x, s', hvs, hj, hn, rfl, hx⟩
  simp only [List.cons.injEq, and_true] at hvs
  obtain ⟨rfl, rfl⟩ := hvs
  simp -zeta only [inV, lss_i64, optP_some, splitP_b]
  refine ⟨fun hlt => ?_, fun hge => ?_⟩
  · have hj2 : j < ms.length := by simpa using hlt
    intro k10
    have htk : (ms.take (j + 1)).map val = (ms.take j).map val ++ [val ms[j]] := by
      rw [List.take_add_one, List.map_append]; simp [hj2]
    have hk10 : ∀ (x' : V) (s2 : St), (∃ l c, x' = .ms l 0 (j + 1) c 1 ∧ σ.length ≤ l ∧ j + 1 ≤ c ∧ cellsOf (σ ++ s2) l = some (((ms.take (j + 1)).map val).map inV ++ List.replicate (c - (j + 1)) V.u)) → k10 x' (σ ++ s2) := by
      intro x' s2 h
      simp only [k10, add_i64, optP_some]
      rw [wrap64 (by omega) (by omega)]
      exact ⟨trivial, trivial, trivial, ms.length - (j + 1), by omega, j + 1, x', s2, by push_cast; rfl, by omega, rfl, rfl, .inr h⟩
    have happ : ∀ v : Int, v = val ms[j] → appmP x5 (.l 1 [inV v] .full) 1 8 (σ ++ s') k10 := by
      rintro v rfl
      rcases hx with ⟨rfl, rfl⟩ | ⟨l, c, rfl, hll, hjc, hcell⟩
      · simp [appmP, cntV, srcC, appC, newM, flat, V.cells]
        intro c hc
        have := hk10 (.ms (σ.length + s'.length) 0 1 c 1) (s' ++ [.obj (inV (val ms[0]) :: List.replicate (c - 1) .u)]) ⟨_, c, rfl, by omega, hc, by
          rw [htk, ← List.append_assoc]
          simp⟩
        simpa using this
      · have hlt2 := cellsOf_lt hcell
        have hl3 : (List.replicate (c - j) V.u).length = c - j := by simp
        simp [appmP, cntV, srcC, appC, newM, flat, V.cells, hcell, hj2, show min j ms.length = j by omega]
        refine ⟨by omega, by omega, fun hc => ⟨by omega, ?_⟩, fun hc => fun c' hc' => ?_⟩
        · have e1 : (List.replicate (c - j) V.u).set 0 (inV (val ms[j])) = inV (val ms[j]) :: List.replicate (c - (j + 1)) V.u := by
            obtain ⟨q, hq⟩ : ∃ q, c - j = q + 1 := ⟨c - j - 1, by omega⟩
            rw [hq, show c - (j + 1) = q by omega]; rfl
          rw [List.set_append_right _ _ hll]
          refine hk10 _ _ ⟨l, c, rfl, hll, hc, ?_⟩
          have hset : σ ++ s'.set (l - σ.length) (.obj ((((ms.take j).map val).map inV) ++ (inV (val ms[j]) :: List.replicate (c - (j + 1)) V.u))) = (σ ++ s').set l (.obj ((((ms.take j).map val).map inV) ++ (inV (val ms[j]) :: List.replicate (c - (j + 1)) V.u))) := by
            rw [List.set_append_right _ _ hll]
          simp only [List.map_map, List.map_take] at hset ⊢
          rw [e1, hset, cellsOf_self hlt2]
          have h9 := congrArg (List.map inV) htk
          simp only [List.map_map, List.map_take, List.map_append] at h9 ⊢
          rw [h9]; simp
        · have := hk10 (.ms (σ.length + s'.length) 0 (j + 1) c' 1) (s' ++ [.obj (((ms.take j).map val).map inV ++ (inV (val ms[j]) :: List.replicate (c' - (j + 1)) .u))]) ⟨_, c', rfl, by omega, hc', by
            rw [htk, ← List.append_assoc]
            simp⟩
          have ht : List.take j (List.map (inV ∘ val) (List.take j ms) ++ List.replicate (c - j) V.u) = List.map (inV ∘ val) (List.take j ms) := by
            rw [List.take_append_of_le_length (by simp; omega), List.take_of_length_le (by simp; omega)]
          simp [List.map_take] at ht this ⊢
          simpa [ht] using this
    clear_value k10
    have hg : iasV (intsV ms) (.n .i64 j) 1 = some (.ep (inV ms[j])) := by
      obtain ⟨p, h1, h2⟩ := (sees_ints ms .may σ).2 j hj2
      have : (0 : Int) ≤ j ∧ (j : Int) < (ms.length : Int) := ⟨by omega, by omega⟩
      simp [intsV, this, List.getD, hj2, inV]
    have hm0 := hm ms[j] (by simp)
    simp -zeta [hg]
    refine ⟨fun hin => ?_, fun hout => ?_⟩
    · obtain ⟨q, hq⟩ : ∃ q : Nat, ms[j] = q := ⟨ms[j].toNat, by omega⟩
      rw [hq] at hin ⊢
      have hg2 : iasV (intsV hv) (.n .i64 (q : Int)) 1 = some (.ep (inV (hv.getD q 0))) := by
        have : (0 : Int) ≤ q ∧ (q : Int) < (hv.length : Int) := ⟨by omega, by omega⟩
        have h3 : q < hv.length := by omega
        simp [intsV, this, List.getD, h3, inV]
      simp only [hg2, optP_some, heldV_n, ldV_ep]
      rw [mksV_one 1 _ [inV (hv.getD q 0)] rfl rfl (by omega)]
      exact happ _ (by simp [val, hq])
    · exact happ 0 (by
        simp only [val]
        rw [List.getD, List.getElem?_eq_none (by omega)]; rfl)
  · have hjn : j = ms.length := by simp at hge; omega
    subst hjn
    rcases hx with ⟨h0, -⟩ | ⟨l, c, rfl, hll, hjc, hcell⟩
    · exact absurd (List.eq_nil_of_length_eq_zero h0) hne
    · have hlt2 := cellsOf_lt hcell
      rw [List.take_length] at hcell
      have hpos : 0 < ms.length := List.length_pos_iff.2 hne
      have hs := sort_ints H (c := c) (K := fun v35 s36 => optP (lenV (.ms l 0 ms.length c 1)) s36 fun v37 s38 => optP (binV .num .sub v37 (.n .i64 1)) s38 fun v39 s40 => optP (binV .num .quo v39 (.n .i64 2)) s40 fun v41 s42 =>
        optP (iasV (.ms l 0 ms.length c 1) v41 1) s42 fun v43 s44 => optP (ldV v43 1 false s44) s44 fun v45 s46 => Same E σ K v45 s46) (ms.map val) _ hcell (by simp; omega) ?_
      · simpa using hs
      · have hslen : (sortI (ms.map val)).length = ms.length := by simp [sortI, List.length_mergeSort]
        have hcc : cellsOf ((σ ++ s').set l (.obj ((sortI (ms.map val)).map inV ++ List.replicate (c - ms.length) V.u))) l = some ((sortI (ms.map val)).map inV ++ List.replicate (c - ms.length) V.u) := cellsOf_self hlt2
        have r1 := ias_ms (l := l) (c := c) (n := ms.length) (j := (ms.length - 1) / 2) (by omega)
        have r2 := ints_ld hcc (j := (ms.length - 1) / 2) (by omega)
        have q1 : binV .num .sub (.n .i64 (ms.length : Int)) (.n .i64 1) = some (.n .i64 ((ms.length - 1 : Nat) : Int)) := by
          simp only [sub_i64]; rw [wrap64 (by omega) (by omega)]; congr 2; omega
        have q2 : binV .num .quo (.n .i64 ((ms.length - 1 : Nat) : Int)) (.n .i64 2) = some (.n .i64 (((ms.length - 1) / 2 : Nat) : Int)) := by
          have e2 : binV .num .quo (.n .i64 ((ms.length - 1 : Nat) : Int)) (.n .i64 2) = some (.n .i64 (IntKind.i64.wrap (Int.tdiv ((ms.length - 1 : Nat) : Int) 2))) := rfl
          rw [e2, Int.tdiv_eq_ediv_of_nonneg (by omega), wrap64 (by omega) (by omega)]; congr 2
        simp only [lenV, optP_some, q1, q2, r1, r2]
        rw [List.set_append_right _ _ hll]
        exact .app _ (.refl _) (.n _ _) k
end Go.Ab

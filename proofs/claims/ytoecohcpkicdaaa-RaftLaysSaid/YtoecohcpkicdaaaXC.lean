/-
  Contracts of calls out of abstract runs (third part). No condition.
-/
import Derived.Test.YtoecohcpkicdaaaXB
set_option linter.unusedVariables false
set_option linter.unusedSimpArgs false
set_option linter.unnecessarySimpa false
/-
  Functions: from the abstract body to the model's call.
-/
namespace Go.Ab
open Go.RowKit

variable {E : Env} {g : G} {σ : St} {w : World}

def chkRes (P : Program) (n : Nat) : List ARes → List ResultVar → Bool
  | [], [] => true
  | .t i :: r, .tmp j :: q => i == j && decide (i < n) && chkRes P n r q
  | .cell i sz ag :: r, .cell j t :: q => i == j && decide (i < n) && szIs P t sz && agIs P t ag && chkRes P n r q
  | _, _ => false

def chkF (P : Program) (m : Nat → FuncId) (f : FuncId) (F : AFunc) : Bool :=
  calleeOk P f && match P.funcs[f]? with
    | some fn => fn.ntmps == F.ntmps && decide (F.nargs ≤ F.ntmps) && chkRes P F.ntmps F.res fn.results.toList && (match fn.body with | some c => chkCode P m F.ntmps F.body c | none => false)
    | none => false

theorem asAddr_run {P : Program} {v : Value} {x : V} {m : Nat → FuncId} {sz : Nat} {ag : Bool} {y : V} (h : Rep m g v x) (hy : ldV x sz ag σ = some y) : ∃ a, v = .pointer (some a) ∧ (asAddr v).run P w = .ok a w ∧ (Instr.sureAddr v).run P w = .ok a w := by
  cases h <;> simp only [ldV] at hy <;> try (simp at hy; done)
  · exact ⟨_, rfl, rfl, rfl⟩
  · exact ⟨_, rfl, rfl, rfl⟩

theorem res_rep {n : Nat} {tmps : Array Value} {T : Tm} (hR : Rel E.m g σ w) (hT : RepT E.m g n tmps T) : ∀ (rs : List ARes) (qs : List ResultVar) (K : List V → Prop), chkRes E.P n rs qs = true → resK T σ rs K →
    ∃ vs xs, ((qs.mapM fun (r : ResultVar) => (match r with | .tmp t => pure (tmps.getD t undef) | .cell a t => do loadVar t (← asAddr (tmps.getD a undef)) : Sem Value)) : Sem (List Value)).run E.P w = .ok vs w ∧
      vs.length = xs.length ∧ (∀ j, j < xs.length → Rep E.m g (vs.getD j undef) (xs.getD j .u)) ∧ K xs
  | [], [], K, _, h => ⟨[], [], by simp, rfl, fun j hj => by simp at hj, h⟩
  | .t i :: rs, .tmp j :: qs, K, hc, h => by
    simp only [chkRes, Bool.and_eq_true, beq_iff_eq, decide_eq_true_eq] at hc
    obtain ⟨⟨rfl, hi⟩, hc⟩ := hc
    simp only [resK] at h
    obtain ⟨vs, xs, h1, h2, h3, h4⟩ := res_rep hR hT rs qs _ hc h
    refine ⟨tmps.getD i undef :: vs, T i :: xs, ?_, by simp [h2], fun j hj => ?_, h4⟩
    · simp only [List.mapM_cons, Sem.run_bind, Sem.run_pure, Result.andThen_ok, h1]
    · cases j with
      | zero => exact hT.2 i hi
      | succ j => exact h3 j (by simpa using hj)
  | .cell i sz ag :: rs, .cell j t :: qs, K, hc, h => by
    simp only [chkRes, Bool.and_eq_true, beq_iff_eq, decide_eq_true_eq] at hc
    obtain ⟨⟨⟨⟨rfl, hi⟩, hs⟩, ha⟩, hc⟩ := hc
    simp only [resK] at h
    cases hy : ldV (T i) sz ag σ with
    | none => simp only [hy, optP] at h
    | some y =>
      simp only [hy, optP] at h
      obtain ⟨v', r1, r2⟩ := ldV_rep hR (hT.2 i hi) hy hs ha
      obtain ⟨a, ea, r3, r4⟩ := asAddr_run (P := E.P) (w := w) (hT.2 i hi) hy
      obtain ⟨vs, xs, h1, h2, h3, h4⟩ := res_rep hR hT rs qs _ hc h
      refine ⟨v' :: vs, y :: xs, ?_, by simp [h2], fun j hj => ?_, h4⟩
      · have : (loadVar t a).run E.P w = .ok v' w := by
          simp only [Instr.loadAt, Sem.run_bind, r4, Result.andThen_ok] at r1
          exact r1
        simp only [List.mapM_cons, Sem.run_bind, r3, Sem.run_pure, Result.andThen_ok, this, h1]
      · cases j with
        | zero => exact r2
        | succ j => exact h3 j (by simpa using hj)
  | [], _ :: _, _, hc, _ => by simp [chkRes] at hc
  | .t _ :: _, [], _, hc, _ => by simp [chkRes] at hc
  | .t _ :: _, .cell .. :: _, _, hc, _ => by simp [chkRes] at hc
  | .cell .. :: _, [], _, hc, _ => by simp [chkRes] at hc
  | .cell .. :: _, .tmp _ :: _, _, hc, _ => by simp [chkRes] at hc

theorem results_rep {n : Nat} {tmps : Array Value} {T : Tm} {fn : Func} (hR : Rel E.m g σ w) (hT : RepT E.m g n tmps T) {rs : List ARes} {K : V → Prop} (hc : chkRes E.P n rs fn.results.toList = true) (h : resK T σ rs fun l => K (oneOf l)) :
    ∃ v x, (results fn tmps).run E.P w = .ok v w ∧ Rep E.m g v x ∧ K x := by
  obtain ⟨vs, xs, h1, h2, h3, h4⟩ := res_rep hR hT rs _ _ hc h
  have h5 : (fn.results.mapM fun (r : ResultVar) => (match r with | .tmp t => pure (tmps.getD t undef) | .cell a t => do loadVar t (← asAddr (tmps.getD a undef)) : Sem Value)).run E.P w = .ok vs.toArray w := by
    obtain ⟨l, hl⟩ : ∃ l, fn.results = l := ⟨_, rfl⟩
    rw [hl] at h1 ⊢
    obtain ⟨l⟩ := l
    have := h1
    simp only at this
    rw [List.mapM_toArray, Sem.run_map, this]
    rfl
  have h6 : (results fn tmps).run E.P w = .ok (if h : vs.toArray.size = 1 then vs.toArray[0] else .tuple vs.toArray) w := by
    unfold results
    rw [Sem.run_bind]
    erw [h5]
    rfl
  clear h5 h1
  rcases xs with _ | ⟨x, _ | ⟨x2, xs⟩⟩
  · rcases vs with _ | ⟨v, vs⟩
    · exact ⟨.tuple #[], .tup [], h6, .tup _ _ rfl (fun j hj => by simp at hj), h4⟩
    · simp at h2
  · rcases vs with _ | ⟨v, _ | ⟨v2, vs⟩⟩
    · simp at h2
    · exact ⟨v, x, h6, h3 0 (by simp), h4⟩
    · simp at h2
  · rcases vs with _ | ⟨v, _ | ⟨v2, vs⟩⟩
    · simp at h2
    · simp at h2
    · refine ⟨.tuple (v :: v2 :: vs).toArray, .tup (x :: x2 :: xs), by rw [h6]; simp, .tup _ _ (by simpa using h2) (fun j hj => ?_), h4⟩
      have := h3 j hj
      simpa [Array.getD_eq_getD_getElem?, List.getD] using this

theorem args_at : ∀ (vs : List V) (i : Nat), args vs i = vs.getD i .u
  | [], _ => rfl
  | _ :: _, 0 => rfl
  | _ :: vs, i + 1 => args_at vs i

/-- A function whose abstract body promises it: its call promises it. -/
theorem acalls {id : Nat} {F : AFunc} {vs : List V} {K : V → St → Prop} (hF : chkF E.P E.m (E.m id) F = true) (hl : vs.length = F.nargs) (h : axF E F vs σ K) : ACalls E id vs σ K := by
  simp only [chkF, Bool.and_eq_true] at hF
  obtain ⟨hok, hF⟩ := hF
  refine ⟨hok, fun g w vals hR hA => ?_⟩
  split at hF
  · rename_i fn hfn
    simp only [Bool.and_eq_true, beq_iff_eq, decide_eq_true_eq] at hF
    obtain ⟨⟨⟨hn, hle⟩, hres⟩, hb⟩ := hF
    split at hb <;> try (simp at hb; done)
    rename_i c hc
    refine calls_of_wp hfn hc ?_
    have hsz : vals.size = F.nargs := by rw [hA.1, hl]
    have hT : RepT E.m g F.ntmps (vals ++ Array.replicate (fn.ntmps - vals.size) undef) (args vs) := by
      refine ⟨by simp [hn, hsz]; omega, fun i hi => ?_⟩
      rw [args_at]
      by_cases hlt : i < vals.size
      · have e : (vals ++ Array.replicate (fn.ntmps - vals.size) undef).getD i undef = vals.getD i undef := by
          simp only [Array.getD_eq_getD_getElem?]; rw [Array.getElem?_append_left hlt]
        rw [e]; exact hA.at i
      · have : vs.getD i .u = .u := by
          have := hA.1
          simp only [List.getD]; rw [List.getElem?_eq_none (by omega)]; rfl
        rw [this]; exact .u _
    refine wp_mono (ax_wp F.body c hb hR hT rfl h) ?_
    intro e a w' he
    have fin : ∀ {T : Tm} {σ' : St} {g' : G}, G.le g g' → Rel E.m g' σ' w' → RepT E.m g' F.ntmps a.tmps T → resK T σ' F.res (fun l => K (oneOf l) σ') →
        ∃ v, (results fn a.tmps).run E.P w' = .ok v w' ∧ ∃ v2 x g' σ', Ending.returned v = .returned v2 ∧ G.le g g' ∧ Rel E.m g' σ' w' ∧ Rep E.m g' v2 x ∧ K x σ' := by
      intro T σ' g' k1 k2 k3 k4
      obtain ⟨v, x, r1, r2, r3⟩ := results_rep (fn := fn) (K := fun x => K x σ') k2 k3 hres k4
      exact ⟨v, r1, v, x, g', σ', rfl, k1, k2, r2, r3⟩
    cases e with
    | normal =>
      obtain ⟨g', T', σ', k1, k2, k3, k4, k5⟩ := he
      obtain ⟨v, r1, r2⟩ := fin k1 k2 k3 k5
      exact ⟨k4, v, r1, r2⟩
    | ret =>
      obtain ⟨g', T', σ', k1, k2, k3, k4, k5⟩ := he
      obtain ⟨v, r1, r2⟩ := fin k1 k2 k3 k5
      exact ⟨k4, v, r1, r2⟩
    | exit i => obtain ⟨g', T', σ', k1, k2, k3, k4, k5⟩ := he; exact k5.elim
    | _ => exact he.elim
  · simp at hF

end Go.Ab
/-
  Words for contracts over the shallow forms: states that are extended, objects that are read, operations at known values.
-/
namespace Go.Ab

variable {E : Env}

/-- A later state: what was there stands as it was. -/
def Ext (σ σ' : St) : Prop := σ.length ≤ σ'.length ∧ ∀ l, l < σ.length → σ'[l]? = σ[l]?
theorem Ext.refl (σ : St) : Ext σ σ := ⟨Nat.le_refl _, fun _ _ => rfl⟩
theorem Ext.trans {a b c : St} (h : Ext a b) (k : Ext b c) : Ext a c := ⟨Nat.le_trans h.1 k.1, fun l hl => (k.2 l (Nat.lt_of_lt_of_le hl h.1)).trans (h.2 l hl)⟩
theorem Ext.app (σ : St) (x : St) : Ext σ (σ ++ x) := ⟨by simp, fun l hl => by rw [List.getElem?_append_left hl]⟩
theorem Ext.push {σ σ' : St} (h : Ext σ σ') (x : Ob) : Ext σ (σ' ++ [x]) := h.trans (.app _ _)
theorem Ext.set {σ σ' : St} (h : Ext σ σ') {l : Nat} (hl : σ.length ≤ l) (x : Ob) : Ext σ (σ'.set l x) :=
  ⟨by simpa using h.1, fun k hk => by rw [List.getElem?_set_ne (by omega)]; exact h.2 k hk⟩
theorem Ext.get {σ σ' : St} (h : Ext σ σ') {l : Nat} {x : Ob} (hl : σ[l]? = some x) : σ'[l]? = some x := by
  rw [h.2 l (List.getElem?_eq_some_iff.1 hl).1]; exact hl
theorem Ext.le {σ σ' : St} (h : Ext σ σ') : σ.length ≤ σ'.length := h.1

theorem cellsOf_eq {σ : St} {l : Nat} {cs : List V} : cellsOf σ l = some cs ↔ σ[l]? = some (.obj cs) := by
  constructor
  · exact cellsOf_obj
  · intro h; simp [cellsOf, h]
theorem cellsOf_lt {σ : St} {l : Nat} {cs : List V} (h : cellsOf σ l = some cs) : l < σ.length := (List.getElem?_eq_some_iff.1 (cellsOf_obj h)).1
theorem Ext.cells {σ σ' : St} (h : Ext σ σ') {l : Nat} {cs : List V} (hl : cellsOf σ l = some cs) : cellsOf σ' l = some cs := cellsOf_eq.2 (h.get (cellsOf_obj hl))
@[simp] theorem cellsOf_push (σ : St) (cs : List V) : cellsOf (σ ++ [.obj cs]) σ.length = some cs := by simp [cellsOf]
theorem cellsOf_set {σ : St} {l : Nat} {cs cs' : List V} (h : cellsOf σ l = some cs) : cellsOf (σ.set l (.obj cs')) l = some cs' := by
  simp [cellsOf, List.getElem?_set_self (cellsOf_lt h)]
theorem cellsOf_set_ne {σ : St} {l k : Nat} {x : Ob} (h : l ≠ k) : cellsOf (σ.set l x) k = cellsOf σ k := by
  simp [cellsOf, List.getElem?_set_ne h]
theorem cellsOf_app {σ : St} {l : Nat} {x : St} (h : l < σ.length) : cellsOf (σ ++ x) l = cellsOf σ l := by
  simp [cellsOf, List.getElem?_append_left h]

/-- The room is there, and new since σ0. -/
def NewRoom (σ0 σ : St) (c : Cap) : Prop := c = .nil ∨ c = .full ∨ ∃ t, c = .tok t ∧ σ0.length ≤ t ∧ σ[t]? = some .room
theorem NewRoom.ext {σ0 σ σ' : St} {c : Cap} (h : NewRoom σ0 σ c) (he : Ext σ σ') : NewRoom σ0 σ' c := by
  rcases h with h | h | ⟨t, h1, h2, h3⟩
  · exact .inl h
  · exact .inr (.inl h)
  · exact .inr (.inr ⟨t, h1, h2, he.get h3⟩)
theorem NewRoom.since {σ0 σ1 σ : St} {c : Cap} (h : NewRoom σ1 σ c) (hl : σ0.length ≤ σ1.length) : NewRoom σ0 σ c := by
  rcases h with h | h | ⟨t, h1, h2, h3⟩
  · exact .inl h
  · exact .inr (.inl h)
  · exact .inr (.inr ⟨t, h1, by omega, h3⟩)

theorem chkF_callee {P : Program} {m : Nat → FuncId} {f : FuncId} {F : AFunc} (h : chkF P m f F = true) : calleeOk P f = true := by
  simp only [chkF, Bool.and_eq_true] at h; exact h.1

theorem ACalls.assume {id : Nat} {args : List V} {σ : St} {K : V → St → Prop} {φ : Prop} (hok : calleeOk E.P (E.m id) = true) (h : ∀ g vals, RepA E.m g vals args → φ) (k : φ → ACalls E id args σ K) : ACalls E id args σ K :=
  ⟨hok, fun g w vals hR hA => (k (h g vals hA)).2 g w vals hR hA⟩

theorem nil_empty {m : Nat → FuncId} {g : G} {v : Value} {e : Nat} {xs : List V} {c : Cap} (h : Rep m g v (.l e xs c)) : c = .nil → xs = [] := by
  rintro rfl
  cases h with
  | lnil => rfl
  | lz => rfl
  | l _ _ _ _ _ _ _ _ _ _ _ _ _ _ hcap => exact hcap.elim

theorem wrap64 {x : Int} (h0 : -9223372036854775808 ≤ x) (h1 : x < 9223372036854775808) : IntKind.i64.wrap x = x := by
  simp only [IntKind.wrap, IntKind.bits, IntKind.signed]
  simp
  split <;> omega

/-! Operations at known values. -/
section
variable (σ : St) (K : V → St → Prop)
@[simp] theorem optP_some (v : V) : optP (some v) σ K = K v σ := rfl
@[simp] theorem optP_none : optP none σ K = False := rfl
@[simp] theorem optP_ite (c : Prop) [Decidable c] (x : Option V) : optP (if c then x else none) σ K ↔ c ∧ optP x σ K := by
  split <;> simp_all
@[simp] theorem optW_some (v : V) (s : St) : optW (some (v, s)) K = K v s := rfl
@[simp] theorem optW_none : optW none K = False := rfl
@[simp] theorem optW_ite (c : Prop) [Decidable c] (x : Option (V × St)) : optW (if c then x else none) K ↔ c ∧ optW x K := by
  split <;> simp_all
@[simp] theorem splitP_b (t : Bool) (p q : Prop) : splitP (.b t) p q = ((t = true → p) ∧ (t = false → q)) := rfl
@[simp] theorem nilV_p (l o : Nat) : nilV (.p l o) = some (.p l o) := rfl
@[simp] theorem nilV_ep (x : V) : nilV (.ep x) = some (.ep x) := rfl
@[simp] theorem nilV_f (a : Nat) (b c : List V) : nilV (.f a b c) = some (.f a b c) := rfl
@[simp] theorem faV_p (l o off sz : Nat) (ag : Bool) : faV (.p l o) off sz ag = some (.p l (o + off)) := rfl
@[simp] theorem faV_ep (cs : List V) (off sz : Nat) (ag : Bool) : faV (.ep (.agg cs)) off sz ag = (partV cs off sz ag).map .ep := rfl
theorem ldV_p {l : Nat} {cs : List V} (h : cellsOf σ l = some cs) (off sz : Nat) (ag : Bool) : ldV (.p l off) sz ag σ = partV cs off sz ag := by simp [ldV, h]
@[simp] theorem ldV_ep (x : V) (sz : Nat) (ag : Bool) : ldV (.ep x) sz ag σ = heldV x sz ag := rfl
@[simp] theorem heldV_agg (cs : List V) (sz : Nat) : heldV (.agg cs) sz true = if cs.length = sz then some (.agg cs) else none := rfl
@[simp] theorem heldV_n (k : IntKind) (x : Int) (sz : Nat) : heldV (.n k x) sz false = some (.n k x) := rfl
@[simp] theorem heldV_b (x : Bool) (sz : Nat) : heldV (.b x) sz false = some (.b x) := rfl
@[simp] theorem heldV_l (e : Nat) (xs : List V) (c : Cap) (sz : Nat) : heldV (.l e xs c) sz false = some (.l e xs c) := rfl
@[simp] theorem heldV_p (l o sz : Nat) : heldV (.p l o) sz false = some (.p l o) := rfl
@[simp] theorem cells_agg (xs : List V) : (V.agg xs).cells? = some xs := rfl
@[simp] theorem cells_n (k : IntKind) (x : Int) : (V.n k x).cells? = some [.n k x] := rfl
@[simp] theorem cells_b (x : Bool) : (V.b x).cells? = some [.b x] := rfl
@[simp] theorem cells_l (e : Nat) (xs : List V) (c : Cap) : (V.l e xs c).cells? = some [.l e xs c] := rfl
@[simp] theorem cells_p (l o : Nat) : (V.p l o).cells? = some [.p l o] := rfl
@[simp] theorem cells_s (x : ByteArray) : (V.s x).cells? = some [.s x] := rfl
@[simp] theorem cells_nilp : V.nilp.cells? = some [.nilp] := rfl
@[simp] theorem cells_f (a : Nat) (b c : List V) : (V.f a b c).cells? = some [.f a b c] := rfl
theorem storeV_p {l : Nat} {cs vs : List V} {x : V} (h : cellsOf σ l = some cs) (hx : x.cells? = some vs) (off sz : Nat) :
    storeV (.p l off) x sz σ = if vs.length = sz ∧ off + sz ≤ cs.length then some (.u, σ.set l (.obj (splice cs off vs))) else none := by simp [storeV, h, hx]
@[simp] theorem boxV_agg (cs : List V) : boxV (.agg cs) σ = some (.p σ.length 0, σ ++ [.obj cs]) := rfl
@[simp] theorem boxV_n (k : IntKind) (x : Int) : boxV (.n k x) σ = some (.p σ.length 0, σ ++ [.obj [.n k x]]) := rfl
@[simp] theorem boxV_p (l o : Nat) : boxV (.p l o) σ = some (.p σ.length 0, σ ++ [.obj [.p l o]]) := rfl
@[simp] theorem boxV_l (e : Nat) (xs : List V) (c : Cap) : boxV (.l e xs c) σ = some (.p σ.length 0, σ ++ [.obj [.l e xs c]]) := rfl
@[simp] theorem allocW_eq (z : List V) : allocW z σ = some (.p σ.length 0, σ ++ [.obj z]) := rfl
@[simp] theorem lenV_l (e : Nat) (xs : List V) (c : Cap) : lenV (.l e xs c) = some (.n .i64 xs.length) := rfl
@[simp] theorem extV_tup (vs : List V) (i : Nat) : extV (.tup vs) i = vs[i]? := rfl
@[simp] theorem fldV_agg (cs : List V) (off sz : Nat) (ag : Bool) : fldV (.agg cs) off sz ag = partV cs off sz ag := rfl
@[simp] theorem unV_not (t : Bool) : unV .not (.b t) = some (.b (!t)) := rfl
@[simp] theorem iasV_l (e : Nat) (xs : List V) (c : Cap) (k : IntKind) (i : Int) : iasV (.l e xs c) (.n k i) e = if 0 ≤ i ∧ i < xs.length then some (.ep (xs.getD i.toNat .u)) else none := by simp [iasV]
@[simp] theorem pickV_b (t : Bool) (a b : V) : pickV (.b t) a b = some (if t then a else b) := rfl
@[simp] theorem add_i64 (a b : Int) : binV .num .add (.n .i64 a) (.n .i64 b) = some (.n .i64 (IntKind.i64.wrap (a + b))) := rfl
@[simp] theorem sub_i64 (a b : Int) : binV .num .sub (.n .i64 a) (.n .i64 b) = some (.n .i64 (IntKind.i64.wrap (a - b))) := rfl
@[simp] theorem lss_i64 (a b : Int) : binV .num .lss (.n .i64 a) (.n .i64 b) = some (.b (decide (a < b))) := rfl
@[simp] theorem leq_i64 (a b : Int) : binV .num .leq (.n .i64 a) (.n .i64 b) = some (.b (decide (a ≤ b))) := rfl
@[simp] theorem gtr_i64 (a b : Int) : binV .num .gtr (.n .i64 a) (.n .i64 b) = some (.b (decide (b < a))) := rfl
@[simp] theorem geq_i64 (a b : Int) : binV .num .geq (.n .i64 a) (.n .i64 b) = some (.b (decide (b ≤ a))) := rfl
@[simp] theorem eql_i64 (a b : Int) : binV .num .eql (.n .i64 a) (.n .i64 b) = some (.b (decide (a = b))) := rfl
@[simp] theorem neq_i64 (a b : Int) : binV .num .neq (.n .i64 a) (.n .i64 b) = some (.b (!decide (a = b))) := rfl
@[simp] theorem mksV_one (e : Nat) (x : V) (cs : List V) (hx : x.cells? = some cs) (hl : cs.length = e) (he : 0 < e) : mksV e [x] = some (.l e [x] .full) := by simp [mksV, hx, hl, he]
@[simp] theorem mksV_nil (e : Nat) (he : 0 < e) : mksV e [] = some (.l e [] .full) := by simp [mksV, he]
@[simp] theorem bool_refl (x : V) : (x = x) = True := by simp
end

/-- One element more, behind a slice whose room is known to be there. -/
theorem app_new {σ0 σ : St} {e bytes : Nat} {xs ys : List V} {c c2 : Cap} (hc : NewRoom σ0 σ c) (he : 0 < e) (hb : (xs.length + ys.length) * bytes ≤ 140737488355328) (hl : xs.length + ys.length ≤ 140737488355328) (h0 : Ext σ0 σ) :
    ∃ c' σ', appV (.l e xs c) (.l e ys c2) e bytes σ = some (.l e (xs ++ ys) c', σ') ∧ NewRoom σ0 σ' c' ∧ Ext σ0 σ' ∧ σ.length ≤ σ'.length ∧ (∀ l cs, cellsOf σ l = some cs → cellsOf σ' l = some cs) ∧ ∀ l, σ[l]? = some .room → c ≠ .tok l → σ'[l]? = some .room := by
  by_cases hy : ys = []
  · subst hy
    refine ⟨c, σ, ?_, hc, h0, Nat.le_refl _, fun _ _ h => h, fun _ h _ => h⟩
    simp only [List.length_nil, Nat.add_zero] at hb hl
    simp [appV, he, hb, hl]
  · have hemp : ys.isEmpty = false := by cases ys <;> simp_all
    have hlt : ∀ l (x : Ob), σ[l]? = some x → l < σ.length := fun l x h => (List.getElem?_eq_some_iff.1 h).1
    rcases hc with rfl | rfl | ⟨t, rfl, ht, hr⟩
    · refine ⟨.tok σ.length, σ ++ [.room], by simp [appV, he, hb, hl, hemp], .inr (.inr ⟨_, rfl, h0.1, by simp⟩), h0.push _, by simp, fun l cs h => ?_, fun l h _ => ?_⟩
      · rw [cellsOf_app (cellsOf_lt h)]; exact h
      · rw [List.getElem?_append_left (hlt _ _ h)]; exact h
    · refine ⟨.tok σ.length, σ ++ [.room], by simp [appV, he, hb, hl, hemp], .inr (.inr ⟨_, rfl, h0.1, by simp⟩), h0.push _, by simp, fun l cs h => ?_, fun l h _ => ?_⟩
      · rw [cellsOf_app (cellsOf_lt h)]; exact h
      · rw [List.getElem?_append_left (hlt _ _ h)]; exact h
    · refine ⟨.tok σ.length, σ.set t .dead ++ [.room], by simp [appV, he, hb, hl, hemp, hr], .inr (.inr ⟨_, rfl, h0.1, by rw [List.getElem?_append_right (by simp)]; simp⟩), (h0.set ht _).push _, by simp, fun l cs h => ?_, fun l h hne => ?_⟩
      · rw [cellsOf_app (by simpa using cellsOf_lt h), cellsOf_set_ne (by rintro rfl; rw [cellsOf_eq, hr] at h; cases h)]; exact h
      · rw [List.getElem?_append_left (by simpa using hlt _ _ h), List.getElem?_set_ne (by rintro rfl; exact hne rfl)]; exact h

end Go.Ab
/-
  Steps of the ghost alone: what is known of values and states may be forgotten; an object may be declared never to change again.
-/
namespace Go.Ab

variable {E : Env}

/-- Each value that stands for x stands for y. -/
def FgV (m : Nat → FuncId) (x y : V) : Prop := ∀ g v, Rep m g v x → Rep m g v y

theorem FgV.refl {m : Nat → FuncId} (x : V) : FgV m x x := fun _ _ h => h
theorem FgV.trans {m : Nat → FuncId} {x y z : V} (h : FgV m x y) (k : FgV m y z) : FgV m x z := fun g v r => k g v (h g v r)
theorem FgV.u {m : Nat → FuncId} (x : V) : FgV m x .u := fun _ v _ => .u v
theorem FgV.may {m : Nat → FuncId} (e : Nat) (xs : List V) (c : Cap) : FgV m (.l e xs c) (.l e xs .may) := by
  intro g v h
  cases h with
  | lnil => exact .lmay _
  | lmay => exact .lmay _
  | lz a e c hq => exact .lz _ _ _ (by simp)
  | l bl off n c e xs cp vs hn hc hu h hr hp hcap => exact .l _ _ _ _ _ _ _ vs hn hc hu h hr hp trivial

/-- Rows, place by place. -/
def FgP (m : Nat → FuncId) (xs ys : List V) : Prop := ys.length = xs.length ∧ ∀ j, FgV m (xs.getD j .u) (ys.getD j .u)

theorem FgP.refl {m : Nat → FuncId} (xs : List V) : FgP m xs xs := ⟨rfl, fun _ => .refl _⟩
theorem FgP.nil {m : Nat → FuncId} : FgP m [] [] := .refl _
theorem FgP.cons {m : Nat → FuncId} {x y : V} {xs ys : List V} (h : FgV m x y) (k : FgP m xs ys) : FgP m (x :: xs) (y :: ys) :=
  ⟨by simp [k.1], fun j => by cases j <;> simp <;> first | exact h | exact k.2 _⟩
theorem FgP.app {m : Nat → FuncId} {xs ys xs' ys' : List V} (h : FgP m xs ys) (k : FgP m xs' ys') : FgP m (xs ++ xs') (ys ++ ys') := by
  refine ⟨by simp [h.1, k.1], fun j => ?_⟩
  by_cases hj : j < xs.length
  · rw [getD_app_left _ _ _ _ hj, getD_app_left _ _ _ _ (by rw [h.1]; exact hj)]; exact h.2 j
  · rw [getD_app_right _ _ _ _ (by omega), getD_app_right _ _ _ _ (by rw [h.1]; omega), h.1]; exact k.2 _
theorem FgP.trans {m : Nat → FuncId} {x y z : List V} (h : FgP m x y) (k : FgP m y z) : FgP m x z := ⟨k.1.trans h.1, fun j => (h.2 j).trans (k.2 j)⟩

/-- Elements, place by place. -/
inductive FgE (m : Nat → FuncId) : List V → List V → Prop where
  | nil : FgE m [] []
  | cons {x y : V} {xs ys : List V} (h : FgP m x.cells y.cells) (k : FgE m xs ys) : FgE m (x :: xs) (y :: ys)

theorem FgE.refl {m : Nat → FuncId} : ∀ xs, FgE m xs xs
  | [] => .nil
  | _ :: xs => .cons (.refl _) (FgE.refl xs)
theorem FgE.map {m : Nat → FuncId} {α : Type} {f g : α → V} (h : ∀ x, FgP m (f x).cells (g x).cells) : ∀ xs : List α, FgE m (xs.map f) (xs.map g)
  | [] => .nil
  | x :: xs => .cons (h x) (FgE.map h xs)
theorem FgE.app {m : Nat → FuncId} : ∀ {xs ys xs' ys' : List V}, FgE m xs ys → FgE m xs' ys' → FgE m (xs ++ xs') (ys ++ ys')
  | _, _, _, _, .nil, k => k
  | _, _, _, _, .cons h r, k => .cons h (FgE.app r k)

theorem FgP.flat {m : Nat → FuncId} : ∀ {xs ys : List V}, FgE m xs ys → FgP m (flat xs) (flat ys)
  | _, _, .nil => .nil
  | _, _, .cons h k => by simpa [Go.Ab.flat] using FgP.app h (FgP.flat k)

theorem FgV.l {m : Nat → FuncId} {e : Nat} {xs ys : List V} {c : Cap} (h : FgE m xs ys) : FgV m (.l e xs c) (.l e ys c) := by
  have hlen : ∀ {xs ys : List V}, FgE m xs ys → ys.length = xs.length := by
    intro xs ys h; induction h <;> simp_all
  have hcl : ∀ {xs ys : List V}, FgE m xs ys → (∀ x ∈ xs, x.cells.length = e) → ∀ y ∈ ys, y.cells.length = e := by
    intro xs ys h
    induction h with
    | nil => intro _ y hy; cases hy
    | cons h k ih =>
      intro hx y hy
      rcases List.mem_cons.1 hy with rfl | hy
      · rw [h.1]; exact hx _ (by simp)
      · exact ih (fun x hx' => hx x (by simp [hx'])) y hy
  intro g v hv
  cases hv with
  | lnil => cases h; exact .lnil _
  | lmay => cases h; exact .lmay _
  | lz a e c hq => cases h; exact .lz _ _ _ hq
  | l bl off n c e xs cp vs hn hc hu hm hr hp hcap =>
    refine .l _ _ _ _ _ _ _ vs ((hlen h).trans hn) hc (hcl h hu) hm (fun j hj => ?_) hp hcap
    exact (FgP.flat h).2 j g _ (hr j hj)

theorem FgV.l' {m : Nat → FuncId} {e : Nat} {xs ys : List V} (c : Cap) (h : FgE m xs ys) : FgV m (.l e xs c) (.l e ys .may) := (FgV.l h).trans (.may _ _ _)

theorem FgV.agg {m : Nat → FuncId} {xs ys : List V} (h : FgP m xs ys) : FgV m (.agg xs) (.agg ys) := by
  intro g v hv
  cases hv with
  | agg xs vs hs hr hp => exact .agg _ _ (hs.trans h.1.symm) (fun j hj => h.2 j g _ (hr j (by rw [← h.1]; exact hj))) (fun j hj => hp j (by rw [← h.1]; exact hj))

theorem FgV.tup {m : Nat → FuncId} {xs ys : List V} (h : FgP m xs ys) : FgV m (.tup xs) (.tup ys) := by
  intro g v hv
  cases hv with
  | tup xs vs hs hr => exact .tup _ _ (hs.trans h.1.symm) (fun j hj => h.2 j g _ (hr j (by rw [← h.1]; exact hj)))

/-- A step of the ghost: from what is known of a state and of values to something else that is known. -/
def Gh (m : Nat → FuncId) (xs : List V) (σ : St) (ys : List V) (σ' : St) : Prop :=
  ∀ g w vals, Rel m g σ w → RepA m g vals xs → ∃ g', G.le g g' ∧ Rel m g' σ' w ∧ RepA m g' vals ys

theorem Gh.refl {m : Nat → FuncId} (xs : List V) (σ : St) : Gh m xs σ xs σ := fun g _ _ hR hA => ⟨g, .refl g, hR, hA⟩
theorem Gh.trans {m : Nat → FuncId} {xs ys zs : List V} {a b c : St} (h : Gh m xs a ys b) (k : Gh m ys b zs c) : Gh m xs a zs c := fun g w vals hR hA => by
  obtain ⟨g1, l1, r1, a1⟩ := h g w vals hR hA
  obtain ⟨g2, l2, r2, a2⟩ := k g1 w vals r1 a1
  exact ⟨g2, l1.trans l2, r2, a2⟩
theorem Gh.fg {m : Nat → FuncId} {xs ys : List V} (h : FgP m xs ys) (σ : St) : Gh m xs σ ys σ := fun g w vals hR hA =>
  ⟨g, .refl g, hR, hA.1.trans h.1.symm, fun j hj => h.2 j g _ (hA.2 j (by rw [← h.1]; exact hj))⟩

/-- What an object holds is known less well. -/
theorem Gh.obj {m : Nat → FuncId} {σ : St} {l : Nat} {cs cs' : List V} (hl : cellsOf σ l = some cs) (h : FgP m cs cs') (xs : List V) : Gh m xs σ xs (σ.set l (.obj cs')) := by
  intro g w vals hR hA
  refine ⟨g, .refl g, ?_, hA⟩
  have hl' := cellsOf_obj hl
  have hlt := cellsOf_lt hl
  have hhome : ∀ k b, home g (σ.set l (.obj cs')) k = some b → home g σ k = some b := by
    intro k b hk
    by_cases hkl : l = k
    · subst hkl
      simp only [home, List.getElem?_set_self hlt] at hk
      simp only [home, hl']; exact hk
    · simp only [home, List.getElem?_set_ne hkl] at hk
      simp only [home]; exact hk
  refine ⟨hR.below, hR.imm, fun k ob hk => ?_, fun a b c h1 h2 => hR.inj a b c (hhome _ _ h1) (hhome _ _ h2), fun k hk => hR.fresh k (by simpa using hk)⟩
  by_cases hkl : l = k
  · subst hkl
    rw [List.getElem?_set_self hlt] at hk
    cases hk
    obtain ⟨b, vals, T, h1, h2, h3, h4, h5⟩ := hR.objs l _ hl'
    exact ⟨b, vals, T, h1, h2, h3, ⟨⟨h4.1.1.trans h.1.symm, fun j hj => h.2 j g _ (h4.1.2 j (by rw [← h.1]; exact hj))⟩, fun j hj => h4.2 j (by rw [← h.1]; exact hj)⟩, h5⟩
  · rw [List.getElem?_set_ne hkl] at hk; exact hR.objs k ob hk

theorem ACalls.pre {id : Nat} {args args' : List V} {σ σ' : St} {K : V → St → Prop} (h : Gh E.m args σ args' σ') (k : ACalls E id args' σ' K) : ACalls E id args σ K :=
  ⟨k.1, fun g w vals hR hA => by
    obtain ⟨g1, l1, r1, a1⟩ := h g w vals hR hA
    exact (k.2 g1 w vals r1 a1).mono fun _ _ ⟨v, x, g', σ', e, h1, h2, h3, h4⟩ => ⟨v, x, g', σ', e, l1.trans h1, h2, h3, h4⟩⟩

theorem ACalls.post {id : Nat} {args : List V} {σ : St} {K K' : V → St → Prop} (k : ACalls E id args σ K) (h : ∀ v s, K v s → ∃ v' s', Gh E.m [v] s [v'] s' ∧ K' v' s') : ACalls E id args σ K' :=
  ⟨k.1, fun g w vals hR hA => (k.2 g w vals hR hA).mono fun _ _ ⟨v, x, g', σ', e, h1, h2, h3, h4⟩ => by
    obtain ⟨x', s', hg, hk⟩ := h x σ' h4
    obtain ⟨g2, l2, r2, a2⟩ := hg g' _ #[v] h2 ⟨rfl, fun j hj => by
      have : j = 0 := by simpa using hj
      subst this; exact h3⟩
    exact ⟨v, x', g2, s', e, h1.trans l2, r2, by have := a2.2 0; simpa using this, hk⟩⟩

/-- A slice of which nothing is known is nil, or it is not. -/
theorem ACalls.byMay {id : Nat} {e : Nat} {xs : List V} {rest : List V} {σ : St} {K : V → St → Prop} (h1 : ACalls E id (.l e xs .any :: rest) σ K) (h2 : xs = [] → ACalls E id (.l e [] .nil :: rest) σ K) : ACalls E id (.l e xs .may :: rest) σ K :=
  ⟨h1.1, fun g w vals hR hA => by
    have h0 := hA.2 0 (by simp)
    simp only [List.getD_cons_zero] at h0
    have key : ∀ x, Rep E.m g (vals.getD 0 undef) x → RepA E.m g vals (x :: rest) := fun x hx => ⟨hA.1, fun j hj => by
      cases j with
      | zero => exact hx
      | succ j => exact hA.2 (j + 1) hj⟩
    generalize hv : vals.getD 0 undef = v0 at h0 key
    cases h0 with
    | lmay => exact (h2 rfl).2 g w vals hR (key _ (.lnil _))
    | lz a e c hq => exact h1.2 g w vals hR (key _ (.lz _ _ _ (by simp)))
    | l bl off n c e xs cp vs hn hc hu hm hr hp hcap => exact h1.2 g w vals hR (key _ (.l _ _ _ _ _ _ _ vs hn hc hu hm hr hp trivial))⟩

end Go.Ab
/-
  What a function made and left behind, and what nobody points at, may be forgotten: its state ends where it began.
-/
namespace Go.Ab

variable {E : Env}

/-- The ghost, with nothing known of objects from n on. -/
def G.cut (g : G) (n : Nat) : G := { g with blk := fun l => if l < n then g.blk l else none, tok := fun l => if l < n then g.tok l else none }

/-- The value points at none of the objects from n on. -/
def BelV (m : Nat → FuncId) (n : Nat) (x : V) : Prop := ∀ g v, Rep m g v x → Rep m (g.cut n) v x

theorem BelV.u {m : Nat → FuncId} {n : Nat} : BelV m n .u := fun _ v _ => .u v
theorem BelV.b {m : Nat → FuncId} {n : Nat} (x : Bool) : BelV m n (.b x) := fun _ _ h => by cases h; exact .b _
theorem BelV.n {m : Nat → FuncId} {n : Nat} (k : IntKind) (x : Int) : BelV m n (.n k x) := fun _ _ h => by cases h; exact .n _ _
theorem BelV.s {m : Nat → FuncId} {n : Nat} (x : ByteArray) : BelV m n (.s x) := fun _ _ h => by cases h; exact .s _
theorem BelV.nilp {m : Nat → FuncId} {n : Nat} : BelV m n .nilp := fun _ _ h => by cases h; exact .nilp
theorem BelV.nilf {m : Nat → FuncId} {n : Nat} : BelV m n .nilf := fun _ _ h => by cases h; exact .nilf
theorem BelV.p {m : Nat → FuncId} {n l : Nat} (off : Nat) (hl : l < n) : BelV m n (.p l off) := fun _ _ h => by
  cases h with
  | p l off bl h => exact .p _ _ _ (by simp [G.cut, hl, h])

theorem BelV.ms {m : Nat → FuncId} {n l : Nat} (off k c e : Nat) (hl : l < n) : BelV m n (.ms l off k c e) := fun _ _ h => by
  cases h with
  | ms l off k c e bl h hc => exact .ms _ _ _ _ _ _ (by simp [G.cut, hl, h]) hc

/-- All of a row. -/
def BelL (m : Nat → FuncId) (n : Nat) (xs : List V) : Prop := ∀ j, BelV m n (xs.getD j .u)
theorem BelL.nil {m : Nat → FuncId} {n : Nat} : BelL m n [] := fun _ => .u
theorem BelL.cons {m : Nat → FuncId} {n : Nat} {x : V} {xs : List V} (h : BelV m n x) (k : BelL m n xs) : BelL m n (x :: xs) := fun j => by
  cases j with
  | zero => exact h
  | succ j => exact k j
theorem BelL.app {m : Nat → FuncId} {n : Nat} {xs ys : List V} (h : BelL m n xs) (k : BelL m n ys) : BelL m n (xs ++ ys) := fun j => by
  by_cases hj : j < xs.length
  · rw [getD_app_left _ _ _ _ hj]; exact h j
  · rw [getD_app_right _ _ _ _ (by omega)]; exact k _
theorem BelL.of {m : Nat → FuncId} {n : Nat} {xs : List V} (h : ∀ x ∈ xs, BelV m n x) : BelL m n xs := fun j => by
  by_cases hj : j < xs.length
  · exact h _ (by simp [List.getD, hj])
  · rw [show xs.getD j .u = .u by simp [List.getD, List.getElem?_eq_none (Nat.le_of_not_lt hj)]]; exact .u
theorem BelL.flat {m : Nat → FuncId} {n : Nat} : ∀ {xs : List V}, (∀ x ∈ xs, BelL m n x.cells) → BelL m n (flat xs)
  | [], _ => .nil
  | x :: xs, h => by
    have : Go.Ab.flat (x :: xs) = x.cells ++ Go.Ab.flat xs := by simp [Go.Ab.flat]
    rw [this]; exact (h x (by simp)).app (BelL.flat fun y hy => h y (by simp [hy]))

/-- Of the room, nothing is said that lies behind. -/
def BelC (n : Nat) : Cap → Prop
  | .tok t => t < n
  | _ => True

theorem BelV.l {m : Nat → FuncId} {n e : Nat} {xs : List V} {cq : Cap} (h : BelL m n (Go.Ab.flat xs)) (hc : BelC n cq) : BelV m n (.l e xs cq) := fun g v hv => by
  cases hv with
  | lnil => exact .lnil _
  | lmay => exact .lmay _
  | lz a e c hq => exact .lz _ _ _ hq
  | l bl off k c e xs cp vs hn hc' hu hm hr hp hcap =>
    refine .l _ _ _ _ _ _ _ vs hn hc' hu hm (fun j hj => h j g _ (hr j hj)) hp ?_
    cases cq with
    | tok t => have ht : t < n := hc; simpa [CapOk, G.cut, ht] using hcap
    | _ => exact hcap
theorem BelV.agg {m : Nat → FuncId} {n : Nat} {xs : List V} (h : BelL m n xs) : BelV m n (.agg xs) := fun g v hv => by
  cases hv with
  | agg xs vs hs hr hp => exact .agg _ _ hs (fun j hj => h j g _ (hr j hj)) hp
theorem BelV.tup {m : Nat → FuncId} {n : Nat} {xs : List V} (h : BelL m n xs) : BelV m n (.tup xs) := fun g v hv => by
  cases hv with
  | tup xs vs hs hr => exact .tup _ _ hs (fun j hj => h j g _ (hr j hj))
theorem BelV.f {m : Nat → FuncId} {n fn : Nat} {xs ys : List V} (h : BelL m n xs) (k : BelL m n ys) : BelV m n (.f fn xs ys) := fun g v hv => by
  cases hv with
  | f fn xs ys vf vc h1 h2 hf hc => exact .f _ _ _ _ _ h1 h2 (fun j hj => h j g _ (hf j hj)) (fun j hj => k j g _ (hc j hj))
theorem BelV.ep {m : Nat → FuncId} {n : Nat} {x : V} (h : BelL m n x.cells) : BelV m n (.ep x) := fun g v hv => by
  cases hv with
  | ep bl off x vs hm hr hp => exact .ep _ _ _ vs hm (fun j hj => h j g _ (hr j hj)) hp

/-- What stands for something where nothing lies behind, points at nothing behind. -/
theorem BelV.of_rep {m : Nat → FuncId} {n : Nat} {g : G} {v : Value} {x : V} (h : Rep m g v x) (hf : ∀ l, n ≤ l → g.blk l = none ∧ g.tok l = none) : BelV m n x := by
  have row : ∀ {k : Nat} {xs : List V}, xs.length = k → (∀ j, j < k → BelV m n (xs.getD j .u)) → BelL m n xs := by
    intro k xs hk h j
    by_cases hj : j < xs.length
    · exact h j (by omega)
    · rw [show xs.getD j .u = .u by simp [List.getD, List.getElem?_eq_none (Nat.le_of_not_lt hj)]]; exact .u
  induction h with
  | u v => exact .u
  | b x => exact .b x
  | n k x => exact .n k x
  | s x => exact .s x
  | nilp => exact .nilp
  | p l off bl h => exact .p off (Nat.lt_of_not_le fun hn => by rw [(hf l hn).1] at h; cases h)
  | ep bl off x vs h hr hp ih => exact .ep (row rfl ih)
  | lnil e => exact .l .nil trivial
  | lmay e => exact .l .nil trivial
  | lz a e c hq => exact .l .nil (by rcases hq with rfl | rfl | rfl <;> trivial)
  | l bl off k c e xs cp vs hn hc hu h hr hp hcap ih =>
    refine .l (row (by rw [flat_length hu, hn]) ih) ?_
    cases cp with
    | tok t =>
      obtain ⟨⟨p, hp⟩, -⟩ := hcap
      exact Nat.lt_of_not_le fun hn => by rw [(hf t hn).2] at hp; cases hp
    | _ => trivial
  | f fn first caps vf vc h1 h2 hf' hc ih1 ih2 => exact .f (row rfl ih1) (row rfl ih2)
  | nilf => exact .nilf
  | ms l off k c e bl h hc => exact .ms off k c e (Nat.lt_of_not_le fun hn => by rw [(hf l hn).1] at h; cases h)
  | agg xs vs h hr hp ih => exact .agg (row rfl ih)
  | tup xs vs h hr ih => exact .tup (row rfl ih)

/-- The exit of a function: of the objects that were there, each is as it was, or points at none that came later; what came later is forgotten. -/
theorem ACalls.trunc {id : Nat} {args : List V} {σ : St} {K : V → St → Prop} (k : ACalls E id args σ fun v s => ∃ v' σ1 s', s = σ1 ++ s' ∧ σ1.length = σ.length ∧
      (∀ l, l < σ.length → σ1[l]? = σ[l]? ∨ (∃ cs, σ1[l]? = some (.obj cs) ∧ BelL E.m σ.length cs) ∨ σ1[l]? = some .dead) ∧ FgV E.m v v' ∧ BelV E.m σ.length v' ∧ K v' σ1) : ACalls E id args σ K :=
  ⟨k.1, fun g w vals hR hA => (k.2 g w vals hR hA).mono fun _ w' ⟨v, x, g', s, e, h1, h2, h3, v', σ1, s', hs, hlen, hold, hfg, hbel, hk⟩ => by
    subst hs
    have hget : ∀ l, l < σ.length → (σ1 ++ s')[l]? = σ1[l]? := fun l hl => List.getElem?_append_left (by omega)
    have hle : G.le g (g'.cut σ.length) := by
      refine ⟨h1.base, h1.imm, fun l b hb => ?_, fun l b hb => ?_⟩
      · by_cases hl : l < σ.length
        · simp [G.cut, hl, h1.blk _ _ hb]
        · rw [(hR.fresh l (by omega)).1] at hb; cases hb
      · by_cases hl : l < σ.length
        · simp [G.cut, hl, h1.tok _ _ hb]
        · rw [(hR.fresh l (by omega)).2] at hb; cases hb
    have hhome : ∀ l b, home (g'.cut σ.length) σ1 l = some b → home g' (σ1 ++ s') l = some b := by
      intro l b hb
      by_cases hl : l < σ.length
      · simp only [home, hget l hl] at hb ⊢
        simpa [G.cut, hl] using hb
      · simp [home, List.getElem?_eq_none (show σ1.length ≤ l by omega)] at hb
    refine ⟨v, v', g'.cut σ.length, σ1, e, hle, ⟨h2.below, h2.imm, fun l ob hob => ?_, fun a b c ha hb => h2.inj a b c (hhome _ _ ha) (hhome _ _ hb), fun l hl => ?_⟩, hbel _ _ (hfg _ _ h3), hk⟩
    · have hl : l < σ.length := by rw [← hlen]; exact (List.getElem?_eq_some_iff.1 hob).1
      have hob' : (σ1 ++ s')[l]? = some ob := by rw [hget l hl]; exact hob
      have hO := h2.objs l ob hob'
      cases ob with
      | dead => trivial
      | room =>
        obtain ⟨b, fr, sz, vs, T, a1, a2⟩ := hO
        exact ⟨b, fr, sz, vs, T, by simpa [G.cut, hl] using a1, a2⟩
      | obj cells =>
        obtain ⟨b, vs, T, a1, a2, a3, a4, a5⟩ := hO
        have hbel : BelL E.m σ.length cells := by
          rcases hold l hl with h | ⟨cs, h, hb⟩ | h
          · rw [hob] at h
            obtain ⟨b0, vs0, T0, c1, c2, c3, c4, c5⟩ := hR.objs l _ h.symm
            intro j
            by_cases hj : j < cells.length
            · exact .of_rep (c4.1.2 j hj) hR.fresh
            · rw [show cells.getD j .u = .u by simp [List.getD, List.getElem?_eq_none (Nat.le_of_not_lt hj)]]; exact .u
          · rw [hob] at h; cases h; exact hb
          · rw [hob] at h; cases h
        exact ⟨b, vs, T, by simpa [G.cut, hl] using a1, a2, a3, ⟨⟨a4.1.1, fun j hj => hbel j _ _ (a4.1.2 j hj)⟩, a4.2⟩, a5⟩
    · have : ¬ l < σ.length := by omega
      simp [G.cut, this]⟩

/-- The exit of a function that changed no object that was there: v is known as v', and K holds of it where the function began. -/
def Same (E : Env) (σ : St) (K : V → St → Prop) (v : V) (s : St) : Prop := ∃ v' s', s = σ ++ s' ∧ FgV E.m v v' ∧ BelV E.m σ.length v' ∧ K v' σ

theorem Same.at {σ : St} {K : V → St → Prop} {v : V} (v' : V) (hf : FgV E.m v v') (hb : BelV E.m σ.length v') (k : K v' σ) : Same E σ K v σ := ⟨v', [], by simp, hf, hb, k⟩
theorem Same.app {σ : St} {K : V → St → Prop} {v : V} {xs : St} (v' : V) (hf : FgV E.m v v') (hb : BelV E.m σ.length v') (k : K v' σ) : Same E σ K v (σ ++ xs) := ⟨v', xs, rfl, hf, hb, k⟩

theorem ACalls.same {id : Nat} {args : List V} {σ : St} {K : V → St → Prop} (k : ACalls E id args σ (Same E σ K)) : ACalls E id args σ K :=
  .trunc (k.mono fun _ _ ⟨v', s', h, h1, h2, h3⟩ => ⟨v', σ, s', h, rfl, fun _ _ => .inl rfl, h1, h2, h3⟩)

/-- The exit of a function that changed one object alone. -/
def Sets (E : Env) (σ : St) (K : V → St → Prop) (v : V) (s : St) : Prop :=
  ∃ v' l cs s', s = σ.set l (.obj cs) ++ s' ∧ BelL E.m σ.length cs ∧ FgV E.m v v' ∧ BelV E.m σ.length v' ∧ K v' (σ.set l (.obj cs))

theorem Sets.at {σ : St} {K : V → St → Prop} {v : V} {l : Nat} {cs : List V} (v' : V) (hc : BelL E.m σ.length cs) (hf : FgV E.m v v') (hb : BelV E.m σ.length v') (k : K v' (σ.set l (.obj cs))) : Sets E σ K v (σ.set l (.obj cs)) :=
  ⟨v', l, cs, [], by simp, hc, hf, hb, k⟩
theorem Sets.app {σ : St} {K : V → St → Prop} {v : V} {l : Nat} {cs : List V} {xs : St} (v' : V) (hc : BelL E.m σ.length cs) (hf : FgV E.m v v') (hb : BelV E.m σ.length v') (k : K v' (σ.set l (.obj cs))) : Sets E σ K v (σ.set l (.obj cs) ++ xs) :=
  ⟨v', l, cs, xs, rfl, hc, hf, hb, k⟩

theorem ACalls.sets {id : Nat} {args : List V} {σ : St} {K : V → St → Prop} (k : ACalls E id args σ (Sets E σ K)) : ACalls E id args σ K :=
  .trunc (k.mono fun _ _ ⟨v', l, cs, s', h, hb, h1, h2, h3⟩ => ⟨v', σ.set l (.obj cs), s', h, by simp, fun k hk => by
    by_cases hlk : l = k
    · subst hlk; exact .inr (.inl ⟨cs, by rw [List.getElem?_set_self hk], hb⟩)
    · exact .inl (by rw [List.getElem?_set_ne hlk]), h1, h2, h3⟩)

end Go.Ab
/-
  States that grew: where the new objects are, what they hold; reading and writing on either side.
-/
namespace Go.Ab

variable {E : Env}

theorem cellsOf_left {σ : St} {l : Nat} {cs : List V} (h : cellsOf σ l = some cs) (xs : St) : cellsOf (σ ++ xs) l = some cs := by
  rw [cellsOf_app (cellsOf_lt h)]; exact h
@[simp] theorem cellsOf_right (σ : St) (xs : St) (k : Nat) : cellsOf (σ ++ xs) (σ.length + k) = cellsOf xs k := by
  simp [cellsOf, List.getElem?_append_right]
@[simp] theorem cellsOf_right0 (σ : St) (xs : St) : cellsOf (σ ++ xs) σ.length = cellsOf xs 0 := by
  exact cellsOf_right σ xs 0
@[simp] theorem cellsOf_cons0 (cs : List V) (xs : St) : cellsOf (.obj cs :: xs) 0 = some cs := rfl
@[simp] theorem cellsOf_consS (x : Ob) (xs : St) (k : Nat) : cellsOf (x :: xs) (k + 1) = cellsOf xs k := by simp [cellsOf]
@[simp] theorem set_right (σ xs : St) (k : Nat) (o : Ob) : (σ ++ xs).set (σ.length + k) o = σ ++ xs.set k o := by
  rw [List.set_append_right _ _ (by omega)]; simp
@[simp] theorem set_right0 (σ xs : St) (o : Ob) : (σ ++ xs).set σ.length o = σ ++ xs.set 0 o := by
  exact set_right σ xs 0 o
theorem set_left {σ : St} {l : Nat} {cs : List V} (h : cellsOf σ l = some cs) (xs : St) (o : Ob) : (σ ++ xs).set l o = σ.set l o ++ xs := by
  rw [List.set_append_left _ _ (cellsOf_lt h)]
theorem len_set_add (σ : St) (l : Nat) (o : Ob) : (σ.set l o).length = σ.length := by simp

def ldC (off sz : Nat) (ag : Bool) : Option (List V) → Option V
  | some cs => partV cs off sz ag
  | none => none
def stC (σ : St) (l off sz : Nat) : Option (List V) → Option (List V) → Option (V × St)
  | some cs, some vs => if vs.length = sz ∧ off + sz ≤ cs.length then some (.u, σ.set l (.obj (splice cs off vs))) else none
  | _, _ => none
theorem ldV_at {σ : St} {l off sz : Nat} {ag : Bool} : ldV (.p l off) sz ag σ = ldC off sz ag (cellsOf σ l) := by
  have e : ldV (.p l off) sz ag σ = match cellsOf σ l with | some cs => partV cs off sz ag | none => none := rfl
  rw [e]; cases cellsOf σ l <;> rfl
theorem storeV_at {σ : St} {l off sz : Nat} {x : V} : storeV (.p l off) x sz σ = stC σ l off sz (cellsOf σ l) x.cells? := by
  cases hx : x.cells? with
  | none => unfold storeV; rw [hx]; cases cellsOf σ l <;> rfl
  | some vs =>
    cases hc : cellsOf σ l with
    | none => unfold storeV; simp [hx, hc]; rfl
    | some cs => rw [storeV_p σ hc hx]; rfl
@[simp] theorem ldC_some (off sz : Nat) (ag : Bool) (cs : List V) : ldC off sz ag (some cs) = partV cs off sz ag := rfl
@[simp] theorem stC_some (σ : St) (l off sz : Nat) (cs vs : List V) : stC σ l off sz (some cs) (some vs) = if vs.length = sz ∧ off + sz ≤ cs.length then some (.u, σ.set l (.obj (splice cs off vs))) else none := rfl
@[simp] theorem splice_nil (cs : List V) (off : Nat) : splice cs off [] = cs := rfl
@[simp] theorem splice_cons (cs : List V) (off : Nat) (v : V) (vs : List V) : splice cs off (v :: vs) = splice (cs.set off v) (off + 1) vs := rfl

theorem Ext.more {σ σ' : St} (h : Ext σ σ') : ∃ x, σ' = σ ++ x := by
  refine ⟨σ'.drop σ.length, ?_⟩
  apply List.ext_getElem?
  intro i
  by_cases hi : i < σ.length
  · rw [List.getElem?_append_left hi]; exact h.2 i hi
  · rw [List.getElem?_append_right (by omega), List.getElem?_drop]; congr 1; omega

/-- An append to a slice whose room is new since σ. -/
theorem app_at {σ s' : St} {e bytes : Nat} {xs ys : List V} {c c2 : Cap} {K : V → St → Prop} (hc : NewRoom σ (σ ++ s') c) (he : 0 < e) (hb : (xs.length + ys.length) * bytes ≤ 140737488355328) (hl : xs.length + ys.length ≤ 140737488355328)
    (k : ∀ c' s2, NewRoom σ (σ ++ s2) c' → (∀ l cs, cellsOf (σ ++ s') l = some cs → cellsOf (σ ++ s2) l = some cs) → K (.l e (xs ++ ys) c') (σ ++ s2)) : optW (appV (.l e xs c) (.l e ys c2) e bytes (σ ++ s')) K := by
  obtain ⟨c', σ', h1, h2, h3, -, h5, -⟩ := app_new (c2 := c2) hc he hb hl (.app _ _)
  obtain ⟨x, rfl⟩ := h3.more
  rw [h1]
  exact k c' x h2 h5
theorem NewRoom.more {σ0 σ xs : St} {c : Cap} (h : NewRoom σ0 σ c) : NewRoom σ0 (σ ++ xs) c := h.ext (.app _ _)

end Go.Ab

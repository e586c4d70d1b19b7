/-
  What a statement reads, as abstract values. No condition.
-/
import Derived.Test.YtoecohcpkicdaaaXC
import Derived.ProofKit
set_option linter.unusedVariables false
set_option linter.unusedSimpArgs false
set_option linter.unnecessarySimpa false
/-
  A statement's inputs as abstract values: what can be read of the world in which the call begins never changes. And the way back: what the call leaves.
-/
namespace Go.Ab
open Go.RowKit Go.ChangeShapes Go.WideShapes

variable {H : Type} {enc : TypeId × Value → H} {P : Program} {m : Nat → FuncId} {w : World}

/-- The ghost of the beginning: all that is there stays. -/
def G.first (w : World) : G := { base := w, imm := fun b o => w.cell? ⟨b, o, none⟩, blk := fun _ => none, tok := fun _ => none }

theorem Rel.first (m : Nat → FuncId) (w : World) : Rel m (G.first w) [] w :=
  ⟨.refl _ _, fun _ _ _ h => h, fun l ob h => by simp at h, fun l l' b h => by simp [home] at h, fun _ _ => ⟨rfl, rfl⟩⟩

/-- Whatever reads as of type t stands for some v a. -/
def Opens (enc : TypeId × Value → H) (P : Program) (w : World) (m : Nat → FuncId) (t : TypeId) {α : Type} (v : α → V) : Prop :=
  ∀ fuel cs x, DataW.trod enc P w 0 (fun _ => true) true fuel t cs = some x → ∃ a, RepC m (G.first w) cs.toArray (v a).cells

theorem RepC.one {g : G} {v : Value} {x : V} (h : Rep m g v x) (hv : v.oneCell' = true) : RepC m g [v].toArray [x] := by
  refine ⟨⟨rfl, fun j hj => ?_⟩, fun j hj => ?_⟩
  · have : j = 0 := by simpa using hj
    subst this; exact h
  · have : j = 0 := by simpa using hj
    subst this; exact hv

theorem Opens.int {t : TypeId} (ht : P.underlying t = some (.int .i64)) : Opens enc P w m t (fun x : { x : Int // -9223372036854775808 ≤ x ∧ x < 9223372036854775808 } => V.n .i64 x.1) := by
  intro fuel cs x h
  obtain ⟨n, rfl, -, hw⟩ := DataW.trod_int ht h
  simp only [Lit.wf, Bool.and_eq_true, decide_eq_true_eq] at hw
  have h1 : IntKind.i64.min = -9223372036854775808 := rfl
  have h2 : IntKind.i64.max = 9223372036854775807 := rfl
  rw [h1, h2] at hw
  exact ⟨⟨n, by omega⟩, .one (.n _ _) rfl⟩

theorem Opens.byte {t : TypeId} (ht : P.underlying t = some (.int .u8)) : Opens enc P w m t (fun x : UInt8 => V.n .u8 (x.toNat : Int)) := by
  intro fuel cs x h
  obtain ⟨n, rfl, -, hw⟩ := DataW.trod_int ht h
  simp only [Lit.wf, Bool.and_eq_true, decide_eq_true_eq] at hw
  have h1 : IntKind.u8.min = 0 := rfl
  have h2 : IntKind.u8.max = 255 := rfl
  rw [h1, h2] at hw
  refine ⟨UInt8.ofNat n.toNat, .one ?_ rfl⟩
  have : ((UInt8.ofNat n.toNat).toNat : Int) = n := by
    rw [UInt8.toNat_ofNat']; omega
  show Rep m (G.first w) (Value.int IntKind.u8 n) (V.n .u8 ((UInt8.ofNat n.toNat).toNat : Int))
  rw [this]; exact .n _ _

theorem Opens.bool {t : TypeId} (ht : P.underlying t = some .bool) : Opens enc P w m t (fun x : Bool => V.b x) := by
  intro fuel cs x h
  obtain ⟨b, rfl, -⟩ := DataW.trod_bool ht h
  exact ⟨b, .one (.b _) rfl⟩

theorem Opens.string {t : TypeId} (ht : P.underlying t = some .string) : Opens enc P w m t (fun x : ByteArray => V.s x) := by
  intro fuel cs x h
  obtain ⟨b, rfl, -, -⟩ := DataW.trod_string ht h
  exact ⟨b, .one (.s _) rfl⟩

theorem Opens.map {t : TypeId} {α β : Type} {v : α → V} {v' : β → V} (h : Opens enc P w m t v) (f : α → β) (hf : ∀ a, (v' (f a)).cells = (v a).cells) : Opens enc P w m t v' := fun fuel cs x hx => by
  obtain ⟨a, ha⟩ := h fuel cs x hx
  exact ⟨f a, by rw [hf]; exact ha⟩

theorem choose_list {α : Type} (p : Nat → α → Prop) : ∀ n, (∀ i, i < n → ∃ a, p i a) → ∃ l : List α, l.length = n ∧ ∀ i a, l[i]? = some a → p i a
  | 0, _ => ⟨[], rfl, fun i a h => by simp at h⟩
  | n + 1, h => by
    obtain ⟨l, hl, hp⟩ := choose_list p n fun i hi => h i (by omega)
    obtain ⟨a, ha⟩ := h n (by omega)
    refine ⟨l ++ [a], by simp [hl], fun i b hb => ?_⟩
    by_cases hi : i < n
    · rw [List.getElem?_append_left (by omega)] at hb; exact hp i b hb
    · rw [List.getElem?_append_right (by omega)] at hb
      have : i = n := by
        have := (List.getElem?_eq_some_iff.1 hb).1
        simp at this; omega
      subst this
      rw [hl, Nat.sub_self] at hb
      simp at hb; subst hb; exact ha

theorem cells?_get {w : World} {base : Nat} {a : Addr} {n : Nat} {row : List Value} (h : w.cells? base a n = some row) : row.length = n ∧ ∀ i, i < n → w.cell? (a.add i) = row[i]? := by
  unfold World.cells? at h
  split at h
  · exact ⟨by simpa using mapM_some_length h, fun i hi => mapM_some_get h i i (by simp [hi])⟩
  · cases h

theorem spot_none {w : World} {base : Nat} {a : Addr} {n : Nat} {row : List Value} (h : w.cells? base a n = some row) (hn : 0 < n) : a.spot = none := by
  obtain ⟨hl, hg⟩ := cells?_get h
  have h0 := hg 0 hn
  rw [List.getElem?_eq_getElem (by omega)] at h0
  simp only [Addr.add, if_true] at h0
  cases hs : a.spot with
  | none => rfl
  | some s =>
    simp only [World.cell?, hs, Option.isSome_some, if_true] at h0
    split at h0 <;> cases h0

theorem cell_add {w : World} {a : Addr} (hs : a.spot = none) (i : Nat) : w.cell? (a.add i) = w.cell? ⟨a.block, a.off + i, none⟩ := by
  unfold Addr.add
  split
  · rename_i h; subst h
    cases a; simp at hs; subst hs; rfl
  · rfl

theorem Opens.slice {t e : TypeId} (ht : P.underlying t = some (.slice e)) {α : Type} {v : α → V} (h : Opens enc P w m e v) {k : Nat} (hk : P.cellsOf e = k) (hk0 : 0 < k) (hv : ∀ a, (v a).cells.length = k) :
    Opens enc P w m t (fun l : List α => V.l k (l.map v) .may) := by
  intro fuel cs x hx
  rcases DataW.trod_slice ht hx with ⟨rfl, -⟩ | ⟨a, len, cap, elems, rest, n, -, rfl, -, -, hlc, -, hlen, hel, hsp, -⟩
  · exact ⟨[], .one (.lmay _) rfl⟩
  · rw [hk] at hel hsp
    obtain ⟨hrl, hrest⟩ := hsp rfl
    by_cases hc : cap = 0
    · subst hc
      have : len = 0 := by omega
      subst this
      exact ⟨[], .one (.lz _ _ _ (by simp)) rfl⟩
    · have hspot : a.spot = none := by
        by_cases hl0 : len = 0
        · subst hl0
          have h0 := hrest 0 (by omega)
          rw [List.getElem?_eq_getElem (by omega)] at h0
          simp only [Option.bind_eq_some_iff] at h0
          obtain ⟨row, hrow, -⟩ := h0
          simp only [Nat.add_zero, Nat.zero_mul, Addr.add, if_true] at hrow
          exact spot_none hrow hk0
        · have h0 := hel 0 (by omega)
          rw [List.getElem?_eq_getElem (by omega)] at h0
          simp only [Option.bind_eq_some_iff] at h0
          obtain ⟨row, hrow, -⟩ := h0
          simp only [Nat.zero_mul, Addr.add, if_true] at hrow
          exact spot_none hrow hk0
      obtain ⟨bl, off, sp⟩ := a
      simp only at hspot
      subst hspot
      have row : ∀ i, i < len → ∃ y : α, ∀ j, j < k → ∃ c, w.cell? ⟨bl, off + (i * k + j), none⟩ = some c ∧ Rep m (G.first w) c ((v y).cells.getD j .u) ∧ c.oneCell' = true := by
        intro i hi
        have h0 := hel i hi
        rw [List.getElem?_eq_getElem (by omega)] at h0
        simp only [Option.bind_eq_some_iff] at h0
        obtain ⟨row, hrow, htr⟩ := h0
        obtain ⟨y, hy⟩ := h _ _ _ htr
        refine ⟨y, fun j hj => ?_⟩
        obtain ⟨hrl2, hget⟩ := cells?_get hrow
        have hj2 := hget j hj
        have hs2 : (Addr.add ⟨bl, off, none⟩ (i * k)).spot = none := by unfold Addr.add; split <;> rfl
        rw [cell_add hs2, List.getElem?_eq_getElem (by omega)] at hj2
        have e1 : (Addr.add ⟨bl, off, none⟩ (i * k)).block = bl := by unfold Addr.add; split <;> rfl
        have e2 : (Addr.add ⟨bl, off, none⟩ (i * k)).off = off + i * k := by
          unfold Addr.add; split
          · rename_i h; simp [h]
          · rfl
        rw [e1, e2] at hj2
        have hjv : j < (v y).cells.length := by rw [hv]; exact hj
        have r1 := hy.1.2 j hjv
        have r2 := hy.2 j hjv
        have e3 : row.toArray.getD j undef = row[j] := by simp [Array.getD_eq_getD_getElem?, hrl2, hj]
        rw [e3] at r1 r2
        exact ⟨row[j], by rw [← Nat.add_assoc]; exact hj2, r1, r2⟩
      obtain ⟨l, hl, hp⟩ := choose_list (fun i (y : α) => ∀ j, j < k → ∃ c, w.cell? ⟨bl, off + (i * k + j), none⟩ = some c ∧ Rep m (G.first w) c ((v y).cells.getD j .u) ∧ c.oneCell' = true) len row
      have hu : ∀ x ∈ l.map v, x.cells.length = k := fun x hx => by
        simp only [List.mem_map] at hx
        obtain ⟨y, -, rfl⟩ := hx
        exact hv y
      have key : ∀ j, j < len * k → ∃ c, w.cell? ⟨bl, off + j, none⟩ = some c ∧ Rep m (G.first w) c ((flat (l.map v)).getD j .u) ∧ c.oneCell' = true := by
        intro j hj
        have hd : j / k < len := (Nat.div_lt_iff_lt_mul hk0).2 hj
        have hm : j % k < k := Nat.mod_lt _ hk0
        have e : j / k * k + j % k = j := Nat.div_add_mod' j k
        have hlt : j / k < l.length := by omega
        obtain ⟨c, h1, h2, h3⟩ := hp (j / k) l[j / k] (List.getElem?_eq_getElem hlt) (j % k) hm
        rw [e] at h1
        have h4 := flat_getD hu (j / k) (j % k) (by simpa using hlt) hm
        rw [e] at h4
        refine ⟨c, h1, ?_, h3⟩
        rw [h4]
        have e5 : (l.map v).getD (j / k) .u = v l[j / k] := by simp [List.getD, hlt]
        rw [e5]; exact h2
      refine ⟨l, .one (.l bl off len cap k (l.map v) .may (fun j => (w.cell? ⟨bl, off + j, none⟩).getD undef) (by simpa using hl) hlc hu (fun j hj => ?_) (fun j hj => ?_) (fun j hj => ?_) trivial) rfl⟩
      · obtain ⟨c, h1, -, -⟩ := key j hj
        simp [G.first, h1]
      · obtain ⟨c, h1, h2, -⟩ := key j hj
        simp only [h1, Option.getD_some]; exact h2
      · obtain ⟨c, h1, -, h3⟩ := key j hj
        simp only [h1, Option.getD_some]; exact h3

/-- The fields of a struct from its cell o on. -/
def OpensF (enc : TypeId × Value → H) (P : Program) (w : World) (m : Nat → FuncId) (fs : List Field) (o : Nat) {α : Type} (v : α → List V) : Prop :=
  ∀ (fuel : Nat) (cs : List Value), (∀ f ∈ fs, ∃ x, DataW.trod enc P w 0 (fun _ => true) true fuel f.type ((cs.drop f.offset).take (P.cellsOf f.type)) = some x) → cs.length = o + (fs.map fun f => P.cellsOf f.type).sum →
    ∃ a, RepC m (G.first w) (cs.drop o).toArray (v a)

theorem OpensF.nil {o : Nat} : OpensF enc P w m [] o (fun _ : Unit => []) := fun fuel cs _ hl => by
  refine ⟨(), ⟨by simp at hl; simp [hl], fun j hj => by simp at hj⟩, fun j hj => by simp at hj⟩

theorem RepC.append {g : G} {a b : List Value} {xs ys : List V} (h : RepC m g a.toArray xs) (k : RepC m g b.toArray ys) : RepC m g (a ++ b).toArray (xs ++ ys) := by
  have hl : a.length = xs.length := by simpa using h.1.1
  have hl2 : b.length = ys.length := by simpa using k.1.1
  have e1 : ∀ j, j < xs.length → (a ++ b).toArray.getD j undef = a.toArray.getD j undef := fun j hj => by
    simp [Array.getD_eq_getD_getElem?, List.getElem?_append_left (show j < a.length by omega)]
  have e2 : ∀ j, ¬ j < xs.length → (a ++ b).toArray.getD j undef = b.toArray.getD (j - xs.length) undef := fun j hj => by
    simp [Array.getD_eq_getD_getElem?, List.getElem?_append_right (show a.length ≤ j by omega), hl]
  refine ⟨⟨by simp [hl, hl2], fun j hj => ?_⟩, fun j hj => ?_⟩
  · by_cases hlt : j < xs.length
    · rw [e1 j hlt, getD_app_left _ _ _ _ hlt]; exact h.1.2 j hlt
    · rw [e2 j hlt, getD_app_right _ _ _ _ (by omega)]
      exact k.1.2 _ (by simp at hj; omega)
  · by_cases hlt : j < xs.length
    · rw [e1 j hlt]; exact h.2 j hlt
    · rw [e2 j hlt]
      exact k.2 _ (by simp at hj; omega)

theorem OpensF.cons {f : Field} {fs : List Field} {o : Nat} {α β : Type} {v : α → V} {v' : β → List V} (h : Opens enc P w m f.type v) (ho : f.offset = o) {k : Nat} (hk : P.cellsOf f.type = k) (r : OpensF enc P w m fs (o + k) v') :
    OpensF enc P w m (f :: fs) o (fun a : α × β => (v a.1).cells ++ v' a.2) := by
  intro fuel cs hf hl
  obtain ⟨x, hx⟩ := hf f (by simp)
  obtain ⟨a, ha⟩ := h _ _ _ hx
  simp only [List.map_cons, List.sum_cons, hk] at hl
  obtain ⟨b, hb⟩ := r fuel cs (fun g hg => hf g (by simp [hg])) (by omega)
  refine ⟨(a, b), ?_⟩
  rw [ho, hk] at ha
  have e : cs.drop o = (cs.drop o).take k ++ cs.drop (o + k) := by
    have e0 : (cs.drop o).drop k = cs.drop (o + k) := by rw [List.drop_drop]
    rw [← e0, List.take_append_drop]
  rw [e]
  exact ha.append hb

theorem Opens.struct {t : TypeId} {fs : Array Field} (ht : P.underlying t = some (.struct fs)) {α : Type} {v : α → List V} {n : Nat} (hn : P.cellsOf t = n) (hs : (fs.toList.map fun f => P.cellsOf f.type).sum = n) (h : OpensF enc P w m fs.toList 0 v) :
    Opens enc P w m t (fun a => V.agg (v a)) := by
  intro fuel cs x hx
  obtain ⟨xs, k, -, -, hl, hlen, hf⟩ := DataW.trod_struct ht hx
  obtain ⟨a, ha⟩ := h k cs (fun f hfm => by
    obtain ⟨i, hi, rfl⟩ := List.getElem_of_mem hfm
    have hi' : i < fs.size := by simpa using hi
    have := hf i fs.toList[i] (by simp [hi'])
    rw [List.getElem?_eq_getElem (by omega)] at this
    exact ⟨_, this⟩) (by rw [hl, hn, hs]; omega)
  exact ⟨a, by show RepC m (G.first w) cs.toArray (v a); simpa using ha⟩

/-! Arguments. -/
theorem Opens.argS {t : TypeId} {fs : Array Field} (ht : P.underlying t = some (.struct fs)) {α : Type} {v : α → V} (h : Opens enc P w m t v) (hv : ∀ a, ∃ cs, v a = .agg cs) {r : Reach} {b0 : Nat} {x : Value} {d : DataW H} {ps : List MemPlace}
    (hval : Value.okWide P w r b0 t x) (hd : DataW.Trod enc P w 0 (fun _ => true) true t x d ps) : ∃ a, Rep m (G.first w) x (v a) := by
  obtain ⟨cs, rfl, -⟩ := okWide_struct ht hval
  obtain ⟨fuel, hf⟩ := hd
  obtain ⟨a, ha⟩ := h _ _ _ hf
  obtain ⟨xs, e⟩ := hv a
  refine ⟨a, ?_⟩
  rw [e] at ha ⊢
  have e2 : (Value.agg cs).cells = cs := rfl
  simp only [e2, V.cells, Array.toArray_toList] at ha
  exact .agg _ _ ha.1.1 ha.1.2 ha.2

theorem Opens.argL {t e : TypeId} (ht : P.underlying t = some (.slice e)) {α : Type} {v : α → V} (h : Opens enc P w m t v) (hv : ∀ a, (v a).cells = [v a]) {r : Reach} {b0 : Nat} {x : Value} {d : DataW H} {ps : List MemPlace}
    (hval : Value.okWide P w r b0 t x) (hd : DataW.Trod enc P w 0 (fun _ => true) true t x d ps) : ∃ a, Rep m (G.first w) x (v a) := by
  obtain ⟨p, len, cap, rfl⟩ := okWide_slice ht hval
  obtain ⟨fuel, hf⟩ := hd
  obtain ⟨a, ha⟩ := h _ _ _ hf
  refine ⟨a, ?_⟩
  have e2 : (Value.slice p len cap).cells = #[Value.slice p len cap] := rfl
  rw [hv, e2] at ha
  exact ha.1.2 0 (by simp)

theorem argI {t : TypeId} (ht : P.underlying t = some (.int .i64)) {r : Reach} {b0 : Nat} {x : Value} {d : DataW H} {ps : List MemPlace}
    (hval : Value.okWide P w r b0 t x) (hd : DataW.Trod enc P w 0 (fun _ => true) true t x d ps) : ∃ n : Int, (-9223372036854775808 ≤ n ∧ n < 9223372036854775808) ∧ Rep m (G.first w) x (.n .i64 n) := by
  obtain ⟨n, rfl, -, -, hw⟩ := open_int ht hval hd
  simp only [Lit.wf, Bool.and_eq_true, decide_eq_true_eq] at hw
  have h1 : IntKind.i64.min = -9223372036854775808 := rfl
  have h2 : IntKind.i64.max = 9223372036854775807 := rfl
  rw [h1, h2] at hw
  exact ⟨n, by omega, .n _ _⟩

theorem RepA.two {g : G} {a b : Value} {x y : V} (h : Rep m g a x) (k : Rep m g b y) : RepA m g #[a, b] [x, y] := by
  refine ⟨rfl, fun j hj => ?_⟩
  match j, hj with
  | 0, _ => exact h
  | 1, _ => exact k
theorem RepA.three {g : G} {a b c : Value} {x y z : V} (h : Rep m g a x) (k : Rep m g b y) (l : Rep m g c z) : RepA m g #[a, b, c] [x, y, z] := by
  refine ⟨rfl, fun j hj => ?_⟩
  match j, hj with
  | 0, _ => exact h
  | 1, _ => exact k
  | 2, _ => exact l

/-- The end of a law: it answers true, and what was there is as it was. -/
theorem law_ends {P : Program} {m : Nat → FuncId} {id : Nat} {W : World} {args : Array Value} {xs : List V} (hx : RepA m (G.first W) args xs) (h : ACalls ⟨P, m⟩ id xs [] fun v _ => v = .b true) :
    Calls P (m id) args W fun e W' => e = .returned (.bool true) ∧ Below W.heap.size W W' :=
  (h.2 _ W args (.first m W) hx).mono fun e w' ⟨v, x, g', σ', he, h1, h2, h3, h4⟩ => by
    subst h4
    cases h3
    refine ⟨he, ?_⟩
    have := h2.below
    rw [h1.base] at this
    exact this

/-- 'post_of_same', where what was there is as it was and what is new may be anything. -/
theorem post_of_below {f : Func} {s : ChangeSpec} {apart fresh handsOn again : Bool} {W W' : World} {args : Array Value} {v : Value} {ds gs : List (DataW H)} {before pa pv : List MemPlace}
    (hW : DataW.Whole enc P f.params.toList s.vars apart W args.toList ds gs before)
    (hres : ∀ (b : Nat) (sp : Nat → Bool) (hd : Bool), DataW.TrodAll enc P W' b sp hd f.resultTypes.toList (v.resultList f.resultTypes.size) (s.fn H (ds ++ gs)).results [])
    (hargs : DataW.TrodAll enc P W' 0 (fun b => decide (b < W.heap.size)) true f.params.toList args.toList (s.fn H (ds ++ gs)).args pa)
    (hvars : ∀ sp : Nat → Bool, (∀ p ∈ before, sp p.block = true) → DataW.TrodVars enc P W' sp s.vars (s.fn H (ds ++ gs)).vars pv)
    (hps : before = pa ++ pv) (hb : Below W.heap.size W W') (hag : again = false) :
    s.post enc P f apart fresh handsOn again W args v W' := by
  have hold : ∀ p ∈ before, (fun b => decide (b < W.heap.size)) p.block = true := fun p hp => by simpa using hW.lt p hp
  refine ⟨ds, gs, before, [], pa, pv, hW, hres _ _ _, hargs, hvars _ hold, World.keptBut_mono (fun p hp => ⟨hp, ?_⟩) (hb.frame (· ∈ before)), fun h => ?_⟩
  · rw [hps, List.mem_append] at hp
    exact Or.inr hp
  · rw [hag] at h; cases h

end Go.Ab

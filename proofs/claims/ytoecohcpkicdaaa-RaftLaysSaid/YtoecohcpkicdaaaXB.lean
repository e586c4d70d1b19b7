/-
  What an abstract run of Go code promises, and that the model does so: regions (second part). No condition.
-/
import Derived.Test.YtoecohcpkicdaaaXA
set_option linter.unusedVariables false
set_option linter.unusedSimpArgs false
set_option linter.unnecessarySimpa false
/-
  The abstract operations that write, or make a mutable thing, stand for the model's.
-/
namespace Go.Ab
open Go.RowKit

variable {m : Nat → FuncId} {g : G} {P : Program} {σ : St} {w : World}

theorem splice_eq (cs ws : List V) (off : Nat) (h : off + ws.length ≤ cs.length) : splice cs off ws = cs.take off ++ ws ++ cs.drop (off + ws.length) := by
  have := splice_app ws (cs.take off) (cs.drop off) (by simp; omega)
  rw [List.take_append_drop] at this
  have hl : (cs.take off).length = off := by simp; omega
  rw [hl] at this
  rw [this, List.drop_drop]

theorem repC_getD {vals : Array Value} {cs : List V} (h : RepC m g vals cs) (j : Nat) (hj : j < cs.length) : Rep m g (vals.toList.getD j undef) (cs.getD j .u) ∧ (vals.toList.getD j undef).oneCell' = true := by
  have e : vals.toList.getD j undef = vals.getD j undef := by simp [Array.getD_eq_getD_getElem?, List.getD]
  rw [e]; exact ⟨h.1.2 j hj, h.2 j hj⟩

theorem getD_app_left {α : Type} (a b : List α) (d : α) (j : Nat) (h : j < a.length) : (a ++ b).getD j d = a.getD j d := by
  simp only [List.getD]; rw [List.getElem?_append_left h]
theorem getD_app_right {α : Type} (a b : List α) (d : α) (j : Nat) (h : a.length ≤ j) : (a ++ b).getD j d = b.getD (j - a.length) d := by
  simp only [List.getD]; rw [List.getElem?_append_right h]
theorem getD_take' {α : Type} (a : List α) (d : α) (n j : Nat) (h : j < n) : (a.take n).getD j d = a.getD j d := by
  simp only [List.getD]; rw [List.getElem?_take_of_lt h]
theorem getD_drop' {α : Type} (a : List α) (d : α) (n j : Nat) : (a.drop n).getD j d = a.getD (n + j) d := by
  simp only [List.getD, List.getElem?_drop]

theorem repC_splice {vals : Array Value} {cs xs : List V} {ws : Array Value} {off : Nat} (h : RepC m g vals cs) (hw : RepC m g ws xs) (hle : off + xs.length ≤ cs.length) :
    RepC m g (vals.toList.take off ++ ws.toList ++ vals.toList.drop (off + ws.toList.length)).toArray (splice cs off xs) := by
  rw [splice_eq _ _ _ hle]
  have hl := h.1.1
  have hwl : ws.toList.length = xs.length := by simpa using hw.1.1
  have ht : (vals.toList.take off).length = off := by simp; omega
  have ht' : (cs.take off).length = off := by simp; omega
  have key : ∀ j, j < (cs.take off ++ xs ++ cs.drop (off + xs.length)).length →
      Rep m g ((vals.toList.take off ++ ws.toList ++ vals.toList.drop (off + ws.toList.length)).getD j undef) ((cs.take off ++ xs ++ cs.drop (off + xs.length)).getD j .u) ∧
      ((vals.toList.take off ++ ws.toList ++ vals.toList.drop (off + ws.toList.length)).getD j undef).oneCell' = true := by
    intro j hj
    simp only [List.length_append, ht', List.length_drop] at hj
    by_cases h1 : j < off
    · have a1 : (vals.toList.take off ++ ws.toList ++ vals.toList.drop (off + ws.toList.length)).getD j undef = vals.toList.getD j undef := by
        rw [List.append_assoc, getD_app_left _ _ _ _ (by omega), getD_take' _ _ _ _ h1]
      have a2 : (cs.take off ++ xs ++ cs.drop (off + xs.length)).getD j .u = cs.getD j .u := by
        rw [List.append_assoc, getD_app_left _ _ _ _ (by omega), getD_take' _ _ _ _ h1]
      rw [a1, a2]; exact repC_getD h j (by omega)
    · by_cases h2 : j < off + xs.length
      · have a1 : (vals.toList.take off ++ ws.toList ++ vals.toList.drop (off + ws.toList.length)).getD j undef = ws.toList.getD (j - off) undef := by
          rw [List.append_assoc, getD_app_right _ _ _ _ (by omega), ht, getD_app_left _ _ _ _ (by omega)]
        have a2 : (cs.take off ++ xs ++ cs.drop (off + xs.length)).getD j .u = xs.getD (j - off) .u := by
          rw [List.append_assoc, getD_app_right _ _ _ _ (by omega), ht', getD_app_left _ _ _ _ (by omega)]
        rw [a1, a2]; exact repC_getD hw (j - off) (by omega)
      · have e1 : (vals.toList.take off ++ ws.toList).length = off + xs.length := by rw [List.length_append, ht, hwl]
        have e2 : (cs.take off ++ xs).length = off + xs.length := by rw [List.length_append, ht']
        have a1 : (vals.toList.take off ++ ws.toList ++ vals.toList.drop (off + ws.toList.length)).getD j undef = vals.toList.getD j undef := by
          rw [getD_app_right _ _ _ _ (by omega), e1, hwl, getD_drop']; congr 1; omega
        have a2 : (cs.take off ++ xs ++ cs.drop (off + xs.length)).getD j .u = cs.getD j .u := by
          rw [getD_app_right _ _ _ _ (by omega), e2, getD_drop']; congr 1; omega
        rw [a1, a2]; exact repC_getD h j (by omega)
  refine ⟨⟨?_, fun j hj => ?_⟩, fun j hj => ?_⟩
  · simp only [List.size_toArray, List.length_append, ht, ht', hwl, List.length_drop, Array.length_toList]; omega
  · have := (key j hj).1; simpa [Array.getD_eq_getD_getElem?, List.getD] using this
  · have := (key j hj).2; simpa [Array.getD_eq_getD_getElem?, List.getD] using this

theorem storeV_rep {t : TypeId} {va v : Value} {xa x y : V} {sz : Nat} {σ' : St} (hR : Rel m g σ w) (ha : Rep m g va xa) (hv : Rep m g v x) (hy : storeV xa x sz σ = some (y, σ')) (hs : szIs P t sz = true) :
    ∃ w', (Instr.storeAt t va v).run P w = .ok () w' ∧ Rel m g σ' w' ∧ y = .u := by
  unfold storeV at hy
  split at hy <;> try (simp at hy; done)
  rename_i l off vs hvs
  split at hy <;> try (simp at hy; done)
  rename_i cs hcs
  split at hy <;> try (simp at hy; done)
  rename_i hcond
  obtain ⟨h1, h2⟩ := hcond
  simp only [Option.some.injEq, Prod.mk.injEq] at hy
  obtain ⟨rfl, rfl⟩ := hy
  cases ha with
  | p l off bl hb =>
    obtain ⟨hrc, _⟩ := rep_cells hv hvs
    have hl := cellsOf_obj hcs
    obtain ⟨b, vals, T, hb', hbase, hh, hrep, hi⟩ := hR.objs l _ hl
    rw [hb] at hb'; cases hb'
    have hsz : v.cells.size = sz := by rw [hrc.1.1, h1]
    have hst := run_storeCells_at P bl off T v.cells.toList 0 vals w hh (by rw [Array.length_toList, hsz, hrep.1.1]; omega) (fun u hu => by
      obtain ⟨j, hj, rfl⟩ := List.getElem_of_mem hu
      have := hrc.2 j (by rw [← hrc.1.1]; simpa using hj)
      simpa [Array.getD_eq_getD_getElem?, show j < v.cells.size by simpa using hj] using this)
    refine ⟨_, ?_, hR.store hl hb hh hi (repC_splice hrep hrc (by omega)), rfl⟩
    simp only [Instr.storeAt, Instr.sureAddr, Sem.run_bind, Sem.run_pure, Result.andThen_ok, storeVar, run_szIs hs, hsz, ne_eq, not_true_eq_false, if_false]
    simpa using hst

theorem boxV_rep {t : TypeId} {v : Value} {x y : V} {σ' : St} (hR : Rel m g σ w) (hv : Rep m g v x) (hy : boxV x σ = some (y, σ')) :
    ∃ v' w' g', (Instr.box t v).run P w = .ok v' w' ∧ G.le g g' ∧ Rel m g' σ' w' ∧ Rep m g' v' y := by
  unfold boxV at hy
  split at hy <;> try (simp at hy; done)
  rename_i cs hcs
  simp only [Option.some.injEq, Prod.mk.injEq] at hy
  obtain ⟨rfl, rfl⟩ := hy
  obtain ⟨hrc, _⟩ := rep_cells hv hcs
  obtain ⟨g', h1, h2, h3⟩ := hR.obj hrc t
  exact ⟨_, _, g', by simp [Instr.box, newVar, newRow], h1, h2, .p _ _ _ h3⟩

theorem alloc_rep {t : TypeId} {z : List V} (hR : Rel m g σ w) (hz : zeroOk P m t z = true) :
    ∃ v' w' g', (Instr.alloc t true (.tuple #[])).run P w = .ok v' w' ∧ G.le g g' ∧ Rel m g' (σ ++ [.obj z]) w' ∧ Rep m g' v' (.p σ.length 0) := by
  obtain ⟨zv, hzr, hzc⟩ := zero_rep (g := g) hz w
  obtain ⟨g', h1, h2, h3⟩ := hR.obj hzc t
  exact ⟨_, _, g', by simp [Instr.alloc, hzr, newVar, newRow], h1, h2, .p _ _ _ h3⟩

theorem firstCells_imm (hR : Rel m g σ w) {bl off n e c : Nat} {vs : Nat → Value} (hm : ∀ j, j < n * e → g.imm bl (off + j) = some (vs j)) :
    (Builtin.firstCells e n (.slice (some ⟨bl, off, none⟩) n c)).run P w = .ok ((List.range (n * e)).map vs).toArray w := by
  have := run_loadCells (P := P) w ⟨bl, off, none⟩ (n * e) vs (fun j hj => by rw [add_eq]; exact hR.imm _ _ _ (hm j hj))
  simp [Builtin.firstCells, this]

theorem appV_rep {t t' el el' : TypeId} {ty : TypeId} {vx vy : Value} {x y z : V} {e bytes : Nat} {σ' : St} {i : TypeInfo} {zv : Value} (hR : Rel m g σ w) (hx : Rep m g vx x) (hv : Rep m g vy y)
    (hy : appV x y e bytes σ = some (z, σ')) (ht : P.underlying t = some (.slice el)) (ht' : P.underlying t' = some (.slice el')) (hi : P.info? el = some i) (hse : i.size = e) (hby : i.bytes = bytes) (hz : i.zero = some zv) (hzs : zv.cells.size = i.size) :
    ∃ v' w' g', (Builtin.append_ ⟨[t, t']⟩ ty #[vx, vy]).run P w = .ok v' w' ∧ G.le g g' ∧ Rel m g' σ' w' ∧ Rep m g' v' z := by
  subst hse hby
  unfold appV at hy
  split at hy <;> try (simp at hy; done)
  rename_i e1 xs cq e2 ys c2
  split at hy <;> try (simp at hy; done)
  rename_i hcond
  obtain ⟨hpos, rfl, rfl, hbytes, hlen⟩ := hcond
  -- the two readings
  have notInt : ∀ k, ¬ (TypeDesc.slice el' = .int k) := fun k h => by cases h
  by_cases hys : ys = []
  · -- nothing is appended
    subst hys
    simp only [List.isEmpty_nil, if_true, Option.some.injEq, Prod.mk.injEq] at hy
    obtain ⟨rfl, rfl⟩ := hy
    have hf0 : ∃ k2, vy = .slice none 0 0 ∨ ∃ a, vy = .slice (some a) 0 k2 := by
      cases hv with
      | lnil => exact ⟨0, .inl rfl⟩
      | lmay => exact ⟨0, .inl rfl⟩
      | lz a e c hq => exact ⟨0, .inr ⟨a, rfl⟩⟩
      | l bl off n c e xs cp vs hn => simp at hn; subst hn; exact ⟨_, .inr ⟨_, rfl⟩⟩
    have hfirst : (Builtin.firstCells i.size 0 vy).run P w = .ok #[] w := by
      obtain ⟨k2, rfl | ⟨a, rfl⟩⟩ := hf0
      · simp [Builtin.firstCells]
      · simp [Builtin.firstCells, loadCells, loadCellsFrom]
    have hlen0 : (Builtin.lenOf vy).run P w = .ok 0 w := by
      obtain ⟨k2, rfl | ⟨a, rfl⟩⟩ := hf0 <;> simp [Builtin.lenOf]
    refine ⟨vx, w, g, ?_, G.le.refl g, hR, hx⟩
    cases hx with
    | lnil => simp [Builtin.append_, run_underlying ht, run_underlying ht', sizeOf, typeInfo, hi, hlen0, hfirst]
    | lmay => simp [Builtin.append_, run_underlying ht, run_underlying ht', sizeOf, typeInfo, hi, hlen0, hfirst]
    | lz a e c hq => simp [Builtin.append_, run_underlying ht, run_underlying ht', sizeOf, typeInfo, hi, hlen0, hfirst, storeCells]
    | l bl off n c e xs cp vs hn hc =>
      simp [Builtin.append_, run_underlying ht, run_underlying ht', sizeOf, typeInfo, hi, hlen0, hfirst, hc, storeCells]
  · have hemp : ys.isEmpty = false := by cases ys <;> simp_all
    simp only [hemp, Bool.false_eq_true, if_false] at hy
    cases hv with
    | lnil => simp at hys
    | lmay => simp at hys
    | lz a e c hq => simp at hys
    | l ybl yoff k yc ye ys ycp yvs ykn ykc yu ym yr yp ycap =>
      have hk : 0 < k := by rw [← ykn]; exact List.length_pos_iff.2 hys
      have hfy : ∀ w' : World, Rel m g σ w' → (Builtin.firstCells i.size k (.slice (some ⟨ybl, yoff, none⟩) k yc)).run P w' = .ok ((List.range (k * i.size)).map yvs).toArray w' := fun w' hR' => firstCells_imm hR' ym
      have ylen : ((List.range (k * i.size)).map yvs).length = k * i.size := by simp
      have yflat : (flat ys).length = k * i.size := by rw [flat_length yu, ykn]
      -- a new block, holding both
      have fresh : ∀ (n cc : Nat) (ovs : Nat → Value) (xs : List V) (σ1 : St), Rel m g σ1 w → σ1.length = σ.length → xs.length = n → cc < n + k → (∀ x ∈ xs, x.cells.length = i.size) → n + k ≤ 140737488355328 →
          (∀ j, j < n * i.size → Rep m g (ovs j) ((flat xs).getD j .u)) → (∀ j, j < n * i.size → (ovs j).oneCell' = true) →
          ∃ g', G.le g g' ∧ Rel m g' (σ1 ++ [.room]) (w.drew.alloc (.cells (((List.range (n * i.size)).map ovs).toArray ++ ((List.range (k * i.size)).map yvs).toArray ++ Builtin.zeroCells zv.cells (grownCap w (n + k) cc el - (n + k))) el)) ∧
            Rep m g' (.slice (some ⟨w.heap.size, 0, none⟩) (n + k) (grownCap w (n + k) cc el)) (.l i.size (xs ++ ys) (.tok σ.length)) := by
        intro n cc ovs xs σ1 hR1 hσ1 hn hcc hux hnk hrx hpx
        have hge := grownCap_ge w (n + k) cc el
        obtain ⟨g', h1, h2, h3, h4⟩ := hR1.drew.room (((List.range (n * i.size)).map ovs).toArray ++ ((List.range (k * i.size)).map yvs).toArray ++ Builtin.zeroCells zv.cells (grownCap w (n + k) cc el - (n + k))) el ((n + k) * i.size)
        refine ⟨g', h1, h2, ?_⟩
        have hmul : (n + k) * i.size = n * i.size + k * i.size := Nat.add_mul _ _ _
        have xflat : (flat xs).length = n * i.size := by rw [flat_length hux, hn]
        refine .l _ _ _ _ _ _ _ (fun j => if j < n * i.size then ovs j else yvs (j - n * i.size)) (by simp [hn, ykn]) hge (fun x hx => ?_) (fun j hj => ?_) (fun j hj => ?_) (fun j hj => ?_) ?_
        · rcases List.mem_append.1 hx with h | h
          · exact hux x h
          · exact yu x h
        · rw [Nat.zero_add, show w.heap.size = w.drew.heap.size from rfl, h3 j hj]
          rw [Array.getElem?_append_left (by simp; omega)]
          by_cases hjn : j < n * i.size
          · rw [Array.getElem?_append_left (by simpa using hjn)]
            simp [hjn]
          · rw [Array.getElem?_append_right (by simp; omega)]
            have : j - n * i.size < k * i.size := by omega
            simp [hjn, this]
        · by_cases hjn : j < n * i.size
          · simp only [hjn, if_true]
            rw [flat_append, getD_app_left _ _ _ _ (by omega)]
            exact (hrx j hjn).mono h1
          · simp only [hjn, if_false]
            rw [flat_append, getD_app_right _ _ _ _ (by omega), xflat]
            exact (yr _ (by omega)).mono h1
        · by_cases hjn : j < n * i.size
          · simp only [hjn, if_true]; exact hpx j hjn
          · simp only [hjn, if_false]; exact yp _ (by omega)
        · refine ⟨⟨_, by rw [← hσ1]; simpa using h4⟩, .inr ⟨_, by rw [← hσ1]; simpa using h4, ?_⟩⟩
          simp only [Nat.zero_add, Array.size_append, List.size_toArray, List.length_map, List.length_range, size_zeroCells, hzs]
          rw [← Nat.add_mul, ← Nat.add_mul]
          exact Nat.mul_le_mul_right _ (by omega)
      have hnb : ∀ n : Nat, xs.length = n → (n + k) * i.bytes ≤ 140737488355328 := fun n hn => by rw [← hn, ← ykn]; exact hbytes
      have hnl : ∀ n : Nat, xs.length = n → n + k ≤ 140737488355328 := fun n hn => by rw [← hn, ← ykn]; exact hlen
      have hly : (Builtin.lenOf (.slice (some ⟨ybl, yoff, none⟩) k yc)).run P w = .ok k w := by simp [Builtin.lenOf]
      cases hx with
      | lmay => simp at hy
      | lz q e c hq =>
        rcases hq with rfl | rfl | rfl
        · simp at hy
        · simp at hy
        · simp only [Option.some.injEq, Prod.mk.injEq] at hy
          obtain ⟨rfl, rfl⟩ := hy
          obtain ⟨g', h1, h2, h3⟩ := fresh 0 0 (fun _ => undef) [] σ hR rfl rfl (by omega) (by simp) (hnl 0 rfl) (fun j hj => by simp at hj) (fun j hj => by simp at hj)
          refine ⟨_, _, g', ?_, h1, h2, h3⟩
          have hn : ¬ (k = 0) := by omega
          have h63' : ¬ (9223372036854775807 < (k : Int)) := by have := hnl 0 rfl; omega
          have h48' : ¬ (281474976710656 < Builtin.nextslicecap k 0 * i.bytes) := by
            have := growslice_fits (need := k) (old := 0) (bytes := i.bytes) hk (by simpa using hnb 0 rfl); omega
          have hf0 : (Builtin.firstCells i.size 0 (.slice (some q) 0 0)).run P w.drew = .ok #[] w.drew := by simp [Builtin.firstCells, loadCells, loadCellsFrom]
          simp [Builtin.append_, run_underlying ht, run_underlying ht', sizeOf, typeInfo, zeroValue, hi, hz, Builtin.lenOf, hn, h63', h48', Question.forced, hfy _ hR.drew, newRow, grownCap, hf0]
      | lnil =>
        simp only [Option.some.injEq, Prod.mk.injEq] at hy
        obtain ⟨rfl, rfl⟩ := hy
        obtain ⟨g', h1, h2, h3⟩ := fresh 0 0 (fun _ => undef) [] σ hR rfl rfl (by omega) (by simp) (hnl 0 rfl) (fun j hj => by simp at hj) (fun j hj => by simp at hj)
        refine ⟨_, _, g', ?_, h1, h2, h3⟩
        have hn : ¬ (k = 0) := by omega
        have h63' : ¬ (9223372036854775807 < (k : Int)) := by have := hnl 0 rfl; omega
        have h48' : ¬ (281474976710656 < Builtin.nextslicecap k 0 * i.bytes) := by
          have := growslice_fits (need := k) (old := 0) (bytes := i.bytes) hk (by simpa using hnb 0 rfl); omega
        have hf0 : (Builtin.firstCells i.size 0 (.slice none 0 0)).run P w.drew = .ok #[] w.drew := by simp [Builtin.firstCells]
        simp [Builtin.append_, run_underlying ht, run_underlying ht', sizeOf, typeInfo, zeroValue, hi, hz, Builtin.lenOf, hn, h63', h48', Question.forced, hfy _ hR.drew, newRow, grownCap, hf0]
      | l bl off n c e xs cp vs hn hc hu hm hr hp hcap =>
        have grows : c < n + k → ∀ σ1, Rel m g σ1 w → σ1.length = σ.length → z = .l i.size (xs ++ ys) (.tok σ.length) → σ' = σ1 ++ [.room] →
            ∃ v' w' g', (Builtin.append_ ⟨[t, t']⟩ ty #[.slice (some ⟨bl, off, none⟩) n c, .slice (some ⟨ybl, yoff, none⟩) k yc]).run P w = .ok v' w' ∧ G.le g g' ∧ Rel m g' σ' w' ∧ Rep m g' v' z := by
          rintro hlt σ1 hR1 hσ1 rfl rfl
          obtain ⟨g', h1, h2, h3⟩ := fresh n c vs xs σ1 hR1 hσ1 hn hlt hu (hnl n hn) hr hp
          refine ⟨_, _, g', ?_, h1, h2, h3⟩
          have hno : ¬ (n + k ≤ c) := by omega
          have h63' : ¬ (9223372036854775807 < ((n : Int) + (k : Int))) := by have := hnl n hn; omega
          have h48' : ¬ (281474976710656 < Builtin.nextslicecap (n + k) c * i.bytes) := by
            have := growslice_fits (need := n + k) (old := c) (bytes := i.bytes) hlt (hnb n hn); omega
          have hfx := firstCells_imm (P := P) hR.drew (c := c) hm
          simp [Builtin.append_, run_underlying ht, run_underlying ht', sizeOf, typeInfo, zeroValue, hi, hz, Builtin.lenOf, hno, h63', h48', Question.forced, hfy _ hR.drew, hfx, newRow, grownCap]
          congr 2
          apply Array.ext'
          simp [List.append_assoc]
        cases cq with
        | nil => exact hcap.elim
        | any => simp at hy
        | may => simp at hy
        | full =>
          simp only [Option.some.injEq, Prod.mk.injEq] at hy
          have : c = n := hcap
          exact grows (by omega) σ hR rfl hy.1.symm hy.2.symm
        | tok tk =>
          simp only at hy
          split at hy <;> try (simp at hy; done)
          rename_i hroom
          simp only [Option.some.injEq, Prod.mk.injEq] at hy
          by_cases hlt : c < n + k
          · exact grows hlt (σ.set tk .dead) (hR.kill tk) (by simp) hy.1.symm hy.2.symm
          · obtain ⟨rfl, rfl⟩ := hy
            obtain ⟨-, hcn | ⟨sz, hc1, hc2⟩⟩ := hcap
            · omega
            · have hkc : (n + k) * i.size ≤ c * i.size := Nat.mul_le_mul_right _ (by omega)
              have hmul : (n + k) * i.size = n * i.size + k * i.size := Nat.add_mul _ _ _
              have hc1' : g.tok tk = some (bl, off + n * i.size, sz) := hc1
              have hc2' : off + c * i.size ≤ sz := hc2
              obtain ⟨vals, T, g', hh, hvs, h1, h2, h3, h4⟩ := hR.grow hroom hc1' ((List.range (k * i.size)).map yvs) (by rw [ylen]; omega)
              have hst := run_storeCells_at P bl (off + n * i.size) T ((List.range (k * i.size)).map yvs) 0 vals w hh (by rw [ylen, hvs]; omega) (fun u hu => by
                obtain ⟨j, hj, rfl⟩ := List.mem_map.1 hu
                exact yp j (by simpa using hj))
              simp only [Nat.add_zero] at hst
              refine ⟨.slice (some ⟨bl, off, none⟩) (n + k) c, _, g', ?_, h1, h2, ?_⟩
              · have hyes : n + k ≤ c := by omega
                simp [Builtin.append_, run_underlying ht, run_underlying ht', sizeOf, typeInfo, hi, Builtin.lenOf, hyes, hfy _ hR, add_eq, hst]
              · have xflat : (flat xs).length = n * i.size := by rw [flat_length hu, hn]
                refine .l _ _ _ _ _ _ _ (fun j => if j < n * i.size then vs j else yvs (j - n * i.size)) (by simp [hn, ykn]) (by omega) (fun x hx => ?_) (fun j hj => ?_) (fun j hj => ?_) (fun j hj => ?_) ?_
                · rcases List.mem_append.1 hx with h | h
                  · exact hu x h
                  · exact yu x h
                · by_cases hjn : j < n * i.size
                  · simp only [hjn, if_true]; exact h1.imm _ _ _ (hm j hjn)
                  · simp only [hjn, if_false]
                    have := h3 (j - n * i.size) (by rw [ylen]; omega)
                    rw [show off + n * i.size + (j - n * i.size) = off + j by omega] at this
                    rw [this]
                    simp [show j - n * i.size < k * i.size by omega]
                · by_cases hjn : j < n * i.size
                  · simp only [hjn, if_true]
                    rw [flat_append, getD_app_left _ _ _ _ (by omega)]
                    exact (hr j hjn).mono h1
                  · simp only [hjn, if_false]
                    rw [flat_append, getD_app_right _ _ _ _ (by omega), xflat]
                    exact (yr _ (by omega)).mono h1
                · by_cases hjn : j < n * i.size
                  · simp only [hjn, if_true]; exact hp j hjn
                  · simp only [hjn, if_false]; exact yp _ (by omega)
                · have e : off + n * i.size + k * i.size = off + (n + k) * i.size := by omega
                  rw [ylen, e] at h4
                  exact ⟨⟨_, h4⟩, .inr ⟨sz, h4, hc2⟩⟩

/-- The cells of a slice's first elements are read. -/
theorem src_rep {v : Value} {y : V} {e k : Nat} {ys : List V} (hR : Rel m g σ w) (hv : Rep m g v y) (hy : srcC y e k σ = some ys) :
    ∃ arr : Array Value, (∀ w' : World, w'.heap = w.heap → (Builtin.firstCells e k v).run P w' = .ok arr w') ∧ RepC m g arr ys ∧ ys.length = k * e := by
  have same : ∀ {w' : World} (a : Addr), w'.heap = w.heap → w'.cell? a = w.cell? a := fun a h => by unfold World.cell?; rw [h]
  cases hv <;> simp only [srcC] at hy <;> try (simp at hy; done)
  case lnil e' =>
    split at hy <;> try (simp at hy; done)
    rename_i h
    obtain ⟨rfl, hk⟩ := h
    have : k = 0 := by simpa using hk
    subst this
    simp only [List.take_zero, Option.some.injEq] at hy; subst hy
    exact ⟨#[], fun _ _ => by simp [Builtin.firstCells], ⟨⟨rfl, fun j hj => by simp [flat] at hj⟩, fun j hj => by simp [flat] at hj⟩, by simp [flat]⟩
  case lmay e' =>
    split at hy <;> try (simp at hy; done)
    rename_i h
    obtain ⟨rfl, hk⟩ := h
    have : k = 0 := by simpa using hk
    subst this
    simp only [List.take_zero, Option.some.injEq] at hy; subst hy
    exact ⟨#[], fun _ _ => by simp [Builtin.firstCells], ⟨⟨rfl, fun j hj => by simp [flat] at hj⟩, fun j hj => by simp [flat] at hj⟩, by simp [flat]⟩
  case lz q e' c hq =>
    split at hy <;> try (simp at hy; done)
    rename_i h
    obtain ⟨rfl, hk⟩ := h
    have : k = 0 := by simpa using hk
    subst this
    simp only [List.take_zero, Option.some.injEq] at hy; subst hy
    exact ⟨#[], fun _ _ => by simp [Builtin.firstCells, loadCells, loadCellsFrom], ⟨⟨rfl, fun j hj => by simp [flat] at hj⟩, fun j hj => by simp [flat] at hj⟩, by simp [flat]⟩
  case l bl off n c e' xs cp vs hn hc hu hm hr hp hcap =>
    split at hy <;> try (simp at hy; done)
    rename_i h
    obtain ⟨rfl, hk⟩ := h
    simp only [Option.some.injEq] at hy; subst hy
    have hle : k * e ≤ n * e := Nat.mul_le_mul_right _ (by omega)
    have hl : (flat (xs.take k)).length = k * e := by
      rw [flat_length (e := e) (fun x hx => hu x (List.mem_of_mem_take hx)), List.length_take, Nat.min_eq_left hk]
    have e1 : ∀ j, j < k * e → (((List.range (k * e)).map vs).toArray).getD j undef = vs j := fun j hj => by simp [Array.getD_eq_getD_getElem?, hj]
    refine ⟨((List.range (k * e)).map vs).toArray, fun w' hw' => ?_, ⟨⟨by simp [hl], fun j hj => ?_⟩, fun j hj => ?_⟩, hl⟩
    · have := run_loadCells (P := P) w' ⟨bl, off, none⟩ (k * e) vs (fun j hj => by rw [add_eq, same _ hw']; exact hR.imm _ _ _ (hm j (by omega)))
      simp [Builtin.firstCells, this]
    · rw [hl] at hj
      rw [e1 j hj, flat_take hu, getD_take' _ _ _ _ hj]; exact hr j (by omega)
    · rw [hl] at hj
      rw [e1 j hj]; exact hp j (by omega)
  case ms l off n c e' bl hb hc =>
    split at hy <;> try (simp at hy; done)
    rename_i h
    obtain ⟨rfl, hk⟩ := h
    split at hy <;> try (simp at hy; done)
    rename_i cs hcs
    split at hy <;> try (simp at hy; done)
    rename_i hfit
    simp only [Option.some.injEq] at hy; subst hy
    obtain ⟨b, vals, T, hb', hbase, hh, hrep, hi⟩ := hR.objs l _ (cellsOf_obj hcs)
    rw [hb] at hb'; cases hb'
    have hsz := hrep.1.1
    have hl : ((cs.drop off).take (k * e)).length = k * e := by simp; omega
    have e1 : ∀ j, j < k * e → (((List.range (k * e)).map fun j => vals.getD (off + j) undef).toArray).getD j undef = vals.getD (off + j) undef := fun j hj => by simp [Array.getD_eq_getD_getElem?, hj]
    refine ⟨((List.range (k * e)).map fun j => vals.getD (off + j) undef).toArray, fun w' hw' => ?_, ⟨⟨by rw [hl]; simp, fun j hj => ?_⟩, fun j hj => ?_⟩, hl⟩
    · have := run_loadCells (P := P) w' ⟨bl, off, none⟩ (k * e) (fun j => vals.getD (off + j) undef) (fun j hj => by
        rw [add_eq, same _ hw', cell_obj hh]
        simp [Array.getD_eq_getD_getElem?, show off + j < vals.size by omega])
      simp [Builtin.firstCells, this]
    · rw [hl] at hj
      rw [e1 j hj, getD_drop_take _ _ _ _ hj]; exact hrep.1.2 _ (by omega)
    · rw [hl] at hj
      rw [e1 j hj]; exact hrep.2 _ (by omega)

theorem repC_app {vs ws : Array Value} {xs ys : List V} (h : RepC m g vs xs) (h' : RepC m g ws ys) : RepC m g (vs ++ ws) (xs ++ ys) := by
  have hs := h.1.1
  have hs' := h'.1.1
  have key : ∀ j, j < (xs ++ ys).length → Rep m g ((vs ++ ws).getD j undef) ((xs ++ ys).getD j .u) ∧ ((vs ++ ws).getD j undef).oneCell' = true := by
    intro j hj
    by_cases hlt : j < xs.length
    · rw [getD_app_left _ _ _ _ hlt]
      have : (vs ++ ws).getD j undef = vs.getD j undef := by
        simp only [Array.getD_eq_getD_getElem?]; rw [Array.getElem?_append_left (by omega)]
      rw [this]; exact ⟨h.1.2 j hlt, h.2 j hlt⟩
    · rw [getD_app_right _ _ _ _ (by omega)]
      have : (vs ++ ws).getD j undef = ws.getD (j - xs.length) undef := by
        simp only [Array.getD_eq_getD_getElem?]; rw [Array.getElem?_append_right (by omega), hs]
      rw [this]; exact ⟨h'.1.2 _ (by simp at hj; omega), h'.2 _ (by simp at hj; omega)⟩
  exact ⟨⟨by simp [hs, hs'], fun j hj => (key j hj).1⟩, fun j hj => (key j hj).2⟩

theorem repC_zeroU {zv : Array Value} {e : Nat} (hs : zv.size = e) (h1 : zv.toList.all (·.oneCell') = true) (r : Nat) : RepC m g (Builtin.zeroCells zv r) (List.replicate (r * e) .u) := by
  unfold Builtin.zeroCells
  rw [hs]
  refine repC_range _ _ (fun j hj => ?_)
  have he : 0 < e := by rcases Nat.eq_zero_or_pos e with h | h; (subst h; simp at hj); exact h
  have hlt : j % e < zv.size := by rw [hs]; exact Nat.mod_lt _ he
  have := List.all_eq_true.1 h1 (zv[j % e]) (by simp)
  rw [getElem!_pos zv _ hlt]
  exact this

theorem lenOf_rep {v : Value} {y : V} {k : Nat} (hv : Rep m g v y) (hk : cntV y = some k) (w' : World) : (Builtin.lenOf v).run P w' = .ok k w' := by
  cases hv <;> simp only [cntV, Option.some.injEq] at hk <;> try (cases hk; done)
  case lnil e => subst hk; simp [Builtin.lenOf]
  case lmay e => subst hk; simp [Builtin.lenOf]
  case lz a e c hq => subst hk; simp [Builtin.lenOf]
  case l bl off n c e xs cp vs hn hc hu hm hr hp hcap => subst hk; subst hn; simp [Builtin.lenOf]
  case ms => subst hk; simp [Builtin.lenOf]

theorem appC_rep {el : TypeId} {A : Sem Value} {vx : Value} {x : V} {e bytes k : Nat} {ys : List V} {new : Array Value} {K : V → St → Prop} {zv : Value} (hR : Rel m g σ w) (hx : Rep m g vx x)
    (h : appC x k ys e bytes σ K) (hnew : RepC m g new ys) (hys : ys.length = k * e) (hzs : zv.cells.size = e) (hz1 : zv.cells.toList.all (·.oneCell') = true)
    (hG : ∀ (base : Option Addr) (n c : Nat) (old : Array Value), vx = .slice base n c → c < n + k → (n + k) * bytes ≤ 140737488355328 → n + k ≤ 140737488355328 → (Builtin.firstCells e n (.slice base n c)).run P w.drew = .ok old w.drew →
      A.run P w = .ok (.slice (some ⟨w.heap.size, 0, none⟩) (n + k) (grownCap w (n + k) c el)) (w.drew.alloc (.cells (old ++ new ++ Builtin.zeroCells zv.cells (grownCap w (n + k) c el - (n + k))) el)))
    (hI : ∀ (a : Addr) (n c : Nat) (w' : World), vx = .slice (some a) n c → n + k ≤ c → (storeCells (a.add (n * e)) new.toList).run P w = .ok () w' → A.run P w = .ok (.slice (some a) (n + k) c) w')
    (hN : vx = .slice none 0 0 → k = 0 → A.run P w = .ok (.slice none 0 0) w) :
    ∃ v' w' g' z σ', A.run P w = .ok v' w' ∧ G.le g g' ∧ Rel m g' σ' w' ∧ Rep m g' v' z ∧ K z σ' := by
  have grow : ∀ (base : Option Addr) (n c : Nat) (xs : List V) (old : Array Value), vx = .slice base n c → c < n + k → (n + k) * bytes ≤ 140737488355328 → n + k ≤ 140737488355328 →
      (Builtin.firstCells e n (.slice base n c)).run P w.drew = .ok old w.drew → RepC m g old xs → newM e (n + k) (xs ++ ys) σ K →
      ∃ v' w' g' z σ', A.run P w = .ok v' w' ∧ G.le g g' ∧ Rel m g' σ' w' ∧ Rep m g' v' z ∧ K z σ' := by
    intro base n c xs old hvx hlt hnb hnl hold hrepo hnw
    have hge := grownCap_ge w (n + k) c el
    have hrow := repC_app (repC_app hrepo hnew) (repC_zeroU (g := g) (m := m) hzs hz1 (grownCap w (n + k) c el - (n + k)))
    obtain ⟨g', h1, h2, h3⟩ := hR.drew.obj hrow el
    exact ⟨_, _, g', _, _, hG base n c old hvx hlt hnb hnl hold, h1, h2, .ms _ 0 _ _ e _ h3 hge, hnw _ hge⟩
  have hnil : k = 0 → new.toList = [] := fun hk => by
    have : new = #[] := Array.eq_empty_of_size_eq_zero (by rw [hnew.1.1, hys, hk]; simp)
    rw [this]
  unfold appC at h
  split at h <;> try exact h.elim
  · rename_i e' xs
    obtain ⟨rfl, hpos, hb, hl, hk0, hk1⟩ := h
    cases hx with
    | lnil =>
      rcases Nat.eq_zero_or_pos k with hz0 | hp0
      · exact ⟨_, w, g, _, σ, hN rfl hz0, G.le.refl g, hR, .lnil _, hk0 hz0⟩
      · exact grow none 0 0 [] #[] rfl (by omega) (by simpa using hb) (by simpa using hl) (by simp [Builtin.firstCells]) ⟨⟨rfl, fun j hj => by simp at hj⟩, fun j hj => by simp at hj⟩ (by simpa [flat] using hk1 hp0)
    | lz q e c hq => rcases hq with h | h | h <;> cases h
    | l bl off n c e xs cp vs hn hc hu hm hr hp hcap => exact hcap.elim
  · rename_i e' xs
    obtain ⟨rfl, hpos, hb, hl, hk0, hk1⟩ := h
    have hx' := hx
    cases hx with
    | lz q e c hq =>
      rcases Nat.eq_zero_or_pos k with hz0 | hp0
      · have hrun := hI q 0 0 w rfl (by omega) (by rw [hnil hz0]; simp [storeCells])
        rw [hz0, Nat.add_zero] at hrun
        exact ⟨_, w, g, _, σ, hrun, G.le.refl g, hR, hx', hk0 hz0⟩
      · exact grow (some q) 0 0 [] #[] rfl (by omega) (by simpa using hb) (by simpa using hl) (by simp [Builtin.firstCells, loadCells, loadCellsFrom]) ⟨⟨rfl, fun j hj => by simp at hj⟩, fun j hj => by simp at hj⟩ (by simpa [flat] using hk1 hp0)
    | l bl off n c e xs cp vs hn hc hu hm hr hp hcap =>
      have hcn : c = n := hcap
      subst hn; subst hcn
      rcases Nat.eq_zero_or_pos k with hz0 | hp0
      · have hrun := hI ⟨bl, off, none⟩ xs.length xs.length w rfl (by omega) (by rw [hnil hz0]; simp [storeCells])
        rw [hz0, Nat.add_zero] at hrun
        exact ⟨_, w, g, _, σ, hrun, G.le.refl g, hR, hx', hk0 hz0⟩
      · obtain ⟨old, o1, o2, o3⟩ := src_rep (P := P) (k := xs.length) (e := e) (ys := flat xs) hR hx' (by simp [srcC])
        exact grow _ _ _ _ old rfl (by omega) hb hl (o1 _ rfl) o2 (hk1 hp0)
  · rename_i l off n c e'
    split at h <;> try exact h.elim
    rename_i cs hcs
    obtain ⟨rfl, hpos, hb, hl, hfit, hk0, hk1⟩ := h
    have hx' := hx
    cases hx with
    | ms l off n c e bl hbl hc =>
      by_cases hlt : c < n + k
      · obtain ⟨old, o1, o2, o3⟩ := src_rep (P := P) (k := n) (e := e) (ys := (cs.drop off).take (n * e)) hR hx' (by simp [srcC, hcs, hfit])
        exact grow _ _ _ _ old rfl hlt hb hl (o1 _ rfl) o2 (hk1 hlt)
      · obtain ⟨hf2, hK⟩ := hk0 (by omega)
        have hlo := cellsOf_obj hcs
        obtain ⟨b, vals, T, hb', hbase, hh, hrep, him⟩ := hR.objs l _ hlo
        rw [hbl] at hb'; cases hb'
        have hmul : (n + k) * e = n * e + k * e := Nat.add_mul _ _ _
        have hnsz : new.size = k * e := by rw [hnew.1.1, hys]
        have hst := run_storeCells_at P bl (off + n * e) T new.toList 0 vals w hh (by rw [Array.length_toList, hnsz, hrep.1.1]; omega) (fun u hu => by
          obtain ⟨j, hj, rfl⟩ := List.getElem_of_mem hu
          have := hnew.2 j (by rw [← hnew.1.1]; simpa using hj)
          simpa [Array.getD_eq_getD_getElem?, show j < new.size by simpa using hj] using this)
        simp only [Nat.add_zero] at hst
        exact ⟨.slice (some ⟨bl, off, none⟩) (n + k) c, _, g, _, _, hI _ n c _ rfl (by omega) (by rw [add_eq]; exact hst), G.le.refl g, hR.store hlo hbl hh him (repC_splice (off := off + n * e) hrep hnew (by rw [hys]; omega)), .ms _ _ _ _ _ _ hbl (by omega), hK⟩

theorem appmP_rep {t t' el el' : TypeId} {ty : TypeId} {vx vy : Value} {x y : V} {e bytes : Nat} {K : V → St → Prop} {i : TypeInfo} {zv : Value} (hR : Rel m g σ w) (hx : Rep m g vx x) (hv : Rep m g vy y)
    (h : appmP x y e bytes σ K) (ht : P.underlying t = some (.slice el)) (ht' : P.underlying t' = some (.slice el')) (hi : P.info? el = some i) (hse : i.size = e) (hby : i.bytes = bytes) (hz : i.zero = some zv) (hzs : zv.cells.size = i.size) (hz1 : zv.cells.toList.all (·.oneCell') = true) :
    ∃ v' w' g' z σ', (Builtin.append_ ⟨[t, t']⟩ ty #[vx, vy]).run P w = .ok v' w' ∧ G.le g g' ∧ Rel m g' σ' w' ∧ Rep m g' v' z ∧ K z σ' := by
  subst hse hby
  unfold appmP at h
  split at h <;> try exact h.elim
  rename_i k hk
  split at h <;> try exact h.elim
  rename_i ys hys
  have hlk : ∀ w', (Builtin.lenOf vy).run P w' = .ok k w' := lenOf_rep hv hk
  obtain ⟨new, n1, n2, n3⟩ := src_rep (P := P) hR hv hys
  refine appC_rep (el := el) hR hx h n2 n3 hzs hz1 ?_ ?_ ?_
  · intro base n c old hvx hlt hnb hnl hold
    have hno : ¬ (n + k ≤ c) := by omega
    have h63' : ¬ (9223372036854775807 < ((n : Int) + (k : Int))) := by omega
    have h48' : ¬ (281474976710656 < Builtin.nextslicecap (n + k) c * i.bytes) := by
      have := growslice_fits (need := n + k) (old := c) (bytes := i.bytes) hlt hnb; omega
    subst hvx
    simp [Builtin.append_, run_underlying ht, run_underlying ht', sizeOf, typeInfo, zeroValue, hi, hz, hlk, hno, h63', h48', Question.forced, n1 w.drew rfl, hold, newRow, grownCap]
  · intro a n c w' hvx hyes hst
    subst hvx
    simp [Builtin.append_, run_underlying ht, run_underlying ht', sizeOf, typeInfo, hi, hlk, hyes, n1 w rfl, hst]
  · intro hvx hk0
    subst hvx; subst hk0
    simp [Builtin.append_, run_underlying ht, run_underlying ht', sizeOf, typeInfo, hi, hlk, n1 w rfl]

theorem wrap_i64 {x : Int} (h0 : -9223372036854775808 ≤ x) (h1 : x < 9223372036854775808) : IntKind.i64.wrap x = x := by
  simp only [IntKind.wrap, IntKind.bits, IntKind.signed]
  simp
  split <;> omega

theorem cpyV_rep {t t' el : TypeId} {ty : TypeId} {vx vy : Value} {x y z : V} {e : Nat} {σ' : St} (hR : Rel m g σ w) (hx : Rep m g vx x) (hv : Rep m g vy y) (hy : cpyV x y e σ = some (z, σ'))
    (ht : P.underlying t = some (.slice el)) (hs : szIs P el e = true) :
    ∃ v' w', (Builtin.copy_ ⟨[t, t']⟩ ty #[vx, vy]).run P w = .ok v' w' ∧ Rel m g σ' w' ∧ Rep m g v' z := by
  unfold cpyV at hy
  split at hy <;> try (simp at hy; done)
  rename_i l off n c e' k hk
  split at hy <;> try (simp at hy; done)
  rename_i ys cs hys hcs
  split at hy <;> try (simp at hy; done)
  rename_i hcond
  obtain ⟨rfl, hpos, hfit⟩ := hcond
  simp only [Option.some.injEq, Prod.mk.injEq] at hy
  obtain ⟨rfl, rfl⟩ := hy
  cases hx with
  | ms l off n c e bl hbl hc =>
    obtain ⟨new, n1, n2, n3⟩ := src_rep (P := P) hR hv hys
    have hlk := lenOf_rep (P := P) hv hk w
    have hlo := cellsOf_obj hcs
    obtain ⟨b, vals, T, hb', hbase, hh, hrep, him⟩ := hR.objs l _ hlo
    rw [hbl] at hb'; cases hb'
    have hnsz : new.size = min n k * e := by rw [n2.1.1, n3]
    have hst := run_storeCells_at P bl off T new.toList 0 vals w hh (by rw [Array.length_toList, hnsz, hrep.1.1]; omega) (fun u hu => by
      obtain ⟨j, hj, rfl⟩ := List.getElem_of_mem hu
      have := n2.2 j (by rw [← n2.1.1]; simpa using hj)
      simpa [Array.getD_eq_getD_getElem?, show j < new.size by simpa using hj] using this)
    simp only [Nat.add_zero] at hst
    have hmin : Nat.min k n = min n k := Nat.min_comm k n
    refine ⟨.int .i64 (min n k : Nat), _, ?_, hR.store hlo hbl hh him (repC_splice (off := off) hrep n2 (by rw [n3]; omega)), .n _ _⟩
    simp only [Builtin.copy_]
    simp [run_underlying ht, hlk, run_szIs hs, hmin, n1 w rfl, hst, goInt]

theorem zeros_getD {z : List V} (k j : Nat) (h : j < k * z.length) : (zeros k z).getD j .u = z.getD (j % z.length) .u := by
  have hz : 0 < z.length := by rcases Nat.eq_zero_or_pos z.length with h' | h'; (rw [h'] at h; simp at h); exact h'
  have hu : ∀ x ∈ List.replicate k (V.agg z), x.cells.length = z.length := fun x hx => by rw [List.eq_of_mem_replicate hx]; rfl
  have hd : j / z.length < k := (Nat.div_lt_iff_lt_mul hz).2 h
  have := flat_getD hu (j / z.length) (j % z.length) (by simpa using hd) (Nat.mod_lt _ hz)
  rw [Nat.div_add_mod'] at this
  unfold zeros
  rw [this]
  have e : (List.replicate k (V.agg z)).getD (j / z.length) .u = .agg z := by simp [List.getD, hd]
  rw [e]; rfl
theorem zeros_length (k : Nat) (z : List V) : (zeros k z).length = k * z.length := by
  unfold zeros
  rw [flat_length (e := z.length) (fun x hx => by rw [List.eq_of_mem_replicate hx]; rfl)]
  simp

theorem repC_zeros {zv : Array Value} {z : List V} (h : RepC m g zv z) (k : Nat) : RepC m g (Builtin.zeroCells zv k) (zeros k z) := by
  have hs := h.1.1
  have key : ∀ j, j < k * z.length → (Builtin.zeroCells zv k).getD j undef = zv.getD (j % z.length) undef := fun j hj => by
    have hz : 0 < z.length := by rcases Nat.eq_zero_or_pos z.length with h' | h'; (rw [h'] at hj; simp at hj); exact h'
    have hlt : j % z.length < zv.size := by rw [hs]; exact Nat.mod_lt _ hz
    simp only [Builtin.zeroCells, hs, Array.getD_eq_getD_getElem?]
    rw [Array.getElem?_eq_getElem (by simpa using hj), Array.getElem?_eq_getElem hlt]
    simp only [Array.getElem_map, Array.getElem_range, Option.getD_some]
    rw [getElem!_pos zv _ hlt]
  refine ⟨⟨by rw [zeros_length]; simp [Builtin.zeroCells, hs], fun j hj => ?_⟩, fun j hj => ?_⟩
  · rw [zeros_length] at hj
    have hz : 0 < z.length := by rcases Nat.eq_zero_or_pos z.length with h' | h'; (rw [h'] at hj; simp at hj); exact h'
    rw [key j hj, zeros_getD k j hj]; exact h.1.2 _ (Nat.mod_lt _ hz)
  · rw [zeros_length] at hj
    have hz : 0 < z.length := by rcases Nat.eq_zero_or_pos z.length with h' | h'; (rw [h'] at hj; simp at hj); exact h'
    rw [key j hj]; exact h.2 _ (Nat.mod_lt _ hz)

theorem repC_plain {zv : Array Value} {z : List V} (h : RepC m g zv z) : zv.toList.all (·.oneCell') = true := by
  refine List.all_eq_true.2 fun v hv => ?_
  obtain ⟨j, hj, rfl⟩ := List.getElem_of_mem hv
  have := h.2 j (by rw [← h.1.1]; simpa using hj)
  simpa [Array.getD_eq_getD_getElem?, show j < zv.size by simpa using hj] using this

theorem appzP_rep {t t' el : TypeId} {ty : TypeId} {vx vy : Value} {x y : V} {zero : List V} {bytes : Nat} {K : V → St → Prop} {i : TypeInfo} {k' : IntKind} (hR : Rel m g σ w) (hx : Rep m g vx x) (hv : Rep m g vy y)
    (h : appzP x y zero bytes σ K) (ht : P.underlying t = some (.slice el)) (ht' : P.underlying t' = some (.int k')) (hi : P.info? el = some i) (hse : i.size = zero.length) (hby : i.bytes = bytes) (hz : zeroOk P m el zero = true) :
    ∃ v' w' g' z σ', (Builtin.append_ ⟨[t, t']⟩ ty #[vx, vy]).run P w = .ok v' w' ∧ G.le g g' ∧ Rel m g' σ' w' ∧ Rep m g' v' z ∧ K z σ' := by
  subst hby
  unfold appzP at h
  split at h <;> try exact h.elim
  rename_i k
  obtain ⟨h0, h1, h2, h⟩ := h
  obtain rfl := rep_int hv
  obtain ⟨zv, hz0, hz1, hz2⟩ : ∃ zv, i.zero = some zv ∧ (∀ w, (zeroValue el).run P w = .ok zv w) ∧ RepC m g zv.cells zero := by
    obtain ⟨zv, q1, q2⟩ := zero_rep (g := g) hz w
    unfold zeroOk at hz
    split at hz
    · rename_i v hv'
      obtain ⟨i', hi', hzz⟩ := Option.bind_eq_some_iff.1 hv'
      rw [hi] at hi'; cases hi'
      have e : ∀ w, (zeroValue el).run P w = .ok v w := fun w => by simp [zeroValue, typeInfo, hi, hzz]
      rw [e] at q1; cases q1
      exact ⟨zv, hzz, e, q2⟩
    · simp at hz
  have hzs : zv.cells.size = zero.length := hz2.1.1
  obtain ⟨q, rfl⟩ := Int.eq_ofNat_of_zero_le h0
  simp only [Int.toNat_natCast] at h
  have hw : IntKind.i64.wrap (q : Int) = q := wrap_i64 (by omega) (by omega)
  have hbig : ¬ (281474976710656 < (q : Int) * (i.bytes : Int)) := by omega
  have hneg : ¬ ((q : Int) < 0) := by omega
  have hap : ∀ w', (if q * zero.length = 0 then (pure #[] : Sem (Array Value)) else do pure (Builtin.zeroCells (← zeroValue el).cells q)).run P w' = .ok (Builtin.zeroCells zv.cells q) w' := by
    intro w'
    split
    · rename_i hq
      have : Builtin.zeroCells zv.cells q = #[] := by
        apply Array.eq_empty_of_size_eq_zero; simp [Builtin.zeroCells, hzs, hq]
      simp [this]
    · simp [hz1]
  have hw0 : IntKind.i64.wrap 0 = 0 := by decide
  have hem : q * zero.length = 0 → Builtin.zeroCells zv.cells q = #[] := fun hq => by
    apply Array.eq_empty_of_size_eq_zero; simp [Builtin.zeroCells, hzs, hq]
  refine appC_rep (el := el) (new := Builtin.zeroCells zv.cells q) hR hx h (repC_zeros hz2 q) (zeros_length q zero) hzs (repC_plain hz2) ?_ ?_ ?_
  · intro base n c old hvx hlt hnb hnl hold
    have hno : ¬ (n + q ≤ c) := by omega
    have h63' : ¬ (9223372036854775807 < ((n : Int) + (q : Int))) := by omega
    have h48' : ¬ (281474976710656 < Builtin.nextslicecap (n + q) c * i.bytes) := by
      have := growslice_fits (need := n + q) (old := c) (bytes := i.bytes) hlt hnb; omega
    subst hvx
    simp [Builtin.append_, run_underlying ht, run_underlying ht', sizeOf, typeInfo, hi, hse, asInt, asIntOf, hw, hbig, hneg, hno, h63', h48', Question.forced, hold, newRow, grownCap, hz1, hap]
    intro hq
    rw [hem hq]; simp
  · intro a n c w' hvx hyes hst
    subst hvx
    simp [Builtin.append_, run_underlying ht, run_underlying ht', sizeOf, typeInfo, hi, hse, asInt, asIntOf, hw, hbig, hneg, hyes, hst, hap]
    by_cases hq : q * zero.length = 0
    · rw [hem hq] at hst
      simp [hq, hst]
    · simp [hq, hz1, hst]
  · intro hvx hk0
    subst hvx; subst hk0
    simp [Builtin.append_, run_underlying ht, run_underlying ht', sizeOf, typeInfo, hi, hse, asInt, asIntOf, hw0]
    try simp [hw0]

theorem clrV_rep {t el : TypeId} {ty : TypeId} {vx : Value} {x z : V} {zero : List V} {σ' : St} (hR : Rel m g σ w) (hx : Rep m g vx x) (hy : clrV x zero σ = some (z, σ'))
    (ht : P.underlying t = some (.slice el)) (hz : zeroOk P m el zero = true) :
    ∃ v' w', (Builtin.clear_ ⟨[t]⟩ ty #[vx]).run P w = .ok v' w' ∧ Rel m g σ' w' ∧ Rep m g v' z := by
  unfold clrV at hy
  split at hy <;> try (simp at hy; done)
  rename_i l off n c e
  split at hy <;> try (simp at hy; done)
  rename_i cs hcs
  split at hy <;> try (simp at hy; done)
  rename_i hcond
  obtain ⟨rfl, hfit⟩ := hcond
  simp only [Option.some.injEq, Prod.mk.injEq] at hy
  obtain ⟨rfl, rfl⟩ := hy
  obtain ⟨zv, z1, z2⟩ := zero_rep (g := g) hz w
  cases hx with
  | ms l off n c e bl hbl hc =>
    have hlo := cellsOf_obj hcs
    obtain ⟨b, vals, T, hb', hbase, hh, hrep, him⟩ := hR.objs l _ hlo
    rw [hbl] at hb'; cases hb'
    have n2 := repC_zeros z2 n
    have n3 := zeros_length n zero
    have hnsz : (Builtin.zeroCells zv.cells n).size = n * zero.length := by rw [n2.1.1, n3]
    have hst := run_storeCells_at P bl off T (Builtin.zeroCells zv.cells n).toList 0 vals w hh (by rw [Array.length_toList, hnsz, hrep.1.1]; omega) (fun u hu => by
      obtain ⟨j, hj, rfl⟩ := List.getElem_of_mem hu
      have := n2.2 j (by rw [← n2.1.1]; simpa using hj)
      simpa [Array.getD_eq_getD_getElem?, show j < (Builtin.zeroCells zv.cells n).size by simpa using hj] using this)
    simp only [Nat.add_zero] at hst
    by_cases hn0 : n = 0
    · subst hn0
      have : splice cs off (zeros 0 zero) = cs := rfl
      rw [this]
      have hsame : σ.set l (.obj cs) = σ := by
        apply List.ext_getElem?
        intro q
        by_cases hq : l = q
        · subst hq; rw [List.getElem?_set_self (List.getElem?_eq_some_iff.1 hlo).1, hlo]
        · rw [List.getElem?_set_ne hq]
      rw [hsame]
      exact ⟨.tuple #[], w, by simp [Builtin.clear_, run_underlying ht], hR, .u _⟩
    · refine ⟨.tuple #[], _, ?_, hR.store hlo hbl hh him (repC_splice (off := off) hrep n2 (by rw [n3]; omega)), .u _⟩
      obtain ⟨n', rfl⟩ : ∃ n', n = n' + 1 := ⟨n - 1, by omega⟩
      simp [Builtin.clear_, run_underlying ht, z1, hst]

theorem chunks_flat {e : Nat} {ag : Bool} (h1 : ag = true ∨ e = 1) (hpos : 0 < e) : ∀ (n : Nat) (cs : List V), cs.length = n * e → (∀ c ∈ cs, c.cells = [c]) →
    (chunks e ag n cs).length = n ∧ (∀ x ∈ chunks e ag n cs, x.cells.length = e) ∧ flat (chunks e ag n cs) = cs
  | 0, cs, h, _ => by
    have : cs = [] := List.eq_nil_of_length_eq_zero (by simpa using h)
    subst this
    exact ⟨rfl, by simp [chunks], rfl⟩
  | n + 1, cs, h, hc => by
    rw [Nat.succ_mul] at h
    obtain ⟨i1, i2, i3⟩ := chunks_flat h1 hpos n (cs.drop e) (by simp; omega) (fun c hcm => hc c (List.mem_of_mem_drop hcm))
    have hx : (if ag then V.agg (cs.take e) else cs.getD 0 .u).cells = cs.take e := by
      cases ag with
      | true => rfl
      | false =>
        have he : e = 1 := by simpa using h1
        subst he
        cases cs with
        | nil => simp at h
        | cons c cs => simpa using hc c (by simp)
    refine ⟨by simp [chunks, i1], fun x hxm => ?_, ?_⟩
    · simp only [chunks, List.mem_cons] at hxm
      rcases hxm with rfl | hxm
      · rw [hx]; simp; omega
      · exact i2 x hxm
    · simp only [chunks, flat_cons, hx, i3, List.take_append_drop]

theorem slcaV_rep {t el : TypeId} {v : Value} {x y : V} {len e : Nat} {ag : Bool} {σ' : St} (hR : Rel m g σ w) (hv : Rep m g v x) (hy : slcaV x len e ag σ = some (y, σ'))
    (ht : P.underlying t = some (.array len el)) (hs : szIs P el e = true) :
    ∃ v' g', (Instr.sliceAt t v none none none).run P w = .ok v' w ∧ G.le g g' ∧ Rel m g' σ' w ∧ Rep m g' v' y := by
  unfold slcaV at hy
  split at hy <;> try (simp at hy; done)
  rename_i l
  split at hy <;> try (simp at hy; done)
  rename_i cs hcs
  split at hy <;> try (simp at hy; done)
  rename_i hcond
  obtain ⟨hpos, hl, h1⟩ := hcond
  simp only [Option.some.injEq, Prod.mk.injEq] at hy
  obtain ⟨rfl, rfl⟩ := hy
  cases hv with
  | p l off bl hb =>
    obtain ⟨vals, g', k1, k2, k3, k4⟩ := hR.hold (cellsOf_obj hcs) hb
    have hplain : ∀ c ∈ cs, c.cells = [c] := fun c hc => by
      obtain ⟨j, hj, rfl⟩ := List.getElem_of_mem hc
      have a1 := k1.1.2 j hj
      have a2 := k1.2 j hj
      have := one_cells a1 a2
      simpa [List.getD, hj] using this
    obtain ⟨c1, c2, c3⟩ := chunks_flat (by simpa using h1) hpos len cs hl hplain
    refine ⟨.slice (some ⟨bl, 0, none⟩) len len, g', ?_, k2, k3, ?_⟩
    · simp [Instr.sliceAt, run_underlying ht, Instr.sureAddr, Instr.sliceBounds, run_szIs hs, add_eq]
    · refine .l _ _ _ _ _ _ _ (fun j => vals.getD j undef) c1 (Nat.le_refl _) c2 (fun j hj => ?_) (fun j hj => ?_) (fun j hj => ?_) (by simp [CapOk])
      · rw [Nat.zero_add, k4]; simp [Array.getD_eq_getD_getElem?, show j < vals.size by rw [k1.1.1]; omega]
      · rw [c3]; exact (k1.1.2 j (by omega)).mono k2
      · exact k1.2 j (by omega)

set_option maxHeartbeats 1000000 in
theorem evW_sound {n : Nat} {a : Act} {T : Tm} (hR : Rel m g σ w) (hT : RepT m g n a.tmps T) (o : AOp) (co : Oper) {y : V} {σ' : St} (hc : chkOp P m n o co.op = true) (hy : evW o T σ = some (y, σ')) :
    ∃ v' w' g', ((execOp a.eval co).run P w = .ok (.value v') w' ∨ ((execOp a.eval co).run P w = .ok .skip w' ∧ v' = undef)) ∧ G.le g g' ∧ Rel m g' σ' w' ∧ Rep m g' v' y := by
  generalize hop : co.op = cop at hc
  unfold chkOp at hc
  split at hc <;> try (simp [evW] at hy; done)
  case h_9 =>
    simp only [Bool.and_eq_true] at hc
    simp only [evW] at hy
    obtain ⟨w', r1, r2, rfl⟩ := storeV_rep hR (rep_ev hT hc.1.1) (rep_ev hT hc.1.2) hy hc.2
    exact ⟨undef, w', g, .inr ⟨by unfold execOp; simp only [hop]; simp [r1], rfl⟩, G.le.refl g, r2, .u _⟩
  case h_10 =>
    simp only [evW, Option.some.injEq, Prod.mk.injEq] at hy
    obtain ⟨rfl, rfl⟩ := hy
    obtain ⟨v', w', g', r1, r2, r3, r4⟩ := alloc_rep hR hc
    exact ⟨v', w', g', .inl (by unfold execOp; simp only [hop]; exact run_v _ r1), r2, r3, r4⟩
  case h_11 =>
    simp only [evW] at hy
    obtain ⟨v', w', g', r1, r2, r3, r4⟩ := boxV_rep (P := P) hR (rep_ev hT hc) hy
    exact ⟨v', w', g', .inl (by unfold execOp; simp only [hop]; exact run_v _ r1), r2, r3, r4⟩
  case h_21 =>
    simp only [Bool.and_eq_true] at hc
    simp only [evW] at hy
    obtain ⟨⟨⟨⟨h1, h2⟩, h3⟩, h4⟩, h5⟩ := hc
    split at h5 <;> try (simp at h5; done)
    rename_i len' el hel
    simp only [Bool.and_eq_true, beq_iff_eq] at h5
    obtain ⟨⟨rfl, h5⟩, h6⟩ := h5
    have e1 := Option.isNone_iff_eq_none.1 h2
    have e2 := Option.isNone_iff_eq_none.1 h3
    have e3 := Option.isNone_iff_eq_none.1 h4
    subst e1 e2 e3
    obtain ⟨v', g', r1, r2, r3, r4⟩ := slcaV_rep hR (rep_ev hT h1) hy (arrayOf_spec hel) h5
    exact ⟨v', w, g', .inl (by unfold execOp; simp only [hop]; exact run_v _ r1), r2, r3, r4⟩
  case h_24 x y' e bytes x' y2 t t' =>
    simp only [Bool.and_eq_true] at hc
    simp only [evW] at hy
    obtain ⟨⟨h1, h2⟩, h3⟩ := hc
    split at h3 <;> try (simp at h3; done)
    rename_i el hel
    simp only [Bool.and_eq_true, beq_iff_eq] at h3
    obtain ⟨⟨⟨h4, h5⟩, h6⟩, h7⟩ := h3
    split at h6 <;> try (simp at h6; done)
    rename_i z hz
    simp only [beq_iff_eq] at h6
    obtain ⟨i, hi, hzz⟩ := Option.bind_eq_some_iff.1 hz
    have hse : i.size = e := by simp only [szIs, hi, Option.map_some, beq_iff_eq, Option.some.injEq] at h4; exact h4
    have hbe : i.bytes = bytes := by simp only [hi, Option.map_some, Option.some.injEq] at h5; exact h5
    obtain ⟨el', hel'⟩ := Option.isSome_iff_exists.1 h7
    obtain ⟨v', w', g', r1, r2, r3, r4⟩ := appV_rep (P := P) (ty := co.type) hR (rep_ev hT h1) (rep_ev hT h2) hy (sliceOf_spec hel) (sliceOf_spec hel') hi hse hbe hzz (by rw [h6, hse])
    have hex : execOp a.eval co = builtin .append ⟨[t, t']⟩ co.type (Array.map (fun | .const _ => true | _ => false) ⟨[x', y2]⟩) #[a.eval x', a.eval y2] := by
      rw [run_builtin _ _ _ _ _ hop]; simp [List.map_toArray] <;> rfl
    exact ⟨v', w', g', .inl (by rw [hex]; unfold builtin; exact run_v _ r1), r2, r3, r4⟩
  case h_34 x y' e x' y2 t t' =>
    simp only [Bool.and_eq_true] at hc
    simp only [evW] at hy
    obtain ⟨⟨h1, h2⟩, h3⟩ := hc
    split at h3 <;> try (simp at h3; done)
    rename_i el hel
    simp only [Bool.and_eq_true] at h3
    obtain ⟨v', w', r1, r2, r3⟩ := cpyV_rep (P := P) (t' := t') (ty := co.type) hR (rep_ev hT h1) (rep_ev hT h2) hy (sliceOf_spec hel) h3.1
    have hex : execOp a.eval co = builtin .copy ⟨[t, t']⟩ co.type (Array.map (fun | .const _ => true | _ => false) ⟨[x', y2]⟩) #[a.eval x', a.eval y2] := by
      rw [run_builtin _ _ _ _ _ hop]; simp [List.map_toArray] <;> rfl
    exact ⟨v', w', g, .inl (by rw [hex]; unfold builtin; exact run_v _ r1), G.le.refl g, r2, r3⟩
  case h_35 x z x' t =>
    simp only [Bool.and_eq_true] at hc
    simp only [evW] at hy
    obtain ⟨h1, h3⟩ := hc
    split at h3 <;> try (simp at h3; done)
    rename_i el hel
    obtain ⟨v', w', r1, r2, r3⟩ := clrV_rep (P := P) (ty := co.type) hR (rep_ev hT h1) hy (sliceOf_spec hel) h3
    have hex : execOp a.eval co = builtin .clear ⟨[t]⟩ co.type (Array.map (fun | .const _ => true | _ => false) ⟨[x']⟩) #[a.eval x'] := by
      rw [run_builtin _ _ _ _ _ hop]; simp <;> rfl
    exact ⟨v', w', g, .inl (by rw [hex]; unfold builtin; exact run_v _ r1), G.le.refl g, r2, r3⟩
  case h_39 => simp at hc

theorem appm_sound {n : Nat} {a : Act} {T : Tm} (hR : Rel m g σ w) (hT : RepT m g n a.tmps T) (x y : Od) (e bytes : Nat) (co : Oper) {K : V → St → Prop} (hc : chkOp P m n (.appm x y e bytes) co.op = true) (h : appmP (ev T x) (ev T y) e bytes σ K) :
    ∃ v' w' g' z σ', (execOp a.eval co).run P w = .ok (.value v') w' ∧ G.le g g' ∧ Rel m g' σ' w' ∧ Rep m g' v' z ∧ K z σ' := by
  generalize hop : co.op = cop at hc
  generalize ho : AOp.appm x y e bytes = o at hc
  unfold chkOp at hc
  split at hc <;> try (cases ho; done)
  case h_33 x0 y0 e0 bytes0 x' y2 t t' =>
    cases ho
    simp only [Bool.and_eq_true] at hc
    obtain ⟨⟨h1, h2⟩, h3⟩ := hc
    split at h3 <;> try (simp at h3; done)
    rename_i el hel
    simp only [Bool.and_eq_true, beq_iff_eq] at h3
    obtain ⟨⟨⟨h4, h5⟩, h6⟩, h7⟩ := h3
    split at h6 <;> try (simp at h6; done)
    rename_i z hz
    simp only [Bool.and_eq_true, beq_iff_eq] at h6
    obtain ⟨i, hi, hzz⟩ := Option.bind_eq_some_iff.1 hz
    have hse : i.size = e := by simp only [szIs, hi, Option.map_some, beq_iff_eq, Option.some.injEq] at h4; exact h4
    have hbe : i.bytes = bytes := by simp only [hi, Option.map_some, Option.some.injEq] at h5; exact h5
    obtain ⟨el', hel'⟩ := Option.isSome_iff_exists.1 h7
    obtain ⟨v', w', g', z', σ', r1, r2, r3, r4, r5⟩ := appmP_rep (P := P) (ty := co.type) hR (rep_ev hT h1) (rep_ev hT h2) h (sliceOf_spec hel) (sliceOf_spec hel') hi hse hbe hzz (by rw [h6.1, hse]) h6.2
    have hex : execOp a.eval co = builtin .append ⟨[t, t']⟩ co.type (Array.map (fun | .const _ => true | _ => false) ⟨[x', y2]⟩) #[a.eval x', a.eval y2] := by
      rw [run_builtin _ _ _ _ _ hop]; simp [List.map_toArray] <;> rfl
    exact ⟨v', w', g', z', σ', by rw [hex]; unfold builtin; exact run_v _ r1, r2, r3, r4, r5⟩
  case h_39 => simp at hc

theorem appz_sound {n : Nat} {a : Act} {T : Tm} (hR : Rel m g σ w) (hT : RepT m g n a.tmps T) (x y : Od) (z : List V) (bytes : Nat) (co : Oper) {K : V → St → Prop} (hc : chkOp P m n (.appz x y z bytes) co.op = true) (h : appzP (ev T x) (ev T y) z bytes σ K) :
    ∃ v' w' g' z σ', (execOp a.eval co).run P w = .ok (.value v') w' ∧ G.le g g' ∧ Rel m g' σ' w' ∧ Rep m g' v' z ∧ K z σ' := by
  generalize hop : co.op = cop at hc
  generalize ho : AOp.appz x y z bytes = o at hc
  unfold chkOp at hc
  split at hc <;> try (cases ho; done)
  case h_38 x0 y0 z0 bytes0 x' y2 t t' =>
    cases ho
    simp only [Bool.and_eq_true] at hc
    obtain ⟨⟨h1, h2⟩, h3⟩ := hc
    split at h3 <;> try (simp at h3; done)
    rename_i el hel
    simp only [Bool.and_eq_true, beq_iff_eq] at h3
    obtain ⟨⟨⟨h4, h5⟩, h6⟩, h7⟩ := h3
    obtain ⟨i, hi, hbe⟩ := Option.map_eq_some_iff.1 h6
    have hse : i.size = z.length := by simp only [szIs, hi, Option.map_some, beq_iff_eq, Option.some.injEq] at h5; exact h5
    obtain ⟨k', hk'⟩ := isIntT_spec h7
    obtain ⟨v', w', g', z', σ', r1, r2, r3, r4, r5⟩ := appzP_rep (P := P) (ty := co.type) hR (rep_ev hT h1) (rep_ev hT h2) h (sliceOf_spec hel) hk' hi hse hbe h4
    have hex : execOp a.eval co = builtin .append ⟨[t, t']⟩ co.type (Array.map (fun | .const _ => true | _ => false) ⟨[x', y2]⟩) #[a.eval x', a.eval y2] := by
      rw [run_builtin _ _ _ _ _ hop]; simp [List.map_toArray] <;> rfl
    exact ⟨v', w', g', z', σ', by rw [hex]; unfold builtin; exact run_v _ r1, r2, r3, r4, r5⟩
  case h_39 => simp at hc

end Go.Ab
/-
  Code over abstract states stands for the model's code: calls, regions, tests, blocks, loops.
-/
namespace Go.Ab
open Go.RowKit

variable {E : Env} {g : G} {σ : St} {w : World}

theorem ACalls.mono {id : Nat} {args : List V} {K K' : V → St → Prop} (h : ACalls E id args σ K) (hk : ∀ v σ', K v σ' → K' v σ') : ACalls E id args σ K' :=
  ⟨h.1, fun g w vals hR hA => (h.2 g w vals hR hA).mono fun _ _ ⟨v, x, g', σ', e, h1, h2, h3, h4⟩ => ⟨v, x, g', σ', e, h1, h2, h3, hk _ _ h4⟩⟩

theorem run_callFunc {f : FuncId} {args : Array Value} (h : calleeOk E.P f = true) : (callFunc f args).run E.P w = .ok (.enter f args) w := by
  unfold calleeOk at h
  split at h
  · rename_i fn hf
    simp only [Bool.and_eq_true, Bool.not_eq_true'] at h
    obtain ⟨h1, h2⟩ := h
    have h3 : fn.body.isNone = false := by cases hb : fn.body <;> simp_all
    unfold callFunc
    simp only [Sem.run_bind, run_program, Result.andThen_ok, hf, h1, h3, Bool.false_eq_true, if_false]
    rfl
  · simp at h

/-- What follows an operation. -/
def Next' (E : Env) (g : G) (a : Act) (dst : Option Tmp) (K : V → St → Prop) (a' : Act) (w' : World) : Prop :=
  ∃ g' v x σ', G.le g g' ∧ Rel E.m g' σ' w' ∧ Rep E.m g' v x ∧ a' = a.put dst v ∧ K x σ'

theorem wp_enter {co : Oper} {a : Act} {f : FuncId} {id : Nat} {vals : Array Value} {args : List V} {K : V → St → Prop} {Q : Exit → Act → World → Prop} (hR : Rel E.m g σ w)
    (hrun : (execOp a.eval co).run E.P w = .ok (.enter f vals) w) (hf : f = E.m id) (hA : RepA E.m g vals args) (h : ACalls E id args σ K) : co.wp E.P a w (Next' E g a co.dst K) Q := by
  subst hf
  unfold Oper.wp
  rw [hrun]
  simp only [Oper.upon]
  exact (h.2 g w vals hR hA).mono fun e w' ⟨v, x, g', σ', he, h1, h2, h3, h4⟩ => by
    subst he
    exact ⟨g', v, x, σ', h1, h2, h3, rfl, h4⟩

theorem repA_append {m : Nat → FuncId} {vs ws : Array Value} {xs ys : List V} (h : RepA m g vs xs) (h' : RepA m g ws ys) : RepA m g (vs ++ ws) (xs ++ ys) := by
  refine ⟨by simp [h.1, h'.1], fun j hj => ?_⟩
  have hs := h.1
  by_cases hlt : j < xs.length
  · rw [getD_app_left _ _ _ _ hlt]
    have : (vs ++ ws).getD j undef = vs.getD j undef := by
      simp only [Array.getD_eq_getD_getElem?]; rw [Array.getElem?_append_left (by omega)]
    rw [this]; exact h.2 j hlt
  · rw [getD_app_right _ _ _ _ (by omega)]
    have : (vs ++ ws).getD j undef = ws.getD (j - xs.length) undef := by
      simp only [Array.getD_eq_getD_getElem?]; rw [Array.getElem?_append_right (by omega), hs]
    rw [this]; exact h'.2 _ (by simp at hj; omega)

theorem chk_call {P : Program} {m : Nat → FuncId} {n f : Nat} {xs : List Od} {cop : Op} (h : chkOp P m n (.call f xs) cop = true) :
    ∃ ys ts, cop = .call { callee := .value (.func (m f)), args := ⟨ys⟩, argTypes := ts } ∧ chkOs m n xs ys = true := by
  cases cop <;> try (exact nomatch (show false = true from h))
  rename_i c
  obtain ⟨callee, ⟨args⟩, ts⟩ := c
  cases callee <;> try (exact nomatch (show false = true from h))
  rename_i fo
  cases fo <;> try (exact nomatch (show false = true from h))
  rename_i f'
  have h' : (m f == f' && chkOs m n xs args) = true := h
  simp only [Bool.and_eq_true, beq_iff_eq] at h'
  obtain ⟨rfl, h2⟩ := h'
  exact ⟨args, ts, rfl, h2⟩

theorem chk_callv {P : Program} {m : Nat → FuncId} {n : Nat} {f : Od} {xs : List Od} {cop : Op} (h : chkOp P m n (.callv f xs) cop = true) :
    ∃ fo ys ts, cop = .call { callee := .value fo, args := ⟨ys⟩, argTypes := ts } ∧ chkO m n f fo = true ∧ chkOs m n xs ys = true := by
  cases cop <;> try (exact nomatch (show false = true from h))
  rename_i c
  obtain ⟨callee, ⟨args⟩, ts⟩ := c
  cases callee <;> try (exact nomatch (show false = true from h))
  rename_i fo
  have h' : (chkO m n f fo && chkOs m n xs args) = true := h
  simp only [Bool.and_eq_true] at h'
  exact ⟨fo, args, ts, rfl, h'.1, h'.2⟩

theorem axOp_wp {n : Nat} {a : Act} {T : Tm} {K : V → St → Prop} {Q : Exit → Act → World → Prop} (hR : Rel E.m g σ w) (hT : RepT E.m g n a.tmps T) (o : AOp) (co : Oper) (hc : chkOp E.P E.m n o co.op = true)
    (h : axOp E o T σ K) : co.wp E.P a w (Next' E g a co.dst K) Q := by
  have plain : (match o.looks with | true => optP (evP o T σ) σ K | false => optW (evW o T σ) K) → co.wp E.P a w (Next' E g a co.dst K) Q := by
    intro h
    cases hl : o.looks with
    | true =>
      simp only [hl] at h
      cases hy : evP o T σ with
      | none => simp only [hy, optP] at h
      | some y =>
        simp only [hy, optP] at h
        obtain ⟨v', w', g', r1, r2, r3, r4⟩ := evP_sound hR hT o co hc hy
        unfold Oper.wp
        rw [r1]
        exact ⟨g', v', y, σ, r2, r3, r4, rfl, h⟩
    | false =>
      simp only [hl] at h
      cases hy : evW o T σ with
      | none => simp only [hy, optW] at h
      | some y =>
        obtain ⟨y, σ'⟩ := y
        simp only [hy, optW] at h
        obtain ⟨v', w', g', r1, r2, r3, r4⟩ := evW_sound hR hT o co hc hy
        unfold Oper.wp
        rcases r1 with r1 | ⟨r1, rfl⟩
        · rw [r1]; exact ⟨g', v', y, σ', r2, r3, r4, rfl, h⟩
        · rw [r1]; exact ⟨g', undef, y, σ', r2, r3, r4, rfl, h⟩
  cases o
  case call f args =>
    simp only [axOp] at h
    obtain ⟨ys, ts, hop, hcs⟩ := chk_call hc
    have hA := repA_of hT hcs
    refine wp_enter hR (f := E.m f) (vals := (ys.map a.eval).toArray) ?_ rfl hA h
    unfold execOp
    simp only [hop, Sem.run_bind]
    simp [resolve, Deferred.ofValue, Act.eval, invoke, run_callFunc h.1]
  case callv f args =>
    simp only [axOp, callV] at h
    obtain ⟨fo, ys, ts, hop, hcf, hcs⟩ := chk_callv hc
    have hA := repA_of hT hcs
    have hf := rep_ev hT hcf
    split at h <;> try exact h.elim
    rename_i id first caps hfv
    rw [hfv] at hf
    generalize hfe : a.eval fo = fe at hf
    cases hf with
    | f fn first caps vf vc h1 h2 hf1 hc1 =>
      refine wp_enter hR (f := E.m id) (vals := vf ++ (ys.map a.eval).toArray ++ vc) ?_ rfl (repA_append (repA_append ⟨h1, hf1⟩ hA) ⟨h2, hc1⟩) h
      unfold execOp
      simp only [hop, Sem.run_bind]
      simp [resolve, hfe, Deferred.ofValue, invoke, run_callFunc h.1]
  case appm x y e bytes =>
    simp only [axOp] at h
    obtain ⟨v', w', g', z, σ', r1, r2, r3, r4, r5⟩ := appm_sound hR hT x y e bytes co hc h
    unfold Oper.wp
    rw [r1]; exact ⟨g', v', z, σ', r2, r3, r4, rfl, r5⟩
  case appz x y z bytes =>
    simp only [axOp] at h
    obtain ⟨v', w', g', z, σ', r1, r2, r3, r4, r5⟩ := appz_sound hR hT x y z bytes co hc h
    unfold Oper.wp
    rw [r1]; exact ⟨g', v', z, σ', r2, r3, r4, rfl, r5⟩
  all_goals exact plain h

end Go.Ab
/-
  Regions in the order of the text, and the code around them.
-/
namespace Go.Ab
open Go.RowKit

variable {E : Env} {g : G} {σ : St} {w : World}

/-- What follows an operation, the frame's value laid. -/
def After (E : Env) (n : Nat) (g : G) (T : Tm) (dst : Option Nat) (K : V → St → Prop) (a' : Act) (w' : World) : Prop :=
  ∃ g' x σ', G.le g g' ∧ Rel E.m g' σ' w' ∧ RepT E.m g' n a'.tmps (put T dst x) ∧ a'.defers = [] ∧ K x σ'

def chkOper (P : Program) (m : Nat → FuncId) (n : Nat) (ops : Array Oper) (o : AOper) (co : Oper) : Bool :=
  (match o.dst, co.dst with
    | none, none => true
    | some d, some d' => d == d' && decide (d < n)
    | _, _ => false) &&
  (match o.guard, co.guard with
    | none, none => true
    | some (t, want), some (j, want') => want == want' && ((ops[j]?).bind (·.dst)) == some t && decide (t < n)
    | _, _ => false) && chkOp P m n o.op co.op

theorem sp_out {m : Nat → FuncId} {sp : Bool} {K : V → St → Prop} {v : Value} {x : V} (hv : Rep m g v x) (h : spP sp K x σ) : ∃ x', Rep m g v x' ∧ K x' σ := by
  cases sp with
  | false => exact ⟨x, hv, h⟩
  | true =>
    simp only [spP, splitP] at h
    split at h <;> try exact h.elim
    rename_i t
    cases t with
    | true => exact ⟨_, hv, h.1 rfl⟩
    | false => exact ⟨_, hv, h.2 rfl⟩

theorem chk_dst {P : Program} {m : Nat → FuncId} {n : Nat} {ops : Array Oper} {o : AOper} {co : Oper} (hc : chkOper P m n ops o co = true) : co.dst = o.dst ∧ ∀ d, o.dst = some d → d < n := by
  simp only [chkOper, Bool.and_eq_true] at hc
  obtain ⟨⟨h, _⟩, _⟩ := hc
  cases h1 : o.dst <;> cases h2 : co.dst <;> simp only [h1, h2] at h
  · exact ⟨rfl, fun d hd => by cases hd⟩
  · cases h
  · cases h
  · simp only [Bool.and_eq_true, beq_iff_eq, decide_eq_true_eq] at h
    obtain ⟨rfl, h⟩ := h
    exact ⟨rfl, fun d hd => by cases hd; exact h⟩

theorem next_after {n : Nat} {a : Act} {T : Tm} {dst : Option Nat} {sp : Bool} {K : V → St → Prop} (hT : RepT E.m g n a.tmps T) (hd : a.defers = []) (hdst : ∀ d, dst = some d → d < n) {a' : Act} {w' : World}
    (h : Next' E g a dst (spP sp K) a' w') : After E n g T dst K a' w' := by
  obtain ⟨g', v, x, σ', h1, h2, h3, rfl, h5⟩ := h
  obtain ⟨x', h6, h7⟩ := sp_out h3 h5
  exact ⟨g', x', σ', h1, h2, (hT.mono h1).put dst hdst h6, by cases dst <;> exact hd, h7⟩

theorem axOper_wp {n : Nat} {a : Act} {T : Tm} {K : V → St → Prop} {Q : Exit → Act → World → Prop} {ops : Array Oper} {i : Nat} {o : AOper} {co : Oper} (hR : Rel E.m g σ w) (hT : RepT E.m g n a.tmps T) (hd : a.defers = [])
    (hi : ops[i]? = some co) (hc : chkOper E.P E.m n ops o co = true) (h : axOper E o T σ K) : wpOp E.P ops Q i (After E n g T o.dst K) a w := by
  obtain ⟨e1, e2⟩ := chk_dst hc
  have hc' := hc
  simp only [chkOper, Bool.and_eq_true] at hc'
  obtain ⟨⟨_, hg⟩, hop⟩ := hc'
  unfold wpOp
  simp only [hi]
  have run : axOp E o.op T σ (spP o.sp K) → co.wp E.P a w (After E n g T o.dst K) Q := fun h =>
    Oper.wp_mono (fun a' w' h' => next_after hT hd e2 (by rw [← e1]; exact h')) (axOp_wp hR hT o.op co hop h)
  have skip : K (.tup []) σ → After E n g T o.dst K (a.put co.dst undef) w := fun h =>
    ⟨g, .tup [], σ, G.le.refl g, hR, by rw [e1]; exact hT.put o.dst e2 (.tup _ _ rfl fun j hj => absurd hj (by simp)), by rw [e1]; cases o.dst <;> exact hd, h⟩
  unfold axOper at h
  cases hgo : o.guard with
  | none =>
    simp only [hgo] at h hg
    have hcg : co.guard = none := by cases hq : co.guard <;> simp_all
    simp only [Region.wanted, hcg, if_true]
    exact .inl (run h)
  | some p =>
    obtain ⟨t, want⟩ := p
    simp only [hgo] at h hg
    cases hcg : co.guard with
    | none => simp [hcg] at hg
    | some q =>
      obtain ⟨j, want'⟩ := q
      simp only [hcg, Bool.and_eq_true, beq_iff_eq, decide_eq_true_eq] at hg
      obtain ⟨⟨rfl, hj⟩, ht⟩ := hg
      have hrep := hT.2 t ht
      have hts : a.tmps[t]? = some (a.tmps.getD t undef) := by
        have : t < a.tmps.size := by rw [hT.1]; exact ht
        simp [Array.getD_eq_getD_getElem?, this]
      have yb : ∀ b, T t = .b b → yielded ops a.tmps j = some b := fun b hb => by
        rw [hb] at hrep
        have hv : a.tmps.getD t undef = .bool b := by
          generalize a.tmps.getD t undef = q at hrep
          cases hrep; rfl
        unfold yielded
        rw [hj]
        simp only [Option.bind_some, hts, hv]
      unfold guardP at h
      split at h
      · rename_i hb
        have := yb true hb
        cases want with
        | true => simp only [Region.wanted, hcg, this, beq_self_eq_true, if_true]; exact .inl (run h)
        | false =>
          have e : ((some true : Option Bool) == some false) = false := rfl
          simp only [Region.wanted, hcg, this, e, Bool.false_eq_true, if_false]; exact skip h
      · rename_i hb
        have := yb false hb
        cases want with
        | false => simp only [Region.wanted, hcg, this, beq_self_eq_true, if_true]; exact .inl (run h)
        | true =>
          have e : ((some false : Option Bool) == some true) = false := rfl
          simp only [Region.wanted, hcg, this, e, Bool.false_eq_true, if_false]; exact skip h
      · rename_i hb
        rw [hb] at hrep
        have hv : a.tmps.getD t undef = .tuple #[] := by
          generalize a.tmps.getD t undef = q at hrep
          cases hrep with
          | tup xs vs h1 _ => rw [Array.eq_empty_of_size_eq_zero h1]
        have : yielded ops a.tmps j = none := by
          unfold yielded
          rw [hj]
          simp only [Option.bind_some, hts, hv]
        have e : ((none : Option Bool) == some want) = false := rfl
        simp only [Region.wanted, hcg, this, e, Bool.false_eq_true, if_false]; exact skip h
      · exact h.elim

/-- What is left behind a piece of code. -/
def Lift (E : Env) (n : Nat) (g : G) (Q : Ex → Tm → St → Prop) : Exit → Act → World → Prop
  | .normal, a, w => ∃ g' T σ, G.le g g' ∧ Rel E.m g' σ w ∧ RepT E.m g' n a.tmps T ∧ a.defers = [] ∧ Q .normal T σ
  | .exit i, a, w => ∃ g' T σ, G.le g g' ∧ Rel E.m g' σ w ∧ RepT E.m g' n a.tmps T ∧ a.defers = [] ∧ Q (.exit i) T σ
  | .ret, a, w => ∃ g' T σ, G.le g g' ∧ Rel E.m g' σ w ∧ RepT E.m g' n a.tmps T ∧ a.defers = [] ∧ Q .ret T σ
  | _, _, _ => False

theorem Lift.le {n : Nat} {g' : G} {Q : Ex → Tm → St → Prop} (hg : G.le g g') {e : Exit} {a : Act} {w : World} (h : Lift E n g' Q e a w) : Lift E n g Q e a w := by
  cases e <;> simp only [Lift] at h ⊢ <;> first
    | (obtain ⟨g2, T, σ, h1, h2⟩ := h; exact ⟨g2, T, σ, hg.trans h1, h2⟩)
    | exact h

def chkOpsL (P : Program) (m : Nat → FuncId) (n : Nat) (ops : Array Oper) : List AOper → List Oper → Bool
  | [], [] => true
  | o :: os, co :: cos => chkOper P m n ops o co && chkOpsL P m n ops os cos
  | _, _ => false

theorem axOps_wp {n : Nat} {K : Tm → St → Prop} {Q : Exit → Act → World → Prop} {ops : Array Oper} : ∀ (os : List AOper) (cos : List Oper) (i : Nat) {g : G} {a : Act} {w : World} {T : Tm} {σ : St},
    Rel E.m g σ w → RepT E.m g n a.tmps T → a.defers = [] → (∀ j co, cos[j]? = some co → ops[i + j]? = some co) → chkOpsL E.P E.m n ops os cos = true →
    (∀ a w, (∃ g' T σ, G.le g g' ∧ Rel E.m g' σ w ∧ RepT E.m g' n a.tmps T ∧ a.defers = [] ∧ K T σ) → Q .normal a w) → axOps E os T σ K → wpOps E.P ops Q (List.range' i os.length) a w
  | [], [], i, g, a, w, T, σ, hR, hT, hd, _, _, hQ, h => hQ a w ⟨g, T, σ, G.le.refl g, hR, hT, hd, h⟩
  | o :: os, co :: cos, i, g, a, w, T, σ, hR, hT, hd, hi, hc, hQ, h => by
    simp only [chkOpsL, Bool.and_eq_true] at hc
    simp only [axOps] at h
    rw [show List.range' i (o :: os).length = i :: List.range' (i + 1) os.length from rfl, wpOps_cons]
    refine wpOp_mono ?_ (axOper_wp hR hT hd (hi 0 co rfl) hc.1 h)
    rintro a' w' ⟨g', x, σ', h1, h2, h3, h4, h5⟩
    refine axOps_wp os cos (i + 1) h2 h3 h4 (fun j co' hj => ?_) hc.2 (fun a w ⟨g2, T2, σ2, k1, k2⟩ => hQ a w ⟨g2, T2, σ2, h1.trans k1, k2⟩) h5
    have := hi (j + 1) co' (by simpa using hj)
    rwa [show i + (j + 1) = i + 1 + j by omega] at this
  | [], _ :: _, _, _, _, _, _, _, _, _, _, _, hc, _, _ => by simp [chkOpsL] at hc
  | _ :: _, [], _, _, _, _, _, _, _, _, _, _, hc, _, _ => by simp [chkOpsL] at hc

theorem chkOpsL_len {P : Program} {m : Nat → FuncId} {n : Nat} {ops : Array Oper} : ∀ {os : List AOper} {cos : List Oper}, chkOpsL P m n ops os cos = true → os.length = cos.length
  | [], [], _ => rfl
  | o :: os, co :: cos, h => by simp only [chkOpsL, Bool.and_eq_true] at h; simp [chkOpsL_len h.2]
  | [], _ :: _, h => by simp [chkOpsL] at h
  | _ :: _, [], h => by simp [chkOpsL] at h

theorem region_wp {n : Nat} {a : Act} {T : Tm} {id : Nat} {ops : Array Oper} {os : List AOper} {Q : Ex → Tm → St → Prop} (hR : Rel E.m g σ w) (hT : RepT E.m g n a.tmps T) (hd : a.defers = [])
    (hc : chkOpsL E.P E.m n ops os ops.toList = true) (h : axOps E os T σ (Q .normal)) : (Code.region id ops false).wp E.P (Lift E n g Q) a w := by
  refine wp_region ?_
  have hl := chkOpsL_len hc
  rw [List.range_eq_range', show ops.size = os.length by rw [hl]; simp]
  exact axOps_wp os ops.toList 0 hR hT hd (fun j co hj => by simpa using hj) hc (fun a w h => h) h

theorem least {I : Nat → Prop} : ∀ n, I n → ∃ k, I k ∧ ∀ j, I j → k ≤ j := by
  intro n
  induction n using Nat.strongRecOn with
  | _ n ih =>
    intro hn
    by_cases h : ∃ j, j < n ∧ I j
    · obtain ⟨j, hj, hI⟩ := h
      exact ih j hj hI
    · exact ⟨n, hn, fun j hj => Nat.le_of_not_lt fun hlt => h ⟨j, hlt, hj⟩⟩

theorem wp_loop_ghost {P : Program} {c : Code} {Q : Exit → Act → World → Prop} (I : Nat → Act → World → Prop) (round : ∀ n a w, I n a w → c.wp P (Exit.then (fun a' w' => ∃ n', n' < n ∧ I n' a' w') Q) a w)
    {a : Act} {w : World} {n : Nat} (h : I n a w) : (Code.loop c).wp P Q a w := by
  classical
  let μ : Act → World → Nat := fun a w => if h : ∃ k, I k a w ∧ ∀ j, I j a w → k ≤ j then h.choose else 0
  have hμ : ∀ a w n, I n a w → I (μ a w) a w ∧ μ a w ≤ n := fun a w n hn => by
    have hex : ∃ k, I k a w ∧ ∀ j, I j a w → k ≤ j := least (I := fun k => I k a w) n hn
    have e : μ a w = hex.choose := by simp only [μ, hex, dif_pos]
    have hs := hex.choose_spec
    rw [e]
    exact ⟨hs.1, hs.2 n hn⟩
  refine wp_loop (fun a w => ∃ n, I n a w) μ ⟨n, h⟩ ?_
  rintro a w ⟨n, hn⟩
  obtain ⟨h1, _⟩ := hμ a w n hn
  refine wp_mono (round _ a w h1) ?_
  intro e a' w' he
  cases e <;> try exact he
  obtain ⟨n', hlt, hI⟩ := he
  obtain ⟨h3, h4⟩ := hμ a' w' n' hI
  exact ⟨⟨_, h3⟩, by omega⟩

theorem forallV_spec : ∀ (k : Nat) (P : List V → Prop), forallV k P → ∀ vs : List V, vs.length = k → P vs
  | 0, P, h, vs, hl => by
    have : vs = [] := List.eq_nil_of_length_eq_zero hl
    subst this; exact h
  | k + 1, P, h, vs, hl => by
    cases vs with
    | nil => simp at hl
    | cons v vs => exact forallV_spec k (fun l => P (v :: l)) (h v) vs (by simpa using hl)

theorem keeps_spec {T T' : Tm} : ∀ {keep : List Nat} {p : Prop}, keeps T T' keep p → (∀ i ∈ keep, T' i = T i) ∧ p
  | [], p, h => ⟨by simp, h⟩
  | i :: r, p, h => by
    obtain ⟨h1, h2⟩ := h
    obtain ⟨h3, h4⟩ := keeps_spec (keep := r) h2
    refine ⟨fun j hj => ?_, h4⟩
    rcases List.mem_cons.1 hj with rfl | hj
    · exact h1
    · exact h3 j hj

theorem head_rep {m : Nat → FuncId} {n : Nat} {tmps : Array Value} {T T' : Tm} (h : RepT m g n tmps T') {keep : List Nat} (hk : ∀ i ∈ keep, T' i = T i) : ∀ inv : List Nat, RepT m g n tmps (headT T keep inv (inv.map T')) := by
  have base : ∀ keep : List Nat, (∀ i ∈ keep, T' i = T i) → RepT m g n tmps (keepT T keep) := by
    intro keep
    induction keep with
    | nil => intro _; exact ⟨h.1, fun i _ => .u _⟩
    | cons k keep ih =>
      intro hk
      have := ih (fun i hi => hk i (by simp [hi]))
      refine ⟨h.1, fun i hi => ?_⟩
      simp only [keepT, upd_apply]
      by_cases e : i = k
      · rw [if_pos e, ← hk k (by simp), ← e]; exact h.2 i hi
      · rw [if_neg e]; exact this.2 i hi
  intro inv
  induction inv with
  | nil => exact base keep hk
  | cons j inv ih =>
    refine ⟨h.1, fun i hi => ?_⟩
    simp only [List.map_cons, headT, upd_apply]
    by_cases e : i = j
    · rw [if_pos e, ← e]; exact h.2 i hi
    · rw [if_neg e]; exact ih.2 i hi

end Go.Ab
/-
  Regions whose order is open: done in the order of the text they promise what they promise in each order, if loads on either side of a write are the same.
-/
namespace Go.Ab
open Go.RowKit

variable {E : Env} {g : G} {σ : St} {w : World}

def Od.tmps : Od → List Nat
  | .t i => [i]
  | .c _ => []

def oTmps : Option Od → List Nat
  | some x => x.tmps
  | none => []

def AOp.tmps : AOp → List Nat
  | .mv x | .un _ x | .fld x _ _ _ | .ext x _ | .load x _ _ | .box x | .fa x _ _ _ | .slca x _ _ _ | .len x | .slen x | .nilchk x | .cnv _ x | .b2s x | .clr x _ | .cap x | .mkz x _ => x.tmps
  | .pick c a b => c.tmps ++ a.tmps ++ b.tmps
  | .bin _ _ x y | .store x y _ | .ias x y _ | .iaa x y _ _ | .ixa x y _ _ _ | .ixs x y | .app x y _ _ | .appm x y _ _ | .appz x y _ _ | .cpy x y _ => x.tmps ++ y.tmps
  | .alloc _ | .lenc _ => []
  | .build _ ps => ps.flatMap fun p => p.2.2.tmps
  | .mks _ xs | .mn xs | .mx xs | .call _ xs => xs.flatMap Od.tmps
  | .callv f xs => f.tmps ++ xs.flatMap Od.tmps
  | .mkf _ xs ys => xs.flatMap Od.tmps ++ ys.flatMap Od.tmps
  | .slc x lo hi m3 _ => x.tmps ++ oTmps lo ++ oTmps hi ++ oTmps m3
  | .slcs x lo hi | .slcm x lo hi _ _ => x.tmps ++ oTmps lo ++ oTmps hi

def AOper.tmps (o : AOper) : List Nat :=
  o.op.tmps ++ (match o.guard with | some (t, _) => [t] | none => [])

theorem ev_congr {T T' : Tm} {x : Od} (h : ∀ i ∈ x.tmps, T i = T' i) : ev T x = ev T' x := by
  cases x with
  | t i => exact h i (by simp [Od.tmps])
  | c v => rfl

theorem evs_congr {T T' : Tm} {xs : List Od} (h : ∀ i ∈ xs.flatMap Od.tmps, T i = T' i) : xs.map (ev T) = xs.map (ev T') :=
  List.map_congr_left fun x hx => ev_congr fun i hi => h i (List.mem_flatMap.2 ⟨x, hx, hi⟩)

theorem evo_congr {T T' : Tm} {x : Option Od} (h : ∀ i ∈ oTmps x, T i = T' i) : x.map (ev T) = x.map (ev T') := by
  cases x with
  | none => rfl
  | some x => simp only [Option.map_some]; rw [ev_congr h]

theorem evP_congr {T T' : Tm} {o : AOp} (h : ∀ i ∈ o.tmps, T i = T' i) : evP o T σ = evP o T' σ := by
  cases o <;> simp only [AOp.tmps, List.mem_append] at h <;> simp only [evP]
  case mv => rw [ev_congr h]
  case pick => rw [ev_congr fun i hi => h i (.inl (.inl hi)), ev_congr fun i hi => h i (.inl (.inr hi)), ev_congr fun i hi => h i (.inr hi)]
  case bin => rw [ev_congr fun i hi => h i (.inl hi), ev_congr fun i hi => h i (.inr hi)]
  case un => rw [ev_congr h]
  case fld => rw [ev_congr h]
  case ext => rw [ev_congr h]
  case load => rw [ev_congr h]
  case build z ps =>
    congr 1
    refine List.map_congr_left fun p hp => ?_
    rw [ev_congr fun i hi => h i (List.mem_flatMap.2 ⟨p, hp, hi⟩)]
  case mks => rw [evs_congr h]
  case fa => rw [ev_congr h]
  case ias => rw [ev_congr fun i hi => h i (.inl hi), ev_congr fun i hi => h i (.inr hi)]
  case iaa => rw [ev_congr fun i hi => h i (.inl hi), ev_congr fun i hi => h i (.inr hi)]
  case ixa => rw [ev_congr fun i hi => h i (.inl hi), ev_congr fun i hi => h i (.inr hi)]
  case ixs => rw [ev_congr fun i hi => h i (.inl hi), ev_congr fun i hi => h i (.inr hi)]
  case slc => rw [ev_congr fun i hi => h i (.inl (.inl (.inl hi))), evo_congr fun i hi => h i (.inl (.inl (.inr hi))), evo_congr fun i hi => h i (.inl (.inr hi)), evo_congr fun i hi => h i (.inr hi)]
  case slcs => rw [ev_congr fun i hi => h i (.inl (.inl hi)), evo_congr fun i hi => h i (.inl (.inr hi)), evo_congr fun i hi => h i (.inr hi)]
  case len => rw [ev_congr h]
  case slen => rw [ev_congr h]
  case mn => rw [evs_congr h]
  case mx => rw [evs_congr h]
  case mkf => rw [evs_congr fun i hi => h i (.inl hi), evs_congr fun i hi => h i (.inr hi)]
  case nilchk => rw [ev_congr h]
  case cnv => rw [ev_congr h]
  case b2s => rw [ev_congr h]
  case cap => rw [ev_congr h]
  case slcm => rw [ev_congr fun i hi => h i (.inl (.inl hi)), evo_congr fun i hi => h i (.inl (.inr hi)), evo_congr fun i hi => h i (.inr hi)]

theorem evW_congr {T T' : Tm} {o : AOp} (h : ∀ i ∈ o.tmps, T i = T' i) : evW o T σ = evW o T' σ := by
  cases o <;> simp only [AOp.tmps, List.mem_append] at h <;> simp only [evW]
  case store => rw [ev_congr fun i hi => h i (.inl hi), ev_congr fun i hi => h i (.inr hi)]
  case box => rw [ev_congr h]
  case slca => rw [ev_congr h]
  case app => rw [ev_congr fun i hi => h i (.inl hi), ev_congr fun i hi => h i (.inr hi)]
  case cpy => rw [ev_congr fun i hi => h i (.inl hi), ev_congr fun i hi => h i (.inr hi)]
  case clr => rw [ev_congr h]
  case mkz => rw [ev_congr h]

theorem axOp_congr {T T' : Tm} {o : AOp} (h : ∀ i ∈ o.tmps, T i = T' i) (K : V → St → Prop) : axOp E o T σ K = axOp E o T' σ K := by
  cases o
  case call f xs => simp only [axOp]; rw [evs_congr h]
  case callv f xs =>
    simp only [AOp.tmps, List.mem_append] at h
    simp only [axOp]
    rw [ev_congr fun i hi => h i (.inl hi), evs_congr fun i hi => h i (.inr hi)]
  case appm x y e bytes =>
    simp only [AOp.tmps, List.mem_append] at h
    simp only [axOp]
    rw [ev_congr fun i hi => h i (.inl hi), ev_congr fun i hi => h i (.inr hi)]
  case appz x y e bytes =>
    simp only [AOp.tmps, List.mem_append] at h
    simp only [axOp]
    rw [ev_congr fun i hi => h i (.inl hi), ev_congr fun i hi => h i (.inr hi)]
  all_goals
    simp only [axOp]
    rw [evP_congr h, evW_congr h]

theorem axOper_congr {T T' : Tm} {o : AOper} (h : ∀ i ∈ o.tmps, T i = T' i) (K : V → St → Prop) : axOper E o T σ K = axOper E o T' σ K := by
  unfold axOper
  cases hg : o.guard with
  | none => simp only; rw [axOp_congr fun i hi => h i (by simp [AOper.tmps, hi])]
  | some p =>
    obtain ⟨t, want⟩ := p
    simp only
    rw [h t (by simp [AOper.tmps, hg]), axOp_congr fun i hi => h i (by simp [AOper.tmps, hi])]

theorem evG_congr {T T' : Tm} {o : AOper} (h : ∀ i ∈ o.tmps, T i = T' i) : evG o T σ = evG o T' σ := by
  unfold evG
  cases hg : o.guard with
  | none => simp only; rw [evP_congr fun i hi => h i (by simp [AOper.tmps, hi])]
  | some p =>
    obtain ⟨t, want⟩ := p
    simp only
    rw [h t (by simp [AOper.tmps, hg]), evP_congr fun i hi => h i (by simp [AOper.tmps, hi])]

theorem evP_still {o : AOp} (hl : o.isLoad = false) (T : Tm) (σ σ' : St) : evP o T σ = evP o T σ' := by
  cases o <;> first | rfl | (simp [AOp.isLoad] at hl)

theorem evG_still {o : AOper} (hl : o.op.isLoad = false) (T : Tm) (σ σ' : St) : evG o T σ = evG o T σ' := by
  unfold evG
  rw [evP_still hl T σ σ']

theorem put_other {T : Tm} {d : Option Nat} {v : V} {i : Nat} (h : d ≠ some i) : put T d v i = T i := by
  cases d with
  | none => rfl
  | some j =>
    simp only [put, upd_apply]
    rw [if_neg]
    rintro rfl; exact h rfl

theorem put_comm {T : Tm} {d d' : Option Nat} {v v' : V} (h : ∀ i, d = some i → d' ≠ some i) : put (put T d v) d' v' = put (put T d' v') d v := by
  cases d with
  | none => rfl
  | some i =>
    cases d' with
    | none => rfl
    | some j =>
      have hne : ¬ j = i := fun e => h i rfl (by rw [e])
      funext k
      simp only [put, upd_apply]
      by_cases h1 : k = j
      · subst h1; simp [hne]
      · simp [h1]

theorem dstV_put {T : Tm} {d e : Option Nat} {v : V} (h : ∀ i, e = some i → d ≠ some i) : dstV (put T d v) e = dstV T e := by
  cases e with
  | none => rfl
  | some i => exact put_other (h i rfl)

theorem appC_mono {x : V} {k : Nat} {ys : List V} {e bytes : Nat} {K K' : V → St → Prop} (hk : ∀ v σ, K v σ → K' v σ) (h : appC x k ys e bytes σ K) : appC x k ys e bytes σ K' := by
  have hn : ∀ {n : Nat} {cs : List V}, newM e n cs σ K → newM e n cs σ K' := fun h c hc => hk _ _ (h c hc)
  unfold appC at h ⊢
  split at h <;> try exact h.elim
  · exact ⟨h.1, h.2.1, h.2.2.1, h.2.2.2.1, fun q => hk _ _ (h.2.2.2.2.1 q), fun q => hn (h.2.2.2.2.2 q)⟩
  · exact ⟨h.1, h.2.1, h.2.2.1, h.2.2.2.1, fun q => hk _ _ (h.2.2.2.2.1 q), fun q => hn (h.2.2.2.2.2 q)⟩
  · rename_i l off n c e'
    split at h <;> try exact h.elim
    rename_i hcs
    exact ⟨h.1, h.2.1, h.2.2.1, h.2.2.2.1, h.2.2.2.2.1, fun q => ⟨(h.2.2.2.2.2.1 q).1, hk _ _ (h.2.2.2.2.2.1 q).2⟩, fun q => hn (h.2.2.2.2.2.2 q)⟩
theorem appmP_mono {x y : V} {e bytes : Nat} {K K' : V → St → Prop} (hk : ∀ v σ, K v σ → K' v σ) (h : appmP x y e bytes σ K) : appmP x y e bytes σ K' := by
  unfold appmP at h ⊢
  split at h <;> try exact h.elim
  split at h <;> try exact h.elim
  exact appC_mono hk h
theorem appzP_mono {x y : V} {z : List V} {bytes : Nat} {K K' : V → St → Prop} (hk : ∀ v σ, K v σ → K' v σ) (h : appzP x y z bytes σ K) : appzP x y z bytes σ K' := by
  unfold appzP at h ⊢
  split at h <;> try exact h.elim
  exact ⟨h.1, h.2.1, h.2.2.1, appC_mono hk h.2.2.2⟩

theorem axOp_mono {o : AOp} {T : Tm} {K K' : V → St → Prop} (hk : ∀ v σ, K v σ → K' v σ) (h : axOp E o T σ K) : axOp E o T σ K' := by
  cases o
  case call f xs => exact ACalls.mono h hk
  case callv f xs =>
    simp only [axOp, callV] at h ⊢
    split at h <;> try exact h.elim
    exact ACalls.mono h hk
  case appm x y e bytes => exact appmP_mono hk h
  case appz x y z bytes => exact appzP_mono hk h
  all_goals
    simp only [axOp] at h ⊢
    split at h
    · simp only [optP] at h ⊢
      split at h
      · exact hk _ _ h
      · exact h.elim
    · simp only [optW] at h ⊢
      split at h
      · exact hk _ _ h
      · exact h.elim

theorem spP_mono {sp : Bool} {K K' : V → St → Prop} (hk : ∀ v σ, K v σ → K' v σ) {v : V} {σ : St} (h : spP sp K v σ) : spP sp K' v σ := by
  cases sp with
  | false => exact hk _ _ h
  | true =>
    simp only [spP, splitP] at h ⊢
    split at h
    · exact ⟨fun e => hk _ _ (h.1 e), fun e => hk _ _ (h.2 e)⟩
    · exact h.elim

theorem axOper_mono {o : AOper} {T : Tm} {K K' : V → St → Prop} (hk : ∀ v σ, K v σ → K' v σ) (h : axOper E o T σ K) : axOper E o T σ K' := by
  unfold axOper at h ⊢
  cases hg : o.guard with
  | none =>
    simp only [hg] at h
    exact axOp_mono (fun v σ => spP_mono hk) h
  | some p =>
    obtain ⟨t, want⟩ := p
    simp only [hg, guardP] at h ⊢
    generalize T t = q at h ⊢
    cases q <;> try exact h.elim
    · rename_i b
      cases b <;> cases want <;> first | exact hk _ _ h | exact axOp_mono (fun v σ => spP_mono hk) h
    · rename_i xs
      cases xs <;> first | exact hk _ _ h | exact h.elim

/-- A looking operation, as a value that is there. -/
theorem look_val {o : AOper} {T : Tm} {K : V → St → Prop} (hl : o.op.looks = true) (h : axOper E o T σ K) : ∃ v, evG o T σ = some v ∧ K v σ := by
  have base : axOp E o.op T σ (spP o.sp K) → ∃ v, evP o.op T σ = some v ∧ K v σ := by
    intro h
    have h' : optP (evP o.op T σ) σ (spP o.sp K) := by
      cases ho : o.op <;> rw [ho] at h hl <;> first | (simp [AOp.looks] at hl; done) | exact h
    unfold optP at h'
    split at h' <;> try exact h'.elim
    rename_i v hv
    refine ⟨v, hv, ?_⟩
    cases hsp : o.sp with
    | false => rw [hsp] at h'; exact h'
    | true =>
      rw [hsp] at h'
      simp only [spP, splitP] at h'
      split at h' <;> try exact h'.elim
      rename_i t
      cases t with
      | true => exact h'.1 rfl
      | false => exact h'.2 rfl
  unfold axOper at h
  unfold evG
  cases hg : o.guard with
  | none => simp only [hg] at h ⊢; exact base h
  | some p =>
    obtain ⟨t, want⟩ := p
    simp only [hg, guardP] at h ⊢
    generalize T t = q at h ⊢
    cases q <;> try exact h.elim
    · rename_i b
      cases b <;> cases want <;> first | exact base h | exact ⟨_, rfl, h⟩
    · rename_i xs
      cases xs <;> first | exact ⟨_, rfl, h⟩ | exact h.elim

theorem look_ax {o : AOper} {T : Tm} {K : V → St → Prop} {v : V} (hl : o.op.looks = true) (h : evG o T σ = some v) (hk : K v σ) : axOper E { o with sp := false } T σ K := by
  have base : evP o.op T σ = some v → axOp E o.op T σ K := by
    intro h
    have : optP (evP o.op T σ) σ K := by simp only [h, optP]; exact hk
    cases ho : o.op <;> rw [ho] at this hl <;> first | (simp [AOp.looks] at hl; done) | exact this
  unfold evG at h
  unfold axOper
  cases hg : o.guard with
  | none => simp only [hg] at h ⊢; exact base h
  | some p =>
    obtain ⟨t, want⟩ := p
    simp only [hg] at h ⊢
    generalize T t = q at h ⊢
    cases q <;> try (simp at h; done)
    · rename_i b
      cases b <;> cases want <;> first | exact base h | (simp only [Option.some.injEq] at h; subst h; exact hk)
    · rename_i xs
      cases xs <;> first | (simp only [Option.some.injEq] at h; subst h; exact hk) | (simp at h; done)

/-- The region, those of 'S' being done. -/
def axS (E : Env) (K : Tm → St → Prop) (S : Nat → Bool) : (i : Nat) → (past todo : List AOper) → Tm → St → List (Nat × St) → Prop
  | _, _, [], T, σ, _ => K T σ
  | i, past, o :: r, T, σ, H => match S i with
    | true => axS E K S (i + 1) (past ++ [o]) r T σ H
    | false => match o.op.looks with
      | true => ∃ v, evG o T σ = some v ∧ (o.op.isLoad = true → sameAt o T v H) ∧ axS E K S (i + 1) (past ++ [o]) r (put T o.dst v) σ H
      | false => axOper E o T σ fun v σ' => stays o.anc T σ' 0 past ∧ axS E K S (i + 1) (past ++ [o]) r (put T o.dst v) σ' ((i, σ) :: H)

theorem axS_of_axD {K : Tm → St → Prop} : ∀ (r : List AOper) (i : Nat) (past : List AOper) (T : Tm) (σ : St) (H : List (Nat × St)), axD E K i past r T σ H → axS E K (fun _ => false) i past r T σ H
  | [], _, _, _, _, _, h => h
  | o :: r, i, past, T, σ, H, h => by
    simp only [axD] at h
    simp only [axS]
    cases hl : o.op.looks with
    | true =>
      simp only [hl] at h
      obtain ⟨v, h1, h2⟩ := look_val hl h
      refine ⟨v, h1, ?_⟩
      unfold sameIf at h2
      cases hld : o.op.isLoad with
      | true => simp only [hld] at h2; exact ⟨fun _ => h2.1, axS_of_axD r _ _ _ _ _ h2.2⟩
      | false => simp only [hld] at h2; exact ⟨fun e => by simp at e, axS_of_axD r _ _ _ _ _ h2⟩
    | false =>
      simp only [hl] at h
      exact axOper_mono (fun v σ' hk => ⟨hk.1, axS_of_axD r _ _ _ _ _ hk.2⟩) h

theorem axS_of_axE {K : Tm → St → Prop} {q : Nat} : ∀ (r : List AOper) (i : Nat) (past : List AOper) (T : Tm) (σ : St) (H : List (Nat × St)), axE E K q i past r T σ H → axS E K (fun k => Nat.beq k q) i past r T σ H
  | [], _, _, _, _, _, h => h
  | o :: r, i, past, T, σ, H, h => by
    simp only [axE] at h
    simp only [axS]
    cases hq : Nat.beq i q with
    | true => simp only [hq] at h; exact axS_of_axE r _ _ _ _ _ h
    | false =>
      simp only [hq] at h
      cases hl : o.op.looks with
      | true =>
        simp only [hl] at h
        obtain ⟨v, h1, h2⟩ := look_val hl h
        refine ⟨v, h1, ?_⟩
        unfold sameIf at h2
        cases hld : o.op.isLoad with
        | true => simp only [hld] at h2; exact ⟨fun _ => h2.1, axS_of_axE r _ _ _ _ _ h2.2⟩
        | false => simp only [hld] at h2; exact ⟨fun e => by simp at e, axS_of_axE r _ _ _ _ _ h2⟩
      | false =>
        simp only [hl] at h
        exact axOper_mono (fun v σ' hk => ⟨hk.1, axS_of_axE r _ _ _ _ _ hk.2⟩) h

theorem axS_congr {K : Tm → St → Prop} {S S' : Nat → Bool} : ∀ (r : List AOper) (i : Nat) (past : List AOper) (T : Tm) (σ : St) (H : List (Nat × St)), (∀ k, i ≤ k → S k = S' k) → axS E K S i past r T σ H → axS E K S' i past r T σ H
  | [], _, _, _, _, _, _, h => h
  | o :: r, i, past, T, σ, H, hS, h => by
    have hr : ∀ past T σ H, axS E K S (i + 1) past r T σ H → axS E K S' (i + 1) past r T σ H := fun past T σ H => axS_congr r (i + 1) past T σ H (fun k hk => hS k (by omega))
    simp only [axS, hS i (Nat.le_refl _)] at h ⊢
    cases hSi : S' i with
    | true => simp only [hSi] at h ⊢; exact hr _ _ _ _ h
    | false =>
      simp only [hSi] at h ⊢
      cases hl : o.op.looks with
      | true =>
        simp only [hl] at h ⊢
        obtain ⟨v, h1, h2, h3⟩ := h
        exact ⟨v, h1, h2, hr _ _ _ _ h3⟩
      | false =>
        simp only [hl] at h ⊢
        exact axOper_mono (fun v σ' hk => ⟨hk.1, hr _ _ _ _ hk.2⟩) h

end Go.Ab
/-
  Regions whose order is open, part two: operations may be done ahead of those that do not concern them.
-/
namespace Go.Ab
open Go.RowKit

variable {E : Env} {g : G} {σ : St} {w : World}

/-- What the check of a region gives. -/
structure Sound (os : List AOper) (x : Nat → Nat → Bool) : Prop where
  apart : ∀ (i j : Nat) (oi oj : AOper), i < j → os[i]? = some oi → os[j]? = some oj → i ∈ oj.anc ∨ ((∀ (d : Nat), oi.dst = some d → d ∉ oj.tmps ∧ oj.dst ≠ some d) ∧ ∀ d, oj.dst = some d → d ∉ oi.tmps)
  loud : ∀ (i j : Nat) (oi oj : AOper), i < j → os[i]? = some oi → os[j]? = some oj → oi.op.looks = false → oj.op.looks = false → i ∈ oj.anc ∨ x i j = true
  load : ∀ (i j : Nat) (oi oj : AOper), i < j → os[i]? = some oi → os[j]? = some oj → oi.op.isLoad = true → ∀ d, oj.dst = some d → d ∉ oi.tmps ∧ oi.dst ≠ some d
  own : ∀ (i : Nat) (oi : AOper), os[i]? = some oi → oi.op.isLoad = true → ∀ d, oi.dst = some d → d ∉ oi.tmps
  hasDst : ∀ (i : Nat) (oi : AOper), os[i]? = some oi → oi.op.isLoad = true → oi.dst.isSome = true
  lt : ∀ (j : Nat) (oj : AOper), os[j]? = some oj → ∀ i ∈ oj.anc, i < j

theorem contains_false {l : List Nat} {i : Nat} (h : i ∉ l) : l.contains i = false := by
  cases hc : l.contains i
  · rfl
  · exact absurd (by simpa using hc) h

theorem agree_put {T : Tm} {d : Option Nat} {v : V} {l : List Nat} (h : ∀ i, d = some i → i ∉ l) : ∀ i ∈ l, T i = put T d v i := fun i hi => (put_other fun e => h i e hi).symm

/-- Evidence of what a looking operation gives. -/
def Wit (q : AOper) (T : Tm) (σ : St) (H : List (Nat × St)) (v : V) : Prop :=
  evG q T σ = some v ∨ (q.op.isLoad = true ∧ ∃ h ∈ H, h.1 ∉ q.anc ∧ evG q T h.2 = some v)

theorem sameAt_mem {o : AOper} {T : Tm} {v : V} : ∀ {H : List (Nat × St)}, sameAt o T v H → ∀ h ∈ H, h.1 ∉ o.anc → evG o T h.2 = some v
  | [], _, h, hm, _ => by simp at hm
  | (i, σ) :: H, hs, h, hm, hn => by
    simp only [sameAt] at hs
    rcases List.mem_cons.1 hm with rfl | hm
    · rw [contains_false hn] at hs; exact hs.1
    · cases hc : o.anc.contains i with
      | true => simp only [hc] at hs; exact sameAt_mem hs h hm hn
      | false => simp only [hc] at hs; exact sameAt_mem hs.2 h hm hn

theorem sameAt_congr {o : AOper} {T T' : Tm} {v : V} (h : ∀ i ∈ o.tmps, T i = T' i) : ∀ {H : List (Nat × St)}, sameAt o T v H → sameAt o T' v H
  | [], _ => trivial
  | (i, σ) :: H, hs => by
    simp only [sameAt] at hs ⊢
    cases hc : o.anc.contains i with
    | true => simp only [hc] at hs; exact sameAt_congr h hs
    | false => simp only [hc] at hs; exact ⟨by rw [← evG_congr h]; exact hs.1, sameAt_congr h hs.2⟩

theorem stays_spec {anc : List Nat} {T : Tm} {σ : St} : ∀ {past : List AOper} {i : Nat}, stays anc T σ i past ↔ ∀ (k : Nat) (o : AOper), past[k]? = some o → o.op.isLoad = true → i + k ∉ anc → evG o T σ = some (dstV T o.dst)
  | [], i => by simp [stays]
  | q :: r, i => by
    have ih := stays_spec (anc := anc) (T := T) (σ := σ) (past := r) (i := i + 1)
    simp only [stays]
    constructor
    · intro h k o hk hl hn
      cases k with
      | zero =>
        simp at hk; subst hk
        rw [hl, contains_false (by simpa using hn)] at h
        exact h.1
      | succ k =>
        have h' : stays anc T σ (i + 1) r := by
          cases hc : (q.op.isLoad && !anc.contains i) with
          | true => rw [hc] at h; exact h.2
          | false => rw [hc] at h; exact h
        exact ih.1 h' k o (by simpa using hk) hl (by rwa [show i + 1 + k = i + (k + 1) by omega])
    · intro h
      have h' : stays anc T σ (i + 1) r := ih.2 fun k o hk hl hn => h (k + 1) o (by simpa using hk) hl (by rwa [show i + (k + 1) = i + 1 + k by omega])
      cases hc : (q.op.isLoad && !anc.contains i) with
      | true =>
        simp only [Bool.and_eq_true, Bool.not_eq_true'] at hc
        exact ⟨h 0 q rfl hc.1 (by
          have := hc.2
          intro hm
          rw [Nat.add_zero] at hm
          rw [List.contains_iff_mem.2 hm] at this
          exact Bool.noConfusion this), h'⟩
      | false => exact h'

def addS (S : Nat → Bool) (q : Nat) : Nat → Bool := fun k => if k = q then true else S k

section
variable {K : Tm → St → Prop} {S : Nat → Bool} {os : List AOper} {x : Nat → Nat → Bool} (hS : Sound os x) {q : Nat} {oq : AOper} (hq : os[q]? = some oq) (hSq : S q = false) (hanc : ∀ i ∈ oq.anc, S i = true)
include hS hq hSq hanc

/-- A looking operation whose value is known may be done at once. -/
theorem look_first (hl : oq.op.looks = true) : ∀ (r : List AOper) (i : Nat) (past : List AOper) (T : Tm) (σ : St) (H : List (Nat × St)) (v : V), past ++ r = os → past.length = i → i ≤ q → Wit oq T σ H v →
    axS E K S i past r T σ H → axS E K (addS S q) i past r (put T oq.dst v) σ H
  | [], i, past, T, σ, H, v, he, hi, hle, _, _ => by
    have : q < os.length := (List.getElem?_eq_some_iff.1 hq).1
    rw [← he] at this; simp at this; omega
  | o :: r, i, past, T, σ, H, v, he, hi, hle, hw, h => by
    have ho : os[i]? = some o := by rw [← he, ← hi]; simp
    have he' : (past ++ [o]) ++ r = os := by simpa using he
    have hi' : (past ++ [o]).length = i + 1 := by simp [hi]
    by_cases hiq : i = q
    · subst hiq
      rw [ho] at hq; cases hq
      simp only [axS, hSq, hl] at h
      simp only [axS, addS, if_true]
      obtain ⟨v', h1, h2, h3⟩ := h
      have hv : v' = v := by
        rcases hw with hw | ⟨hld, hh, hm, hn, hw⟩
        · rw [hw] at h1; cases h1; rfl
        · have := sameAt_mem (h2 hld) hh hm hn
          rw [hw] at this; cases this; rfl
      subst hv
      exact axS_congr r _ _ _ _ _ (fun k hk => by simp [addS, show k ≠ i by omega]) h3
    · have hne : addS S q i = S i := by simp [addS, hiq]
      have hlt : i < q := by omega
      simp only [axS] at h ⊢
      rw [hne]
      cases hSi : S i with
      | true => simp only [hSi] at h ⊢; exact look_first hl r (i + 1) _ _ _ _ v he' hi' hlt hw h
      | false =>
        simp only [hSi] at h ⊢
        obtain ⟨ap1, ap2⟩ := (hS.apart i q o oq hlt ho hq).resolve_left fun hm => by rw [hanc i hm] at hSi; simp at hSi
        have hni : i ∉ oq.anc := fun hm => by rw [hanc i hm] at hSi; simp at hSi
        have c1 : ∀ (T : Tm) (v : V), ∀ k ∈ oq.tmps, T k = put T o.dst v k := fun T v => agree_put fun d hd => (ap1 d hd).1
        have c2 : ∀ (T : Tm) (v : V), ∀ k ∈ o.tmps, T k = put T oq.dst v k := fun T v => agree_put fun d hd => ap2 d hd
        have cm : ∀ (T : Tm) (x y : V), put (put T o.dst x) oq.dst y = put (put T oq.dst y) o.dst x := fun T x y => put_comm fun d hd => (ap1 d hd).2
        have wit : ∀ (x : V) {σ : St} {H : List (Nat × St)}, Wit oq T σ H v → Wit oq (put T o.dst x) σ H v := fun x σ H hw => by
          rcases hw with hw | ⟨hld, hh, hm, hn, hw⟩
          · exact .inl (by rw [← evG_congr (c1 T x)]; exact hw)
          · exact .inr ⟨hld, hh, hm, hn, by rw [← evG_congr (c1 T x)]; exact hw⟩
        cases hlo : o.op.looks with
        | true =>
          simp only [hlo] at h ⊢
          obtain ⟨x, h1, h2, h3⟩ := h
          refine ⟨x, by rw [← evG_congr (c2 T v)]; exact h1, fun hld => sameAt_congr (c2 T v) (h2 hld), ?_⟩
          rw [← cm]
          exact look_first hl r (i + 1) _ _ _ _ v he' hi' hlt (wit x hw) h3
        | false =>
          simp only [hlo] at h ⊢
          rw [← axOper_congr (c2 T v)]
          refine axOper_mono (fun x σ1 hk => ⟨?_, ?_⟩) h
          · rw [stays_spec] at hk ⊢
            intro k p hkp hld hn
            have hp : os[k]? = some p := by
              rw [← he, List.getElem?_append_left (List.getElem?_eq_some_iff.1 hkp).1]; exact hkp
            have hkq : k < q := by have := (List.getElem?_eq_some_iff.1 hkp).1; omega
            have l1 := hS.load k q p oq hkq hp hq hld
            have := hk.1 k p hkp hld hn
            rw [← evG_congr (agree_put fun d hd => (l1 d hd).1), this, dstV_put fun d hd => fun e => (l1 d e).2 hd]
          · rw [← cm]
            refine look_first hl r (i + 1) _ _ _ _ v he' hi' hlt ?_ hk.2
            have hw' : Wit oq T σ1 ((i, σ) :: H) v := by
              cases hld : oq.op.isLoad with
              | true =>
                rcases hw with hw | ⟨_, hh, hm, hn, hw⟩
                · exact .inr ⟨hld, (i, σ), by simp, hni, hw⟩
                · exact .inr ⟨hld, hh, by simp [hm], hn, hw⟩
              | false =>
                rcases hw with hw | ⟨e, _⟩
                · exact .inl (by rw [evG_still hld T σ1 σ]; exact hw)
                · rw [hld] at e; simp at e
            exact wit x hw'

end

end Go.Ab
/-
  Regions whose order is open, part three: in each order they promise what they promise in the order of the text.
-/
namespace Go.Ab
open Go.RowKit

variable {E : Env} {g : G} {σ : St} {w : World}

theorem wpOp_inhab {P : Program} {ops : Array Oper} {i : Nat} {K : Act → World → Prop} {a : Act} {w : World} (h : wpOp P ops (fun _ _ _ => False) i K a w) : ∃ a' w', K a' w' := by
  unfold wpOp at h
  split at h
  · exact ⟨_, _, h⟩
  · split at h
    · rcases h with h | ⟨_, _, _, h⟩
      · unfold Oper.wp at h
        generalize (execOp a.eval _).run P w = r at h
        cases r with
        | ok n w' =>
          cases n
          case enter f args =>
            simp only [Oper.upon] at h
            obtain ⟨e, w'', fr, hr, _⟩ := h []
            cases e with
            | returned v => exact ⟨_, _, hr⟩
            | panicked c => exact hr.elim
            | outgrown => obtain ⟨_, _, hr⟩ := hr; exact hr.elim
          case row r args =>
            simp only [Oper.upon] at h
            obtain ⟨v, w'', hr, _⟩ := h default []
            exact ⟨_, _, hr⟩
          all_goals first
            | exact ⟨_, _, h⟩
            | exact h.elim
        | halt x w' => cases x <;> simp only [Oper.upon] at h
      · exact h.elim
    · exact ⟨_, _, h⟩

section
variable {K : Tm → St → Prop} {S : Nat → Bool} {os : List AOper} {x : Nat → Nat → Bool} (hS : Sound os x) {q : Nat} {oq : AOper} (hq : os[q]? = some oq) (hSq : S q = false) (hanc : ∀ i ∈ oq.anc, S i = true)
include hS hq hSq hanc

/-- A looking operation that may be done has a value. -/
theorem look_there {n : Nat} {ops : Array Oper} (hc : ∀ (k : Nat) (o : AOper), os[k]? = some o → ∃ co, ops[k]? = some co ∧ chkOper E.P E.m n ops o co = true) (hl : oq.op.looks = true) :
    ∀ (r : List AOper) (i : Nat) (past : List AOper) (T : Tm) (σ : St) (H : List (Nat × St)) (g : G) (a : Act) (w : World), past ++ r = os → past.length = i → i ≤ q →
    Rel E.m g σ w → RepT E.m g n a.tmps T → a.defers = [] → axS E K S i past r T σ H → ∃ v, evG oq T σ = some v ∧ (oq.op.isLoad = true → ∀ h ∈ H, h.1 ∉ oq.anc → evG oq T h.2 = some v)
  | [], i, past, T, σ, H, g, a, w, he, hi, hle, _, _, _, _ => by
    have : q < os.length := (List.getElem?_eq_some_iff.1 hq).1
    rw [← he] at this; simp at this; omega
  | o :: r, i, past, T, σ, H, g, a, w, he, hi, hle, hR, hT, hd, h => by
    have ho : os[i]? = some o := by rw [← he, ← hi]; simp
    have he' : (past ++ [o]) ++ r = os := by simpa using he
    have hi' : (past ++ [o]).length = i + 1 := by simp [hi]
    by_cases hiq : i = q
    · subst hiq
      rw [ho] at hq; cases hq
      simp only [axS, hSq, hl] at h
      obtain ⟨v', h1, h2, h3⟩ := h
      exact ⟨v', h1, fun hld h hm hn => sameAt_mem (h2 hld) h hm hn⟩
    · have hlt : i < q := by omega
      simp only [axS] at h
      cases hSi : S i with
      | true => simp only [hSi] at h; exact look_there hc hl r (i + 1) _ _ _ _ g a w he' hi' hlt hR hT hd h
      | false =>
        simp only [hSi] at h
        obtain ⟨ap1, ap2⟩ := (hS.apart i q o oq hlt ho hq).resolve_left fun hm => by rw [hanc i hm] at hSi; simp at hSi
        have hni : i ∉ oq.anc := fun hm => by rw [hanc i hm] at hSi; simp at hSi
        have c1 : ∀ (v : V), ∀ k ∈ oq.tmps, T k = put T o.dst v k := fun v => agree_put fun d hd => (ap1 d hd).1
        obtain ⟨co, hco, hcc⟩ := hc i o ho
        cases hlo : o.op.looks with
        | true =>
          simp only [hlo] at h
          obtain ⟨x, h1, h2, h3⟩ := h
          have hcc' : chkOper E.P E.m n ops { o with sp := false } co = true := hcc
          obtain ⟨a', w', g', x', σ', k1, k2, k3, k4, rfl, rfl⟩ := wpOp_inhab (axOper_wp (Q := fun _ _ _ => False) hR hT hd hco hcc' (look_ax (E := E) (K := fun v s => v = x ∧ s = σ) hlo h1 ⟨rfl, rfl⟩))
          obtain ⟨v, e1, e2⟩ := look_there hc hl r (i + 1) _ _ _ _ g' a' w' he' hi' hlt k2 k3 k4 h3
          exact ⟨v, by rw [evG_congr (c1 x')]; exact e1, fun hld hh hm hn => by rw [evG_congr (c1 x')]; exact e2 hld hh hm hn⟩
        | false =>
          simp only [hlo] at h
          obtain ⟨a', w', g', x', σ', k1, k2, k3, k4, k5, k6⟩ := wpOp_inhab (axOper_wp (Q := fun _ _ _ => False) hR hT hd hco hcc h)
          obtain ⟨v, e1, e2⟩ := look_there hc hl r (i + 1) _ _ _ _ g' a' w' he' hi' hlt k2 k3 k4 k6
          refine ⟨v, ?_, fun hld hh hm hn => by rw [evG_congr (c1 x')]; exact e2 hld hh (by simp [hm]) hn⟩
          cases hld : oq.op.isLoad with
          | true => rw [evG_congr (c1 x')]; exact e2 hld (i, σ) (by simp) hni
          | false => rw [evG_congr (c1 x'), evG_still hld _ σ σ']; exact e1

/-- A writing operation may be done ahead of those that only look. -/
theorem loud_first (hl : oq.op.looks = false) (hX : ∀ i, x i q = true → S i = true) : ∀ (r : List AOper) (i : Nat) (past : List AOper) (T : Tm) (σ : St) (H : List (Nat × St)), past ++ r = os → past.length = i → i ≤ q →
    axS E K S i past r T σ H → axOper E oq T σ fun v σ' => (∀ (p : Nat) (op : AOper), p < i → os[p]? = some op → op.op.isLoad = true → p ∉ oq.anc → evG op T σ' = some (dstV T op.dst)) ∧ axS E K (addS S q) i past r (put T oq.dst v) σ' ((q, σ) :: H)
  | [], i, past, T, σ, H, he, hi, hle, _ => by
    have : q < os.length := (List.getElem?_eq_some_iff.1 hq).1
    rw [← he] at this; simp at this; omega
  | o :: r, i, past, T, σ, H, he, hi, hle, h => by
    have ho : os[i]? = some o := by rw [← he, ← hi]; simp
    have he' : (past ++ [o]) ++ r = os := by simpa using he
    have hi' : (past ++ [o]).length = i + 1 := by simp [hi]
    by_cases hiq : i = q
    · subst hiq
      rw [ho] at hq; cases hq
      simp only [axS, hSq, hl] at h
      refine axOper_mono (fun v σ' hk => ⟨fun p op hp hop hld hn => ?_, ?_⟩) h
      · have hpast : past[p]? = some op := by rw [← he, List.getElem?_append_left (by omega)] at hop; exact hop
        exact (stays_spec.1 hk.1) p op hpast hld (by simpa using hn)
      · simp only [axS, addS, if_true]
        exact axS_congr r _ _ _ _ _ (fun k hk => by simp [addS, show k ≠ i by omega]) hk.2
    · have hne : addS S q i = S i := by simp [addS, hiq]
      have hlt : i < q := by omega
      simp only [axS] at h
      cases hSi : S i with
      | true =>
        simp only [hSi] at h
        refine axOper_mono (fun v σ' hk => ⟨fun p op hp hop hld hn => hk.1 p op (by omega) hop hld hn, ?_⟩) (loud_first hl hX r (i + 1) _ _ _ _ he' hi' hlt h)
        simp only [axS, hne, hSi]
        exact hk.2
      | false =>
        simp only [hSi] at h
        obtain ⟨ap1, ap2⟩ := (hS.apart i q o oq hlt ho hq).resolve_left fun hm => by rw [hanc i hm] at hSi; simp at hSi
        have hni : i ∉ oq.anc := fun hm => by rw [hanc i hm] at hSi; simp at hSi
        have hlo : o.op.looks = true := by
          cases hlo : o.op.looks with
          | true => rfl
          | false =>
            rcases hS.loud i q o oq hlt ho hq hlo hl with h' | h'
            · exact absurd h' hni
            · have := hX i h'
              rw [this] at hSi; simp at hSi
        simp only [hlo] at h
        obtain ⟨x, h1, h2, h3⟩ := h
        have c1 : ∀ k ∈ oq.tmps, T k = put T o.dst x k := agree_put fun d hd => (ap1 d hd).1
        have c2 : ∀ (v : V), ∀ k ∈ o.tmps, T k = put T oq.dst v k := fun v => agree_put fun d hd => ap2 d hd
        have cm : ∀ (y : V), put (put T o.dst x) oq.dst y = put (put T oq.dst y) o.dst x := fun y => put_comm fun d hd => (ap1 d hd).2
        rw [axOper_congr c1]
        refine axOper_mono (fun v σ' hk => ⟨fun p op hp hop hld hn => ?_, ?_⟩) (loud_first hl hX r (i + 1) _ _ _ _ he' hi' hlt h3)
        · have l1 := hS.load p i op o hp hop ho hld
          have := hk.1 p op (by omega) hop hld hn
          rw [evG_congr (agree_put fun d hd => (l1 d hd).1), this, dstV_put fun d hd => fun e => (l1 d e).2 hd]
        · have hoq : q ∉ o.anc := fun hm => by have := hS.lt i o ho q hm; omega
          simp only [axS, hne, hSi, hlo]
          refine ⟨x, ?_, fun hld => ?_, by rw [← cm]; exact hk.2⟩
          · cases hld : o.op.isLoad with
            | true =>
              have := hk.1 i o (by omega) ho hld hni
              rw [← evG_congr (c2 v)]
              obtain ⟨d, hd⟩ := Option.isSome_iff_exists.1 (hS.hasDst i o ho hld)
              have hself : ∀ k ∈ o.tmps, T k = put T o.dst x k := agree_put fun e he => hS.own i o ho hld e he
              rw [evG_congr hself, this, hd]
              simp [dstV, put, upd_apply]
            | false => rw [← evG_congr (c2 v), evG_still hld T σ' σ]; exact h1
          · simp only [sameAt, contains_false hoq]
            exact ⟨by rw [← evG_congr (c2 v)]; exact h1, sameAt_congr (c2 v) (h2 hld)⟩

end

end Go.Ab
/-
  The check of a region whose order is open, and that it stands for the model's.
-/
namespace Go.Ab
open Go.RowKit

variable {E : Env} {g : G} {σ : St} {w : World}

def apartB (oi oj : AOper) : Bool :=
  (match oi.dst with | some d => !oj.tmps.contains d && !(oj.dst == some d) | none => true) && (match oj.dst with | some d => !oi.tmps.contains d | none => true)

def preds (co : Oper) : List Nat := co.after.toList.filterMap fun e => if Region.binds .any e then some e.on else none

def ancOk (os : List AOper) (j : Nat) (oj : AOper) (cj : Oper) : Bool :=
  oj.anc.all (fun i => decide (i < j) && (preds cj).any fun k => k == i || (match os[k]? with | some ok => ok.anc.contains i | none => false)) && (preds cj).all fun k => decide (k < j)

def ownOk (oj : AOper) : Bool := !oj.op.isLoad || (match oj.dst with | some d => !oj.tmps.contains d | none => false)

def pairOk (b : Bool) (i : Nat) (oi oj : AOper) : Bool :=
  (oj.anc.contains i || apartB oi oj) && (oi.op.looks || oj.op.looks || oj.anc.contains i || b) && (!oi.op.isLoad || (match oj.dst with | some d => !oi.tmps.contains d && !(oi.dst == some d) | none => true))

def drawOk (x : Nat → Nat → Bool) (os : List AOper) (ops : Array Oper) : Bool :=
  (List.range os.length).all fun j => match os[j]?, ops[j]? with
    | some oj, some cj => ancOk os j oj cj && ownOk oj && (List.range j).all fun i => match os[i]? with
      | some oi => pairOk (x i j) i oi oj
      | none => false
    | _, _ => false

theorem drawOk_at {x : Nat → Nat → Bool} {os : List AOper} {ops : Array Oper} (h : drawOk x os ops = true) {j : Nat} {oj : AOper} (hj : os[j]? = some oj) :
    ∃ cj, ops[j]? = some cj ∧ ancOk os j oj cj = true ∧ ownOk oj = true ∧ ∀ i oi, i < j → os[i]? = some oi → pairOk (x i j) i oi oj = true := by
  have hlt := (List.getElem?_eq_some_iff.1 hj).1
  have := List.all_eq_true.1 h j (by simpa using hlt)
  rw [hj] at this
  cases hc : ops[j]? with
  | none => simp [hc] at this
  | some cj =>
    simp only [hc, Bool.and_eq_true] at this
    refine ⟨cj, rfl, this.1.1, this.1.2, fun i oi hi ho => ?_⟩
    have h2 := List.all_eq_true.1 this.2 i (by simpa using hi)
    rw [ho] at h2
    exact h2

theorem sound_of {x : Nat → Nat → Bool} {os : List AOper} {ops : Array Oper} (h : drawOk x os ops = true) : Sound os x where
  apart := fun i j oi oj hij hi hj => by
    obtain ⟨cj, _, _, _, hp⟩ := drawOk_at h hj
    have := hp i oi hij hi
    simp only [pairOk, Bool.and_eq_true, Bool.or_eq_true] at this
    rcases this.1.1 with h1 | h1
    · exact .inl (by simpa using h1)
    · simp only [apartB, Bool.and_eq_true] at h1
      refine .inr ⟨fun d hd => ?_, fun d hd => ?_⟩
      · have := h1.1; rw [hd] at this; simpa using this
      · have := h1.2; rw [hd] at this; simpa using this
  loud := fun i j oi oj hij hi hj l1 l2 => by
    obtain ⟨cj, _, _, _, hp⟩ := drawOk_at h hj
    have := hp i oi hij hi
    simp only [pairOk, Bool.and_eq_true, Bool.or_eq_true] at this
    rcases this.1.2 with ((h1 | h1) | h1) | h1
    · rw [l1] at h1; simp at h1
    · rw [l2] at h1; simp at h1
    · exact .inl (by simpa using h1)
    · exact .inr h1
  load := fun i j oi oj hij hi hj l1 d hd => by
    obtain ⟨cj, _, _, _, hp⟩ := drawOk_at h hj
    have := hp i oi hij hi
    simp only [pairOk, Bool.and_eq_true, Bool.or_eq_true, l1, hd] at this
    simpa using this.2
  own := fun i oi hi l1 d hd => by
    obtain ⟨ci, _, _, ho, _⟩ := drawOk_at h hi
    simp only [ownOk, l1, hd] at ho
    simpa using ho
  hasDst := fun i oi hi l1 => by
    obtain ⟨ci, _, _, ho, _⟩ := drawOk_at h hi
    simp only [ownOk, l1] at ho
    cases hd : oi.dst with
    | none => simp [hd] at ho
    | some d => rfl
  lt := fun j oj hj i hi => by
    obtain ⟨cj, _, ha, _, _⟩ := drawOk_at h hj
    simp only [ancOk, Bool.and_eq_true] at ha
    have := List.all_eq_true.1 ha.1 i hi
    simp only [Bool.and_eq_true, decide_eq_true_eq] at this
    exact this.1

theorem anc_listed {x : Nat → Nat → Bool} {os : List AOper} {ops : Array Oper} (h : drawOk x os ops = true) {S : Nat → Bool} (hS : ∀ k ok, S k = true → os[k]? = some ok → ∀ i ∈ ok.anc, S i = true) {j : Nat} {oj : AOper} {cj : Oper}
    (hj : os[j]? = some oj) (hcj : ops[j]? = some cj) (hp : ∀ k ∈ preds cj, S k = true) : ∀ i ∈ oj.anc, S i = true := by
  intro i hi
  obtain ⟨cj', hc', ha, _, _⟩ := drawOk_at h hj
  rw [hcj] at hc'; cases hc'
  simp only [ancOk, Bool.and_eq_true] at ha
  have := List.all_eq_true.1 ha.1 i hi
  simp only [Bool.and_eq_true, List.any_eq_true, Bool.or_eq_true] at this
  obtain ⟨_, k, hk, hki⟩ := this
  rcases hki with hki | hki
  · have : k = i := by simpa using hki
    subst this; exact hp k hk
  · split at hki
    · rename_i ok hok
      exact hS k ok (hp k hk) hok i (by simpa using hki)
    · simp at hki

theorem count_set : ∀ (l : List Bool) (i : Nat), l[i]? = some false → (l.set i true).count false + 1 = l.count false
  | [], _, h => by simp at h
  | b :: l, 0, h => by simp at h; subst h; simp
  | b :: l, i + 1, h => by
    have := count_set l i (by simpa using h)
    cases b <;> simp <;> omega

theorem axS_done {K : Tm → St → Prop} {S : Nat → Bool} : ∀ (r : List AOper) (i : Nat) (past : List AOper) (T : Tm) (σ : St) (H : List (Nat × St)), (∀ k, i ≤ k → k < i + r.length → S k = true) → axS E K S i past r T σ H → K T σ
  | [], _, _, _, _, _, _, h => h
  | o :: r, i, past, T, σ, H, hS, h => by
    simp only [axS, hS i (Nat.le_refl _) (by simp)] at h
    exact axS_done r (i + 1) _ _ _ _ (fun k h1 h2 => hS k (by omega) (by simp; omega)) h

theorem ready_spec {ops : Array Oper} {listed : Array Bool} {i : Nat} (h : i ∈ Region.ready .any ops listed) : ∃ co, ops[i]? = some co ∧ listed.getD i true = false ∧ ∀ k ∈ preds co, listed.getD k false = true := by
  unfold Region.ready at h
  rw [List.mem_filter] at h
  obtain ⟨h1, h2⟩ := h
  simp only [Bool.and_eq_true, Bool.not_eq_true'] at h2
  have hlt : i < ops.size := by simpa using h1
  refine ⟨ops[i], by simp [hlt], h2.1, fun k hk => ?_⟩
  have h3 := h2.2
  simp only [Array.getElem?_eq_getElem hlt, Option.map_some, Option.getD_some] at h3
  unfold preds at hk
  obtain ⟨e, he, hke⟩ := List.mem_filterMap.1 hk
  split at hke <;> try (simp at hke; done)
  rename_i hb
  simp only [Option.some.injEq] at hke
  subst hke
  have := Array.all_eq_true_iff_forall_mem.1 h3 e (by simpa using he)
  simpa [hb] using this

theorem ready_of {ops : Array Oper} {listed : Array Bool} {i : Nat} {co : Oper} (h1 : ops[i]? = some co) (h2 : listed.getD i true = false) (h3 : ∀ k ∈ preds co, listed.getD k false = true) : i ∈ Region.ready .any ops listed := by
  unfold Region.ready
  rw [List.mem_filter]
  have hlt := (Array.getElem?_eq_some_iff.1 h1).1
  refine ⟨by simpa using hlt, ?_⟩
  simp only [h1, h2, Bool.not_false, Bool.true_and, Option.map_some, Option.getD_some]
  apply Array.all_eq_true_iff_forall_mem.2
  intro e he
  cases hb : Region.binds .any e with
  | false => rfl
  | true =>
    have := h3 e.on (List.mem_filterMap.2 ⟨e, by simpa using he, by simp [hb]⟩)
    simp [this]

theorem any_wp {n : Nat} {K : Tm → St → Prop} {Q : Exit → Act → World → Prop} {ops : Array Oper} {os : List AOper} {x : Nat → Nat → Bool} (hlen : os.length = ops.size) (hd : drawOk x os ops = true)
    (hc : ∀ (k : Nat) (o : AOper), os[k]? = some o → ∃ co, ops[k]? = some co ∧ chkOper E.P E.m n ops o co = true) :
    ∀ (fuel : Nat) (listed : Array Bool) (g : G) (a : Act) (w : World) (T : Tm) (σ : St) (H : List (Nat × St)), listed.size = ops.size → listed.toList.count false = fuel →
    (∀ k ok, listed.getD k false = true → os[k]? = some ok → ∀ i ∈ ok.anc, listed.getD i false = true) → (∀ i j, x i j = true → listed.getD i false = true ∨ listed.getD j false = true) → Rel E.m g σ w → RepT E.m g n a.tmps T → a.defers = [] →
    axS E K (fun k => listed.getD k false) 0 [] os T σ H → (∀ a w, (∃ g' T σ, G.le g g' ∧ Rel E.m g' σ w ∧ RepT E.m g' n a.tmps T ∧ a.defers = [] ∧ K T σ) → Q .normal a w) →
    wpAny E.P .any ops Q fuel listed a w := by
  have hS := sound_of hd
  have stop : ∀ (listed : Array Bool) (g : G) (a : Act) (w : World) (T : Tm) (σ : St) (H : List (Nat × St)), listed.size = ops.size → Rel E.m g σ w → RepT E.m g n a.tmps T → a.defers = [] →
      axS E K (fun k => listed.getD k false) 0 [] os T σ H → (∀ a w, (∃ g' T σ, G.le g g' ∧ Rel E.m g' σ w ∧ RepT E.m g' n a.tmps T ∧ a.defers = [] ∧ K T σ) → Q .normal a w) →
      Region.ready .any ops listed = [] → Q .normal a w := by
    intro listed g a w T σ H hsz hR hT hdf h hQ hr
    have all : ∀ k, k < os.length → listed.getD k false = true := by
      intro k
      induction k using Nat.strongRecOn with
      | _ k ih =>
        intro hk
        cases hl : listed.getD k true with
        | true =>
          have hlt : k < listed.size := by omega
          simpa [Array.getD_eq_getD_getElem?, hlt] using hl
        | false =>
          exfalso
          obtain ⟨cj, hcj, ha, _, _⟩ := drawOk_at hd (j := k) (oj := os[k]) (by simp [hk])
          simp only [ancOk, Bool.and_eq_true] at ha
          have : k ∈ Region.ready .any ops listed := ready_of hcj hl fun p hp => by
            have := List.all_eq_true.1 ha.2 p hp
            have hpk : p < k := by simpa using this
            exact ih p hpk (by omega)
          rw [hr] at this; simp at this
    exact hQ a w ⟨g, T, σ, G.le.refl g, hR, hT, hdf, axS_done os 0 [] T σ H (fun k _ hk => all k (by simpa using hk)) h⟩
  intro fuel
  induction fuel with
  | zero =>
    intro listed g a w T σ H hsz hcount hcl hxl hR hT hdf h hQ
    have hr : Region.ready .any ops listed = [] := by
      cases hq : Region.ready .any ops listed with
      | nil => rfl
      | cons i r =>
        exfalso
        obtain ⟨co, h1, h2, _⟩ := ready_spec (ops := ops) (listed := listed) (i := i) (by rw [hq]; simp)
        have hlt : i < listed.size := by have := (Array.getElem?_eq_some_iff.1 h1).1; omega
        have hf : listed[i] = false := by simpa [Array.getD_eq_getD_getElem?, hlt] using h2
        have : false ∈ listed.toList := by rw [← hf]; simp
        have := List.count_pos_iff.2 this
        omega
    exact ⟨hr, stop listed g a w T σ H hsz hR hT hdf h hQ hr⟩
  | succ fuel ih =>
    intro listed g a w T σ H hsz hcount hcl hxl hR hT hdf h hQ
    refine ⟨stop listed g a w T σ H hsz hR hT hdf h hQ, fun i hi => ?_⟩
    obtain ⟨co, h1, h2, h3⟩ := ready_spec hi
    have hlt : i < ops.size := (Array.getElem?_eq_some_iff.1 h1).1
    have hlt' : i < os.length := by omega
    have hls : i < listed.size := by omega
    have hoi : os[i]? = some os[i] := by simp [hlt']
    generalize hoq : os[i] = oq at hoi
    obtain ⟨co', h1', hcc⟩ := hc i oq hoi
    rw [h1] at h1'; cases h1'
    have hanc : ∀ k ∈ oq.anc, (fun k => listed.getD k false) k = true := anc_listed hd hcl hoi h1 h3
    have hSq : (fun k => listed.getD k false) i = false := by
      have : listed[i] = false := by simpa [Array.getD_eq_getD_getElem?, hls] using h2
      simp [Array.getD_eq_getD_getElem?, hls, this]
    have hlf : listed.toList[i]? = some false := by
      have : listed[i] = false := by simpa [Array.getD_eq_getD_getElem?, hls] using h2
      simp [hls, this]
    have hS' : (fun k => (listed.setIfInBounds i true).getD k false) = addS (fun k => listed.getD k false) i := by
      funext k
      simp only [addS, Array.getD_eq_getD_getElem?, Array.getElem?_setIfInBounds]
      by_cases e : i = k
      · subst e; simp [hls]
      · rw [if_neg e, if_neg (fun h => e h.symm)]
    have hcnt : (listed.setIfInBounds i true).toList.count false = fuel := by
      have := count_set listed.toList i hlf
      rw [Array.toList_setIfInBounds]; omega
    have hcl' : ∀ k ok, (listed.setIfInBounds i true).getD k false = true → os[k]? = some ok → ∀ j ∈ ok.anc, (listed.setIfInBounds i true).getD j false = true := by
      intro k ok hk hok j hj
      have e : ∀ x, (listed.setIfInBounds i true).getD x false = addS (fun k => listed.getD k false) i x := fun x => congrFun hS' x
      rw [e] at hk ⊢
      have : listed.getD j false = true := by
        by_cases hki : k = i
        · subst hki; rw [hoi] at hok; cases hok; exact hanc j hj
        · simp only [addS, if_neg hki] at hk; exact hcl k ok hk hok j hj
      unfold addS; split
      · rfl
      · exact this
    have hxl' : ∀ i' j', x i' j' = true → (listed.setIfInBounds i true).getD i' false = true ∨ (listed.setIfInBounds i true).getD j' false = true := by
      intro i' j' hx'
      have e : ∀ y, (listed.setIfInBounds i true).getD y false = addS (fun k => listed.getD k false) i y := fun y => congrFun hS' y
      rw [e, e]
      have up : ∀ y, listed.getD y false = true → addS (fun k => listed.getD k false) i y = true := fun y hy => by
        unfold addS; split
        · rfl
        · exact hy
      rcases hxl i' j' hx' with h1 | h1
      · exact .inl (up _ h1)
      · exact .inr (up _ h1)
    have go : ∀ (x : V) (σ' : St) (H' : List (Nat × St)) {g' : G} {a' : Act} {w' : World}, axS E K (addS (fun k => listed.getD k false) i) 0 [] os (put T oq.dst x) σ' H' → G.le g g' → Rel E.m g' σ' w' → RepT E.m g' n a'.tmps (put T oq.dst x) → a'.defers = [] →
        wpAny E.P .any ops Q fuel (listed.setIfInBounds i true) a' w' := by
      intro x σ' H' g' a' w' hx hg' hR' hT' hd'
      refine ih _ g' a' w' _ σ' H' (by simpa using hsz) hcnt hcl' hxl' hR' hT' hd' (by rw [hS']; exact hx) ?_
      rintro a2 w2 ⟨g2, T2, σ2, k1, k2⟩
      exact hQ a2 w2 ⟨g2, T2, σ2, hg'.trans k1, k2⟩
    cases hl : oq.op.looks with
    | true =>
      obtain ⟨v, e1, e2⟩ := look_there hS hoi hSq hanc hc hl os 0 [] T σ H g a w rfl rfl (Nat.zero_le _) hR hT hdf h
      have hx := look_first hS hoi hSq hanc hl os 0 [] T σ H v rfl rfl (Nat.zero_le _) (.inl e1) h
      have hcc' : chkOper E.P E.m n ops { oq with sp := false } co = true := hcc
      refine wpOp_mono ?_ (axOper_wp (Q := Q) hR hT hdf h1 hcc' (look_ax (E := E) (K := fun x s => x = v ∧ s = σ) hl e1 ⟨rfl, rfl⟩))
      rintro a' w' ⟨g', x', σ', k1, k2, k3, k4, rfl, rfl⟩
      exact go _ _ _ hx k1 k2 k3 k4
    | false =>
      have hX : ∀ j, x j i = true → (fun k => listed.getD k false) j = true := fun j hj => by
        rcases hxl j i hj with h1 | h1
        · exact h1
        · have : (fun k => listed.getD k false) i = true := h1
          rw [hSq] at this; cases this
      have hx := loud_first hS hoi hSq hanc hl hX os 0 [] T σ H rfl rfl (Nat.zero_le _) h
      refine wpOp_mono ?_ (axOper_wp (Q := Q) hR hT hdf h1 hcc hx)
      rintro a' w' ⟨g', x', σ', k1, k2, k3, k4, k5, k6⟩
      exact go _ _ _ k6 k1 k2 k3 k4

theorem all_listed {ops : Array Oper} {os : List AOper} {x : Nat → Nat → Bool} (hlen : os.length = ops.size) (hd : drawOk x os ops = true) {listed : Array Bool} (hsz : listed.size = ops.size) (hr : Region.ready .any ops listed = []) :
    ∀ k, k < os.length → listed.getD k false = true := by
  intro k
  induction k using Nat.strongRecOn with
  | _ k ih =>
    intro hk
    cases hl : listed.getD k true with
    | true =>
      have hlt : k < listed.size := by omega
      simpa [Array.getD_eq_getD_getElem?, hlt] using hl
    | false =>
      exfalso
      obtain ⟨cj, hcj, ha, _, _⟩ := drawOk_at hd (j := k) (oj := os[k]) (by simp [hk])
      simp only [ancOk, Bool.and_eq_true] at ha
      have : k ∈ Region.ready .any ops listed := ready_of hcj hl fun p hp => by
        have := List.all_eq_true.1 ha.2 p hp
        have hpk : p < k := by simpa using this
        exact ih p hpk (by omega)
      rw [hr] at this; simp at this

/-- The q-th makes an object, and nothing is ahead of it; all that write, but for it and the c-th, come behind it. -/
def draw2Ok (c q : Nat) (os : List AOper) : Bool :=
  !Nat.beq c q && (match os[q]? with
    | some o => (match o.op with | .alloc _ => true | _ => false) && !o.sp && o.guard.isNone && o.anc.isEmpty
    | none => false) && (List.range os.length).all fun k => Nat.beq k c || Nat.beq k q || (match os[k]? with | some o => o.op.looks || o.anc.contains q | none => false)

theorem any_wp2 {n : Nat} {K : Tm → St → Prop} {Q : Exit → Act → World → Prop} {ops : Array Oper} {os : List AOper} {c q : Nat} (hlen : os.length = ops.size) (hd : drawOk (fun i j => Nat.beq i c && Nat.beq j q) os ops = true)
    (hc : ∀ (k : Nat) (o : AOper), os[k]? = some o → ∃ co, ops[k]? = some co ∧ chkOper E.P E.m n ops o co = true) {oq : AOper} {z : List V} (hoq : os[q]? = some oq) (hop : oq.op = .alloc z) (hsp : oq.sp = false) (hgd : oq.guard = none) (hqa : oq.anc = [])
    (hcq : c ≠ q) (hrest : ∀ k o, os[k]? = some o → k ≠ c → k ≠ q → o.op.looks = false → q ∈ o.anc) :
    ∀ (fuel : Nat) (listed : Array Bool) (g : G) (a : Act) (w : World) (T : Tm) (σ : St), listed.size = ops.size → listed.toList.count false = fuel → listed.getD q false = false →
    (∀ k ok, listed.getD k false = true → os[k]? = some ok → ∀ i ∈ ok.anc, listed.getD i false = true) → Rel E.m g σ w → RepT E.m g n a.tmps T → a.defers = [] →
    axS E K (fun k => listed.getD k false) 0 [] os T σ [] → axS E K (addS (fun k => listed.getD k false) q) 0 [] os (put T oq.dst (.p σ.length 0)) (σ ++ [.obj z]) [(q, σ)] →
    (∀ a w, (∃ g' T σ, G.le g g' ∧ Rel E.m g' σ w ∧ RepT E.m g' n a.tmps T ∧ a.defers = [] ∧ K T σ) → Q .normal a w) →
    wpAny E.P .any ops Q fuel listed a w := by
  have hS := sound_of hd
  have hql : q < os.length := (List.getElem?_eq_some_iff.1 hoq).1
  intro fuel
  induction fuel with
  | zero =>
    intro listed g a w T σ hsz hcount hlq hcl hR hT hdf h hB hQ
    exfalso
    have hlt : q < listed.size := by omega
    have hf : listed[q] = false := by simpa [Array.getD_eq_getD_getElem?, hlt] using hlq
    have : false ∈ listed.toList := by rw [← hf]; simp
    have := List.count_pos_iff.2 this
    omega
  | succ fuel ih =>
    intro listed g a w T σ hsz hcount hlq hcl hR hT hdf h hB hQ
    refine ⟨fun hr => ?_, fun i hi => ?_⟩
    · have := all_listed hlen hd hsz hr q hql
      rw [hlq] at this; cases this
    obtain ⟨co, h1, h2, h3⟩ := ready_spec hi
    have hlt : i < ops.size := (Array.getElem?_eq_some_iff.1 h1).1
    have hlt' : i < os.length := by omega
    have hls : i < listed.size := by omega
    have hoi : os[i]? = some os[i] := by simp [hlt']
    generalize hoi' : os[i] = oi at hoi
    obtain ⟨co', h1', hcc⟩ := hc i oi hoi
    rw [h1] at h1'; cases h1'
    have hanc : ∀ k ∈ oi.anc, (fun k => listed.getD k false) k = true := anc_listed hd hcl hoi h1 h3
    have hSi : (fun k => listed.getD k false) i = false := by
      have : listed[i] = false := by simpa [Array.getD_eq_getD_getElem?, hls] using h2
      simp [Array.getD_eq_getD_getElem?, hls, this]
    have hlf : listed.toList[i]? = some false := by
      have : listed[i] = false := by simpa [Array.getD_eq_getD_getElem?, hls] using h2
      simp [hls, this]
    have hS' : (fun k => (listed.setIfInBounds i true).getD k false) = addS (fun k => listed.getD k false) i := by
      funext k
      simp only [addS, Array.getD_eq_getD_getElem?, Array.getElem?_setIfInBounds]
      by_cases e : i = k
      · subst e; simp [hls]
      · rw [if_neg e, if_neg (fun h => e h.symm)]
    have hcnt : (listed.setIfInBounds i true).toList.count false = fuel := by
      have := count_set listed.toList i hlf
      rw [Array.toList_setIfInBounds]; omega
    have hget : ∀ y, (listed.setIfInBounds i true).getD y false = addS (fun k => listed.getD k false) i y := fun y => congrFun hS' y
    have hcl' : ∀ k ok, (listed.setIfInBounds i true).getD k false = true → os[k]? = some ok → ∀ j ∈ ok.anc, (listed.setIfInBounds i true).getD j false = true := by
      intro k ok hk hok j hj
      rw [hget] at hk ⊢
      have : listed.getD j false = true := by
        by_cases hki : k = i
        · subst hki; rw [hoi] at hok; cases hok; exact hanc j hj
        · simp only [addS, if_neg hki] at hk; exact hcl k ok hk hok j hj
      unfold addS; split
      · rfl
      · exact this
    have hself : addS (fun k => listed.getD k false) i i = true := by simp [addS]
    have hqni : q ∉ oi.anc := fun hm => by have := hanc q hm; rw [show (fun k => listed.getD k false) q = listed.getD q false from rfl, hlq] at this; cases this
    by_cases hiq : i = q
    · -- the object is made
      subst hiq
      rw [hoq] at hoi; cases hoi
      have hax : axOper E oq T σ fun v s => v = .p σ.length 0 ∧ s = σ ++ [.obj z] := by
        unfold axOper; rw [hgd, hop, hsp]; exact ⟨rfl, rfl⟩
      refine wpOp_mono ?_ (axOper_wp (Q := Q) hR hT hdf h1 hcc hax)
      rintro a' w' ⟨g', x', σ', k1, k2, k3, k4, rfl, rfl⟩
      refine any_wp hlen hd hc fuel _ g' a' w' _ _ [(i, σ)] (by simpa using hsz) hcnt hcl' (fun i' j' hx => ?_) k2 k3 k4 (by rw [hS']; exact hB) ?_
      · simp only [Bool.and_eq_true] at hx
        have : j' = i := Nat.eq_of_beq_eq_true hx.2
        subst this
        exact .inr (by rw [hget]; exact hself)
      · rintro a2 w2 ⟨g2, T2, σ2, q1, q2⟩
        exact hQ a2 w2 ⟨g2, T2, σ2, k1.trans q1, q2⟩
    cases hl : oi.op.looks with
    | true =>
      obtain ⟨v, e1, e2⟩ := look_there hS hoi hSi hanc hc hl os 0 [] T σ [] g a w rfl rfl (Nat.zero_le _) hR hT hdf h
      have hx := look_first hS hoi hSi hanc hl os 0 [] T σ [] v rfl rfl (Nat.zero_le _) (.inl e1) h
      -- the other order, too
      have ap : (∀ d, oq.dst = some d → d ∉ oi.tmps) ∧ (∀ d, oi.dst = some d → oq.dst ≠ some d) := by
        rcases Nat.lt_or_gt_of_ne hiq with hlt2 | hlt2
        · rcases hS.apart i q oi oq hlt2 hoi hoq with hm | ⟨b1, b2⟩
          · rw [hqa] at hm; simp at hm
          · exact ⟨b2, fun d hd => (b1 d hd).2⟩
        · rcases hS.apart q i oq oi hlt2 hoq hoi with hm | ⟨b1, b2⟩
          · exact absurd hm hqni
          · exact ⟨fun d hd => (b1 d hd).1, fun d hd he => (b1 d he).2 hd⟩
      have c1 : ∀ k ∈ oi.tmps, T k = put T oq.dst (.p σ.length 0) k := agree_put fun d hd => ap.1 d hd
      have wit : Wit oi (put T oq.dst (.p σ.length 0)) (σ ++ [.obj z]) [(q, σ)] v := by
        cases hld : oi.op.isLoad with
        | true => exact .inr ⟨hld, (q, σ), by simp, hqni, by rw [← evG_congr c1]; exact e1⟩
        | false => exact .inl ((evG_still hld _ _ σ).trans (by rw [← evG_congr c1]; exact e1))
      have hSi2 : addS (fun k => listed.getD k false) q i = false := by simp only [addS, if_neg hiq]; exact hSi
      have hanc2 : ∀ k ∈ oi.anc, addS (fun k => listed.getD k false) q k = true := fun k hk => by
        unfold addS; split
        · rfl
        · exact hanc k hk
      have hy := look_first hS hoi hSi2 hanc2 hl os 0 [] _ _ _ v rfl rfl (Nat.zero_le _) wit hB
      have hput : put (put T oq.dst (.p σ.length 0)) oi.dst v = put (put T oi.dst v) oq.dst (.p σ.length 0) := put_comm fun d hd he => ap.2 d he hd
      have hadd : addS (addS (fun k => listed.getD k false) q) i = addS (addS (fun k => listed.getD k false) i) q := by
        funext k; simp only [addS]; split <;> split <;> rfl
      rw [hput, hadd] at hy
      have hcc' : chkOper E.P E.m n ops { oi with sp := false } co = true := hcc
      refine wpOp_mono ?_ (axOper_wp (Q := Q) hR hT hdf h1 hcc' (look_ax (E := E) (K := fun x s => x = v ∧ s = σ) hl e1 ⟨rfl, rfl⟩))
      rintro a' w' ⟨g', x', σ', k1, k2, k3, k4, rfl, rfl⟩
      refine ih _ g' a' w' _ σ' (by simpa using hsz) hcnt (by rw [hget]; simp only [addS, if_neg (Ne.symm hiq)]; exact hlq) hcl' k2 k3 k4 (by rw [hS']; exact hx) (by rw [hS']; exact hy) ?_
      rintro a2 w2 ⟨g2, T2, σ2, q1, q2⟩
      exact hQ a2 w2 ⟨g2, T2, σ2, k1.trans q1, q2⟩
    | false =>
      have hic : i = c := Classical.byContradiction fun hne => hqni (hrest i oi hoi hne hiq hl)
      subst hic
      have hX : ∀ j, (Nat.beq j i && Nat.beq i q) = true → (fun k => listed.getD k false) j = true := fun j hj => by
        simp only [Bool.and_eq_true] at hj
        exact absurd (Nat.eq_of_beq_eq_true hj.2) hiq
      have hx := loud_first hS hoi hSi hanc hl hX os 0 [] T σ [] rfl rfl (Nat.zero_le _) h
      refine wpOp_mono ?_ (axOper_wp (Q := Q) hR hT hdf h1 hcc hx)
      rintro a' w' ⟨g', x', σ', k1, k2, k3, k4, k5, k6⟩
      refine any_wp hlen hd hc fuel _ g' a' w' _ _ _ (by simpa using hsz) hcnt hcl' (fun i' j' hx => ?_) k2 k3 k4 (by rw [hS']; exact k6) ?_
      · simp only [Bool.and_eq_true] at hx
        have : i' = i := Nat.eq_of_beq_eq_true hx.1
        subst this
        exact .inl (by rw [hget]; exact hself)
      · rintro a2 w2 ⟨g2, T2, σ2, q1, q2⟩
        exact hQ a2 w2 ⟨g2, T2, σ2, k1.trans q1, q2⟩

theorem draw_wp {n : Nat} {a : Act} {T : Tm} {id : Nat} {ops : Array Oper} {os : List AOper} {Q : Ex → Tm → St → Prop} (hm : E.P.follows .mixedOrders = true) (hR : Rel E.m g σ w) (hT : RepT E.m g n a.tmps T) (hdf : a.defers = [])
    (hc : chkOpsL E.P E.m n ops os ops.toList = true) (hd : drawOk (fun _ _ => false) os ops = true) (h : axD E (Q .normal) 0 [] os T σ []) : (Code.region id ops true).wp E.P (Lift E n g Q) a w := by
  have hl := chkOpsL_len hc
  have hlen : os.length = ops.size := by simpa using hl
  have hat : ∀ (os : List AOper) (cos : List Oper), chkOpsL E.P E.m n ops os cos = true → ∀ (k : Nat) (o : AOper), os[k]? = some o → ∃ co, cos[k]? = some co ∧ chkOper E.P E.m n ops o co = true := by
    intro os
    induction os with
    | nil => intro cos _ k o ho; simp at ho
    | cons o' os ih =>
      intro cos hc k o ho
      cases cos with
      | nil => simp [chkOpsL] at hc
      | cons co cos =>
        simp only [chkOpsL, Bool.and_eq_true] at hc
        cases k with
        | zero => simp at ho; subst ho; exact ⟨co, rfl, hc.1⟩
        | succ k => exact ih cos hc.2 k o (by simpa using ho)
  refine wp_region_any hm ?_
  have hrep : ∀ k, (Array.replicate ops.size false).getD k false = false := fun k => by
    simp only [Array.getD_eq_getD_getElem?, Array.getElem?_replicate]; split <;> rfl
  refine any_wp hlen hd (fun k o ho => ?_) ops.size _ g a _ T σ [] (by simp) (by simp) (fun k ok hk => by rw [hrep] at hk; simp at hk) (fun _ _ h => by simp at h) hR.drew hT hdf ?_ (fun a w h => h)
  · obtain ⟨co, h1, h2⟩ := hat os ops.toList hc k o ho
    exact ⟨co, by simpa using h1, h2⟩
  · have e : (fun k => (Array.replicate ops.size false).getD k false) = fun _ => false := funext hrep
    rw [e]
    exact axS_of_axD os 0 [] T σ [] h

theorem draw2_wp {n : Nat} {a : Act} {T : Tm} {id : Nat} {ops : Array Oper} {os : List AOper} {c q : Nat} {Q : Ex → Tm → St → Prop} (hm : E.P.follows .mixedOrders = true) (hR : Rel E.m g σ w) (hT : RepT E.m g n a.tmps T) (hdf : a.defers = [])
    (hc : chkOpsL E.P E.m n ops os ops.toList = true) (hd : drawOk (fun i j => Nat.beq i c && Nat.beq j q) os ops = true) (h2 : draw2Ok c q os = true) (h : ax E (.draw2 c q os) T σ Q) : (Code.region id ops true).wp E.P (Lift E n g Q) a w := by
  have hl := chkOpsL_len hc
  have hlen : os.length = ops.size := by simpa using hl
  have hat : ∀ (os : List AOper) (cos : List Oper), chkOpsL E.P E.m n ops os cos = true → ∀ (k : Nat) (o : AOper), os[k]? = some o → ∃ co, cos[k]? = some co ∧ chkOper E.P E.m n ops o co = true := by
    intro os
    induction os with
    | nil => intro cos _ k o ho; simp at ho
    | cons o' os ih =>
      intro cos hc k o ho
      cases cos with
      | nil => simp [chkOpsL] at hc
      | cons co cos =>
        simp only [chkOpsL, Bool.and_eq_true] at hc
        cases k with
        | zero => simp at ho; subst ho; exact ⟨co, rfl, hc.1⟩
        | succ k => exact ih cos hc.2 k o (by simpa using ho)
  simp only [draw2Ok, Bool.and_eq_true] at h2
  obtain ⟨⟨hcq, hq0⟩, hr0⟩ := h2
  have hcq' : c ≠ q := fun e => by subst e; simp at hcq
  obtain ⟨h, hB⟩ := h
  cases hoq : os[q]? with
  | none => rw [hoq] at hB; exact hB.elim
  | some oq =>
    simp only [hoq, Bool.and_eq_true] at hq0 hB
    obtain ⟨⟨⟨hal, hsp⟩, hgd⟩, hqa⟩ := hq0
    obtain ⟨z, hop⟩ : ∃ z, oq.op = .alloc z := by
      cases hop : oq.op with
      | alloc z => exact ⟨z, rfl⟩
      | _ => rw [hop] at hal; cases hal
    have hsp' : oq.sp = false := by simpa using hsp
    have hgd' : oq.guard = none := by simpa using hgd
    have hqa' : oq.anc = [] := by simpa using hqa
    unfold axOper at hB
    rw [hgd', hop, hsp'] at hB
    have hB' : axE E (Q .normal) q 0 [] os (put T oq.dst (.p σ.length 0)) (σ ++ [.obj z]) [(q, σ)] := hB
    refine wp_region_any hm ?_
    have hrep : ∀ k, (Array.replicate ops.size false).getD k false = false := fun k => by
      simp only [Array.getD_eq_getD_getElem?, Array.getElem?_replicate]; split <;> rfl
    have e : (fun k => (Array.replicate ops.size false).getD k false) = fun _ => false := funext hrep
    refine any_wp2 (Q := Lift E n g Q) hlen hd (fun k o ho => ?_) hoq hop hsp' hgd' hqa' hcq' (fun k o ho h1 h2 h3 => ?_) ops.size _ g a _ T σ (by simp) (by simp) (hrep q) (fun k ok hk => by rw [hrep] at hk; simp at hk) hR.drew hT hdf ?_ ?_ (fun a w h => h)
    · obtain ⟨co, h1, h2⟩ := hat os ops.toList hc k o ho
      exact ⟨co, by simpa using h1, h2⟩
    · have hk := (List.getElem?_eq_some_iff.1 ho).1
      have := List.all_eq_true.1 hr0 k (by simpa using hk)
      rw [ho] at this
      simp only [Bool.or_eq_true, h3] at this
      rcases this with (h4 | h4) | h4
      · exact absurd (Nat.eq_of_beq_eq_true h4) h1
      · exact absurd (Nat.eq_of_beq_eq_true h4) h2
      · simpa using h4
    · rw [e]; exact axS_of_axD os 0 [] T σ [] h
    · rw [e]
      have e2 : addS (fun _ => false) q = fun k => Nat.beq k q := by
        funext k; simp only [addS]
        split
        · rename_i h; subst h; simp
        · rename_i h
          cases hb : Nat.beq k q
          · rfl
          · exact absurd (Nat.eq_of_beq_eq_true hb) h
      rw [e2]; exact axS_of_axE os 0 [] _ _ _ hB'

/-! The code around regions. -/

def chkCode (P : Program) (m : Nat → FuncId) (n : Nat) : ACode → Code → Bool
  | .skip, .skip => true
  | .reg os, .region _ ops false => chkOpsL P m n ops os ops.toList
  | .draw os, .region _ ops true => chkOpsL P m n ops os ops.toList && drawOk (fun _ _ => false) os ops && P.follows .mixedOrders
  | .draw2 c q os, .region _ ops true => chkOpsL P m n ops os ops.toList && drawOk (fun i j => Nat.beq i c && Nat.beq j q) os ops && P.follows .mixedOrders && draw2Ok c q os
  | .seq a b, .seq a' b' => chkCode P m n a a' && chkCode P m n b b'
  | .cond c x y, .cond c' x' y' => chkO m n c c' && chkCode P m n x x' && chkCode P m n y y'
  | .block id c, .block id' c' => id == id' && chkCode P m n c c'
  | .loop _ _ c, .loop c' => chkCode P m n c c'
  | .exit id, .exit id' => id == id'
  | .ret, .ret => true
  | _, _ => false

theorem ax_wp {n : Nat} : ∀ (c : ACode) (c' : Code) {g : G} {σ : St} {w : World} {a : Act} {T : Tm} {Q : Ex → Tm → St → Prop}, chkCode E.P E.m n c c' = true → Rel E.m g σ w → RepT E.m g n a.tmps T → a.defers = [] →
    ax E c T σ Q → c'.wp E.P (Lift E n g Q) a w := by
  intro c
  induction c with
  | skip =>
    intro c' g σ w a T Q hc hR hT hd h
    cases c' <;> try (exact nomatch (show false = true from hc))
    exact wp_skip ⟨g, T, σ, G.le.refl g, hR, hT, hd, h⟩
  | reg os =>
    intro c' g σ w a T Q hc hR hT hd h
    cases c' <;> try (exact nomatch (show false = true from hc))
    rename_i id ops dr
    cases dr <;> try (exact nomatch (show false = true from hc))
    exact region_wp hR hT hd hc h
  | draw os =>
    intro c' g σ w a T Q hc hR hT hd h
    cases c' <;> try (exact nomatch (show false = true from hc))
    rename_i id ops dr
    cases dr <;> try (exact nomatch (show false = true from hc))
    simp only [chkCode, Bool.and_eq_true] at hc
    exact draw_wp hc.2 hR hT hd hc.1.1 hc.1.2 h
  | draw2 c q os =>
    intro c' g σ w a T Q hc hR hT hd h
    cases c' <;> try (exact nomatch (show false = true from hc))
    rename_i id ops dr
    cases dr <;> try (exact nomatch (show false = true from hc))
    simp only [chkCode, Bool.and_eq_true] at hc
    exact draw2_wp hc.1.2 hR hT hd hc.1.1.1 hc.1.1.2 hc.2 h
  | seq x y ihx ihy =>
    intro c' g σ w a T Q hc hR hT hd h
    cases c' <;> try (exact nomatch (show false = true from hc))
    simp only [chkCode, Bool.and_eq_true] at hc
    simp only [ax] at h
    refine wp_seq (wp_mono (ihx _ hc.1 hR hT hd h) ?_)
    intro e a' w' he
    cases e with
    | normal =>
      obtain ⟨g', T', σ', h1, h2, h3, h4, h5⟩ := he
      exact wp_mono (ihy _ hc.2 h2 h3 h4 h5) fun e a w h => Lift.le h1 h
    | exit i => exact he
    | ret => exact he
    | _ => exact he.elim
  | cond c x y ihx ihy =>
    intro c' g σ w a T Q hc hR hT hd h
    cases c' <;> try (exact nomatch (show false = true from hc))
    simp only [chkCode, Bool.and_eq_true] at hc
    have hv := rep_ev hT hc.1.1
    simp only [ax, condP] at h
    split at h
    · rename_i hb
      rw [hb] at hv
      rename_i co _ _ 
      have : ∀ q : Value, Rep E.m g q (.b true) → q = .bool true := fun q hq => by cases hq; rfl
      exact wp_cond_true (this _ hv) (ihx _ hc.1.2 hR hT hd h)
    · rename_i hb
      rw [hb] at hv
      have : ∀ q : Value, Rep E.m g q (.b false) → q = .bool false := fun q hq => by cases hq; rfl
      exact wp_cond_false (this _ hv) (ihy _ hc.2 hR hT hd h)
    · exact h.elim
  | block id c ih =>
    intro c' g σ w a T Q hc hR hT hd h
    cases c' <;> try (exact nomatch (show false = true from hc))
    simp only [chkCode, Bool.and_eq_true, beq_iff_eq] at hc
    obtain ⟨rfl, hc⟩ := hc
    simp only [ax] at h
    refine wp_block (wp_mono (ih _ hc hR hT hd h) ?_)
    intro e a' w' he
    cases e with
    | normal => exact he
    | exit i =>
      obtain ⟨g', T', σ', h1, h2, h3, h4, h5⟩ := he
      simp only [Exit.inBlock]
      by_cases hi : i = id
      · subst hi
        rw [if_pos rfl]
        simp only [Nat.beq_refl] at h5
        exact ⟨g', T', σ', h1, h2, h3, h4, h5⟩
      · rw [if_neg hi]
        have hb : Nat.beq i id = false := by
          cases hb : Nat.beq i id
          · rfl
          · exact absurd (Nat.eq_of_beq_eq_true hb) hi
        simp only [hb] at h5
        exact ⟨g', T', σ', h1, h2, h3, h4, h5⟩
    | ret => exact he
    | _ => exact he.elim
  | loop inv keep c ih =>
    intro c' g σ w a T Q hc hR hT hd h
    cases c' <;> try (exact nomatch (show false = true from hc))
    simp only [ax] at h
    obtain ⟨I, ⟨n0, hI0⟩, hstep⟩ := h
    refine wp_loop_ghost (fun k a w => ∃ g' T' σ', G.le g g' ∧ Rel E.m g' σ' w ∧ RepT E.m g' n a.tmps T' ∧ a.defers = [] ∧ (∀ i ∈ keep, T' i = T i) ∧ I k (inv.map T') σ') ?_ ⟨g, T, σ, G.le.refl g, hR, hT, hd, fun _ _ => rfl, hI0⟩
    rintro k a' w' ⟨g', T', σ', h1, h2, h3, h4, h5, h6⟩
    have hb := forallV_spec _ _ (hstep k) (inv.map T') (by simp) σ' h6
    refine wp_mono (ih _ hc h2 (head_rep h3 h5 inv) h4 hb) ?_
    intro e a2 w2 he
    cases e with
    | normal =>
      obtain ⟨g2, T2, σ2, k1, k2, k3, k4, k5⟩ := he
      obtain ⟨k6, n', k7, k8⟩ := keeps_spec k5
      exact ⟨n', k7, g2, T2, σ2, h1.trans k1, k2, k3, k4, k6, k8⟩
    | exit i => exact Lift.le h1 he
    | ret => exact Lift.le h1 he
    | _ => exact he.elim
  | exit id =>
    intro c' g σ w a T Q hc hR hT hd h
    cases c' <;> try (exact nomatch (show false = true from hc))
    rename_i id'
    have e : id = id' := by simpa [chkCode] using hc
    subst e
    exact wp_exit ⟨g, T, σ, G.le.refl g, hR, hT, hd, h⟩
  | ret =>
    intro c' g σ w a T Q hc hR hT hd h
    cases c' <;> try (exact nomatch (show false = true from hc))
    exact wp_ret ⟨g, T, σ, G.le.refl g, hR, hT, hd, h⟩

end Go.Ab

/-
  What an abstract run of Go code promises, and that the model does so: values, states, operations (first part). No condition.
-/
import Derived.WalkKit
set_option linter.unusedVariables false
set_option linter.unusedSimpArgs false
set_option linter.unnecessarySimpa false
/-
  The abstract states of a Go run: values as trees and lists, mutable objects in a numbered store; how they stand for the model's values and worlds. No program is in sight.
-/
namespace Go.Ab
open Go.RowKit

/-- What is known of a slice's room behind its length: it is the nil slice; none; it is not nil, and nothing else is known; nothing at all is known ('may'); the room is owned, by a token. -/
inductive Cap where
  | nil
  | full
  | any
  | may
  | tok (t : Nat)
  deriving DecidableEq, Inhabited

/-- Abstract values. 'l e xs c': a slice whose elements (of e cells each) never change. 'p l off': a pointer into the mutable object l. 'ep x': a pointer to memory that never changes and holds x. 'ms l off n c e': a slice of n elements (room for c) of e cells, in the mutable object l from its cell off on. 'u': not known. -/
inductive V where
  | u
  | b (x : Bool)
  | n (k : IntKind) (x : Int)
  | s (x : ByteArray)
  | nilp
  | p (l off : Nat)
  | ep (x : V)
  | l (e : Nat) (xs : List V) (c : Cap)
  | ms (l off n c e : Nat)
  | f (fn : Nat) (first caps : List V)
  | nilf
  | agg (xs : List V)
  | tup (xs : List V)
  deriving Inhabited

def V.cells : V → List V
  | .agg xs => xs
  | v => [v]

/-- The cells of all elements, one behind the other. -/
def flat (xs : List V) : List V := xs.flatMap V.cells

/-- A mutable object, the room of a slice that may grow, or nothing any more. -/
inductive Ob where
  | obj (cells : List V)
  | room
  | dead
  deriving Inhabited

abbrev St := List Ob

/-- The ghost: the world at the beginning; the cells that never change again; where objects and tokens lie. -/
structure G where
  base : World
  imm : Nat → Nat → Option Value
  blk : Nat → Option Nat
  tok : Nat → Option (Nat × Nat × Nat)

structure G.le (g g' : G) : Prop where
  base : g'.base = g.base
  imm : ∀ b o v, g.imm b o = some v → g'.imm b o = some v
  blk : ∀ l b, g.blk l = some b → g'.blk l = some b
  tok : ∀ l b, g.tok l = some b → g'.tok l = some b

theorem G.le.refl (g : G) : G.le g g := ⟨rfl, fun _ _ _ h => h, fun _ _ h => h, fun _ _ h => h⟩
theorem G.le.trans {a b c : G} (h : G.le a b) (k : G.le b c) : G.le a c :=
  ⟨k.base.trans h.base, fun _ _ _ x => k.imm _ _ _ (h.imm _ _ _ x), fun _ _ x => k.blk _ _ (h.blk _ _ x), fun _ _ x => k.tok _ _ (h.tok _ _ x)⟩

/-- What a slice at 'a' with n elements, of e cells each, and capacity c may say of its room. -/
def CapOk (g : G) (a : Addr) (n c e : Nat) : Cap → Prop
  | .nil => False
  | .full => c = n
  | .any => True
  | .may => True
  | .tok t => (∃ p, g.tok t = some p) ∧ (c = n ∨ ∃ sz, g.tok t = some (a.block, a.off + n * e, sz) ∧ a.off + c * e ≤ sz)

theorem CapOk.mono {g g' : G} {a : Addr} {n c e : Nat} {cp : Cap} (h : G.le g g') : CapOk g a n c e cp → CapOk g' a n c e cp := by
  cases cp with
  | nil => exact id
  | full => exact id
  | any => exact id
  | may => exact id
  | tok t =>
    rintro ⟨⟨p, hp⟩, h' | ⟨sz, h1, h2⟩⟩
    · exact ⟨⟨p, h.tok _ _ hp⟩, .inl h'⟩
    · exact ⟨⟨p, h.tok _ _ hp⟩, .inr ⟨sz, h.tok _ _ h1, h2⟩⟩

/-- A value of the model, and what it stands for. 'm' gives the functions' numbers. -/
inductive Rep (m : Nat → FuncId) (g : G) : Value → V → Prop where
  | u (v : Value) : Rep m g v .u
  | b (x : Bool) : Rep m g (.bool x) (.b x)
  | n (k : IntKind) (x : Int) : Rep m g (.int k x) (.n k x)
  | s (x : ByteArray) : Rep m g (.string x) (.s x)
  | nilp : Rep m g (.pointer none) .nilp
  | p (l off bl : Nat) (h : g.blk l = some bl) : Rep m g (.pointer (some ⟨bl, off, none⟩)) (.p l off)
  | ep (bl off : Nat) (x : V) (vs : Nat → Value) (h : ∀ j, j < x.cells.length → g.imm bl (off + j) = some (vs j))
      (hr : ∀ j, j < x.cells.length → Rep m g (vs j) (x.cells.getD j .u)) (hp : ∀ j, j < x.cells.length → (vs j).oneCell' = true) : Rep m g (.pointer (some ⟨bl, off, none⟩)) (.ep x)
  | lnil (e : Nat) : Rep m g (.slice none 0 0) (.l e [] .nil)
  | lmay (e : Nat) : Rep m g (.slice none 0 0) (.l e [] .may)
  | lz (a : Addr) (e : Nat) (c : Cap) (hc : c = .any ∨ c = .may ∨ c = .full) : Rep m g (.slice (some a) 0 0) (.l e [] c)
  | l (bl off n c e : Nat) (xs : List V) (cp : Cap) (vs : Nat → Value) (hn : xs.length = n) (hc : n ≤ c) (hu : ∀ x ∈ xs, x.cells.length = e)
      (h : ∀ j, j < n * e → g.imm bl (off + j) = some (vs j)) (hr : ∀ j, j < n * e → Rep m g (vs j) ((flat xs).getD j .u))
      (hp : ∀ j, j < n * e → (vs j).oneCell' = true) (hcap : CapOk g ⟨bl, off, none⟩ n c e cp) : Rep m g (.slice (some ⟨bl, off, none⟩) n c) (.l e xs cp)
  | ms (l off n c e bl : Nat) (h : g.blk l = some bl) (hc : n ≤ c) : Rep m g (.slice (some ⟨bl, off, none⟩) n c) (.ms l off n c e)
  | f (fn : Nat) (first caps : List V) (vf vc : Array Value) (h1 : vf.size = first.length) (h2 : vc.size = caps.length)
      (hf : ∀ j, j < first.length → Rep m g (vf.getD j undef) (first.getD j .u)) (hc : ∀ j, j < caps.length → Rep m g (vc.getD j undef) (caps.getD j .u)) :
      Rep m g (.func (.func (m fn)) vf vc) (.f fn first caps)
  | nilf : Rep m g .nilFunc .nilf
  | agg (xs : List V) (vs : Array Value) (h : vs.size = xs.length) (hr : ∀ j, j < xs.length → Rep m g (vs.getD j undef) (xs.getD j .u))
      (hp : ∀ j, j < xs.length → (vs.getD j undef).oneCell' = true) : Rep m g (.agg vs) (.agg xs)
  | tup (xs : List V) (vs : Array Value) (h : vs.size = xs.length) (hr : ∀ j, j < xs.length → Rep m g (vs.getD j undef) (xs.getD j .u)) : Rep m g (.tuple vs) (.tup xs)

theorem Rep.mono {m : Nat → FuncId} {g g' : G} (hg : G.le g g') {v : Value} {x : V} (h : Rep m g v x) : Rep m g' v x := by
  induction h with
  | u v => exact .u v
  | b x => exact .b x
  | n k x => exact .n k x
  | s x => exact .s x
  | nilp => exact .nilp
  | p l off bl h => exact .p l off bl (hg.blk _ _ h)
  | ep bl off x vs h hr hp ih => exact .ep bl off x vs (fun j hj => hg.imm _ _ _ (h j hj)) ih hp
  | lnil e => exact .lnil e
  | lmay e => exact .lmay e
  | lz a e c hc => exact .lz a e c hc
  | l bl off n c e xs cp vs hn hc hu h hr hp hcap ih => exact .l bl off n c e xs cp vs hn hc hu (fun j hj => hg.imm _ _ _ (h j hj)) ih hp (hcap.mono hg)
  | ms l off n c e bl h hc => exact .ms l off n c e bl (hg.blk _ _ h) hc
  | f fn first caps vf vc h1 h2 hf hc ih1 ih2 => exact .f fn first caps vf vc h1 h2 ih1 ih2
  | nilf => exact .nilf
  | agg xs vs h hr hp ih => exact .agg xs vs h ih hp
  | tup xs vs h hr ih => exact .tup xs vs h ih

/-- Rows of values. -/
def RepA (m : Nat → FuncId) (g : G) (vs : Array Value) (xs : List V) : Prop := vs.size = xs.length ∧ ∀ j, j < xs.length → Rep m g (vs.getD j undef) (xs.getD j .u)

theorem RepA.mono {m : Nat → FuncId} {g g' : G} (hg : G.le g g') {vs : Array Value} {xs : List V} (h : RepA m g vs xs) : RepA m g' vs xs := ⟨h.1, fun j hj => (h.2 j hj).mono hg⟩

theorem RepA.at {m : Nat → FuncId} {g : G} {vs : Array Value} {xs : List V} (h : RepA m g vs xs) (j : Nat) : Rep m g (vs.getD j undef) (xs.getD j .u) := by
  by_cases hj : j < xs.length
  · exact h.2 j hj
  · have : xs.getD j .u = .u := by simp [List.getD, List.getElem?_eq_none (Nat.le_of_not_lt hj)]
    rw [this]; exact .u _

theorem getD_set (xs : List V) (i j : Nat) (x d : V) (hi : i < xs.length) : (xs.set i x).getD j d = if j = i then x else xs.getD j d := by
  simp only [List.getD]
  rw [List.getElem?_set]
  by_cases h : i = j
  · subst h; simp [hi]
  · have : ¬ j = i := fun h' => h h'.symm
    simp [h, this]

theorem getD_setA (xs : Array Value) (i j : Nat) (x d : Value) (hi : i < xs.size) : (xs.setIfInBounds i x).getD j d = if j = i then x else xs.getD j d := by
  simp only [Array.getD_eq_getD_getElem?, Array.getElem?_setIfInBounds]
  by_cases h : i = j
  · subst h; simp [hi]
  · have : ¬ j = i := fun h' => h h'.symm
    simp [h, this]

theorem RepA.set {m : Nat → FuncId} {g : G} {vs : Array Value} {xs : List V} (h : RepA m g vs xs) (i : Nat) {v : Value} {x : V} (hv : Rep m g v x) : RepA m g (vs.setIfInBounds i v) (xs.set i x) := by
  refine ⟨by simpa using h.1, fun j hj => ?_⟩
  have hl : j < xs.length := by simpa using hj
  by_cases hi : i < xs.length
  · rw [getD_setA _ _ _ _ _ (by rw [h.1]; exact hi), getD_set _ _ _ _ _ hi]
    by_cases e : j = i
    · rw [if_pos e, if_pos e]; exact hv
    · rw [if_neg e, if_neg e]; exact h.2 j hl
  · have e1 : xs.set i x = xs := List.set_eq_of_length_le (Nat.le_of_not_lt hi)
    have e2 : vs.setIfInBounds i v = vs := by
      apply Array.setIfInBounds_eq_of_size_le; rw [h.1]; exact Nat.le_of_not_lt hi
    rw [e1, e2]; exact h.2 j hl

/-- Rows of cells: none is a struct, an array or a tuple. -/
def RepC (m : Nat → FuncId) (g : G) (vs : Array Value) (xs : List V) : Prop := RepA m g vs xs ∧ ∀ j, j < xs.length → (vs.getD j undef).oneCell' = true

theorem RepC.mono {m : Nat → FuncId} {g g' : G} (hg : G.le g g') {vs : Array Value} {xs : List V} (h : RepC m g vs xs) : RepC m g' vs xs := ⟨h.1.mono hg, h.2⟩

/-- Where a live object, or the room of a token, lies. -/
def home (g : G) (σ : St) (l : Nat) : Option Nat :=
  match σ[l]? with
  | some (.obj _) => g.blk l
  | some .room => (g.tok l).map (·.1)
  | _ => none

def ObjOk (m : Nat → FuncId) (g : G) (w : World) (l : Nat) : Ob → Prop
  | .obj cells => ∃ b vals T, g.blk l = some b ∧ g.base.heap.size ≤ b ∧ w.heap[b]? = some (.cells vals T (0, 0)) ∧ RepC m g vals cells ∧ ∀ o, g.imm b o = none
  | .room => ∃ b fr sz vals T, g.tok l = some (b, fr, sz) ∧ g.base.heap.size ≤ b ∧ w.heap[b]? = some (.cells vals T (0, 0)) ∧ vals.size = sz ∧ ∀ o, fr ≤ o → g.imm b o = none
  | .dead => True

structure Rel (m : Nat → FuncId) (g : G) (σ : St) (w : World) : Prop where
  below : Below g.base.heap.size g.base w
  imm : ∀ b o v, g.imm b o = some v → w.cell? ⟨b, o, none⟩ = some v
  objs : ∀ l ob, σ[l]? = some ob → ObjOk m g w l ob
  inj : ∀ l l' b, home g σ l = some b → home g σ l' = some b → l = l'
  fresh : ∀ l, σ.length ≤ l → g.blk l = none ∧ g.tok l = none

end Go.Ab
/-
  Operations and code over abstract states: what a step does (a computable function), what a piece of code promises (a statement by recursion on the code).
-/
namespace Go.Ab

inductive Od where
  | t (i : Nat)
  | c (v : V)
  deriving Inhabited

/-- What kind of things an '==' compares. -/
inductive Bk where
  | num | bool | str | ptr | slice | func | ints
  deriving DecidableEq, Inhabited

inductive AOp where
  | mv (x : Od)
  | pick (c a b : Od)
  | bin (t : Bk) (op : BinOp) (x y : Od)
  | un (op : UnOp) (x : Od)
  | fld (x : Od) (off sz : Nat) (ag : Bool)
  | ext (x : Od) (i : Nat)
  | load (x : Od) (sz : Nat) (ag : Bool)
  | store (a x : Od) (sz : Nat)
  | alloc (zero : List V)
  | box (x : Od)
  | build (zero : List V) (parts : List (Nat × Nat × Od))
  | mks (e : Nat) (xs : List Od)
  | fa (x : Od) (off sz : Nat) (ag : Bool)
  | ias (x i : Od) (e : Nat)
  | iaa (x i : Od) (len e : Nat)
  | ixa (x i : Od) (len e : Nat) (ag : Bool)
  | ixs (x i : Od)
  | slc (x : Od) (lo hi mx : Option Od) (e : Nat)
  | slcs (x : Od) (lo hi : Option Od)
  | slca (x : Od) (len e : Nat) (ag : Bool)
  | len (x : Od)
  | slen (x : Od)
  | lenc (n : Nat)
  | app (x y : Od) (e bytes : Nat)
  | mn (xs : List Od)
  | mx (xs : List Od)
  | call (f : Nat) (args : List Od)
  | callv (f : Od) (args : List Od)
  | mkf (f : Nat) (first caps : List Od)
  | nilchk (x : Od)
  | cnv (k : IntKind) (x : Od)
  | b2s (x : Od)
  | appm (x y : Od) (e bytes : Nat)
  | appz (x y : Od) (zero : List V) (bytes : Nat)
  | cpy (x y : Od) (e : Nat)
  | clr (x : Od) (zero : List V)
  | cap (x : Od)
  | slcm (x : Od) (lo hi : Option Od) (len e : Nat)
  | mkz (x : Od) (zero : List V)
  deriving Inhabited

/-- An operation in a region: where its value goes; 'sp': the value is a bool, and the cases part here; what guards it; 'anc': for a region whose order is open: the operations that must be ahead of it. -/
structure AOper where
  dst : Option Nat
  op : AOp
  sp : Bool := false
  guard : Option (Nat × Bool) := none
  anc : List Nat := []
  deriving Inhabited

inductive ACode where
  | skip
  | reg (ops : List AOper)
  | draw (ops : List AOper)
  | draw2 (c q : Nat) (ops : List AOper)
  | seq (a b : ACode)
  | cond (c : Od) (x y : ACode)
  | block (id : Nat) (c : ACode)
  | loop (inv keep : List Nat) (c : ACode)
  | exit (id : Nat)
  | ret
  deriving Inhabited

inductive ARes where
  | t (i : Nat)
  | cell (i sz : Nat) (ag : Bool)
  deriving Inhabited

structure AFunc where
  nargs : Nat
  ntmps : Nat
  res : List ARes
  body : ACode
  deriving Inhabited

abbrev Tm := Nat → V

def ev (T : Tm) : Od → V
  | .t i => T i
  | .c v => v

def upd (T : Tm) (d : Nat) (v : V) : Tm := fun i => match Nat.beq i d with
  | true => v
  | false => T i

def put (T : Tm) : Option Nat → V → Tm
  | some d, v => upd T d v
  | none, _ => T

/-- The arguments, and nothing else. -/
def args : List V → Tm
  | [], _ => .u
  | v :: _, 0 => v
  | _ :: r, i + 1 => args r i

/-- The cells of a value, where they are known. -/
def V.cells? : V → Option (List V)
  | .u | .tup _ => none
  | v => some v.cells

def splice : List V → Nat → List V → List V
  | cs, _, [] => cs
  | cs, off, v :: vs => splice (cs.set off v) (off + 1) vs

def partV (cs : List V) (off sz : Nat) (ag : Bool) : Option V :=
  if off + sz ≤ cs.length then (if ag then some (.agg ((cs.drop off).take sz)) else if sz = 1 then some (cs.getD off .u) else none) else none

def byteOf : V → UInt8
  | .n _ x => x.toNat.toUInt8
  | _ => 0

def cmpV (op : BinOp) (a b : Int) : Option V :=
  match op with
  | .eql => some (.b (decide (a = b)))
  | .neq => some (.b (!decide (a = b)))
  | .lss => some (.b (decide (a < b)))
  | .leq => some (.b (decide (a ≤ b)))
  | .gtr => some (.b (decide (b < a)))
  | .geq => some (.b (decide (b ≤ a)))
  | _ => none

def bitsV (op : BinOp) (k : IntKind) (a b : Int) : Int :=
  match op with
  | .and => k.wrap (BitVec.ofInt k.bits a &&& BitVec.ofInt k.bits b).toNat
  | .or => k.wrap (BitVec.ofInt k.bits a ||| BitVec.ofInt k.bits b).toNat
  | .xor => k.wrap (BitVec.ofInt k.bits a ^^^ BitVec.ofInt k.bits b).toNat
  | _ => k.wrap (BitVec.ofInt k.bits a &&& ~~~BitVec.ofInt k.bits b).toNat

def numV (op : BinOp) (k : IntKind) (a : Int) (k' : IntKind) (b : Int) : Option V :=
  match op with
  | .shl => if 0 ≤ b then some (.n k (k.wrap (a * 2 ^ min b.toNat k.bits))) else none
  | .shr => if 0 ≤ b then some (.n k (a.fdiv (2 ^ min b.toNat k.bits))) else none
  | op => if k = k' then
      match op with
      | .add => some (.n k (k.wrap (a + b)))
      | .sub => some (.n k (k.wrap (a - b)))
      | .mul => some (.n k (k.wrap (a * b)))
      | .quo => if b = 0 then none else some (.n k (k.wrap (a.tdiv b)))
      | .rem => if b = 0 then none else some (.n k (a.tmod b))
      | .and | .or | .xor | .andNot => some (.n k (bitsV op k a b))
      | op => cmpV op a b
    else none

def eqOr (op : BinOp) (r : Option Bool) : Option V :=
  match op with
  | .eql => r.map .b
  | .neq => r.map fun t => .b (!t)
  | _ => none

def binV (t : Bk) (op : BinOp) (x y : V) : Option V :=
  match t with
  | .num => match x, y with
    | .n k a, .n k' b => numV op k a k' b
    | _, _ => none
  | .bool => match x, y with
    | .b a, .b b => eqOr op (some (a == b))
    | _, _ => none
  | .str => match x, y with
    | .s a, .s b => match op with
      | .add => if a.size + b.size ≤ 9223372036854775807 then some (.s (a ++ b)) else none
      | op => eqOr op (some (decide (a = b)))
    | _, _ => none
  | .ints => match x, y with
    | .agg [.n k0 a0, .n k1 a1], .agg [.n k0' b0, .n k1' b1] => if k0 = k0' ∧ k1 = k1' then eqOr op (some (decide (a0 = b0) && decide (a1 = b1))) else none
    | _, _ => none
  | .ptr => match x, y with
    | .nilp, .nilp => eqOr op (some true)
    | .nilp, .p _ _ | .nilp, .ep _ | .p _ _, .nilp | .ep _, .nilp => eqOr op (some false)
    | _, _ => none
  | .slice => match x, y with
    | .l _ _ .nil, .l _ _ c => if c = .may then none else eqOr op (some (decide (c = .nil)))
    | .l _ _ c, .l _ _ .nil => if c = .may then none else eqOr op (some (decide (c = .nil)))
    | .ms .., .l _ _ .nil => eqOr op (some false)
    | _, _ => none
  | .func => match x, y with
    | .nilf, .nilf => eqOr op (some true)
    | .nilf, .f _ _ _ | .f _ _ _, .nilf => eqOr op (some false)
    | _, _ => none

def unV (op : UnOp) (x : V) : Option V :=
  match op, x with
  | .not, .b t => some (.b (!t))
  | .neg, .n k a => some (.n k (k.wrap (0 - a)))
  | .xor, .n k a => some (.n k (bitsV .xor k (if k.signed then -1 else k.max) a))
  | _, _ => none

def minL (k : IntKind) : Int → List V → Option V
  | a, [] => some (.n k a)
  | a, .n _ b :: r => minL k (min a b) r
  | _, _ => none
def maxL (k : IntKind) : Int → List V → Option V
  | a, [] => some (.n k a)
  | a, .n _ b :: r => maxL k (max a b) r
  | _, _ => none
def minV : List V → Option V
  | .n k a :: r => minL k a r
  | _ => none
def maxV : List V → Option V
  | .n k a :: r => maxL k a r
  | _ => none

def buildV : List V → List (Nat × Nat × V) → Option V
  | cs, [] => some (.agg cs)
  | cs, (off, sz, x) :: r =>
    match x.cells? with
    | some vs => if vs.length = sz ∧ off + sz ≤ cs.length then buildV (splice cs off vs) r else none
    | none => none

def pickV (c a b : V) : Option V :=
  match c with
  | .b t => some (if t then a else b)
  | _ => none
def fldV (x : V) (off sz : Nat) (ag : Bool) : Option V :=
  match x with
  | .agg cs => partV cs off sz ag
  | _ => none
def extV (x : V) (i : Nat) : Option V :=
  match x with
  | .tup vs => vs[i]?
  | _ => none
def heldV (x : V) (sz : Nat) (ag : Bool) : Option V :=
  match x with
  | .agg cs => if ag then (if cs.length = sz then some (.agg cs) else none) else none
  | .u => none
  | .tup _ => none
  | x => if ag then none else some x
def cellsOf (σ : St) (l : Nat) : Option (List V) :=
  match σ[l]? with
  | some (.obj cs) => some cs
  | _ => none
def ldV (x : V) (sz : Nat) (ag : Bool) (σ : St) : Option V :=
  match x with
  | .p l off => match cellsOf σ l with
    | some cs => partV cs off sz ag
    | none => none
  | .ep x => heldV x sz ag
  | _ => none
def mksV (e : Nat) (xs : List V) : Option V :=
  if 0 < e ∧ xs.all (fun x => match x.cells? with | some cs => cs.length == e | none => false) then some (.l e xs .full) else none
def faV (x : V) (off sz : Nat) (ag : Bool) : Option V :=
  match x with
  | .p l o => some (.p l (o + off))
  | .ep (.agg cs) => (partV cs off sz ag).map .ep
  | _ => none
def iasV (x i : V) (e : Nat) : Option V :=
  match x, i with
  | .l e' xs _, .n _ i => if e = e' ∧ 0 ≤ i ∧ i < xs.length then some (.ep (xs.getD i.toNat .u)) else none
  | .ms l off n _ e', .n _ i => if e = e' ∧ 0 ≤ i ∧ i < n then some (.p l (off + i.toNat * e)) else none
  | _, _ => none
def iaaV (x i : V) (len e : Nat) : Option V :=
  match x, i with
  | .p l o, .n _ i => if 0 ≤ i ∧ i < len then some (.p l (o + i.toNat * e)) else none
  | _, _ => none
def ixaV (x i : V) (len e : Nat) (ag : Bool) : Option V :=
  match x, i with
  | .agg cs, .n _ i => if 0 ≤ i ∧ i < len then partV cs (i.toNat * e) e ag else none
  | _, _ => none
def ixsV (x i : V) : Option V :=
  match x, i with
  | .s s, .n _ i => if 0 ≤ i ∧ i < s.size then some (.n .u8 (s.data.toList.getD i.toNat 0).toNat) else none
  | _, _ => none
def loOf : Option V → Option Int
  | none => some 0
  | some (.n _ i) => some i
  | _ => none
def hiOf (n : Nat) : Option V → Option Int
  | none => some n
  | some (.n _ i) => some i
  | _ => none
/-- The third index, where there is one, is the second one. -/
def mxOk (hi : Int) : Option V → Bool
  | none => true
  | some (.n _ i) => decide (i = hi)
  | _ => false
/-- The room of a slice's part, up to hi of its n elements. -/
def capOf (c : Cap) (hi n : Int) : Cap := if c = .nil then .nil else if c = .may then .may else if hi = n then c else .any
/-- The third index, or the room. -/
def mxOf (c : Nat) : Option V → Option Int
  | none => some c
  | some (.n _ i) => some i
  | _ => none
def slcV (x : V) (lo hi mx : Option V) (e : Nat) : Option V :=
  match x with
  | .ms l off n c e' => match loOf lo, hiOf n hi, mxOf c mx with
    | some lo, some hi, some mx =>
      if e = e' ∧ 0 ≤ lo ∧ lo ≤ hi ∧ hi ≤ mx ∧ mx ≤ c then some (.ms l (if mx = lo then off else off + lo.toNat * e) (hi - lo).toNat (mx - lo).toNat e) else none
    | _, _, _ => none
  | .l e' xs c => match loOf lo, hiOf xs.length hi with
    | some lo, some hi =>
      if e = e' ∧ 0 < e ∧ 0 ≤ lo ∧ lo ≤ hi ∧ hi ≤ xs.length ∧ mxOk hi mx = true
      then some (.l e ((xs.drop lo.toNat).take (hi - lo).toNat) (if mx.isSome ∧ c ≠ .nil ∧ c ≠ .may then .full else capOf c hi xs.length)) else none
    | _, _ => none
  | _ => none
def slcsV (x : V) (lo hi : Option V) : Option V :=
  match x with
  | .s s => match loOf lo, hiOf s.size hi with
    | some lo, some hi => if 0 ≤ lo ∧ lo ≤ hi ∧ hi ≤ s.size then some (.s (s.extract lo.toNat hi.toNat)) else none
    | _, _ => none
  | _ => none
def lenV (x : V) : Option V :=
  match x with
  | .l _ xs _ => some (.n .i64 xs.length)
  | .ms _ _ n _ _ => some (.n .i64 n)
  | _ => none
def capV (x : V) : Option V :=
  match x with
  | .l _ _ .nil => some (.n .i64 0)
  | .l _ xs .full => some (.n .i64 xs.length)
  | .ms _ _ _ c _ => some (.n .i64 c)
  | _ => none
def slcmV (x : V) (lo hi : Option V) (len e : Nat) : Option V :=
  match x with
  | .p l off => match loOf lo, hiOf len hi with
    | some lo, some hi => if 0 ≤ lo ∧ lo ≤ hi ∧ hi ≤ len then some (.ms l (if (len : Int) = lo then off else off + lo.toNat * e) (hi - lo).toNat (len - lo).toNat e) else none
    | _, _ => none
  | _ => none
def slenV (x : V) : Option V :=
  match x with
  | .s s => some (.n .i64 s.size)
  | _ => none
def nilV (x : V) : Option V :=
  match x with
  | .p l o => some (.p l o)
  | .ep x => some (.ep x)
  | .f a b c => some (.f a b c)
  | _ => none
def cnvV (k : IntKind) (x : V) : Option V :=
  match x with
  | .n _ a => some (.n k (k.wrap a))
  | _ => none
def b2sV (x : V) : Option V :=
  match x with
  | .l 1 xs _ => if xs.all (fun x => match x with | .n .u8 _ => true | _ => false) then some (.s ⟨(xs.map byteOf).toArray⟩) else none
  | _ => none

/-- Operations that only look. -/
def evP (o : AOp) (T : Tm) (σ : St) : Option V :=
  match o with
  | .mv x => some (ev T x)
  | .pick c a b => pickV (ev T c) (ev T a) (ev T b)
  | .bin t op x y => binV t op (ev T x) (ev T y)
  | .un op x => unV op (ev T x)
  | .fld x off sz ag => fldV (ev T x) off sz ag
  | .ext x i => extV (ev T x) i
  | .load x sz ag => ldV (ev T x) sz ag σ
  | .build zero parts => buildV zero (parts.map fun p => (p.1, p.2.1, ev T p.2.2))
  | .mks e xs => mksV e (xs.map (ev T))
  | .fa x off sz ag => faV (ev T x) off sz ag
  | .ias x i e => iasV (ev T x) (ev T i) e
  | .iaa x i len e => iaaV (ev T x) (ev T i) len e
  | .ixa x i len e ag => ixaV (ev T x) (ev T i) len e ag
  | .ixs x i => ixsV (ev T x) (ev T i)
  | .slc x lo hi mx e => slcV (ev T x) (lo.map (ev T)) (hi.map (ev T)) (mx.map (ev T)) e
  | .slcs x lo hi => slcsV (ev T x) (lo.map (ev T)) (hi.map (ev T))
  | .len x => lenV (ev T x)
  | .slen x => slenV (ev T x)
  | .lenc n => some (.n .i64 n)
  | .mn xs => minV (xs.map (ev T))
  | .mx xs => maxV (xs.map (ev T))
  | .mkf f first caps => some (.f f (first.map (ev T)) (caps.map (ev T)))
  | .nilchk x => nilV (ev T x)
  | .cnv k x => cnvV k (ev T x)
  | .b2s x => b2sV (ev T x)
  | .cap x => capV (ev T x)
  | .slcm x lo hi len e => slcmV (ev T x) (lo.map (ev T)) (hi.map (ev T)) len e
  | _ => none

/-- The cells of an array, as elements. -/
def chunks (e : Nat) (ag : Bool) : Nat → List V → List V
  | 0, _ => []
  | n + 1, cs => (if ag then .agg (cs.take e) else cs.getD 0 .u) :: chunks e ag n (cs.drop e)

def storeV (a x : V) (sz : Nat) (σ : St) : Option (V × St) :=
  match a, x.cells? with
  | .p l off, some vs => match cellsOf σ l with
    | some cs => if vs.length = sz ∧ off + sz ≤ cs.length then some (.u, σ.set l (.obj (splice cs off vs))) else none
    | _ => none
  | _, _ => none
def boxV (x : V) (σ : St) : Option (V × St) :=
  match x.cells? with
  | some cs => some (.p σ.length 0, σ ++ [.obj cs])
  | none => none
def appV (x y : V) (e bytes : Nat) (σ : St) : Option (V × St) :=
  match x, y with
  | .l e1 xs c, .l e2 ys _ =>
    if 0 < e ∧ e1 = e ∧ e2 = e ∧ (xs.length + ys.length) * bytes ≤ 140737488355328 ∧ xs.length + ys.length ≤ 140737488355328 then
      (if ys.isEmpty then some (.l e xs c, σ) else
        match c with
        | .nil | .full => some (.l e (xs ++ ys) (.tok σ.length), σ ++ [.room])
        | .tok t => match σ[t]? with
          | some .room => some (.l e (xs ++ ys) (.tok σ.length), σ.set t .dead ++ [.room])
          | _ => none
        | .any | .may => none)
    else none
  | _, _ => none
def slcaV (x : V) (len e : Nat) (ag : Bool) (σ : St) : Option (V × St) :=
  match x with
  | .p l 0 => match cellsOf σ l with
    | some cs => if 0 < e ∧ cs.length = len * e ∧ (ag ∨ e = 1) then some (.l e (chunks e ag len cs) .full, σ.set l .dead) else none
    | _ => none
  | _ => none

/-- The cells of a slice's first k elements, where they are known. -/
def srcC (x : V) (e k : Nat) (σ : St) : Option (List V) :=
  match x with
  | .l e' xs _ => if e = e' ∧ k ≤ xs.length then some (flat (xs.take k)) else none
  | .ms l off n _ e' => if e = e' ∧ k ≤ n then (match cellsOf σ l with
    | some cs => if off + k * e ≤ cs.length then some ((cs.drop off).take (k * e)) else none
    | none => none) else none
  | _ => none
def cntV (x : V) : Option Nat :=
  match x with
  | .l _ xs _ => some xs.length
  | .ms _ _ n _ _ => some n
  | _ => none
def cpyV (x y : V) (e : Nat) (σ : St) : Option (V × St) :=
  match x, cntV y with
  | .ms l off n _ e', some k => match srcC y e (min n k) σ, cellsOf σ l with
    | some ys, some cs => if e = e' ∧ 0 < e ∧ off + min n k * e ≤ cs.length then some (.n .i64 (min n k : Nat), σ.set l (.obj (splice cs off ys))) else none
    | _, _ => none
  | _, _ => none
/-- The zero cells of k elements. -/
def zeros (k : Nat) (zero : List V) : List V := flat (List.replicate k (.agg zero))
def clrV (x : V) (zero : List V) (σ : St) : Option (V × St) :=
  match x with
  | .ms l off n _ e => match cellsOf σ l with
    | some cs => if e = zero.length ∧ off + n * e ≤ cs.length then some (.u, σ.set l (.obj (splice cs off (zeros n zero)))) else none
    | none => none
  | _ => none
def mkzV (x : V) (zero : List V) (σ : St) : Option (V × St) :=
  match x with
  | .n _ k => if 0 < zero.length ∧ 0 ≤ k ∧ k * zero.length ≤ 16777216 then some (.ms σ.length 0 k.toNat k.toNat zero.length, σ ++ [.obj (zeros k.toNat zero)]) else none
  | _ => none

def allocW (zero : List V) (σ : St) : Option (V × St) := some (.p σ.length 0, σ ++ [.obj zero])

/-- Operations that write, or make a mutable thing. -/
def evW (o : AOp) (T : Tm) (σ : St) : Option (V × St) :=
  match o with
  | .store a x sz => storeV (ev T a) (ev T x) sz σ
  | .alloc zero => some (.p σ.length 0, σ ++ [.obj zero])
  | .box x => boxV (ev T x) σ
  | .app x y e bytes => appV (ev T x) (ev T y) e bytes σ
  | .slca x len e ag => slcaV (ev T x) len e ag σ
  | .cpy x y e => cpyV (ev T x) (ev T y) e σ
  | .clr x z => clrV (ev T x) z σ
  | .mkz x z => mkzV (ev T x) z σ
  | _ => none

def AOp.looks : AOp → Bool
  | .store .. | .alloc _ | .box _ | .app .. | .slca .. | .call .. | .callv .. | .appm .. | .appz .. | .cpy .. | .clr .. | .mkz .. => false
  | _ => true

structure Env where
  P : Program
  m : Nat → FuncId

/-- There is such a function, and it has a body. -/
def calleeOk (P : Program) (f : FuncId) : Bool :=
  match P.funcs[f]? with
  | some fn => !(fn.name == "runtime.NumGoroutine") && fn.body.isSome
  | none => false

/-- A call of a function by its number: from each world that the state stands for, it returns; what it returns, and the state behind it, meet K. -/
def ACalls (E : Env) (id : Nat) (args : List V) (σ : St) (K : V → St → Prop) : Prop :=
  calleeOk E.P (E.m id) = true ∧ ∀ (g : G) (w : World) (vals : Array Value), Rel E.m g σ w → RepA E.m g vals args →
    Calls E.P (E.m id) vals w fun e w' => ∃ v x g' σ', e = .returned v ∧ G.le g g' ∧ Rel E.m g' σ' w' ∧ Rep E.m g' v x ∧ K x σ'

def optP (r : Option V) (σ : St) (K : V → St → Prop) : Prop :=
  match r with
  | some v => K v σ
  | none => False

def optW (r : Option (V × St)) (K : V → St → Prop) : Prop :=
  match r with
  | some (v, σ) => K v σ
  | none => False

def callV (E : Env) (f : V) (args : List V) (σ : St) (K : V → St → Prop) : Prop :=
  match f with
  | .f id first caps => ACalls E id (first ++ args ++ caps) σ K
  | _ => False

/-- A new object that holds some cells, with room behind. -/
def newM (e n : Nat) (cs : List V) (σ : St) (K : V → St → Prop) : Prop :=
  ∀ c, n ≤ c → K (.ms σ.length 0 n c e) (σ ++ [.obj (cs ++ List.replicate ((c - n) * e) .u)])

/-- Appending the cells ys of k elements to a slice that may be written: in its room, or in a new object. -/
def appC (x : V) (k : Nat) (ys : List V) (e bytes : Nat) (σ : St) (K : V → St → Prop) : Prop :=
  match x with
  | .l e' xs .nil | .l e' xs .full => e = e' ∧ 0 < e ∧ (xs.length + k) * bytes ≤ 140737488355328 ∧ xs.length + k ≤ 140737488355328 ∧ (k = 0 → K x σ) ∧ (0 < k → newM e (xs.length + k) (flat xs ++ ys) σ K)
  | .ms l off n c e' => match cellsOf σ l with
    | some cs => e = e' ∧ 0 < e ∧ (n + k) * bytes ≤ 140737488355328 ∧ n + k ≤ 140737488355328 ∧ off + n * e ≤ cs.length ∧
      (n + k ≤ c → off + (n + k) * e ≤ cs.length ∧ K (.ms l off (n + k) c e) (σ.set l (.obj (splice cs (off + n * e) ys)))) ∧
      (c < n + k → newM e (n + k) ((cs.drop off).take (n * e) ++ ys) σ K)
    | none => False
  | _ => False

def appmP (x y : V) (e bytes : Nat) (σ : St) (K : V → St → Prop) : Prop :=
  match cntV y with
  | some k => match srcC y e k σ with
    | some ys => appC x k ys e bytes σ K
    | none => False
  | none => False

/-- Appending zero elements. -/
def appzP (x y : V) (zero : List V) (bytes : Nat) (σ : St) (K : V → St → Prop) : Prop :=
  match y with
  | .n .i64 k => 0 ≤ k ∧ k ≤ 140737488355328 ∧ k * bytes ≤ 140737488355328 ∧ appC x k.toNat (zeros k.toNat zero) zero.length bytes σ K
  | _ => False

def axOp (E : Env) (o : AOp) (T : Tm) (σ : St) (K : V → St → Prop) : Prop :=
  match o with
  | .appm x y e bytes => appmP (ev T x) (ev T y) e bytes σ K
  | .appz x y zero bytes => appzP (ev T x) (ev T y) zero bytes σ K
  | .call f args => ACalls E f (args.map (ev T)) σ K
  | .callv f args => callV E (ev T f) (args.map (ev T)) σ K
  | o => match o.looks with
    | true => optP (evP o T σ) σ K
    | false => optW (evW o T σ) K

/-- The cases of a bool. -/
def splitP (v : V) (p q : Prop) : Prop :=
  match v with
  | .b t => (t = true → p) ∧ (t = false → q)
  | _ => False

def spP (sp : Bool) (K : V → St → Prop) : V → St → Prop :=
  match sp with
  | true => fun v σ => splitP v (K (.b true) σ) (K (.b false) σ)
  | false => K

def guardP (g : V) (want : Bool) (p q : Prop) : Prop :=
  match g with
  | .b true => (match want with | true => p | false => q)
  | .b false => (match want with | true => q | false => p)
  | .tup [] => q
  | _ => False

def axOper (E : Env) (o : AOper) (T : Tm) (σ : St) (K : V → St → Prop) : Prop :=
  match o.guard with
  | none => axOp E o.op T σ (spP o.sp K)
  | some (g, want) => guardP (T g) want (axOp E o.op T σ (spP o.sp K)) (K (.tup []) σ)

def axOps (E : Env) : List AOper → Tm → St → (Tm → St → Prop) → Prop
  | [], T, σ, K => K T σ
  | o :: r, T, σ, K => axOper E o T σ fun v σ' => axOps E r (put T o.dst v) σ' K

inductive Ex where
  | normal
  | exit (id : Nat)
  | ret
  deriving DecidableEq

def condP (c : V) (p q : Prop) : Prop :=
  match c with
  | .b true => p
  | .b false => q
  | _ => False

def AOp.isLoad : AOp → Bool
  | .load .. => true
  | _ => false

/-- A guarded operation that only looks, as one function. -/
def evG (o : AOper) (T : Tm) (σ : St) : Option V :=
  match o.guard with
  | none => evP o.op T σ
  | some (g, want) => match T g with
    | .b true => (match want with | true => evP o.op T σ | false => some (.tup []))
    | .b false => (match want with | true => some (.tup []) | false => evP o.op T σ)
    | .tup [] => some (.tup [])
    | _ => none

/-- What a load, that may come on either side of the writes in H, must be: the same at each of them. -/
def sameAt (o : AOper) (T : Tm) (v : V) : List (Nat × St) → Prop
  | [] => True
  | (i, σ) :: H => match o.anc.contains i with
    | true => sameAt o T v H
    | false => evG o T σ = some v ∧ sameAt o T v H

def dstV (T : Tm) : Option Nat → V
  | some d => T d
  | none => .u

/-- Behind a write (with the operations 'anc' ahead of it): the loads that were done and might have come later are the same. -/
def stays (anc : List Nat) (T : Tm) (σ : St) : Nat → List AOper → Prop
  | _, [] => True
  | i, q :: r => match q.op.isLoad && !anc.contains i with
    | true => evG q T σ = some (dstV T q.dst) ∧ stays anc T σ (i + 1) r
    | false => stays anc T σ (i + 1) r

def sameIf (o : AOper) (T : Tm) (v : V) (H : List (Nat × St)) (p : Prop) : Prop :=
  match o.op.isLoad with
  | true => sameAt o T v H ∧ p
  | false => p

/-- A region whose order is open: it is done in the order of the text; 'past' are those ahead of the i-th, H: the states ahead of each write. -/
def axD (E : Env) (K : Tm → St → Prop) : (i : Nat) → (past todo : List AOper) → Tm → St → List (Nat × St) → Prop
  | _, _, [], T, σ, _ => K T σ
  | i, past, o :: r, T, σ, H => axOper E o T σ fun v σ' =>
    match o.op.looks with
    | true => sameIf o T v H (axD E K (i + 1) (past ++ [o]) r (put T o.dst v) σ' H)
    | false => stays o.anc T σ' 0 past ∧ axD E K (i + 1) (past ++ [o]) r (put T o.dst v) σ' ((i, σ) :: H)

/-- .., the q-th being done already. -/
def axE (E : Env) (K : Tm → St → Prop) (q : Nat) : (i : Nat) → (past todo : List AOper) → Tm → St → List (Nat × St) → Prop
  | _, _, [], T, σ, _ => K T σ
  | i, past, o :: r, T, σ, H => match Nat.beq i q with
    | true => axE E K q (i + 1) (past ++ [o]) r T σ H
    | false => axOper E o T σ fun v σ' =>
      match o.op.looks with
      | true => sameIf o T v H (axE E K q (i + 1) (past ++ [o]) r (put T o.dst v) σ' H)
      | false => stays o.anc T σ' 0 past ∧ axE E K q (i + 1) (past ++ [o]) r (put T o.dst v) σ' ((i, σ) :: H)

def forallV : Nat → (List V → Prop) → Prop
  | 0, P => P []
  | k + 1, P => ∀ x : V, forallV k fun l => P (x :: l)

def keepT (T : Tm) : List Nat → Tm
  | [] => fun _ => .u
  | i :: r => upd (keepT T r) i (T i)

/-- The frame at a loop's head: what is carried, what is kept, and nothing else. -/
def headT (T : Tm) (keep : List Nat) : (inv : List Nat) → (vs : List V) → Tm
  | i :: inv, v :: vs => upd (headT T keep inv vs) i v
  | _, _ => keepT T keep

def keeps (T T' : Tm) : List Nat → Prop → Prop
  | [], p => p
  | i :: r, p => T' i = T i ∧ keeps T T' r p

/-- What a piece of code promises. -/
def ax (E : Env) : ACode → Tm → St → (Ex → Tm → St → Prop) → Prop
  | .skip, T, σ, Q => Q .normal T σ
  | .reg ops, T, σ, Q => axOps E ops T σ (Q .normal)
  | .draw ops, T, σ, Q => axD E (Q .normal) 0 [] ops T σ []
  | .draw2 _ q ops, T, σ, Q => axD E (Q .normal) 0 [] ops T σ [] ∧ match ops[q]? with
    | some o => axOper E o T σ fun v σ' => axE E (Q .normal) q 0 [] ops (put T o.dst v) σ' [(q, σ)]
    | none => False
  | .seq a b, T, σ, Q => ax E a T σ fun e T' σ' => match e with
    | .normal => ax E b T' σ' Q
    | .exit i => Q (.exit i) T' σ'
    | .ret => Q .ret T' σ'
  | .cond c x y, T, σ, Q => condP (ev T c) (ax E x T σ Q) (ax E y T σ Q)
  | .block id c, T, σ, Q => ax E c T σ fun e T' σ' => match e with
    | .normal => Q .normal T' σ'
    | .exit i => (match Nat.beq i id with | true => Q .normal T' σ' | false => Q (.exit i) T' σ')
    | .ret => Q .ret T' σ'
  | .loop inv keep c, T, σ, Q => ∃ I : Nat → List V → St → Prop, (∃ n, I n (inv.map T) σ) ∧ ∀ n, forallV inv.length fun vs => ∀ σ, I n vs σ →
    ax E c (headT T keep inv vs) σ fun e T' σ' => match e with
      | .normal => keeps T T' keep (∃ n', n' < n ∧ I n' (inv.map T') σ')
      | .exit i => Q (.exit i) T' σ'
      | .ret => Q .ret T' σ'
  | .exit id, T, σ, Q => Q (.exit id) T σ
  | .ret, T, σ, Q => Q .ret T σ

/-- A function's results. -/
def resK (T : Tm) (σ : St) : List ARes → (List V → Prop) → Prop
  | [], K => K []
  | .t i :: r, K => resK T σ r fun l => K (T i :: l)
  | .cell i sz ag :: r, K => optP (ldV (T i) sz ag σ) σ fun v _ => resK T σ r fun l => K (v :: l)

def oneOf : List V → V
  | [v] => v
  | vs => .tup vs

/-- A function's body, its arguments being known. -/
def axF (E : Env) (F : AFunc) (vs : List V) (σ : St) (K : V → St → Prop) : Prop :=
  ax E F.body (args vs) σ fun e T σ' =>
    match e with
    | .exit _ => False
    | .normal => resK T σ' F.res fun l => K (oneOf l) σ'
    | .ret => resK T σ' F.res fun l => K (oneOf l) σ'

/-! Short words for the printed code. -/
def q (d : Nat) (op : AOp) : AOper := ⟨some d, op, false, none, []⟩
def qs (d : Nat) (op : AOp) : AOper := ⟨some d, op, true, none, []⟩
def qn (op : AOp) : AOper := ⟨none, op, false, none, []⟩
def qg (d : Nat) (sp : Bool) (t : Nat) (want : Bool) (op : AOp) : AOper := ⟨some d, op, sp, some (t, want), []⟩
def qd (d : Option Nat) (sp : Bool) (anc : List Nat) (op : AOp) : AOper := ⟨d, op, sp, none, anc⟩
def qdg (d : Option Nat) (sp : Bool) (t : Nat) (want : Bool) (anc : List Nat) (op : AOp) : AOper := ⟨d, op, sp, some (t, want), anc⟩

end Go.Ab
/-
  That the abstract operations that only look stand for the model's: each by itself.
-/
namespace Go.Ab
open Go.RowKit

variable {m : Nat → FuncId} {g : G} {P : Program}

def sameB (x y : ByteArray) : Bool := decide (x.data.toList = y.data.toList)

mutual
def constOk (m : Nat → FuncId) : V → Value → Bool
  | .u, _ => true
  | .b x, .bool y => x == y
  | .n k x, .int k' y => decide (k = k') && decide (x = y)
  | .s x, .string y => sameB x y
  | .nilp, .pointer none => true
  | .l _ [] .nil, .slice none n c => n == 0 && c == 0
  | .nilf, .nilFunc => true
  | .agg xs, .agg vs => constOkL m xs vs.toList
  | _, _ => false
def constOkL (m : Nat → FuncId) : List V → List Value → Bool
  | [], [] => true
  | x :: xs, v :: vs => constOk m x v && v.oneCell' && constOkL m xs vs
  | _, _ => false
end

theorem bytes_eq {x y : ByteArray} (h : x.data.toList = y.data.toList) : x = y := by
  cases x; cases y; simp only [ByteArray.mk.injEq]; exact Array.toList_inj.1 h

mutual
theorem constOk_rep : ∀ (x : V) (v : Value), constOk m x v = true → Rep m g v x
  | .u, v, _ => .u v
  | .b x, v, h => by cases v <;> simp [constOk] at h; subst h; exact .b _
  | .n k x, v, h => by cases v <;> simp [constOk] at h; obtain ⟨rfl, rfl⟩ := h; exact .n _ _
  | .s x, v, h => by
    cases v <;> simp only [constOk, Bool.false_eq_true] at h
    have := bytes_eq (of_decide_eq_true (show decide (_ = _) = true from h)); subst this; exact .s _
  | .nilp, v, h => by
    cases v with
    | pointer a =>
      cases a with
      | none => exact .nilp
      | some a => exact nomatch (show false = true from h)
    | _ => exact nomatch (show false = true from h)
  | .l e xs c, v, h => by
    cases v with
    | slice a n k =>
      cases xs with
      | cons x xs => exact nomatch (show false = true from h)
      | nil =>
        cases c with
        | nil =>
          cases a with
          | some a => exact nomatch (show false = true from h)
          | none =>
            have h' : (n == 0 && k == 0) = true := h
            simp at h'
            obtain ⟨rfl, rfl⟩ := h'
            exact .lnil _
        | _ => exact nomatch (show false = true from h)
    | _ =>
      cases xs with
      | nil => cases c <;> exact nomatch (show false = true from h)
      | cons x xs => exact nomatch (show false = true from h)
  | .nilf, v, h => by
    cases v with
    | nilFunc => exact .nilf
    | _ => exact nomatch (show false = true from h)
  | .agg xs, v, h => by
    cases v <;> simp [constOk] at h
    rename_i vs
    obtain ⟨h1, h2⟩ := constOkL_rep xs vs.toList h
    refine .agg _ _ (by simpa using h1) (fun j hj => ?_) (fun j hj => ?_)
    · have := (h2 j hj).1; simpa [Array.getD_eq_getD_getElem?] using this
    · have := (h2 j hj).2; simpa [Array.getD_eq_getD_getElem?] using this
  | .p _ _, v, h => by cases v <;> simp [constOk] at h
  | .ep _, v, h => by cases v <;> simp [constOk] at h
  | .f _ _ _, v, h => by cases v <;> simp [constOk] at h
  | .ms .., v, h => by cases v <;> simp [constOk] at h
  | .tup _, v, h => by cases v <;> simp [constOk] at h
termination_by x => SizeOf.sizeOf x
theorem constOkL_rep : ∀ (xs : List V) (vs : List Value), constOkL m xs vs = true →
    vs.length = xs.length ∧ ∀ j, j < xs.length → Rep m g (vs.getD j undef) (xs.getD j .u) ∧ (vs.getD j undef).oneCell' = true
  | [], vs, h => by cases vs <;> simp [constOkL] at h; exact ⟨rfl, fun j hj => absurd hj (by simp)⟩
  | x :: xs, vs, h => by
    cases vs with
    | nil => simp [constOkL] at h
    | cons v vs =>
      simp only [constOkL, Bool.and_eq_true] at h
      obtain ⟨⟨h1, h2⟩, h3⟩ := h
      obtain ⟨i1, i2⟩ := constOkL_rep xs vs h3
      refine ⟨by simp [i1], fun j hj => ?_⟩
      cases j with
      | zero => exact ⟨constOk_rep x v h1, h2⟩
      | succ j => exact i2 j (by simpa using hj)
termination_by x => SizeOf.sizeOf x
end

def chkO (m : Nat → FuncId) (n : Nat) : Od → Operand → Bool
  | .t i, .tmp j => i == j && decide (i < n)
  | .c (.f fn [] []), .func f => m fn == f
  | .c v, .const w => constOk m v w
  | _, _ => false

def RepT (m : Nat → FuncId) (g : G) (n : Nat) (vs : Array Value) (T : Tm) : Prop := vs.size = n ∧ ∀ i, i < n → Rep m g (vs.getD i undef) (T i)

theorem RepT.mono {g' : G} (hg : G.le g g') {n : Nat} {vs : Array Value} {T : Tm} (h : RepT m g n vs T) : RepT m g' n vs T := ⟨h.1, fun i hi => (h.2 i hi).mono hg⟩

theorem upd_apply (T : Tm) (d : Nat) (v : V) (i : Nat) : upd T d v i = if i = d then v else T i := by
  unfold upd
  by_cases h : i = d
  · subst h; simp [Nat.beq_refl]
  · have : Nat.beq i d = false := by
      cases hb : Nat.beq i d
      · rfl
      · exact absurd (Nat.eq_of_beq_eq_true hb) h
    simp [this, h]

theorem RepT.put {n : Nat} {a : Act} {T : Tm} (h : RepT m g n a.tmps T) (d : Option Nat) (hd : ∀ i, d = some i → i < n) {v : Value} {x : V} (hv : Rep m g v x) :
    RepT m g n (a.put d v).tmps (put T d x) := by
  cases d with
  | none => exact h
  | some i =>
    have hi := hd i rfl
    refine ⟨by simpa [Act.put] using h.1, fun j hj => ?_⟩
    simp only [Act.put, Ab.put, upd_apply]
    rw [getD_setA _ _ _ _ _ (by rw [h.1]; exact hi)]
    by_cases e : j = i
    · rw [if_pos e, if_pos e]; exact hv
    · rw [if_neg e, if_neg e]; exact h.2 j hj

theorem rep_ev {n : Nat} {a : Act} {T : Tm} (h : RepT m g n a.tmps T) {x : Od} {y : Operand} (hc : chkO m n x y = true) : Rep m g (a.eval y) (ev T x) := by
  cases x with
  | t i =>
    cases y <;> simp [chkO] at hc
    obtain ⟨rfl, hi⟩ := hc
    exact h.2 i hi
  | c v =>
    cases y with
    | tmp j => cases v <;> simp [chkO] at hc
    | const w =>
      have : constOk m v w = true := by
        unfold chkO at hc
        split at hc <;> simp_all
      exact constOk_rep v w this
    | global j => cases v <;> simp [chkO] at hc
    | func f =>
      unfold chkO at hc
      split at hc
      · rename_i heq _; cases heq
      · rename_i fn f' heq heq2
        cases heq; cases heq2
        simp only [beq_iff_eq] at hc
        subst hc
        exact .f fn [] [] #[] #[] rfl rfl (fun j hj => absurd hj (by simp)) (fun j hj => absurd hj (by simp))
      · rename_i heq; cases heq
      · simp at hc

/-! What values stand for. -/

theorem rep_cells {v : Value} {x : V} {cs : List V} (h : Rep m g v x) (hc : x.cells? = some cs) : RepC m g v.cells cs ∧ x.cells = cs := by
  have one : ∀ (v : Value) (x : V), Rep m g v x → v.oneCell' = true → x.cells = [x] → RepC m g #[v] [x] := fun v x hr h1 _ =>
    ⟨⟨rfl, fun j hj => by (have e : j = 0 := (by simpa using hj)); subst e; exact hr⟩, fun j hj => by (have e : j = 0 := (by simpa using hj)); subst e; exact h1⟩
  cases h with
  | u => simp [V.cells?] at hc
  | tup => simp [V.cells?] at hc
  | agg xs vs h hr hp =>
    simp only [V.cells?, V.cells, Option.some.injEq] at hc; subst hc
    exact ⟨⟨⟨h, hr⟩, hp⟩, rfl⟩
  | b x => simp only [V.cells?, V.cells, Option.some.injEq] at hc; subst hc; exact ⟨one _ _ (.b x) rfl rfl, rfl⟩
  | n k x => simp only [V.cells?, V.cells, Option.some.injEq] at hc; subst hc; exact ⟨one _ _ (.n k x) rfl rfl, rfl⟩
  | s x => simp only [V.cells?, V.cells, Option.some.injEq] at hc; subst hc; exact ⟨one _ _ (.s x) rfl rfl, rfl⟩
  | nilp => simp only [V.cells?, V.cells, Option.some.injEq] at hc; subst hc; exact ⟨one _ _ .nilp rfl rfl, rfl⟩
  | p l off bl h => simp only [V.cells?, V.cells, Option.some.injEq] at hc; subst hc; exact ⟨one _ _ (.p l off bl h) rfl rfl, rfl⟩
  | ep bl off x vs h hr hp => simp only [V.cells?, V.cells, Option.some.injEq] at hc; subst hc; exact ⟨one _ _ (.ep bl off x vs h hr hp) rfl rfl, rfl⟩
  | lnil e => simp only [V.cells?, V.cells, Option.some.injEq] at hc; subst hc; exact ⟨one _ _ (.lnil e) rfl rfl, rfl⟩
  | lmay e => simp only [V.cells?, V.cells, Option.some.injEq] at hc; subst hc; exact ⟨one _ _ (.lmay e) rfl rfl, rfl⟩
  | lz a e c hq => simp only [V.cells?, V.cells, Option.some.injEq] at hc; subst hc; exact ⟨one _ _ (.lz a e c hq) rfl rfl, rfl⟩
  | l bl off n c e xs cp vs hn hc' hu h hr hp hcap =>
    simp only [V.cells?, V.cells, Option.some.injEq] at hc; subst hc
    exact ⟨one _ _ (.l bl off n c e xs cp vs hn hc' hu h hr hp hcap) rfl rfl, rfl⟩
  | f fn first caps vf vc h1 h2 hf hc' =>
    simp only [V.cells?, V.cells, Option.some.injEq] at hc; subst hc
    exact ⟨one _ _ (.f fn first caps vf vc h1 h2 hf hc') rfl rfl, rfl⟩
  | nilf => simp only [V.cells?, V.cells, Option.some.injEq] at hc; subst hc; exact ⟨one _ _ .nilf rfl rfl, rfl⟩
  | ms l off n c e bl h hc' => simp only [V.cells?, V.cells, Option.some.injEq] at hc; subst hc; exact ⟨one _ _ (.ms l off n c e bl h hc') rfl rfl, rfl⟩

/-! Types. -/

def szIs (P : Program) (t : TypeId) (sz : Nat) : Bool := (P.info? t).map (·.size) == some sz
def agIs (P : Program) (t : TypeId) (ag : Bool) : Bool :=
  match P.underlying t with
  | some (.struct _) | some (.array _ _) => ag
  | some _ => !ag
  | none => false

theorem run_szIs {t : TypeId} {sz : Nat} (h : szIs P t sz = true) (w : World) : (sizeOf t).run P w = .ok sz w := by
  simp only [szIs, beq_iff_eq] at h
  obtain ⟨i, hi, rfl⟩ := Option.map_eq_some_iff.1 h
  simp [sizeOf, typeInfo, hi]

theorem run_agIs {t : TypeId} {ag : Bool} (h : agIs P t ag = true) (w : World) : (isAgg t).run P w = .ok ag w := by
  unfold agIs at h
  unfold isAgg
  split at h
  · rename_i hu; simp [run_underlying hu, h]
  · rename_i hu; simp [run_underlying hu, h]
  · rename_i d h1 h2 hu
    simp only [Bool.not_eq_true'] at h
    subst h
    simp only [Sem.run_bind, run_underlying hu, Result.andThen_ok]
    cases d <;> first | rfl | (exact absurd rfl (h1 _)) | (exact absurd rfl (h2 _ _))
  · simp at h

theorem getD_extract (vs : Array Value) (a b j : Nat) (h : j < b - a) (hb : b ≤ vs.size) : (vs.extract a b).getD j undef = vs.getD (a + j) undef := by
  simp only [Array.getD_eq_getD_getElem?, Array.getElem?_extract]
  rw [if_pos (by omega)]

theorem getD_drop_take (cs : List V) (a n j : Nat) (h : j < n) : ((cs.drop a).take n).getD j .u = cs.getD (a + j) .u := by
  simp only [List.getD, List.getElem?_take, List.getElem?_drop]
  rw [if_pos h]

theorem partV_rep {t : TypeId} {vs : Array Value} {cs : List V} {off sz : Nat} {ag : Bool} {y : V} (h : RepC m g vs cs) (hy : partV cs off sz ag = some y)
    (hs : szIs P t sz = true) (ha : agIs P t ag = true) (w : World) : ∃ v', (part t vs off).run P w = .ok v' w ∧ Rep m g v' y := by
  unfold partV at hy
  split at hy
  · rename_i hle
    have hsz := h.1.1
    cases ag with
    | true =>
      simp only [if_true, Option.some.injEq] at hy
      subst hy
      refine ⟨.agg (vs.extract off (off + sz)), by simp [part, run_agIs ha, run_szIs hs], ?_⟩
      have hl : ((cs.drop off).take sz).length = sz := by simp; omega
      refine .agg _ _ (by rw [hl]; simp; omega) (fun j hj => ?_) (fun j hj => ?_)
      · rw [hl] at hj
        rw [getD_extract _ _ _ _ (by omega) (by omega), getD_drop_take _ _ _ _ hj]
        exact h.1.2 _ (by omega)
      · rw [hl] at hj
        rw [getD_extract _ _ _ _ (by omega) (by omega)]
        exact h.2 _ (by omega)
    | false =>
      simp only [Bool.false_eq_true, if_false] at hy
      split at hy
      · rename_i h1
        subst h1
        simp only [Option.some.injEq] at hy
        subst hy
        have hlt : off < vs.size := by omega
        refine ⟨vs.getD off undef, ?_, h.1.2 _ (by omega)⟩
        simp [part, run_agIs ha, Array.getD_eq_getD_getElem?, hlt]
      · simp at hy
  · simp at hy

theorem fldV_rep {t : TypeId} {v : Value} {x y : V} {i off sz : Nat} {ag : Bool} {fs : Array Field} {f : Field} (h : Rep m g v x) (hy : fldV x off sz ag = some y)
    (ht : P.underlying t = some (.struct fs)) (hf : fs[i]? = some f) (ho : f.offset = off) (hs : szIs P f.type sz = true) (ha : agIs P f.type ag = true) (w : World) :
    ∃ v', (Instr.field t v i).run P w = .ok v' w ∧ Rep m g v' y := by
  cases h <;> simp only [fldV] at hy <;> try (simp at hy; done)
  rename_i xs vs h hr hp
  subst ho
  obtain ⟨v', h1, h2⟩ := partV_rep ⟨⟨h, hr⟩, hp⟩ hy hs ha w
  exact ⟨v', by simp [Instr.field, run_underlying ht, hf, asAgg, h1], h2⟩

theorem extV_rep {v : Value} {x y : V} {i : Nat} (h : Rep m g v x) (hy : extV x i = some y) (w : World) : ∃ v', (Instr.extract v i).run P w = .ok v' w ∧ Rep m g v' y := by
  cases h <;> simp only [extV] at hy <;> try (simp at hy; done)
  rename_i xs vs h hr
  obtain ⟨hi, rfl⟩ := List.getElem?_eq_some_iff.1 hy
  have hlt : i < vs.size := by omega
  refine ⟨vs.getD i undef, by simp [Instr.extract, Array.getD_eq_getD_getElem?, hlt], ?_⟩
  have := hr i hi
  simpa [List.getD, hi] using this

theorem imm_cell {σ : St} {w : World} (hR : Rel m g σ w) {b o : Nat} {v : Value} (h : g.imm b o = some v) : w.cell? ⟨b, o, none⟩ = some v := hR.imm b o v h

theorem add_eq (b o i : Nat) : (⟨b, o, none⟩ : Addr).add i = ⟨b, o + i, none⟩ := by unfold Addr.add; split <;> simp_all

/-- Cells that are where they are said to be are read. -/
theorem run_loadVar {t : TypeId} {sz : Nat} {ag : Bool} {b o : Nat} {f : Nat → Value} {w : World} (hs : szIs P t sz = true) (ha : agIs P t ag = true)
    (h : ∀ j, j < sz → w.cell? ⟨b, o + j, none⟩ = some (f j)) (h1 : ag = false → sz = 1) :
    (loadVar t ⟨b, o, none⟩).run P w = .ok (if ag then .agg ((List.range sz).map f).toArray else f 0) w := by
  cases ag with
  | true =>
    have := run_loadCells (P := P) w ⟨b, o, none⟩ sz f (fun j hj => by rw [add_eq]; exact h j hj)
    simp [loadVar, run_agIs ha, run_szIs hs, this]
  | false =>
    have e := h1 rfl
    subst e
    have := h 0 (by omega)
    simp only [Nat.add_zero] at this
    simp [loadVar, run_agIs ha, this]

theorem run_loadVar1 {t : TypeId} {b o : Nat} {v : Value} {w : World} (ha : agIs P t false = true) (h : w.cell? ⟨b, o, none⟩ = some v) :
    (loadVar t ⟨b, o, none⟩).run P w = .ok v w := by
  simp [loadVar, run_agIs ha, h]

theorem cell_obj {w : World} {b : Nat} {vals : Array Value} {T : TypeId} {fz : Nat × Nat} (h : w.heap[b]? = some (.cells vals T fz)) (j : Nat) : w.cell? ⟨b, j, none⟩ = vals[j]? := by
  simp [World.cell?, h]

theorem rep_range {f : Nat → Value} {sz : Nat} {ys : List V} (hl : ys.length = sz) (hr : ∀ j, j < sz → Rep m g (f j) (ys.getD j .u)) (hp : ∀ j, j < sz → (f j).oneCell' = true) :
    Rep m g (.agg ((List.range sz).map f).toArray) (.agg ys) := by
  have e : ∀ j, j < sz → (((List.range sz).map f).toArray).getD j undef = f j := fun j hj => by simp [Array.getD_eq_getD_getElem?, hj]
  refine .agg _ _ (by simp [hl]) (fun j hj => ?_) (fun j hj => ?_)
  · rw [e j (by omega)]; exact hr j (by omega)
  · rw [e j (by omega)]; exact hp j (by omega)

theorem cellsOf_obj {σ : St} {l : Nat} {cs : List V} (h : cellsOf σ l = some cs) : σ[l]? = some (.obj cs) := by
  unfold cellsOf at h
  split at h
  · rename_i cs' hc; simp at h; subst h; exact hc
  · simp at h

theorem ldV_rep {t : TypeId} {v : Value} {x y : V} {sz : Nat} {ag : Bool} {σ : St} {w : World} (hR : Rel m g σ w) (h : Rep m g v x) (hy : ldV x sz ag σ = some y)
    (hs : szIs P t sz = true) (ha : agIs P t ag = true) : ∃ v', (Instr.loadAt t v).run P w = .ok v' w ∧ Rep m g v' y := by
  cases h <;> simp only [ldV] at hy <;> try (simp at hy; done)
  case p l off bl hb =>
    split at hy
    · rename_i cs hcs
      obtain ⟨b, vals, T, hb', _, hh, hrc, _⟩ := hR.objs l _ (cellsOf_obj hcs)
      obtain rfl : bl = b := by rw [hb] at hb'; exact Option.some.inj hb'
      unfold partV at hy
      split at hy
      · rename_i hle
        have hsz := hrc.1.1
        have hcell : ∀ j, j < sz → w.cell? ⟨bl, off + j, none⟩ = some (vals.getD (off + j) undef) := fun j hj => by
          rw [cell_obj hh]; simp [Array.getD_eq_getD_getElem?, show off + j < vals.size by omega]
        cases ag with
        | true =>
          simp only [if_true, Option.some.injEq] at hy
          subst hy
          refine ⟨_, by simp only [Instr.loadAt, Instr.sureAddr, Sem.run_bind, Sem.run_pure, Result.andThen_ok]; exact run_loadVar hs ha hcell (by simp), ?_⟩
          simp only [if_true]
          refine rep_range (by simp; omega) (fun j hj => ?_) (fun j hj => hrc.2 _ (by omega))
          rw [getD_drop_take _ _ _ _ hj]; exact hrc.1.2 _ (by omega)
        | false =>
          simp only [Bool.false_eq_true, if_false] at hy
          split at hy
          · rename_i h1
            subst h1
            simp only [Option.some.injEq] at hy
            subst hy
            refine ⟨_, by simp only [Instr.loadAt, Instr.sureAddr, Sem.run_bind, Sem.run_pure, Result.andThen_ok]; exact run_loadVar hs ha hcell (fun _ => rfl), ?_⟩
            simp only [Bool.false_eq_true, if_false]
            exact hrc.1.2 _ (by omega)
          · simp at hy
      · simp at hy
    · simp at hy
  case ep bl off x vs hi hr hp =>
    cases ag with
    | true =>
      cases x <;> simp only [heldV] at hy <;> try (simp at hy; done)
      rename_i cs
      simp only [if_true] at hy
      split at hy
      · rename_i hl
        simp only [Option.some.injEq] at hy
        subst hy
        refine ⟨_, by simp only [Instr.loadAt, Instr.sureAddr, Sem.run_bind, Sem.run_pure, Result.andThen_ok]; exact run_loadVar hs ha (fun j hj => hR.imm _ _ _ (hi j (by simp [V.cells, hl, hj]))) (by simp), ?_⟩
        simp only [if_true]
        exact rep_range hl (fun j hj => hr j (by simp [V.cells, hl, hj])) (fun j hj => hp j (by simp [V.cells, hl, hj]))
      · simp at hy
    | false =>
      have hx : x.cells = [x] ∧ y = x := by
        cases x <;> simp only [heldV] at hy <;> first | (simp at hy; done) | (simp only [Bool.false_eq_true, if_false, Option.some.injEq] at hy; exact ⟨rfl, hy.symm⟩)
      obtain ⟨hx, rfl⟩ := hx
      have h0 := hR.imm _ _ _ (hi 0 (by rw [hx]; simp))
      refine ⟨vs 0, by simp only [Instr.loadAt, Instr.sureAddr, Sem.run_bind, Sem.run_pure, Result.andThen_ok]; exact run_loadVar1 ha (by simpa using h0), ?_⟩
      have := hr 0 (by rw [hx]; simp)
      rw [hx] at this
      exact this

end Go.Ab
/-
  That the abstract operations that only look stand for the model's: numbers, comparisons, places, parts of slices.
-/
namespace Go.Ab
open Go.RowKit

variable {m : Nat → FuncId} {g : G} {P : Program}

theorem str_eq (a b : ByteArray) : (a.toList == b.toList) = decide (a = b) := by
  rw [ByteArray.toList_eq, ByteArray.toList_eq]
  by_cases h : a = b
  · subst h; simp
  · have : ¬ a.data.toList = b.data.toList := fun h' => h (bytes_eq h')
    rw [decide_eq_false h]
    exact beq_eq_false_iff_ne.2 this

theorem numV_rep {op : BinOp} {t : TypeId} {k k' : IntKind} {a b : Int} {y : V} (h : numV op k a k' b = some y) (w : World) :
    ∃ v', (binOp op t (.int k a) (.int k' b)).run P w = .ok v' w ∧ Rep m g v' y := by
  cases op <;> simp only [numV, cmpV] at h
  case shl =>
    split at h
    · rename_i h0
      simp only [Option.some.injEq] at h; subst h
      exact ⟨_, by simp [binOp, Op.shift, show ¬ b < 0 by omega], .n _ _⟩
    · simp at h
  case shr =>
    split at h
    · rename_i h0
      simp only [Option.some.injEq] at h; subst h
      exact ⟨_, by simp [binOp, Op.shift, show ¬ b < 0 by omega], .n _ _⟩
    · simp at h
  all_goals
    split at h
    case isFalse => simp at h
    rename_i hk
    subst hk
  case quo =>
    split at h
    · simp at h
    · rename_i h0
      simp only [Option.some.injEq] at h; subst h
      exact ⟨_, by simp [binOp, Op.intDiv, h0], .n _ _⟩
  case rem =>
    split at h
    · simp at h
    · rename_i h0
      simp only [Option.some.injEq] at h; subst h
      exact ⟨_, by simp [binOp, Op.intDiv, h0], .n _ _⟩
  all_goals
    simp only [Option.some.injEq] at h; subst h
  all_goals first
    | exact ⟨_, by simp [binOp, Op.intArith]; rfl, .n _ _⟩
    | exact ⟨_, by simp [binOp, Op.intBits, bitsV]; rfl, .n _ _⟩
    | exact ⟨.bool (decide (a = b)), by simp [binOp, Op.intCmp]; rfl, .b _⟩
    | exact ⟨.bool (!decide (a = b)), by simp [binOp, Op.intCmp]; rfl, .b _⟩
    | exact ⟨_, by simp [binOp, Op.intCmp], .b _⟩

theorem guard_none {op : BinOp} {t : TypeId} {x y : Operand} {a b : Value} (h : (∀ xs, a ≠ .agg xs) ∧ a ≠ .nilIface) (w : World) : (eqGuard op t x y a b).run P w = .ok () w := by
  unfold eqGuard
  cases op <;> simp
  all_goals
    split
    · exact absurd rfl h.2
    · exact absurd rfl (h.1 _)
    · rfl

theorem eqOr_rep {op : BinOp} {t : TypeId} {a b : Value} {r : Bool} {y : V} (h : eqOr op (some r) = some y) (w : World)
    (ha : ∀ k n, a ≠ .int k n) (hs : ∀ s, a ≠ .string s) (hf : ∀ k n, a ≠ .float k n) (hc : ∀ k x y, a ≠ .complex k x y)
    (he : (Op.equal t a b).run P w = .ok r w) : ∃ v', (binOp op t a b).run P w = .ok v' w ∧ Rep m g v' y := by
  cases op <;> simp only [eqOr, Option.map_some, Option.some.injEq] at h <;> try (simp at h; done)
  · subst h
    refine ⟨.bool r, ?_, .b _⟩
    cases a <;> first
      | (exact absurd rfl (ha _ _)) | (exact absurd rfl (hs _)) | (exact absurd rfl (hf _ _)) | (exact absurd rfl (hc _ _ _))
      | (simp only [binOp, Sem.run_bind, he, Result.andThen_ok]; rfl)
  · subst h
    refine ⟨.bool (!r), ?_, .b _⟩
    cases a <;> first
      | (exact absurd rfl (ha _ _)) | (exact absurd rfl (hs _)) | (exact absurd rfl (hf _ _)) | (exact absurd rfl (hc _ _ _))
      | (simp only [binOp, Sem.run_bind, he, Result.andThen_ok]; rfl)

section
variable {t : TypeId} (d : Nat) (w : World)
theorem eq_bool {a b : Bool} (hu : P.underlying t = some .bool) : (Op.equalIn (d + 1) t (.bool a) (.bool b)).run P w = .ok (a == b) w := by
  simp only [Op.equalIn, Sem.run_bind, run_underlying hu, Result.andThen_ok]; rfl
theorem eq_int {a b : Int} {k k' : IntKind} (hu : P.underlying t = some (.int k')) : (Op.equalIn (d + 1) t (.int k a) (.int k b)).run P w = .ok (decide (a = b)) w := by
  simp only [Op.equalIn, Sem.run_bind, run_underlying hu, Result.andThen_ok, if_true]; rfl
theorem eq_ptr1 {e : TypeId} {b : Option Addr} (hu : P.underlying t = some (.pointer e)) : (Op.equalIn (d + 1) t (.pointer none) (.pointer b)).run P w = .ok b.isNone w := by
  simp only [Op.equalIn, Sem.run_bind, run_underlying hu, Result.andThen_ok]; rfl
theorem eq_ptr2 {e : TypeId} {b : Addr} (hu : P.underlying t = some (.pointer e)) : (Op.equalIn (d + 1) t (.pointer (some b)) (.pointer none)).run P w = .ok false w := by
  simp only [Op.equalIn, Sem.run_bind, run_underlying hu, Result.andThen_ok]; rfl
theorem eq_slice1 {e : TypeId} {b : Option Addr} {n c n' c' : Nat} (hu : P.underlying t = some (.slice e)) : (Op.equalIn (d + 1) t (.slice none n c) (.slice b n' c')).run P w = .ok b.isNone w := by
  simp only [Op.equalIn, Sem.run_bind, run_underlying hu, Result.andThen_ok]; rfl
theorem eq_slice2 {e : TypeId} {b : Addr} {n c n' c' : Nat} (hu : P.underlying t = some (.slice e)) : (Op.equalIn (d + 1) t (.slice (some b) n c) (.slice none n' c')).run P w = .ok false w := by
  simp only [Op.equalIn, Sem.run_bind, run_underlying hu, Result.andThen_ok]; rfl
theorem eq_func1 {a1 a2 : Array TypeId} {b : Bool} (hu : P.underlying t = some (.func a1 a2 b)) : (Op.equalIn (d + 1) t .nilFunc .nilFunc).run P w = .ok true w := by
  simp only [Op.equalIn, Sem.run_bind, run_underlying hu, Result.andThen_ok]; rfl
theorem eq_func2 {a1 a2 : Array TypeId} {b : Bool} {f : Fn} {x y : Array Value} (hu : P.underlying t = some (.func a1 a2 b)) : (Op.equalIn (d + 1) t .nilFunc (.func f x y)).run P w = .ok false w := by
  simp only [Op.equalIn, Sem.run_bind, run_underlying hu, Result.andThen_ok]; rfl
theorem eq_func3 {a1 a2 : Array TypeId} {b : Bool} {f : Fn} {x y : Array Value} (hu : P.underlying t = some (.func a1 a2 b)) : (Op.equalIn (d + 1) t (.func f x y) .nilFunc).run P w = .ok false w := by
  simp only [Op.equalIn, Sem.run_bind, run_underlying hu, Result.andThen_ok]; rfl
end

theorem equal_succ (t : TypeId) (x y : Value) : Op.equal t x y = Op.equalIn (9999 + 1) t x y := rfl

def isIntT (P : Program) (t : TypeId) : Bool := match P.underlying t with
  | some (.int _) => true
  | _ => false

def chkBk (P : Program) (t : Bk) (ty : TypeId) : Bool :=
  match t with
  | .num | .str => true
  | .bool => match P.underlying ty with | some .bool => true | _ => false
  | .ptr => match P.underlying ty with | some (.pointer _) => true | _ => false
  | .slice => match P.underlying ty with | some (.slice _) => true | _ => false
  | .func => match P.underlying ty with | some (.func ..) => true | _ => false
  | .ints => match P.underlying ty with
    | some (.struct ⟨[f0, f1]⟩) => f0.offset == 0 && f1.offset == 1 && isIntT P f0.type && isIntT P f1.type && decide (f0.name ≠ "_") && decide (f1.name ≠ "_") &&
        !P.stoodInHeld ty && !P.eqGuardType P.depth ty
    | _ => false

theorem isIntT_spec {t : TypeId} (h : isIntT P t = true) : ∃ k, P.underlying t = some (.int k) := by
  unfold isIntT at h
  split at h
  · exact ⟨_, ‹_›⟩
  · simp at h

theorem rep_int {v : Value} {k : IntKind} {a : Int} (h : Rep m g v (.n k a)) : v = .int k a := by cases h; rfl

theorem rep_two {vs : Array Value} {k0 k1 : IntKind} {a0 a1 : Int} (h : Rep m g (.agg vs) (.agg [.n k0 a0, .n k1 a1])) : vs = #[.int k0 a0, .int k1 a1] := by
  cases h with
  | agg xs vs h hr hp =>
    have e0 := rep_int (hr 0 (by simp))
    have e1 := rep_int (hr 1 (by simp))
    apply Array.ext
    · simpa using h
    · intro i h1 h2
      have : i = 0 ∨ i = 1 := by simp at h2; omega
      rcases this with rfl | rfl
      · simpa [Array.getD_eq_getD_getElem?, h1] using e0
      · simpa [Array.getD_eq_getD_getElem?, h1] using e1

set_option maxHeartbeats 2000000 in
theorem binV_rep {t : Bk} {op : BinOp} {ty : TypeId} {x y : V} {a b : Value} {z : V} {ox oy : Operand} (ha : Rep m g a x) (hb : Rep m g b y) (h : binV t op x y = some z)
    (hc : chkBk P t ty = true) (w : World) : ∃ v', (do eqGuard op ty ox oy a b; binOp op ty a b : Sem Value).run P w = .ok v' w ∧ Rep m g v' z := by
  cases t with
  | num =>
    cases ha <;> simp only [binV] at h <;> try (simp at h; done)
    cases hb <;> simp only at h <;> try (simp at h; done)
    obtain ⟨v', h1, h2⟩ := numV_rep (P := P) (m := m) (g := g) (t := ty) h w
    exact ⟨v', by simp [guard_none, h1], h2⟩
  | bool =>
    cases ha with
    | b p =>
      cases hb with
      | b q =>
        simp only [chkBk] at hc
        split at hc <;> try (simp at hc; done)
        rename_i hu
        obtain ⟨v', h1, h2⟩ := eqOr_rep (P := P) (m := m) (g := g) (t := ty) (a := .bool p) (b := .bool q) h w (by simp) (by simp) (by simp) (by simp)
          (by rw [equal_succ]; exact eq_bool _ _ hu)
        exact ⟨v', by simp only [Sem.run_bind, guard_none (show (∀ xs, Value.bool p ≠ .agg xs) ∧ Value.bool p ≠ .nilIface from ⟨fun _ => by simp, by simp⟩), Result.andThen_ok, h1], h2⟩
      | _ => simp [binV] at h
    | _ => simp [binV] at h
  | str =>
    cases ha <;> simp only [binV] at h <;> try (simp at h; done)
    cases hb <;> simp only at h <;> try (simp at h; done)
    cases op <;> simp only [eqOr, Option.map_some] at h <;> try (simp at h; done)
    · split at h
      · rename_i a b hle
        simp only [Option.some.injEq] at h; subst h
        refine ⟨.string (a ++ b), ?_, .s _⟩
        have : ¬ ((a.size + b.size : Nat) : Int) > IntKind.i64.max := by
          have e : IntKind.i64.max = 9223372036854775807 := by decide
          rw [e]; omega
        simp only [Sem.run_bind, guard_none (show (∀ xs, Value.string a ≠ .agg xs) ∧ Value.string a ≠ .nilIface from ⟨fun _ => by simp, by simp⟩), Result.andThen_ok, binOp, Op.stringOp, if_neg this]; rfl
      · simp at h
    · simp only [Option.some.injEq] at h; subst h
      exact ⟨_, by simp only [Sem.run_bind, guard_none (show (∀ xs, Value.string _ ≠ .agg xs) ∧ Value.string _ ≠ .nilIface from ⟨fun _ => by simp, by simp⟩), Result.andThen_ok, binOp, Op.stringOp, str_eq]; rfl, .b _⟩
    · simp only [Option.some.injEq] at h; subst h
      exact ⟨_, by simp only [Sem.run_bind, guard_none (show (∀ xs, Value.string _ ≠ .agg xs) ∧ Value.string _ ≠ .nilIface from ⟨fun _ => by simp, by simp⟩), Result.andThen_ok, binOp, Op.stringOp, str_eq]; rfl, .b _⟩
  | ptr =>
    simp only [chkBk] at hc
    split at hc <;> try (simp at hc; done)
    rename_i e hu
    have go : ∀ r, eqOr op (some r) = some z → (∀ p, a = .pointer p → True) → (∃ p, a = .pointer p) → (Op.equal ty a b).run P w = .ok r w →
        ∃ v', (do eqGuard op ty ox oy a b; binOp op ty a b : Sem Value).run P w = .ok v' w ∧ Rep m g v' z := by
      rintro r hr _ ⟨p, rfl⟩ he
      obtain ⟨v', h1, h2⟩ := eqOr_rep (P := P) (m := m) (g := g) (t := ty) (a := .pointer p) (b := b) hr w (by simp) (by simp) (by simp) (by simp) he
      exact ⟨v', by simp [guard_none, h1], h2⟩
    cases ha <;> simp only [binV] at h <;> try (simp at h; done)
    all_goals
      cases hb <;> simp only at h <;> try (simp at h; done)
    all_goals
      refine go _ h (fun _ _ => trivial) ⟨_, rfl⟩ ?_
      rw [equal_succ]; first | exact eq_ptr1 _ _ hu | exact eq_ptr2 _ _ hu
  | slice =>
    simp only [chkBk] at hc
    split at hc <;> try (simp at hc; done)
    rename_i e hu
    have go : ∀ r, eqOr op (some r) = some z → (∃ p n c, a = .slice p n c) → (Op.equal ty a b).run P w = .ok r w →
        ∃ v', (do eqGuard op ty ox oy a b; binOp op ty a b : Sem Value).run P w = .ok v' w ∧ Rep m g v' z := by
      rintro r hr ⟨p, n, c, rfl⟩ he
      obtain ⟨v', h1, h2⟩ := eqOr_rep (P := P) (m := m) (g := g) (t := ty) (a := .slice p n c) (b := b) hr w (by simp) (by simp) (by simp) (by simp) he
      exact ⟨v', by simp [guard_none, h1], h2⟩
    cases ha with
    | lnil e1 =>
      cases hb with
      | lnil e2 => simp only [binV] at h; exact go _ h ⟨_, _, _, rfl⟩ (by rw [equal_succ]; exact eq_slice1 _ _ hu)
      | lmay e2 => simp [binV] at h
      | lz a e2 c hq =>
        have hne : c ≠ .nil := by rintro rfl; rcases hq with h | h | h <;> cases h
        simp only [binV, hne, decide_false] at h
        split at h <;> try (simp at h; done)
        exact go _ h ⟨_, _, _, rfl⟩ (by rw [equal_succ]; exact eq_slice1 _ _ hu)
      | l bl off n c e xs cp vs hn hc' hu' hi hr hp hcap =>
        have hne : cp ≠ .nil := by rintro rfl; exact hcap
        simp only [binV, hne, decide_false] at h
        split at h <;> try (simp at h; done)
        exact go _ h ⟨_, _, _, rfl⟩ (by rw [equal_succ]; exact eq_slice1 _ _ hu)
      | _ => simp [binV] at h
    | lmay e1 => cases hb <;> simp_all [binV]
                 all_goals (split at h <;> simp_all)
    | lz a e1 c hq =>
      have hne : c ≠ .nil := by rintro rfl; rcases hq with h | h | h <;> cases h
      cases hb with
      | lnil e2 =>
        have h' : eqOr op (some false) = some z := by
          cases c <;> simp_all [binV]
        exact go _ h' ⟨_, _, _, rfl⟩ (by rw [equal_succ]; exact eq_slice2 _ _ hu)
      | lmay e2 => cases c <;> simp_all [binV]
      | lz a2 e2 c2 hq2 =>
        have hne2 : c2 ≠ .nil := by rintro rfl; rcases hq2 with h | h | h <;> cases h
        cases c <;> cases c2 <;> simp_all [binV]
      | l bl2 off2 n2 c2 e2 xs2 cp2 vs2 hn2 hc2 hu2 hi2 hr2 hp2 hcap2 =>
        have hne2 : cp2 ≠ .nil := by rintro rfl; exact hcap2
        cases c <;> cases cp2 <;> simp_all [binV]
      | _ => cases c <;> simp_all [binV]
    | l bl off n c e xs cp vs hn hc' hu' hi hr hp hcap =>
      have hne : cp ≠ .nil := by rintro rfl; exact hcap
      cases hb with
      | lnil e2 =>
        have h' : eqOr op (some false) = some z := by
          cases cp <;> simp_all [binV]
        exact go _ h' ⟨_, _, _, rfl⟩ (by rw [equal_succ]; exact eq_slice2 _ _ hu)
      | lmay e2 => cases cp <;> simp_all [binV]
      | lz a2 e2 c2 hq2 =>
        have hne2 : c2 ≠ .nil := by rintro rfl; rcases hq2 with h | h | h <;> cases h
        cases cp <;> cases c2 <;> simp_all [binV]
      | l bl2 off2 n2 c2 e2 xs2 cp2 vs2 hn2 hc2 hu2 hi2 hr2 hp2 hcap2 =>
        have hne2 : cp2 ≠ .nil := by rintro rfl; exact hcap2
        cases cp <;> cases cp2 <;> simp_all [binV]
      | _ => cases cp <;> simp_all [binV]
    | ms l off n c e1 bl hb' hc' =>
      cases hb with
      | lnil e2 => simp only [binV] at h; exact go _ h ⟨_, _, _, rfl⟩ (by rw [equal_succ]; exact eq_slice2 _ _ hu)
      | lz a2 e2 c2 hq2 =>
        have hne2 : c2 ≠ .nil := by rintro rfl; rcases hq2 with h | h | h <;> cases h
        cases c2 <;> simp_all [binV]
      | l bl2 off2 n2 c2 e2 xs2 cp2 vs2 hn2 hc2 hu2 hi2 hr2 hp2 hcap2 =>
        have hne2 : cp2 ≠ .nil := by rintro rfl; exact hcap2
        cases cp2 <;> simp_all [binV]
      | _ => simp [binV] at h
    | _ => simp [binV] at h
  | func =>
    simp only [chkBk] at hc
    split at hc <;> try (simp at hc; done)
    rename_i e1 e2 e3 hu
    have go : ∀ r, eqOr op (some r) = some z → (a = .nilFunc ∨ ∃ p n c, a = .func p n c) → (Op.equal ty a b).run P w = .ok r w →
        ∃ v', (do eqGuard op ty ox oy a b; binOp op ty a b : Sem Value).run P w = .ok v' w ∧ Rep m g v' z := by
      rintro r hr (rfl | ⟨p, n, c, rfl⟩) he
      · obtain ⟨v', h1, h2⟩ := eqOr_rep (P := P) (m := m) (g := g) (t := ty) (a := .nilFunc) (b := b) hr w (by simp) (by simp) (by simp) (by simp) he
        exact ⟨v', by simp [guard_none, h1], h2⟩
      · obtain ⟨v', h1, h2⟩ := eqOr_rep (P := P) (m := m) (g := g) (t := ty) (a := .func p n c) (b := b) hr w (by simp) (by simp) (by simp) (by simp) he
        exact ⟨v', by simp [guard_none, h1], h2⟩
    cases ha <;> simp only [binV] at h <;> try (simp at h; done)
    all_goals
      cases hb <;> simp only at h <;> try (simp at h; done)
    · exact go _ h (.inr ⟨_, _, _, rfl⟩) (by rw [equal_succ]; exact eq_func3 _ _ hu)
    · exact go _ h (.inl rfl) (by rw [equal_succ]; exact eq_func2 _ _ hu)
    · exact go _ h (.inl rfl) (by rw [equal_succ]; exact eq_func1 _ _ hu)
  | ints =>
    simp only [binV] at h
    split at h <;> try (simp at h; done)
    rename_i k0 a0 k1 a1 k0' b0 k1' b1
    split at h <;> try (simp at h; done)
    rename_i hkk
    obtain ⟨rfl, rfl⟩ := hkk
    simp only [chkBk] at hc
    split at hc <;> try (simp at hc; done)
    rename_i f0 f1 hu
    simp only [Bool.and_eq_true, beq_iff_eq, decide_eq_true_eq, Bool.not_eq_true'] at hc
    obtain ⟨⟨⟨⟨⟨⟨⟨o0, o1⟩, t0⟩, t1⟩, n0⟩, n1⟩, hst⟩, hg⟩ := hc
    obtain ⟨K0, hk0⟩ := isIntT_spec t0
    obtain ⟨K1, hk1⟩ := isIntT_spec t1
    obtain ⟨va, rfl⟩ : ∃ va, a = .agg va := by cases ha; exact ⟨_, rfl⟩
    obtain ⟨vb, rfl⟩ : ∃ vb, b = .agg vb := by cases hb; exact ⟨_, rfl⟩
    obtain rfl := rep_two ha
    obtain rfl := rep_two hb
    have p0 : ∀ x y : Value, (∀ cs, P.underlying f0.type ≠ some (.struct cs)) → True := fun _ _ _ => trivial
    have g1 : (eqGuard op ty ox oy (.agg #[.int k0 a0, .int k1 a1]) (.agg #[.int k0 b0, .int k1 b1])).run P w = .ok () w := by
      unfold eqGuard
      cases op <;> simp [hg]
    have ag0 : agIs P f0.type false = true := by simp [agIs, hk0]
    have ag1 : agIs P f1.type false = true := by simp [agIs, hk1]
    have he : (Op.equal ty (.agg #[.int k0 a0, .int k1 a1]) (.agg #[.int k0 b0, .int k1 b1])).run P w = .ok (decide (a0 = b0) && decide (a1 = b1)) w := by
      rw [show Op.equal ty (.agg #[.int k0 a0, .int k1 a1]) (.agg #[.int k0 b0, .int k1 b1]) = Op.equalIn (9998 + 1 + 1) ty (.agg #[.int k0 a0, .int k1 a1]) (.agg #[.int k0 b0, .int k1 b1]) from rfl]
      have q0 : (part f0.type #[.int k0 a0, .int k1 a1] f0.offset).run P w = .ok (.int k0 a0) w := by simp [part, run_agIs ag0, o0]
      have q1 : (part f0.type #[.int k0 b0, .int k1 b1] f0.offset).run P w = .ok (.int k0 b0) w := by simp [part, run_agIs ag0, o0]
      have q2 : (part f1.type #[.int k0 a0, .int k1 a1] f1.offset).run P w = .ok (.int k1 a1) w := by simp [part, run_agIs ag1, o1]
      have q3 : (part f1.type #[.int k0 b0, .int k1 b1] f1.offset).run P w = .ok (.int k1 b1) w := by simp [part, run_agIs ag1, o1]
      generalize 9998 = d
      rw [Op.equalIn]
      simp only [Sem.run_bind, run_underlying hu, Result.andThen_ok, run_program, hst, Bool.false_eq_true, if_false, Sem.run_pure, List.forIn_toArray, List.forIn_cons, List.forIn_nil, ne_eq, n0, n1, not_false_eq_true, if_true, q0, q1, q2, q3, eq_int _ _ hk0, eq_int _ _ hk1]
      by_cases h0 : a0 = b0 <;> by_cases h1 : a1 = b1 <;> simp [h0, h1, q0, q1, q2, q3, eq_int _ _ hk1] <;> simp [h0, h1] at q2 ⊢ <;> simp [q2, q3, eq_int _ _ hk1, h1]
    obtain ⟨v', h1, h2⟩ := eqOr_rep (P := P) (m := m) (g := g) (t := ty) (a := .agg _) (b := .agg _) h w (by simp) (by simp) (by simp) (by simp) he
    exact ⟨v', by simp only [Sem.run_bind, g1, Result.andThen_ok, h1], h2⟩

end Go.Ab
/-
  That the abstract operations that only look stand for the model's: addresses, indexes, parts of slices, built structs.
-/
namespace Go.Ab
open Go.RowKit

variable {m : Nat → FuncId} {g : G} {P : Program}

theorem unV_rep {op : UnOp} {v : Value} {x y : V} (h : Rep m g v x) (hy : unV op x = some y) (w : World) : ∃ v', (Op.unary op v).run P w = .ok v' w ∧ Rep m g v' y := by
  cases op <;> cases h <;> simp only [unV] at hy <;> try (simp at hy; done)
  all_goals simp only [Option.some.injEq] at hy; subst hy
  · exact ⟨_, by simp [Op.unary, Op.intArith], .n _ _⟩
  · exact ⟨_, by simp [Op.unary, Op.intBits, bitsV], .n _ _⟩
  · exact ⟨_, by simp [Op.unary], .b _⟩

theorem one_cells {v : Value} {y : V} (h : Rep m g v y) (h1 : v.oneCell' = true) : y.cells = [y] := by
  cases h <;> first | rfl | (simp [Value.oneCell'] at h1)

theorem faV_rep {t : TypeId} {v : Value} {x y : V} {i off sz : Nat} {ag : Bool} {fs : Array Field} {f : Field} (h : Rep m g v x) (hy : faV x off sz ag = some y)
    (ht : P.underlying t = some (.struct fs)) (hf : fs[i]? = some f) (ho : f.offset = off) (hs : szIs P f.type sz = true) (hz : sz ≠ 0) (w : World) :
    ∃ v', (Instr.fieldAt t v i).run P w = .ok v' w ∧ Rep m g v' y := by
  subst ho
  have run : ∀ bl o, (Instr.fieldAt t (.pointer (some ⟨bl, o, none⟩)) i).run P w = .ok (.pointer (some ⟨bl, o + f.offset, none⟩)) w := fun bl o => by
    simp [Instr.fieldAt, run_underlying ht, hf, Instr.sureAddr, fieldPlace, run_szIs hs, hz, add_eq]
  cases h <;> simp only [faV] at hy <;> try (simp at hy; done)
  case p l o bl hb =>
    simp only [Option.some.injEq] at hy; subst hy
    exact ⟨_, run _ _, .p _ _ _ hb⟩
  case ep bl o x vs hi hr hp =>
    split at hy
    · rename_i heq; cases heq
    · rename_i cs heq
      cases heq
      obtain ⟨z, hz', rfl⟩ := Option.map_eq_some_iff.1 hy
      unfold partV at hz'
      split at hz' <;> try (simp at hz'; done)
      rename_i hle
      simp only [V.cells] at hi hr hp
      cases ag with
      | true =>
        simp only [if_true, Option.some.injEq] at hz'; subst hz'
        refine ⟨_, run _ _, .ep _ _ _ (fun j => vs (f.offset + j)) (fun j hj => ?_) (fun j hj => ?_) (fun j hj => ?_)⟩
        all_goals (simp only [V.cells, List.length_take, List.length_drop] at hj)
        · rw [Nat.add_assoc]; exact hi _ (by omega)
        · simp only [V.cells]; rw [getD_drop_take _ _ _ _ (by omega)]; exact hr _ (by omega)
        · exact hp _ (by omega)
      | false =>
        simp only [Bool.false_eq_true, if_false] at hz'
        split at hz' <;> try (simp at hz'; done)
        rename_i h1
        subst h1
        simp only [Option.some.injEq] at hz'; subst hz'
        have hc := one_cells (hr f.offset (by omega)) (hp f.offset (by omega))
        refine ⟨_, run _ _, .ep _ _ _ (fun j => vs (f.offset + j)) (fun j hj => ?_) (fun j hj => ?_) (fun j hj => ?_)⟩
        all_goals (rw [hc] at hj; have e : j = 0 := (by simpa using hj); subst e)
        · simpa using hi f.offset (by omega)
        · rw [hc]; simpa using hr f.offset (by omega)
        · simpa using hp f.offset (by omega)
    · simp at hy

theorem flat_nil : flat [] = [] := rfl
theorem flat_cons (x : V) (xs : List V) : flat (x :: xs) = x.cells ++ flat xs := rfl
theorem flat_append (xs ys : List V) : flat (xs ++ ys) = flat xs ++ flat ys := by simp [flat]

theorem flat_length {e : Nat} : ∀ {xs : List V}, (∀ x ∈ xs, x.cells.length = e) → (flat xs).length = xs.length * e
  | [], _ => by simp [flat]
  | x :: xs, h => by
    have := flat_length (xs := xs) (fun y hy => h y (by simp [hy]))
    simp only [flat_cons, List.length_append, List.length_cons, this, h x (by simp)]
    rw [Nat.succ_mul]; omega

theorem flat_getD {e : Nat} : ∀ {xs : List V}, (∀ x ∈ xs, x.cells.length = e) → ∀ (i j : Nat), i < xs.length → j < e → (flat xs).getD (i * e + j) .u = (xs.getD i .u).cells.getD j .u
  | [], _, i, j, hi, _ => by simp at hi
  | x :: xs, h, i, j, hi, hj => by
    have hx := h x (by simp)
    cases i with
    | zero =>
      simp only [Nat.zero_mul, Nat.zero_add, flat_cons, List.getD, List.getElem?_cons_zero, Option.getD_some]
      rw [List.getElem?_append_left (by omega)]
    | succ i =>
      have := flat_getD (xs := xs) (fun y hy => h y (by simp [hy])) i j (by simpa using hi) hj
      simp only [List.getD, flat_cons, List.getElem?_cons_succ] at this ⊢
      rw [List.getElem?_append_right (by rw [hx, Nat.succ_mul]; omega)]
      rw [← this, hx]
      congr 2
      rw [Nat.succ_mul]; omega

theorem flat_drop {e : Nat} : ∀ {xs : List V}, (∀ x ∈ xs, x.cells.length = e) → ∀ k, flat (xs.drop k) = (flat xs).drop (k * e)
  | [], _, k => by simp [flat]
  | x :: xs, h, 0 => by simp
  | x :: xs, h, k + 1 => by
    have hx := h x (by simp)
    have hA : List.drop (k * e + e) x.cells = [] := List.drop_eq_nil_of_le (by omega)
    rw [List.drop_succ_cons, flat_drop (fun y hy => h y (by simp [hy])) k, flat_cons, Nat.succ_mul, List.drop_append, hA, hx]
    simp

theorem flat_take {e : Nat} : ∀ {xs : List V}, (∀ x ∈ xs, x.cells.length = e) → ∀ k, flat (xs.take k) = (flat xs).take (k * e)
  | [], _, k => by simp [flat]
  | x :: xs, h, 0 => by simp [flat]
  | x :: xs, h, k + 1 => by
    have hx := h x (by simp)
    have hA : List.take (k * e + e) x.cells = x.cells := List.take_of_length_le (by omega)
    rw [List.take_succ_cons, flat_cons, flat_take (fun y hy => h y (by simp [hy])) k, flat_cons, Nat.succ_mul, List.take_append, hA, hx]
    simp

theorem iasV_rep {t el : TypeId} {v vi : Value} {x i y : V} {e : Nat} (h : Rep m g v x) (hi : Rep m g vi i) (hy : iasV x i e = some y)
    (ht : P.underlying t = some (.slice el)) (hs : szIs P el e = true) (w : World) : ∃ v', (Instr.indexAt t v vi).run P w = .ok v' w ∧ Rep m g v' y := by
  cases h <;> simp only [iasV] at hy <;> try (simp at hy; done)
  case lnil e' =>
    cases hi <;> simp only at hy <;> try (simp at hy; done)
    rw [if_neg (by simp <;> omega)] at hy; simp at hy
  case lmay e' =>
    cases hi <;> simp only at hy <;> try (simp at hy; done)
    rw [if_neg (by simp <;> omega)] at hy; simp at hy
  case lz a e' c hq =>
    cases hi <;> simp only at hy <;> try (simp at hy; done)
    rw [if_neg (by simp <;> omega)] at hy; simp at hy
  case l bl off n c e' xs cp vs hn hc hu hm hr hp hcap =>
    cases hi <;> simp only at hy <;> try (simp at hy; done)
    rename_i k idx
    split at hy <;> try (simp at hy; done)
    rename_i hcond
    obtain ⟨rfl, h0, h1⟩ := hcond
    simp only [Option.some.injEq] at hy; subst hy
    obtain ⟨j, rfl⟩ := Int.eq_ofNat_of_zero_le h0
    have hj : j < xs.length := by omega
    have hce : (xs.getD j .u).cells.length = e := by
      have : xs.getD j .u ∈ xs := by simp [List.getD, hj]
      exact hu _ this
    have hlt : ∀ q, q < e → j * e + q < n * e := fun q hq => by
      have : (j + 1) * e ≤ n * e := Nat.mul_le_mul_right e (by omega)
      rw [Nat.succ_mul] at this; omega
    rw [Int.toNat_natCast]
    refine ⟨.pointer (some ⟨bl, off + j * e, none⟩), ?_, .ep _ _ _ (fun q => vs (j * e + q)) (fun q hq => ?_) (fun q hq => ?_) (fun q hq => ?_)⟩
    · have hjn : j < n := by omega
      simp [Instr.indexAt, asIntOf, run_underlying ht, hjn, run_szIs hs, add_eq]
    all_goals (rw [hce] at hq)
    · rw [Nat.add_assoc]; exact hm _ (hlt q hq)
    · rw [← flat_getD hu j q hj hq]; exact hr _ (hlt q hq)
    · exact hp _ (hlt q hq)
  case ms l off n c e' bl hb hc =>
    cases hi <;> simp only at hy <;> try (simp at hy; done)
    rename_i k idx
    split at hy <;> try (simp at hy; done)
    rename_i hcond
    obtain ⟨rfl, h0, h1⟩ := hcond
    simp only [Option.some.injEq] at hy; subst hy
    obtain ⟨j, rfl⟩ := Int.eq_ofNat_of_zero_le h0
    have hjn : j < n := by omega
    exact ⟨.pointer (some ⟨bl, off + j * e, none⟩), by simp [Instr.indexAt, asIntOf, run_underlying ht, hjn, run_szIs hs, add_eq], by rw [Int.toNat_natCast]; exact .p _ _ _ hb⟩

theorem iaaV_rep {t el : TypeId} {v vi : Value} {x i y : V} {len e : Nat} (h : Rep m g v x) (hi : Rep m g vi i) (hy : iaaV x i len e = some y)
    (ht : P.underlying t = some (.array len el)) (hs : szIs P el e = true) (w : World) : ∃ v', (Instr.indexAt t v vi).run P w = .ok v' w ∧ Rep m g v' y := by
  cases h <;> simp only [iaaV] at hy <;> try (simp at hy; done)
  case p l off bl hb =>
    cases hi <;> simp only at hy <;> try (simp at hy; done)
    rename_i k idx
    split at hy <;> try (simp at hy; done)
    rename_i hcond
    obtain ⟨h0, h1⟩ := hcond
    simp only [Option.some.injEq] at hy; subst hy
    exact ⟨_, by simp [Instr.indexAt, asIntOf, run_underlying ht, h0, h1, Instr.sureAddr, run_szIs hs, add_eq], .p _ _ _ hb⟩

theorem ixaV_rep {t el : TypeId} {v vi : Value} {x i y : V} {len e : Nat} {ag : Bool} (h : Rep m g v x) (hi : Rep m g vi i) (hy : ixaV x i len e ag = some y)
    (ht : P.underlying t = some (.array len el)) (hs : szIs P el e = true) (ha : agIs P el ag = true) (w : World) : ∃ v', (Instr.index t v vi).run P w = .ok v' w ∧ Rep m g v' y := by
  cases h <;> simp only [ixaV] at hy <;> try (simp at hy; done)
  case agg xs vs hl hr hp =>
    cases hi <;> simp only at hy <;> try (simp at hy; done)
    rename_i k idx
    split at hy <;> try (simp at hy; done)
    rename_i hcond
    obtain ⟨h0, h1⟩ := hcond
    obtain ⟨v', h2, h3⟩ := partV_rep ⟨⟨hl, hr⟩, hp⟩ hy hs ha w
    exact ⟨v', by simp [Instr.index, asIntOf, run_underlying ht, h0, h1, run_szIs hs, h2], h3⟩

theorem byte_at (s : ByteArray) (i : Nat) (h : i < s.size) : s[i]? = some (s.data.toList.getD i 0) := by
  have h2 : i < s.data.size := h
  rw [getElem?_pos s i h]
  simp only [List.getD, ByteArray.getElem_eq_getElem_data, Array.getElem?_toList]
  rw [Array.getElem?_eq_getElem h2]; rfl

theorem ixsV_rep {t : TypeId} {v vi : Value} {x i y : V} (h : Rep m g v x) (hi : Rep m g vi i) (hy : ixsV x i = some y)
    (ht : P.underlying t = some .string) (w : World) : ∃ v', (Instr.index t v vi).run P w = .ok v' w ∧ Rep m g v' y := by
  cases h <;> simp only [ixsV] at hy <;> try (simp at hy; done)
  case s s =>
    cases hi <;> simp only at hy <;> try (simp at hy; done)
    rename_i k idx
    split at hy <;> try (simp at hy; done)
    rename_i hcond
    obtain ⟨h0, h1⟩ := hcond
    simp only [Option.some.injEq] at hy; subst hy
    have := byte_at s idx.toNat (by omega)
    exact ⟨_, by simp [Instr.index, asIntOf, run_underlying ht, h0, this], .n _ _⟩

/-- Optional operands. -/
def RepO (m : Nat → FuncId) (g : G) : Option Value → Option V → Prop
  | none, none => True
  | some v, some x => Rep m g v x
  | _, _ => False

theorem run_bound {v : Value} {k : IntKind} {i : Int} {y : Nat} {code : BoundsCode} (h : v = .int k i) (h0 : 0 ≤ i) (h1 : i ≤ y) (w : World) :
    (Instr.sliceBound v y code).run P w = .ok i.toNat w := by
  subst h; simp [Instr.sliceBound, asIntOf, h0, h1]

theorem lo_of {lo : Option Value} {xlo : Option V} {i : Int} (h : RepO m g lo xlo) (hl : loOf xlo = some i) : (lo = none ∧ i = 0) ∨ ∃ k, lo = some (.int k i) := by
  cases lo <;> cases xlo <;> simp only [RepO] at h
  · simp [loOf] at hl; exact .inl ⟨rfl, hl.symm⟩
  · rename_i v x
    cases h <;> simp only [loOf] at hl <;> try (simp at hl; done)
    simp at hl; subst hl; exact .inr ⟨_, rfl⟩
theorem hi_of {hi : Option Value} {xhi : Option V} {n : Nat} {i : Int} (h : RepO m g hi xhi) (hl : hiOf n xhi = some i) : (hi = none ∧ i = n) ∨ ∃ k, hi = some (.int k i) := by
  cases hi <;> cases xhi <;> simp only [RepO] at h
  · simp [hiOf] at hl; exact .inl ⟨rfl, hl.symm⟩
  · rename_i v x
    cases h <;> simp only [hiOf] at hl <;> try (simp at hl; done)
    simp at hl; subst hl; exact .inr ⟨_, rfl⟩
theorem mx_of {mx : Option Value} {xmx : Option V} {hi : Int} (h : RepO m g mx xmx) (hl : mxOk hi xmx = true) : (mx = none ∧ xmx = none) ∨ ∃ k x, mx = some (.int k hi) ∧ xmx = some x := by
  cases mx <;> cases xmx <;> simp only [RepO] at h
  · exact .inl ⟨rfl, rfl⟩
  · rename_i v x
    cases h <;> simp only [mxOk] at hl <;> try (simp at hl; done)
    simp at hl; subst hl; exact .inr ⟨_, _, rfl, rfl⟩

/-- The bounds of a slice expression. -/
theorem run_bounds {isS : Bool} {len cap : Nat} {lo hi mx : Option Value} {xlo xhi xmx : Option V} {l h : Int} (hlo : RepO m g lo xlo) (hhi : RepO m g hi xhi) (hmx : RepO m g mx xmx)
    (el : loOf xlo = some l) (eh : hiOf len xhi = some h) (em : mxOk h xmx = true) (h0 : 0 ≤ l) (h1 : l ≤ h) (h2 : h ≤ len) (hc : len ≤ cap) (hx : mx.isSome = true → hi.isSome = true) (w : World) :
    (Instr.sliceBounds isS len cap lo hi mx).run P w = .ok (l.toNat, h.toNat, if mx.isSome then h.toNat else cap) w := by
  have hh : h.toNat ≤ cap := by omega
  rcases mx_of hmx em with ⟨rfl, rfl⟩ | ⟨km, xm, rfl, rfl⟩
  · rcases hi_of hhi eh with ⟨rfl, rfl⟩ | ⟨kh, rfl⟩
    · rcases lo_of hlo el with ⟨rfl, rfl⟩ | ⟨kl, rfl⟩
      · simp [Instr.sliceBounds]
      · simp only [Instr.sliceBounds, Sem.run_bind, Sem.run_pure, Result.andThen_ok, run_bound rfl h0 h1]
        simp
    · rcases lo_of hlo el with ⟨rfl, rfl⟩ | ⟨kl, rfl⟩
      · simp only [Instr.sliceBounds, Sem.run_bind, Sem.run_pure, Result.andThen_ok, run_bound (y := cap) rfl (show 0 ≤ h by omega) (by omega)]
        simp
      · simp only [Instr.sliceBounds, Sem.run_bind, Sem.run_pure, Result.andThen_ok, run_bound (y := cap) rfl (show 0 ≤ h by omega) (by omega), run_bound (y := h.toNat) rfl h0 (by omega)]
        simp
  · rcases hi_of hhi eh with ⟨rfl, rfl⟩ | ⟨kh, rfl⟩
    · simp at hx
    · rcases lo_of hlo el with ⟨rfl, rfl⟩ | ⟨kl, rfl⟩
      · simp only [Instr.sliceBounds, Sem.run_bind, Sem.run_pure, Result.andThen_ok, run_bound (y := cap) rfl (show 0 ≤ h by omega) (by omega), run_bound (y := h.toNat) rfl (show 0 ≤ h by omega) (by omega)]
        simp
      · simp only [Instr.sliceBounds, Sem.run_bind, Sem.run_pure, Result.andThen_ok, run_bound (y := cap) rfl (show 0 ≤ h by omega) (by omega), run_bound (y := h.toNat) rfl (show 0 ≤ h by omega) (by omega), run_bound (y := h.toNat) rfl h0 (by omega)]
        simp

theorem mxc_of {mx : Option Value} {xmx : Option V} {c : Nat} {M : Int} (h : RepO m g mx xmx) (hl : mxOf c xmx = some M) : (mx = none ∧ M = c) ∨ ∃ k, mx = some (.int k M) := by
  cases mx <;> cases xmx <;> simp only [RepO] at h
  · simp [mxOf] at hl; exact .inl ⟨rfl, hl.symm⟩
  · rename_i v x
    cases h <;> simp only [mxOf] at hl <;> try (simp at hl; done)
    simp at hl; subst hl; exact .inr ⟨_, rfl⟩

/-- The bounds of a slice expression, up to the room. -/
theorem run_boundsM {isS : Bool} {len cap : Nat} {lo hi mx : Option Value} {xlo xhi xmx : Option V} {l h M : Int} (hlo : RepO m g lo xlo) (hhi : RepO m g hi xhi) (hmx : RepO m g mx xmx)
    (el : loOf xlo = some l) (eh : hiOf len xhi = some h) (em : mxOf cap xmx = some M) (h0 : 0 ≤ l) (h1 : l ≤ h) (h2 : h ≤ M) (h3 : M ≤ cap) (hx : mx.isSome = true → hi.isSome = true) (w : World) :
    (Instr.sliceBounds isS len cap lo hi mx).run P w = .ok (l.toNat, h.toNat, M.toNat) w := by
  rcases mxc_of hmx em with ⟨rfl, rfl⟩ | ⟨km, rfl⟩
  · rcases hi_of hhi eh with ⟨rfl, rfl⟩ | ⟨kh, rfl⟩
    · rcases lo_of hlo el with ⟨rfl, rfl⟩ | ⟨kl, rfl⟩
      · simp [Instr.sliceBounds]
      · simp only [Instr.sliceBounds, Sem.run_bind, Sem.run_pure, Result.andThen_ok, run_bound rfl h0 h1]
        simp
    · rcases lo_of hlo el with ⟨rfl, rfl⟩ | ⟨kl, rfl⟩
      · simp only [Instr.sliceBounds, Sem.run_bind, Sem.run_pure, Result.andThen_ok, run_bound (y := cap) rfl (show 0 ≤ h by omega) (by omega)]
        simp
      · simp only [Instr.sliceBounds, Sem.run_bind, Sem.run_pure, Result.andThen_ok, run_bound (y := cap) rfl (show 0 ≤ h by omega) (by omega), run_bound (y := h.toNat) rfl h0 (by omega)]
        simp
  · rcases hi_of hhi eh with ⟨rfl, rfl⟩ | ⟨kh, rfl⟩
    · simp at hx
    · rcases lo_of hlo el with ⟨rfl, rfl⟩ | ⟨kl, rfl⟩
      · simp only [Instr.sliceBounds, Sem.run_bind, Sem.run_pure, Result.andThen_ok, run_bound (y := cap) rfl (show 0 ≤ M by omega) (by omega), run_bound (y := M.toNat) rfl (show 0 ≤ h by omega) (by omega)]
        simp
      · simp only [Instr.sliceBounds, Sem.run_bind, Sem.run_pure, Result.andThen_ok, run_bound (y := cap) rfl (show 0 ≤ M by omega) (by omega), run_bound (y := M.toNat) rfl (show 0 ≤ h by omega) (by omega), run_bound (y := h.toNat) rfl h0 (by omega)]

theorem slcmV_rep {t el : TypeId} {v : Value} {x y : V} {lo hi : Option Value} {xlo xhi : Option V} {len e : Nat} (hv : Rep m g v x) (hlo : RepO m g lo xlo) (hhi : RepO m g hi xhi)
    (hy : slcmV x xlo xhi len e = some y) (ht : P.underlying t = some (.array len el)) (hs : szIs P el e = true) (w : World) : ∃ v', (Instr.sliceAt t v lo hi none).run P w = .ok v' w ∧ Rep m g v' y := by
  cases hv <;> simp only [slcmV] at hy <;> try (simp at hy; done)
  case p l off bl hb =>
    split at hy <;> try (simp at hy; done)
    rename_i a h ea eh
    split at hy <;> try (simp at hy; done)
    rename_i hcond
    obtain ⟨h0, h1, h2⟩ := hcond
    simp only [Option.some.injEq] at hy; subst hy
    have hb' := run_boundsM (P := P) (m := m) (g := g) (isS := false) (cap := len) (len := len) (mx := none) (xmx := none) (M := len) hlo hhi trivial ea eh rfl h0 h1 h2 (by omega) (by simp) w
    refine ⟨.slice (some (if len = a.toNat then (⟨bl, off, none⟩ : Addr) else (⟨bl, off, none⟩ : Addr).add (a.toNat * e))) (h.toNat - a.toNat) (len - a.toNat), ?_, ?_⟩
    · simp [Instr.sliceAt, run_underlying ht, Instr.sureAddr, hb', run_szIs hs]
    · have e1 : (h - a).toNat = h.toNat - a.toNat := by omega
      have e2 : ((len : Int) - a).toNat = len - a.toNat := by omega
      rw [e1, e2]
      by_cases hq : (len : Int) = a
      · rw [if_pos hq, if_pos (show len = a.toNat by omega)]; exact .ms _ _ _ _ _ _ hb (by omega)
      · rw [if_neg hq, if_neg (show ¬ len = a.toNat by omega), add_eq]; exact .ms _ _ _ _ _ _ hb (by omega)

theorem slcV_rep {t el : TypeId} {v : Value} {x y : V} {lo hi mx : Option Value} {xlo xhi xmx : Option V} {e : Nat} (hv : Rep m g v x) (hlo : RepO m g lo xlo) (hhi : RepO m g hi xhi) (hmx : RepO m g mx xmx)
    (hy : slcV x xlo xhi xmx e = some y) (hx : mx.isSome = true → hi.isSome = true)
    (ht : P.underlying t = some (.slice el)) (hs : szIs P el e = true) (w : World) : ∃ v', (Instr.sliceAt t v lo hi mx).run P w = .ok v' w ∧ Rep m g v' y := by
  have run : ∀ a n c l h, (Instr.sliceBounds true n c lo hi mx).run P w = .ok (l, h, if mx.isSome then h else c) w → v = .slice a n c →
      (Instr.sliceAt t v lo hi mx).run P w = .ok (.slice (if (if mx.isSome then h else c) = l then a else a.map (·.add (l * e))) (h - l) ((if mx.isSome then h else c) - l)) w := by
    rintro a n c l h hb rfl
    simp [Instr.sliceAt, run_underlying ht, Instr.slice, hb, run_szIs hs]
  have hmS : mx.isSome = xmx.isSome := by cases mx <;> cases xmx <;> simp_all [RepO]
  cases hv <;> simp only [slcV] at hy <;> try (simp at hy; done)
  case lnil e' =>
    split at hy <;> try (simp at hy; done)
    rename_i l h el eh
    split at hy <;> try (simp at hy; done)
    rename_i hcond
    obtain ⟨rfl, hpos, h0, h1, h2, h3⟩ := hcond
    simp only [Option.some.injEq] at hy; subst hy
    simp only [List.length_nil] at eh h2
    have hh : h = 0 := by omega
    have hl : l = 0 := by omega
    subst hh hl
    have hb := run_bounds (P := P) (isS := true) (cap := 0) hlo hhi hmx el eh h3 (by omega) (by omega) (by simp) (by simp) hx w
    refine ⟨_, run _ _ _ _ _ hb rfl, ?_⟩
    simp
    cases hq : xmx <;> simp [capOf] <;> exact .lnil _
  case lmay e' =>
    split at hy <;> try (simp at hy; done)
    rename_i l h el eh
    split at hy <;> try (simp at hy; done)
    rename_i hcond
    obtain ⟨rfl, hpos, h0, h1, h2, h3⟩ := hcond
    simp only [Option.some.injEq] at hy; subst hy
    simp only [List.length_nil] at eh h2
    have hh : h = 0 := by omega
    have hl : l = 0 := by omega
    subst hh hl
    have hb := run_bounds (P := P) (isS := true) (cap := 0) hlo hhi hmx el eh h3 (by omega) (by omega) (by simp) (by simp) hx w
    refine ⟨_, run _ _ _ _ _ hb rfl, ?_⟩
    simp
    cases hq : xmx <;> simp [capOf] <;> exact .lmay _
  case lz q e' c hq =>
    split at hy <;> try (simp at hy; done)
    rename_i l h el eh
    split at hy <;> try (simp at hy; done)
    rename_i hcond
    obtain ⟨rfl, hpos, h0, h1, h2, h3⟩ := hcond
    simp only [Option.some.injEq] at hy; subst hy
    simp only [List.length_nil] at eh h2
    have hh : h = 0 := by omega
    have hl : l = 0 := by omega
    subst hh hl
    have hb := run_bounds (P := P) (isS := true) (cap := 0) hlo hhi hmx el eh h3 (by omega) (by omega) (by simp) (by simp) hx w
    refine ⟨_, run _ _ _ _ _ hb rfl, ?_⟩
    simp
    refine .lz _ _ _ ?_
    cases xmx <;> rcases hq with rfl | rfl | rfl <;> simp [capOf]
  case l bl off n c e' xs cp vs hn hc hu hm hr hp hcap =>
    split at hy <;> try (simp at hy; done)
    rename_i l h el eh
    split at hy <;> try (simp at hy; done)
    rename_i hcond
    obtain ⟨rfl, hpos, h0, h1, h2, h3⟩ := hcond
    simp only [Option.some.injEq] at hy; subst hy
    rw [hn] at eh h2
    have hb := run_bounds (P := P) (isS := true) (cap := c) hlo hhi hmx el eh h3 h0 h1 h2 hc hx w
    obtain ⟨L, rfl⟩ := Int.eq_ofNat_of_zero_le h0
    obtain ⟨H, rfl⟩ := Int.eq_ofNat_of_zero_le (show 0 ≤ h by omega)
    simp only [Int.toNat_natCast] at hb ⊢
    have hLH : L ≤ H := by omega
    have hHn : H ≤ n := by omega
    have hne : cp ≠ .nil := by rintro rfl; exact hcap
    have hlen : ((xs.drop L).take (H - L)).length = H - L := by simp; omega
    have hu' : ∀ x ∈ (xs.drop L).take (H - L), x.cells.length = e := fun x hx => hu x (List.mem_of_mem_drop (List.mem_of_mem_take hx))
    have hflat : flat ((xs.drop L).take (H - L)) = ((flat xs).drop (L * e)).take ((H - L) * e) := by
      rw [flat_take (e := e) (fun x hx => hu x (List.mem_of_mem_drop hx)), flat_drop hu]
    have eN : ((H : Int) - (L : Int)).toNat = H - L := by omega
    rw [eN]
    have hmul : ∀ j, j < (H - L) * e → L * e + j < n * e := fun j hj => by
      have a1 : L * e + (H - L) * e = H * e := by rw [← Nat.add_mul]; congr 1; omega
      have a2 : H * e ≤ n * e := Nat.mul_le_mul_right e hHn
      omega
    refine ⟨_, run _ _ _ _ _ hb rfl, ?_⟩
    have main : ∀ (cap' : Nat) (o' : Nat) (q : Cap), H - L ≤ cap' → (H - L = 0 ∨ o' = off + L * e) → CapOk g ⟨bl, o', none⟩ (H - L) cap' e q →
        Rep m g (.slice (some ⟨bl, o', none⟩) (H - L) cap') (.l e ((xs.drop L).take (H - L)) q) := by
      intro cap' o' q hcap' ho hq
      refine .l _ _ _ _ _ _ _ (fun j => vs (L * e + j)) hlen hcap' hu' (fun j hj => ?_) (fun j hj => ?_) (fun j hj => hp _ (hmul j hj)) hq
      · rcases ho with ho | rfl
        · rw [ho] at hj; simp at hj
        · rw [Nat.add_assoc]; exact hm _ (hmul j hj)
      · rw [hflat, getD_drop_take _ _ _ _ hj]; exact hr _ (hmul j hj)
    simp only [hmS] at *
    by_cases hmay : cp = .may
    · subst hmay
      have e1 : (if xmx.isSome ∧ Cap.may ≠ .nil ∧ Cap.may ≠ .may then Cap.full else capOf .may H xs.length) = .may := by simp [capOf]
      rw [e1]
      have hge : H - L ≤ (if xmx.isSome = true then H else c) - L := by split <;> omega
      by_cases hz : (if xmx.isSome = true then H else c) = L
      · have hH : H - L = 0 := by split at hz <;> omega
        simp only [hz, if_true] at hge ⊢
        exact main _ _ .may hge (.inl hH) trivial
      · simp only [hz, if_false, Option.map_some, add_eq]
        exact main _ _ .may hge (.inr rfl) trivial
    cases hq : xmx with
    | some xm =>
      simp only [Option.isSome_some, if_true, hne, hmay, ne_eq, not_false_eq_true, and_self]
      by_cases hz : H = L
      · subst hz
        simp only [if_true]
        exact main _ _ _ (by omega) (.inl (by omega)) (by simp [CapOk])
      · simp only [hz, if_false, Option.map_some, add_eq]
        exact main _ _ _ (by omega) (.inr rfl) (by simp [CapOk])
    | none =>
      simp only [Option.isSome_none, Bool.false_eq_true, if_false, false_and, capOf, hne, hmay]
      by_cases hz : c = L
      · subst hz
        simp only [if_true]
        have hHL : H = c := by omega
        subst hHL
        refine main _ _ _ (by omega) (.inl (by omega)) ?_
        by_cases hn' : ((H : Int)) = ((xs.length : Nat) : Int)
        · rw [if_pos hn']
          cases cp <;> simp_all [CapOk]
        · rw [if_neg hn']; trivial
      · simp only [hz, if_false, Option.map_some, add_eq]
        refine main _ _ _ (by omega) (.inr rfl) ?_
        by_cases hn' : ((H : Int)) = ((xs.length : Nat) : Int)
        · rw [if_pos hn']
          have hHn' : H = n := by omega
          subst hHn'
          cases cp with
          | nil => exact hcap
          | full => simp only [CapOk] at hcap ⊢; omega
          | any => trivial
          | may => trivial
          | tok t =>
            obtain ⟨hex, hcap | ⟨sz, hc1, hc2⟩⟩ := hcap
            · exact ⟨hex, .inl (by omega)⟩
            · refine ⟨hex, .inr ⟨sz, ?_, ?_⟩⟩
              · simp only at hc1 ⊢
                rw [hc1]
                have : L * e + (H - L) * e = H * e := by rw [← Nat.add_mul]; congr 1; omega
                rw [Nat.add_assoc, this]
              · have hc2' : off + c * e ≤ sz := hc2
                show off + L * e + (c - L) * e ≤ sz
                have : L * e + (c - L) * e = c * e := by rw [← Nat.add_mul]; congr 1; omega
                omega
        · rw [if_neg hn']; trivial
  case ms l off n c e' bl hb hc =>
    split at hy <;> try (simp at hy; done)
    rename_i a h M ea eh eM
    split at hy <;> try (simp at hy; done)
    rename_i hcond
    obtain ⟨rfl, h0, h1, h2, h3⟩ := hcond
    simp only [Option.some.injEq] at hy; subst hy
    have hb' := run_boundsM (P := P) (isS := true) hlo hhi hmx ea eh eM h0 h1 h2 h3 hx w
    have e1 : (h - a).toNat = h.toNat - a.toNat := by omega
    have e2 : (M - a).toNat = M.toNat - a.toNat := by omega
    refine ⟨.slice (if M.toNat = a.toNat then some ⟨bl, off, none⟩ else (some (⟨bl, off, none⟩ : Addr)).map (·.add (a.toNat * e))) (h.toNat - a.toNat) (M.toNat - a.toNat), ?_, ?_⟩
    · simp [Instr.sliceAt, run_underlying ht, Instr.slice, hb', run_szIs hs]
    · rw [e1, e2]
      by_cases hq : M = a
      · rw [if_pos hq, if_pos (show M.toNat = a.toNat by omega)]; exact .ms _ _ _ _ _ _ hb (by omega)
      · rw [if_neg hq, if_neg (show ¬ M.toNat = a.toNat by omega)]
        simp only [Option.map_some, add_eq]; exact .ms _ _ _ _ _ _ hb (by omega)

end Go.Ab
/-
  That the abstract operations stand for the model's: what is built, and what is made or written in memory.
-/
namespace Go.Ab
open Go.RowKit

variable {m : Nat → FuncId} {g : G} {P : Program}

theorem slcsV_rep {t : TypeId} {v : Value} {x y : V} {lo hi : Option Value} {xlo xhi : Option V} (hv : Rep m g v x) (hlo : RepO m g lo xlo) (hhi : RepO m g hi xhi)
    (hy : slcsV x xlo xhi = some y) (ht : P.underlying t = some .string) (w : World) : ∃ v', (Instr.sliceAt t v lo hi none).run P w = .ok v' w ∧ Rep m g v' y := by
  cases hv <;> simp only [slcsV] at hy <;> try (simp at hy; done)
  rename_i s
  split at hy <;> try (simp at hy; done)
  rename_i l h el eh
  split at hy <;> try (simp at hy; done)
  rename_i hcond
  obtain ⟨h0, h1, h2⟩ := hcond
  simp only [Option.some.injEq] at hy; subst hy
  have hb := run_bounds (P := P) (m := m) (g := g) (isS := false) (cap := s.size) (mx := none) (xmx := none) hlo hhi trivial el eh rfl h0 h1 h2 (Nat.le_refl _) (by simp) w
  exact ⟨_, by simp [Instr.sliceAt, run_underlying ht, Instr.slice, hb], .s _⟩

theorem lenV_rep {t el : TypeId} {v : Value} {x y : V} {ty : TypeId} (hv : Rep m g v x) (hy : lenV x = some y) (ht : P.underlying t = some (.slice el)) (w : World) :
    ∃ v', (Builtin.len_ ⟨[t]⟩ ty #[v]).run P w = .ok v' w ∧ Rep m g v' y := by
  cases hv <;> simp only [lenV] at hy <;> try (simp at hy; done)
  all_goals simp only [Option.some.injEq] at hy; subst hy
  case lnil e => exact ⟨_, by simp [Builtin.len_, run_underlying ht]; rfl, .n _ _⟩
  case lmay e => exact ⟨_, by simp [Builtin.len_, run_underlying ht]; rfl, .n _ _⟩
  case lz a e c hq => exact ⟨_, by simp [Builtin.len_, run_underlying ht]; rfl, .n _ _⟩
  case l bl off n c e xs cp vs hn hc hu hm hr hp hcap =>
    subst hn
    exact ⟨_, by simp [Builtin.len_, run_underlying ht]; rfl, .n _ _⟩
  case ms l off n c e bl hb hc => exact ⟨_, by simp [Builtin.len_, run_underlying ht]; rfl, .n _ _⟩

theorem capV_rep {t el : TypeId} {v : Value} {x y : V} {ty : TypeId} (hv : Rep m g v x) (hy : capV x = some y) (ht : P.underlying t = some (.slice el)) (w : World) :
    ∃ v', (Builtin.cap_ ⟨[t]⟩ ty #[v]).run P w = .ok v' w ∧ Rep m g v' y := by
  cases hv with
  | lnil e =>
    simp only [capV, Option.some.injEq] at hy; subst hy
    exact ⟨_, by simp [Builtin.cap_, run_underlying ht]; rfl, .n _ _⟩
  | lmay e => simp [capV] at hy
  | lz a e c hq =>
    rcases hq with rfl | rfl | rfl
    · simp [capV] at hy
    · simp [capV] at hy
    · simp only [capV, Option.some.injEq] at hy; subst hy
      exact ⟨_, by simp [Builtin.cap_, run_underlying ht]; rfl, .n _ _⟩
  | l bl off n c e xs cp vs hn hc hu hm hr hp hcap =>
    cases cp with
    | nil => exact hcap.elim
    | full =>
      simp only [capV, Option.some.injEq] at hy; subst hy
      have hcn : c = n := hcap
      subst hn; subst hcn
      exact ⟨_, by simp [Builtin.cap_, run_underlying ht]; rfl, .n _ _⟩
    | _ => simp [capV] at hy
  | ms l off n c e bl hb hc =>
    simp only [capV, Option.some.injEq] at hy; subst hy
    exact ⟨_, by simp [Builtin.cap_, run_underlying ht]; rfl, .n _ _⟩
  | _ => simp [capV] at hy

theorem slenV_rep {t : TypeId} {v : Value} {x y : V} {ty : TypeId} (hv : Rep m g v x) (hy : slenV x = some y) (ht : P.underlying t = some .string) (w : World) :
    ∃ v', (Builtin.len_ ⟨[t]⟩ ty #[v]).run P w = .ok v' w ∧ Rep m g v' y := by
  cases hv <;> simp only [slenV] at hy <;> try (simp at hy; done)
  all_goals simp only [Option.some.injEq] at hy; subst hy
  exact ⟨_, by simp [Builtin.len_, run_underlying ht]; rfl, .n _ _⟩

theorem nilV_rep {v : Value} {x y : V} (hv : Rep m g v x) (hy : nilV x = some y) (ρ : Operand → Value) (o : Operand) (hρ : ρ o = v) (w : World) (co : Oper) (hco : co.op = .nilCheck o) :
    (execOp ρ co).run P w = .ok (.value v) w ∧ Rep m g v y := by
  cases hv <;> simp only [nilV] at hy <;> try (simp at hy; done)
  all_goals simp only [Option.some.injEq] at hy; subst hy
  · exact ⟨by unfold execOp; simp only [hco, hρ]; rfl, .p _ _ _ ‹_›⟩
  · exact ⟨by unfold execOp; simp only [hco, hρ]; rfl, .ep _ _ _ _ ‹_› ‹_› ‹_›⟩
  · exact ⟨by unfold execOp; simp only [hco, hρ]; rfl, .f _ _ _ _ _ ‹_› ‹_› ‹_› ‹_›⟩

theorem cnvV_rep {s d : TypeId} {t' : TypeDesc} {k : IntKind} {v : Value} {x y : V} (hv : Rep m g v x) (hy : cnvV k x = some y) (hs : P.underlying s = some t') (hd : P.underlying d = some (.int k)) (w : World) :
    ∃ v', (convert s d v).run P w = .ok v' w ∧ Rep m g v' y := by
  cases hv <;> simp only [cnvV] at hy <;> try (simp at hy; done)
  simp only [Option.some.injEq] at hy; subst hy
  exact ⟨_, by simp [convert, run_underlying hs, run_underlying hd, Conv.intToInt], .n _ _⟩

def intOfV : V → Int
  | .n _ a => a
  | _ => 0

theorem flat_one : ∀ {xs : List V}, (∀ x ∈ xs, x.cells.length = 1) → (∀ x ∈ xs, x.cells = [x]) → flat xs = xs
  | [], _, _ => rfl
  | x :: xs, h, h' => by
    rw [flat_cons, h' x (by simp), flat_one (fun y hy => h y (by simp [hy])) (fun y hy => h' y (by simp [hy]))]; rfl

theorem foldl_push (l : List UInt8) : ∀ (b : ByteArray), l.foldl (fun r c => r.push c) b = ⟨(b.data.toList ++ l).toArray⟩ := by
  induction l with
  | nil => intro b; cases b; simp
  | cons c l ih => intro b; simp only [List.foldl_cons, ih]; cases b; simp [ByteArray.push]

theorem b2sV_rep {s d e : TypeId} {v : Value} {x y : V} {σ : St} {w : World} (hR : Rel m g σ w) (hv : Rep m g v x) (hy : b2sV x = some y) (hs : P.underlying s = some (.slice e)) (he : P.underlying e = some (.int .u8))
    (hd : P.underlying d = some .string) : ∃ v', (convert s d v).run P w = .ok v' w ∧ Rep m g v' y := by
  cases hv <;> simp only [b2sV] at hy <;> try (simp at hy; done)
  case lnil e' =>
    split at hy <;> try (simp at hy; done)
    rename_i heq
    cases heq
    simp only [List.all_nil, if_true, Option.some.injEq] at hy; subst hy
    exact ⟨_, by rw [run_convert_bytes_string w s d e none 0 0 hs he hd]; simp [Conv.bytesToString]; rfl, .s _⟩
  case lmay e' =>
    split at hy <;> try (simp at hy; done)
    rename_i heq
    cases heq
    simp only [List.all_nil, if_true, Option.some.injEq] at hy; subst hy
    exact ⟨_, by rw [run_convert_bytes_string w s d e none 0 0 hs he hd]; simp [Conv.bytesToString]; rfl, .s _⟩
  case lz q e' c hq =>
    split at hy <;> try (simp at hy; done)
    rename_i heq
    cases heq
    simp only [List.all_nil, if_true, Option.some.injEq] at hy; subst hy
    exact ⟨_, by rw [run_convert_bytes_string w s d e (some q) 0 0 hs he hd]; exact run_bytesToString w _ _ _ [] (by simp [loadCells, loadCellsFrom]), .s _⟩
  case l bl off n c e' xs cp vs hn hc hu hm hr hp hcap =>
    split at hy <;> try (simp at hy; done)
    rename_i xs' c' heq
    cases heq
    split at hy <;> try (simp at hy; done)
    rename_i hall
    simp only [Option.some.injEq] at hy; subst hy
    have hcell : ∀ x ∈ xs, ∃ a, x = .n .u8 a := fun x hx => by
      have := List.all_eq_true.1 hall x hx
      split at this
      · exact ⟨_, rfl⟩
      · simp at this
    have hf : flat xs = xs := flat_one hu (fun x hx => by obtain ⟨a, rfl⟩ := hcell x hx; rfl)
    rw [hf] at hr
    have hvs : ∀ j, j < n → vs j = .int .u8 (intOfV (xs.getD j .u)) := fun j hj => by
      have hmem : xs.getD j .u ∈ xs := by simp [List.getD, show j < xs.length by omega]
      obtain ⟨a, ha⟩ := hcell _ hmem
      have := hr j (by omega)
      rw [ha] at this ⊢
      exact rep_int this
    obtain ⟨ns, hns⟩ : ∃ ns : List Int, ns = xs.map intOfV := ⟨_, rfl⟩
    have hlen : ns.length = n := by rw [hns]; simpa using hn
    have hload : (loadCells ⟨bl, off, none⟩ n).run P w = .ok (ns.map (Value.int .u8)).toArray w := by
      have := run_loadCells (P := P) w ⟨bl, off, none⟩ n (fun j => .int .u8 (intOfV (xs.getD j .u))) (fun j hj => by
        rw [add_eq, hR.imm _ _ _ (hm j (by omega)), hvs j hj])
      rw [this]
      congr 2
      apply List.ext_getElem
      · simp [hlen]
      · intro j h1 h2
        simp only [List.length_map, List.length_range] at h1
        simp [hns, List.getD, show j < xs.length by omega]
    refine ⟨_, by rw [run_convert_bytes_string w s d e _ _ _ hs he hd]; exact run_bytesToString w _ _ _ ns hload, ?_⟩
    have : ns.foldl (fun r n => r.push (UInt8.ofNat n.toNat)) ByteArray.empty = ⟨(xs.map byteOf).toArray⟩ := by
      have h1 : ns.foldl (fun r n => r.push (UInt8.ofNat n.toNat)) ByteArray.empty = (ns.map fun n => UInt8.ofNat n.toNat).foldl (fun r c => r.push c) ByteArray.empty := by
        rw [List.foldl_map]
      rw [h1, foldl_push]
      rw [hns, List.map_map]
      have h2 : xs.map ((fun n => UInt8.ofNat n.toNat) ∘ intOfV) = xs.map byteOf := by
        apply List.map_congr_left
        intro x hx
        obtain ⟨a, rfl⟩ := hcell x hx
        rfl
      rw [h2]
      rfl
    rw [this]
    exact .s _

theorem minL_rep {k : IntKind} : ∀ (xs : List V) (vs : List Value) (a : Int) {y : V}, vs.length = xs.length → (∀ j, j < xs.length → Rep m g (vs.getD j undef) (xs.getD j .u)) → minL k a xs = some y → ∀ (w : World),
    ∃ v', (vs.foldlM Builtin.min2 (.int k a)).run P w = .ok v' w ∧ Rep m g v' y
  | [], [], a, y, _, _, h, w => by simp [minL] at h; subst h; exact ⟨_, rfl, .n _ _⟩
  | x :: xs, v :: vs, a, y, hl, hr, h, w => by
    have h0 := hr 0 (by simp)
    cases x <;> simp only [minL] at h <;> try (simp at h; done)
    rename_i k' b
    obtain rfl : v = .int k' b := rep_int h0
    obtain ⟨v', h1, h2⟩ := minL_rep xs vs (min a b) (by simpa using hl) (fun j hj => hr (j + 1) (by simp; omega)) h w
    refine ⟨v', ?_, h2⟩
    have : (Builtin.min2 (.int k a) (.int k' b)).run P w = .ok (.int k (min a b)) w := by
      simp only [Builtin.min2, Sem.run_pure, Result.ok.injEq, Value.int.injEq, true_and, and_true]
      split <;> omega
    simp only [List.foldlM_cons, Sem.run_bind, this, Result.andThen_ok, h1]
  | [], _ :: _, _, _, hl, _, _, _ => by simp at hl
  | _ :: _, [], _, _, hl, _, _, _ => by simp at hl

theorem maxL_rep {k : IntKind} : ∀ (xs : List V) (vs : List Value) (a : Int) {y : V}, vs.length = xs.length → (∀ j, j < xs.length → Rep m g (vs.getD j undef) (xs.getD j .u)) → maxL k a xs = some y → ∀ (w : World),
    ∃ v', (vs.foldlM Builtin.max2 (.int k a)).run P w = .ok v' w ∧ Rep m g v' y
  | [], [], a, y, _, _, h, w => by simp [maxL] at h; subst h; exact ⟨_, rfl, .n _ _⟩
  | x :: xs, v :: vs, a, y, hl, hr, h, w => by
    have h0 := hr 0 (by simp)
    cases x <;> simp only [maxL] at h <;> try (simp at h; done)
    rename_i k' b
    obtain rfl : v = .int k' b := rep_int h0
    obtain ⟨v', h1, h2⟩ := maxL_rep xs vs (max a b) (by simpa using hl) (fun j hj => hr (j + 1) (by simp; omega)) h w
    refine ⟨v', ?_, h2⟩
    have : (Builtin.max2 (.int k a) (.int k' b)).run P w = .ok (.int k (max a b)) w := by
      simp only [Builtin.max2, Sem.run_pure, Result.ok.injEq, Value.int.injEq, true_and, and_true]
      split <;> omega
    simp only [List.foldlM_cons, Sem.run_bind, this, Result.andThen_ok, h1]
  | [], _ :: _, _, _, hl, _, _, _ => by simp at hl
  | _ :: _, [], _, _, hl, _, _, _ => by simp at hl

/-! What is built. -/

theorem splice_length : ∀ (vs : List V) (cs : List V) (off : Nat), (splice cs off vs).length = cs.length
  | [], _, _ => rfl
  | v :: vs, cs, off => by rw [splice, splice_length]; simp

theorem RepC.set {vs : Array Value} {cs : List V} (h : RepC m g vs cs) (i : Nat) {v : Value} {x : V} (hv : Rep m g v x) (h1 : v.oneCell' = true) : RepC m g (vs.setIfInBounds i v) (cs.set i x) := by
  refine ⟨h.1.set i hv, fun j hj => ?_⟩
  have hl : j < cs.length := by simpa using hj
  by_cases hi : i < vs.size
  · rw [getD_setA _ _ _ _ _ hi]
    by_cases e : j = i
    · rw [if_pos e]; exact h1
    · rw [if_neg e]; exact h.2 j hl
  · have : vs.setIfInBounds i v = vs := Array.setIfInBounds_eq_of_size_le (Nat.le_of_not_lt hi)
    rw [this]; exact h.2 j hl

/-- Cells that are laid one behind the other. -/
theorem splice_rep : ∀ (ws : List Value) (xs : List V) (k off : Nat) {vs : Array Value} {cs : List V}, RepC m g vs cs → ws.length = xs.length →
    (∀ j, j < xs.length → Rep m g (ws.getD j undef) (xs.getD j .u) ∧ (ws.getD j undef).oneCell' = true) →
    RepC m g ((ws.zipIdx k).foldl (fun cs (p : Value × Nat) => cs.setIfInBounds (off + p.2) p.1) vs) (splice cs (off + k) xs)
  | [], [], _, _, _, _, h, _, _ => h
  | w :: ws, x :: xs, k, off, vs, cs, h, hl, hr => by
    have h0 := hr 0 (by simp)
    simp only [List.zipIdx_cons, List.foldl_cons, splice]
    exact splice_rep ws xs (k + 1) off (h.set (off + k) h0.1 h0.2) (by simpa using hl) (fun j hj => hr (j + 1) (by simp; omega))
  | [], _ :: _, _, _, _, _, _, hl, _ => by simp at hl
  | _ :: _, [], _, _, _, _, _, hl, _ => by simp at hl

theorem fill_rep {place : Nat → Option (Nat × Nat)} : ∀ (ps : List (Nat × Value)) (xs : List (Nat × Nat × V)) {vs : Array Value} {cs : List V} {y : V}, RepC m g vs cs → ps.length = xs.length →
    (∀ (j : Nat) (p : Nat × Value) (x : Nat × Nat × V), ps[j]? = some p → xs[j]? = some x → place p.1 = some (x.1, x.2.1) ∧ Rep m g p.2 x.2.2) → buildV cs xs = some y →
    ∃ vs' cs', Instr.fill place vs ps = some vs' ∧ RepC m g vs' cs' ∧ y = .agg cs' ∧ cs'.length = cs.length
  | [], [], vs, cs, y, h, _, _, hy => by simp [buildV] at hy; subst hy; exact ⟨vs, cs, rfl, h, rfl, rfl⟩
  | p :: ps, x :: xs, vs, cs, y, h, hl, hr, hy => by
    obtain ⟨hp, hv⟩ := hr 0 p x rfl rfl
    obtain ⟨off, sz, xv⟩ := x
    simp only [buildV] at hy
    split at hy <;> try (simp at hy; done)
    rename_i ws hws
    split at hy <;> try (simp at hy; done)
    rename_i hcond
    obtain ⟨h1, h2⟩ := hcond
    obtain ⟨hc, _⟩ := rep_cells hv hws
    have hsz : p.2.cells.size = sz := by rw [hc.1.1, h1]
    have hz : ¬ (p.2.cells.size ≠ sz || off + p.2.cells.size > vs.size) = true := by
      simp [hsz]; rw [h.1.1]; omega
    have hrep : RepC m g (p.2.cells.zipIdx.foldl (fun cs (q : Value × Nat) => cs.setIfInBounds (off + q.2) q.1) vs) (splice cs off ws) := by
      have := splice_rep p.2.cells.toList ws 0 off h (by simpa using hc.1.1) (fun j hj => by
        have e1 := hc.1.2 j hj
        have e2 := hc.2 j hj
        simp only [Array.getD_eq_getD_getElem?, List.getD, Array.getElem?_toList] at e1 e2 ⊢
        exact ⟨e1, e2⟩)
      have e : p.2.cells.zipIdx.foldl (fun cs (q : Value × Nat) => cs.setIfInBounds (off + q.2) q.1) vs = p.2.cells.toList.zipIdx.foldl (fun cs (q : Value × Nat) => cs.setIfInBounds (off + q.2) q.1) vs := by
        rw [← Array.foldl_toList, Array.toList_zipIdx]
      rw [e]
      simpa using this
    obtain ⟨vs', cs', f1, f2, f3, f4⟩ := fill_rep ps xs hrep (by simpa using hl) (fun j p' x' hp' hx' => hr (j + 1) p' x' (by simpa using hp') (by simpa using hx')) hy
    refine ⟨vs', cs', ?_, f2, f3, by rw [f4, splice_length]⟩
    obtain ⟨pi, pv⟩ := p
    simp only [Instr.fill, hp]
    rw [if_neg hz]
    exact f1
  | [], _ :: _, _, _, _, _, hl, _, _ => by simp at hl
  | _ :: _, [], _, _, _, _, hl, _, _ => by simp at hl

theorem run_mapM {α β : Type} (f : α → Sem β) (h : α → β) (w : World) : ∀ (xs : List α), (∀ x ∈ xs, (f x).run P w = .ok (h x) w) → (xs.mapM f).run P w = .ok (xs.map h) w
  | [], _ => by simp
  | x :: xs, hx => by
    have := run_mapM f h w xs (fun y hy => hx y (by simp [hy]))
    simp [hx x (by simp), this]

theorem run_mapMA {α β : Type} (f : α → Sem β) (h : α → β) (w : World) (xs : Array α) (hx : ∀ x ∈ xs, (f x).run P w = .ok (h x) w) : (xs.mapM f).run P w = .ok (xs.map h) w := by
  obtain ⟨l⟩ := xs
  have := run_mapM f h w l (fun x hm => hx x (by simpa using hm))
  simp [this]

end Go.Ab
/-
  How the relation between states and worlds is kept: a block more, a store, a slice that grows in place, a draw.
-/
namespace Go.Ab
open Go.RowKit

variable {m : Nat → FuncId} {g : G} {P : Program} {σ : St} {w : World}

theorem below_row {B b : Nat} {w0 w : World} (hb : Below B w0 w) (hBg : B ≤ b) (cs : Array Value) : Below B w0 (w.setRow b cs) :=
  hb.trans ⟨rfl, rfl, rfl, by simp, fun k hk => setRow_other _ _ _ _ (by omega)⟩
theorem ha_old (w : World) (o : Obj) (k : Nat) (h : k < w.heap.size) : (w.alloc o).heap[k]? = w.heap[k]? := Below.heap_alloc w o k h
theorem ha_new (w : World) (o : Obj) : (w.alloc o).heap[w.heap.size]? = some o := by
  show (w.heap.push o)[w.heap.size]? = _
  simp
theorem lt_of_cell {w : World} {b o : Nat} {v : Value} (h : w.cell? ⟨b, o, none⟩ = some v) : b < w.heap.size := by
  unfold World.cell? at h
  split at h
  · rename_i hh; exact (Array.getElem?_eq_some_iff.1 hh).1
  · simp at h
theorem cell_old (w : World) (ob : Obj) {b o : Nat} (h : b < w.heap.size) : (w.alloc ob).cell? ⟨b, o, none⟩ = w.cell? ⟨b, o, none⟩ := by
  unfold World.cell?
  simp only [ha_old w ob b h]

theorem Rel.drew (hR : Rel m g σ w) : Rel m g σ w.drew :=
  ⟨hR.below.drew, hR.imm, hR.objs, hR.inj, hR.fresh⟩

theorem Rel.base_le (hR : Rel m g σ w) : g.base.heap.size ≤ w.heap.size := hR.below.size

theorem lt_of_heap {w : World} {b : Nat} {o : Obj} (h : w.heap[b]? = some o) : b < w.heap.size := (Array.getElem?_eq_some_iff.1 h).1

theorem Rel.imm_lt (hR : Rel m g σ w) {b o : Nat} {v : Value} (h : g.imm b o = some v) : b < w.heap.size := by
  exact lt_of_cell (hR.imm b o v h)

theorem home_obj {l b : Nat} {cs : List V} (hl : σ[l]? = some (.obj cs)) (hb : g.blk l = some b) : home g σ l = some b := by simp [home, hl, hb]
theorem home_room {l b fr sz : Nat} (hl : σ[l]? = some .room) (hb : g.tok l = some (b, fr, sz)) : home g σ l = some b := by simp [home, hl, hb]

theorem Rel.home_lt (hR : Rel m g σ w) {l b : Nat} (h : home g σ l = some b) : b < w.heap.size ∧ g.base.heap.size ≤ b := by
  unfold home at h
  split at h
  · rename_i cs hl
    obtain ⟨b', vals, T, h1, h2, h3, _⟩ := hR.objs l _ hl
    rw [h1] at h; cases h
    exact ⟨lt_of_heap h3, h2⟩
  · rename_i hl
    obtain ⟨b', fr, sz, vals, T, h1, h2, h3, _⟩ := hR.objs l _ hl
    rw [h1] at h; cases h
    exact ⟨lt_of_heap h3, h2⟩
  · simp at h

/-- What is known of an object: it may be forgotten. -/
theorem Rel.kill (hR : Rel m g σ w) (l : Nat) : Rel m g (σ.set l .dead) w := by
  have hhome : ∀ i b, home g (σ.set l .dead) i = some b → home g σ i = some b := fun i b h => by
    by_cases e : l = i
    · subst e
      unfold home at h
      rw [List.getElem?_set_self'] at h
      cases hs : σ[l]? <;> simp [hs] at h
    · unfold home at h ⊢
      rw [List.getElem?_set_ne e] at h
      exact h
  refine ⟨hR.below, hR.imm, fun i ob hi => ?_, fun i j b h1 h2 => hR.inj i j b (hhome _ _ h1) (hhome _ _ h2), fun i hi => hR.fresh i (by simpa using hi)⟩
  by_cases e : l = i
  · subst e
    rw [List.getElem?_set_self'] at hi
    cases hs : σ[l]? <;> simp [hs] at hi
    subst hi; trivial
  · rw [List.getElem?_set_ne e] at hi
    exact hR.objs i ob hi

theorem ObjOk.alloc {g' : G} (hg : G.le g g') (hi : ∀ b o, b < w.heap.size → g'.imm b o = g.imm b o) {l : Nat} {ob : Ob} (h : ObjOk m g w l ob) (o : Obj) : ObjOk m g' (w.alloc o) l ob := by
  cases ob with
  | obj cells =>
    obtain ⟨b, vals, T, h1, h2, h3, h4, h5⟩ := h
    have hb := lt_of_heap h3
    exact ⟨b, vals, T, hg.blk _ _ h1, by rw [hg.base]; exact h2, by rw [ha_old _ _ _ hb]; exact h3, h4.mono hg, fun o => by rw [hi b o hb]; exact h5 o⟩
  | room =>
    obtain ⟨b, fr, sz, vals, T, h1, h2, h3, h4, h5⟩ := h
    have hb := lt_of_heap h3
    exact ⟨b, fr, sz, vals, T, hg.tok _ _ h1, by rw [hg.base]; exact h2, by rw [ha_old _ _ _ hb]; exact h3, h4, fun o ho => by rw [hi b o hb]; exact h5 o ho⟩
  | dead => trivial

theorem imm_alloc (hR : Rel m g σ w) {b o : Nat} {v : Value} (h : g.imm b o = some v) (ob : Obj) : (w.alloc ob).cell? ⟨b, o, none⟩ = some v := by
  rw [cell_old _ _ (hR.imm_lt h)]; exact hR.imm _ _ _ h

theorem home_mono {g' : G} (hb : ∀ l, l < σ.length → g'.blk l = g.blk l) (ht : ∀ l, l < σ.length → g'.tok l = g.tok l) (x : Ob) {l : Nat} (hl : l < σ.length) : home g' (σ ++ [x]) l = home g σ l := by
  unfold home
  rw [List.getElem?_append_left hl, hb l hl, ht l hl]

theorem home_none {l : Nat} (hl : σ.length ≤ l) : home g σ l = none := by
  unfold home; rw [List.getElem?_eq_none hl]

/-- A new mutable object. -/
theorem Rel.obj (hR : Rel m g σ w) {vals : Array Value} {cells : List V} (hc : RepC m g vals cells) (T : TypeId) :
    ∃ g', G.le g g' ∧ Rel m g' (σ ++ [.obj cells]) (w.alloc (.cells vals T)) ∧ g'.blk σ.length = some w.heap.size := by
  have hle : G.le g { g with blk := fun l => if l = σ.length then some w.heap.size else g.blk l } := by
    refine ⟨rfl, fun _ _ _ h => h, fun l b h => ?_, fun _ _ h => h⟩
    by_cases e : l = σ.length
    · subst e; rw [(hR.fresh _ (Nat.le_refl _)).1] at h; simp at h
    · simp [e, h]
  refine ⟨_, hle, ?_, by simp⟩
  have hm : ∀ l, l < σ.length → home { g with blk := fun l => if l = σ.length then some w.heap.size else g.blk l } (σ ++ [.obj cells]) l = home g σ l := fun l hl =>
    home_mono (g := g) (g' := { g with blk := fun l => if l = σ.length then some w.heap.size else g.blk l }) (fun i hi => by simp [Nat.ne_of_lt hi]) (fun _ _ => rfl) _ hl
  have hlast : home { g with blk := fun l => if l = σ.length then some w.heap.size else g.blk l } (σ ++ [.obj cells]) σ.length = some w.heap.size := by simp [home]
  refine ⟨hR.below.alloc hR.base_le _, fun b o v h => imm_alloc hR h _, fun l ob hl => ?_, fun l l' b h1 h2 => ?_, fun l hl => ?_⟩
  · by_cases e : l < σ.length
    · rw [List.getElem?_append_left e] at hl
      exact (hR.objs l ob hl).alloc hle (fun _ _ _ => rfl) _
    · have e' : l = σ.length := by
        have := (List.getElem?_eq_some_iff.1 hl).1
        simp at this; omega
      subst e'
      simp at hl
      subst hl
      refine ⟨w.heap.size, vals, T, by simp, hR.base_le, ha_new _ _, hc.mono hle, fun o => ?_⟩
      cases h : g.imm w.heap.size o with
      | none => rfl
      | some v => exact absurd (hR.imm_lt h) (Nat.lt_irrefl _)
  · by_cases e : l < σ.length <;> by_cases e' : l' < σ.length
    · rw [hm l e] at h1; rw [hm l' e'] at h2; exact hR.inj _ _ _ h1 h2
    · by_cases e2 : l' = σ.length
      · subst e2; rw [hlast] at h2; rw [hm l e] at h1; cases h2
        exact absurd (hR.home_lt h1).1 (Nat.lt_irrefl _)
      · rw [home_none (by simp; omega)] at h2; simp at h2
    · by_cases e2 : l = σ.length
      · subst e2; rw [hlast] at h1; rw [hm l' e'] at h2; cases h1
        exact absurd (hR.home_lt h2).1 (Nat.lt_irrefl _)
      · rw [home_none (by simp; omega)] at h1; simp at h1
    · by_cases e2 : l = σ.length <;> by_cases e3 : l' = σ.length
      · rw [e2, e3]
      · rw [home_none (by simp; omega)] at h2; simp at h2
      · rw [home_none (by simp; omega)] at h1; simp at h1
      · rw [home_none (by simp; omega)] at h2; simp at h2
  · have := hR.fresh l (by simp at hl; omega)
    have hne : l ≠ σ.length := by simp at hl; omega
    exact ⟨by simp [hne, this.1], this.2⟩

/-- A new block that never changes. -/
theorem Rel.new (hR : Rel m g σ w) (vals : Array Value) (T : TypeId) :
    ∃ g', G.le g g' ∧ Rel m g' σ (w.alloc (.cells vals T)) ∧ (∀ o, g'.imm w.heap.size o = vals[o]?) := by
  have hle : G.le g { g with imm := fun b o => if b = w.heap.size then vals[o]? else g.imm b o } := by
    refine ⟨rfl, fun b o v h => ?_, fun _ _ h => h, fun _ _ h => h⟩
    have := hR.imm_lt h
    simp [Nat.ne_of_lt this, h]
  refine ⟨_, hle, ?_, by simp⟩
  refine ⟨hR.below.alloc hR.base_le _, fun b o v h => ?_, fun l ob hl => ?_, hR.inj, hR.fresh⟩
  · by_cases e : b = w.heap.size
    · subst e
      simp only [if_true] at h
      rw [cell_obj (ha_new _ _)]; exact h
    · simp only [e, if_false] at h
      exact imm_alloc hR h _
  · exact (hR.objs l ob hl).alloc hle (fun b o hb => by simp [Nat.ne_of_lt hb]) _

/-- A new block, with room behind its first cells. -/
theorem Rel.room (hR : Rel m g σ w) (vals : Array Value) (T : TypeId) (fr : Nat) :
    ∃ g', G.le g g' ∧ Rel m g' (σ ++ [.room]) (w.alloc (.cells vals T)) ∧ (∀ o, o < fr → g'.imm w.heap.size o = vals[o]?) ∧ g'.tok σ.length = some (w.heap.size, fr, vals.size) := by
  have hle : G.le g { g with imm := fun b o => if b = w.heap.size then (if o < fr then vals[o]? else none) else g.imm b o, tok := fun l => if l = σ.length then some (w.heap.size, fr, vals.size) else g.tok l } := by
    refine ⟨rfl, fun b o v h => ?_, fun _ _ h => h, fun l b h => ?_⟩
    · have := hR.imm_lt h
      simp [Nat.ne_of_lt this, h]
    · by_cases e : l = σ.length
      · subst e; rw [(hR.fresh _ (Nat.le_refl _)).2] at h; simp at h
      · simp [e, h]
  refine ⟨_, hle, ?_, fun o ho => by simp [ho], by simp⟩
  have hm : ∀ l, l < σ.length → home { g with imm := fun b o => if b = w.heap.size then (if o < fr then vals[o]? else none) else g.imm b o, tok := fun l => if l = σ.length then some (w.heap.size, fr, vals.size) else g.tok l } (σ ++ [.room]) l = home g σ l := fun l hl =>
    home_mono (g := g) (g' := { g with imm := fun b o => if b = w.heap.size then (if o < fr then vals[o]? else none) else g.imm b o, tok := fun l => if l = σ.length then some (w.heap.size, fr, vals.size) else g.tok l }) (fun _ _ => rfl) (fun i hi => by simp [Nat.ne_of_lt hi]) _ hl
  have hlast : home { g with imm := fun b o => if b = w.heap.size then (if o < fr then vals[o]? else none) else g.imm b o, tok := fun l => if l = σ.length then some (w.heap.size, fr, vals.size) else g.tok l } (σ ++ [.room]) σ.length = some w.heap.size := by simp [home]
  refine ⟨hR.below.alloc hR.base_le _, fun b o v h => ?_, fun l ob hl => ?_, fun l l' b h1 h2 => ?_, fun l hl => ?_⟩
  · by_cases e : b = w.heap.size
    · subst e
      simp only [if_true] at h
      rw [cell_obj (ha_new _ _)]
      split at h
      · exact h
      · simp at h
    · simp only [e, if_false] at h
      exact imm_alloc hR h _
  · by_cases e : l < σ.length
    · rw [List.getElem?_append_left e] at hl
      exact (hR.objs l ob hl).alloc hle (fun b o hb => by simp [Nat.ne_of_lt hb]) _
    · have e' : l = σ.length := by
        have := (List.getElem?_eq_some_iff.1 hl).1
        simp at this; omega
      subst e'
      simp at hl
      subst hl
      exact ⟨w.heap.size, fr, vals.size, vals, T, by simp, hR.base_le, ha_new _ _, rfl, fun o ho => by simp [Nat.not_lt.2 ho]⟩
  · by_cases e : l < σ.length <;> by_cases e' : l' < σ.length
    · rw [hm l e] at h1; rw [hm l' e'] at h2; exact hR.inj _ _ _ h1 h2
    · by_cases e2 : l' = σ.length
      · subst e2; rw [hlast] at h2; rw [hm l e] at h1; cases h2
        exact absurd (hR.home_lt h1).1 (Nat.lt_irrefl _)
      · rw [home_none (by simp; omega)] at h2; simp at h2
    · by_cases e2 : l = σ.length
      · subst e2; rw [hlast] at h1; rw [hm l' e'] at h2; cases h1
        exact absurd (hR.home_lt h2).1 (Nat.lt_irrefl _)
      · rw [home_none (by simp; omega)] at h1; simp at h1
    · by_cases e2 : l = σ.length <;> by_cases e3 : l' = σ.length
      · rw [e2, e3]
      · rw [home_none (by simp; omega)] at h2; simp at h2
      · rw [home_none (by simp; omega)] at h1; simp at h1
      · rw [home_none (by simp; omega)] at h2; simp at h2
  · have := hR.fresh l (by simp at hl; omega)
    have hne : l ≠ σ.length := by simp at hl; omega
    exact ⟨this.1, by simp [hne, this.2]⟩

theorem ObjOk.setRow {g' : G} (hg : G.le g g') {b : Nat} {cs : Array Value} (hi : ∀ b' o, b' ≠ b → g'.imm b' o = g.imm b' o) {l : Nat} {ob : Ob} (h : ObjOk m g w l ob)
    (hne : ∀ b', home g σ l = some b' → b' ≠ b) (hl : σ[l]? = some ob) : ObjOk m g' (w.setRow b cs) l ob := by
  cases ob with
  | obj cells =>
    obtain ⟨b', vals, T, h1, h2, h3, h4, h5⟩ := h
    have hb := hne b' (home_obj hl h1)
    exact ⟨b', vals, T, hg.blk _ _ h1, by rw [hg.base]; exact h2, by rw [setRow_other _ _ _ _ hb]; exact h3, h4.mono hg, fun o => by rw [hi b' o hb]; exact h5 o⟩
  | room =>
    obtain ⟨b', fr, sz, vals, T, h1, h2, h3, h4, h5⟩ := h
    have hb := hne b' (home_room hl h1)
    exact ⟨b', fr, sz, vals, T, hg.tok _ _ h1, by rw [hg.base]; exact h2, by rw [setRow_other _ _ _ _ hb]; exact h3, h4, fun o ho => by rw [hi b' o hb]; exact h5 o ho⟩
  | dead => trivial

/-- A store into an object. -/
theorem Rel.store (hR : Rel m g σ w) {l b : Nat} {cs cs' : List V} {vals vals' : Array Value} {T : TypeId} (hl : σ[l]? = some (.obj cs)) (hb : g.blk l = some b)
    (hh : w.heap[b]? = some (.cells vals T (0, 0))) (hi : ∀ o, g.imm b o = none) (hc : RepC m g vals' cs') : Rel m g (σ.set l (.obj cs')) (w.setRow b vals') := by
  have hlt : l < σ.length := (List.getElem?_eq_some_iff.1 hl).1
  have hhome : ∀ i, home g (σ.set l (.obj cs')) i = home g σ i := fun i => by
    by_cases e : l = i
    · subst e; unfold home; rw [List.getElem?_set_self hlt, hl]
    · unfold home; rw [List.getElem?_set_ne e]
  have hb0 := (hR.home_lt (home_obj hl hb))
  refine ⟨below_row hR.below hb0.2 _, fun b' o v h => ?_, fun i ob hi' => ?_, fun i j b h1 h2 => by rw [hhome] at h1 h2; exact hR.inj i j b h1 h2, fun i hi' => hR.fresh i (by simpa using hi')⟩
  · have hne : b' ≠ b := by rintro rfl; rw [hi] at h; simp at h
    rw [cell_setRow_other _ _ _ _ hne]; exact hR.imm _ _ _ h
  · by_cases e : l = i
    · subst e
      rw [List.getElem?_set_self hlt] at hi'
      cases hi'
      exact ⟨b, vals', T, hb, hb0.2, setRow_heap _ _ _ _ _ _ hh, hc, hi⟩
    · rw [List.getElem?_set_ne e] at hi'
      exact (hR.objs i ob hi').setRow (σ := σ) (G.le.refl g) (fun _ _ _ => rfl) (fun b' h' hbb => by subst hbb; exact e (hR.inj _ _ _ (home_obj hl hb) h')) hi'

/-- A slice grows in place. -/
theorem Rel.grow (hR : Rel m g σ w) {t b fr sz : Nat} (ht : σ[t]? = some .room) (hg : g.tok t = some (b, fr, sz)) (ws : List Value) (hfit : fr + ws.length ≤ sz) :
    ∃ vals T g', w.heap[b]? = some (.cells vals T (0, 0)) ∧ vals.size = sz ∧ G.le g g' ∧
      Rel m g' (σ.set t .dead ++ [.room]) (w.setRow b (vals.toList.take fr ++ ws ++ vals.toList.drop (fr + ws.length)).toArray) ∧
      (∀ j, j < ws.length → g'.imm b (fr + j) = ws[j]?) ∧ g'.tok σ.length = some (b, fr + ws.length, sz) := by
  obtain ⟨b1, fr1, sz1, vals, T, h1, h2, h3, h4, h5⟩ := hR.objs t _ ht
  rw [hg] at h1; cases h1
  have hlt : t < σ.length := (List.getElem?_eq_some_iff.1 ht).1
  have hle : G.le g { g with imm := fun b' o => if b' = b ∧ fr ≤ o then (if o < fr + ws.length then ws[o - fr]? else none) else g.imm b' o, tok := fun l => if l = σ.length then some (b, fr + ws.length, sz) else g.tok l } := by
    refine ⟨rfl, fun b' o v h => ?_, fun _ _ h => h, fun l b h => ?_⟩
    · have : ¬ (b' = b ∧ fr ≤ o) := by rintro ⟨rfl, ho⟩; rw [h5 o ho] at h; simp at h
      simp [this, h]
    · by_cases e : l = σ.length
      · subst e; rw [(hR.fresh _ (Nat.le_refl _)).2] at h; simp at h
      · simp [e, h]
  refine ⟨vals, T, _, h3, h4, hle, ?_, fun j hj => by simp [hj], by simp⟩
  have hlen : (σ.set t .dead).length = σ.length := by simp
  have hhome : ∀ i, i < σ.length → i ≠ t → home { g with imm := fun b' o => if b' = b ∧ fr ≤ o then (if o < fr + ws.length then ws[o - fr]? else none) else g.imm b' o, tok := fun l => if l = σ.length then some (b, fr + ws.length, sz) else g.tok l } (σ.set t .dead ++ [.room]) i = home g σ i := fun i hi hne => by
    unfold home
    rw [List.getElem?_append_left (by simpa using hi), List.getElem?_set_ne (Ne.symm hne)]
    simp [Nat.ne_of_lt hi]
  have hdead : ∀ i, i = t → home { g with imm := fun b' o => if b' = b ∧ fr ≤ o then (if o < fr + ws.length then ws[o - fr]? else none) else g.imm b' o, tok := fun l => if l = σ.length then some (b, fr + ws.length, sz) else g.tok l } (σ.set t .dead ++ [.room]) i = none := fun i hi => by
    subst hi
    unfold home
    rw [List.getElem?_append_left (by simpa using hlt), List.getElem?_set_self hlt]
  have hlast : home { g with imm := fun b' o => if b' = b ∧ fr ≤ o then (if o < fr + ws.length then ws[o - fr]? else none) else g.imm b' o, tok := fun l => if l = σ.length then some (b, fr + ws.length, sz) else g.tok l } (σ.set t .dead ++ [.room]) σ.length = some b := by
    unfold home
    rw [List.getElem?_append_right (by simp)]; simp
  have hold : ∀ i, home { g with imm := fun b' o => if b' = b ∧ fr ≤ o then (if o < fr + ws.length then ws[o - fr]? else none) else g.imm b' o, tok := fun l => if l = σ.length then some (b, fr + ws.length, sz) else g.tok l } (σ.set t .dead ++ [.room]) i = some b → i = σ.length := fun i hi => by
    by_cases e : i < σ.length
    · by_cases e2 : i = t
      · rw [hdead i e2] at hi; simp at hi
      · rw [hhome i e e2] at hi
        exact absurd (hR.inj _ _ _ hi (home_room ht hg)) e2
    · by_cases e3 : i = σ.length
      · exact e3
      · rw [home_none (by simp; omega)] at hi; simp at hi
  refine ⟨below_row hR.below h2 _, fun b' o v h => ?_, fun i ob hi => ?_, fun i j b' p1 p2 => ?_, fun i hi => ?_⟩
  · by_cases e : b' = b
    · subst e
      have hrow := cell_setRow_same w b' o _ ((vals.toList.take fr ++ ws ++ vals.toList.drop (fr + ws.length)).toArray) _ _ h3
      rw [hrow]
      have hfr : (vals.toList.take fr).length = fr := by simp; omega
      by_cases ho : fr ≤ o
      · simp only [ho, and_self, if_true] at h
        split at h
        · rename_i ho2
          rw [← h]
          simp only [List.getElem?_toArray]
          rw [List.append_assoc, List.getElem?_append_right (by omega), hfr, List.getElem?_append_left (by omega)]
        · simp at h
      · simp only [ho, and_false, if_false] at h
        have := hR.imm _ _ _ h
        rw [cell_obj h3] at this
        rw [← this]
        simp only [List.getElem?_toArray]
        rw [List.append_assoc, List.getElem?_append_left (by omega), List.getElem?_take_of_lt (by omega)]
        simp
    · simp only [e, false_and, if_false] at h
      rw [cell_setRow_other _ _ _ _ e]; exact hR.imm _ _ _ h
  · by_cases e : i < σ.length
    · rw [List.getElem?_append_left (by simpa using e)] at hi
      by_cases e2 : t = i
      · subst e2
        rw [List.getElem?_set_self hlt] at hi
        cases hi; trivial
      · rw [List.getElem?_set_ne e2] at hi
        exact (hR.objs i ob hi).setRow (σ := σ) hle (fun b' o hb' => by simp [hb']) (fun b' h' hbb => by subst hbb; exact e2 (hR.inj _ _ _ (home_room ht hg) h')) hi
    · have e' : i = σ.length := by
        have := (List.getElem?_eq_some_iff.1 hi).1
        simp at this; omega
      subst e'
      rw [List.getElem?_append_right (by simp)] at hi
      simp at hi
      subst hi
      refine ⟨b, fr + ws.length, sz, _, T, by simp, h2, setRow_heap _ _ _ _ _ _ h3, ?_, fun o ho => ?_⟩
      · simp; omega
      · have : ¬ o < fr + ws.length := by omega
        simp [this, show fr ≤ o by omega]
  · by_cases q : b' = b
    · subst q; rw [hold i p1, hold j p2]
    · by_cases e : i < σ.length <;> by_cases e' : j < σ.length
      · by_cases e2 : i = t
        · rw [hdead i e2] at p1; simp at p1
        · by_cases e3 : j = t
          · rw [hdead j e3] at p2; simp at p2
          · rw [hhome i e e2] at p1; rw [hhome j e' e3] at p2; exact hR.inj _ _ _ p1 p2
      · by_cases e3 : j = σ.length
        · subst e3; rw [hlast] at p2; cases p2; exact absurd rfl q
        · rw [home_none (by simp; omega)] at p2; simp at p2
      · by_cases e3 : i = σ.length
        · subst e3; rw [hlast] at p1; cases p1; exact absurd rfl q
        · rw [home_none (by simp; omega)] at p1; simp at p1
      · by_cases e3 : i = σ.length <;> by_cases e4 : j = σ.length
        · rw [e3, e4]
        · rw [home_none (by simp; omega)] at p2; simp at p2
        · rw [home_none (by simp; omega)] at p1; simp at p1
        · rw [home_none (by simp; omega)] at p2; simp at p2
  · have := hR.fresh i (by simp at hi; omega)
    have hne : i ≠ σ.length := by simp at hi; omega
    exact ⟨this.1, by simp [hne, this.2]⟩

/-- An object that never changes again. -/
theorem Rel.hold (hR : Rel m g σ w) {l b : Nat} {cs : List V} (hl : σ[l]? = some (.obj cs)) (hb : g.blk l = some b) :
    ∃ vals g', RepC m g vals cs ∧ G.le g g' ∧ Rel m g' (σ.set l .dead) w ∧ (∀ o, g'.imm b o = vals[o]?) := by
  obtain ⟨b', vals, T, h1, h2, h3, h4, h5⟩ := hR.objs l _ hl
  rw [hb] at h1; cases h1
  have hle : G.le g { g with imm := fun b' o => if b' = b then vals[o]? else g.imm b' o } := by
    refine ⟨rfl, fun b' o v h => ?_, fun _ _ h => h, fun _ _ h => h⟩
    have : b' ≠ b := by rintro rfl; rw [h5] at h; simp at h
    simp [this, h]
  refine ⟨vals, _, h4, hle, ?_, by simp⟩
  have hK := hR.kill l
  refine ⟨hK.below, fun b' o v h => ?_, fun i ob hi => ?_, hK.inj, hK.fresh⟩
  · by_cases e : b' = b
    · subst e
      simp only [if_true] at h
      rw [cell_obj h3]; exact h
    · simp only [e, if_false] at h
      exact hR.imm _ _ _ h
  · have hne : i ≠ l ∨ ob = .dead := by
      by_cases e : l = i
      · subst e
        rw [List.getElem?_set_self (List.getElem?_eq_some_iff.1 hl).1] at hi
        cases hi; exact .inr rfl
      · exact .inl (Ne.symm e)
    rcases hne with hne | rfl
    · rw [List.getElem?_set_ne (Ne.symm hne)] at hi
      have hbne : ∀ b', home g σ i = some b' → b' ≠ b := fun b' h' hbb => by subst hbb; exact hne (hR.inj _ _ _ h' (home_obj hl hb))
      have := hR.objs i ob hi
      cases ob with
      | obj cells =>
        obtain ⟨b', vals', T', k1, k2, k3, k4, k5⟩ := this
        have hb' := hbne b' (home_obj hi k1)
        exact ⟨b', vals', T', k1, k2, k3, k4.mono hle, fun o => by simp [hb', k5 o]⟩
      | room =>
        obtain ⟨b', fr, sz, vals', T', k1, k2, k3, k4, k5⟩ := this
        have hb' := hbne b' (home_room hi k1)
        exact ⟨b', fr, sz, vals', T', k1, k2, k3, k4, fun o ho => by simp [hb', k5 o ho]⟩
      | dead => trivial
    · trivial

end Go.Ab
/-
  The check that an abstract operation is the model's, and that it then stands for it.
-/
namespace Go.Ab
open Go.RowKit

variable {m : Nat → FuncId} {g : G} {P : Program} {σ : St} {w : World}

def chkOs (m : Nat → FuncId) (n : Nat) : List Od → List Operand → Bool
  | [], [] => true
  | x :: xs, y :: ys => chkO m n x y && chkOs m n xs ys
  | _, _ => false

def chkOpt (m : Nat → FuncId) (n : Nat) : Option Od → Option Operand → Bool
  | none, none => true
  | some x, some y => chkO m n x y
  | _, _ => false

def fldOk (P : Program) (t : TypeId) (i off sz : Nat) (ag : Bool) : Bool :=
  match P.underlying t with
  | some (.struct fs) => match fs[i]? with
    | some f => f.offset == off && szIs P f.type sz && agIs P f.type ag
    | none => false
  | _ => false

def zeroOk (P : Program) (m : Nat → FuncId) (t : TypeId) (z : List V) : Bool :=
  match (P.info? t).bind (·.zero) with
  | some v => constOkL m z v.cells.toList
  | none => false

def partsOk (m : Nat → FuncId) (n : Nat) (place : Nat → Nat → Nat → Bool) : List (Nat × Nat × Od) → List (Nat × Operand) → Bool
  | [], [] => true
  | x :: xs, p :: ps => place p.1 x.1 x.2.1 && chkO m n x.2.2 p.2 && partsOk m n place xs ps
  | _, _ => false

def buildOk (P : Program) (m : Nat → FuncId) (n : Nat) (t : TypeId) (ps : List (Nat × Nat × Od)) (qs : List (Nat × Operand)) : Bool :=
  match P.underlying t with
  | some (.struct fs) => fs.toList.all (fun f => (P.info? f.type).isSome) && partsOk m n (fun i off sz => match fs[i]? with | some f => f.offset == off && szIs P f.type sz | none => false) ps qs
  | some (.array _ e) => match (P.info? e).map (·.size) with
    | some s => partsOk m n (fun i off sz => off == i * s && sz == s) ps qs
    | none => false
  | _ => false

def mksOk (m : Nat → FuncId) (n : Nat) : Nat → List Od → List (Nat × Operand) → Bool
  | _, [], [] => true
  | k, x :: xs, p :: ps => p.1 == k && chkO m n x p.2 && mksOk m n (k + 1) xs ps
  | _, _, _ => false

def isStr (P : Program) (t : TypeId) : Bool := match P.underlying t with | some .string => true | _ => false
def isU8 (P : Program) (t : TypeId) : Bool := match P.underlying t with | some (.int .u8) => true | _ => false
def sliceOf (P : Program) (t : TypeId) : Option TypeId := match P.underlying t with | some (.slice e) => some e | _ => none
def arrayOf (P : Program) (t : TypeId) : Option (Nat × TypeId) := match P.underlying t with | some (.array n e) => some (n, e) | _ => none

theorem sliceOf_spec {t e : TypeId} (h : sliceOf P t = some e) : P.underlying t = some (.slice e) := by
  unfold sliceOf at h; split at h <;> simp_all
theorem arrayOf_spec {t e : TypeId} {n : Nat} (h : arrayOf P t = some (n, e)) : P.underlying t = some (.array n e) := by
  unfold arrayOf at h; split at h <;> simp_all
theorem isStr_spec {t : TypeId} (h : isStr P t = true) : P.underlying t = some .string := by
  unfold isStr at h; split at h <;> simp_all
theorem isU8_spec {t : TypeId} (h : isU8 P t = true) : P.underlying t = some (.int .u8) := by
  unfold isU8 at h; split at h <;> simp_all

def chkOp (P : Program) (m : Nat → FuncId) (n : Nat) (o : AOp) (co : Op) : Bool :=
  match o, co with
  | .mv x, .move y => chkO m n x y
  | .mv x, .assign y => chkO m n x y
  | .pick c a b, .pick c' a' b' => chkO m n c c' && chkO m n a a' && chkO m n b b'
  | .bin t op x y, .binOp op' ty x' y' _ => decide (op = op') && chkO m n x x' && chkO m n y y' && chkBk P t ty
  | .un op x, .unOp op' _ x' => decide (op = op') && chkO m n x x'
  | .fld x off sz ag, .field t x' i => chkO m n x x' && fldOk P t i off sz ag
  | .ext x i, .extract x' i' => chkO m n x x' && i == i'
  | .load x sz ag, .load t x' => chkO m n x x' && szIs P t sz && agIs P t ag
  | .store a x sz, .store t a' x' => chkO m n a a' && chkO m n x x' && szIs P t sz
  | .alloc z, .alloc t => zeroOk P m t z
  | .box x, .box _ x' => chkO m n x x'
  | .build z ps, .build t qs => zeroOk P m t z && buildOk P m n t ps qs.toList
  | .mks e xs, .buildSlice t len ps => len == xs.length && (match sliceOf P t with
    | some el => szIs P el e && decide (len * e ≤ 16777216) && (match (P.info? el).bind (·.zero) with
      | some z => z.cells.size == e && z.cells.toList.all (·.oneCell')
      | none => false)
    | none => false) && mksOk m n 0 xs ps.toList
  | .fa x off sz ag, .fieldAddr t x' i => chkO m n x x' && fldOk P t i off sz ag && decide (sz ≠ 0)
  | .ias x i e, .indexAddr t x' i' => chkO m n x x' && chkO m n i i' && (match sliceOf P t with | some el => szIs P el e | none => false)
  | .iaa x i len e, .indexAddr t x' i' => chkO m n x x' && chkO m n i i' && (match arrayOf P t with | some (len', el) => len == len' && szIs P el e | none => false)
  | .ixa x i len e ag, .index t x' i' => chkO m n x x' && chkO m n i i' && (match arrayOf P t with | some (len', el) => len == len' && szIs P el e && agIs P el ag | none => false)
  | .ixs x i, .index t x' i' => chkO m n x x' && chkO m n i i' && isStr P t
  | .slc x lo hi mx e, .slice t x' lo' hi' mx' => chkO m n x x' && chkOpt m n lo lo' && chkOpt m n hi hi' && chkOpt m n mx mx' && (hi.isSome || !mx.isSome) && (match sliceOf P t with | some el => szIs P el e | none => false)
  | .slcs x lo hi, .slice t x' lo' hi' mx' => chkO m n x x' && chkOpt m n lo lo' && chkOpt m n hi hi' && mx'.isNone && isStr P t
  | .slca x len e ag, .slice t x' lo' hi' mx' => chkO m n x x' && lo'.isNone && hi'.isNone && mx'.isNone && (match arrayOf P t with | some (len', el) => len == len' && szIs P el e && agIs P el ag | none => false)
  | .len x, .call { callee := .builtin .len, args := ⟨[x']⟩, argTypes := ⟨[t]⟩ } => chkO m n x x' && (sliceOf P t).isSome
  | .slen x, .call { callee := .builtin .len, args := ⟨[x']⟩, argTypes := ⟨[t]⟩ } => chkO m n x x' && isStr P t
  | .app x y e bytes, .call { callee := .builtin .append, args := ⟨[x', y']⟩, argTypes := ⟨[t, t']⟩ } => chkO m n x x' && chkO m n y y' && (match sliceOf P t with
    | some el => szIs P el e && (P.info? el).map (·.bytes) == some bytes && (match (P.info? el).bind (·.zero) with | some z => z.cells.size == e | none => false) && (sliceOf P t').isSome
    | none => false)
  | .mn xs, .call { callee := .builtin .min, args := ⟨ys⟩, .. } => chkOs m n xs ys
  | .mx xs, .call { callee := .builtin .max, args := ⟨ys⟩, .. } => chkOs m n xs ys
  | .call f xs, .call { callee := .value (.func f'), args := ⟨ys⟩, .. } => m f == f' && chkOs m n xs ys
  | .callv f xs, .call { callee := .value f', args := ⟨ys⟩, .. } => chkO m n f f' && chkOs m n xs ys
  | .mkf f xs ys, .makeFunc (.func f') ⟨xs'⟩ ⟨ys'⟩ => m f == f' && chkOs m n xs xs' && chkOs m n ys ys'
  | .nilchk x, .nilCheck x' => chkO m n x x'
  | .cnv k x, .convert s d x' => chkO m n x x' && (P.underlying s).isSome && (match P.underlying d with | some (.int k') => decide (k = k') | _ => false)
  | .b2s x, .convert s d x' => chkO m n x x' && (match sliceOf P s with | some e => isU8 P e | none => false) && isStr P d
  | .appm x y e bytes, .call { callee := .builtin .append, args := ⟨[x', y']⟩, argTypes := ⟨[t, t']⟩ } => chkO m n x x' && chkO m n y y' && (match sliceOf P t with
    | some el => szIs P el e && (P.info? el).map (·.bytes) == some bytes && (match (P.info? el).bind (·.zero) with | some z => z.cells.size == e && z.cells.toList.all (·.oneCell') | none => false) && (sliceOf P t').isSome
    | none => false)
  | .cpy x y e, .call { callee := .builtin .copy, args := ⟨[x', y']⟩, argTypes := ⟨[t, t']⟩ } => chkO m n x x' && chkO m n y y' && (match sliceOf P t with
    | some el => szIs P el e && (sliceOf P t').isSome
    | none => false)
  | .clr x z, .call { callee := .builtin .clear, args := ⟨[x']⟩, argTypes := ⟨[t]⟩ } => chkO m n x x' && (match sliceOf P t with | some el => zeroOk P m el z | none => false)
  | .cap x, .call { callee := .builtin .cap, args := ⟨[x']⟩, argTypes := ⟨[t]⟩ } => chkO m n x x' && (sliceOf P t).isSome
  | .slcm x lo hi len e, .slice t x' lo' hi' mx' => chkO m n x x' && chkOpt m n lo lo' && chkOpt m n hi hi' && mx'.isNone && (match arrayOf P t with | some (len', el) => len == len' && szIs P el e | none => false)
  | .appz x y z bytes, .call { callee := .builtin .append, args := ⟨[x', y']⟩, argTypes := ⟨[t, t']⟩ } => chkO m n x x' && chkO m n y y' && (match sliceOf P t with
    | some el => zeroOk P m el z && szIs P el z.length && (P.info? el).map (·.bytes) == some bytes && isIntT P t'
    | none => false)
  | _, _ => false

theorem repO_of {n : Nat} {a : Act} {T : Tm} (h : RepT m g n a.tmps T) {x : Option Od} {y : Option Operand} (hc : chkOpt m n x y = true) : RepO m g (y.map a.eval) (x.map (ev T)) := by
  cases x <;> cases y <;> simp [chkOpt] at hc
  · trivial
  · exact rep_ev h hc

theorem repL_of {n : Nat} {a : Act} {T : Tm} (h : RepT m g n a.tmps T) : ∀ {xs : List Od} {ys : List Operand}, chkOs m n xs ys = true →
    (ys.map a.eval).length = (xs.map (ev T)).length ∧ ∀ j, j < (xs.map (ev T)).length → Rep m g ((ys.map a.eval).getD j undef) ((xs.map (ev T)).getD j .u)
  | [], [], _ => ⟨rfl, fun j hj => by simp at hj⟩
  | x :: xs, y :: ys, hc => by
    simp only [chkOs, Bool.and_eq_true] at hc
    obtain ⟨h1, h2⟩ := repL_of h hc.2
    refine ⟨by simpa using h1, fun j hj => ?_⟩
    cases j with
    | zero => exact rep_ev h hc.1
    | succ j => exact h2 j (by simpa using hj)
  | [], _ :: _, hc => by simp [chkOs] at hc
  | _ :: _, [], hc => by simp [chkOs] at hc

theorem repA_of {n : Nat} {a : Act} {T : Tm} (h : RepT m g n a.tmps T) {xs : List Od} {ys : List Operand} (hc : chkOs m n xs ys = true) : RepA m g (ys.map a.eval).toArray (xs.map (ev T)) := by
  obtain ⟨h1, h2⟩ := repL_of h hc
  refine ⟨by simpa using h1, fun j hj => ?_⟩
  have := h2 j hj
  simpa [Array.getD_eq_getD_getElem?, List.getD] using this

theorem zero_rep {t : TypeId} {z : List V} (h : zeroOk P m t z = true) (w : World) : ∃ v, (zeroValue t).run P w = .ok v w ∧ RepC m g v.cells z := by
  unfold zeroOk at h
  split at h
  · rename_i v hv
    obtain ⟨i, hi, hz⟩ := Option.bind_eq_some_iff.1 hv
    refine ⟨v, by simp [zeroValue, typeInfo, hi, hz], ?_⟩
    obtain ⟨h1, h2⟩ := constOkL_rep (g := g) _ _ h
    refine ⟨⟨by simpa using h1, fun j hj => ?_⟩, fun j hj => ?_⟩
    · have := (h2 j hj).1; simpa [Array.getD_eq_getD_getElem?] using this
    · have := (h2 j hj).2; simpa [Array.getD_eq_getD_getElem?] using this
  · simp at h

theorem parts_rep {n : Nat} {a : Act} {T : Tm} (h : RepT m g n a.tmps T) {place : Nat → Nat → Nat → Bool} : ∀ {ps : List (Nat × Nat × Od)} {qs : List (Nat × Operand)}, partsOk m n place ps qs = true →
    (qs.map fun (i, x) => (i, a.eval x)).length = (ps.map fun p => (p.1, p.2.1, ev T p.2.2)).length ∧
    ∀ (j : Nat) (p : Nat × Value) (x : Nat × Nat × V), (qs.map fun (i, x) => (i, a.eval x))[j]? = some p → (ps.map fun p => (p.1, p.2.1, ev T p.2.2))[j]? = some x → place p.1 x.1 x.2.1 = true ∧ Rep m g p.2 x.2.2
  | [], [], _ => ⟨rfl, fun j p x hp => by simp at hp⟩
  | p :: ps, q :: qs, hc => by
    simp only [partsOk, Bool.and_eq_true] at hc
    obtain ⟨h1, h2⟩ := parts_rep h hc.2
    refine ⟨by simpa using h1, fun j p' x' hp hx => ?_⟩
    cases j with
    | zero =>
      simp at hp hx
      subst hp hx
      exact ⟨hc.1.1, rep_ev h hc.1.2⟩
    | succ j => exact h2 j p' x' (by simpa using hp) (by simpa using hx)
  | [], _ :: _, hc => by simp [partsOk] at hc
  | _ :: _, [], hc => by simp [partsOk] at hc

theorem build_rep {n : Nat} {a : Act} {T : Tm} (h : RepT m g n a.tmps T) {t : TypeId} {z : List V} {ps : List (Nat × Nat × Od)} {qs : Array (Nat × Operand)} {y : V}
    (hz : zeroOk P m t z = true) (hb : buildOk P m n t ps qs.toList = true) (hy : buildV z (ps.map fun p => (p.1, p.2.1, ev T p.2.2)) = some y) (w : World) :
    ∃ v', (Instr.build t (qs.map fun (i, x) => (i, a.eval x))).run P w = .ok v' w ∧ Rep m g v' y := by
  obtain ⟨zv, hzr, hzc⟩ := zero_rep (g := g) hz w
  unfold buildOk at hb
  split at hb
  · rename_i fs hu
    simp only [Bool.and_eq_true] at hb
    obtain ⟨p1, p2⟩ := parts_rep h hb.2
    have hmap : (fs.mapM fun f => do pure (f.offset, ← sizeOf f.type) : Sem _).run P w = .ok (fs.map fun f => (f.offset, P.cellsOf f.type)) w := by
      refine run_mapMA _ (fun f => (f.offset, P.cellsOf f.type)) w fs (fun f hf => ?_)
      have := List.all_eq_true.1 hb.1 f (by simpa using hf)
      obtain ⟨i, hi⟩ := Option.isSome_iff_exists.1 this
      simp [sizeOf, typeInfo, hi, Program.cellsOf]
    obtain ⟨vs', cs', f1, f2, rfl, _⟩ := fill_rep (place := fun i => (fs.map fun f => (f.offset, P.cellsOf f.type))[i]?) (qs.toList.map fun (i, x) => (i, a.eval x)) _ hzc p1 (fun j p x hp hx => by
      obtain ⟨q1, q2⟩ := p2 j p x hp hx
      refine ⟨?_, q2⟩
      split at q1
      · rename_i f hf
        simp only [Bool.and_eq_true, beq_iff_eq, szIs] at q1
        simp only [Array.getElem?_map, hf, Option.map_some, q1.1, Program.cellsOf, q1.2, Option.getD_some]
      · simp at q1) hy
    refine ⟨.agg vs', ?_, .agg _ _ f2.1.1 f2.1.2 f2.2⟩
    simp only [Instr.build, Sem.run_bind, hzr, Result.andThen_ok, run_underlying hu, hmap, Array.toList_map]
    rw [f1]
    rfl
  · rename_i k e hu
    split at hb
    · rename_i s hs
      obtain ⟨p1, p2⟩ := parts_rep h hb
      obtain ⟨i, hi, hsz⟩ := Option.map_eq_some_iff.1 hs
      obtain ⟨vs', cs', f1, f2, rfl, _⟩ := fill_rep (place := fun i => some (i * s, s)) (qs.toList.map fun (i, x) => (i, a.eval x)) _ hzc p1 (fun j p x hp hx => by
        obtain ⟨q1, q2⟩ := p2 j p x hp hx
        simp only [Bool.and_eq_true, beq_iff_eq] at q1
        exact ⟨by rw [q1.1, q1.2], q2⟩) hy
      refine ⟨.agg vs', ?_, .agg _ _ f2.1.1 f2.1.2 f2.2⟩
      have hsz' : (sizeOf e).run P w = .ok s w := by simp [sizeOf, typeInfo, hi, hsz]
      simp only [Instr.build, Sem.run_bind, hzr, Result.andThen_ok, run_underlying hu, hsz', Array.toList_map]
      rw [f1]
      rfl
    · simp at hb
  · simp at hb

/-- The values of a slice literal. -/
theorem mks_parts {n : Nat} {a : Act} {T : Tm} (h : RepT m g n a.tmps T) {e : Nat} : ∀ {k : Nat} {xs : List Od} {qs : List (Nat × Operand)}, mksOk m n k xs qs = true →
    partsOk m n (fun i off sz => off == i * e && sz == e) (xs.zipIdx k |>.map fun p => (p.2 * e, e, p.1)) qs = true
  | _, [], [], _ => rfl
  | k, x :: xs, q :: qs, hc => by
    simp only [mksOk, Bool.and_eq_true, beq_iff_eq] at hc
    obtain ⟨⟨h1, h2⟩, h3⟩ := hc
    simp only [List.zipIdx_cons, List.map_cons, partsOk, Bool.and_eq_true]
    refine ⟨⟨by simp [h1], h2⟩, mks_parts h h3⟩
  | _, [], _ :: _, hc => by simp [mksOk] at hc
  | _, _ :: _, [], hc => by simp [mksOk] at hc

theorem splice_app : ∀ (ws A B : List V), ws.length ≤ B.length → splice (A ++ B) A.length ws = A ++ ws ++ B.drop ws.length
  | [], A, B, _ => by simp [splice]
  | x :: ws, A, b :: B, h => by
    have e : (A ++ b :: B).set A.length x = (A ++ [x]) ++ B := by
      rw [List.set_append_right _ _ (Nat.le_refl _)]; simp
    rw [splice, e]
    have := splice_app ws (A ++ [x]) B (by simpa using h)
    rw [show A.length + 1 = (A ++ [x]).length by simp, this]
    simp
  | _ :: _, _, [], h => by simp at h

theorem build_flat {e : Nat} : ∀ (xs : List V) (A : List V) (k : Nat), (∀ x ∈ xs, ∃ cs, x.cells? = some cs ∧ cs.length = e) → A.length = k * e →
    buildV (A ++ List.replicate (xs.length * e) .u) ((xs.zipIdx k).map fun p => (p.2 * e, e, p.1)) = some (.agg (A ++ flat xs))
  | [], A, k, _, _ => by simp [buildV, flat]
  | x :: xs, A, k, h, hA => by
    obtain ⟨cs, h1, h2⟩ := h x (by simp)
    have hcells : x.cells = cs := by
      cases x <;> simp only [V.cells?, V.cells] at h1 ⊢ <;> first | (simp at h1; done) | exact Option.some.inj h1
    simp only [List.zipIdx_cons, List.map_cons, buildV, h1]
    have hl : (x :: xs).length * e = e + xs.length * e := by simp [Nat.succ_mul, Nat.add_comm]
    have hle : k * e + e ≤ (A ++ List.replicate ((x :: xs).length * e) V.u).length := by
      rw [hl, List.length_append, List.length_replicate, hA]; omega
    rw [if_pos ⟨h2, hle⟩, hl, ← hA, splice_app _ _ _ (by rw [List.length_replicate, h2]; omega)]
    have : List.drop cs.length (List.replicate (e + xs.length * e) V.u) = List.replicate (xs.length * e) V.u := by
      rw [List.drop_replicate, h2]; congr 1; omega
    rw [this]
    have := build_flat xs (A ++ cs) (k + 1) (fun y hy => h y (by simp [hy])) (by simp [hA, h2, Nat.succ_mul])
    rw [this, flat_cons, hcells]
    simp

theorem repC_range (f : Nat → Value) (n : Nat) (h : ∀ j, j < n → (f j).oneCell' = true) : RepC m g ((Array.range n).map f) (List.replicate n .u) := by
  refine ⟨⟨by simp, fun j hj => ?_⟩, fun j hj => ?_⟩
  · have : (List.replicate n V.u).getD j .u = .u := by
      have hj' : j < n := by simpa using hj
      simp only [List.getD, List.getElem?_replicate]; rw [if_pos hj']; rfl
    rw [this]; exact .u _
  · have hj' : j < n := by simpa using hj
    simp only [Array.getD_eq_getD_getElem?]
    rw [Array.getElem?_eq_getElem (by simpa using hj')]
    simpa using h j hj'

theorem mksV_rep (hR : Rel m g σ w) {n : Nat} {a : Act} {T : Tm} (h : RepT m g n a.tmps T) {t el : TypeId} {e len : Nat} {xs : List Od} {ps : Array (Nat × Operand)} {y : V} {z : Value} {i : TypeInfo}
    (hy : mksV e (xs.map (ev T)) = some y) (hlen : len = xs.length) (ht : P.underlying t = some (.slice el)) (hi : P.info? el = some i) (hse : i.size = e) (hz : i.zero = some z) (hs : len * e ≤ 16777216) (hzs : z.cells.size = e)
    (hz1 : z.cells.toList.all (·.oneCell') = true) (hp : mksOk m n 0 xs ps.toList = true) :
    ∃ v' w' g', (Instr.buildSlice t len (ps.map fun (i, x) => (i, a.eval x))).run P w = .ok v' w' ∧ G.le g g' ∧ Rel m g' σ w' ∧ Rep m g' v' y := by
  unfold mksV at hy
  split at hy <;> try (simp at hy; done)
  rename_i hcond
  obtain ⟨hpos, hall⟩ := hcond
  simp only [Option.some.injEq] at hy; subst hy
  have hcs : ∀ x ∈ xs.map (ev T), ∃ cs, x.cells? = some cs ∧ cs.length = e := fun x hx => by
    have := List.all_eq_true.1 hall x hx
    split at this
    · rename_i cs hcs; exact ⟨cs, hcs, by simpa using this⟩
    · simp at this
  have hu : ∀ x ∈ xs.map (ev T), x.cells.length = e := fun x hx => by
    obtain ⟨cs, h1, h2⟩ := hcs x hx
    rw [← h2]
    cases x <;> simp only [V.cells?, V.cells] at h1 ⊢ <;> first | (simp at h1; done) | (rw [← Option.some.inj h1])
  obtain ⟨p1, p2⟩ := parts_rep h (mks_parts h (e := e) hp)
  have eqp : ((xs.zipIdx 0).map fun p => (p.2 * e, e, p.1)).map (fun p => (p.1, p.2.1, ev T p.2.2)) = ((xs.map (ev T)).zipIdx 0).map fun p => (p.2 * e, e, p.1) := by
    rw [List.zipIdx_map, List.map_map, List.map_map]; rfl
  rw [eqp] at p1 p2
  have hbf := build_flat (e := e) (xs.map (ev T)) [] 0 hcs (by simp)
  simp only [List.nil_append, List.length_map] at hbf
  have hinit : RepC m g ((Array.range (len * e)).map (z.cells[· % z.cells.size]!)) (List.replicate (xs.length * e) .u) := by
    rw [← hlen]
    refine repC_range _ _ (fun j hj => ?_)
    have hlt : j % z.cells.size < z.cells.size := Nat.mod_lt _ (by omega)
    have := List.all_eq_true.1 hz1 (z.cells[j % z.cells.size]) (by simp)
    rw [getElem!_pos z.cells _ hlt]
    exact this
  obtain ⟨vs', cs', f1, f2, f3, f4⟩ := fill_rep (place := fun i => some (i * e, e)) (ps.toList.map fun (i, x) => (i, a.eval x)) _ hinit p1 (fun j p x hp' hx => by
    obtain ⟨q1, q2⟩ := p2 j p x hp' hx
    simp only [Bool.and_eq_true, beq_iff_eq] at q1
    exact ⟨by rw [q1.1, q1.2], q2⟩) hbf
  simp only [V.agg.injEq] at f3
  subst f3
  obtain ⟨g', g1, g2, g3⟩ := hR.new vs' el
  refine ⟨.slice (some ⟨w.heap.size, 0, none⟩) len len, w.alloc (.cells vs' el), g', ?_, g1, g2, ?_⟩
  · have hsz : (sizeOf el).run P w = .ok e w := by simp [sizeOf, typeInfo, hi, hse]
    have hno : ¬ len * e > 2 ^ 24 := by omega
    simp only [Instr.buildSlice, Sem.run_bind, run_underlying ht, Result.andThen_ok, hsz, if_neg hno, Sem.run_pure]
    by_cases h0 : len * e = 0
    · have hl0 : xs.length = 0 := by
        rcases Nat.mul_eq_zero.1 h0 with h | h
        · omega
        · omega
      have hx0 : xs = [] := List.eq_nil_of_length_eq_zero hl0
      subst hx0
      have hps : ps.toList = [] := by
        cases hq : ps.toList with
        | nil => rfl
        | cons q qs => rw [hq] at hp; simp [mksOk] at hp
      have hvs : vs' = #[] := by
        rw [hps] at f1
        simp only [List.map_nil, Instr.fill, Option.some.injEq] at f1
        rw [← f1, h0]; simp
      simp only [h0, if_true, Sem.run_pure, Result.andThen_ok, Array.toList_map, hps, List.map_nil, Instr.fill]
      have e0 : ∀ f : Nat → Value, Array.map f (Array.range 0) = #[] := fun f => by simp
      simp [newRow, hvs, e0]
    · simp only [h0, if_false, Sem.run_bind, Result.andThen_ok, Sem.run_pure]
      have hzv : (zeroValue el).run P w = .ok z w := by simp [zeroValue, typeInfo, hi, hz]
      simp only [hzv, Result.andThen_ok, Array.toList_map, f1]
      simp [newRow]
  · have hfl : (flat (xs.map (ev T))).length = len * e := by rw [flat_length hu]; simp [hlen]
    have hsz : vs'.size = len * e := by rw [f2.1.1]; exact hfl
    refine .l _ _ _ _ _ _ _ (fun j => vs'.getD j undef) (by simp [hlen]) (Nat.le_refl _) hu (fun j hj => ?_) (fun j hj => ?_) (fun j hj => ?_) (by simp [CapOk])
    · rw [g3]; simp [Array.getD_eq_getD_getElem?, show j < vs'.size by omega]
    · exact (f2.1.2 j (by omega)).mono g1
    · exact f2.2 j (by omega)

end Go.Ab
/-
  An abstract operation that is the model's by the check stands for it.
-/
namespace Go.Ab
open Go.RowKit

variable {m : Nat → FuncId} {g : G} {P : Program} {σ : St} {w : World}

theorem run_v (s : Sem Value) {v : Value} {w w' : World} (h : s.run P w = .ok v w') : (do pure (.value (← s)) : Sem Next).run P w = .ok (.value v) w' := by
  simp [h]

theorem fldOk_spec {t : TypeId} {i off sz : Nat} {ag : Bool} (h : fldOk P t i off sz ag = true) :
    ∃ fs f, P.underlying t = some (.struct fs) ∧ fs[i]? = some f ∧ f.offset = off ∧ szIs P f.type sz = true ∧ agIs P f.type ag = true := by
  unfold fldOk at h
  split at h <;> try (simp at h; done)
  split at h <;> try (simp at h; done)
  simp only [Bool.and_eq_true, beq_iff_eq] at h
  exact ⟨_, _, ‹_›, ‹_›, h.1.1, h.1.2, h.2⟩

theorem run_builtin (ρ : Operand → Value) (co : Oper) (b : Builtin) (as : Array Operand) (ts : Array TypeId) (hop : co.op = .call { callee := .builtin b, args := as, argTypes := ts }) :
    execOp ρ co = builtin b ts co.type (as.map fun | .const _ => true | _ => false) (as.map ρ) := by
  unfold execOp
  simp only [hop]
  unfold resolve
  simp only [pure_bind]
  rfl

set_option maxHeartbeats 1000000 in
theorem evP_sound {n : Nat} {a : Act} {T : Tm} (hR : Rel m g σ w) (hT : RepT m g n a.tmps T) (o : AOp) (co : Oper) {y : V} (hc : chkOp P m n o co.op = true) (hy : evP o T σ = some y) :
    ∃ v' w' g', (execOp a.eval co).run P w = .ok (.value v') w' ∧ G.le g g' ∧ Rel m g' σ w' ∧ Rep m g' v' y := by
  have keep : ∀ {v' : Value}, (execOp a.eval co).run P w = .ok (.value v') w → Rep m g v' y → ∃ v' w' g', (execOp a.eval co).run P w = .ok (.value v') w' ∧ G.le g g' ∧ Rel m g' σ w' ∧ Rep m g' v' y :=
    fun h1 h2 => ⟨_, w, g, h1, G.le.refl g, hR, h2⟩
  generalize hop : co.op = cop at hc
  unfold chkOp at hc
  split at hc
  case h_1 x y' =>
    simp only [evP, Option.some.injEq] at hy; subst hy
    exact keep (by unfold execOp; simp only [hop]; rfl) (rep_ev hT hc)
  case h_2 x y' =>
    simp only [evP, Option.some.injEq] at hy; subst hy
    exact keep (by unfold execOp; simp only [hop]; rfl) (rep_ev hT hc)
  case h_3 c x y' c' x2 y2 =>
    simp only [Bool.and_eq_true] at hc
    have hcr := rep_ev hT hc.1.1
    simp only [evP, pickV] at hy
    split at hy <;> try (simp at hy; done)
    rename_i t ht
    rw [ht] at hcr
    simp only [Option.some.injEq] at hy; subst hy
    have hv : a.eval c' = .bool t := by
      generalize a.eval c' = q at hcr
      cases hcr; rfl
    cases t with
    | true => exact keep (by unfold execOp; simp only [hop, hv]; rfl) (rep_ev hT hc.1.2)
    | false => exact keep (by unfold execOp; simp only [hop, hv]; rfl) (rep_ev hT hc.2)
  case h_4 =>
    simp only [Bool.and_eq_true, decide_eq_true_eq] at hc
    obtain ⟨⟨⟨rfl, h2⟩, h3⟩, h4⟩ := hc
    simp only [evP] at hy
    obtain ⟨v', r1, r2⟩ := binV_rep (rep_ev hT h2) (rep_ev hT h3) hy h4 w
    exact keep (by unfold execOp; simp only [hop]; exact run_v _ r1) r2
  case h_5 =>
    simp only [Bool.and_eq_true, decide_eq_true_eq] at hc
    obtain ⟨rfl, h2⟩ := hc
    simp only [evP] at hy
    obtain ⟨v', r1, r2⟩ := unV_rep (P := P) (rep_ev hT h2) hy w
    exact keep (by unfold execOp; simp only [hop]; exact run_v _ r1) r2
  case h_6 =>
    simp only [Bool.and_eq_true] at hc
    simp only [evP] at hy
    obtain ⟨fs, f, q1, q2, q3, q4, q5⟩ := fldOk_spec hc.2
    obtain ⟨v', r1, r2⟩ := fldV_rep (rep_ev hT hc.1) hy q1 q2 q3 q4 q5 w
    exact keep (by unfold execOp; simp only [hop]; exact run_v _ r1) r2
  case h_7 =>
    simp only [Bool.and_eq_true, beq_iff_eq] at hc
    obtain ⟨h1, rfl⟩ := hc
    simp only [evP] at hy
    obtain ⟨v', r1, r2⟩ := extV_rep (P := P) (rep_ev hT h1) hy w
    exact keep (by unfold execOp; simp only [hop]; exact run_v _ r1) r2
  case h_8 =>
    simp only [Bool.and_eq_true] at hc
    simp only [evP] at hy
    obtain ⟨v', r1, r2⟩ := ldV_rep hR (rep_ev hT hc.1.1) hy hc.1.2 hc.2
    exact keep (by unfold execOp; simp only [hop]; exact run_v _ r1) r2
  case h_9 => simp [evP] at hy
  case h_10 => simp [evP] at hy
  case h_11 => simp [evP] at hy
  case h_12 =>
    simp only [Bool.and_eq_true] at hc
    simp only [evP] at hy
    obtain ⟨v', r1, r2⟩ := build_rep hT hc.1 hc.2 hy w
    exact keep (by unfold execOp; simp only [hop]; exact run_v _ r1) r2
  case h_13 e xs t len ps =>
    simp only [Bool.and_eq_true, beq_iff_eq] at hc
    obtain ⟨⟨h1, h2⟩, h3⟩ := hc
    simp only [evP] at hy
    split at h2 <;> try (simp at h2; done)
    rename_i el hel
    simp only [Bool.and_eq_true, decide_eq_true_eq] at h2
    obtain ⟨⟨h4, h5⟩, h6⟩ := h2
    split at h6 <;> try (simp at h6; done)
    rename_i z hz
    simp only [Bool.and_eq_true, beq_iff_eq] at h6
    obtain ⟨i, hi, hzz⟩ := Option.bind_eq_some_iff.1 hz
    have hse : i.size = e := by simp only [szIs, hi, Option.map_some, beq_iff_eq, Option.some.injEq] at h4; exact h4
    obtain ⟨v', w', g', r1, r2, r3, r4⟩ := mksV_rep hR hT hy h1 (sliceOf_spec hel) hi hse hzz h5 h6.1 h6.2 h3
    exact ⟨v', w', g', by unfold execOp; simp only [hop]; exact run_v _ r1, r2, r3, r4⟩
  case h_14 =>
    simp only [Bool.and_eq_true, decide_eq_true_eq] at hc
    simp only [evP] at hy
    obtain ⟨fs, f, q1, q2, q3, q4, q5⟩ := fldOk_spec hc.1.2
    obtain ⟨v', r1, r2⟩ := faV_rep (rep_ev hT hc.1.1) hy q1 q2 q3 q4 hc.2 w
    exact keep (by unfold execOp; simp only [hop]; exact run_v _ r1) r2
  case h_15 =>
    simp only [Bool.and_eq_true] at hc
    simp only [evP] at hy
    obtain ⟨⟨h1, h2⟩, h3⟩ := hc
    split at h3 <;> try (simp at h3; done)
    rename_i el hel
    obtain ⟨v', r1, r2⟩ := iasV_rep (rep_ev hT h1) (rep_ev hT h2) hy (sliceOf_spec hel) h3 w
    exact keep (by unfold execOp; simp only [hop]; exact run_v _ r1) r2
  case h_16 =>
    simp only [Bool.and_eq_true] at hc
    simp only [evP] at hy
    obtain ⟨⟨h1, h2⟩, h3⟩ := hc
    split at h3 <;> try (simp at h3; done)
    rename_i len' el hel
    simp only [Bool.and_eq_true, beq_iff_eq] at h3
    obtain ⟨rfl, h3⟩ := h3
    obtain ⟨v', r1, r2⟩ := iaaV_rep (rep_ev hT h1) (rep_ev hT h2) hy (arrayOf_spec hel) h3 w
    exact keep (by unfold execOp; simp only [hop]; exact run_v _ r1) r2
  case h_17 =>
    simp only [Bool.and_eq_true] at hc
    simp only [evP] at hy
    obtain ⟨⟨h1, h2⟩, h3⟩ := hc
    split at h3 <;> try (simp at h3; done)
    rename_i len' el hel
    simp only [Bool.and_eq_true, beq_iff_eq] at h3
    obtain ⟨⟨rfl, h3⟩, h4⟩ := h3
    obtain ⟨v', r1, r2⟩ := ixaV_rep (rep_ev hT h1) (rep_ev hT h2) hy (arrayOf_spec hel) h3 h4 w
    exact keep (by unfold execOp; simp only [hop]; exact run_v _ r1) r2
  case h_18 =>
    simp only [Bool.and_eq_true] at hc
    simp only [evP] at hy
    obtain ⟨v', r1, r2⟩ := ixsV_rep (rep_ev hT hc.1.1) (rep_ev hT hc.1.2) hy (isStr_spec hc.2) w
    exact keep (by unfold execOp; simp only [hop]; exact run_v _ r1) r2
  case h_19 x lo hi mx e t x' lo' hi' mx' =>
    simp only [Bool.and_eq_true] at hc
    simp only [evP] at hy
    obtain ⟨⟨⟨⟨⟨h1, h2⟩, h3⟩, h4⟩, h5⟩, h6⟩ := hc
    split at h6 <;> try (simp at h6; done)
    rename_i el hel
    have hx : (mx'.map a.eval).isSome = true → (hi'.map a.eval).isSome = true := by
      cases mx <;> cases mx' <;> simp [chkOpt] at h4 <;> cases hi <;> cases hi' <;> simp [chkOpt] at h3 h5 ⊢
    obtain ⟨v', r1, r2⟩ := slcV_rep (rep_ev hT h1) (repO_of hT h2) (repO_of hT h3) (repO_of hT h4) hy hx (sliceOf_spec hel) h6 w
    exact keep (by unfold execOp; simp only [hop]; exact run_v _ r1) r2
  case h_20 x lo hi t x' lo' hi' mx' =>
    simp only [Bool.and_eq_true] at hc
    simp only [evP] at hy
    obtain ⟨⟨⟨⟨h1, h2⟩, h3⟩, h4⟩, h5⟩ := hc
    obtain ⟨v', r1, r2⟩ := slcsV_rep (rep_ev hT h1) (repO_of hT h2) (repO_of hT h3) hy (isStr_spec h5) w
    have : mx' = none := by simpa using h4
    subst this
    exact keep (by unfold execOp; simp only [hop]; exact run_v _ r1) r2
  case h_21 => simp [evP] at hy
  case h_22 x x' t =>
    simp only [Bool.and_eq_true] at hc
    simp only [evP] at hy
    obtain ⟨el, hel⟩ := Option.isSome_iff_exists.1 hc.2
    have hex : execOp a.eval co = builtin .len ⟨[t]⟩ co.type (Array.map (fun | .const _ => true | _ => false) ⟨[x']⟩) #[a.eval x'] := by
      rw [run_builtin _ _ _ _ _ hop]; simp
    obtain ⟨v', r1, r2⟩ := lenV_rep (P := P) (ty := co.type) (rep_ev hT hc.1) hy (sliceOf_spec hel) w
    exact keep (by rw [hex]; unfold builtin; exact run_v _ r1) r2
  case h_23 x x' t =>
    simp only [Bool.and_eq_true] at hc
    simp only [evP] at hy
    have hex : execOp a.eval co = builtin .len ⟨[t]⟩ co.type (Array.map (fun | .const _ => true | _ => false) ⟨[x']⟩) #[a.eval x'] := by
      rw [run_builtin _ _ _ _ _ hop]; simp
    obtain ⟨v', r1, r2⟩ := slenV_rep (P := P) (ty := co.type) (rep_ev hT hc.1) hy (isStr_spec hc.2) w
    exact keep (by rw [hex]; unfold builtin; exact run_v _ r1) r2
  case h_24 => simp [evP] at hy
  case h_25 xs ys ts =>
    simp only [evP] at hy
    obtain ⟨h1, h2⟩ := repL_of hT hc
    have hex : execOp a.eval co = builtin .min ts co.type (Array.map (fun | .const _ => true | _ => false) ⟨ys⟩) (ys.map a.eval).toArray := by
      rw [run_builtin _ _ _ _ _ hop]; simp
    generalize ys.map a.eval = vs at h1 h2 hex
    generalize xs.map (ev T) = zs at h1 h2 hy
    cases zs with
    | nil => simp [minV] at hy
    | cons z zs =>
      cases vs with
      | nil => simp at h1
      | cons v vs =>
        have h0 := h2 0 (by simp)
        cases z <;> simp only [minV] at hy <;> try (simp at hy; done)
        rename_i k b
        obtain rfl : v = .int k b := rep_int h0
        obtain ⟨v', r1, r2⟩ := minL_rep (P := P) zs vs b (by simpa using h1) (fun j hj => h2 (j + 1) (by simp; omega)) hy w
        exact keep (by rw [hex]; unfold builtin; exact run_v _ (by simpa [Builtin.min_] using r1)) r2
  case h_26 xs ys ts =>
    simp only [evP] at hy
    obtain ⟨h1, h2⟩ := repL_of hT hc
    have hex : execOp a.eval co = builtin .max ts co.type (Array.map (fun | .const _ => true | _ => false) ⟨ys⟩) (ys.map a.eval).toArray := by
      rw [run_builtin _ _ _ _ _ hop]; simp
    generalize ys.map a.eval = vs at h1 h2 hex
    generalize xs.map (ev T) = zs at h1 h2 hy
    cases zs with
    | nil => simp [maxV] at hy
    | cons z zs =>
      cases vs with
      | nil => simp at h1
      | cons v vs =>
        have h0 := h2 0 (by simp)
        cases z <;> simp only [maxV] at hy <;> try (simp at hy; done)
        rename_i k b
        obtain rfl : v = .int k b := rep_int h0
        obtain ⟨v', r1, r2⟩ := maxL_rep (P := P) zs vs b (by simpa using h1) (fun j hj => h2 (j + 1) (by simp; omega)) hy w
        exact keep (by rw [hex]; unfold builtin; exact run_v _ (by simpa [Builtin.max_] using r1)) r2
  case h_27 => simp [evP] at hy
  case h_28 => simp [evP] at hy
  case h_29 f xs ys f' xs' ys' =>
    simp only [Bool.and_eq_true, beq_iff_eq] at hc
    obtain ⟨⟨rfl, h1⟩, h2⟩ := hc
    simp only [evP, Option.some.injEq] at hy; subst hy
    have a1 := repA_of hT h1
    have a2 := repA_of hT h2
    refine keep (v' := .func (.func (m f)) (xs'.map a.eval).toArray (ys'.map a.eval).toArray) ?_ (.f _ _ _ _ _ a1.1 a2.1 a1.2 a2.2)
    unfold execOp; simp only [hop]; exact run_v _ (by simp [Instr.makeFunc])
  case h_30 =>
    simp only [evP] at hy
    obtain ⟨r1, r2⟩ := nilV_rep (P := P) (rep_ev hT hc) hy a.eval _ rfl w co hop
    exact keep r1 r2
  case h_31 =>
    simp only [Bool.and_eq_true] at hc
    simp only [evP] at hy
    obtain ⟨⟨h1, h2⟩, h3⟩ := hc
    split at h3 <;> try (simp at h3; done)
    rename_i k' hk
    have hkk := of_decide_eq_true h3
    subst hkk
    obtain ⟨t', ht'⟩ := Option.isSome_iff_exists.1 h2
    obtain ⟨v', r1, r2⟩ := cnvV_rep (P := P) (rep_ev hT h1) hy ht' hk w
    exact keep (by unfold execOp; simp only [hop]; exact run_v _ r1) r2
  case h_32 =>
    simp only [Bool.and_eq_true] at hc
    simp only [evP] at hy
    obtain ⟨⟨h1, h2⟩, h3⟩ := hc
    split at h2 <;> try (simp at h2; done)
    rename_i e he
    obtain ⟨v', r1, r2⟩ := b2sV_rep hR (rep_ev hT h1) hy (sliceOf_spec he) (isU8_spec h2) (isStr_spec h3)
    exact keep (by unfold execOp; simp only [hop]; exact run_v _ r1) r2
  case h_33 => simp [evP] at hy
  case h_34 => simp [evP] at hy
  case h_35 => simp [evP] at hy
  case h_36 x x' t =>
    simp only [Bool.and_eq_true] at hc
    simp only [evP] at hy
    obtain ⟨el, hel⟩ := Option.isSome_iff_exists.1 hc.2
    have hex : execOp a.eval co = builtin .cap ⟨[t]⟩ co.type (Array.map (fun | .const _ => true | _ => false) ⟨[x']⟩) #[a.eval x'] := by
      rw [run_builtin _ _ _ _ _ hop]; simp
    obtain ⟨v', r1, r2⟩ := capV_rep (P := P) (ty := co.type) (rep_ev hT hc.1) hy (sliceOf_spec hel) w
    exact keep (by rw [hex]; unfold builtin; exact run_v _ r1) r2
  case h_37 x lo hi len e t x' lo' hi' mx' =>
    simp only [Bool.and_eq_true] at hc
    simp only [evP] at hy
    obtain ⟨⟨⟨⟨h1, h2⟩, h3⟩, h4⟩, h5⟩ := hc
    split at h5 <;> try (simp at h5; done)
    rename_i len' el hel
    simp only [Bool.and_eq_true, beq_iff_eq] at h5
    obtain ⟨rfl, h5⟩ := h5
    obtain ⟨v', r1, r2⟩ := slcmV_rep (rep_ev hT h1) (repO_of hT h2) (repO_of hT h3) hy (arrayOf_spec hel) h5 w
    have : mx' = none := by simpa using h4
    subst this
    exact keep (by unfold execOp; simp only [hop]; exact run_v _ r1) r2
  case h_38 => simp [evP] at hy
  case h_39 => simp at hc

end Go.Ab

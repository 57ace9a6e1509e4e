/-
  Hw, part C: types' table; values that an operation computes from its operands alone ('pv'); the judgement 'GO' and its rules for control.
-/
import Derived.Test.YtbgjcjhodlmgjaaHwB
set_option linter.unusedVariables false
namespace Go.Hw
open Go

/-! ### The table of types -/
structure Ty where
  id : Nat
  desc : TypeDesc
  size : Nat
  bytes : Nat
  zero : Value

def tyOf (n : Nat) : List Ty → Option Ty
  | [] => none
  | t :: r => bif Nat.beq n t.id then some t else tyOf n r

/-- A type's description without its words. -/
def blankF (f : Field) : Field := { name := if f.name = "_" then "_" else "", type := f.type, offset := f.offset, embedded := false, tag := "", pkgPath := "", byteOffset := 0 }
def blank : TypeDesc → TypeDesc
  | .struct fs => .struct (fs.toList.map blankF).toArray
  | .interface _ => .interface #[]
  | .named _ u => .named "" u
  | d => d

def TyOk (P : Program) (t : Ty) : Prop := (P.underlying t.id).map blank = some t.desc ∧ (P.info? t.id).map (fun i => (i.size, i.bytes, i.zero)) = some (t.size, t.bytes, some t.zero)

def TsOk (P : Program) (ts : List Ty) : Prop := ∀ t ∈ ts, TyOk P t

theorem tyOf_mem {n : Nat} {t : Ty} : ∀ {ts : List Ty}, tyOf n ts = some t → t ∈ ts ∧ t.id = n
  | [], h => by cases h
  | u :: r, h => by
    simp only [tyOf] at h
    cases hb : Nat.beq n u.id with
    | true =>
      rw [hb] at h
      simp only [cond_true, Option.some.injEq] at h
      subst h
      exact ⟨.head _, (Nat.eq_of_beq_eq_true hb).symm⟩
    | false =>
      rw [hb] at h
      simp only [cond_false] at h
      exact ⟨.tail _ (tyOf_mem h).1, (tyOf_mem h).2⟩

section
variable {P : Program} {ts : List Ty} (hT : TsOk P ts)
include hT
theorem TsOk.und {n : Nat} {t : Ty} (h : tyOf n ts = some t) : ∃ D, P.underlying n = some D ∧ blank D = t.desc := by
  obtain ⟨h1, h2⟩ := tyOf_mem h
  have := (hT t h1).1
  rw [h2] at this
  exact Option.map_eq_some_iff.1 this
theorem TsOk.info {n : Nat} {t : Ty} (h : tyOf n ts = some t) : ∃ i, P.info? n = some i ∧ i.size = t.size ∧ i.bytes = t.bytes ∧ i.zero = some t.zero := by
  obtain ⟨h1, h2⟩ := tyOf_mem h
  have := (hT t h1).2
  rw [h2] at this
  obtain ⟨i, hi, he⟩ := Option.map_eq_some_iff.1 this
  simp only [Prod.mk.injEq] at he
  exact ⟨i, hi, he.1, he.2.1, he.2.2⟩
theorem TsOk.run_und {n : Nat} {t : Ty} (h : tyOf n ts = some t) : ∃ D, (∀ w, (underlying n).run P w = .ok D w) ∧ blank D = t.desc := by
  obtain ⟨D, h1, h2⟩ := hT.und h
  exact ⟨D, fun w => run_underlying h1 w, h2⟩
theorem TsOk.run_size {n : Nat} {t : Ty} (h : tyOf n ts = some t) (w : World) : (sizeOf n).run P w = .ok t.size w := by
  obtain ⟨i, hi, h1, _⟩ := hT.info h
  simp [sizeOf, typeInfo, hi, h1]
theorem TsOk.run_zero {n : Nat} {t : Ty} (h : tyOf n ts = some t) (w : World) : (zeroValue n).run P w = .ok t.zero w := by
  obtain ⟨i, hi, _, _, h1⟩ := hT.info h
  simp [zeroValue, typeInfo, hi, h1]
end

def Ty.agg (t : Ty) : Bool := match t.desc with | .struct _ | .array _ _ => true | _ => false

theorem TsOk.run_agg {P : Program} {ts : List Ty} (hT : TsOk P ts) {n : Nat} {t : Ty} (h : tyOf n ts = some t) (w : World) : (isAgg n).run P w = .ok t.agg w := by
  obtain ⟨D, hD, hb⟩ := hT.run_und h
  simp only [isAgg, Sem.run_bind, hD w, Result.andThen_ok, Ty.agg, ← hb]
  cases D <;> rfl

/-- Descriptions that 'blank' leaves as they are. -/
theorem blank_slice {D : TypeDesc} {e : TypeId} (h : blank D = .slice e) : D = .slice e := by cases D <;> simp_all [blank]
theorem blank_array {D : TypeDesc} {n e : Nat} (h : blank D = .array n e) : D = .array n e := by cases D <;> simp_all [blank]
theorem blank_map {D : TypeDesc} {k e : TypeId} (h : blank D = .map k e) : D = .map k e := by cases D <;> simp_all [blank]
theorem blank_int {D : TypeDesc} {k : IntKind} (h : blank D = .int k) : D = .int k := by cases D <;> simp_all [blank]
theorem blank_string {D : TypeDesc} (h : blank D = .string) : D = .string := by cases D <;> simp_all [blank]
theorem blank_bool {D : TypeDesc} (h : blank D = .bool) : D = .bool := by cases D <;> simp_all [blank]
theorem blank_pointer {D : TypeDesc} {e : TypeId} (h : blank D = .pointer e) : D = .pointer e := by cases D <;> simp_all [blank]
theorem blank_struct {D : TypeDesc} {fs : Array Field} (h : blank D = .struct fs) : ∃ gs, D = .struct gs ∧ gs.toList.map blankF = fs.toList := by
  cases D <;> simp only [blank, reduceCtorEq, TypeDesc.struct.injEq] at h
  exact ⟨_, rfl, by rw [← h]⟩

/-! ### Lists of cells, written out -/
def tk : Nat → List Value → Option (List Value)
  | 0, _ => some []
  | n + 1, x :: r => match tk n r with | some r' => some (x :: r') | none => none
  | _ + 1, [] => none
def cut : Nat → Nat → List Value → Option (List Value)
  | 0, n, cs => tk n cs
  | o + 1, n, _ :: r => cut o n r
  | _ + 1, _, [] => none
def nth : Nat → List Value → Option Value
  | 0, x :: _ => some x
  | o + 1, _ :: r => nth o r
  | _, [] => none
/-- vs written over cs from offset o on. -/
def over : Nat → List Value → List Value → Option (List Value)
  | 0, [], cs => tk cs.length cs
  | 0, v :: vs, _ :: r => match over 0 vs r with | some r' => some (v :: r') | none => none
  | 0, _ :: _, [] => none
  | o + 1, vs, x :: r => match over o vs r with | some r' => some (x :: r') | none => none
  | _ + 1, [], [] => some []
  | _ + 1, _ :: _, [] => none

theorem tk_eq : ∀ {n : Nat} {cs vs : List Value}, tk n cs = some vs → vs = cs.take n ∧ n ≤ cs.length
  | 0, cs, vs, h => by simp only [tk, Option.some.injEq] at h; subst h; simp
  | n + 1, [], vs, h => by cases h
  | n + 1, x :: r, vs, h => by
    simp only [tk] at h
    split at h
    · rename_i r' hr
      obtain ⟨h1, h2⟩ := tk_eq hr
      injection h with h
      subst h; subst h1
      simp; omega
    · cases h
theorem cut_eq : ∀ {o n : Nat} {cs vs : List Value}, cut o n cs = some vs → vs = (cs.drop o).take n ∧ o + n ≤ cs.length
  | 0, n, cs, vs, h => by obtain ⟨h1, h2⟩ := tk_eq (by simpa [cut] using h); subst h1; simp; omega
  | o + 1, n, [], vs, h => by cases h
  | o + 1, n, x :: r, vs, h => by
    obtain ⟨h1, h2⟩ := cut_eq (o := o) (n := n) (cs := r) (vs := vs) (by simpa [cut] using h)
    subst h1; simp; omega
theorem nth_eq : ∀ {o : Nat} {cs : List Value} {v : Value}, nth o cs = some v → cs[o]? = some v
  | 0, [], v, h => by cases h
  | 0, x :: r, v, h => by simpa [nth] using h
  | o + 1, [], v, h => by cases h
  | o + 1, x :: r, v, h => by simpa using nth_eq (o := o) (cs := r) (v := v) (by simpa [nth] using h)
theorem over_eq : ∀ {o : Nat} {vs cs r : List Value}, over o vs cs = some r → r = cs.take o ++ vs ++ cs.drop (o + vs.length) ∧ (vs ≠ [] → o + vs.length ≤ cs.length)
  | 0, [], cs, r, h => by
    obtain ⟨h1, h2⟩ := tk_eq (by simpa [over] using h)
    subst h1; simp
  | 0, v :: vs, [], r, h => by cases h
  | 0, v :: vs, x :: cs, r, h => by
    simp only [over] at h
    split at h
    · rename_i r' hr
      obtain ⟨h1, h2⟩ := over_eq hr
      injection h with h
      subst h; subst h1
      refine ⟨by simp, fun _ => ?_⟩
      cases vs with
      | nil => simp
      | cons => have := h2 (by simp); simp at this ⊢; omega
    · cases h
  | o + 1, vs, x :: cs, r, h => by
    simp only [over] at h
    split at h
    · rename_i r' hr
      obtain ⟨h1, h2⟩ := over_eq hr
      injection h with h
      subst h; subst h1
      refine ⟨by simp [Nat.add_right_comm], fun hv => ?_⟩
      have := h2 hv; simp; omega
    · cases h
  | o + 1, [], [], r, h => by simp only [over, Option.some.injEq] at h; subst h; simp
  | o + 1, v :: vs, [], r, h => by cases h

/-! ### Values out of operands alone -/
@[irreducible] def eqI (a b : Int) : Bool := decide (a = b)
@[irreducible] def ltI (a b : Int) : Bool := decide (a < b)
@[irreducible] def leI (a b : Int) : Bool := decide (a ≤ b)
theorem eqI_eq (a b : Int) : eqI a b = decide (a = b) := by unfold eqI; rfl
theorem ltI_eq (a b : Int) : ltI a b = decide (a < b) := by unfold ltI; rfl
theorem leI_eq (a b : Int) : leI a b = decide (a ≤ b) := by unfold leI; rfl
theorem eqI_t (a b : Int) : (eqI a b = true) = (a = b) := by simp [eqI_eq]
theorem ltI_t (a b : Int) : (ltI a b = true) = (a < b) := by simp [ltI_eq]
theorem leI_t (a b : Int) : (leI a b = true) = (a ≤ b) := by simp [leI_eq]
theorem eqI_f (a b : Int) : (eqI a b = false) = (a ≠ b) := by simp [eqI_eq]
theorem ltI_f (a b : Int) : (ltI a b = false) = (b ≤ a) := by simp [ltI_eq]
theorem leI_f (a b : Int) : (leI a b = false) = (b < a) := by simp [leI_eq]
def pvCmp (op : BinOp) (a b : Int) : Option Value :=
  match op with
  | .eql => some (.bool (eqI a b))
  | .neq => some (.bool (!eqI a b))
  | .lss => some (.bool (ltI a b))
  | .leq => some (.bool (leI a b))
  | .gtr => some (.bool (ltI b a))
  | .geq => some (.bool (leI b a))
  | _ => none

theorem pvCmp_ok {op : BinOp} {a b : Int} {v : Value} (h : pvCmp op a b = some v) : Op.intCmp op a b = pure v := by
  cases op <;> simp only [pvCmp, Option.some.injEq, reduceCtorEq] at h <;> subst h <;> simp [Op.intCmp, eqI_eq, ltI_eq, leI_eq] <;> first | rfl | (congr 1; simp [bne, Int.beq_eq_decide]) | skip


/-- Equality of two values that are no aggregates, as the table's type says. -/
def pvEq (d : TypeDesc) (x y : Value) : Option Bool :=
  match d, x, y with
  | .bool, .bool a, .bool b => some (a == b)
  | .pointer _, .pointer none, .pointer p => some p.isNone
  | .pointer _, .pointer (some _), .pointer none => some false
  | .slice _, .slice none _ _, .slice p _ _ => some p.isNone
  | .slice _, .slice (some _) _ _, .slice none _ _ => some false
  | .map _ _, .map none, .map p => some p.isNone
  | .map _ _, .map (some _), .map none => some false
  | .func _ _ _, .nilFunc, .nilFunc => some true
  | .func _ _ _, .func _ _ _, .nilFunc => some false
  | .func _ _ _, .nilFunc, .func _ _ _ => some false
  | _, _, _ => none

theorem blank_func {D : TypeDesc} {p r : Array TypeId} {v : Bool} (h : blank D = .func p r v) : D = .func p r v := by cases D <;> simp_all [blank]

theorem pvEq_same {D d : TypeDesc} (hbl : blank D = d) {x y : Value} {b : Bool} (h : pvEq d x y = some b) : D = d := by
  unfold pvEq at h
  split at h
  · exact blank_bool hbl
  · exact blank_pointer hbl
  · exact blank_pointer hbl
  · exact blank_slice hbl
  · exact blank_slice hbl
  · exact blank_map hbl
  · exact blank_map hbl
  · exact blank_func hbl
  · exact blank_func hbl
  · exact blank_func hbl
  · cases h

theorem pvEq_ok {P : Program} {t : TypeId} {D d : TypeDesc} (hd : P.underlying t = some D) (hbl : blank D = d) {x y : Value} {b : Bool} (h : pvEq d x y = some b) (w : World) :
    (Op.equal t x y).run P w = .ok b w := by
  obtain rfl := pvEq_same hbl h
  have hu : (underlying t).run P w = .ok D w := run_underlying hd w
  show (Op.equalIn (9999 + 1) t x y).run P w = .ok b w
  generalize 9999 = n
  unfold pvEq at h
  unfold Op.equalIn
  simp only [Sem.run_bind, hu, Result.andThen_ok]
  split at h <;> first
    | (injection h with h; subst h; rfl)
    | (cases h; done)

def pvBin (d : TypeDesc) (op : BinOp) (x y : Value) : Option Value :=
  match x, y with
  | .int k a, .int k' b =>
    if k = k' then
      match op with
      | .add => some (.int k (k.wrap (a + b)))
      | .sub => some (.int k (k.wrap (a - b)))
      | .mul => some (.int k (k.wrap (a * b)))
      | .quo => if b = 0 then none else some (.int k (k.wrap (a.tdiv b)))
      | .rem => if b = 0 then none else some (.int k (a.tmod b))
      | .and => some (.int k (k.wrap ((BitVec.ofInt k.bits a &&& BitVec.ofInt k.bits b).toNat)))
      | .or => some (.int k (k.wrap ((BitVec.ofInt k.bits a ||| BitVec.ofInt k.bits b).toNat)))
      | .xor => some (.int k (k.wrap ((BitVec.ofInt k.bits a ^^^ BitVec.ofInt k.bits b).toNat)))
      | .andNot => some (.int k (k.wrap ((BitVec.ofInt k.bits a &&& ~~~(BitVec.ofInt k.bits b)).toNat)))
      | .shl | .shr => none
      | _ => pvCmp op a b
    else none
  | .string a, .string b =>
    match op with
    | .eql => some (.bool (a.toList == b.toList))
    | .neq => some (.bool (!(a.toList == b.toList)))
    | .lss => some (.bool (Op.bytesLess a.toList b.toList))
    | .leq => some (.bool (Op.bytesLess a.toList b.toList || a.toList == b.toList))
    | .gtr => some (.bool (!(Op.bytesLess a.toList b.toList || a.toList == b.toList)))
    | .geq => some (.bool (!(Op.bytesLess a.toList b.toList)))
    | _ => none
  | x, y =>
    match op with
    | .eql => match pvEq d x y with | some b => some (.bool b) | none => none
    | .neq => match pvEq d x y with | some b => some (.bool (!b)) | none => none
    | _ => none

theorem pvBin_ok {P : Program} {t : TypeId} {D d : TypeDesc} (hd : P.underlying t = some D) (hbl : blank D = d) {op : BinOp} {p q v : Value} (h : pvBin d op p q = some v) (w : World) (ox oy : Operand) :
    (do eqGuard op t ox oy p q; binOp op t p q : Sem Value).run P w = .ok v w := by
  unfold pvBin at h
  split at h
  · -- ints
    split at h
    · rename_i k a k' b hk
      subst hk
      have hg : eqGuard op t ox oy (.int k a) (.int k b) = pure () := by cases op <;> rfl
      rw [hg]
      cases op <;> simp only [Option.some.injEq, reduceCtorEq] at h <;> first
        | (subst h; simp [binOp, Op.intArith, Op.intBits]; done)
        | (split at h
           · cases h
           · rename_i hb
             injection h with h
             subst h
             simp [binOp, Op.intDiv, hb]; done)
        | (simp [binOp, pvCmp_ok h]; done)
    · cases h
  · -- strings
    rename_i a b
    have hg : eqGuard op t ox oy (.string a) (.string b) = pure () := by cases op <;> rfl
    rw [hg]
    split at h <;> first
      | (injection h with h; subst h; simp [binOp, Op.stringOp]; done)
      | (cases h; done)
  · rename_i hx hy
    clear hx hy
    split at h
    · split at h
      · rename_i b hb
        injection h with h; subst h
        have := pvEq_ok hd hbl hb w
        have hg : eqGuard .eql t ox oy p q = pure () := by
          unfold pvEq at hb
          split at hb <;> first | rfl | cases hb
        rw [hg]
        have hb2 : binOp .eql t p q = (do pure (.bool (← Op.equal t p q)) : Sem Value) := by
          unfold pvEq at hb
          split at hb <;> first | rfl | cases hb
        rw [hb2]
        simp [this]
      · cases h
    · split at h
      · rename_i b hb
        injection h with h; subst h
        have := pvEq_ok hd hbl hb w
        have hg : eqGuard .neq t ox oy p q = pure () := by
          unfold pvEq at hb
          split at hb <;> first | rfl | cases hb
        rw [hg]
        have hb2 : binOp .neq t p q = (do pure (.bool (!(← Op.equal t p q))) : Sem Value) := by
          unfold pvEq at hb
          split at hb <;> first | rfl | cases hb
        rw [hb2]
        simp [this]
      · cases h
    · cases h

end Go.Hw

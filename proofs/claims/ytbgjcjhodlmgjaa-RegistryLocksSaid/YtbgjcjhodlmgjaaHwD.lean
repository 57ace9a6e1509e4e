/-
  Hw, part D: 'pv': what an operation computes from its operands alone.
-/
import Derived.Test.YtbgjcjhodlmgjaaHwC
set_option linter.unusedVariables false
namespace Go.Hw
open Go

def evlL (l : Sl) : List Operand → Option (List Value)
  | [] => some []
  | x :: r => match evl l x, evlL l r with
    | some v, some vs => some (v :: vs)
    | _, _ => none
def evlP (l : Sl) : List (Nat × Operand) → Option (List (Nat × Value))
  | [] => some []
  | p :: r => match evl l p.2, evlP l r with
    | some v, some vs => some ((p.1, v) :: vs)
    | _, _ => none

theorem evlL_ok {l : Sl} {a : Act} (h : SlotsOk l a) : ∀ {xs : List Operand} {vs : List Value}, evlL l xs = some vs → xs.map a.eval = vs
  | [], vs, e => by simp only [evlL, Option.some.injEq] at e; subst e; rfl
  | x :: r, vs, e => by
    simp only [evlL] at e
    split at e
    · rename_i v us h1 h2
      injection e with e; subst e
      simp [h.eval h1, evlL_ok h h2]
    · cases e
theorem evlP_ok {l : Sl} {a : Act} (h : SlotsOk l a) : ∀ {xs : List (Nat × Operand)} {vs : List (Nat × Value)}, evlP l xs = some vs → xs.map (fun p => (p.1, a.eval p.2)) = vs
  | [], vs, e => by simp only [evlP, Option.some.injEq] at e; subst e; rfl
  | x :: r, vs, e => by
    simp only [evlP] at e
    split at e
    · rename_i v us h1 h2
      injection e with e; subst e
      simp [h.eval h1, evlP_ok h h2]
    · cases e

/-- A field of a struct type: its offset, its cells, whether it is an aggregate. -/
def fld (ts : List Ty) (t f : Nat) : Option (Nat × Nat × Bool) :=
  match tyOf t ts with
  | some { desc := .struct fs, .. } =>
    match fs.toList[f]? with
    | some fd => match tyOf fd.type ts with
      | some T => some (fd.offset, T.size, T.agg)
      | none => none
    | none => none
  | _ => none

def places (ts : List Ty) : List Field → Option (List (Nat × Nat))
  | [] => some []
  | f :: r => match tyOf f.type ts, places ts r with
    | some T, some ps => some ((f.offset, T.size) :: ps)
    | _, _ => none

/-- The parts of a literal laid over cells. -/
def partL : Value → List Value
  | .agg cs => cs.toList
  | v => [v]
theorem partL_ok (v : Value) : v.cells = (partL v).toArray := by cases v <;> rfl
def fillL (place : Nat → Option (Nat × Nat)) : List (Nat × Value) → List Value → Option (List Value)
  | [], cs => some cs
  | p :: r, cs => match place p.1 with
    | some (off, size) =>
      match partL p.2 with
      | [] => none
      | x :: xs => bif Nat.beq (x :: xs).length size then (match over off (x :: xs) cs with | some cs' => fillL place r cs' | none => none) else none
    | none => none

theorem foldl_set (off : Nat) : ∀ (vs : List Value) (k : Nat) (cs : Array Value), off + k + vs.length ≤ cs.size →
    ((vs.zipIdx k).foldl (fun (cs : Array Value) (p : Value × Nat) => cs.setIfInBounds (off + p.2) p.1) cs).size = cs.size ∧
    ∀ j, ((vs.zipIdx k).foldl (fun (cs : Array Value) (p : Value × Nat) => cs.setIfInBounds (off + p.2) p.1) cs)[j]? = if off + k ≤ j ∧ j < off + k + vs.length then vs[j - (off + k)]? else cs[j]?
  | [], k, cs, h => ⟨rfl, fun j => by rw [if_neg (by simp only [List.length_nil]; omega)]; rfl⟩
  | v :: vs, k, cs, h => by
    simp only [List.zipIdx_cons, List.foldl_cons]
    simp only [List.length_cons] at h
    obtain ⟨h1, h2⟩ := foldl_set off vs (k + 1) (cs.setIfInBounds (off + k) v) (by simp; omega)
    refine ⟨by rw [h1]; simp, fun j => ?_⟩
    rw [h2 j]
    by_cases c1 : j = off + k
    · subst c1
      rw [if_neg (by omega), if_pos ⟨Nat.le_refl _, by simp⟩, Nat.sub_self]
      simp [show off + k < cs.size by omega]
    · rw [Array.getElem?_setIfInBounds_ne (by omega)]
      by_cases c2 : off + (k + 1) ≤ j ∧ j < off + (k + 1) + vs.length
      · rw [if_pos c2, if_pos (by simp; omega), show j - (off + k) = (j - (off + (k + 1))) + 1 by omega, List.getElem?_cons_succ]
      · rw [if_neg c2, if_neg (by simp; omega)]

theorem over_get {o : Nat} {vs cs r : List Value} (h : over o vs cs = some r) (hv : vs ≠ []) (j : Nat) : r[j]? = if o ≤ j ∧ j < o + vs.length then vs[j - o]? else cs[j]? := by
  obtain ⟨h1, h2⟩ := over_eq h
  have h3 := h2 hv
  subst h1
  by_cases c1 : j < o
  · rw [if_neg (by omega), List.append_assoc, List.getElem?_append_left (by simp; omega), List.getElem?_take, if_pos c1]
  · by_cases c2 : j < o + vs.length
    · rw [if_pos (by omega), List.append_assoc, List.getElem?_append_right (by simp; omega), List.getElem?_append_left (by simp; omega)]
      congr 1
      simp; omega
    · rw [if_neg (by omega), List.getElem?_append_right (by simp; omega), List.getElem?_drop]
      congr 1
      simp; omega

theorem over_len {o : Nat} {vs cs r : List Value} (h : over o vs cs = some r) (hv : vs ≠ []) : r.length = cs.length := by
  obtain ⟨h1, h2⟩ := over_eq h
  have h3 := h2 hv
  subst h1; simp; omega

theorem fillL_ok {place : Nat → Option (Nat × Nat)} : ∀ {ps : List (Nat × Value)} {cs rs : List Value}, fillL place ps cs = some rs → Instr.fill place cs.toArray ps = some rs.toArray
  | [], cs, rs, h => by simp only [fillL, Option.some.injEq] at h; subst h; rfl
  | p :: r, cs, rs, h => by
    obtain ⟨i, v⟩ := p
    simp only [fillL] at h
    split at h
    · rename_i off size hp
      split at h
      · cases h
      · rename_i x xs hv
        cases hb : Nat.beq (x :: xs).length size with
        | false => rw [hb] at h; cases h
        | true =>
          rw [hb] at h
          simp only [cond_true] at h
          split at h
          · rename_i cs' ho
            have hl := Nat.eq_of_beq_eq_true hb
            have ih := fillL_ok h
            have h3 := (over_eq ho).2 (by simp)
            have hcells : v.cells = (x :: xs).toArray := by rw [partL_ok, hv]
            simp only [Instr.fill, hp, hcells]
            rw [if_neg (by simp at hl h3 ⊢; omega)]
            have hf := foldl_set off (x :: xs) 0 cs.toArray (by simpa using h3)
            have hzip : (x :: xs).toArray.zipIdx.foldl (fun (cs : Array Value) (y : Value × Nat) => match y with | (c, j) => cs.setIfInBounds (off + j) c) cs.toArray = ((x :: xs).zipIdx 0).foldl (fun (cs : Array Value) (p : Value × Nat) => cs.setIfInBounds (off + p.2) p.1) cs.toArray := by
              rw [_root_.Array.zipIdx_toArray, ← Array.foldl_toList]
            have he : ((x :: xs).toArray.zipIdx.foldl (fun (cs : Array Value) (y : Value × Nat) => match y with | (c, j) => cs.setIfInBounds (off + j) c) cs.toArray) = cs'.toArray := by
              rw [hzip]
              apply Array.ext_getElem?
              intro j
              rw [hf.2 j]
              simp only [List.getElem?_toArray]
              rw [over_get ho (by simp) j]
              simp
            rw [he]; exact ih
          · cases h
    · cases h

def pvLen (d : TypeDesc) (v : Value) : Option Value :=
  match d, v with
  | .slice _, .slice _ n _ => some (.int .i64 n)
  | .string, .string s => some (.int .i64 s.size)
  | .array n _, _ => some (.int .i64 n)
  | .map _ _, .map none => some (.int .i64 0)
  | _, _ => none

def pvMax : Value → List Value → Option Value
  | v, [] => some v
  | .int k x, .int _ y :: r => pvMax (.int k (max x y)) r
  | _, _ => none
def pvMin : Value → List Value → Option Value
  | v, [] => some v
  | .int k x, .int _ y :: r => pvMin (.int k (min x y)) r
  | _, _ => none

def pvBuiltin (ts : List Ty) (b : Builtin) (tys : List TypeId) (vs : List Value) : Option Value :=
  match b, tys, vs with
  | .len, t :: _, v :: _ => match tyOf t ts with | some T => pvLen T.desc v | none => none
  | .cap, t :: _, .slice _ _ c :: _ => match tyOf t ts with | some { desc := .slice _, .. } => some (.int .i64 c) | _ => none
  | .max, _, .int k x :: r => pvMax (.int k x) r
  | .min, _, .int k x :: r => pvMin (.int k x) r
  | _, _, _ => none

def pvUn (op : UnOp) (v : Value) : Option Value :=
  match op, v with
  | .not, .bool b => some (.bool (!b))
  | .neg, .int k n => some (.int k (k.wrap (0 - n)))
  | _, _ => none

def pvConv (d : TypeDesc) (v : Value) : Option Value :=
  match d, v with
  | .int k, .int _ n => some (.int k (k.wrap n))
  | .string, .string s => some (.string s)
  | _, _ => none

def pvPart (off size : Nat) (agg : Bool) (cs : List Value) : Option Value :=
  match agg with
  | true => match cut off size cs with | some vs => some (.agg vs.toArray) | none => none
  | false => nth off cs

/-- What an operation computes from its operands alone. -/
def pv (ts : List Ty) (l : Sl) (op : Op) : Option Value :=
  match op with
  | .move x => evl l x
  | .assign x => evl l x
  | .pick c a b => match evl l c with
    | some (.bool true) => evl l a
    | some (.bool false) => evl l b
    | _ => none
  | .nilCheck x => match evl l x with
    | some (.pointer (some a)) => some (.pointer (some a))
    | some (.func (.func f) p q) => some (.func (.func f) p q)
    | some (.func (.yield f) p q) => some (.func (.yield f) p q)
    | some (.map m) => some (.map m)
    | _ => none
  | .unOp op _ x => match evl l x with | some v => pvUn op v | none => none
  | .binOp op t x y _ => match tyOf t ts, evl l x, evl l y with
    | some T, some a, some b => pvBin T.desc op a b
    | _, _, _ => none
  | .convert s d x => match tyOf s ts, tyOf d ts, evl l x with
    | some _, some T, some v => pvConv T.desc v
    | _, _, _ => none
  | .extract x i => match evl l x with | some (.tuple vs) => nth i vs.toList | _ => none
  | .field t x f => match fld ts t f, evl l x with
    | some (off, size, agg), some (.agg cs) => pvPart off size agg cs.toList
    | _, _ => none
  | .fieldAddr t x f => match fld ts t f, evl l x with
    | some (off, size, _), some (.pointer (some a)) => bif Nat.beq size 0 then none else some (.pointer (some (a.add off)))
    | _, _ => none
  | .makeFunc fn first cap => match evlL l first.toList, evlL l cap.toList with
    | some fs, some cs => some (.func fn fs.toArray cs.toArray)
    | _, _ => none
  | .build t parts => match tyOf t ts, evlP l parts.toList with
    | some T, some ps => match T.desc with
      | .struct fs => match places ts fs.toList with
        | some pl => match fillL (fun i => pl[i]?) ps (partL T.zero) with
          | some cs => some (.agg cs.toArray)
          | none => none
        | none => none
      | .array _ e => match tyOf e ts with
        | some E => match fillL (fun i => some (i * E.size, E.size)) ps (partL T.zero) with
          | some cs => some (.agg cs.toArray)
          | none => none
        | none => none
      | _ => none
    | _, _ => none
  | .makeInterface t x => match tyOf t ts, evl l x with
    | some T, some v => match T.desc with | .interface _ => none | _ => some (.iface t v)
    | _, _ => none
  | .call { callee := .builtin b, args, argTypes } => match evlL l args.toList with
    | some vs => pvBuiltin ts b argTypes.toList vs
    | none => none
  | _ => none

theorem pvMax_ok (P : Program) (w : World) : ∀ {r : List Value} {k : IntKind} {x : Int} {v : Value}, pvMax (.int k x) r = some v →
    (r.foldlM Builtin.max2 (.int k x) : Sem Value).run P w = .ok v w
  | [], k, x, v, h => by simp only [pvMax, Option.some.injEq] at h; subst h; rfl
  | .int k' y :: r, k, x, v, h => by
    simp only [pvMax] at h
    have ih := pvMax_ok P w h
    have e : max x y = if y > x then y else x := by split <;> omega
    rw [e] at ih
    simpa [List.foldlM_cons, Builtin.max2] using ih
  | .bool _ :: r, k, x, v, h => by cases h
  | .float _ _ :: r, k, x, v, h => by cases h
  | .complex _ _ _ :: r, k, x, v, h => by cases h
  | .string _ :: r, k, x, v, h => by cases h
  | .pointer _ :: r, k, x, v, h => by cases h
  | .slice _ _ _ :: r, k, x, v, h => by cases h
  | .map _ :: r, k, x, v, h => by cases h
  | .chan _ :: r, k, x, v, h => by cases h
  | .func _ _ _ :: r, k, x, v, h => by cases h
  | .nilFunc :: r, k, x, v, h => by cases h
  | .iface _ _ :: r, k, x, v, h => by cases h
  | .nilIface :: r, k, x, v, h => by cases h
  | .agg _ :: r, k, x, v, h => by cases h
  | .tuple _ :: r, k, x, v, h => by cases h

theorem pvMin_ok (P : Program) (w : World) : ∀ {r : List Value} {k : IntKind} {x : Int} {v : Value}, pvMin (.int k x) r = some v →
    (r.foldlM Builtin.min2 (.int k x) : Sem Value).run P w = .ok v w
  | [], k, x, v, h => by simp only [pvMin, Option.some.injEq] at h; subst h; rfl
  | .int k' y :: r, k, x, v, h => by
    simp only [pvMin] at h
    have ih := pvMin_ok P w h
    have e : min x y = if y < x then y else x := by split <;> omega
    rw [e] at ih
    simpa [List.foldlM_cons, Builtin.min2] using ih
  | .bool _ :: r, k, x, v, h => by cases h
  | .float _ _ :: r, k, x, v, h => by cases h
  | .complex _ _ _ :: r, k, x, v, h => by cases h
  | .string _ :: r, k, x, v, h => by cases h
  | .pointer _ :: r, k, x, v, h => by cases h
  | .slice _ _ _ :: r, k, x, v, h => by cases h
  | .map _ :: r, k, x, v, h => by cases h
  | .chan _ :: r, k, x, v, h => by cases h
  | .func _ _ _ :: r, k, x, v, h => by cases h
  | .nilFunc :: r, k, x, v, h => by cases h
  | .iface _ _ :: r, k, x, v, h => by cases h
  | .nilIface :: r, k, x, v, h => by cases h
  | .agg _ :: r, k, x, v, h => by cases h
  | .tuple _ :: r, k, x, v, h => by cases h

theorem pvBuiltin_ok {P : Program} {ts : List Ty} (hT : TsOk P ts) {b : Builtin} {tys : List TypeId} {vs : List Value} {v : Value} (h : pvBuiltin ts b tys vs = some v) (ty : TypeId) (cs : Array Bool) (w : World) :
    (builtin b tys.toArray ty cs vs.toArray).run P w = .ok (.value v) w := by
  unfold pvBuiltin at h
  split at h
  · split at h
    · rename_i t r x r' T hT'
      obtain ⟨D, hu, hb⟩ := hT.run_und hT'
      have hu := hu w
      unfold pvLen at h
      split at h
      · rename_i hd; injection h with h; subst h; rw [hd] at hb; rw [blank_slice hb] at hu; simp [builtin, Builtin.len_, hu, goInt]
      · rename_i hd; injection h with h; subst h; rw [hd] at hb; rw [blank_string hb] at hu; simp [builtin, Builtin.len_, hu, goInt]
      · rename_i hd; injection h with h; subst h; rw [hd] at hb; rw [blank_array hb] at hu; simp [builtin, Builtin.len_, hu, goInt]
      · rename_i hd; injection h with h; subst h; rw [hd] at hb; rw [blank_map hb] at hu; simp [builtin, Builtin.len_, hu, goInt]
      · cases h
    · cases h
  · split at h
    · rename_i t r x n c r' T e sz by' z hT'
      obtain ⟨D, hu, hb⟩ := hT.run_und hT'
      have hu := hu w
      rw [blank_slice hb] at hu
      injection h with h; subst h
      simp [builtin, Builtin.cap_, hu, goInt]
    · cases h
  · have := pvMax_ok P w h
    simp [builtin, Builtin.max_]
    rw [this]; rfl
  · have := pvMin_ok P w h
    simp [builtin, Builtin.min_]
    rw [this]; rfl
  · cases h

theorem fld_ok {P : Program} {ts : List Ty} (hT : TsOk P ts) {t f off size : Nat} {agg : Bool} (h : fld ts t f = some (off, size, agg)) :
    ∃ fs fd, P.underlying t = some (.struct fs) ∧ fs[f]? = some fd ∧ fd.offset = off ∧ (∀ w, (sizeOf fd.type).run P w = .ok size w) ∧ (∀ w, (isAgg fd.type).run P w = .ok agg w) := by
  unfold fld at h
  split at h
  · rename_i fs sz by' z hT'
    obtain ⟨D, hD, hb⟩ := hT.und hT'
    obtain ⟨gs, rfl, hg⟩ := blank_struct hb
    split at h
    · rename_i fd hfd
      rw [← hg, List.getElem?_map] at hfd
      obtain ⟨gd, h1, h2⟩ := Option.map_eq_some_iff.1 hfd
      split at h
      · rename_i T hF
        injection h with h
        simp only [Prod.mk.injEq] at h
        obtain ⟨q1, q2, q3⟩ := h
        have e1 : fd.type = gd.type := by rw [← h2]; rfl
        have e2 : fd.offset = gd.offset := by rw [← h2]; rfl
        rw [e1] at hF
        exact ⟨gs, gd, hD, by simpa using h1, by rw [← e2]; exact q1, fun w => by rw [← q2]; exact hT.run_size hF w, fun w => by rw [← q3]; exact hT.run_agg hF w⟩
      · cases h
    · cases h
  · cases h

theorem pvPart_ok {P : Program} {ty off size : Nat} {agg : Bool} {cs : List Value} {v : Value} (h : pvPart off size agg cs = some v) (w : World) (hs : (sizeOf ty).run P w = .ok size w) (ha : (isAgg ty).run P w = .ok agg w) :
    (part ty cs.toArray off).run P w = .ok v w := by
  unfold pvPart at h
  cases agg with
  | true =>
    simp only at h
    split at h
    · rename_i vs hc
      injection h with h; subst h
      obtain ⟨h1, h2⟩ := cut_eq hc
      subst h1
      simp only [part, Sem.run_bind, ha, hs, Result.andThen_ok, if_true, Sem.run_pure]
      congr 2
      simp [List.extract_eq_take_drop]
    · cases h
  | false =>
    simp only at h
    have := nth_eq h
    simp [part, ha, this]

theorem places_ok {P : Program} {ts : List Ty} (hT : TsOk P ts) (w : World) : ∀ {gs : List Field} {pl : List (Nat × Nat)}, places ts (gs.map blankF) = some pl →
    (gs.mapM (fun f => do pure (f.offset, ← sizeOf f.type)) : Sem (List (Nat × Nat))).run P w = .ok pl w
  | [], pl, h => by simp only [List.map_nil, places, Option.some.injEq] at h; subst h; rfl
  | f :: r, pl, h => by
    simp only [List.map_cons, places] at h
    split at h
    · rename_i T ps hF hr
      injection h with h; subst h
      have ih := places_ok hT w hr
      have hF' : tyOf f.type ts = some T := hF
      simp only [List.mapM_cons, Sem.run_bind, hT.run_size hF' w, Result.andThen_ok, Sem.run_pure, ih]
      rfl
    · cases h

theorem run_convert_int {P : Program} {src d : TypeId} {k q : IntKind} {n : Int} {w : World} (hu : (underlying d).run P w = .ok (.int k) w) (hsrc : ∃ D, (underlying src).run P w = .ok D w) :
    (convert src d (.int q n)).run P w = .ok (.int k (k.wrap n)) w := by
  obtain ⟨D, hD⟩ := hsrc
  simp only [convert, Sem.run_bind, hu, hD, Result.andThen_ok]
  cases D <;> rfl
theorem run_convert_str {P : Program} {src d : TypeId} {s : ByteArray} {w : World} (hu : (underlying d).run P w = .ok .string w) (hsrc : ∃ D, (underlying src).run P w = .ok D w) :
    (convert src d (.string s)).run P w = .ok (.string s) w := by
  obtain ⟨D, hD⟩ := hsrc
  simp only [convert, Sem.run_bind, hu, hD, Result.andThen_ok]
  cases D <;> rfl

theorem pv_ok {P : Program} {ts : List Ty} (hT : TsOk P ts) {l : Sl} {a : Act} (hs : SlotsOk l a) {o : Oper} {v : Value} (h : pv ts l o.op = some v) (w : World) :
    (execOp a.eval o).run P w = .ok (.value v) w := by
  obtain ⟨dst, op, ty, pos, aft, gd⟩ := o
  simp only at h
  unfold pv at h
  split at h
  · simp [execOp, hs.eval h]
  · simp [execOp, hs.eval h]
  · split at h
    · rename_i hc; simp [execOp, hs.eval hc, hs.eval h, asBool]
    · rename_i hc; simp [execOp, hs.eval hc, hs.eval h, asBool]
    · cases h
  · split at h
    · rename_i hc; injection h with h; subst h; simp [execOp, hs.eval hc]
    · rename_i hc; injection h with h; subst h; simp [execOp, hs.eval hc]
    · rename_i hc; injection h with h; subst h; simp [execOp, hs.eval hc]
    · rename_i hc; injection h with h; subst h; simp [execOp, hs.eval hc]
    · cases h
  · split at h
    · rename_i hc
      unfold pvUn at h
      split at h
      · injection h with h; subst h; simp [execOp, hs.eval hc, Op.unary]
      · injection h with h; subst h; simp [execOp, hs.eval hc, Op.unary, Op.intArith]
      · cases h
    · cases h
  · split at h
    · rename_i T x y hTy hx hy
      obtain ⟨D, hD, hb⟩ := hT.und hTy
      have := pvBin_ok hD hb h w
      simp only [execOp, hs.eval hx, hs.eval hy]
      simp only [Sem.run_bind] at this ⊢
      rw [this]; rfl
    · cases h
  · split at h
    · rename_i src d x _ _ _ S T u hS hTy hx
      obtain ⟨D, hu, hb⟩ := hT.run_und hTy
      have hu := hu w
      obtain ⟨SD, hsu, _⟩ := hT.run_und hS
      unfold pvConv at h
      split at h
      · rename_i k q n hd; injection h with h; subst h
        rw [hd] at hb; rw [blank_int hb] at hu
        have := run_convert_int (P := P) (src := src) (d := d) (k := k) (q := q) (n := n) hu ⟨_, hsu w⟩
        simp only [execOp, hs.eval hx, Sem.run_bind, this, Result.andThen_ok, Sem.run_pure]
      · rename_i st hd; injection h with h; subst h
        rw [hd] at hb; rw [blank_string hb] at hu
        have := run_convert_str (P := P) (src := src) (d := d) (s := st) hu ⟨_, hsu w⟩
        simp only [execOp, hs.eval hx, Sem.run_bind, this, Result.andThen_ok, Sem.run_pure]
      · cases h
    · cases h
  · split at h
    · rename_i i _ vs hx
      have := nth_eq h
      have h2 : vs[i]? = some v := by simpa using this
      simp [execOp, hs.eval hx, Instr.extract, h2]
    · cases h
  · split at h
    · rename_i t x f off size agg cs hf hx
      obtain ⟨fs, fd, h1, h2, h3, h4, h5⟩ := fld_ok hT hf
      have hp := pvPart_ok (P := P) (ty := fd.type) h w (h4 w) (h5 w)
      simp only [execOp, hs.eval hx, Instr.field, Sem.run_bind, run_underlying h1, Result.andThen_ok, h2, asAgg, Sem.run_pure, h3]
      simp only [Array.toArray_toList] at hp
      rw [hp]; rfl
    · cases h
  · split at h
    · rename_i t x f off size agg ad hf hx
      obtain ⟨fs, fd, h1, h2, h3, h4, h5⟩ := fld_ok hT hf
      cases hz : Nat.beq size 0 with
      | true => rw [hz] at h; cases h
      | false =>
        rw [hz] at h
        simp only [cond_false, Option.some.injEq] at h
        subst h
        have hz' : size ≠ 0 := fun e => by subst e; cases hz
        simp only [execOp, hs.eval hx, Instr.fieldAt, Sem.run_bind, run_underlying h1, Result.andThen_ok, h2, Instr.sureAddr, Sem.run_pure, fieldPlace, h4, hz', if_false, h3]
    · cases h
  · split at h
    · rename_i fn first cap _ _ fs cs h1 h2
      injection h with h; subst h
      have e1 := evlL_ok hs h1
      have e2 := evlL_ok hs h2
      simp only [execOp, Instr.makeFunc, Sem.run_bind, Sem.run_pure, Result.andThen_ok]
      have q1 : first.map a.eval = fs.toArray := by rw [← e1]; apply Array.ext'; simp
      have q2 : cap.map a.eval = cs.toArray := by rw [← e2]; apply Array.ext'; simp
      rw [q1, q2]
    · cases h
  · split at h
    · rename_i t parts _ _ T ps hTy hp
      obtain ⟨D, hu, hb⟩ := hT.run_und hTy
      have hu := hu w
      have hz := hT.run_zero hTy w
      have e1 := evlP_ok hs hp
      have q1 : (parts.map fun x => match x with | (i, x) => (i, a.eval x)) = ps.toArray := by rw [← e1]; apply Array.ext'; simp
      split at h
      · rename_i fs hd
        rw [hd] at hb
        obtain ⟨gs, rfl, hgs⟩ := blank_struct hb
        split at h
        · rename_i pl hpl
          rw [← hgs] at hpl
          split at h
          · rename_i cs hf
            injection h with h; subst h
            have h3 := fillL_ok hf
            have h4 := places_ok hT w hpl
            have h5 : (gs.mapM fun f => do pure (f.offset, ← sizeOf f.type) : Sem (Array (Nat × Nat))).run P w = .ok pl.toArray w := by
              rw [Array.mapM_eq_mapM_toList]
              simp only [Sem.run_map, h4, Result.andThen_ok]
            simp only [execOp, Instr.build, Sem.run_bind, hz, hu, h5, Result.andThen_ok, q1, Sem.run_pure, partL_ok]
            rw [show (fun x => pl.toArray[x]?) = (fun i => pl[i]?) from by funext i; simp, h3]
            rfl
          · cases h
        · cases h
      · rename_i n e hd
        rw [hd] at hb; rw [blank_array hb] at hu
        split at h
        · rename_i E hE
          split at h
          · rename_i cs hf
            injection h with h; subst h
            have h3 := fillL_ok hf
            simp only [execOp, Instr.build, Sem.run_bind, hz, hu, hT.run_size hE w, Result.andThen_ok, q1, Sem.run_pure, partL_ok, h3]
          · cases h
        · cases h
      · cases h
    · cases h
  · split at h
    · rename_i t x T u hTy hx
      obtain ⟨D, hu, hb⟩ := hT.run_und hTy
      have hu := hu w
      split at h
      · cases h
      · rename_i hn
        injection h with h; subst h
        have hne : ∀ ms, D ≠ .interface ms := fun ms e => hn #[] (by rw [← hb, e]; rfl)
        simp only [execOp, hs.eval hx, Instr.makeInterface, Sem.run_bind, hu, Result.andThen_ok]
        cases D <;> first | rfl | exact absurd rfl (hne _)
    · cases h
  · split at h
    · rename_i b args argTypes _ vs hv
      have e1 := evlL_ok hs hv
      have q1 : args.map a.eval = vs.toArray := by rw [← e1]; apply Array.ext'; simp
      have := fun q => pvBuiltin_ok hT h ty q w
      simp only [execOp, resolve, invoke, Sem.run_bind, Sem.run_pure, Result.andThen_ok, q1]
      simp only [Array.toArray_toList] at this
      exact this _
    · cases h
  · cases h
end Go.Hw

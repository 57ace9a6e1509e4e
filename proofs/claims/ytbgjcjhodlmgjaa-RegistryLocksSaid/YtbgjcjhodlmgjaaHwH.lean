/-
  Hw, part H: the walk of a region that draws its order.
-/
import Derived.Test.YtbgjcjhodlmgjaaHwG
set_option linter.unusedVariables false
namespace Go.Hw
open Go

def tmpOf : Operand → Option Nat | .tmp t => some t | _ => none
/-- The slots that an operation reads, its guard's among them. -/
def opSlots (ops : Array Oper) (o : Oper) : List Nat :=
  (match guardSlot ops o.guard with | some p => [p.1] | none => []) ++ o.op.operands.toList.filterMap tmpOf
def pickS : List Nat → Sl → Sl
  | [], _ => []
  | s :: r, l => match look s l with | some v => (s, v) :: pickS r l | none => pickS r l
theorem pickS_look : ∀ {ss : List Nat} {l : Sl} {s : Nat} {v : Value}, look s (pickS ss l) = some v → s ∈ ss ∧ look s l = some v
  | [], _, _, _, h => by cases h
  | x :: r, l, s, v, h => by
    simp only [pickS] at h
    split at h
    · rename_i u hu
      by_cases hs : s = x
      · subst hs
        rw [look_cons_same] at h
        exact ⟨.head _, by rw [hu]; exact h⟩
      · rw [look_cons_ne hs] at h
        obtain ⟨h1, h2⟩ := pickS_look h
        exact ⟨.tail _ h1, h2⟩
    · obtain ⟨h1, h2⟩ := pickS_look h
      exact ⟨.tail _ h1, h2⟩

def preds (o : Oper) : List Nat := o.after.toList.filterMap fun e => if Region.binds .any e then some e.on else none
theorem mem_preds {o : Oper} {p : Nat} : p ∈ preds o ↔ ∃ e ∈ o.after.toList, Region.binds .any e = true ∧ e.on = p := by
  unfold preds
  rw [List.mem_filterMap]
  constructor
  · rintro ⟨e, he, h⟩
    split at h
    · rename_i hb; injection h with h; exact ⟨e, he, hb, h⟩
    · cases h
  · rintro ⟨e, he, hb, h⟩
    exact ⟨e, he, by rw [if_pos hb, h]⟩

/-- What is done: the operation's place, its slot, its value; what of the owned it needs where it is promised. -/
structure Dn where
  i : Nat
  d : Option Nat
  v : Value
  nd : List Asn
  pr : Bool

def sl : List Dn → Sl → Sl
  | [], l0 => l0
  | ⟨_, d, v, _, _⟩ :: r, l0 => putS d v (sl r l0)
theorem sl_cons (x : Dn) (r : List Dn) (l0 : Sl) : sl (x :: r) l0 = putS x.d x.v (sl r l0) := rfl

/-- Whatever the memory, as long as what is needed lies there: the operation runs and its value is v; or it does not run. -/
def Prom (C : Ctx) (ops : Array Oper) (l : Sl) (nd : List Asn) (h : Ro) (o : Oper) (v : Value) : Prop :=
  ∀ a w, SlotsOk l a → (∀ A ∈ nd, ∃ D, A.holds D (mem w)) → Le h (mem w) →
    (Region.wanted o (yielded ops a.tmps) = true ∧ isDefer o.op = false ∧ (execOp a.eval o).run C.P w = .ok (.value v) w) ∨ (Region.wanted o (yielded ops a.tmps) = false ∧ v = undef)

theorem Prom.le {C : Ctx} {ops : Array Oper} {l : Sl} {nd : List Asn} {h h' : Ro} {o : Oper} {v : Value} (p : Prom C ops l nd h o v) (hl : Le h h') : Prom C ops l nd h' o v :=
  fun a w hs hn hm => p a w hs hn (hl.trans hm)

def WFV (C : Ctx) (ops : Array Oper) (l0 : Sl) (h : Ro) : List Dn → Prop
  | [] => True
  | x :: r => WFV C ops l0 h r ∧ (∀ y ∈ r, y.i ≠ x.i) ∧ ∃ o, ops[x.i]? = some o ∧ o.dst = x.d ∧ (∀ p ∈ preds o, ∃ y ∈ r, y.i = p) ∧
      (x.pr = true → Prom C ops (pickS (opSlots ops o) (sl r l0)) x.nd h o x.v)

theorem WFV.le {C : Ctx} {ops : Array Oper} {l0 : Sl} {h h' : Ro} (hl : Le h h') : ∀ {Vs : List Dn}, WFV C ops l0 h Vs → WFV C ops l0 h' Vs
  | [], _ => trivial
  | x :: r, ⟨h1, h2, o, h3, h4, h5, h6⟩ => ⟨h1.le hl, h2, o, h3, h4, h5, fun e => (h6 e).le hl⟩

/-- A slot is written once within a region, and whoever else names it is ordered against its writer. -/
def NamesOk (ops : Array Oper) : Prop :=
  ∀ i j oi oj s, ops[i]? = some oi → ops[j]? = some oj → oi.dst = some s → i ≠ j → oj.dst ≠ some s ∧ (s ∈ opSlots ops oj → i ∈ preds oj ∨ j ∈ preds oi)

/-- What is fixed by the region's text. -/
structure RegOk (N : Nat) (ops : Array Oper) : Prop where
  inn : ∀ (i : Nat) (o : Oper), ops[i]? = some o → ∀ p ∈ preds o, p < ops.size
  names : NamesOk ops
  dst : ∀ (i : Nat) (o : Oper), ops[i]? = some o → dstOk N o.dst = true

structure GSt (C : Ctx) (ds : List Deferred) (l0 : Sl) (Vs : List Dn) (Es : List Asn) (h : Ro) (ops : Array Oper) (is : List Nat) (a : Act) (w : World) : Prop where
  reg : RegOk C.N ops
  sched : Sched ops is
  all : ∀ i, i < ops.size → (∃ x ∈ Vs, x.i = i) ∨ i ∈ is
  closed : ∀ (i : Nat) (o : Oper), ops[i]? = some o → i ∉ is → ∀ p ∈ preds o, p ∉ is
  wf : WFV C ops l0 h Vs
  real : ∀ x ∈ Vs, x.pr = false → x.i ∉ is
  nd : ∀ x ∈ Vs, x.i ∈ is → ∀ A ∈ x.nd, A ∈ Es
  size : a.tmps.size = C.N
  defers : a.defers = ds
  hp : Hp C.w0 C.X0 C.h0 Es h w
  slots0 : ∀ s v, look s l0 = some v → (∀ (i : Nat) (o : Oper), ops[i]? = some o → o.dst = some s → i ∈ is) → a.tmps[s]? = some v
  slots1 : ∀ x ∈ Vs, x.i ∉ is → ∀ s, x.d = some s → a.tmps[s]? = some x.v

def GD (C : Ctx) (ds : List Deferred) (l0 : Sl) (Vs : List Dn) (Es : List Asn) (h : Ro) (ops : Array Oper) (K : List Item) : Prop :=
  ∀ is a w, GSt C ds l0 Vs Es h ops is a w → Todo C.P C.ro (.inRegion ops is :: K) C.Q a w

section
variable {C : Ctx} {ds : List Deferred} {l0 : Sl} {Vs : List Dn} {Es : List Asn} {h : Ro} {ops : Array Oper} {K : List Item} {is : List Nat} {a : Act} {w : World}

theorem sl_look {s : Nat} {v : Value} : ∀ {Vs : List Dn}, look s (sl Vs l0) = some v → (∃ x ∈ Vs, x.d = some s ∧ x.v = v) ∨ (look s l0 = some v ∧ ∀ x ∈ Vs, x.d ≠ some s)
  | [], e => .inr ⟨e, fun _ h => by cases h⟩
  | x :: r, e => by
    simp only [sl_cons, putS] at e
    cases hd : x.d with
    | none =>
      rw [hd] at e
      rcases sl_look e with ⟨y, h1, h2⟩ | ⟨h1, h2⟩
      · exact .inl ⟨y, .tail _ h1, h2⟩
      · refine .inr ⟨h1, fun y hy => ?_⟩
        rcases List.mem_cons.1 hy with rfl | hy
        · simp [hd]
        · exact h2 y hy
    | some d =>
      rw [hd] at e
      simp only at e
      by_cases hs : s = d
      · subst hs
        rw [look_cons_same] at e
        injection e with e
        exact .inl ⟨x, .head _, hd, e⟩
      · rw [look_cons_ne hs] at e
        rcases sl_look e with ⟨y, h1, h2⟩ | ⟨h1, h2⟩
        · exact .inl ⟨y, .tail _ h1, h2⟩
        · refine .inr ⟨h1, fun y hy => ?_⟩
          rcases List.mem_cons.1 hy with rfl | hy
          · simp [hd, Ne.symm hs]
          · exact h2 y hy

theorem WFV.get : ∀ {Vs : List Dn}, WFV C ops l0 h Vs → ∀ x ∈ Vs, ∃ r, (∀ y ∈ r, y ∈ Vs) ∧ WFV C ops l0 h r ∧ (∀ y ∈ r, y.i ≠ x.i) ∧ ∃ o, ops[x.i]? = some o ∧ o.dst = x.d ∧ (∀ p ∈ preds o, ∃ y ∈ r, y.i = p) ∧
      (x.pr = true → Prom C ops (pickS (opSlots ops o) (sl r l0)) x.nd h o x.v)
  | z :: r, ⟨h1, h2, h3⟩, x, hx => by
    rcases List.mem_cons.1 hx with rfl | hx
    · exact ⟨r, fun y hy => .tail _ hy, h1, h2, h3⟩
    · obtain ⟨r', q1, q2⟩ := h1.get x hx
      exact ⟨r', fun y hy => .tail _ (q1 y hy), q2⟩

/-- The slots that an operation reads hold, at its turn, what the list says. -/
theorem GSt.reads (g : GSt C ds l0 Vs Es h ops is a w) {r : List Dn} (hr : ∀ y ∈ r, y ∈ Vs) (hwf : WFV C ops l0 h r) {i : Nat} {o : Oper} (ho : ops[i]? = some o) (hi : i ∈ is) (hpr : ∀ p ∈ preds o, ∃ y ∈ r, y.i = p) (hnot : ∀ y ∈ r, y.i ≠ i)
    (hpe : ∀ p ∈ preds o, p ∉ is) : SlotsOk (pickS (opSlots ops o) (sl r l0)) a := by
  intro s v e
  obtain ⟨hs, e⟩ := pickS_look e
  rcases sl_look e with ⟨y, hy, hd, hv⟩ | ⟨e0, hno⟩
  · obtain ⟨r', hr', hwf', hne', oy, hoy, hdy, hpy, _⟩ := hwf.get y hy
    have hyi : y.i ≠ i := hnot y hy
    rw [← hv]
    refine g.slots1 y (hr y hy) ?_ s hd
    rcases (g.reg.names y.i i oy o s hoy ho (hdy.trans hd) hyi).2 hs with h1 | h1
    · exact hpe _ h1
    · -- the writer would wait for the reader: but it was done before it
      obtain ⟨z, hz, hzi⟩ := hpy i h1
      exact absurd hzi (hnot z (hr' z hz))
  · refine g.slots0 s v e0 fun j oj hoj hdj => ?_
    by_cases hji : j = i
    · rw [hji]; exact hi
    · rcases (g.reg.names j i oj o s hoj ho hdj hji).2 hs with h1 | h1
      · obtain ⟨y, hy, hyj⟩ := hpr j h1
        obtain ⟨_, _, _, _, oy, hoy, hdy, _⟩ := hwf.get y hy
        rw [hyj, hoj] at hoy
        injection hoy with hoy
        subst hoy
        exact absurd (hdy.symm.trans hdj) (hno y hy)
      · rcases Classical.em (j ∈ is) with h2 | h2
        · exact h2
        · exact absurd hi (g.closed j oj hoj h2 i h1)

/-- The head of a schedule waits for nothing. -/
theorem GSt.free {i : Nat} (g : GSt C ds l0 Vs Es h ops (i :: is) a w) {o : Oper} (ho : ops[i]? = some o) : ∀ p ∈ preds o, p ∉ i :: is := fun p hp => by
  obtain ⟨e, he, hb, rfl⟩ := mem_preds.1 hp
  exact g.sched.2.2 [] i is rfl o ho e he hb

/-- One operation behind: its slot is written. -/
theorem GSt.put {i : Nat} (g : GSt C ds l0 Vs Es h ops (i :: is) a w) {o : Oper} (ho : ops[i]? = some o) {v : Value} {w' : World} {Es' : List Asn} {h' : Ro} {Vs' : List Dn} (hl : Le h h')
    (hp : Hp C.w0 C.X0 C.h0 Es' h' w') (hsub : ∀ x ∈ Vs', x ∈ Vs ∨ (x.i = i ∧ x.d = o.dst ∧ x.v = v)) (hsup : ∀ x ∈ Vs, x ∈ Vs') (hin : ∃ x ∈ Vs', x.i = i ∧ x.d = o.dst ∧ x.v = v)
    (hwf : WFV C ops l0 h' Vs') (hnd : ∀ x ∈ Vs, x.i ∈ is → ∀ A ∈ x.nd, A ∈ Es') (hold : ∀ x ∈ Vs, x.i = i → x.v = v) :
    GSt C ds l0 Vs' Es' h' ops is (a.put o.dst v) w' := by
  have hnot : i ∉ is := (List.nodup_cons.1 g.sched.1).1
  have hput : ∀ s u, o.dst ≠ some s → a.tmps[s]? = some u → (a.put o.dst v).tmps[s]? = some u := by
    intro s u hne hu
    cases hd : o.dst with
    | none => simpa [Act.put] using hu
    | some d =>
      have : d ≠ s := fun e => hne (by rw [hd, e])
      simp [Act.put, this, hu]
  have hown : ∀ s, o.dst = some s → (a.put o.dst v).tmps[s]? = some v := by
    intro s hs
    have h1 := g.reg.dst i o ho
    rw [hs] at h1 ⊢
    have hlt : s < a.tmps.size := by rw [g.size]; exact of_decide_eq_true (by simpa [dstOk, Nat.blt_eq] using h1)
    simp [Act.put, hlt]
  refine ⟨g.reg, g.sched.tail, fun j hj => ?_, fun j oj hoj hj p hp => ?_, hwf, fun x hx hx0 => ?_, fun x hx hxi => ?_, ?_, ?_, hp, fun s u hs hall => ?_, fun x hx hxi s hs => ?_⟩
  · rcases g.all j hj with ⟨x, hx, hxj⟩ | hj
    · exact .inl ⟨x, hsup x hx, hxj⟩
    · rcases List.mem_cons.1 hj with rfl | hj
      · obtain ⟨x, hx, h1, _⟩ := hin
        exact .inl ⟨x, hx, h1⟩
      · exact .inr hj
  · intro hpi
    by_cases hji : j = i
    · subst hji
      rw [ho] at hoj; injection hoj with hoj; subst hoj
      exact g.free ho p hp (.tail _ hpi)
    · exact g.closed j oj hoj (fun h1 => (List.mem_cons.1 h1).elim hji hj) p hp (.tail _ hpi)
  · rcases hsub x hx with h1 | ⟨h1, _⟩
    · exact fun h2 => g.real x h1 hx0 (.tail _ h2)
    · rw [h1]; exact hnot
  · rcases hsub x hx with h1 | ⟨h1, _⟩
    · exact hnd x h1 hxi
    · rw [h1] at hxi; exact absurd hxi hnot
  · have := g.size; cases hd : o.dst <;> simp [Act.put, this]
  · have := g.defers; cases hd : o.dst <;> simp [Act.put, this]
  · have hne : o.dst ≠ some s := fun e => hnot (hall i o ho e)
    exact hput s u hne (g.slots0 s u hs fun j oj hoj hdj => .tail _ (hall j oj hoj hdj))
  · rcases hsub x hx with h1 | ⟨h1, h2, h3⟩
    · by_cases hxe : x.i = i
      · obtain ⟨_, _, _, _, ox, hox, hdx, _⟩ := g.wf.get x h1
        rw [hxe, ho] at hox; injection hox with hox; subst hox
        rw [hown s (hdx.trans hs), hold x h1 hxe]
      · refine hput s x.v (fun hds => ?_) (g.slots1 x h1 (fun h2 => (List.mem_cons.1 h2).elim hxe hxi) s hs)
        obtain ⟨_, _, _, _, ox, hox, hdx, _⟩ := g.wf.get x h1
        exact (g.reg.names i x.i o ox s ho hox hds (Ne.symm hxe)).1 (hdx.trans hs)
    · rw [h3]; exact hown s (h2.symm.trans hs)

/-- A promised operation at the head of the schedule is carried out. -/
theorem GSt.prom {i : Nat} (g : GSt C ds l0 Vs Es h ops (i :: is) a w) {x : Dn} (hx : x ∈ Vs) (hxi : x.i = i)
    (k : ∀ a', GSt C ds l0 Vs Es h ops is a' w → Todo C.P C.ro (.inRegion ops is :: K) C.Q a' w) : Todo C.P C.ro (.inRegion ops (i :: is) :: K) C.Q a w := by
  obtain ⟨r, hr, hwf, hne, o, ho, hd, hpr, hP⟩ := g.wf.get x hx
  have hpt : x.pr = true := by
    cases hp : x.pr with
    | true => rfl
    | false => exact absurd (by rw [hxi]; exact .head _) (g.real x hx hp)
  subst hxi
  have hs := g.reads hr hwf ho (.head _) hpr hne (g.free ho)
  have hnd : ∀ A ∈ x.nd, ∃ D, A.holds D (mem w) := fun A hA => g.hp.get (g.nd x hx (.head _) A hA)
  have hold : ∀ y ∈ Vs, y.i = x.i → y.v = x.v := by
    have key : ∀ {Vs : List Dn}, WFV C ops l0 h Vs → ∀ x ∈ Vs, ∀ y ∈ Vs, y.i = x.i → y.v = x.v := by
      intro Vs
      induction Vs with
      | nil => intro _ x hx; cases hx
      | cons z r ih =>
        intro ⟨h1, h2, _⟩ x hx y hy e
        rcases List.mem_cons.1 hx with hxz | hx'
        · subst hxz
          rcases List.mem_cons.1 hy with hyz | hy'
          · rw [hyz]
          · exact absurd e (h2 y hy')
        · rcases List.mem_cons.1 hy with hyz | hy'
          · subst hyz; exact absurd e.symm (h2 x hx')
          · exact ih h1 x hx' y hy' e
    exact fun y hy e => key g.wf x hx y hy e
  have nxt := fun v (hv : x.v = v) => g.put ho (v := v) (Vs' := Vs) (Le.refl h) g.hp (fun y hy => .inl hy) (fun y hy => hy) ⟨x, hx, rfl, hd.symm, hv⟩ g.wf (fun y hy hyi => g.nd y hy (.tail _ hyi)) (fun y hy e => (hold y hy e).trans hv)
  rcases hP hpt a w hs hnd g.hp.ro with ⟨hw, hdf, hrun⟩ | ⟨hw, hv⟩
  · exact todo_value ho hw (fun c e => by rw [e] at hdf; cases hdf) hrun (k _ (nxt _ rfl))
  · exact todo_unwanted ho hw (k _ (nxt _ hv))

/-! ### The rules -/
def inVs (Vs : List Dn) (p : Nat) : Bool := Vs.any fun x => Nat.beq x.i p
theorem inVs_ok {p : Nat} (e : inVs Vs p = true) : ∃ y ∈ Vs, y.i = p := by
  simp only [inVs, List.any_eq_true] at e
  obtain ⟨y, hy, e⟩ := e
  exact ⟨y, hy, Nat.eq_of_beq_eq_true e⟩
theorem inVs_no {p : Nat} (e : inVs Vs p = false) : ∀ y ∈ Vs, y.i ≠ p := by
  intro y hy e'
  have : inVs Vs p = true := by simp only [inVs, List.any_eq_true]; exact ⟨y, hy, by rw [e']; exact Nat.beq_refl p⟩
  rw [this] at e; cases e

/-- Everything that operation i waits for is done, and it is not. -/
def canB (Vs : List Dn) (i : Nat) (o : Oper) : Bool := (preds o).all (inVs Vs) && !inVs Vs i

theorem GD_prom {i : Nat} {o : Oper} {v : Value} {nd : List Asn} (ho : ops[i]? = some o) (hc : canB Vs i o = true) (hnd : ∀ A ∈ nd, A ∈ Es) (hP : Prom C ops (pickS (opSlots ops o) (sl Vs l0)) nd h o v)
    (g : GD C ds l0 (⟨i, o.dst, v, nd, true⟩ :: Vs) Es h ops K) : GD C ds l0 Vs Es h ops K := by
  simp only [canB, Bool.and_eq_true, List.all_eq_true, Bool.not_eq_true'] at hc
  intro is a w s
  have hin : i ∈ is := by
    rcases s.all i (Array.getElem?_eq_some_iff.1 ho).1 with ⟨x, hx, e⟩ | h1
    · exact absurd e (inVs_no hc.2 x hx)
    · exact h1
  refine g is a w ⟨s.reg, s.sched, fun j hj => (s.all j hj).imp (fun ⟨x, hx, e⟩ => ⟨x, .tail _ hx, e⟩) id, s.closed, ⟨s.wf, inVs_no hc.2, o, ho, rfl, fun p hp => inVs_ok (hc.1 p hp), fun _ => hP⟩, fun x hx e => ?_, fun x hx hxi => ?_, s.size, s.defers, s.hp, s.slots0, fun x hx hxi => ?_⟩
  · rcases List.mem_cons.1 hx with rfl | hx
    · cases e
    · exact s.real x hx e
  · rcases List.mem_cons.1 hx with rfl | hx
    · exact hnd
    · exact s.nd x hx hxi
  · rcases List.mem_cons.1 hx with rfl | hx
    · exact absurd hin hxi
    · exact s.slots1 x hx hxi

/-- What operation i waits for, near and far. -/
def ancG (ops : Array Oper) : Nat → List Nat → List Nat
  | 0, acc => acc
  | j + 1, acc => ancG ops j (bif acc.contains j then (match ops[j]? with | some o => preds o ++ acc | none => acc) else acc)
def anc (ops : Array Oper) (i : Nat) : List Nat := ancG ops (i + 1) [i]

theorem ancG_ok (P : Nat → Prop) (hP : ∀ (j : Nat) (o : Oper), ops[j]? = some o → P j → ∀ p ∈ preds o, P p) : ∀ (n : Nat) (acc : List Nat), (∀ p ∈ acc, P p) → ∀ p ∈ ancG ops n acc, P p
  | 0, _, h => h
  | j + 1, acc, h => by
    unfold ancG
    refine ancG_ok P hP j _ ?_
    cases hc : acc.contains j with
    | false => exact h
    | true =>
      simp only [cond_true]
      cases ho : ops[j]? with
      | none => exact h
      | some o =>
        intro p hp
        rcases List.mem_append.1 hp with h1 | h1
        · exact hP j o ho (h j (by simpa using hc)) p h1
        · exact h p h1

def AllIn (Es : List Asn) : List Asn → Prop
  | [] => True
  | A :: r => A ∈ Es ∧ AllIn Es r
theorem AllIn.ok {Es : List Asn} : ∀ {r : List Asn}, AllIn Es r → ∀ A ∈ r, A ∈ Es
  | _ :: _, ⟨h1, h2⟩, A, hA => (List.mem_cons.1 hA).elim (fun e => e ▸ h1) (fun h => h2.ok A h)
/-- What the promised ones need is there still. -/
def NdOk (ps : List Nat) (Es : List Asn) : List Dn → Prop
  | [] => True
  | x :: r => (bif x.pr then (bif ps.contains x.i then True else AllIn Es x.nd) else True) ∧ NdOk ps Es r
theorem NdOk.ok {ps : List Nat} {Es : List Asn} : ∀ {Vs : List Dn}, NdOk ps Es Vs → ∀ x ∈ Vs, x.pr = true → x.i ∉ ps → ∀ A ∈ x.nd, A ∈ Es
  | x :: r, ⟨h1, h2⟩, y, hy, hp, hn => by
    rcases List.mem_cons.1 hy with rfl | hy
    · have : ps.contains y.i = false := by
        cases hc : ps.contains y.i with
        | false => rfl
        | true => exact absurd (by simpa using hc) hn
      rw [hp, this] at h1
      exact h1.ok
    · exact h2.ok y hy hp hn

/-- An operation met as it comes. -/
def Real (C : Ctx) (ds : List Deferred) (l0 : Sl) (Vs : List Dn) (Es : List Asn) (h : Ro) (ops : Array Oper) (K : List Item) (i : Nat) : Prop :=
  ∃ o, ops[i]? = some o ∧ wantedB ops (pickS (opSlots ops o) (sl Vs l0)) o.guard = some true ∧ isDefer o.op = false ∧
    OpTo C (pickS (opSlots ops o) (sl Vs l0)) Es h o fun v Es' h' => Le h h' ∧ NdOk (anc ops i) Es' Vs ∧ GD C ds l0 (⟨i, o.dst, v, [], false⟩ :: Vs) Es' h' ops K

/-- Whatever is not done and none of 'cs' still waits for something. -/
def onlyB (Vs : List Dn) (cs : List Nat) (ops : Array Oper) : Bool :=
  (List.range ops.size).all fun j => inVs Vs j || cs.contains j || (match ops[j]? with | some o => !(preds o).all (inVs Vs) | none => true)

theorem GD_reals {cs : List Nat} (hb : onlyB Vs cs ops = true) (hne : ∃ i ∈ cs, i < ops.size ∧ inVs Vs i = false) (hr : ∀ i ∈ cs, Real C ds l0 Vs Es h ops K i) : GD C ds l0 Vs Es h ops K := by
  intro is
  induction is with
  | nil =>
    intro a w s
    obtain ⟨i, _, hi, hn⟩ := hne
    rcases s.all i hi with ⟨x, hx, e⟩ | h1
    · exact absurd e (inVs_no hn x hx)
    · cases h1
  | cons i is ih =>
    intro a w s
    rcases Classical.em (∃ x ∈ Vs, x.i = i) with ⟨x, hx, e⟩ | hno
    · exact s.prom hx e fun a' s' => ih a' w s'
    · have hilt := s.sched.2.1 i (.head _)
      have ho : ops[i]? = some ops[i] := Array.getElem?_eq_getElem hilt
      have hpe := s.free ho
      have hpin : ∀ p ∈ preds ops[i], ∃ y ∈ Vs, y.i = p := fun p hp => by
        rcases s.all p (s.reg.inn i _ ho p hp) with h1 | h1
        · exact h1
        · exact absurd h1 (hpe p hp)
      have hic : i ∈ cs := by
        simp only [onlyB, List.all_eq_true, List.mem_range, Bool.or_eq_true] at hb
        rcases hb i hilt with (h1 | h1) | h1
        · exact absurd (inVs_ok h1) hno
        · simpa using h1
        · rw [ho] at h1
          simp only [Bool.not_eq_true'] at h1
          have : (preds ops[i]).all (inVs Vs) = true := by
            rw [List.all_eq_true]
            intro p hp
            obtain ⟨y, hy, e⟩ := hpin p hp
            simp only [inVs, List.any_eq_true]
            exact ⟨y, hy, by rw [e]; exact Nat.beq_refl p⟩
          rw [this] at h1; cases h1
      obtain ⟨o, ho', hg, hx, hO⟩ := hr i hic
      rw [ho] at ho'; injection ho' with ho'
      rw [ho'] at ho hpe hpin
      clear ho'
      have hnot : ∀ y ∈ Vs, y.i ≠ i := fun y hy e => hno ⟨y, hy, e⟩
      have hs := s.reads (fun y hy => hy) s.wf ho (.head _) hpin hnot hpe
      have hw := wantedB_ok hs hg
      have hnd : ∀ c, o.op ≠ .defer c := fun c e => by rw [e] at hx; cases hx
      have hanc : ∀ p ∈ anc ops i, p ∉ is := by
        refine ancG_ok (fun p => p ∉ is) (fun j oj hoj hj p hp hpi => ?_) _ _ (fun p hp => ?_)
        · by_cases hji : j = i
          · subst hji
            rw [ho] at hoj; injection hoj with hoj; subst hoj
            exact hpe p hp (.tail _ hpi)
          · exact s.closed j oj hoj (fun h1 => (List.mem_cons.1 h1).elim hji hj) p hp (.tail _ hpi)
        · rw [List.mem_singleton] at hp; rw [hp]; exact (List.nodup_cons.1 s.sched.1).1
      have fin : ∀ v w' Es' h', Hp C.w0 C.X0 C.h0 Es' h' w' → (Le h h' ∧ NdOk (anc ops i) Es' Vs ∧ GD C ds l0 (⟨i, o.dst, v, [], false⟩ :: Vs) Es' h' ops K) →
          Todo C.P C.ro (.inRegion ops is :: K) C.Q (a.put o.dst v) w' := by
        rintro v w' Es' h' hp ⟨hl, hN, hG⟩
        refine hG is _ _ (s.put ho (Vs' := ⟨i, o.dst, v, [], false⟩ :: Vs) hl hp (fun x hx => ?_) (fun x hx => .tail _ hx) ⟨_, .head _, rfl, rfl, rfl⟩ ⟨s.wf.le hl, hnot, o, ho, rfl, hpin, fun e => by cases e⟩ (fun x hx hxi => ?_) (fun x hx e => absurd e (hnot x hx)))
        · rcases List.mem_cons.1 hx with rfl | hx
          · exact .inr ⟨rfl, rfl, rfl⟩
          · exact .inl hx
        · cases hp : x.pr with
          | true => exact hN.ok x hx hp fun h1 => hanc _ h1 hxi
          | false => exact absurd (.tail _ hxi) (s.real x hx hp)
      rcases hO a w hs s.hp with ⟨v, w', Es', h', hr, hp, hG⟩ | ⟨w', Es', h', hr, hp, hG⟩ | ⟨f, args, w1, hr, hc⟩ | ⟨r, f, tmps, assign, body, w1, n, hr, hc⟩
      · exact todo_value ho hw hnd hr (fin _ _ _ _ hp hG)
      · exact todo_unit ho hw hnd hr (fin _ _ _ _ hp hG)
      · exact todo_enter ho hw hnd hr hc fun v w2 ⟨Es', h', hp, hG⟩ => fin _ _ _ _ hp hG
      · exact todo_round ho hw hnd hr hc fun v w2 ⟨Es', h', hp, hG⟩ => fin _ _ _ _ hp hG

/-- One operation can come next, and no other. -/
theorem GD_real {o : Oper} (i : Nat) (hb : (onlyB Vs [i] ops && Nat.blt i ops.size && !inVs Vs i) = true) (ho : ops[i]? = some o) (hg : wantedB ops (pickS (opSlots ops o) (sl Vs l0)) o.guard = some true) (hx : isDefer o.op = false)
    (hO : OpTo C (pickS (opSlots ops o) (sl Vs l0)) Es h o fun v Es' h' => Le h h' ∧ NdOk (anc ops i) Es' Vs ∧ GD C ds l0 (⟨i, o.dst, v, [], false⟩ :: Vs) Es' h' ops K) : GD C ds l0 Vs Es h ops K := by
  simp only [Bool.and_eq_true, Bool.not_eq_true', Nat.blt_eq] at hb
  refine GD_reals (cs := [i]) hb.1.1 ⟨i, .head _, hb.1.2, hb.2⟩ fun j hj => ?_
  rw [List.mem_singleton] at hj; subst hj
  exact ⟨o, ho, hg, hx, hO⟩
/-- One of two. -/
theorem GD_real2 (i j : Nat) (hb : (onlyB Vs [i, j] ops && Nat.blt i ops.size && !inVs Vs i) = true) (hi : Real C ds l0 Vs Es h ops K i) (hj : Real C ds l0 Vs Es h ops K j) : GD C ds l0 Vs Es h ops K := by
  simp only [Bool.and_eq_true, Bool.not_eq_true', Nat.blt_eq] at hb
  refine GD_reals (cs := [i, j]) hb.1.1 ⟨i, .head _, hb.1.2, hb.2⟩ fun q hq => ?_
  rcases List.mem_cons.1 hq with rfl | hq
  · exact hi
  · rw [List.mem_singleton] at hq; subst hq; exact hj

/-- All is done or promised. -/
theorem GD_done (hb : ((List.range ops.size).all (inVs Vs)) = true) (g : GO C ds (sl Vs l0) Es h K) : GD C ds l0 Vs Es h ops K := by
  intro is
  induction is with
  | nil =>
    intro a w s
    refine todo_region_end (g a w ⟨s.size, s.defers, fun t v e => ?_, s.hp⟩)
    rcases sl_look e with ⟨y, hy, hd, hv⟩ | ⟨e0, hno⟩
    · rw [← hv]; exact s.slots1 y hy (by simp) t hd
    · refine s.slots0 t v e0 fun j oj hoj hdj => ?_
      simp only [List.all_eq_true, List.mem_range] at hb
      obtain ⟨y, hy, hyj⟩ := inVs_ok (hb j (Array.getElem?_eq_some_iff.1 hoj).1)
      obtain ⟨_, _, _, _, oy, hoy, hdy, _⟩ := s.wf.get y hy
      rw [hyj, hoj] at hoy; injection hoy with hoy; subst hoy
      exact absurd (hdy.symm.trans hdj) (hno y hy)
  | cons i is ih =>
    intro a w s
    simp only [List.all_eq_true, List.mem_range] at hb
    obtain ⟨x, hx, e⟩ := inVs_ok (hb i (s.sched.2.1 i (.head _)))
    exact s.prom hx e fun a' s' => ih a' w s'

/-! ### The way in -/
def eqSome : Option Nat → Nat → Bool | some d, s => Nat.beq d s | none, _ => false
def memB (x : Nat) : List Nat → Bool | [] => false | y :: r => Nat.beq x y || memB x r
theorem memB_ok {x : Nat} : ∀ {l : List Nat}, memB x l = true ↔ x ∈ l
  | [] => by simp [memB]
  | y :: r => by
    rw [memB, Bool.or_eq_true, memB_ok, List.mem_cons]
    exact or_congr ⟨Nat.eq_of_beq_eq_true, fun e => by rw [e]; exact Nat.beq_refl y⟩ Iff.rfl

/-- The region's names, as a list: each operation's slot, what it reads, what it waits for. -/
def namesL (ops : Array Oper) : List (Option Nat × List Nat × List Nat) := ops.toList.map fun o => (o.dst, opSlots ops o, preds o)
def namesRow (i : Nat) (di : Option Nat) (ri pi : List Nat) : Nat → List (Option Nat × List Nat × List Nat) → Bool
  | _, [] => true
  | j, (dj, rj, pj) :: r => (Nat.beq i j || (match di with
      | some s => (!eqSome dj s) && (!memB s rj || memB i pj || memB j pi)
      | none => true)) && namesRow i di ri pi (j + 1) r
def namesAll (L : List (Option Nat × List Nat × List Nat)) : Nat → List (Option Nat × List Nat × List Nat) → Bool
  | _, [] => true
  | i, (di, ri, pi) :: r => namesRow i di ri pi 0 L && namesAll L (i + 1) r

theorem namesRow_ok {i : Nat} {di : Option Nat} {ri pi : List Nat} : ∀ {L : List (Option Nat × List Nat × List Nat)} {k j : Nat} {dj : Option Nat} {rj pj : List Nat}, namesRow i di ri pi k L = true → L[j]? = some (dj, rj, pj) → i ≠ k + j → ∀ s, di = some s → dj ≠ some s ∧ (s ∈ rj → i ∈ pj ∨ k + j ∈ pi)
  | (d0, r0, p0) :: r, k, 0, dj, rj, pj, h, e, hne, s, hs => by
    simp only [List.getElem?_cons_zero, Option.some.injEq, Prod.mk.injEq] at e
    obtain ⟨rfl, rfl, rfl⟩ := e
    simp only [namesRow, hs, Bool.and_eq_true, Bool.or_eq_true, Bool.not_eq_true'] at h
    rcases h.1 with h1 | ⟨h1, h2⟩
    · exact absurd (Nat.eq_of_beq_eq_true h1) (by simpa using hne)
    · refine ⟨fun e => ?_, fun hm => ?_⟩
      · rw [e] at h1; simp [eqSome, Nat.beq_refl] at h1
      · rcases h2 with (h2 | h2) | h2
        · rw [memB_ok.2 hm] at h2; cases h2
        · exact .inl (memB_ok.1 h2)
        · exact .inr (by simpa using memB_ok.1 h2)
  | (d0, r0, p0) :: r, k, j + 1, dj, rj, pj, h, e, hne, s, hs => by
    simp only [namesRow, Bool.and_eq_true] at h
    have := namesRow_ok (k := k + 1) (j := j) h.2 (by simpa using e) (by omega) s hs
    rwa [show k + 1 + j = k + (j + 1) by omega] at this
theorem namesAll_ok {L : List (Option Nat × List Nat × List Nat)} : ∀ {M : List (Option Nat × List Nat × List Nat)} {k i : Nat} {di : Option Nat} {ri pi : List Nat}, namesAll L k M = true → M[i]? = some (di, ri, pi) → namesRow (k + i) di ri pi 0 L = true
  | (d0, r0, p0) :: r, k, 0, di, ri, pi, h, e => by
    simp only [List.getElem?_cons_zero, Option.some.injEq, Prod.mk.injEq] at e
    obtain ⟨rfl, rfl, rfl⟩ := e
    simp only [namesAll, Bool.and_eq_true] at h
    exact h.1
  | (d0, r0, p0) :: r, k, i + 1, di, ri, pi, h, e => by
    simp only [namesAll, Bool.and_eq_true] at h
    have := namesAll_ok (k := k + 1) (i := i) h.2 (by simpa using e)
    rwa [show k + 1 + i = k + (i + 1) by omega] at this

def dstsB (N : Nat) (ops : Array Oper) : Bool := ops.toList.all fun o => dstOk N o.dst
/-- Everything that is asked of a region's text. -/
def regB (N : Nat) (ops : Array Oper) (Lg : List Nat) : Bool := drawsB ops Lg && namesAll (namesL ops) 0 (namesL ops) && dstsB N ops

theorem regB_ok {N : Nat} {Lg : List Nat} (hb : regB N ops Lg = true) : RegOk N ops := by
  simp only [regB, Bool.and_eq_true] at hb
  obtain ⟨⟨h1, h2⟩, h3⟩ := hb
  refine ⟨fun i o ho p hp => ?_, fun i j oi oj s hoi hoj hd hne => ?_, fun i o ho => ?_⟩
  · simp only [drawsB, Bool.and_eq_true] at h1
    have hi : i < ops.size := (Array.getElem?_eq_some_iff.1 ho).1
    obtain ⟨e, he, hb, rfl⟩ := mem_preds.1 hp
    have hin : i ∈ List.range ops.size := List.mem_range.2 hi
    obtain ⟨p, q, hpq⟩ := List.append_of_mem hin
    rcases (orderB_ok h1.1.1.1).2 p i q hpq o ho e he hb with h5 | h5
    · simp at h5
    · exact List.mem_range.1 (by rw [hpq]; exact List.mem_append.2 (.inl h5))
  · have hL : ∀ (k : Nat) (o : Oper), ops[k]? = some o → (namesL ops)[k]? = some (o.dst, opSlots ops o, preds o) := fun k o hk => by
      show (ops.toList.map fun o => (o.dst, opSlots ops o, preds o))[k]? = _
      rw [List.getElem?_map, Array.getElem?_toList, hk]; rfl
    have h4 := namesAll_ok h2 (hL i oi hoi)
    simp only [Nat.zero_add] at h4
    have := namesRow_ok (k := 0) (j := j) h4 (hL j oj hoj) (by simpa using hne) s hd
    simpa using this
  · simp only [dstsB, List.all_eq_true] at h3
    exact h3 o (Array.mem_toList_iff.2 (Array.mem_of_getElem? ho))

theorem GO_draw {n : Nat} {os : List Oper} (Lg : List Nat) (hb : regB C.N os.toArray Lg = true) (g : GD C ds l0 [] Es h os.toArray K) : GO C ds l0 Es h (.code (.region n os.toArray true) :: K) := by
  intro a w s
  refine todo_draw fun t => ?_
  have hreg := regB_ok hb
  simp only [regB, Bool.and_eq_true] at hb
  obtain ⟨hS, hall⟩ := schedule_ok hb.1.1 (C.P.follows .mixedOrders) t
  exact g _ a _ ⟨hreg, hS, fun i hi => .inr (hall i hi), fun i o ho hi p hp => absurd (hall i (Array.getElem?_eq_some_iff.1 ho).1) hi, trivial, fun x hx => (by cases hx), fun x hx => (by cases hx), s.size, s.defers, s.hp.drew,
    fun t v e _ => s.slots t v e, fun x hx => (by cases hx)⟩
end
end Go.Hw

/-
  Hw, part E: the judgement 'GO' and its rules.
-/
import Derived.Test.YtbgjcjhodlmgjaaHwD
import Derived.Laws.Small
import Derived.Laws.CopyRow
set_option linter.unusedVariables false
namespace Go.Hw
open Go

theorem i64_in (n : Int) (h : -9223372036854775808 ≤ n ∧ n ≤ 9223372036854775807) : IntKind.i64.wrap n = n := by rw [IntKind.wrap_i64]; omega

structure Ctx where
  P : Program
  ts : List Ty
  ok : TsOk P ts
  ro : Option Nat
  N : Nat
  w0 : World
  X0 : List Nat
  h0 : Ro
  Q : Exit → Act → World → Prop

structure St (C : Ctx) (ds : List Deferred) (l : Sl) (Es : List Asn) (h : Ro) (a : Act) (w : World) : Prop where
  size : a.tmps.size = C.N
  defers : a.defers = ds
  slots : SlotsOk l a
  hp : Hp C.w0 C.X0 C.h0 Es h w

/-- From every state that the lists tell, the stack K comes to an end that C.Q takes. -/
def GO (C : Ctx) (ds : List Deferred) (l : Sl) (Es : List Asn) (h : Ro) (K : List Item) : Prop := ∀ a w, St C ds l Es h a w → Todo C.P C.ro K C.Q a w

/-- The same, within a region whose operations 'os' are still to be done, in the order of the text. -/
def GOl (C : Ctx) (ds : List Deferred) (l : Sl) (Es : List Asn) (h : Ro) (ops : Array Oper) (os : List Oper) (K : List Item) : Prop :=
  ∀ k, (∀ j, os[j]? = ops[k + j]?) → GO C ds l Es h (.inRegion ops (List.range' k os.length) :: K)

section control
variable {C : Ctx} {ds : List Deferred} {l : Sl} {Es : List Asn} {h : Ro} {K : List Item}

theorem GO_skip (g : GO C ds l Es h K) : GO C ds l Es h (.code .skip :: K) := fun a w s => todo_skip (g a w s)
theorem GO_label {n : Nat} (g : GO C ds l Es h K) : GO C ds l Es h (.code (.label n) :: K) := fun a w s => todo_label (g a w s)
theorem GO_inBlock {n : Nat} (g : GO C ds l Es h K) : GO C ds l Es h (.inBlock n :: K) := fun a w s => todo_inBlock (g a w s)
theorem GO_seq {x y : Code} (g : GO C ds l Es h (.code x :: .code y :: K)) : GO C ds l Es h (.code (.seq x y) :: K) := fun a w s => todo_seq (g a w s)
theorem GO_block {n : Nat} {c : Code} (g : GO C ds l Es h (.code c :: .inBlock n :: K)) : GO C ds l Es h (.code (.block n c) :: K) := fun a w s => todo_block (g a w s)
theorem GO_loop {c : Code} (g : GO C ds l Es h (.code c :: .inLoop c :: K)) : GO C ds l Es h (.code (.loop c) :: K) := fun a w s => todo_loop (g a w s)
theorem GO_inLoop {c : Code} (g : GO C ds l Es h (.code c :: .inLoop c :: K)) : GO C ds l Es h (.inLoop c :: K) := fun a w s => todo_inLoop (g a w s)
theorem GO_exit {n : Nat} {K' : List Item} (hx : exitTo n K = some K') (g : GO C ds l Es h K') : GO C ds l Es h (.code (.exit n) :: K) := fun a w s => todo_exit hx (g a w s)
theorem GO_cond {c : Operand} {x y : Code} {t : Bool} (hc : evl l c = some (.bool t)) (ht : t = true → GO C ds l Es h (.code x :: K)) (hf : t = false → GO C ds l Es h (.code y :: K)) :
    GO C ds l Es h (.code (.cond c x y) :: K) := fun a w s => by
  refine todo_cond (s.slots.eval hc) ?_
  cases t with
  | true => exact ht rfl a w s
  | false => exact hf rfl a w s
theorem GO_condT {c : Operand} {x y : Code} (hc : evl l c = some (.bool true)) (g : GO C ds l Es h (.code x :: K)) : GO C ds l Es h (.code (.cond c x y) :: K) :=
  GO_cond hc (fun _ => g) (fun e => by cases e)
theorem GO_condF {c : Operand} {x y : Code} (hc : evl l c = some (.bool false)) (g : GO C ds l Es h (.code y :: K)) : GO C ds l Es h (.code (.cond c x y) :: K) :=
  GO_cond hc (fun e => by cases e) (fun _ => g)
theorem GO_region {n : Nat} {os : List Oper} (g : GOl C ds l Es h os.toArray os K) : GO C ds l Es h (.code (.region n os.toArray false) :: K) := fun a w s => by
  refine todo_region ?_
  have := g 0 (fun j => by simp) a w s
  rw [List.range_eq_range']
  simpa using this
theorem GOl_nil {ops : Array Oper} (g : GO C ds l Es h K) : GOl C ds l Es h ops [] K := fun k _ a w s => todo_region_end (g a w s)

/-- What is not needed any more is forgotten. -/
theorem GO.sub {l' : Sl} (g : GO C ds l' Es h K) (hs : ∀ i v, look i l' = some v → look i l = some v) : GO C ds l Es h K := fun a w s => g a w ⟨s.size, s.defers, s.slots.sub hs, s.hp⟩

/-- The slots that a list names, checked one by one. -/
def Slots : Sl → Sl → Prop
  | [], _ => True
  | (j, v) :: r, l => look j l = some v ∧ Slots r l
theorem Slots.ok : ∀ {l' l : Sl}, Slots l' l → ∀ i v, look i l' = some v → look i l = some v
  | [], _, _, i, v, e => by cases e
  | (j, u) :: r, l, ⟨h1, h2⟩, i, v, e => by
    simp only [look] at e
    cases hb : Nat.beq i j with
    | true =>
      rw [hb] at e
      simp only [cond_true, Option.some.injEq] at e
      rw [Nat.eq_of_beq_eq_true hb, ← e]; exact h1
    | false => rw [hb] at e; exact h2.ok i v e
theorem GO_keep {l' : Sl} (hs : Slots l' l) (g : GO C ds l' Es h K) : GO C ds l Es h K := g.sub hs.ok

theorem GO_asn {Es' : List Asn} {A A' : Asn} (hR : Repl Es A A' Es') (hi : ∀ D m, A.holds D m → A'.holds D m) (g : GO C ds l Es' h K) : GO C ds l Es h K :=
  fun a w s => g a w ⟨s.size, s.defers, s.slots, s.hp.asn hR hi⟩
theorem GO_drop {Es' : List Asn} {A : Asn} (hT : Take Es A Es') (g : GO C ds l Es' h K) : GO C ds l Es h K :=
  fun a w s => g a w ⟨s.size, s.defers, s.slots, s.hp.drop hT⟩
theorem GO_release {Es' : List Asn} {A : Asn} (hT : Take Es A Es') (g : ∀ D h', Le h h' → A.holds D h' → GO C ds l Es' h' K) : GO C ds l Es h K := fun a w s => by
  obtain ⟨D, h', h1, h2, h3⟩ := s.hp.release hT
  exact g D h' h1 h2 a w ⟨s.size, s.defers, s.slots, h3⟩
end control

/-! ### One operation -/
def guardSlot (ops : Array Oper) : Option (Nat × Bool) → Option (Nat × Bool)
  | none => none
  | some (j, b) => match (ops[j]?).bind (·.dst) with
    | some d => some (d, b)
    | none => none

/-- Does the operation run? -/
def wantedB (ops : Array Oper) (l : Sl) (g : Option (Nat × Bool)) : Option Bool :=
  match g with
  | none => some true
  | some p => match guardSlot ops (some p) with
    | some (d, b) => match look d l with
      | some (.bool c) => some (c == b)
      | some _ => some false
      | none => none
    | none => none

theorem wantedB_ok {ops : Array Oper} {l : Sl} {a : Act} (hs : SlotsOk l a) {o : Oper} {b : Bool} (h : wantedB ops l o.guard = some b) : Region.wanted o (yielded ops a.tmps) = b := by
  unfold wantedB at h
  unfold Region.wanted
  split at h
  · rename_i hg; rw [hg]; injection h
  · rename_i p hg
    rw [hg]
    obtain ⟨j, want⟩ := p
    simp only [guardSlot] at h
    cases hd : (ops[j]?).bind (·.dst) with
    | none => rw [hd] at h; cases h
    | some d =>
      rw [hd] at h
      simp only at h
      cases hc : look d l with
      | none => rw [hc] at h; cases h
      | some v =>
        rw [hc] at h
        cases v with
        | bool c =>
          simp only [Option.some.injEq] at h
          simp only [yielded, hd, Option.bind_some, hs d _ hc]
          rw [← h]; cases c <;> cases want <;> rfl
        | _ =>
          simp only [Option.some.injEq] at h
          simp only [yielded, hd, Option.bind_some, hs d _ hc]
          rw [← h]; rfl

def putS (d : Option Tmp) (v : Value) (l : Sl) : Sl := match d with | some d => (d, v) :: l | none => l
def dstOk (N : Nat) (d : Option Tmp) : Bool := match d with | some d => Nat.blt d N | none => true

/-- What one operation comes to: a value, nothing, or a call that comes back. -/
def OpTo (C : Ctx) (l : Sl) (Es : List Asn) (h : Ro) (o : Oper) (G : Value → List Asn → Ro → Prop) : Prop :=
  ∀ a w, SlotsOk l a → Hp C.w0 C.X0 C.h0 Es h w →
    (∃ v w' Es' h', (execOp a.eval o).run C.P w = .ok (.value v) w' ∧ Hp C.w0 C.X0 C.h0 Es' h' w' ∧ G v Es' h') ∨
    (∃ w' Es' h', (execOp a.eval o).run C.P w = .ok .skip w' ∧ Hp C.w0 C.X0 C.h0 Es' h' w' ∧ G undef Es' h') ∨
    (∃ f args w1, (execOp a.eval o).run C.P w = .ok (.enter f args) w1 ∧ Calls C.P f args w1 fun e w2 => ∃ v, e = .returned v ∧ ∃ Es' h', Hp C.w0 C.X0 C.h0 Es' h' w2 ∧ G v Es' h') ∨
    (∃ r f tmps assign body w1 n, (execOp a.eval o).run C.P w = .ok (.round r f tmps assign body) w1 ∧ RoundIn Fence.wide n C.P r f tmps assign body w1 fun e w2 => ∃ v, e = .returned v ∧ ∃ Es' h', Hp C.w0 C.X0 C.h0 Es' h' w2 ∧ G v Es' h')

def isDefer : Op → Bool | .defer _ => true | _ => false

section ops
variable {C : Ctx} {ds : List Deferred} {l : Sl} {Es : List Asn} {h : Ro} {K : List Item} {ops : Array Oper} {os : List Oper}

theorem St.put {a : Act} {w w' : World} {Es' : List Asn} {h' : Ro} (s : St C ds l Es h a w) {d : Option Tmp} (hd : dstOk C.N d = true) (v : Value) (hp : Hp C.w0 C.X0 C.h0 Es' h' w') : St C ds (putS d v l) Es' h' (a.put d v) w' := by
  cases d with
  | none => exact ⟨s.size, s.defers, s.slots, hp⟩
  | some d =>
    have hlt : d < a.tmps.size := by rw [s.size]; exact of_decide_eq_true (by simpa [dstOk, Nat.blt_eq] using hd)
    exact ⟨by simp [Act.put, s.size], s.defers, s.slots.put hlt v, hp⟩

/-- One operation at the machine. -/
theorem op_todo {o : Oper} {k : Nat} {rest : List Nat} (ho : ops[k]? = some o) (hg : wantedB ops l o.guard = some true) (hd : dstOk C.N o.dst = true) (hx : isDefer o.op = false)
    (g : OpTo C l Es h o fun v Es' h' => GO C ds (putS o.dst v l) Es' h' (.inRegion ops rest :: K)) : GO C ds l Es h (.inRegion ops (k :: rest) :: K) := by
  intro a w s
  have hw := wantedB_ok s.slots hg
  have hnd : ∀ c, o.op ≠ .defer c := fun c e => by rw [e] at hx; cases hx
  rcases g a w s.slots s.hp with ⟨v, w', Es', h', hr, hp, hG⟩ | ⟨w', Es', h', hr, hp, hG⟩ | ⟨f, args, w1, hr, hc⟩ | ⟨r, f, tmps, assign, body, w1, n, hr, hc⟩
  · exact todo_value ho hw hnd hr (hG _ _ (s.put hd v hp))
  · exact todo_unit ho hw hnd hr (hG _ _ (s.put hd undef hp))
  · exact todo_enter ho hw hnd hr hc fun v w2 ⟨Es', h', hp, hG⟩ => hG _ _ (s.put hd v hp)
  · exact todo_round ho hw hnd hr hc fun v w2 ⟨Es', h', hp, hG⟩ => hG _ _ (s.put hd v hp)

theorem GOl_op {o : Oper} (hg : wantedB ops l o.guard = some true) (hd : dstOk C.N o.dst = true) (hx : isDefer o.op = false)
    (g : OpTo C l Es h o fun v Es' h' => GOl C ds (putS o.dst v l) Es' h' ops os K) : GOl C ds l Es h ops (o :: os) K := by
  intro k hk
  have h0 : ops[k]? = some o := by simpa using (hk 0).symm
  have hrest : ∀ j, os[j]? = ops[k + 1 + j]? := fun j => by have := hk (j + 1); simpa [Nat.add_assoc, Nat.add_comm 1 j] using this
  rw [List.length_cons, List.range'_succ]
  refine op_todo h0 hg hd hx fun a w hs hp => ?_
  rcases g a w hs hp with ⟨v, w', Es', h', hr, hp', hG⟩ | ⟨w', Es', h', hr, hp', hG⟩ | ⟨f, args, w1, hr, hc⟩ | ⟨r, f, tmps, assign, body, w1, n, hr, hc⟩
  · exact .inl ⟨v, w', Es', h', hr, hp', hG _ hrest⟩
  · exact .inr (.inl ⟨w', Es', h', hr, hp', hG _ hrest⟩)
  · exact .inr (.inr (.inl ⟨f, args, w1, hr, hc.mono fun _ _ ⟨v, he, Es', h', hp', hG⟩ => ⟨v, he, Es', h', hp', hG _ hrest⟩⟩))
  · exact .inr (.inr (.inr ⟨r, f, tmps, assign, body, w1, n, hr, hc.mono fun _ _ ⟨v, he, Es', h', hp', hG⟩ => ⟨v, he, Es', h', hp', hG _ hrest⟩⟩))

/-- An operation whose guard says no. -/
theorem GOl_unwanted {d : Tmp} {op : Op} {ty : TypeId} {pos : String} {aft : Array Edge} {gd : Option (Nat × Bool)} (hg : wantedB ops l gd = some false) (hd : dstOk C.N (some d) = true) (g : GOl C ds ((d, undef) :: l) Es h ops os K) : GOl C ds l Es h ops (⟨some d, op, ty, pos, aft, gd⟩ :: os) K := by
  intro k hk
  have h0 : ops[k]? = some ⟨some d, op, ty, pos, aft, gd⟩ := by simpa using (hk 0).symm
  have hrest : ∀ j, os[j]? = ops[k + 1 + j]? := fun j => by have := hk (j + 1); simpa [Nat.add_assoc, Nat.add_comm 1 j] using this
  rw [List.length_cons, List.range'_succ]
  exact fun a w s => todo_unwanted h0 (wantedB_ok (o := ⟨some d, op, ty, pos, aft, gd⟩) s.slots hg) (g _ hrest _ _ (s.put hd undef s.hp))

/-- A guard that is not decided: both ways. -/
theorem GOl_split {o : Oper} {d : Nat} {b c : Bool} (hg : guardSlot ops o.guard = some (d, b)) (hc : look d l = some (.bool c)) (ht : c = true → GOl C ds ((d, .bool true) :: l) Es h ops (o :: os) K)
    (hf : c = false → GOl C ds ((d, .bool false) :: l) Es h ops (o :: os) K) : GOl C ds l Es h ops (o :: os) K := by
  have key : ∀ q : Bool, c = q → ∀ i v, look i ((d, .bool q) :: l) = some v → look i l = some v := by
    rintro q rfl i v e
    by_cases hi : i = d
    · subst hi; rw [look_cons_same] at e; rw [hc]; exact e
    · rwa [look_cons_ne hi] at e
  intro k hk
  cases hq : c with
  | true => exact (ht hq k hk).sub (key true hq)
  | false => exact (hf hq k hk).sub (key false hq)

/-- An operation that computes from its operands alone. -/
theorem OpTo_pv {o : Oper} {v : Value} {G : Value → List Asn → Ro → Prop} (hv : pv C.ts l o.op = some v) (g : G v Es h) : OpTo C l Es h o G :=
  fun a w hs hp => .inl ⟨v, w, Es, h, pv_ok C.ok hs hv w, hp, g⟩

theorem pv_defer {ts : List Ty} {op : Op} {v : Value} (h : pv ts l op = some v) : isDefer op = false := by
  cases op <;> first | rfl | cases h

theorem GOl_pv {d : Tmp} {op : Op} {ty : TypeId} {pos : String} {aft : Array Edge} {gd : Option (Nat × Bool)} {v : Value} (hv : pv C.ts l op = some v) (hg : wantedB ops l gd = some true) (hd : dstOk C.N (some d) = true) (g : GOl C ds ((d, v) :: l) Es h ops os K) :
    GOl C ds l Es h ops (⟨some d, op, ty, pos, aft, gd⟩ :: os) K := GOl_op (o := ⟨some d, op, ty, pos, aft, gd⟩) hg hd (pv_defer hv) (OpTo_pv (o := ⟨some d, op, ty, pos, aft, gd⟩) hv g)

/-! #### Sums within bounds -/
theorem GOl_bin {C : Ctx} {op : BinOp} {t ty' : TypeId} {x y : Operand} {k : IntKind} {p q : Int} {v : Value} {d : Tmp} {ty : TypeId} {pos : String} {aft : Array Edge} {gd : Option (Nat × Bool)} {T : Ty}
    (hT : tyOf t C.ts = some T) (hx : evl l x = some (.int k p)) (hy : evl l y = some (.int k q)) (hv : pvBin T.desc op (.int k p) (.int k q) = some v)
    (hg : wantedB ops l gd = some true) (hd : dstOk C.N (some d) = true) (g : GOl C ds ((d, v) :: l) Es h ops os K) : GOl C ds l Es h ops (⟨some d, .binOp op t x y ty', ty, pos, aft, gd⟩ :: os) K :=
  GOl_pv (by simp only [pv, hT, hx, hy]; exact hv) hg hd g

theorem GOl_add {C : Ctx} {t ty' : TypeId} {x y : Operand} {p q : Int} {d : Tmp} {ty : TypeId} {pos : String} {aft : Array Edge} {gd : Option (Nat × Bool)} {T : Ty}
    (hT : tyOf t C.ts = some T) (hx : evl l x = some (.int .i64 p)) (hy : evl l y = some (.int .i64 q)) (hb : -9223372036854775808 ≤ p + q ∧ p + q ≤ 9223372036854775807)
    (hg : wantedB ops l gd = some true) (hd : dstOk C.N (some d) = true) (g : GOl C ds ((d, (.int .i64 (p + q))) :: l) Es h ops os K) : GOl C ds l Es h ops (⟨some d, .binOp .add t x y ty', ty, pos, aft, gd⟩ :: os) K :=
  GOl_bin hT hx hy (by simp [pvBin, i64_in _ hb]) hg hd g
theorem GOl_sub {C : Ctx} {t ty' : TypeId} {x y : Operand} {p q : Int} {d : Tmp} {ty : TypeId} {pos : String} {aft : Array Edge} {gd : Option (Nat × Bool)} {T : Ty}
    (hT : tyOf t C.ts = some T) (hx : evl l x = some (.int .i64 p)) (hy : evl l y = some (.int .i64 q)) (hb : -9223372036854775808 ≤ p - q ∧ p - q ≤ 9223372036854775807)
    (hg : wantedB ops l gd = some true) (hd : dstOk C.N (some d) = true) (g : GOl C ds ((d, (.int .i64 (p - q))) :: l) Es h ops os K) : GOl C ds l Es h ops (⟨some d, .binOp .sub t x y ty', ty, pos, aft, gd⟩ :: os) K :=
  GOl_bin hT hx hy (by simp [pvBin, i64_in _ hb]) hg hd g
theorem GOl_mul {C : Ctx} {t ty' : TypeId} {x y : Operand} {p q : Int} {d : Tmp} {ty : TypeId} {pos : String} {aft : Array Edge} {gd : Option (Nat × Bool)} {T : Ty}
    (hT : tyOf t C.ts = some T) (hx : evl l x = some (.int .i64 p)) (hy : evl l y = some (.int .i64 q)) (hb : -9223372036854775808 ≤ p * q ∧ p * q ≤ 9223372036854775807)
    (hg : wantedB ops l gd = some true) (hd : dstOk C.N (some d) = true) (g : GOl C ds ((d, (.int .i64 (p * q))) :: l) Es h ops os K) : GOl C ds l Es h ops (⟨some d, .binOp .mul t x y ty', ty, pos, aft, gd⟩ :: os) K :=
  GOl_bin hT hx hy (by simp [pvBin, i64_in _ hb]) hg hd g
theorem GOl_quo {C : Ctx} {t ty' : TypeId} {x y : Operand} {p q : Int} {d : Tmp} {ty : TypeId} {pos : String} {aft : Array Edge} {gd : Option (Nat × Bool)} {T : Ty}
    (hT : tyOf t C.ts = some T) (hx : evl l x = some (.int .i64 p)) (hy : evl l y = some (.int .i64 q)) (hb : 0 ≤ p ∧ p ≤ 9223372036854775807 ∧ 1 ≤ q)
    (hg : wantedB ops l gd = some true) (hd : dstOk C.N (some d) = true) (g : GOl C ds ((d, (.int .i64 (p / q))) :: l) Es h ops os K) : GOl C ds l Es h ops (⟨some d, .binOp .quo t x y ty', ty, pos, aft, gd⟩ :: os) K :=
  GOl_bin hT hx hy (by
    obtain ⟨h1, h2, h3⟩ := hb
    have e : p.tdiv q = p / q := Int.tdiv_eq_ediv_of_nonneg h1
    have b0 : 0 ≤ p / q := Int.ediv_nonneg h1 (by omega)
    have b1 : p / q ≤ p := Int.ediv_le_self _ h1
    simp only [pvBin, if_true]
    rw [if_neg (by omega), e, i64_in _ (by omega)]) hg hd g
theorem GOl_rem {C : Ctx} {t ty' : TypeId} {x y : Operand} {p q : Int} {d : Tmp} {ty : TypeId} {pos : String} {aft : Array Edge} {gd : Option (Nat × Bool)} {T : Ty}
    (hT : tyOf t C.ts = some T) (hx : evl l x = some (.int .i64 p)) (hy : evl l y = some (.int .i64 q)) (hb : 0 ≤ p ∧ 1 ≤ q)
    (hg : wantedB ops l gd = some true) (hd : dstOk C.N (some d) = true) (g : GOl C ds ((d, (.int .i64 (p % q))) :: l) Es h ops os K) : GOl C ds l Es h ops (⟨some d, .binOp .rem t x y ty', ty, pos, aft, gd⟩ :: os) K :=
  GOl_bin hT hx hy (by
    obtain ⟨h1, h3⟩ := hb
    simp only [pvBin, if_true]
    rw [if_neg (by omega), Int.tmod_eq_emod_of_nonneg h1]) hg hd g
theorem GOl_conv {C : Ctx} {s t : TypeId} {x : Operand} {k : IntKind} {p : Int} {d : Tmp} {ty : TypeId} {pos : String} {aft : Array Edge} {gd : Option (Nat × Bool)} {S : Ty} {sz by' : Nat} {z : Value}
    (hS : tyOf s C.ts = some S) (hT : tyOf t C.ts = some ⟨t, .int .i64, sz, by', z⟩) (hx : evl l x = some (.int k p)) (hb : -9223372036854775808 ≤ p ∧ p ≤ 9223372036854775807)
    (hg : wantedB ops l gd = some true) (hd : dstOk C.N (some d) = true) (g : GOl C ds ((d, (.int .i64 p)) :: l) Es h ops os K) : GOl C ds l Es h ops (⟨some d, .convert s t x, ty, pos, aft, gd⟩ :: os) K :=
  GOl_pv (by simp [pv, hS, hT, hx, pvConv, i64_in _ hb]) hg hd g

/-! #### Memory that is read -/
def cellR (h : Ro) (a : Addr) : Option Value :=
  match h a.block with
  | some (.cells c _ _) => if a.spot.isSome then none else c[a.off]?
  | _ => none
theorem cell?_mem (w : World) (a : Addr) : w.cell? a = cellR (mem w) a := rfl
theorem cellR_le {h h' : Ro} (hl : Le h h') {a : Addr} {v : Value} (e : cellR h a = some v) : cellR h' a = some v := by
  unfold cellR at e ⊢
  cases hb : h a.block with
  | none => rw [hb] at e; cases e
  | some o => rw [hb] at e; rw [hl _ _ hb]; exact e

/-- From address ad on lie the cells vs. -/
def CellsAt (h : Ro) (ad : Addr) (vs : List Value) : Prop := ∀ j v, vs[j]? = some v → cellR h (ad.add j) = some v
theorem CellsAt.le {h h' : Ro} (hl : Le h h') {ad : Addr} {vs : List Value} (c : CellsAt h ad vs) : CellsAt h' ad vs := fun j v e => cellR_le hl (c j v e)

/-- A variable of type T at an address holds v. -/
def Ld (C : Ctx) (Es : List Asn) (h : Ro) (T : TypeId) (ad : Addr) (v : Value) : Prop := ∀ w, Hp C.w0 C.X0 C.h0 Es h w → (loadVar T ad).run C.P w = .ok v w

theorem Ld_cells {C : Ctx} {T : TypeId} {t : Ty} {ad : Addr} {vs : List Value} {v : Value} (hT : tyOf T C.ts = some t) (hv : pvPart 0 t.size t.agg vs = some v)
    (hc : ∀ w, Hp C.w0 C.X0 C.h0 Es h w → ∀ j u, vs[j]? = some u → w.cell? (ad.add j) = some u) : Ld C Es h T ad v := by
  intro w hp
  have hcw := hc w hp
  simp only [loadVar, Sem.run_bind, C.ok.run_agg hT, Result.andThen_ok, Sem.run_ite]
  unfold pvPart at hv
  cases ha : t.agg with
  | true =>
    rw [ha] at hv
    simp only at hv
    split at hv
    · rename_i us hcut
      injection hv with hv; subst hv
      obtain ⟨h1, h2⟩ := cut_eq hcut
      simp only [List.drop_zero] at h1
      have hl : us.length = t.size := by rw [h1]; simp; omega
      have := run_loadCells_list (P := C.P) w ad us (fun j u hj => hcw j u (by rw [h1] at hj; rw [List.getElem?_take] at hj; split at hj; exact hj; cases hj))
      simp only [if_true, Sem.run_bind, C.ok.run_size hT, Result.andThen_ok]
      rw [← hl, this]; rfl
    · cases hv
  | false =>
    rw [ha] at hv
    simp only at hv
    have h1 := hcw 0 v (nth_eq hv)
    have e : ad.add 0 = ad := by simp [Addr.add]
    rw [e] at h1
    simp [h1]

theorem add_off (b off j : Nat) : (⟨b, off, none⟩ : Addr).add j = ⟨b, off + j, none⟩ := by unfold Addr.add; split <;> simp_all

theorem cut_shift {off n : Nat} {cs vs : List Value} (hc : cut off n cs = some vs) : cut 0 n (cs.drop off) = some vs := by
  induction off generalizing cs with
  | zero => simpa using hc
  | succ o ih =>
    cases cs with
    | nil => cases hc
    | cons x r => simpa using ih (by simpa [cut] using hc)
theorem nth_shift {off : Nat} {cs : List Value} {v : Value} (hc : nth off cs = some v) : nth 0 (cs.drop off) = some v := by
  induction off generalizing cs with
  | zero => simpa using hc
  | succ o ih =>
    cases cs with
    | nil => cases hc
    | cons x r => simpa using ih (by simpa [nth] using hc)
theorem pvPart_shift {off n : Nat} {agg : Bool} {cs : List Value} {v : Value} (hv : pvPart off n agg cs = some v) : pvPart 0 n agg (cs.drop off) = some v := by
  unfold pvPart at hv ⊢
  cases agg with
  | true =>
    simp only at hv ⊢
    split at hv
    · rename_i vs hc; rw [cut_shift hc]; exact hv
    · cases hv
  | false => exact nth_shift hv

theorem Ld_blk {C : Ctx} {T e : TypeId} {t : Ty} {b off : Nat} {cs : List Value} {v : Value} (hT : tyOf T C.ts = some t) (hm : Blk b e cs ∈ Es) (hv : pvPart off t.size t.agg cs = some v) : Ld C Es h T ⟨b, off, none⟩ v :=
  Ld_cells hT (pvPart_shift hv) fun w hp j u hj => by
    have hb := hp.blk hm
    rw [add_off]
    simp only [World.cell?, hb]
    rw [List.getElem?_drop] at hj
    simpa using hj

theorem Ld_ro {C : Ctx} {T : TypeId} {t : Ty} {ad : Addr} {vs : List Value} {v : Value} (hT : tyOf T C.ts = some t) (hc : CellsAt h ad vs) (hv : pvPart 0 t.size t.agg vs = some v) : Ld C Es h T ad v :=
  Ld_cells hT hv fun w hp j u hj => by rw [cell?_mem]; exact cellR_le hp.ro (hc j u hj)

theorem GOl_load {C : Ctx} {t : TypeId} {x : Operand} {ad : Addr} {v : Value} {d : Tmp} {ty : TypeId} {pos : String} {aft : Array Edge} {gd : Option (Nat × Bool)}
    (hx : evl l x = some (.pointer (some ad))) (hv : Ld C Es h t ad v)
    (hg : wantedB ops l gd = some true) (hd : dstOk C.N (some d) = true) (g : GOl C ds ((d, v) :: l) Es h ops os K) : GOl C ds l Es h ops (⟨some d, .load t x, ty, pos, aft, gd⟩ :: os) K :=
  GOl_op (o := ⟨some d, .load t x, ty, pos, aft, gd⟩) hg hd rfl fun a w hs hp => .inl ⟨v, w, Es, h, by simp only [execOp, hs.eval hx, Instr.loadAt, Instr.sureAddr, Sem.run_bind, Sem.run_pure, Result.andThen_ok, hv w hp], hp, g⟩

/-! #### Memory that is written -/
def allOne : List Value → Bool
  | [] => true
  | v :: r => bif v.oneCell' then allOne r else false
theorem allOne_ok : ∀ {vs : List Value}, allOne vs = true → ∀ v ∈ vs, v.oneCell' = true
  | [], _, _, hm => by cases hm
  | v :: r, h, u, hm => by
    simp only [allOne] at h
    cases hv : v.oneCell' with
    | false => rw [hv] at h; cases h
    | true =>
      rw [hv] at h
      rcases List.mem_cons.1 hm with rfl | hm
      · exact hv
      · exact allOne_ok h u hm

theorem GOl_store {C : Ctx} {t e : TypeId} {x y : Operand} {b off : Nat} {v : Value} {cs cs' : List Value} {Es' : List Asn} {T : Ty} {ty : TypeId} {pos : String} {aft : Array Edge} {gd : Option (Nat × Bool)}
    (hT : tyOf t C.ts = some T) (hx : evl l x = some (.pointer (some ⟨b, off, none⟩))) (hy : evl l y = some v) (hR : Repl Es (Blk b e cs) (Blk b e cs') Es') (ho : over off (partL v) cs = some cs')
    (hl : Nat.beq (partL v).length T.size = true) (h1 : allOne (partL v) = true)
    (hg : wantedB ops l gd = some true) (g : GOl C ds l Es' h ops os K) : GOl C ds l Es h ops (⟨none, .store t x y, ty, pos, aft, gd⟩ :: os) K := by
  refine GOl_op (o := ⟨none, .store t x y, ty, pos, aft, gd⟩) hg rfl rfl fun a w hs hp => ?_
  have hlen := Nat.eq_of_beq_eq_true hl
  obtain ⟨Ds, hown, hnod, hbd⟩ := hp.own
  obtain ⟨D, ⟨hD, hb⟩, hDn, hsub, _⟩ := hR.own hown hnod
  have hb' : w.heap[b]? = some (.cells cs.toArray e (0, 0)) := hb
  have hcs := over_eq ho
  by_cases hnil : partL v = []
  · -- nothing is stored
    have hc : cs' = cs := by
      have := hcs.1; rw [hnil] at this; simpa using this
    subst hc
    have hrun : (storeVar t ⟨b, off, none⟩ v).run C.P w = .ok () w := by
      have h0 : T.size = 0 := by rw [← hlen, hnil]; rfl
      simp only [storeVar, Sem.run_bind, C.ok.run_size hT, Result.andThen_ok, partL_ok, hnil, h0]
      rfl
    exact .inr (.inl ⟨w, Es', h, by simp only [execOp, hs.eval hx, hs.eval hy, Instr.storeAt, Instr.sureAddr, Sem.run_bind, Sem.run_pure, Result.andThen_ok, hrun], hp.asn hR fun D m hm => hm, g⟩)
  · have hle := hcs.2 hnil
    have hrun : (storeVar t ⟨b, off, none⟩ v).run C.P w = .ok () (w.setRow b cs'.toArray) := by
      have hst := run_storeCells_at (P := C.P) b off e (partL v) 0 cs.toArray w hb' (by simpa using hle) (allOne_ok h1)
      simp only [storeVar, Sem.run_bind, C.ok.run_size hT, Result.andThen_ok, partL_ok, List.size_toArray, hlen, ne_eq, not_true, if_false]
      rw [hst]
      simp only [Nat.add_zero, List.toList_toArray]
      rw [← hcs.1]
    have hlt : b < w.heap.size := (Array.getElem?_eq_some_iff.1 hb').1
    refine .inr (.inl ⟨w.setRow b cs'.toArray, Es', h, by simp only [execOp, hs.eval hx, hs.eval hy, Instr.storeAt, Instr.sureAddr, Sem.run_bind, Sem.run_pure, Result.andThen_ok, hrun], ?_, g⟩)
    refine hp.repl hR rfl rfl rfl (by simp [World.setRow]) fun D hA hDn hDl => ⟨D, ⟨hA.1, ?_⟩, hDn, fun q hq => ⟨.inl hq, by have := hDl q hq; simpa [World.setRow] using this⟩, fun i hi hni => ?_⟩
    · show (w.setRow b cs'.toArray).heap[b]? = _
      exact setRow_heap w b cs.toArray cs'.toArray e (0, 0) hb'
    · have : b ≠ i := fun e => hni (by rw [hA.1, e]; simp)
      simp [World.setRow, Array.getElem?_modify, this]

end ops
end Go.Hw

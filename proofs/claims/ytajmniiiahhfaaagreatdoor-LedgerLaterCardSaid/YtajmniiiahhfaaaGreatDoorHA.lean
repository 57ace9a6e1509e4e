import Derived.RangeFuncLeaves
import Derived.Maps.AppendAt
import Derived.Laws.MakeOwn
import Derived.Below
import Derived.Laws.Small
import Derived.Laws.CopyRow
import Derived.Maps.RangeRun
set_option linter.unusedSimpArgs false
/-
  Hw, part A: a walk over the machine's own stack of what is still to do ('Todo'), and a state told by lists: slots, owned assertions, a part of memory that is only read.
-/
set_option linter.unusedVariables false
namespace Go.Hw
open Go

/-! ### The walk over the stack -/

def fence (ro : Option Nat) : Fence := { Fence.wide with round := ro }

theorem fence_fenced (P : Program) (ro : Option Nat) (m : Machine) : m.fenced P (fence ro) := by
  intro g _
  refine ⟨fun h => ?_, Or.inl trivial, fun _ _ => trivial, fun _ h => ?_⟩
  · simp [fence, Fence.wide] at h
  · simp [fence, Fence.wide] at h

theorem fence_room (ro : Option Nat) (n : Nat) : (fence ro).room n := fun _ h => by simp [fence, Fence.wide] at h

abbrev StepsW (P : Program) := StepsIn (fun _ => True) P

theorem stepsW_in {P : Program} {ro : Option Nat} {m m' : Machine} (h : StepsW P m m') : StepsIn (Machine.fenced P (fence ro)) P m m' :=
  h.mono fun m _ => fence_fenced P ro m
theorem stepsW_of {P : Program} {ro : Option Nat} {m m' : Machine} (h : StepsIn (Machine.fenced P (fence ro)) P m m') : StepsW P m m' :=
  h.mono fun _ _ => trivial

/-- From the stack 'todo', in a frame whose round is 'ro', the activation comes to an end that Q takes. -/
def Todo (P : Program) (ro : Option Nat) (todo : List Item) (Q : Exit → Act → World → Prop) (a : Act) (w : World) : Prop :=
  ∀ (b : Frame) (cs : List Frame), b.roundOf = ro →
    ∃ e a' w', Q e a' w' ∧ ArrivesIn (fun _ => True) P (lone (b.atR a todo) cs w) b [] cs e a' w'

section rules
variable {P : Program} {ro : Option Nat} {Q : Exit → Act → World → Prop} {a : Act} {w : World} {k : List Item}

theorem Todo.step {todo todo' : List Item} {a' : Act} {w' : World} (hs : ∀ (b : Frame) (cs : List Frame), b.roundOf = ro → StepsW P (lone (b.atR a todo) cs w) (lone (b.atR a' todo') cs w'))
    (h : Todo P ro todo' Q a' w') : Todo P ro todo Q a w := fun b cs hb =>
  let ⟨e, a₁, w₁, q, r⟩ := h b cs hb; ⟨e, a₁, w₁, q, .of_steps (hs b cs hb) r⟩

theorem todo_skip (h : Todo P ro k Q a w) : Todo P ro (.code .skip :: k) Q a w := .step (fun _ _ _ => .one trivial stepR_skip) h
theorem todo_label {l : Nat} (h : Todo P ro k Q a w) : Todo P ro (.code (.label l) :: k) Q a w := .step (fun _ _ _ => .one trivial stepR_label) h
theorem todo_inBlock {id : Nat} (h : Todo P ro k Q a w) : Todo P ro (.inBlock id :: k) Q a w := .step (fun _ _ _ => .one trivial stepR_inBlock) h
theorem todo_seq {x y : Code} (h : Todo P ro (.code x :: .code y :: k) Q a w) : Todo P ro (.code (.seq x y) :: k) Q a w := .step (fun _ _ _ => .one trivial stepR_seq) h
theorem todo_block {id : Nat} {c : Code} (h : Todo P ro (.code c :: .inBlock id :: k) Q a w) : Todo P ro (.code (.block id c) :: k) Q a w := .step (fun _ _ _ => .one trivial stepR_block) h
theorem todo_loop {c : Code} (h : Todo P ro (.code c :: .inLoop c :: k) Q a w) : Todo P ro (.code (.loop c) :: k) Q a w := .step (fun _ _ _ => .one trivial stepR_loop) h
theorem todo_inLoop {c : Code} (h : Todo P ro (.code c :: .inLoop c :: k) Q a w) : Todo P ro (.inLoop c :: k) Q a w := .step (fun _ _ _ => .one trivial stepR_inLoop) h
theorem todo_exit {id : Nat} {k' : List Item} (hx : exitTo id k = some k') (h : Todo P ro k' Q a w) : Todo P ro (.code (.exit id) :: k) Q a w := .step (fun _ _ _ => .one trivial (stepR_exit hx)) h
theorem todo_goto {l : Nat} {k' : List Item} (hx : gotoIn l k = some k') (h : Todo P ro k' Q a w) : Todo P ro (.code (.goto l) :: k) Q a w := .step (fun _ _ _ => .one trivial (stepR_goto hx)) h
theorem todo_cond {c : Operand} {x y : Code} {t : Bool} (hc : a.eval c = .bool t) (h : Todo P ro (.code (if t then x else y) :: k) Q a w) : Todo P ro (.code (.cond c x y) :: k) Q a w :=
  .step (fun _ _ _ => .one trivial (stepR_cond hc)) h
theorem todo_ret (h : Q .ret a w) : Todo P ro (.code .ret :: k) Q a w := fun b cs hb =>
  ⟨.ret, a, w, h, fun hn => ⟨_, .one trivial (stepR_ret hn)⟩, fun _ => ⟨k, .refl _⟩⟩
theorem todo_end (h : Q .normal a w) : Todo P ro [] Q a w := fun b cs hb => ⟨.normal, a, w, h, .refl _⟩
theorem todo_region {id : Nat} {ops : Array Oper} (h : Todo P ro (.inRegion ops (List.range ops.size) :: k) Q a w) : Todo P ro (.code (.region id ops false) :: k) Q a w :=
  .step (fun _ _ _ => .one trivial stepR_region) h
theorem todo_region_end {ops : Array Oper} (h : Todo P ro k Q a w) : Todo P ro (.inRegion ops [] :: k) Q a w := .step (fun _ _ _ => .one trivial stepR_region_end) h
/-- A region that draws: whatever schedule comes. -/
theorem todo_draw {id : Nat} {ops : Array Oper} (h : ∀ t, Todo P ro (.inRegion ops (Region.schedule (P.follows .mixedOrders) ops t) :: k) Q a { w with drawn := w.drawn + 1 }) :
    Todo P ro (.code (.region id ops true) :: k) Q a w := fun b cs hb =>
  let ⟨e, a₁, w₁, q, r⟩ := h (w.tape w.drawn (.order b.fn id)) b cs hb; ⟨e, a₁, w₁, q, .of_steps (.one trivial stepR_region_draw) r⟩

/-- Code whose walk is known by the kit's own 'wpIn'. -/
theorem todo_wpIn {c : Code} {Q' : Exit → Act → World → Prop} {n : Nat} (h : c.wpIn (fence ro) n P Q' a w)
    (hn : ∀ a' w', Q' .normal a' w' → Todo P ro k Q a' w')
    (hx : ∀ id k' a' w', Q' (.exit id) a' w' → exitTo id k = some k' → Todo P ro k' Q a' w')
    (hx0 : ∀ id a' w', Q' (.exit id) a' w' → exitTo id k = none → Q (.exit id) a' w')
    (hr : ∀ a' w', Q' .ret a' w' → Q .ret a' w')
    (hg : ∀ l a' w', ¬ Q' (.goto l) a' w') (hp : ∀ c a' w', ¬ Q' (.panic c) a' w') (ho : ∀ a' w', ¬ Q' .outgrown a' w') :
    Todo P ro (.code c :: k) Q a w := by
  intro b cs hb
  obtain ⟨e, a₁, w₁, hq, harr⟩ := h b k cs hb trivial (fence_room _ _)
  cases e with
  | normal =>
    obtain ⟨e₂, a₂, w₂, q₂, r₂⟩ := hn a₁ w₁ hq b cs hb
    exact ⟨e₂, a₂, w₂, q₂, .of_steps (stepsW_of harr) r₂⟩
  | exit id =>
    cases hk : exitTo id k with
    | some k' =>
      obtain ⟨e₂, a₂, w₂, q₂, r₂⟩ := hx id k' a₁ w₁ hq hk b cs hb
      exact ⟨e₂, a₂, w₂, q₂, .of_steps (stepsW_of (harr.1 k' hk)) r₂⟩
    | none =>
      refine ⟨.exit id, a₁, w₁, hx0 id a₁ w₁ hq hk, fun k' hk' => by simp [exitTo] at hk', fun hro _ => ?_⟩
      obtain ⟨k₁, h1, h2⟩ := harr.2 hro hk
      exact ⟨k₁, h1, stepsW_of h2⟩
  | ret =>
    refine ⟨.ret, a₁, w₁, hr _ _ hq, fun hro => ?_, fun hro => ?_⟩
    · obtain ⟨t, hs⟩ := harr.1 hro
      exact ⟨t, stepsW_of hs⟩
    · obtain ⟨t, hs⟩ := harr.2 hro
      exact ⟨t, stepsW_of hs⟩
  | goto l => exact (hg _ _ _ hq).elim
  | panic c => exact (hp _ _ _ hq).elim
  | outgrown => exact (ho _ _ hq).elim

/-! ### One operation -/
section op
variable {ops : Array Oper} {i : Nat} {rest : List Nat} {o : Oper}

theorem semAt_plain (hd : ∀ c, o.op ≠ .defer c) (ρ : Operand → Value) : o.semAt ro ρ = execOp ρ o := Oper.semAt_eq ro ρ o hd

theorem todo_unwanted (ho : ops[i]? = some o) (hw : Region.wanted o (yielded ops a.tmps) = false) (h : Todo P ro (.inRegion ops rest :: k) Q (a.put o.dst undef) w) :
    Todo P ro (.inRegion ops (i :: rest) :: k) Q a w := by
  refine .step (fun b cs hb => .one trivial ?_) h
  have hs := stepR_op_skip (P := P) (b := b) (a := a) (k := k) (cs := cs) (w := w) (ops := ops) (i := i) (rest := rest) (by simp [ho, hw])
  simpa only [ho, Option.bind_some] using hs

theorem todo_value {v : Value} {w' : World} (ho : ops[i]? = some o) (hw : Region.wanted o (yielded ops a.tmps) = true) (hd : ∀ c, o.op ≠ .defer c)
    (hr : (execOp a.eval o).run P w = .ok (.value v) w') (h : Todo P ro (.inRegion ops rest :: k) Q (a.put o.dst v) w') :
    Todo P ro (.inRegion ops (i :: rest) :: k) Q a w := by
  refine .step (fun b cs hb => .one trivial (step_lone_go ?_)) h
  have hg := stepGR_op (P := P) (b := b) (k := k) (cs := cs) (w := w) (rest := rest) ho hw
  have hfin : (b.atR a (.inRegion ops (i :: rest) :: k)).finish v = b.atR (a.put o.dst v) (.inRegion ops rest :: k) := by
    rw [Frame.finish_atR, ho]; rfl
  rw [hg, hb, semAt_plain hd, ← hfin]; simp [stepG.apply, hr]

theorem todo_unit {w' : World} (ho : ops[i]? = some o) (hw : Region.wanted o (yielded ops a.tmps) = true) (hd : ∀ c, o.op ≠ .defer c)
    (hr : (execOp a.eval o).run P w = .ok .skip w') (h : Todo P ro (.inRegion ops rest :: k) Q (a.put o.dst undef) w') :
    Todo P ro (.inRegion ops (i :: rest) :: k) Q a w := by
  refine .step (fun b cs hb => .one trivial (step_lone_go ?_)) h
  have hg := stepGR_op (P := P) (b := b) (k := k) (cs := cs) (w := w) (rest := rest) ho hw
  have hfin : (b.atR a (.inRegion ops (i :: rest) :: k)).finish undef = b.atR (a.put o.dst undef) (.inRegion ops rest :: k) := by
    rw [Frame.finish_atR, ho]; rfl
  rw [hg, hb, semAt_plain hd, ← hfin]; simp [stepG.apply, hr]

theorem todo_enter {f : FuncId} {args : Array Value} {w' : World} {R : Value → World → Prop} (ho : ops[i]? = some o) (hw : Region.wanted o (yielded ops a.tmps) = true) (hd : ∀ c, o.op ≠ .defer c)
    (hr : (execOp a.eval o).run P w = .ok (.enter f args) w') (hc : Calls P f args w' fun e w'' => ∃ v, e = .returned v ∧ R v w'')
    (h : ∀ v w'', R v w'' → Todo P ro (.inRegion ops rest :: k) Q (a.put o.dst v) w'') :
    Todo P ro (.inRegion ops (i :: rest) :: k) Q a w := by
  intro b cs hb
  have hg := stepGR_op (P := P) (b := b) (k := k) (cs := cs) (w := w) (rest := rest) ho hw
  obtain ⟨e, w'', fr, ⟨v, rfl, hR⟩, hsteps, hfn, hleave⟩ := hc (b.atR a (.inRegion ops (i :: rest) :: k) :: cs)
  obtain ⟨e₂, a₂, w₂, q₂, r₂⟩ := h v w'' hR b cs hb
  refine ⟨e₂, a₂, w₂, q₂, .of_steps ?_ r₂⟩
  have henter : step P (lone (b.atR a (.inRegion ops (i :: rest) :: k)) cs w) =
      .next (lone (Frame.enter P f args .normal) (b.atR a (.inRegion ops (i :: rest) :: k) :: cs) w') :=
    step_lone_go (by rw [hg, hb, semAt_plain hd]; simp [stepG.apply, hr, Frame.atR])
  have hfin : (b.atR a (.inRegion ops (i :: rest) :: k)).finish v = b.atR (a.put o.dst v) (.inRegion ops rest :: k) := by
    rw [Frame.finish_atR, ho]; rfl
  refine .head trivial henter (StepsIn.trans (StepsIn.of_steps hsteps) (.one trivial ?_))
  rw [← hfin]; exact step_leave_returned hleave

/-- A call of 'yield': the loop's body is run as a round. -/
theorem todo_round {l : Nat} {f : FuncId} {tmps : Array Value} {assign body : Code} {n : Nat} {w' : World} {R : Value → World → Prop} (ho : ops[i]? = some o) (hw : Region.wanted o (yielded ops a.tmps) = true) (hd : ∀ c, o.op ≠ .defer c)
    (hr : (execOp a.eval o).run P w = .ok (.round l f tmps assign body) w') (hc : RoundIn Fence.wide n P l f tmps assign body w' fun e w'' => ∃ v, e = .returned v ∧ R v w'')
    (h : ∀ v w'', R v w'' → Todo P ro (.inRegion ops rest :: k) Q (a.put o.dst v) w'') :
    Todo P ro (.inRegion ops (i :: rest) :: k) Q a w := by
  intro b cs hb
  have hg := stepGR_op (P := P) (b := b) (k := k) (cs := cs) (w := w) (rest := rest) ho hw
  obtain ⟨e, w'', ⟨v, rfl, hR⟩, hsteps⟩ := hc.2 (b.atR a (.inRegion ops (i :: rest) :: k)) cs (room_wide _)
  obtain ⟨e₂, a₂, w₂, q₂, r₂⟩ := h v w'' hR b cs hb
  refine ⟨e₂, a₂, w₂, q₂, .of_steps ?_ r₂⟩
  have henter : step P (lone (b.atR a (.inRegion ops (i :: rest) :: k)) cs w) =
      .next (lone (Frame.round l f tmps assign body .normal) (b.atR a (.inRegion ops (i :: rest) :: k) :: cs) w') :=
    step_lone_go (by rw [hg, hb, semAt_plain hd]; simp [stepG.apply, hr, Frame.atR])
  have hfin : (b.atR a (.inRegion ops (i :: rest) :: k)).finish v = b.atR (a.put o.dst v) (.inRegion ops rest :: k) := by
    rw [Frame.finish_atR, ho]; rfl
  rw [← hfin]
  exact .head trivial henter (hsteps.mono fun _ _ => trivial)
end op
end rules

/-- A function's contract out of the walk of its body (marks of ranges over functions among the deferred calls taken in). -/
theorem calls_of_todo {P : Program} {f : FuncId} {fn : Func} {c : Code} {args : Array Value} {w : World} {R : Ending → World → Prop}
    (hf : P.funcs[f]? = some fn) (hb : fn.body = some c)
    (h : Todo P none [.code c] (bodyPostM Fence.wide 0 P fn R) { tmps := args ++ Array.replicate (fn.ntmps - args.size) undef, defers := [] } w) :
    Calls P f args w R := by
  refine callsIn_wide (n := 0).1 ⟨trivial, fun cs hr => ?_⟩
  let b : Frame := { (default : Frame) with fn := f, kind := .normal, roundOf := none }
  have henter : Frame.enter P f args .normal =
      b.atR { tmps := args ++ Array.replicate (fn.ntmps - args.size) undef, defers := [] } [.code c] := by
    simp [Frame.enter, Frame.atR, hf, hb, b]
  obtain ⟨e, a', w', hq, harr⟩ := h b cs rfl
  have up : ∀ {m m' : Machine}, StepsW P m m' → StepsIn (Machine.fenced P Fence.wide) P m m' := fun h => h.mono fun m _ => fenced_wide P m
  rw [← henter] at harr
  cases e with
  | normal =>
    obtain ⟨e', w'', fr', hR, hs, hfn, hl⟩ := leaves_stepsInM a'.defers .returning w' { b.atR a' [] with mode := .returning } cs rfl rfl rfl hf rfl trivial hr hq
    exact ⟨e', w'', fr', hR, ComesIn.of_steps (StepsIn.trans (up harr) (.one (fenced_wide _ _) (stepR_end rfl))) hs, hfn, hl⟩
  | ret =>
    obtain ⟨todo, hs₀⟩ := harr.1 rfl
    obtain ⟨e', w'', fr', hR, hs, hfn, hl⟩ := leaves_stepsInM a'.defers .returning w' { b.atR a' todo with mode := .returning } cs rfl rfl rfl hf rfl trivial hr hq
    exact ⟨e', w'', fr', hR, ComesIn.of_steps (up hs₀) hs, hfn, hl⟩
  | panic chain =>
    obtain ⟨todo, hs₀⟩ := harr
    obtain ⟨e', w'', fr', hR, hs, hfn, hl⟩ := leaves_stepsInM a'.defers (.panicking chain) w' { b.atR a' todo with mode := .panicking chain } cs rfl rfl rfl hf rfl trivial hr hq
    exact ⟨e', w'', fr', hR, ComesIn.of_steps (up hs₀) hs, hfn, hl⟩
  | exit id => exact hq.elim
  | goto l => exact hq.elim
  | outgrown => exact ⟨.outgrown, w', b, hq, harr.resolve_left (by simp [b]), rfl, trivial⟩

end Go.Hw
/-
  Hw, part Ab: what a run draws is never given back.
-/
set_option linter.unusedVariables false
namespace Go.Hw
open Go

theorem ask_drawn {α : Type} : ∀ (k : Ask α) (w : World), w.drawn ≤ (w.ask k).2.drawn
  | .done a, w => Nat.le_refl _
  | .ask what range k, w => by
    unfold World.ask
    dsimp only
    split
    · exact ask_drawn (k 0) w
    · exact Nat.le_trans (Nat.le_succ _) (ask_drawn (k _) { w with drawn := w.drawn + 1 })
theorem sys_drawn (w : World) (c : Sys) : w.drawn ≤ (w.sys c).2.drawn := by
  have h := ask_drawn (Kernel.perform c w.os) w
  unfold World.sys
  generalize w.ask (Kernel.perform c w.os) = p at *
  split
  · exact Nat.le_refl _
  · exact h
theorem viewStore_drawn {p : Program} {w w' : World} {at_ : Addr} {u : TypeId} {k : Addr} {v : Value} {b : Bool} {l : List Addr} (h : w.viewStore p at_ u k v b = .ok (w', l)) : w'.drawn = w.drawn := by
  unfold World.viewStore at h
  simp only [bind, Except.bind, pure, Except.pure, throw, throwThe, MonadExceptOf.throw] at h
  repeat' (split at h)
  all_goals first
    | (cases h; done)
    | (injection h with h; injection h with h _; rw [← h]; done)
    | skip
theorem farStore_drawn {p : Program} {w w' : World} {a : Addr} {v : Value} {b : Bool} {l : List Addr} (h : w.farStore p a v b = .ok (w', l)) : w'.drawn = w.drawn := by
  unfold World.farStore at h
  split at h
  · split at h
    · rename_i r hr
      injection h with h
      subst h
      exact viewStore_drawn hr
    · cases h
  · cases h
theorem freeze_drawn (w : World) (a : Addr) (n : Nat) : (w.freeze a n).drawn = w.drawn := by
  unfold World.freeze; split <;> rfl
theorem run_drawn {α : Type} {p : Program} : ∀ (s : Sem α) {w w' : World} {a : α}, s.run p w = .ok a w' → w.drawn ≤ w'.drawn
  | .pure a, w, w', _, h => by unfold Sem.run at h; injection h with _ h; rw [h]; exact Nat.le_refl _
  | .load m a k, w, w', _, h => by
    unfold Sem.run at h
    split at h
    · exact run_drawn (k _) h
    · split at h
      · exact run_drawn (k _) h
      · cases h
  | .store m a v k, w, w', a9, h => by
    have fin : ∀ {w2 : World}, w.drawn = w2.drawn → k.run p w2 = .ok a9 w' → w.drawn ≤ w'.drawn := fun e h => by rw [e]; exact run_drawn k h
    cases v
    all_goals simp only [Sem.run] at h
    all_goals first
      | (cases h; done)
      | (split at h
         · split at h
           · cases h
           · exact fin (w2 := w.setCell _ _) rfl h
         · split at h
           · rename_i hf; exact fin (farStore_drawn hf).symm h
           · cases h)
  | .new o k, w, w', _, h => by unfold Sem.run at h; exact run_drawn (k _) (w := { w with heap := w.heap.push o }) h
  | .shape r k, w, w', _, h => by unfold Sem.run at h; exact run_drawn (k _) h
  | .freeze a n k, w, w', _, h => by unfold Sem.run at h; have := run_drawn k h; rwa [freeze_drawn] at this
  | .frozen a k, w, w', _, h => by unfold Sem.run at h; exact run_drawn (k _) h
  | .getObj r k, w, w', _, h => by
    unfold Sem.run at h
    split at h
    · cases h
    · exact run_drawn (k _) h
    · cases h
  | .setObj r o k, w, w', _, h => by
    unfold Sem.run at h
    split at h
    · cases h
    · exact run_drawn k (w := { w with heap := w.heap.setIfInBounds r o }) h
    · cases h
  | .choose q k, w, w', _, h => by
    unfold Sem.run at h
    split at h
    · exact run_drawn (k _) h
    · exact Nat.le_trans (Nat.le_succ _) (run_drawn (k _) (w := { w with drawn := w.drawn + 1 }) h)
  | .sys c k, w, w', _, h => by unfold Sem.run at h; exact Nat.le_trans (sys_drawn w c) (run_drawn (k _) h)
  | .program k, w, w', _, h => by unfold Sem.run at h; exact run_drawn (k _) h
  | .mark m k, w, w', _, h => by unfold Sem.run at h; exact run_drawn k h
  | .halt hh, w, w', _, h => by unfold Sem.run at h; cases h
end Go.Hw
/-
  Hw, part B: the state: slots, owned assertions, the part of memory that is only read.
-/
set_option linter.unusedVariables false
namespace Go.Hw
open Go

/-! ### Slots -/
abbrev Sl := List (Nat × Value)
def look (i : Nat) : Sl → Option Value
  | [] => none
  | (j, v) :: r => bif Nat.beq i j then some v else look i r
def evl (l : Sl) : Operand → Option Value
  | .tmp t => look t l
  | .const v => some v
  | .global g => some (.pointer (some ⟨g, 0, none⟩))
  | .func f => some (.func (.func f) #[] #[])

theorem look_cons_same {i : Nat} {v : Value} {l : Sl} : look i ((i, v) :: l) = some v := by simp [look, Nat.beq_refl]
theorem look_cons_ne {i j : Nat} {v : Value} {l : Sl} (h : i ≠ j) : look i ((j, v) :: l) = look i l := by
  have : Nat.beq i j = false := by
    cases hb : Nat.beq i j with
    | false => rfl
    | true => exact absurd (Nat.eq_of_beq_eq_true hb) h
  simp [look, this]

def SlotsOk (l : Sl) (a : Act) : Prop := ∀ i v, look i l = some v → a.tmps[i]? = some v

theorem SlotsOk.eval {l : Sl} {a : Act} (h : SlotsOk l a) {x : Operand} {v : Value} (hx : evl l x = some v) : a.eval x = v := by
  cases x with
  | tmp t => simp only [Act.eval, evl] at *; simp [Array.getD_eq_getD_getElem?, h t v hx]
  | const u => simpa [Act.eval, evl] using hx
  | global g => simpa [Act.eval, evl] using hx
  | func f => simpa [Act.eval, evl] using hx

theorem SlotsOk.put {l : Sl} {a : Act} (h : SlotsOk l a) {d : Nat} (hd : d < a.tmps.size) (v : Value) : SlotsOk ((d, v) :: l) (a.put (some d) v) := by
  intro i u hu
  simp only [Act.put]
  by_cases hi : i = d
  · subst hi
    rw [look_cons_same] at hu
    injection hu with hu
    subst hu
    simp [hd]
  · rw [look_cons_ne hi] at hu
    rw [Array.getElem?_setIfInBounds_ne (Ne.symm hi)]
    exact h i u hu

theorem SlotsOk.sub {l l' : Sl} {a : Act} (h : SlotsOk l a) (hs : ∀ i v, look i l' = some v → look i l = some v) : SlotsOk l' a := fun i v hv => h i v (hs i v hv)

/-! ### Memory -/
abbrev Ro := Nat → Option Obj
def mem (w : World) : Ro := fun i => w.heap[i]?
def Le (h h' : Ro) : Prop := ∀ i o, h i = some o → h' i = some o
theorem Le.refl (h : Ro) : Le h h := fun _ _ e => e
theorem Le.trans {a b c : Ro} (h : Le a b) (k : Le b c) : Le a c := fun i o e => k i o (h i o e)

/-- An owned assertion: what it says of the blocks in its list, and of no other. -/
structure Asn where
  holds : List Nat → Ro → Prop
  loc : ∀ D m m', (∀ b ∈ D, m b = m' b) → holds D m → holds D m'

/-- One block, known whole. -/
def Blk (b : Nat) (T : TypeId) (cs : List Value) : Asn :=
  ⟨fun D m => D = [b] ∧ m b = some (.cells cs.toArray T (0, 0)), fun D m m' h ⟨hd, hm⟩ => ⟨hd, by rw [← h b (by simp [hd])]; exact hm⟩⟩

/-- One block that is any object o with p o. -/
def ObjA (b : Nat) (p : Obj → Prop) : Asn :=
  ⟨fun D m => D = [b] ∧ ∃ o, m b = some o ∧ p o, fun D m m' h ⟨hd, o, hm, hp⟩ => ⟨hd, o, by rw [← h b (by simp [hd])]; exact hm, hp⟩⟩

/-- A slice value of the call's own: nil, or it begins a row; its first cells are xs. -/
def OwnS (e : TypeId) (sz : Nat) (v : Value) (n : Nat) (xs : List Value) : Asn :=
  ⟨fun D m => xs.length = n * sz ∧ ((v = .slice none 0 0 ∧ n = 0 ∧ D = []) ∨
      ∃ g cap cur, v = .slice (some ⟨g, 0, none⟩) n cap ∧ D = [g] ∧ m g = some (.cells cur e (0, 0)) ∧ n ≤ cap ∧ cap ≤ maxLen ∧ cur.size = cap * sz ∧ cur.toList.take (n * sz) = xs),
   fun D m m' h ⟨hl, hr⟩ => ⟨hl, hr.imp id fun ⟨g, cap, cur, h1, h2, h3, h4⟩ => ⟨g, cap, cur, h1, h2, by rw [← h g (by simp [h2])]; exact h3, h4⟩⟩⟩

def Own : List Asn → List (List Nat) → Ro → Prop
  | [], [], _ => True
  | A :: Es, D :: Ds, m => A.holds D m ∧ Own Es Ds m
  | _, _, _ => False

theorem Own.loc : ∀ {Es : List Asn} {Ds : List (List Nat)} {m m' : Ro}, (∀ b ∈ Ds.flatten, m b = m' b) → Own Es Ds m → Own Es Ds m'
  | [], [], _, _, _, _ => trivial
  | A :: Es, D :: Ds, m, m', h, ⟨h1, h2⟩ => ⟨A.loc D m m' (fun b hb => h b (by simp [hb])) h1, Own.loc (fun b hb => h b (by simp only [List.flatten_cons, List.mem_append]; exact .inr hb)) h2⟩
  | [], _ :: _, _, _, _, h => h.elim
  | _ :: _, [], _, _, _, h => h.elim

/-- The memory of a call under way: 'w0' the world in which it began, 'X0' the blocks that it was handed to write, 'h0' what it was told of memory; 'Es' what it owns now, 'h' what it may read. -/
structure Hp (w0 : World) (X0 : List Nat) (h0 : Ro) (Es : List Asn) (h : Ro) (w : World) : Prop where
  os : w.os = w0.os
  tape : w.tape = w0.tape
  output : w.output = w0.output
  size : w0.heap.size ≤ w.heap.size
  dr : w0.drawn ≤ w.drawn
  old : ∀ i, i < w0.heap.size → i ∉ X0 → w.heap[i]? = w0.heap[i]?
  ro : Le h (mem w)
  le : Le h0 h
  new : ∀ i o, h i = some o → h0 i = some o ∨ w0.heap.size ≤ i ∨ i ∈ X0
  own : ∃ Ds : List (List Nat), Own Es Ds (mem w) ∧ Ds.flatten.Nodup ∧ ∀ b ∈ Ds.flatten, h b = none ∧ (w0.heap.size ≤ b ∨ b ∈ X0) ∧ b < w.heap.size

theorem Le.lt {h : Ro} {w : World} (hr : Le h (mem w)) {i : Nat} {o : Obj} (e : h i = some o) : i < w.heap.size := by
  have := hr i o e
  rcases Nat.lt_or_ge i w.heap.size with hl | hg
  · exact hl
  · simp [mem, Array.getElem?_eq_none hg] at this

section hp
variable {w0 : World} {X0 : List Nat} {h0 h : Ro} {Es : List Asn} {w : World}

theorem Hp.drew (H : Hp w0 X0 h0 Es h w) : Hp w0 X0 h0 Es h { w with drawn := w.drawn + 1 } := ⟨H.os, H.tape, H.output, H.size, Nat.le_succ_of_le H.dr, H.old, H.ro, H.le, H.new, H.own⟩

/-- A step that changes owned blocks alone, and adds new ones: the general form. -/
theorem Hp.turn {w' : World} {Es' : List Asn} (H : Hp w0 X0 h0 Es h w) (hos : w'.os = w.os) (htape : w'.tape = w.tape) (hout : w'.output = w.output) (hsize : w.heap.size ≤ w'.heap.size)
    (hown : ∀ Ds, Own Es Ds (mem w) → Ds.flatten.Nodup → (∀ b ∈ Ds.flatten, b < w.heap.size) → ∃ Ds', Own Es' Ds' (mem w') ∧ Ds'.flatten.Nodup ∧ (∀ b ∈ Ds'.flatten, (b ∈ Ds.flatten ∨ w.heap.size ≤ b) ∧ b < w'.heap.size) ∧
      ∀ i, i < w.heap.size → i ∉ Ds.flatten → w'.heap[i]? = w.heap[i]?) (hdr : w.drawn ≤ w'.drawn := by first | exact Nat.le_refl _ | exact Nat.le_add_right _ _ | exact Nat.le_of_eq rfl) : Hp w0 X0 h0 Es' h w' := by
  obtain ⟨Ds, ho, hn, hb⟩ := H.own
  obtain ⟨Ds', ho', hn', hb', hk⟩ := hown Ds ho hn (fun b h => (hb b h).2.2)
  have hro : Le h (mem w') := fun i o e => by
    have hl := H.ro.lt e
    have hni : i ∉ Ds.flatten := fun hi => by have := (hb i hi).1; rw [this] at e; cases e
    show w'.heap[i]? = some o
    rw [hk i hl hni]; exact H.ro i o e
  refine ⟨hos.trans H.os, htape.trans H.tape, hout.trans H.output, Nat.le_trans H.size hsize, Nat.le_trans H.dr hdr, fun i hi hx => ?_, hro, H.le, H.new, Ds', ho', hn', fun b hb1 => ?_⟩
  · have hni : i ∉ Ds.flatten := fun h' => by rcases (hb i h').2.1 with h1 | h1; omega; exact hx h1
    rw [hk i (Nat.lt_of_lt_of_le hi H.size) hni]; exact H.old i hi hx
  · obtain ⟨h1, h2⟩ := hb' b hb1
    rcases h1 with h1 | h1
    · exact ⟨(hb b h1).1, (hb b h1).2.1, h2⟩
    · refine ⟨?_, .inl (Nat.le_trans H.size h1), h2⟩
      cases e : h b with
      | none => rfl
      | some o => have := H.ro.lt e; omega

theorem heap_push_lt {w : World} {o : Obj} {i : Nat} (h : i < w.heap.size) : (w.heap.push o)[i]? = w.heap[i]? := by
  rw [Array.getElem?_push, if_neg (by omega)]

/-- A new block. -/
theorem Hp.alloc (H : Hp w0 X0 h0 Es h w) (o : Obj) (A : Asn) (hA : ∀ m : Ro, m w.heap.size = some o → A.holds [w.heap.size] m) :
    Hp w0 X0 h0 (A :: Es) h { w with heap := w.heap.push o } := by
  refine H.turn rfl rfl rfl (by simp) fun Ds ho hn hb => ⟨[w.heap.size] :: Ds, ⟨hA _ (by simp [mem]), Own.loc (fun b hb' => ?_) ho⟩, ?_, ?_, fun i hi _ => heap_push_lt hi⟩
  · show w.heap[b]? = (w.heap.push o)[b]?
    rw [heap_push_lt (hb b hb')]
  · simp only [List.flatten_cons, List.singleton_append, List.nodup_cons]
    exact ⟨fun hm => absurd (hb _ hm) (by omega), hn⟩
  · intro b hb'
    simp only [List.flatten_cons, List.singleton_append, List.mem_cons] at hb'
    rcases hb' with rfl | hb'
    · exact ⟨.inr (Nat.le_refl _), by simp⟩
    · exact ⟨.inl hb', by have := hb b hb'; simp; omega⟩

/-- A new block that is only read from now on. -/
def Ro.with (h : Ro) (b : Nat) (o : Obj) : Ro := fun i => if i = b then some o else h i
end hp

/-- Where an assertion stands in the list, and what the list is when it is turned. -/
def Repl (Es : List Asn) (A A' : Asn) (Es' : List Asn) : Prop := ∃ p q, Es = p ++ A :: q ∧ Es' = p ++ A' :: q
theorem Repl.here {A A' : Asn} {r : List Asn} : Repl (A :: r) A A' (A' :: r) := ⟨[], r, rfl, rfl⟩
theorem Repl.there {A A' B : Asn} {r r' : List Asn} (h : Repl r A A' r') : Repl (B :: r) A A' (B :: r') := by
  obtain ⟨p, q, rfl, rfl⟩ := h; exact ⟨B :: p, q, rfl, rfl⟩
theorem Repl.rec_ {motive : List Asn → Asn → Asn → List Asn → Prop} (here : ∀ {A A' r}, motive (A :: r) A A' (A' :: r)) (there : ∀ {A A' B r r'}, motive r A A' r' → motive (B :: r) A A' (B :: r')) {Es A A' Es'} (h : Repl Es A A' Es') : motive Es A A' Es' := by
  obtain ⟨p, q, rfl, rfl⟩ := h
  induction p with
  | nil => exact here
  | cons B p ih => exact there ih

/-- An assertion taken out of the list. -/
def Take (Es : List Asn) (A : Asn) (Es' : List Asn) : Prop := ∃ p q, Es = p ++ A :: q ∧ Es' = p ++ q
theorem Take.here {A : Asn} {r : List Asn} : Take (A :: r) A r := ⟨[], r, rfl, rfl⟩
theorem Take.there {A B : Asn} {r r' : List Asn} (h : Take r A r') : Take (B :: r) A (B :: r') := by
  obtain ⟨p, q, rfl, rfl⟩ := h; exact ⟨B :: p, q, rfl, rfl⟩
theorem Take.rec_ {motive : List Asn → Asn → List Asn → Prop} (here : ∀ {A r}, motive (A :: r) A r) (there : ∀ {A B r r'}, motive r A r' → motive (B :: r) A (B :: r')) {Es A Es'} (h : Take Es A Es') : motive Es A Es' := by
  obtain ⟨p, q, rfl, rfl⟩ := h
  induction p with
  | nil => exact here
  | cons B p ih => exact there ih

theorem Repl.own {Es Es' : List Asn} {A A' : Asn} (hR : Repl Es A A' Es') : ∀ {Ds : List (List Nat)} {m : Ro}, Own Es Ds m → Ds.flatten.Nodup →
    ∃ D, A.holds D m ∧ D.Nodup ∧ (∀ b ∈ D, b ∈ Ds.flatten) ∧ ∀ (m' : Ro) (D' : List Nat), A'.holds D' m' → D'.Nodup → (∀ b ∈ D', b ∈ D ∨ b ∉ Ds.flatten) → (∀ b, b ∈ Ds.flatten → b ∉ D → m b = m' b) →
      ∃ Ds', Own Es' Ds' m' ∧ Ds'.flatten.Nodup ∧ ∀ b ∈ Ds'.flatten, b ∈ Ds.flatten ∨ b ∈ D' := by
  refine Repl.rec_ (motive := fun Es A A' Es' => ∀ {Ds : List (List Nat)} {m : Ro}, Own Es Ds m → Ds.flatten.Nodup →
    ∃ D, A.holds D m ∧ D.Nodup ∧ (∀ b ∈ D, b ∈ Ds.flatten) ∧ ∀ (m' : Ro) (D' : List Nat), A'.holds D' m' → D'.Nodup → (∀ b ∈ D', b ∈ D ∨ b ∉ Ds.flatten) → (∀ b, b ∈ Ds.flatten → b ∉ D → m b = m' b) →
      ∃ Ds', Own Es' Ds' m' ∧ Ds'.flatten.Nodup ∧ ∀ b ∈ Ds'.flatten, b ∈ Ds.flatten ∨ b ∈ D') ?_ ?_ hR
  · intro A A' r Ds m ho hn
    cases Ds with
    | nil => exact ho.elim
    | cons D Ds =>
      rw [List.flatten_cons, List.nodup_append] at hn
      refine ⟨D, ho.1, hn.1, fun b hb => by simp [hb], fun m' D' hA' hD' hsub hk => ⟨D' :: Ds, ⟨hA', Own.loc (fun b hb => hk b (by simp only [List.flatten_cons, List.mem_append]; exact .inr hb) (fun hD => hn.2.2 b hD b hb rfl)) ho.2⟩, ?_, ?_⟩⟩
      · rw [List.flatten_cons, List.nodup_append]
        refine ⟨hD', hn.2.1, fun a ha b hb e => ?_⟩
        subst e
        rcases hsub a ha with h1 | h1
        · exact hn.2.2 a h1 a hb rfl
        · exact h1 (by simp only [List.flatten_cons, List.mem_append]; exact .inr hb)
      · intro b hb
        simp only [List.flatten_cons, List.mem_append] at hb ⊢
        rcases hb with h1 | h1
        · exact .inr h1
        · exact .inl (.inr h1)
  · intro A A' B r r' ih Ds m ho hn
    cases Ds with
    | nil => exact ho.elim
    | cons D0 Ds =>
      rw [List.flatten_cons, List.nodup_append] at hn
      obtain ⟨D, hA, hDn, hsubD, hgo⟩ := ih ho.2 hn.2.1
      refine ⟨D, hA, hDn, fun b hb => by simp only [List.flatten_cons, List.mem_append]; exact .inr (hsubD b hb), fun m' D' hA' hD' hsub hk => ?_⟩
      obtain ⟨Ds', ho', hn', hin⟩ := hgo m' D' hA' hD' (fun b hb => (hsub b hb).imp id fun h1 h2 => h1 (by simp only [List.flatten_cons, List.mem_append]; exact .inr h2)) (fun b hb hbD => hk b (by simp only [List.flatten_cons, List.mem_append]; exact .inr hb) hbD)
      refine ⟨D0 :: Ds', ⟨B.loc D0 m m' (fun b hb => hk b (by simp [hb]) (fun hbD => hn.2.2 b hb b (hsubD b hbD) rfl)) ho.1, ho'⟩, ?_, ?_⟩
      · rw [List.flatten_cons, List.nodup_append]
        refine ⟨hn.1, hn', fun a ha b hb e => ?_⟩
        subst e
        rcases hin a hb with h1 | h1
        · exact hn.2.2 a ha a h1 rfl
        · rcases hsub a h1 with h2 | h2
          · exact hn.2.2 a ha a (hsubD a h2) rfl
          · exact h2 (by simp [ha])
      · intro b hb
        simp only [List.flatten_cons, List.mem_append] at hb ⊢
        rcases hb with h1 | h1
        · exact .inl (.inl h1)
        · rcases hin b h1 with h2 | h2
          · exact .inl (.inr h2)
          · exact .inr h2

theorem Take.own {Es Es' : List Asn} {A : Asn} (hT : Take Es A Es') : ∀ {Ds : List (List Nat)} {m : Ro}, Own Es Ds m → Ds.flatten.Nodup →
    ∃ D Ds', A.holds D m ∧ Own Es' Ds' m ∧ (D ++ Ds'.flatten).Nodup ∧ ∀ b, b ∈ Ds.flatten ↔ b ∈ D ∨ b ∈ Ds'.flatten := by
  refine Take.rec_ (motive := fun Es A Es' => ∀ {Ds : List (List Nat)} {m : Ro}, Own Es Ds m → Ds.flatten.Nodup →
    ∃ D Ds', A.holds D m ∧ Own Es' Ds' m ∧ (D ++ Ds'.flatten).Nodup ∧ ∀ b, b ∈ Ds.flatten ↔ b ∈ D ∨ b ∈ Ds'.flatten) ?_ ?_ hT
  · intro A r Ds m ho hn
    cases Ds with
    | nil => exact ho.elim
    | cons D Ds => exact ⟨D, Ds, ho.1, ho.2, by simpa using hn, fun b => by simp⟩
  · intro A B r r' ih Ds m ho hn
    cases Ds with
    | nil => exact ho.elim
    | cons D0 Ds =>
      rw [List.flatten_cons, List.nodup_append] at hn
      obtain ⟨D, Ds', hA, ho', hn', hin⟩ := ih ho.2 hn.2.1
      rw [List.nodup_append] at hn'
      refine ⟨D, D0 :: Ds', hA, ⟨ho.1, ho'⟩, ?_, fun b => ?_⟩
      · rw [List.flatten_cons, List.nodup_append, List.nodup_append]
        refine ⟨hn'.1, ⟨hn.1, hn'.2.1, fun a ha b hb e => ?_⟩, fun a ha b hb e => ?_⟩
        · subst e; exact hn.2.2 a ha a ((hin a).2 (.inr hb)) rfl
        · subst e
          rcases List.mem_append.1 hb with h1 | h1
          · exact hn.2.2 a h1 a ((hin a).2 (.inl ha)) rfl
          · exact hn'.2.2 a ha a h1 rfl
      · simp only [List.flatten_cons, List.mem_append, hin b]
        constructor
        · rintro (h | h | h)
          · exact .inr (.inl h)
          · exact .inl h
          · exact .inr (.inr h)
        · rintro (h | h | h)
          · exact .inr (.inl h)
          · exact .inl h
          · exact .inr (.inr h)

theorem Own.get {Es : List Asn} {A : Asn} (hA : A ∈ Es) : ∀ {Ds : List (List Nat)} {m : Ro}, Own Es Ds m → ∃ D, A.holds D m ∧ ∀ b ∈ D, b ∈ Ds.flatten := by
  induction Es with
  | nil => cases hA
  | cons B Es ih =>
    intro Ds m ho
    cases Ds with
    | nil => exact ho.elim
    | cons D Ds =>
      rcases List.mem_cons.1 hA with rfl | h
      · exact ⟨D, ho.1, fun b hb => by simp [hb]⟩
      · obtain ⟨D', h1, h2⟩ := ih h ho.2
        exact ⟨D', h1, fun b hb => by simp only [List.flatten_cons, List.mem_append]; exact .inr (h2 b hb)⟩

section hp2
variable {w0 : World} {X0 : List Nat} {h0 h : Ro} {Es Es' : List Asn} {w : World}

theorem Hp.get (H : Hp w0 X0 h0 Es h w) {A : Asn} (hA : A ∈ Es) : ∃ D, A.holds D (mem w) := by
  obtain ⟨Ds, ho, _⟩ := H.own
  obtain ⟨D, h1, _⟩ := ho.get hA
  exact ⟨D, h1⟩

theorem Hp.blk (H : Hp w0 X0 h0 Es h w) {b : Nat} {T : TypeId} {cs : List Value} (hA : Blk b T cs ∈ Es) : w.heap[b]? = some (.cells cs.toArray T (0, 0)) := by
  obtain ⟨D, _, h1⟩ := H.get hA
  exact h1

/-- One assertion is turned, by a step that changes its own blocks alone (and may add new ones). -/
theorem Hp.repl {w' : World} {A A' : Asn} (H : Hp w0 X0 h0 Es h w) (hR : Repl Es A A' Es') (hos : w'.os = w.os) (htape : w'.tape = w.tape) (hout : w'.output = w.output) (hsize : w.heap.size ≤ w'.heap.size)
    (hstep : ∀ D, A.holds D (mem w) → D.Nodup → (∀ b ∈ D, b < w.heap.size) → ∃ D', A'.holds D' (mem w') ∧ D'.Nodup ∧ (∀ b ∈ D', (b ∈ D ∨ w.heap.size ≤ b) ∧ b < w'.heap.size) ∧ ∀ i, i < w.heap.size → i ∉ D → w'.heap[i]? = w.heap[i]?) (hdr : w.drawn ≤ w'.drawn := by first | exact Nat.le_refl _ | exact Nat.le_add_right _ _ | exact Nat.le_of_eq rfl) :
    Hp w0 X0 h0 Es' h w' := by
  refine H.turn hos htape hout hsize (hdr := hdr) fun Ds ho hn hb => ?_
  obtain ⟨D, hA, hDn, hsub, hgo⟩ := hR.own ho hn
  obtain ⟨D', hA', hD', hin, hk⟩ := hstep D hA hDn (fun b h1 => hb b (hsub b h1))
  obtain ⟨Ds', ho', hn', hin'⟩ := hgo (mem w') D' hA' hD' (fun b hb1 => (hin b hb1).1.imp id fun h1 h2 => absurd (hb b h2) (by omega)) (fun b hb1 hbD => (hk b (hb b hb1) hbD).symm)
  refine ⟨Ds', ho', hn', fun b hb1 => ?_, fun i hi hni => hk i hi (fun hD => hni (hsub i hD))⟩
  rcases hin' b hb1 with h1 | h1
  · exact ⟨.inl h1, Nat.lt_of_lt_of_le (hb b h1) hsize⟩
  · obtain ⟨h2, h3⟩ := hin b h1
    rcases h2 with h2 | h2
    · exact ⟨.inl (hsub b h2), h3⟩
    · exact ⟨.inr h2, h3⟩

/-- What is owned under another name. -/
theorem Hp.asn {A A' : Asn} (H : Hp w0 X0 h0 Es h w) (hR : Repl Es A A' Es') (hi : ∀ D m, A.holds D m → A'.holds D m) : Hp w0 X0 h0 Es' h w :=
  H.repl hR rfl rfl rfl (Nat.le_refl _) fun D hA hn hb => ⟨D, hi D _ hA, hn, fun b h1 => ⟨.inl h1, hb b h1⟩, fun _ _ _ => rfl⟩

/-- What is owned is let go: it is only read from now on. -/
theorem Hp.release {A : Asn} (H : Hp w0 X0 h0 Es h w) (hT : Take Es A Es') : ∃ D h', Le h h' ∧ A.holds D h' ∧ Hp w0 X0 h0 Es' h' w := by
  obtain ⟨Ds, ho, hn, hb⟩ := H.own
  obtain ⟨D, Ds', hA, ho', hn', hin⟩ := hT.own ho hn
  rw [List.nodup_append] at hn'
  have hnone : ∀ b, b ∈ D → h b = none := fun b h1 => (hb b ((hin b).2 (.inl h1))).1
  refine ⟨D, fun i => if i ∈ D then mem w i else h i, fun i o e => ?_, A.loc D (mem w) _ (fun b h1 => by simp [h1]) hA, H.os, H.tape, H.output, H.size, H.dr, H.old, fun i o e => ?_, H.le.trans fun i o e => ?_, fun i o e => ?_, Ds', ho', hn'.2.1, fun b h1 => ?_⟩
  · by_cases hi : i ∈ D
    · rw [hnone i hi] at e; cases e
    · simpa [hi] using e
  · by_cases hi : i ∈ D
    · simpa [hi] using e
    · exact H.ro i o (by simpa [hi] using e)
  · by_cases hi : i ∈ D
    · rw [hnone i hi] at e; cases e
    · simpa [hi] using e
  · by_cases hi : i ∈ D
    · exact .inr (hb i ((hin i).2 (.inl hi))).2.1
    · exact H.new i o (by simpa [hi] using e)
  · have hnD : b ∉ D := fun h2 => hn'.2.2 b h2 b h1 rfl
    obtain ⟨h2, h3, h4⟩ := hb b ((hin b).2 (.inr h1))
    exact ⟨by simp [hnD, h2], h3, h4⟩

/-- What is owned is forgotten. -/
theorem Hp.drop {A : Asn} (H : Hp w0 X0 h0 Es h w) (hT : Take Es A Es') : Hp w0 X0 h0 Es' h w := by
  obtain ⟨Ds, ho, hn, hb⟩ := H.own
  obtain ⟨D, Ds', hA, ho', hn', hin⟩ := hT.own ho hn
  rw [List.nodup_append] at hn'
  exact ⟨H.os, H.tape, H.output, H.size, H.dr, H.old, H.ro, H.le, H.new, Ds', ho', hn'.2.1, fun b h1 => hb b ((hin b).2 (.inr h1))⟩
end hp2

/-! ### Contracts -/
/-- What a call of f does: it owns Es0, it may read h0; it comes back, and of what it hands back, of what is owned then and of what may be read then, Post holds. Nothing else that was there has turned. -/
def Fn (P : Program) (f : FuncId) (args : Array Value) (Es0 : List Asn) (h0 : Ro) (Post : Value → List Asn → Ro → Prop) : Prop :=
  ∀ (w : World) (X0 : List Nat), Le h0 (mem w) →
    (∃ Ds : List (List Nat), Own Es0 Ds (mem w) ∧ Ds.flatten.Nodup ∧ ∀ b ∈ Ds.flatten, h0 b = none ∧ b ∈ X0 ∧ b < w.heap.size) →
    Calls P f args w fun e w' => ∃ v, e = .returned v ∧ ∃ Es h, Post v Es h ∧ Hp w X0 h0 Es h w'

theorem Fn.mono {P : Program} {f : FuncId} {args : Array Value} {Es0 : List Asn} {h0 : Ro} {Post Post' : Value → List Asn → Ro → Prop} (h : Fn P f args Es0 h0 Post)
    (hp : ∀ v Es h, Le h0 h → Post v Es h → Post' v Es h) : Fn P f args Es0 h0 Post' := fun w X0 hl ho =>
  (h w X0 hl ho).mono fun _ _ ⟨v, he, Es, h, hP, H⟩ => ⟨v, he, Es, h, hp v Es h H.le hP, H⟩

theorem Own.append : ∀ {Es Fs : List Asn} {Ds Gs : List (List Nat)} {m : Ro}, Own Es Ds m → Own Fs Gs m → Own (Es ++ Fs) (Ds ++ Gs) m
  | [], _, [], _, _, _, h => h
  | _ :: _, _, _ :: _, _, _, ⟨h1, h2⟩, h => ⟨h1, Own.append h2 h⟩
  | [], _, _ :: _, _, _, h, _ => h.elim
  | _ :: _, _, [], _, _, h, _ => h.elim

theorem Own.split : ∀ {Es Fs : List Asn} {Ds : List (List Nat)} {m : Ro}, Own (Es ++ Fs) Ds m → ∃ D1 D2, Ds = D1 ++ D2 ∧ Own Es D1 m ∧ Own Fs D2 m
  | [], _, Ds, _, h => ⟨[], Ds, rfl, trivial, h⟩
  | A :: Es, Fs, D :: Ds, m, ⟨h1, h2⟩ => by
    obtain ⟨D1, D2, rfl, h3, h4⟩ := Own.split (Es := Es) (Fs := Fs) h2
    exact ⟨D :: D1, D2, rfl, ⟨h1, h3⟩, h4⟩
  | _ :: _, _, [], _, h => h.elim

/-- The caller's memory behind a call. -/
theorem Hp.call {w0 w w' : World} {X0 : List Nat} {h0 h h' : Ro} {Es0 Es1 Fs : List Asn} {D1 D2 : List (List Nat)} (H : Hp w0 X0 h0 (Es0 ++ Fs) h w)
    (ho1 : Own Es0 D1 (mem w)) (ho2 : Own Fs D2 (mem w)) (hn : (D1 ++ D2).flatten.Nodup) (hb : ∀ b ∈ (D1 ++ D2).flatten, h b = none ∧ (w0.heap.size ≤ b ∨ b ∈ X0) ∧ b < w.heap.size)
    (H' : Hp w D1.flatten h Es1 h' w') : Hp w0 X0 h0 (Es1 ++ Fs) h' w' := by
  obtain ⟨Ds', ho', hn', hb'⟩ := H'.own
  have hb1 : ∀ b ∈ D1.flatten, h b = none ∧ (w0.heap.size ≤ b ∨ b ∈ X0) ∧ b < w.heap.size := fun b h1 => hb b (by rw [List.flatten_append, List.mem_append]; exact .inl h1)
  have hb2 : ∀ b ∈ D2.flatten, h b = none ∧ (w0.heap.size ≤ b ∨ b ∈ X0) ∧ b < w.heap.size := fun b h1 => hb b (by rw [List.flatten_append, List.mem_append]; exact .inr h1)
  rw [List.flatten_append, List.nodup_append] at hn
  refine ⟨H'.os.trans H.os, H'.tape.trans H.tape, H'.output.trans H.output, Nat.le_trans H.size H'.size, Nat.le_trans H.dr H'.dr, fun i hi hx => ?_, H'.ro, H.le.trans H'.le, fun i o e => ?_, Ds' ++ D2, Own.append ho' (Own.loc (fun b h1 => ?_) ho2), ?_, fun b h1 => ?_⟩
  · have hni : i ∉ D1.flatten := fun h1 => by rcases (hb1 i h1).2.1 with h2 | h2; omega; exact hx h2
    rw [H'.old i (Nat.lt_of_lt_of_le hi H.size) hni]; exact H.old i hi hx
  · rcases H'.new i o e with h1 | h1 | h1
    · exact H.new i o h1
    · exact .inr (.inl (Nat.le_trans H.size h1))
    · exact .inr (hb1 i h1).2.1
  · exact (H'.old b (hb2 b h1).2.2 (fun h2 => hn.2.2 b h2 b h1 rfl)).symm
  · rw [List.flatten_append, List.nodup_append]
    refine ⟨hn', hn.2.1, fun a ha b hb3 e => ?_⟩
    subst e
    rcases (hb' a ha).2.1 with h1 | h1
    · have := (hb2 a hb3).2.2; omega
    · exact hn.2.2 a h1 a hb3 rfl
  · rw [List.flatten_append, List.mem_append] at h1
    rcases h1 with h1 | h1
    · obtain ⟨h2, h3, h4⟩ := hb' b h1
      refine ⟨h2, ?_, h4⟩
      rcases h3 with h3 | h3
      · exact .inl (Nat.le_trans H.size h3)
      · exact (hb1 b h3).2.1
    · obtain ⟨h2, h3, h4⟩ := hb2 b h1
      refine ⟨?_, h3, Nat.lt_of_lt_of_le h4 H'.size⟩
      cases e : h' b with
      | none => rfl
      | some o =>
        rcases H'.new b o e with h5 | h5 | h5
        · rw [h2] at h5; cases h5
        · omega
        · exact absurd rfl (hn.2.2 b h5 b h1)
end Go.Hw
/-
  Hw, part C: types' table; values that an operation computes from its operands alone ('pv'); the judgement 'GO' and its rules for control.
-/
set_option linter.unusedVariables false
namespace Go.Hw
open Go

/-! ### The table of types -/
structure Ty where
  id : Nat
  desc : TypeDesc
  size : Nat
  bytes : Nat
  zero : Value

def tyOf (n : Nat) : List Ty → Option Ty
  | [] => none
  | t :: r => bif Nat.beq n t.id then some t else tyOf n r

/-- A type's description without its words. -/
def blankF (f : Field) : Field := { name := if f.name = "_" then "_" else "", type := f.type, offset := f.offset, embedded := false, tag := "", pkgPath := "", byteOffset := 0 }
def blank : TypeDesc → TypeDesc
  | .struct fs => .struct (fs.toList.map blankF).toArray
  | .interface _ => .interface #[]
  | .named _ u => .named "" u
  | d => d

def TyOk (P : Program) (t : Ty) : Prop := (P.underlying t.id).map blank = some t.desc ∧ (P.info? t.id).map (fun i => (i.size, i.bytes, i.zero)) = some (t.size, t.bytes, some t.zero)

def TsOk (P : Program) (ts : List Ty) : Prop := ∀ t ∈ ts, TyOk P t

theorem tyOf_mem {n : Nat} {t : Ty} : ∀ {ts : List Ty}, tyOf n ts = some t → t ∈ ts ∧ t.id = n
  | [], h => by cases h
  | u :: r, h => by
    simp only [tyOf] at h
    cases hb : Nat.beq n u.id with
    | true =>
      rw [hb] at h
      simp only [cond_true, Option.some.injEq] at h
      subst h
      exact ⟨.head _, (Nat.eq_of_beq_eq_true hb).symm⟩
    | false =>
      rw [hb] at h
      simp only [cond_false] at h
      exact ⟨.tail _ (tyOf_mem h).1, (tyOf_mem h).2⟩

section
variable {P : Program} {ts : List Ty} (hT : TsOk P ts)
include hT
theorem TsOk.und {n : Nat} {t : Ty} (h : tyOf n ts = some t) : ∃ D, P.underlying n = some D ∧ blank D = t.desc := by
  obtain ⟨h1, h2⟩ := tyOf_mem h
  have := (hT t h1).1
  rw [h2] at this
  exact Option.map_eq_some_iff.1 this
theorem TsOk.info {n : Nat} {t : Ty} (h : tyOf n ts = some t) : ∃ i, P.info? n = some i ∧ i.size = t.size ∧ i.bytes = t.bytes ∧ i.zero = some t.zero := by
  obtain ⟨h1, h2⟩ := tyOf_mem h
  have := (hT t h1).2
  rw [h2] at this
  obtain ⟨i, hi, he⟩ := Option.map_eq_some_iff.1 this
  simp only [Prod.mk.injEq] at he
  exact ⟨i, hi, he.1, he.2.1, he.2.2⟩
theorem TsOk.run_und {n : Nat} {t : Ty} (h : tyOf n ts = some t) : ∃ D, (∀ w, (underlying n).run P w = .ok D w) ∧ blank D = t.desc := by
  obtain ⟨D, h1, h2⟩ := hT.und h
  exact ⟨D, fun w => run_underlying h1 w, h2⟩
theorem TsOk.run_size {n : Nat} {t : Ty} (h : tyOf n ts = some t) (w : World) : (sizeOf n).run P w = .ok t.size w := by
  obtain ⟨i, hi, h1, _⟩ := hT.info h
  simp [sizeOf, typeInfo, hi, h1]
theorem TsOk.run_zero {n : Nat} {t : Ty} (h : tyOf n ts = some t) (w : World) : (zeroValue n).run P w = .ok t.zero w := by
  obtain ⟨i, hi, _, _, h1⟩ := hT.info h
  simp [zeroValue, typeInfo, hi, h1]
end

def Ty.agg (t : Ty) : Bool := match t.desc with | .struct _ | .array _ _ => true | _ => false

theorem TsOk.run_agg {P : Program} {ts : List Ty} (hT : TsOk P ts) {n : Nat} {t : Ty} (h : tyOf n ts = some t) (w : World) : (isAgg n).run P w = .ok t.agg w := by
  obtain ⟨D, hD, hb⟩ := hT.run_und h
  simp only [isAgg, Sem.run_bind, hD w, Result.andThen_ok, Ty.agg, ← hb]
  cases D <;> rfl

/-- Descriptions that 'blank' leaves as they are. -/
theorem blank_slice {D : TypeDesc} {e : TypeId} (h : blank D = .slice e) : D = .slice e := by cases D <;> simp_all [blank]
theorem blank_array {D : TypeDesc} {n e : Nat} (h : blank D = .array n e) : D = .array n e := by cases D <;> simp_all [blank]
theorem blank_map {D : TypeDesc} {k e : TypeId} (h : blank D = .map k e) : D = .map k e := by cases D <;> simp_all [blank]
theorem blank_int {D : TypeDesc} {k : IntKind} (h : blank D = .int k) : D = .int k := by cases D <;> simp_all [blank]
theorem blank_string {D : TypeDesc} (h : blank D = .string) : D = .string := by cases D <;> simp_all [blank]
theorem blank_bool {D : TypeDesc} (h : blank D = .bool) : D = .bool := by cases D <;> simp_all [blank]
theorem blank_pointer {D : TypeDesc} {e : TypeId} (h : blank D = .pointer e) : D = .pointer e := by cases D <;> simp_all [blank]
theorem blank_struct {D : TypeDesc} {fs : Array Field} (h : blank D = .struct fs) : ∃ gs, D = .struct gs ∧ gs.toList.map blankF = fs.toList := by
  cases D <;> simp only [blank, reduceCtorEq, TypeDesc.struct.injEq] at h
  exact ⟨_, rfl, by rw [← h]⟩

/-! ### Lists of cells, written out -/
def tk : Nat → List Value → Option (List Value)
  | 0, _ => some []
  | n + 1, x :: r => match tk n r with | some r' => some (x :: r') | none => none
  | _ + 1, [] => none
def cut : Nat → Nat → List Value → Option (List Value)
  | 0, n, cs => tk n cs
  | o + 1, n, _ :: r => cut o n r
  | _ + 1, _, [] => none
def nth : Nat → List Value → Option Value
  | 0, x :: _ => some x
  | o + 1, _ :: r => nth o r
  | _, [] => none
/-- vs written over cs from offset o on. -/
def over : Nat → List Value → List Value → Option (List Value)
  | 0, [], cs => tk cs.length cs
  | 0, v :: vs, _ :: r => match over 0 vs r with | some r' => some (v :: r') | none => none
  | 0, _ :: _, [] => none
  | o + 1, vs, x :: r => match over o vs r with | some r' => some (x :: r') | none => none
  | _ + 1, [], [] => some []
  | _ + 1, _ :: _, [] => none

theorem tk_eq : ∀ {n : Nat} {cs vs : List Value}, tk n cs = some vs → vs = cs.take n ∧ n ≤ cs.length
  | 0, cs, vs, h => by simp only [tk, Option.some.injEq] at h; subst h; simp
  | n + 1, [], vs, h => by cases h
  | n + 1, x :: r, vs, h => by
    simp only [tk] at h
    split at h
    · rename_i r' hr
      obtain ⟨h1, h2⟩ := tk_eq hr
      injection h with h
      subst h; subst h1
      simp; omega
    · cases h
theorem cut_eq : ∀ {o n : Nat} {cs vs : List Value}, cut o n cs = some vs → vs = (cs.drop o).take n ∧ o + n ≤ cs.length
  | 0, n, cs, vs, h => by obtain ⟨h1, h2⟩ := tk_eq (by simpa [cut] using h); subst h1; simp; omega
  | o + 1, n, [], vs, h => by cases h
  | o + 1, n, x :: r, vs, h => by
    obtain ⟨h1, h2⟩ := cut_eq (o := o) (n := n) (cs := r) (vs := vs) (by simpa [cut] using h)
    subst h1; simp; omega
theorem nth_eq : ∀ {o : Nat} {cs : List Value} {v : Value}, nth o cs = some v → cs[o]? = some v
  | 0, [], v, h => by cases h
  | 0, x :: r, v, h => by simpa [nth] using h
  | o + 1, [], v, h => by cases h
  | o + 1, x :: r, v, h => by simpa using nth_eq (o := o) (cs := r) (v := v) (by simpa [nth] using h)
theorem over_eq : ∀ {o : Nat} {vs cs r : List Value}, over o vs cs = some r → r = cs.take o ++ vs ++ cs.drop (o + vs.length) ∧ (vs ≠ [] → o + vs.length ≤ cs.length)
  | 0, [], cs, r, h => by
    obtain ⟨h1, h2⟩ := tk_eq (by simpa [over] using h)
    subst h1; simp
  | 0, v :: vs, [], r, h => by cases h
  | 0, v :: vs, x :: cs, r, h => by
    simp only [over] at h
    split at h
    · rename_i r' hr
      obtain ⟨h1, h2⟩ := over_eq hr
      injection h with h
      subst h; subst h1
      refine ⟨by simp, fun _ => ?_⟩
      cases vs with
      | nil => simp
      | cons => have := h2 (by simp); simp at this ⊢; omega
    · cases h
  | o + 1, vs, x :: cs, r, h => by
    simp only [over] at h
    split at h
    · rename_i r' hr
      obtain ⟨h1, h2⟩ := over_eq hr
      injection h with h
      subst h; subst h1
      refine ⟨by simp [Nat.add_right_comm], fun hv => ?_⟩
      have := h2 hv; simp; omega
    · cases h
  | o + 1, [], [], r, h => by simp only [over, Option.some.injEq] at h; subst h; simp
  | o + 1, v :: vs, [], r, h => by cases h

/-! ### Values out of operands alone -/
@[irreducible] def eqI (a b : Int) : Bool := decide (a = b)
@[irreducible] def ltI (a b : Int) : Bool := decide (a < b)
@[irreducible] def leI (a b : Int) : Bool := decide (a ≤ b)
theorem eqI_eq (a b : Int) : eqI a b = decide (a = b) := by unfold eqI; rfl
theorem ltI_eq (a b : Int) : ltI a b = decide (a < b) := by unfold ltI; rfl
theorem leI_eq (a b : Int) : leI a b = decide (a ≤ b) := by unfold leI; rfl
theorem eqI_t (a b : Int) : (eqI a b = true) = (a = b) := by simp [eqI_eq]
theorem ltI_t (a b : Int) : (ltI a b = true) = (a < b) := by simp [ltI_eq]
theorem leI_t (a b : Int) : (leI a b = true) = (a ≤ b) := by simp [leI_eq]
theorem eqI_f (a b : Int) : (eqI a b = false) = (a ≠ b) := by simp [eqI_eq]
theorem ltI_f (a b : Int) : (ltI a b = false) = (b ≤ a) := by simp [ltI_eq]
theorem leI_f (a b : Int) : (leI a b = false) = (b < a) := by simp [leI_eq]
def pvCmp (op : BinOp) (a b : Int) : Option Value :=
  match op with
  | .eql => some (.bool (eqI a b))
  | .neq => some (.bool (!eqI a b))
  | .lss => some (.bool (ltI a b))
  | .leq => some (.bool (leI a b))
  | .gtr => some (.bool (ltI b a))
  | .geq => some (.bool (leI b a))
  | _ => none

theorem pvCmp_ok {op : BinOp} {a b : Int} {v : Value} (h : pvCmp op a b = some v) : Op.intCmp op a b = pure v := by
  cases op <;> simp only [pvCmp, Option.some.injEq, reduceCtorEq] at h <;> subst h <;> simp [Op.intCmp, eqI_eq, ltI_eq, leI_eq] <;> first | rfl | (congr 1; simp [bne, Int.beq_eq_decide]) | skip


/-- Equality of two values that are no aggregates, as the table's type says. -/
def pvEq (d : TypeDesc) (x y : Value) : Option Bool :=
  match d, x, y with
  | .bool, .bool a, .bool b => some (a == b)
  | .pointer _, .pointer none, .pointer p => some p.isNone
  | .pointer _, .pointer (some _), .pointer none => some false
  | .slice _, .slice none _ _, .slice p _ _ => some p.isNone
  | .slice _, .slice (some _) _ _, .slice none _ _ => some false
  | .map _ _, .map none, .map p => some p.isNone
  | .map _ _, .map (some _), .map none => some false
  | .func _ _ _, .nilFunc, .nilFunc => some true
  | .func _ _ _, .func _ _ _, .nilFunc => some false
  | .func _ _ _, .nilFunc, .func _ _ _ => some false
  | _, _, _ => none

theorem blank_func {D : TypeDesc} {p r : Array TypeId} {v : Bool} (h : blank D = .func p r v) : D = .func p r v := by cases D <;> simp_all [blank]

theorem pvEq_same {D d : TypeDesc} (hbl : blank D = d) {x y : Value} {b : Bool} (h : pvEq d x y = some b) : D = d := by
  unfold pvEq at h
  split at h
  · exact blank_bool hbl
  · exact blank_pointer hbl
  · exact blank_pointer hbl
  · exact blank_slice hbl
  · exact blank_slice hbl
  · exact blank_map hbl
  · exact blank_map hbl
  · exact blank_func hbl
  · exact blank_func hbl
  · exact blank_func hbl
  · cases h

theorem pvEq_ok {P : Program} {t : TypeId} {D d : TypeDesc} (hd : P.underlying t = some D) (hbl : blank D = d) {x y : Value} {b : Bool} (h : pvEq d x y = some b) (w : World) :
    (Op.equal t x y).run P w = .ok b w := by
  obtain rfl := pvEq_same hbl h
  have hu : (underlying t).run P w = .ok D w := run_underlying hd w
  show (Op.equalIn (9999 + 1) t x y).run P w = .ok b w
  generalize 9999 = n
  unfold pvEq at h
  unfold Op.equalIn
  simp only [Sem.run_bind, hu, Result.andThen_ok]
  split at h <;> first
    | (injection h with h; subst h; rfl)
    | (cases h; done)

def pvBin (d : TypeDesc) (op : BinOp) (x y : Value) : Option Value :=
  match x, y with
  | .int k a, .int k' b =>
    if k = k' then
      match op with
      | .add => some (.int k (k.wrap (a + b)))
      | .sub => some (.int k (k.wrap (a - b)))
      | .mul => some (.int k (k.wrap (a * b)))
      | .quo => if b = 0 then none else some (.int k (k.wrap (a.tdiv b)))
      | .rem => if b = 0 then none else some (.int k (a.tmod b))
      | .and => some (.int k (k.wrap ((BitVec.ofInt k.bits a &&& BitVec.ofInt k.bits b).toNat)))
      | .or => some (.int k (k.wrap ((BitVec.ofInt k.bits a ||| BitVec.ofInt k.bits b).toNat)))
      | .xor => some (.int k (k.wrap ((BitVec.ofInt k.bits a ^^^ BitVec.ofInt k.bits b).toNat)))
      | .andNot => some (.int k (k.wrap ((BitVec.ofInt k.bits a &&& ~~~(BitVec.ofInt k.bits b)).toNat)))
      | .shl | .shr => none
      | _ => pvCmp op a b
    else none
  | .string a, .string b =>
    match op with
    | .eql => some (.bool (a.toList == b.toList))
    | .neq => some (.bool (!(a.toList == b.toList)))
    | .lss => some (.bool (Op.bytesLess a.toList b.toList))
    | .leq => some (.bool (Op.bytesLess a.toList b.toList || a.toList == b.toList))
    | .gtr => some (.bool (!(Op.bytesLess a.toList b.toList || a.toList == b.toList)))
    | .geq => some (.bool (!(Op.bytesLess a.toList b.toList)))
    | _ => none
  | x, y =>
    match op with
    | .eql => match pvEq d x y with | some b => some (.bool b) | none => none
    | .neq => match pvEq d x y with | some b => some (.bool (!b)) | none => none
    | _ => none

theorem pvBin_ok {P : Program} {t : TypeId} {D d : TypeDesc} (hd : P.underlying t = some D) (hbl : blank D = d) {op : BinOp} {p q v : Value} (h : pvBin d op p q = some v) (w : World) (ox oy : Operand) :
    (do eqGuard op t ox oy p q; binOp op t p q : Sem Value).run P w = .ok v w := by
  unfold pvBin at h
  split at h
  · -- ints
    split at h
    · rename_i k a k' b hk
      subst hk
      have hg : eqGuard op t ox oy (.int k a) (.int k b) = pure () := by cases op <;> rfl
      rw [hg]
      cases op <;> simp only [Option.some.injEq, reduceCtorEq] at h <;> first
        | (subst h; simp [binOp, Op.intArith, Op.intBits]; done)
        | (split at h
           · cases h
           · rename_i hb
             injection h with h
             subst h
             simp [binOp, Op.intDiv, hb]; done)
        | (simp [binOp, pvCmp_ok h]; done)
    · cases h
  · -- strings
    rename_i a b
    have hg : eqGuard op t ox oy (.string a) (.string b) = pure () := by cases op <;> rfl
    rw [hg]
    split at h <;> first
      | (injection h with h; subst h; simp [binOp, Op.stringOp]; done)
      | (cases h; done)
  · rename_i hx hy
    clear hx hy
    split at h
    · split at h
      · rename_i b hb
        injection h with h; subst h
        have := pvEq_ok hd hbl hb w
        have hg : eqGuard .eql t ox oy p q = pure () := by
          unfold pvEq at hb
          split at hb <;> first | rfl | cases hb
        rw [hg]
        have hb2 : binOp .eql t p q = (do pure (.bool (← Op.equal t p q)) : Sem Value) := by
          unfold pvEq at hb
          split at hb <;> first | rfl | cases hb
        rw [hb2]
        simp [this]
      · cases h
    · split at h
      · rename_i b hb
        injection h with h; subst h
        have := pvEq_ok hd hbl hb w
        have hg : eqGuard .neq t ox oy p q = pure () := by
          unfold pvEq at hb
          split at hb <;> first | rfl | cases hb
        rw [hg]
        have hb2 : binOp .neq t p q = (do pure (.bool (!(← Op.equal t p q))) : Sem Value) := by
          unfold pvEq at hb
          split at hb <;> first | rfl | cases hb
        rw [hb2]
        simp [this]
      · cases h
    · cases h

end Go.Hw
/-
  Hw, part D: 'pv': what an operation computes from its operands alone.
-/
set_option linter.unusedVariables false
namespace Go.Hw
open Go

def evlL (l : Sl) : List Operand → Option (List Value)
  | [] => some []
  | x :: r => match evl l x, evlL l r with
    | some v, some vs => some (v :: vs)
    | _, _ => none
def evlP (l : Sl) : List (Nat × Operand) → Option (List (Nat × Value))
  | [] => some []
  | p :: r => match evl l p.2, evlP l r with
    | some v, some vs => some ((p.1, v) :: vs)
    | _, _ => none

theorem evlL_ok {l : Sl} {a : Act} (h : SlotsOk l a) : ∀ {xs : List Operand} {vs : List Value}, evlL l xs = some vs → xs.map a.eval = vs
  | [], vs, e => by simp only [evlL, Option.some.injEq] at e; subst e; rfl
  | x :: r, vs, e => by
    simp only [evlL] at e
    split at e
    · rename_i v us h1 h2
      injection e with e; subst e
      simp [h.eval h1, evlL_ok h h2]
    · cases e
theorem evlP_ok {l : Sl} {a : Act} (h : SlotsOk l a) : ∀ {xs : List (Nat × Operand)} {vs : List (Nat × Value)}, evlP l xs = some vs → xs.map (fun p => (p.1, a.eval p.2)) = vs
  | [], vs, e => by simp only [evlP, Option.some.injEq] at e; subst e; rfl
  | x :: r, vs, e => by
    simp only [evlP] at e
    split at e
    · rename_i v us h1 h2
      injection e with e; subst e
      simp [h.eval h1, evlP_ok h h2]
    · cases e

/-- A field of a struct type: its offset, its cells, whether it is an aggregate. -/
def fld (ts : List Ty) (t f : Nat) : Option (Nat × Nat × Bool) :=
  match tyOf t ts with
  | some { desc := .struct fs, .. } =>
    match fs.toList[f]? with
    | some fd => match tyOf fd.type ts with
      | some T => some (fd.offset, T.size, T.agg)
      | none => none
    | none => none
  | _ => none

def places (ts : List Ty) : List Field → Option (List (Nat × Nat))
  | [] => some []
  | f :: r => match tyOf f.type ts, places ts r with
    | some T, some ps => some ((f.offset, T.size) :: ps)
    | _, _ => none

/-- The parts of a literal laid over cells. -/
def partL : Value → List Value
  | .agg cs => cs.toList
  | v => [v]
theorem partL_ok (v : Value) : v.cells = (partL v).toArray := by cases v <;> rfl
def fillL (place : Nat → Option (Nat × Nat)) : List (Nat × Value) → List Value → Option (List Value)
  | [], cs => some cs
  | p :: r, cs => match place p.1 with
    | some (off, size) =>
      match partL p.2 with
      | [] => none
      | x :: xs => bif Nat.beq (x :: xs).length size then (match over off (x :: xs) cs with | some cs' => fillL place r cs' | none => none) else none
    | none => none

theorem foldl_set (off : Nat) : ∀ (vs : List Value) (k : Nat) (cs : Array Value), off + k + vs.length ≤ cs.size →
    ((vs.zipIdx k).foldl (fun (cs : Array Value) (p : Value × Nat) => cs.setIfInBounds (off + p.2) p.1) cs).size = cs.size ∧
    ∀ j, ((vs.zipIdx k).foldl (fun (cs : Array Value) (p : Value × Nat) => cs.setIfInBounds (off + p.2) p.1) cs)[j]? = if off + k ≤ j ∧ j < off + k + vs.length then vs[j - (off + k)]? else cs[j]?
  | [], k, cs, h => ⟨rfl, fun j => by rw [if_neg (by simp only [List.length_nil]; omega)]; rfl⟩
  | v :: vs, k, cs, h => by
    simp only [List.zipIdx_cons, List.foldl_cons]
    simp only [List.length_cons] at h
    obtain ⟨h1, h2⟩ := foldl_set off vs (k + 1) (cs.setIfInBounds (off + k) v) (by simp; omega)
    refine ⟨by rw [h1]; simp, fun j => ?_⟩
    rw [h2 j]
    by_cases c1 : j = off + k
    · subst c1
      rw [if_neg (by omega), if_pos ⟨Nat.le_refl _, by simp⟩, Nat.sub_self]
      simp [show off + k < cs.size by omega]
    · rw [Array.getElem?_setIfInBounds_ne (by omega)]
      by_cases c2 : off + (k + 1) ≤ j ∧ j < off + (k + 1) + vs.length
      · rw [if_pos c2, if_pos (by simp; omega), show j - (off + k) = (j - (off + (k + 1))) + 1 by omega, List.getElem?_cons_succ]
      · rw [if_neg c2, if_neg (by simp; omega)]

theorem over_get {o : Nat} {vs cs r : List Value} (h : over o vs cs = some r) (hv : vs ≠ []) (j : Nat) : r[j]? = if o ≤ j ∧ j < o + vs.length then vs[j - o]? else cs[j]? := by
  obtain ⟨h1, h2⟩ := over_eq h
  have h3 := h2 hv
  subst h1
  by_cases c1 : j < o
  · rw [if_neg (by omega), List.append_assoc, List.getElem?_append_left (by simp; omega), List.getElem?_take, if_pos c1]
  · by_cases c2 : j < o + vs.length
    · rw [if_pos (by omega), List.append_assoc, List.getElem?_append_right (by simp; omega), List.getElem?_append_left (by simp; omega)]
      congr 1
      simp; omega
    · rw [if_neg (by omega), List.getElem?_append_right (by simp; omega), List.getElem?_drop]
      congr 1
      simp; omega

theorem over_len {o : Nat} {vs cs r : List Value} (h : over o vs cs = some r) (hv : vs ≠ []) : r.length = cs.length := by
  obtain ⟨h1, h2⟩ := over_eq h
  have h3 := h2 hv
  subst h1; simp; omega

theorem fillL_ok {place : Nat → Option (Nat × Nat)} : ∀ {ps : List (Nat × Value)} {cs rs : List Value}, fillL place ps cs = some rs → Instr.fill place cs.toArray ps = some rs.toArray
  | [], cs, rs, h => by simp only [fillL, Option.some.injEq] at h; subst h; rfl
  | p :: r, cs, rs, h => by
    obtain ⟨i, v⟩ := p
    simp only [fillL] at h
    split at h
    · rename_i off size hp
      split at h
      · cases h
      · rename_i x xs hv
        cases hb : Nat.beq (x :: xs).length size with
        | false => rw [hb] at h; cases h
        | true =>
          rw [hb] at h
          simp only [cond_true] at h
          split at h
          · rename_i cs' ho
            have hl := Nat.eq_of_beq_eq_true hb
            have ih := fillL_ok h
            have h3 := (over_eq ho).2 (by simp)
            have hcells : v.cells = (x :: xs).toArray := by rw [partL_ok, hv]
            simp only [Instr.fill, hp, hcells]
            rw [if_neg (by simp at hl h3 ⊢; omega)]
            have hf := foldl_set off (x :: xs) 0 cs.toArray (by simpa using h3)
            have hzip : (x :: xs).toArray.zipIdx.foldl (fun (cs : Array Value) (y : Value × Nat) => match y with | (c, j) => cs.setIfInBounds (off + j) c) cs.toArray = ((x :: xs).zipIdx 0).foldl (fun (cs : Array Value) (p : Value × Nat) => cs.setIfInBounds (off + p.2) p.1) cs.toArray := by
              rw [_root_.Array.zipIdx_toArray, ← Array.foldl_toList]
            have he : ((x :: xs).toArray.zipIdx.foldl (fun (cs : Array Value) (y : Value × Nat) => match y with | (c, j) => cs.setIfInBounds (off + j) c) cs.toArray) = cs'.toArray := by
              rw [hzip]
              apply Array.ext_getElem?
              intro j
              rw [hf.2 j]
              simp only [List.getElem?_toArray]
              rw [over_get ho (by simp) j]
              simp
            rw [he]; exact ih
          · cases h
    · cases h

def pvLen (d : TypeDesc) (v : Value) : Option Value :=
  match d, v with
  | .slice _, .slice _ n _ => some (.int .i64 n)
  | .string, .string s => some (.int .i64 s.size)
  | .array n _, _ => some (.int .i64 n)
  | .map _ _, .map none => some (.int .i64 0)
  | _, _ => none

def pvMax : Value → List Value → Option Value
  | v, [] => some v
  | .int k x, .int _ y :: r => pvMax (.int k (max x y)) r
  | _, _ => none
def pvMin : Value → List Value → Option Value
  | v, [] => some v
  | .int k x, .int _ y :: r => pvMin (.int k (min x y)) r
  | _, _ => none

def pvBuiltin (ts : List Ty) (b : Builtin) (tys : List TypeId) (vs : List Value) : Option Value :=
  match b, tys, vs with
  | .len, t :: _, v :: _ => match tyOf t ts with | some T => pvLen T.desc v | none => none
  | .cap, t :: _, .slice _ _ c :: _ => match tyOf t ts with | some { desc := .slice _, .. } => some (.int .i64 c) | _ => none
  | .max, _, .int k x :: r => pvMax (.int k x) r
  | .min, _, .int k x :: r => pvMin (.int k x) r
  | _, _, _ => none

def pvUn (op : UnOp) (v : Value) : Option Value :=
  match op, v with
  | .not, .bool b => some (.bool (!b))
  | .neg, .int k n => some (.int k (k.wrap (0 - n)))
  | _, _ => none

def pvConv (d : TypeDesc) (v : Value) : Option Value :=
  match d, v with
  | .int k, .int _ n => some (.int k (k.wrap n))
  | .string, .string s => some (.string s)
  | _, _ => none

def pvPart (off size : Nat) (agg : Bool) (cs : List Value) : Option Value :=
  match agg with
  | true => match cut off size cs with | some vs => some (.agg vs.toArray) | none => none
  | false => nth off cs

/-- What an operation computes from its operands alone. -/
def pv (ts : List Ty) (l : Sl) (op : Op) : Option Value :=
  match op with
  | .move x => evl l x
  | .assign x => evl l x
  | .pick c a b => match evl l c with
    | some (.bool true) => evl l a
    | some (.bool false) => evl l b
    | _ => none
  | .nilCheck x => match evl l x with
    | some (.pointer (some a)) => some (.pointer (some a))
    | some (.func (.func f) p q) => some (.func (.func f) p q)
    | some (.func (.yield f) p q) => some (.func (.yield f) p q)
    | some (.map m) => some (.map m)
    | _ => none
  | .unOp op _ x => match evl l x with | some v => pvUn op v | none => none
  | .binOp op t x y _ => match tyOf t ts, evl l x, evl l y with
    | some T, some a, some b => pvBin T.desc op a b
    | _, _, _ => none
  | .convert s d x => match tyOf s ts, tyOf d ts, evl l x with
    | some _, some T, some v => pvConv T.desc v
    | _, _, _ => none
  | .extract x i => match evl l x with | some (.tuple vs) => nth i vs.toList | _ => none
  | .field t x f => match fld ts t f, evl l x with
    | some (off, size, agg), some (.agg cs) => pvPart off size agg cs.toList
    | _, _ => none
  | .fieldAddr t x f => match fld ts t f, evl l x with
    | some (off, size, _), some (.pointer (some a)) => bif Nat.beq size 0 then none else some (.pointer (some (a.add off)))
    | _, _ => none
  | .makeFunc fn first cap => match evlL l first.toList, evlL l cap.toList with
    | some fs, some cs => some (.func fn fs.toArray cs.toArray)
    | _, _ => none
  | .build t parts => match tyOf t ts, evlP l parts.toList with
    | some T, some ps => match T.desc with
      | .struct fs => match places ts fs.toList with
        | some pl => match fillL (fun i => pl[i]?) ps (partL T.zero) with
          | some cs => some (.agg cs.toArray)
          | none => none
        | none => none
      | .array _ e => match tyOf e ts with
        | some E => match fillL (fun i => some (i * E.size, E.size)) ps (partL T.zero) with
          | some cs => some (.agg cs.toArray)
          | none => none
        | none => none
      | _ => none
    | _, _ => none
  | .makeInterface t x => match tyOf t ts, evl l x with
    | some T, some v => match T.desc with | .interface _ => none | _ => some (.iface t v)
    | _, _ => none
  | .call { callee := .builtin b, args, argTypes } => match evlL l args.toList with
    | some vs => pvBuiltin ts b argTypes.toList vs
    | none => none
  | _ => none

theorem pvMax_ok (P : Program) (w : World) : ∀ {r : List Value} {k : IntKind} {x : Int} {v : Value}, pvMax (.int k x) r = some v →
    (r.foldlM Builtin.max2 (.int k x) : Sem Value).run P w = .ok v w
  | [], k, x, v, h => by simp only [pvMax, Option.some.injEq] at h; subst h; rfl
  | .int k' y :: r, k, x, v, h => by
    simp only [pvMax] at h
    have ih := pvMax_ok P w h
    have e : max x y = if y > x then y else x := by split <;> omega
    rw [e] at ih
    simpa [List.foldlM_cons, Builtin.max2] using ih
  | .bool _ :: r, k, x, v, h => by cases h
  | .float _ _ :: r, k, x, v, h => by cases h
  | .complex _ _ _ :: r, k, x, v, h => by cases h
  | .string _ :: r, k, x, v, h => by cases h
  | .pointer _ :: r, k, x, v, h => by cases h
  | .slice _ _ _ :: r, k, x, v, h => by cases h
  | .map _ :: r, k, x, v, h => by cases h
  | .chan _ :: r, k, x, v, h => by cases h
  | .func _ _ _ :: r, k, x, v, h => by cases h
  | .nilFunc :: r, k, x, v, h => by cases h
  | .iface _ _ :: r, k, x, v, h => by cases h
  | .nilIface :: r, k, x, v, h => by cases h
  | .agg _ :: r, k, x, v, h => by cases h
  | .tuple _ :: r, k, x, v, h => by cases h

theorem pvMin_ok (P : Program) (w : World) : ∀ {r : List Value} {k : IntKind} {x : Int} {v : Value}, pvMin (.int k x) r = some v →
    (r.foldlM Builtin.min2 (.int k x) : Sem Value).run P w = .ok v w
  | [], k, x, v, h => by simp only [pvMin, Option.some.injEq] at h; subst h; rfl
  | .int k' y :: r, k, x, v, h => by
    simp only [pvMin] at h
    have ih := pvMin_ok P w h
    have e : min x y = if y < x then y else x := by split <;> omega
    rw [e] at ih
    simpa [List.foldlM_cons, Builtin.min2] using ih
  | .bool _ :: r, k, x, v, h => by cases h
  | .float _ _ :: r, k, x, v, h => by cases h
  | .complex _ _ _ :: r, k, x, v, h => by cases h
  | .string _ :: r, k, x, v, h => by cases h
  | .pointer _ :: r, k, x, v, h => by cases h
  | .slice _ _ _ :: r, k, x, v, h => by cases h
  | .map _ :: r, k, x, v, h => by cases h
  | .chan _ :: r, k, x, v, h => by cases h
  | .func _ _ _ :: r, k, x, v, h => by cases h
  | .nilFunc :: r, k, x, v, h => by cases h
  | .iface _ _ :: r, k, x, v, h => by cases h
  | .nilIface :: r, k, x, v, h => by cases h
  | .agg _ :: r, k, x, v, h => by cases h
  | .tuple _ :: r, k, x, v, h => by cases h

theorem pvBuiltin_ok {P : Program} {ts : List Ty} (hT : TsOk P ts) {b : Builtin} {tys : List TypeId} {vs : List Value} {v : Value} (h : pvBuiltin ts b tys vs = some v) (ty : TypeId) (cs : Array Bool) (w : World) :
    (builtin b tys.toArray ty cs vs.toArray).run P w = .ok (.value v) w := by
  unfold pvBuiltin at h
  split at h
  · split at h
    · rename_i t r x r' T hT'
      obtain ⟨D, hu, hb⟩ := hT.run_und hT'
      have hu := hu w
      unfold pvLen at h
      split at h
      · rename_i hd; injection h with h; subst h; rw [hd] at hb; rw [blank_slice hb] at hu; simp [builtin, Builtin.len_, hu, goInt]
      · rename_i hd; injection h with h; subst h; rw [hd] at hb; rw [blank_string hb] at hu; simp [builtin, Builtin.len_, hu, goInt]
      · rename_i hd; injection h with h; subst h; rw [hd] at hb; rw [blank_array hb] at hu; simp [builtin, Builtin.len_, hu, goInt]
      · rename_i hd; injection h with h; subst h; rw [hd] at hb; rw [blank_map hb] at hu; simp [builtin, Builtin.len_, hu, goInt]
      · cases h
    · cases h
  · split at h
    · rename_i t r x n c r' T e sz by' z hT'
      obtain ⟨D, hu, hb⟩ := hT.run_und hT'
      have hu := hu w
      rw [blank_slice hb] at hu
      injection h with h; subst h
      simp [builtin, Builtin.cap_, hu, goInt]
    · cases h
  · have := pvMax_ok P w h
    simp [builtin, Builtin.max_]
    rw [this]; rfl
  · have := pvMin_ok P w h
    simp [builtin, Builtin.min_]
    rw [this]; rfl
  · cases h

theorem fld_ok {P : Program} {ts : List Ty} (hT : TsOk P ts) {t f off size : Nat} {agg : Bool} (h : fld ts t f = some (off, size, agg)) :
    ∃ fs fd, P.underlying t = some (.struct fs) ∧ fs[f]? = some fd ∧ fd.offset = off ∧ (∀ w, (sizeOf fd.type).run P w = .ok size w) ∧ (∀ w, (isAgg fd.type).run P w = .ok agg w) := by
  unfold fld at h
  split at h
  · rename_i fs sz by' z hT'
    obtain ⟨D, hD, hb⟩ := hT.und hT'
    obtain ⟨gs, rfl, hg⟩ := blank_struct hb
    split at h
    · rename_i fd hfd
      rw [← hg, List.getElem?_map] at hfd
      obtain ⟨gd, h1, h2⟩ := Option.map_eq_some_iff.1 hfd
      split at h
      · rename_i T hF
        injection h with h
        simp only [Prod.mk.injEq] at h
        obtain ⟨q1, q2, q3⟩ := h
        have e1 : fd.type = gd.type := by rw [← h2]; rfl
        have e2 : fd.offset = gd.offset := by rw [← h2]; rfl
        rw [e1] at hF
        exact ⟨gs, gd, hD, by simpa using h1, by rw [← e2]; exact q1, fun w => by rw [← q2]; exact hT.run_size hF w, fun w => by rw [← q3]; exact hT.run_agg hF w⟩
      · cases h
    · cases h
  · cases h

theorem pvPart_ok {P : Program} {ty off size : Nat} {agg : Bool} {cs : List Value} {v : Value} (h : pvPart off size agg cs = some v) (w : World) (hs : (sizeOf ty).run P w = .ok size w) (ha : (isAgg ty).run P w = .ok agg w) :
    (part ty cs.toArray off).run P w = .ok v w := by
  unfold pvPart at h
  cases agg with
  | true =>
    simp only at h
    split at h
    · rename_i vs hc
      injection h with h; subst h
      obtain ⟨h1, h2⟩ := cut_eq hc
      subst h1
      simp only [part, Sem.run_bind, ha, hs, Result.andThen_ok, if_true, Sem.run_pure]
      congr 2
      simp [List.extract_eq_take_drop]
    · cases h
  | false =>
    simp only at h
    have := nth_eq h
    simp [part, ha, this]

theorem places_ok {P : Program} {ts : List Ty} (hT : TsOk P ts) (w : World) : ∀ {gs : List Field} {pl : List (Nat × Nat)}, places ts (gs.map blankF) = some pl →
    (gs.mapM (fun f => do pure (f.offset, ← sizeOf f.type)) : Sem (List (Nat × Nat))).run P w = .ok pl w
  | [], pl, h => by simp only [List.map_nil, places, Option.some.injEq] at h; subst h; rfl
  | f :: r, pl, h => by
    simp only [List.map_cons, places] at h
    split at h
    · rename_i T ps hF hr
      injection h with h; subst h
      have ih := places_ok hT w hr
      have hF' : tyOf f.type ts = some T := hF
      simp only [List.mapM_cons, Sem.run_bind, hT.run_size hF' w, Result.andThen_ok, Sem.run_pure, ih]
      rfl
    · cases h

theorem run_convert_int {P : Program} {src d : TypeId} {k q : IntKind} {n : Int} {w : World} (hu : (underlying d).run P w = .ok (.int k) w) (hsrc : ∃ D, (underlying src).run P w = .ok D w) :
    (convert src d (.int q n)).run P w = .ok (.int k (k.wrap n)) w := by
  obtain ⟨D, hD⟩ := hsrc
  simp only [convert, Sem.run_bind, hu, hD, Result.andThen_ok]
  cases D <;> rfl
theorem run_convert_str {P : Program} {src d : TypeId} {s : ByteArray} {w : World} (hu : (underlying d).run P w = .ok .string w) (hsrc : ∃ D, (underlying src).run P w = .ok D w) :
    (convert src d (.string s)).run P w = .ok (.string s) w := by
  obtain ⟨D, hD⟩ := hsrc
  simp only [convert, Sem.run_bind, hu, hD, Result.andThen_ok]
  cases D <;> rfl

theorem pv_ok {P : Program} {ts : List Ty} (hT : TsOk P ts) {l : Sl} {a : Act} (hs : SlotsOk l a) {o : Oper} {v : Value} (h : pv ts l o.op = some v) (w : World) :
    (execOp a.eval o).run P w = .ok (.value v) w := by
  obtain ⟨dst, op, ty, pos, aft, gd⟩ := o
  simp only at h
  unfold pv at h
  split at h
  · simp [execOp, hs.eval h]
  · simp [execOp, hs.eval h]
  · split at h
    · rename_i hc; simp [execOp, hs.eval hc, hs.eval h, asBool]
    · rename_i hc; simp [execOp, hs.eval hc, hs.eval h, asBool]
    · cases h
  · split at h
    · rename_i hc; injection h with h; subst h; simp [execOp, hs.eval hc]
    · rename_i hc; injection h with h; subst h; simp [execOp, hs.eval hc]
    · rename_i hc; injection h with h; subst h; simp [execOp, hs.eval hc]
    · rename_i hc; injection h with h; subst h; simp [execOp, hs.eval hc]
    · cases h
  · split at h
    · rename_i hc
      unfold pvUn at h
      split at h
      · injection h with h; subst h; simp [execOp, hs.eval hc, Op.unary]
      · injection h with h; subst h; simp [execOp, hs.eval hc, Op.unary, Op.intArith]
      · cases h
    · cases h
  · split at h
    · rename_i T x y hTy hx hy
      obtain ⟨D, hD, hb⟩ := hT.und hTy
      have := pvBin_ok hD hb h w
      simp only [execOp, hs.eval hx, hs.eval hy]
      simp only [Sem.run_bind] at this ⊢
      rw [this]; rfl
    · cases h
  · split at h
    · rename_i src d x _ _ _ S T u hS hTy hx
      obtain ⟨D, hu, hb⟩ := hT.run_und hTy
      have hu := hu w
      obtain ⟨SD, hsu, _⟩ := hT.run_und hS
      unfold pvConv at h
      split at h
      · rename_i k q n hd; injection h with h; subst h
        rw [hd] at hb; rw [blank_int hb] at hu
        have := run_convert_int (P := P) (src := src) (d := d) (k := k) (q := q) (n := n) hu ⟨_, hsu w⟩
        simp only [execOp, hs.eval hx, Sem.run_bind, this, Result.andThen_ok, Sem.run_pure]
      · rename_i st hd; injection h with h; subst h
        rw [hd] at hb; rw [blank_string hb] at hu
        have := run_convert_str (P := P) (src := src) (d := d) (s := st) hu ⟨_, hsu w⟩
        simp only [execOp, hs.eval hx, Sem.run_bind, this, Result.andThen_ok, Sem.run_pure]
      · cases h
    · cases h
  · split at h
    · rename_i i _ vs hx
      have := nth_eq h
      have h2 : vs[i]? = some v := by simpa using this
      simp [execOp, hs.eval hx, Instr.extract, h2]
    · cases h
  · split at h
    · rename_i t x f off size agg cs hf hx
      obtain ⟨fs, fd, h1, h2, h3, h4, h5⟩ := fld_ok hT hf
      have hp := pvPart_ok (P := P) (ty := fd.type) h w (h4 w) (h5 w)
      simp only [execOp, hs.eval hx, Instr.field, Sem.run_bind, run_underlying h1, Result.andThen_ok, h2, asAgg, Sem.run_pure, h3]
      simp only [Array.toArray_toList] at hp
      rw [hp]; rfl
    · cases h
  · split at h
    · rename_i t x f off size agg ad hf hx
      obtain ⟨fs, fd, h1, h2, h3, h4, h5⟩ := fld_ok hT hf
      cases hz : Nat.beq size 0 with
      | true => rw [hz] at h; cases h
      | false =>
        rw [hz] at h
        simp only [cond_false, Option.some.injEq] at h
        subst h
        have hz' : size ≠ 0 := fun e => by subst e; cases hz
        simp only [execOp, hs.eval hx, Instr.fieldAt, Sem.run_bind, run_underlying h1, Result.andThen_ok, h2, Instr.sureAddr, Sem.run_pure, fieldPlace, h4, hz', if_false, h3]
    · cases h
  · split at h
    · rename_i fn first cap _ _ fs cs h1 h2
      injection h with h; subst h
      have e1 := evlL_ok hs h1
      have e2 := evlL_ok hs h2
      simp only [execOp, Instr.makeFunc, Sem.run_bind, Sem.run_pure, Result.andThen_ok]
      have q1 : first.map a.eval = fs.toArray := by rw [← e1]; apply Array.ext'; simp
      have q2 : cap.map a.eval = cs.toArray := by rw [← e2]; apply Array.ext'; simp
      rw [q1, q2]
    · cases h
  · split at h
    · rename_i t parts _ _ T ps hTy hp
      obtain ⟨D, hu, hb⟩ := hT.run_und hTy
      have hu := hu w
      have hz := hT.run_zero hTy w
      have e1 := evlP_ok hs hp
      have q1 : (parts.map fun x => match x with | (i, x) => (i, a.eval x)) = ps.toArray := by rw [← e1]; apply Array.ext'; simp
      split at h
      · rename_i fs hd
        rw [hd] at hb
        obtain ⟨gs, rfl, hgs⟩ := blank_struct hb
        split at h
        · rename_i pl hpl
          rw [← hgs] at hpl
          split at h
          · rename_i cs hf
            injection h with h; subst h
            have h3 := fillL_ok hf
            have h4 := places_ok hT w hpl
            have h5 : (gs.mapM fun f => do pure (f.offset, ← sizeOf f.type) : Sem (Array (Nat × Nat))).run P w = .ok pl.toArray w := by
              rw [Array.mapM_eq_mapM_toList]
              simp only [Sem.run_map, h4, Result.andThen_ok]
            simp only [execOp, Instr.build, Sem.run_bind, hz, hu, h5, Result.andThen_ok, q1, Sem.run_pure, partL_ok]
            rw [show (fun x => pl.toArray[x]?) = (fun i => pl[i]?) from by funext i; simp, h3]
            rfl
          · cases h
        · cases h
      · rename_i n e hd
        rw [hd] at hb; rw [blank_array hb] at hu
        split at h
        · rename_i E hE
          split at h
          · rename_i cs hf
            injection h with h; subst h
            have h3 := fillL_ok hf
            simp only [execOp, Instr.build, Sem.run_bind, hz, hu, hT.run_size hE w, Result.andThen_ok, q1, Sem.run_pure, partL_ok, h3]
          · cases h
        · cases h
      · cases h
    · cases h
  · split at h
    · rename_i t x T u hTy hx
      obtain ⟨D, hu, hb⟩ := hT.run_und hTy
      have hu := hu w
      split at h
      · cases h
      · rename_i hn
        injection h with h; subst h
        have hne : ∀ ms, D ≠ .interface ms := fun ms e => hn #[] (by rw [← hb, e]; rfl)
        simp only [execOp, hs.eval hx, Instr.makeInterface, Sem.run_bind, hu, Result.andThen_ok]
        cases D <;> first | rfl | exact absurd rfl (hne _)
    · cases h
  · split at h
    · rename_i b args argTypes _ vs hv
      have e1 := evlL_ok hs hv
      have q1 : args.map a.eval = vs.toArray := by rw [← e1]; apply Array.ext'; simp
      have := fun q => pvBuiltin_ok hT h ty q w
      simp only [execOp, resolve, invoke, Sem.run_bind, Sem.run_pure, Result.andThen_ok, q1]
      simp only [Array.toArray_toList] at this
      exact this _
    · cases h
  · cases h
end Go.Hw
/-
  Hw, part E: the judgement 'GO' and its rules.
-/
set_option linter.unusedVariables false
namespace Go.Hw
open Go

theorem i64_in (n : Int) (h : -9223372036854775808 ≤ n ∧ n ≤ 9223372036854775807) : IntKind.i64.wrap n = n := by rw [IntKind.wrap_i64]; omega

structure Ctx where
  P : Program
  ts : List Ty
  ok : TsOk P ts
  ro : Option Nat
  N : Nat
  w0 : World
  X0 : List Nat
  h0 : Ro
  Q : Exit → Act → World → Prop

structure St (C : Ctx) (ds : List Deferred) (l : Sl) (Es : List Asn) (h : Ro) (a : Act) (w : World) : Prop where
  size : a.tmps.size = C.N
  defers : a.defers = ds
  slots : SlotsOk l a
  hp : Hp C.w0 C.X0 C.h0 Es h w

/-- From every state that the lists tell, the stack K comes to an end that C.Q takes. -/
def GO (C : Ctx) (ds : List Deferred) (l : Sl) (Es : List Asn) (h : Ro) (K : List Item) : Prop := ∀ a w, St C ds l Es h a w → Todo C.P C.ro K C.Q a w

/-- The same, within a region whose operations 'os' are still to be done, in the order of the text. -/
def GOl (C : Ctx) (ds : List Deferred) (l : Sl) (Es : List Asn) (h : Ro) (ops : Array Oper) (os : List Oper) (K : List Item) : Prop :=
  ∀ k, (∀ j, os[j]? = ops[k + j]?) → GO C ds l Es h (.inRegion ops (List.range' k os.length) :: K)

section control
variable {C : Ctx} {ds : List Deferred} {l : Sl} {Es : List Asn} {h : Ro} {K : List Item}

theorem GO_skip (g : GO C ds l Es h K) : GO C ds l Es h (.code .skip :: K) := fun a w s => todo_skip (g a w s)
theorem GO_label {n : Nat} (g : GO C ds l Es h K) : GO C ds l Es h (.code (.label n) :: K) := fun a w s => todo_label (g a w s)
theorem GO_inBlock {n : Nat} (g : GO C ds l Es h K) : GO C ds l Es h (.inBlock n :: K) := fun a w s => todo_inBlock (g a w s)
theorem GO_seq {x y : Code} (g : GO C ds l Es h (.code x :: .code y :: K)) : GO C ds l Es h (.code (.seq x y) :: K) := fun a w s => todo_seq (g a w s)
theorem GO_block {n : Nat} {c : Code} (g : GO C ds l Es h (.code c :: .inBlock n :: K)) : GO C ds l Es h (.code (.block n c) :: K) := fun a w s => todo_block (g a w s)
theorem GO_loop {c : Code} (g : GO C ds l Es h (.code c :: .inLoop c :: K)) : GO C ds l Es h (.code (.loop c) :: K) := fun a w s => todo_loop (g a w s)
theorem GO_inLoop {c : Code} (g : GO C ds l Es h (.code c :: .inLoop c :: K)) : GO C ds l Es h (.inLoop c :: K) := fun a w s => todo_inLoop (g a w s)
theorem GO_exit {n : Nat} {K' : List Item} (hx : exitTo n K = some K') (g : GO C ds l Es h K') : GO C ds l Es h (.code (.exit n) :: K) := fun a w s => todo_exit hx (g a w s)
theorem GO_cond {c : Operand} {x y : Code} {t : Bool} (hc : evl l c = some (.bool t)) (ht : t = true → GO C ds l Es h (.code x :: K)) (hf : t = false → GO C ds l Es h (.code y :: K)) :
    GO C ds l Es h (.code (.cond c x y) :: K) := fun a w s => by
  refine todo_cond (s.slots.eval hc) ?_
  cases t with
  | true => exact ht rfl a w s
  | false => exact hf rfl a w s
theorem GO_condT {c : Operand} {x y : Code} (hc : evl l c = some (.bool true)) (g : GO C ds l Es h (.code x :: K)) : GO C ds l Es h (.code (.cond c x y) :: K) :=
  GO_cond hc (fun _ => g) (fun e => by cases e)
theorem GO_condF {c : Operand} {x y : Code} (hc : evl l c = some (.bool false)) (g : GO C ds l Es h (.code y :: K)) : GO C ds l Es h (.code (.cond c x y) :: K) :=
  GO_cond hc (fun e => by cases e) (fun _ => g)
theorem GO_region {n : Nat} {os : List Oper} (g : GOl C ds l Es h os.toArray os K) : GO C ds l Es h (.code (.region n os.toArray false) :: K) := fun a w s => by
  refine todo_region ?_
  have := g 0 (fun j => by simp) a w s
  rw [List.range_eq_range']
  simpa using this
theorem GOl_nil {ops : Array Oper} (g : GO C ds l Es h K) : GOl C ds l Es h ops [] K := fun k _ a w s => todo_region_end (g a w s)

/-- What is not needed any more is forgotten. -/
theorem GO.sub {l' : Sl} (g : GO C ds l' Es h K) (hs : ∀ i v, look i l' = some v → look i l = some v) : GO C ds l Es h K := fun a w s => g a w ⟨s.size, s.defers, s.slots.sub hs, s.hp⟩

/-- The slots that a list names, checked one by one. -/
def Slots : Sl → Sl → Prop
  | [], _ => True
  | (j, v) :: r, l => look j l = some v ∧ Slots r l
theorem Slots.ok : ∀ {l' l : Sl}, Slots l' l → ∀ i v, look i l' = some v → look i l = some v
  | [], _, _, i, v, e => by cases e
  | (j, u) :: r, l, ⟨h1, h2⟩, i, v, e => by
    simp only [look] at e
    cases hb : Nat.beq i j with
    | true =>
      rw [hb] at e
      simp only [cond_true, Option.some.injEq] at e
      rw [Nat.eq_of_beq_eq_true hb, ← e]; exact h1
    | false => rw [hb] at e; exact h2.ok i v e
theorem GO_keep {l' : Sl} (hs : Slots l' l) (g : GO C ds l' Es h K) : GO C ds l Es h K := g.sub hs.ok

theorem GO_asn {Es' : List Asn} {A A' : Asn} (hR : Repl Es A A' Es') (hi : ∀ D m, A.holds D m → A'.holds D m) (g : GO C ds l Es' h K) : GO C ds l Es h K :=
  fun a w s => g a w ⟨s.size, s.defers, s.slots, s.hp.asn hR hi⟩
theorem GO_drop {Es' : List Asn} {A : Asn} (hT : Take Es A Es') (g : GO C ds l Es' h K) : GO C ds l Es h K :=
  fun a w s => g a w ⟨s.size, s.defers, s.slots, s.hp.drop hT⟩
theorem GO_release {Es' : List Asn} {A : Asn} (hT : Take Es A Es') (g : ∀ D h', Le h h' → A.holds D h' → GO C ds l Es' h' K) : GO C ds l Es h K := fun a w s => by
  obtain ⟨D, h', h1, h2, h3⟩ := s.hp.release hT
  exact g D h' h1 h2 a w ⟨s.size, s.defers, s.slots, h3⟩
end control

/-! ### One operation -/
def guardSlot (ops : Array Oper) : Option (Nat × Bool) → Option (Nat × Bool)
  | none => none
  | some (j, b) => match (ops[j]?).bind (·.dst) with
    | some d => some (d, b)
    | none => none

/-- Does the operation run? -/
def wantedB (ops : Array Oper) (l : Sl) (g : Option (Nat × Bool)) : Option Bool :=
  match g with
  | none => some true
  | some p => match guardSlot ops (some p) with
    | some (d, b) => match look d l with
      | some (.bool c) => some (c == b)
      | some _ => some false
      | none => none
    | none => none

theorem wantedB_ok {ops : Array Oper} {l : Sl} {a : Act} (hs : SlotsOk l a) {o : Oper} {b : Bool} (h : wantedB ops l o.guard = some b) : Region.wanted o (yielded ops a.tmps) = b := by
  unfold wantedB at h
  unfold Region.wanted
  split at h
  · rename_i hg; rw [hg]; injection h
  · rename_i p hg
    rw [hg]
    obtain ⟨j, want⟩ := p
    simp only [guardSlot] at h
    cases hd : (ops[j]?).bind (·.dst) with
    | none => rw [hd] at h; cases h
    | some d =>
      rw [hd] at h
      simp only at h
      cases hc : look d l with
      | none => rw [hc] at h; cases h
      | some v =>
        rw [hc] at h
        cases v with
        | bool c =>
          simp only [Option.some.injEq] at h
          simp only [yielded, hd, Option.bind_some, hs d _ hc]
          rw [← h]; cases c <;> cases want <;> rfl
        | _ =>
          simp only [Option.some.injEq] at h
          simp only [yielded, hd, Option.bind_some, hs d _ hc]
          rw [← h]; rfl

def putS (d : Option Tmp) (v : Value) (l : Sl) : Sl := match d with | some d => (d, v) :: l | none => l
def dstOk (N : Nat) (d : Option Tmp) : Bool := match d with | some d => Nat.blt d N | none => true

/-- What one operation comes to: a value, nothing, or a call that comes back. -/
def OpTo (C : Ctx) (l : Sl) (Es : List Asn) (h : Ro) (o : Oper) (G : Value → List Asn → Ro → Prop) : Prop :=
  ∀ a w, SlotsOk l a → Hp C.w0 C.X0 C.h0 Es h w →
    (∃ v w' Es' h', (execOp a.eval o).run C.P w = .ok (.value v) w' ∧ Hp C.w0 C.X0 C.h0 Es' h' w' ∧ G v Es' h') ∨
    (∃ w' Es' h', (execOp a.eval o).run C.P w = .ok .skip w' ∧ Hp C.w0 C.X0 C.h0 Es' h' w' ∧ G undef Es' h') ∨
    (∃ f args w1, (execOp a.eval o).run C.P w = .ok (.enter f args) w1 ∧ Calls C.P f args w1 fun e w2 => ∃ v, e = .returned v ∧ ∃ Es' h', Hp C.w0 C.X0 C.h0 Es' h' w2 ∧ G v Es' h') ∨
    (∃ r f tmps assign body w1 n, (execOp a.eval o).run C.P w = .ok (.round r f tmps assign body) w1 ∧ RoundIn Fence.wide n C.P r f tmps assign body w1 fun e w2 => ∃ v, e = .returned v ∧ ∃ Es' h', Hp C.w0 C.X0 C.h0 Es' h' w2 ∧ G v Es' h')

def isDefer : Op → Bool | .defer _ => true | _ => false

section ops
variable {C : Ctx} {ds : List Deferred} {l : Sl} {Es : List Asn} {h : Ro} {K : List Item} {ops : Array Oper} {os : List Oper}

theorem St.put {a : Act} {w w' : World} {Es' : List Asn} {h' : Ro} (s : St C ds l Es h a w) {d : Option Tmp} (hd : dstOk C.N d = true) (v : Value) (hp : Hp C.w0 C.X0 C.h0 Es' h' w') : St C ds (putS d v l) Es' h' (a.put d v) w' := by
  cases d with
  | none => exact ⟨s.size, s.defers, s.slots, hp⟩
  | some d =>
    have hlt : d < a.tmps.size := by rw [s.size]; exact of_decide_eq_true (by simpa [dstOk, Nat.blt_eq] using hd)
    exact ⟨by simp [Act.put, s.size], s.defers, s.slots.put hlt v, hp⟩

/-- One operation at the machine. -/
theorem op_todo {o : Oper} {k : Nat} {rest : List Nat} (ho : ops[k]? = some o) (hg : wantedB ops l o.guard = some true) (hd : dstOk C.N o.dst = true) (hx : isDefer o.op = false)
    (g : OpTo C l Es h o fun v Es' h' => GO C ds (putS o.dst v l) Es' h' (.inRegion ops rest :: K)) : GO C ds l Es h (.inRegion ops (k :: rest) :: K) := by
  intro a w s
  have hw := wantedB_ok s.slots hg
  have hnd : ∀ c, o.op ≠ .defer c := fun c e => by rw [e] at hx; cases hx
  rcases g a w s.slots s.hp with ⟨v, w', Es', h', hr, hp, hG⟩ | ⟨w', Es', h', hr, hp, hG⟩ | ⟨f, args, w1, hr, hc⟩ | ⟨r, f, tmps, assign, body, w1, n, hr, hc⟩
  · exact todo_value ho hw hnd hr (hG _ _ (s.put hd v hp))
  · exact todo_unit ho hw hnd hr (hG _ _ (s.put hd undef hp))
  · exact todo_enter ho hw hnd hr hc fun v w2 ⟨Es', h', hp, hG⟩ => hG _ _ (s.put hd v hp)
  · exact todo_round ho hw hnd hr hc fun v w2 ⟨Es', h', hp, hG⟩ => hG _ _ (s.put hd v hp)

theorem GOl_op {o : Oper} (hg : wantedB ops l o.guard = some true) (hd : dstOk C.N o.dst = true) (hx : isDefer o.op = false)
    (g : OpTo C l Es h o fun v Es' h' => GOl C ds (putS o.dst v l) Es' h' ops os K) : GOl C ds l Es h ops (o :: os) K := by
  intro k hk
  have h0 : ops[k]? = some o := by simpa using (hk 0).symm
  have hrest : ∀ j, os[j]? = ops[k + 1 + j]? := fun j => by have := hk (j + 1); simpa [Nat.add_assoc, Nat.add_comm 1 j] using this
  rw [List.length_cons, List.range'_succ]
  refine op_todo h0 hg hd hx fun a w hs hp => ?_
  rcases g a w hs hp with ⟨v, w', Es', h', hr, hp', hG⟩ | ⟨w', Es', h', hr, hp', hG⟩ | ⟨f, args, w1, hr, hc⟩ | ⟨r, f, tmps, assign, body, w1, n, hr, hc⟩
  · exact .inl ⟨v, w', Es', h', hr, hp', hG _ hrest⟩
  · exact .inr (.inl ⟨w', Es', h', hr, hp', hG _ hrest⟩)
  · exact .inr (.inr (.inl ⟨f, args, w1, hr, hc.mono fun _ _ ⟨v, he, Es', h', hp', hG⟩ => ⟨v, he, Es', h', hp', hG _ hrest⟩⟩))
  · exact .inr (.inr (.inr ⟨r, f, tmps, assign, body, w1, n, hr, hc.mono fun _ _ ⟨v, he, Es', h', hp', hG⟩ => ⟨v, he, Es', h', hp', hG _ hrest⟩⟩))

/-- An operation whose guard says no. -/
theorem GOl_unwanted {d : Tmp} {op : Op} {ty : TypeId} {pos : String} {aft : Array Edge} {gd : Option (Nat × Bool)} (hg : wantedB ops l gd = some false) (hd : dstOk C.N (some d) = true) (g : GOl C ds ((d, undef) :: l) Es h ops os K) : GOl C ds l Es h ops (⟨some d, op, ty, pos, aft, gd⟩ :: os) K := by
  intro k hk
  have h0 : ops[k]? = some ⟨some d, op, ty, pos, aft, gd⟩ := by simpa using (hk 0).symm
  have hrest : ∀ j, os[j]? = ops[k + 1 + j]? := fun j => by have := hk (j + 1); simpa [Nat.add_assoc, Nat.add_comm 1 j] using this
  rw [List.length_cons, List.range'_succ]
  exact fun a w s => todo_unwanted h0 (wantedB_ok (o := ⟨some d, op, ty, pos, aft, gd⟩) s.slots hg) (g _ hrest _ _ (s.put hd undef s.hp))

/-- A guard that is not decided: both ways. -/
theorem GOl_split {o : Oper} {d : Nat} {b c : Bool} (hg : guardSlot ops o.guard = some (d, b)) (hc : look d l = some (.bool c)) (ht : c = true → GOl C ds ((d, .bool true) :: l) Es h ops (o :: os) K)
    (hf : c = false → GOl C ds ((d, .bool false) :: l) Es h ops (o :: os) K) : GOl C ds l Es h ops (o :: os) K := by
  have key : ∀ q : Bool, c = q → ∀ i v, look i ((d, .bool q) :: l) = some v → look i l = some v := by
    rintro q rfl i v e
    by_cases hi : i = d
    · subst hi; rw [look_cons_same] at e; rw [hc]; exact e
    · rwa [look_cons_ne hi] at e
  intro k hk
  cases hq : c with
  | true => exact (ht hq k hk).sub (key true hq)
  | false => exact (hf hq k hk).sub (key false hq)

/-- An operation that computes from its operands alone. -/
theorem OpTo_pv {o : Oper} {v : Value} {G : Value → List Asn → Ro → Prop} (hv : pv C.ts l o.op = some v) (g : G v Es h) : OpTo C l Es h o G :=
  fun a w hs hp => .inl ⟨v, w, Es, h, pv_ok C.ok hs hv w, hp, g⟩

theorem pv_defer {ts : List Ty} {op : Op} {v : Value} (h : pv ts l op = some v) : isDefer op = false := by
  cases op <;> first | rfl | cases h

theorem GOl_pv {d : Tmp} {op : Op} {ty : TypeId} {pos : String} {aft : Array Edge} {gd : Option (Nat × Bool)} {v : Value} (hv : pv C.ts l op = some v) (hg : wantedB ops l gd = some true) (hd : dstOk C.N (some d) = true) (g : GOl C ds ((d, v) :: l) Es h ops os K) :
    GOl C ds l Es h ops (⟨some d, op, ty, pos, aft, gd⟩ :: os) K := GOl_op (o := ⟨some d, op, ty, pos, aft, gd⟩) hg hd (pv_defer hv) (OpTo_pv (o := ⟨some d, op, ty, pos, aft, gd⟩) hv g)

/-! #### Sums within bounds -/
theorem GOl_bin {C : Ctx} {op : BinOp} {t ty' : TypeId} {x y : Operand} {k : IntKind} {p q : Int} {v : Value} {d : Tmp} {ty : TypeId} {pos : String} {aft : Array Edge} {gd : Option (Nat × Bool)} {T : Ty}
    (hT : tyOf t C.ts = some T) (hx : evl l x = some (.int k p)) (hy : evl l y = some (.int k q)) (hv : pvBin T.desc op (.int k p) (.int k q) = some v)
    (hg : wantedB ops l gd = some true) (hd : dstOk C.N (some d) = true) (g : GOl C ds ((d, v) :: l) Es h ops os K) : GOl C ds l Es h ops (⟨some d, .binOp op t x y ty', ty, pos, aft, gd⟩ :: os) K :=
  GOl_pv (by simp only [pv, hT, hx, hy]; exact hv) hg hd g

theorem GOl_add {C : Ctx} {t ty' : TypeId} {x y : Operand} {p q : Int} {d : Tmp} {ty : TypeId} {pos : String} {aft : Array Edge} {gd : Option (Nat × Bool)} {T : Ty}
    (hT : tyOf t C.ts = some T) (hx : evl l x = some (.int .i64 p)) (hy : evl l y = some (.int .i64 q)) (hb : -9223372036854775808 ≤ p + q ∧ p + q ≤ 9223372036854775807)
    (hg : wantedB ops l gd = some true) (hd : dstOk C.N (some d) = true) (g : GOl C ds ((d, (.int .i64 (p + q))) :: l) Es h ops os K) : GOl C ds l Es h ops (⟨some d, .binOp .add t x y ty', ty, pos, aft, gd⟩ :: os) K :=
  GOl_bin hT hx hy (by simp [pvBin, i64_in _ hb]) hg hd g
theorem GOl_sub {C : Ctx} {t ty' : TypeId} {x y : Operand} {p q : Int} {d : Tmp} {ty : TypeId} {pos : String} {aft : Array Edge} {gd : Option (Nat × Bool)} {T : Ty}
    (hT : tyOf t C.ts = some T) (hx : evl l x = some (.int .i64 p)) (hy : evl l y = some (.int .i64 q)) (hb : -9223372036854775808 ≤ p - q ∧ p - q ≤ 9223372036854775807)
    (hg : wantedB ops l gd = some true) (hd : dstOk C.N (some d) = true) (g : GOl C ds ((d, (.int .i64 (p - q))) :: l) Es h ops os K) : GOl C ds l Es h ops (⟨some d, .binOp .sub t x y ty', ty, pos, aft, gd⟩ :: os) K :=
  GOl_bin hT hx hy (by simp [pvBin, i64_in _ hb]) hg hd g
theorem GOl_mul {C : Ctx} {t ty' : TypeId} {x y : Operand} {p q : Int} {d : Tmp} {ty : TypeId} {pos : String} {aft : Array Edge} {gd : Option (Nat × Bool)} {T : Ty}
    (hT : tyOf t C.ts = some T) (hx : evl l x = some (.int .i64 p)) (hy : evl l y = some (.int .i64 q)) (hb : -9223372036854775808 ≤ p * q ∧ p * q ≤ 9223372036854775807)
    (hg : wantedB ops l gd = some true) (hd : dstOk C.N (some d) = true) (g : GOl C ds ((d, (.int .i64 (p * q))) :: l) Es h ops os K) : GOl C ds l Es h ops (⟨some d, .binOp .mul t x y ty', ty, pos, aft, gd⟩ :: os) K :=
  GOl_bin hT hx hy (by simp [pvBin, i64_in _ hb]) hg hd g
theorem GOl_quo {C : Ctx} {t ty' : TypeId} {x y : Operand} {p q : Int} {d : Tmp} {ty : TypeId} {pos : String} {aft : Array Edge} {gd : Option (Nat × Bool)} {T : Ty}
    (hT : tyOf t C.ts = some T) (hx : evl l x = some (.int .i64 p)) (hy : evl l y = some (.int .i64 q)) (hb : 0 ≤ p ∧ p ≤ 9223372036854775807 ∧ 1 ≤ q)
    (hg : wantedB ops l gd = some true) (hd : dstOk C.N (some d) = true) (g : GOl C ds ((d, (.int .i64 (p / q))) :: l) Es h ops os K) : GOl C ds l Es h ops (⟨some d, .binOp .quo t x y ty', ty, pos, aft, gd⟩ :: os) K :=
  GOl_bin hT hx hy (by
    obtain ⟨h1, h2, h3⟩ := hb
    have e : p.tdiv q = p / q := Int.tdiv_eq_ediv_of_nonneg h1
    have b0 : 0 ≤ p / q := Int.ediv_nonneg h1 (by omega)
    have b1 : p / q ≤ p := Int.ediv_le_self _ h1
    simp only [pvBin, if_true]
    rw [if_neg (by omega), e, i64_in _ (by omega)]) hg hd g
theorem GOl_rem {C : Ctx} {t ty' : TypeId} {x y : Operand} {p q : Int} {d : Tmp} {ty : TypeId} {pos : String} {aft : Array Edge} {gd : Option (Nat × Bool)} {T : Ty}
    (hT : tyOf t C.ts = some T) (hx : evl l x = some (.int .i64 p)) (hy : evl l y = some (.int .i64 q)) (hb : 0 ≤ p ∧ 1 ≤ q)
    (hg : wantedB ops l gd = some true) (hd : dstOk C.N (some d) = true) (g : GOl C ds ((d, (.int .i64 (p % q))) :: l) Es h ops os K) : GOl C ds l Es h ops (⟨some d, .binOp .rem t x y ty', ty, pos, aft, gd⟩ :: os) K :=
  GOl_bin hT hx hy (by
    obtain ⟨h1, h3⟩ := hb
    simp only [pvBin, if_true]
    rw [if_neg (by omega), Int.tmod_eq_emod_of_nonneg h1]) hg hd g
theorem GOl_conv {C : Ctx} {s t : TypeId} {x : Operand} {k : IntKind} {p : Int} {d : Tmp} {ty : TypeId} {pos : String} {aft : Array Edge} {gd : Option (Nat × Bool)} {S : Ty} {sz by' : Nat} {z : Value}
    (hS : tyOf s C.ts = some S) (hT : tyOf t C.ts = some ⟨t, .int .i64, sz, by', z⟩) (hx : evl l x = some (.int k p)) (hb : -9223372036854775808 ≤ p ∧ p ≤ 9223372036854775807)
    (hg : wantedB ops l gd = some true) (hd : dstOk C.N (some d) = true) (g : GOl C ds ((d, (.int .i64 p)) :: l) Es h ops os K) : GOl C ds l Es h ops (⟨some d, .convert s t x, ty, pos, aft, gd⟩ :: os) K :=
  GOl_pv (by simp [pv, hS, hT, hx, pvConv, i64_in _ hb]) hg hd g

/-! #### Memory that is read -/
def cellR (h : Ro) (a : Addr) : Option Value :=
  match h a.block with
  | some (.cells c _ _) => if a.spot.isSome then none else c[a.off]?
  | _ => none
theorem cell?_mem (w : World) (a : Addr) : w.cell? a = cellR (mem w) a := rfl
theorem cellR_le {h h' : Ro} (hl : Le h h') {a : Addr} {v : Value} (e : cellR h a = some v) : cellR h' a = some v := by
  unfold cellR at e ⊢
  cases hb : h a.block with
  | none => rw [hb] at e; cases e
  | some o => rw [hb] at e; rw [hl _ _ hb]; exact e

/-- From address ad on lie the cells vs. -/
def CellsAt (h : Ro) (ad : Addr) (vs : List Value) : Prop := ∀ j v, vs[j]? = some v → cellR h (ad.add j) = some v
theorem CellsAt.le {h h' : Ro} (hl : Le h h') {ad : Addr} {vs : List Value} (c : CellsAt h ad vs) : CellsAt h' ad vs := fun j v e => cellR_le hl (c j v e)

/-- A variable of type T at an address holds v. -/
def Ld (C : Ctx) (Es : List Asn) (h : Ro) (T : TypeId) (ad : Addr) (v : Value) : Prop := ∀ w, Hp C.w0 C.X0 C.h0 Es h w → (loadVar T ad).run C.P w = .ok v w

theorem Ld_cells {C : Ctx} {T : TypeId} {t : Ty} {ad : Addr} {vs : List Value} {v : Value} (hT : tyOf T C.ts = some t) (hv : pvPart 0 t.size t.agg vs = some v)
    (hc : ∀ w, Hp C.w0 C.X0 C.h0 Es h w → ∀ j u, vs[j]? = some u → w.cell? (ad.add j) = some u) : Ld C Es h T ad v := by
  intro w hp
  have hcw := hc w hp
  simp only [loadVar, Sem.run_bind, C.ok.run_agg hT, Result.andThen_ok, Sem.run_ite]
  unfold pvPart at hv
  cases ha : t.agg with
  | true =>
    rw [ha] at hv
    simp only at hv
    split at hv
    · rename_i us hcut
      injection hv with hv; subst hv
      obtain ⟨h1, h2⟩ := cut_eq hcut
      simp only [List.drop_zero] at h1
      have hl : us.length = t.size := by rw [h1]; simp; omega
      have := run_loadCells_list (P := C.P) w ad us (fun j u hj => hcw j u (by rw [h1] at hj; rw [List.getElem?_take] at hj; split at hj; exact hj; cases hj))
      simp only [if_true, Sem.run_bind, C.ok.run_size hT, Result.andThen_ok]
      rw [← hl, this]; rfl
    · cases hv
  | false =>
    rw [ha] at hv
    simp only at hv
    have h1 := hcw 0 v (nth_eq hv)
    have e : ad.add 0 = ad := by simp [Addr.add]
    rw [e] at h1
    simp [h1]

theorem add_off (b off j : Nat) : (⟨b, off, none⟩ : Addr).add j = ⟨b, off + j, none⟩ := by unfold Addr.add; split <;> simp_all

theorem cut_shift {off n : Nat} {cs vs : List Value} (hc : cut off n cs = some vs) : cut 0 n (cs.drop off) = some vs := by
  induction off generalizing cs with
  | zero => simpa using hc
  | succ o ih =>
    cases cs with
    | nil => cases hc
    | cons x r => simpa using ih (by simpa [cut] using hc)
theorem nth_shift {off : Nat} {cs : List Value} {v : Value} (hc : nth off cs = some v) : nth 0 (cs.drop off) = some v := by
  induction off generalizing cs with
  | zero => simpa using hc
  | succ o ih =>
    cases cs with
    | nil => cases hc
    | cons x r => simpa using ih (by simpa [nth] using hc)
theorem pvPart_shift {off n : Nat} {agg : Bool} {cs : List Value} {v : Value} (hv : pvPart off n agg cs = some v) : pvPart 0 n agg (cs.drop off) = some v := by
  unfold pvPart at hv ⊢
  cases agg with
  | true =>
    simp only at hv ⊢
    split at hv
    · rename_i vs hc; rw [cut_shift hc]; exact hv
    · cases hv
  | false => exact nth_shift hv

theorem Ld_blk {C : Ctx} {T e : TypeId} {t : Ty} {b off : Nat} {cs : List Value} {v : Value} (hT : tyOf T C.ts = some t) (hm : Blk b e cs ∈ Es) (hv : pvPart off t.size t.agg cs = some v) : Ld C Es h T ⟨b, off, none⟩ v :=
  Ld_cells hT (pvPart_shift hv) fun w hp j u hj => by
    have hb := hp.blk hm
    rw [add_off]
    simp only [World.cell?, hb]
    rw [List.getElem?_drop] at hj
    simpa using hj

theorem Ld_ro {C : Ctx} {T : TypeId} {t : Ty} {ad : Addr} {vs : List Value} {v : Value} (hT : tyOf T C.ts = some t) (hc : CellsAt h ad vs) (hv : pvPart 0 t.size t.agg vs = some v) : Ld C Es h T ad v :=
  Ld_cells hT hv fun w hp j u hj => by rw [cell?_mem]; exact cellR_le hp.ro (hc j u hj)

theorem GOl_load {C : Ctx} {t : TypeId} {x : Operand} {ad : Addr} {v : Value} {d : Tmp} {ty : TypeId} {pos : String} {aft : Array Edge} {gd : Option (Nat × Bool)}
    (hx : evl l x = some (.pointer (some ad))) (hv : Ld C Es h t ad v)
    (hg : wantedB ops l gd = some true) (hd : dstOk C.N (some d) = true) (g : GOl C ds ((d, v) :: l) Es h ops os K) : GOl C ds l Es h ops (⟨some d, .load t x, ty, pos, aft, gd⟩ :: os) K :=
  GOl_op (o := ⟨some d, .load t x, ty, pos, aft, gd⟩) hg hd rfl fun a w hs hp => .inl ⟨v, w, Es, h, by simp only [execOp, hs.eval hx, Instr.loadAt, Instr.sureAddr, Sem.run_bind, Sem.run_pure, Result.andThen_ok, hv w hp], hp, g⟩

/-! #### Memory that is written -/
def allOne : List Value → Bool
  | [] => true
  | v :: r => bif v.oneCell' then allOne r else false
theorem allOne_ok : ∀ {vs : List Value}, allOne vs = true → ∀ v ∈ vs, v.oneCell' = true
  | [], _, _, hm => by cases hm
  | v :: r, h, u, hm => by
    simp only [allOne] at h
    cases hv : v.oneCell' with
    | false => rw [hv] at h; cases h
    | true =>
      rw [hv] at h
      rcases List.mem_cons.1 hm with rfl | hm
      · exact hv
      · exact allOne_ok h u hm

theorem GOl_store {C : Ctx} {t e : TypeId} {x y : Operand} {b off : Nat} {v : Value} {cs cs' : List Value} {Es' : List Asn} {T : Ty} {ty : TypeId} {pos : String} {aft : Array Edge} {gd : Option (Nat × Bool)}
    (hT : tyOf t C.ts = some T) (hx : evl l x = some (.pointer (some ⟨b, off, none⟩))) (hy : evl l y = some v) (hR : Repl Es (Blk b e cs) (Blk b e cs') Es') (ho : over off (partL v) cs = some cs')
    (hl : Nat.beq (partL v).length T.size = true) (h1 : allOne (partL v) = true)
    (hg : wantedB ops l gd = some true) (g : GOl C ds l Es' h ops os K) : GOl C ds l Es h ops (⟨none, .store t x y, ty, pos, aft, gd⟩ :: os) K := by
  refine GOl_op (o := ⟨none, .store t x y, ty, pos, aft, gd⟩) hg rfl rfl fun a w hs hp => ?_
  have hlen := Nat.eq_of_beq_eq_true hl
  obtain ⟨Ds, hown, hnod, hbd⟩ := hp.own
  obtain ⟨D, ⟨hD, hb⟩, hDn, hsub, _⟩ := hR.own hown hnod
  have hb' : w.heap[b]? = some (.cells cs.toArray e (0, 0)) := hb
  have hcs := over_eq ho
  by_cases hnil : partL v = []
  · -- nothing is stored
    have hc : cs' = cs := by
      have := hcs.1; rw [hnil] at this; simpa using this
    subst hc
    have hrun : (storeVar t ⟨b, off, none⟩ v).run C.P w = .ok () w := by
      have h0 : T.size = 0 := by rw [← hlen, hnil]; rfl
      simp only [storeVar, Sem.run_bind, C.ok.run_size hT, Result.andThen_ok, partL_ok, hnil, h0]
      rfl
    exact .inr (.inl ⟨w, Es', h, by simp only [execOp, hs.eval hx, hs.eval hy, Instr.storeAt, Instr.sureAddr, Sem.run_bind, Sem.run_pure, Result.andThen_ok, hrun], hp.asn hR fun D m hm => hm, g⟩)
  · have hle := hcs.2 hnil
    have hrun : (storeVar t ⟨b, off, none⟩ v).run C.P w = .ok () (w.setRow b cs'.toArray) := by
      have hst := run_storeCells_at (P := C.P) b off e (partL v) 0 cs.toArray w hb' (by simpa using hle) (allOne_ok h1)
      simp only [storeVar, Sem.run_bind, C.ok.run_size hT, Result.andThen_ok, partL_ok, List.size_toArray, hlen, ne_eq, not_true, if_false]
      rw [hst]
      simp only [Nat.add_zero, List.toList_toArray]
      rw [← hcs.1]
    have hlt : b < w.heap.size := (Array.getElem?_eq_some_iff.1 hb').1
    refine .inr (.inl ⟨w.setRow b cs'.toArray, Es', h, by simp only [execOp, hs.eval hx, hs.eval hy, Instr.storeAt, Instr.sureAddr, Sem.run_bind, Sem.run_pure, Result.andThen_ok, hrun], ?_, g⟩)
    refine hp.repl hR rfl rfl rfl (by simp [World.setRow]) fun D hA hDn hDl => ⟨D, ⟨hA.1, ?_⟩, hDn, fun q hq => ⟨.inl hq, by have := hDl q hq; simpa [World.setRow] using this⟩, fun i hi hni => ?_⟩
    · show (w.setRow b cs'.toArray).heap[b]? = _
      exact setRow_heap w b cs.toArray cs'.toArray e (0, 0) hb'
    · have : b ≠ i := fun e => hni (by rw [hA.1, e]; simp)
      simp [World.setRow, Array.getElem?_modify, this]

end ops
end Go.Hw
/-
  Hw, part F: new blocks, indexes, slices, calls, append, the way out.
-/
set_option linter.unusedVariables false
namespace Go.Hw
open Go

section ops
variable {C : Ctx} {ds : List Deferred} {l : Sl} {Es : List Asn} {h : Ro} {K : List Item} {ops : Array Oper} {os : List Oper}
  {d : Tmp} {ty : TypeId} {pos : String} {aft : Array Edge} {gd : Option (Nat × Bool)}

/-! #### New blocks -/
theorem Blk_holds (b : Nat) (T : TypeId) (cs : List Value) : ∀ m : Ro, m b = some (.cells cs.toArray T (0, 0)) → (Blk b T cs).holds [b] m := fun m e => ⟨rfl, e⟩

theorem GOl_box {e : TypeId} {x : Operand} {v : Value}
    (hx : evl l x = some v)
    (hg : wantedB ops l gd = some true) (hd : dstOk C.N (some d) = true) (g : ∀ b, GOl C ds ((d, (.pointer (some ⟨b, 0, none⟩))) :: l) (Blk b e (partL v) :: Es) h ops os K) : GOl C ds l Es h ops (⟨some d, .box e x, ty, pos, aft, gd⟩ :: os) K :=
  GOl_op (o := ⟨some d, .box e x, ty, pos, aft, gd⟩) hg hd rfl fun a w hs hp =>
    .inl ⟨_, _, _, h, by simp only [execOp, hs.eval hx, Instr.box, newVar, newRow, newObj, Sem.run_bind, Sem.run_pure, Sem.run, Result.andThen_ok, partL_ok],
      hp.alloc (.cells (partL v).toArray e) (Blk w.heap.size e (partL v)) (Blk_holds _ _ _), g _⟩

theorem GOl_alloc {e : TypeId} {T : Ty} (hT : tyOf e C.ts = some T)
    (hg : wantedB ops l gd = some true) (hd : dstOk C.N (some d) = true) (g : ∀ b, GOl C ds ((d, (.pointer (some ⟨b, 0, none⟩))) :: l) (Blk b e (partL T.zero) :: Es) h ops os K) : GOl C ds l Es h ops (⟨some d, .alloc e, ty, pos, aft, gd⟩ :: os) K :=
  GOl_op (o := ⟨some d, .alloc e, ty, pos, aft, gd⟩) hg hd rfl fun a w hs hp =>
    .inl ⟨_, _, _, h, by simp only [execOp, Instr.alloc, C.ok.run_zero hT, newVar, newRow, newObj, Sem.run_bind, Sem.run_pure, Sem.run, Result.andThen_ok, partL_ok],
      hp.alloc (.cells (partL T.zero).toArray e) (Blk w.heap.size e (partL T.zero)) (Blk_holds _ _ _), g _⟩

theorem flat_get (z : List Value) : ∀ (n i : Nat), (List.replicate n z).flatten[i]? = if i < n * z.length then z[i % z.length]? else none
  | 0, i => by simp
  | n + 1, i => by
    rw [List.replicate_succ, List.flatten_cons]
    by_cases h1 : i < z.length
    · rw [List.getElem?_append_left h1, if_pos (by rw [Nat.succ_mul]; omega), Nat.mod_eq_of_lt h1]
    · rw [List.getElem?_append_right (by omega), flat_get z n]
      have e : (i - z.length) % z.length = i % z.length := (Nat.mod_eq_sub_mod (by omega)).symm
      rw [e]
      by_cases h2 : i < (n + 1) * z.length
      · rw [if_pos h2, if_pos (by rw [Nat.succ_mul] at h2; omega)]
      · rw [if_neg h2, if_neg (by rw [Nat.succ_mul] at h2; omega)]

theorem zero_row (z : List Value) (n : Nat) (hz : z ≠ []) : ((Array.range (n * z.length)).map fun i => z.toArray[i % z.toArray.size]!) = ((List.replicate n z).flatten).toArray := by
  have hl : 0 < z.length := List.length_pos_iff.2 hz
  apply Array.ext_getElem?
  intro i
  have h1 := flat_get z n i
  simp only [List.getElem?_toArray] at h1 ⊢
  rw [h1]
  by_cases h2 : i < n * z.length
  · rw [if_pos h2, Array.getElem?_eq_getElem (by simpa using h2)]
    have h3 : i % z.length < z.length := Nat.mod_lt _ hl
    simp [h3]
  · rw [if_neg h2, Array.getElem?_eq_none (by simpa using h2)]

def repl (z : List Value) : Nat → List Value
  | 0 => []
  | n + 1 => z ++ repl z n
theorem repl_eq (z : List Value) : ∀ n, repl z n = (List.replicate n z).flatten
  | 0 => rfl
  | n + 1 => by rw [repl, List.replicate_succ, List.flatten_cons, repl_eq z n]

theorem GOl_buildSlice {t e n : Nat} {parts : Array (Nat × Operand)} {ps : List (Nat × Value)} {T E : Ty} {cs : List Value} (hT : tyOf t C.ts = some T) (hTd : T.desc = .slice e) (hE : tyOf e C.ts = some E)
    (hz : partL E.zero ≠ []) (hzl : (partL E.zero).length = E.size) (hn : Nat.ble (n * E.size) 16777216 = true) (hp : evlP l parts.toList = some ps) (hc : fillL (fun i => some (i * E.size, E.size)) ps (repl (partL E.zero) n) = some cs)
    (hg : wantedB ops l gd = some true) (hd : dstOk C.N (some d) = true) (g : ∀ b, GOl C ds ((d, (.slice (some ⟨b, 0, none⟩) n n)) :: l) (Blk b e cs :: Es) h ops os K) : GOl C ds l Es h ops (⟨some d, .buildSlice t n parts, ty, pos, aft, gd⟩ :: os) K :=
  GOl_op (o := ⟨some d, .buildSlice t n parts, ty, pos, aft, gd⟩) hg hd rfl fun a w hs hp' =>
    .inl ⟨.slice (some ⟨w.heap.size, 0, none⟩) n n, { w with heap := w.heap.push (.cells cs.toArray e) }, _, h, by
      obtain ⟨D0, hu, hb0⟩ := C.ok.run_und hT
      have hu := hu w
      rw [hTd] at hb0
      rw [blank_slice hb0] at hu
      have e1 := evlP_ok hs hp
      have q1 : (parts.map fun x => match x with | (i, x) => (i, a.eval x)) = ps.toArray := by rw [← e1]; apply Array.ext'; simp
      have hf := fillL_ok hc
      have hle : ¬ (n * E.size > 2 ^ 24) := by have := Nat.le_of_ble_eq_true hn; omega
      have hrow : ((Array.range (n * E.size)).map fun i => (partL E.zero).toArray[i % (partL E.zero).toArray.size]!) = (repl (partL E.zero) n).toArray := by
        rw [repl_eq, ← hzl]; exact zero_row _ _ hz
      have hpos : 0 < E.size := by rw [← hzl]; exact List.length_pos_iff.2 hz
      simp only [execOp, Instr.buildSlice, Sem.run_bind, hu, C.ok.run_size hE, Result.andThen_ok, Sem.run_ite, hle, if_false, q1]
      by_cases h0 : n * E.size = 0
      · have hn0 : n = 0 := by rcases Nat.mul_eq_zero.1 h0 with h1 | h1 <;> omega
        subst hn0
        simp only [Nat.zero_mul, if_true, Sem.run_pure, Result.andThen_ok]
        have hr0 : ((Array.range 0).map fun i => (#[] : Array Value)[i % (#[] : Array Value).size]!) = (repl (partL E.zero) 0).toArray := by simp [repl]
        rw [hr0, hf]
        rfl
      · simp only [h0, if_false, C.ok.run_zero hE, Sem.run_bind, Result.andThen_ok, Sem.run_pure, partL_ok, hrow, hf]
        rfl, hp'.alloc (.cells cs.toArray e) (Blk w.heap.size e cs) (Blk_holds _ _ _), g _⟩

/-! #### Indexes -/
theorem GOl_idx {t e : TypeId} {x y : Operand} {ad : Addr} {n c j : Nat} {k : IntKind} {i : Int} {T E : Ty} (hT : tyOf t C.ts = some T) (hTd : T.desc = .slice e) (hE : tyOf e C.ts = some E)
    (hx : evl l x = some (.slice (some ad) n c)) (hy : evl l y = some (.int k i)) (hi : i = (j : Int)) (hj : j < n)
    (hg : wantedB ops l gd = some true) (hd : dstOk C.N (some d) = true) (g : GOl C ds ((d, .pointer (some (ad.add (j * E.size)))) :: l) Es h ops os K) : GOl C ds l Es h ops (⟨some d, .indexAddr t x y, ty, pos, aft, gd⟩ :: os) K :=
  GOl_op (o := ⟨some d, .indexAddr t x y, ty, pos, aft, gd⟩) hg hd rfl fun a w hs hp =>
    .inl ⟨_, w, Es, h, by
      obtain ⟨D0, hu, hb0⟩ := C.ok.run_und hT
      have hu := hu w
      rw [hTd] at hb0
      rw [blank_slice hb0] at hu
      subst hi
      have hb : (0 : Int) ≤ (j : Int) ∧ (j : Int) < (n : Int) := ⟨by omega, by omega⟩
      simp only [execOp, hs.eval hx, hs.eval hy, Instr.indexAt, asIntOf, Sem.run_bind, Sem.run_pure, Result.andThen_ok, hu, Sem.run_ite, hb, and_self, if_true, C.ok.run_size hE, Int.toNat_natCast], hp, g⟩

/-- An index into an array in memory. -/
theorem GOl_idxA {t e m : TypeId} {x y : Operand} {ad : Addr} {j : Nat} {k : IntKind} {i : Int} {T E : Ty} (hT : tyOf t C.ts = some T) (hTd : T.desc = .array m e) (hE : tyOf e C.ts = some E)
    (hx : evl l x = some (.pointer (some ad))) (hy : evl l y = some (.int k i)) (hi : i = (j : Int)) (hj : j < m)
    (hg : wantedB ops l gd = some true) (hd : dstOk C.N (some d) = true) (g : GOl C ds ((d, .pointer (some (ad.add (j * E.size)))) :: l) Es h ops os K) : GOl C ds l Es h ops (⟨some d, .indexAddr t x y, ty, pos, aft, gd⟩ :: os) K :=
  GOl_op (o := ⟨some d, .indexAddr t x y, ty, pos, aft, gd⟩) hg hd rfl fun a w hs hp =>
    .inl ⟨_, w, Es, h, by
      obtain ⟨D0, hu, hb0⟩ := C.ok.run_und hT
      have hu := hu w
      rw [hTd] at hb0
      rw [blank_array hb0] at hu
      subst hi
      have hb : (0 : Int) ≤ (j : Int) ∧ (j : Int) < (m : Int) := ⟨by omega, by omega⟩
      simp only [execOp, hs.eval hx, hs.eval hy, Instr.indexAt, Instr.sureAddr, asIntOf, Sem.run_bind, Sem.run_pure, Result.andThen_ok, hu, Sem.run_ite, hb, and_self, if_true, C.ok.run_size hE, Int.toNat_natCast], hp, g⟩

/-! #### Calls -/
theorem OpTo_call {o : Oper} {f : FuncId} {args : List Value} {Es0 Fs : List Asn} {Post : Value → List Asn → Ro → Prop} {G : Value → List Asn → Ro → Prop}
    (hrun : ∀ a w, SlotsOk l a → (execOp a.eval o).run C.P w = .ok (.enter f args.toArray) w) (hE : Es = Es0 ++ Fs) (hf : Fn C.P f args.toArray Es0 h Post)
    (g : ∀ v Es' h', Le h h' → Post v Es' h' → G v (Es' ++ Fs) h') : OpTo C l Es h o G := fun a w hs hp => by
  subst hE
  refine .inr (.inr (.inl ⟨f, args.toArray, w, hrun a w hs, ?_⟩))
  obtain ⟨Ds, ho, hn, hb⟩ := hp.own
  obtain ⟨D1, D2, rfl, ho1, ho2⟩ := ho.split
  have hb1 : ∀ b ∈ D1.flatten, b ∈ (D1 ++ D2).flatten := fun b h1 => by rw [List.flatten_append, List.mem_append]; exact .inl h1
  refine (hf w D1.flatten hp.ro ⟨D1, ho1, ?_, fun b h1 => ⟨(hb b (hb1 b h1)).1, h1, (hb b (hb1 b h1)).2.2⟩⟩).mono ?_
  · rw [List.flatten_append, List.nodup_append] at hn; exact hn.1
  · rintro e w2 ⟨v, rfl, Es', h', hP, H'⟩
    exact ⟨v, rfl, Es' ++ Fs, h', hp.call ho1 ho2 hn hb H', g v Es' h' H'.le hP⟩

theorem run_callFunc {P : Program} {f : FuncId} {fn : Func} {args : Array Value} (hf : P.funcs[f]? = some fn) (hb : fn.body.isNone = false) (hname : (fn.name == "runtime.NumGoroutine") = false) (w : World) :
    (callFunc f args).run P w = .ok (.enter f args) w := by
  simp only [callFunc, Sem.run_bind, run_program, Result.andThen_ok, hf, hname, hb, Bool.false_eq_true, if_false, Sem.run_pure]

/-- What is asked of a function of the program, that a call may enter it. -/
def Has (P : Program) (f : FuncId) : Prop := ∃ fn, P.funcs[f]? = some fn ∧ fn.body.isNone = false ∧ (fn.name == "runtime.NumGoroutine") = false

theorem GOl_call {d : Option Tmp} {c : Operand} {xs : Array Operand} {tys : Array TypeId} {f : FuncId} {fs cs vs : List Value} {Es0 Fs : List Asn} {Post : Value → List Asn → Ro → Prop}
    (hc : evl l c = some (.func (.func f) fs.toArray cs.toArray)) (hxs : evlL l xs.toList = some vs) (hE : Es = Es0 ++ Fs) (hh : Has C.P f) (hf : Fn C.P f (fs ++ vs ++ cs).toArray Es0 h Post)
    (hg : wantedB ops l gd = some true) (hd : dstOk C.N d = true)
    (g : ∀ v Es' h', Le h h' → Post v Es' h' → GOl C ds (putS d v l) (Es' ++ Fs) h' ops os K) : GOl C ds l Es h ops (⟨d, .call ⟨.value c, xs, tys⟩, ty, pos, aft, gd⟩ :: os) K := by
  refine GOl_op (o := ⟨d, .call ⟨.value c, xs, tys⟩, ty, pos, aft, gd⟩) hg hd rfl (OpTo_call (fun a w hs => ?_) hE hf g)
  obtain ⟨fn, h1, h2, h3⟩ := hh
  have e1 := evlL_ok hs hxs
  have q1 : xs.map a.eval = vs.toArray := by rw [← e1]; apply Array.ext'; simp
  simp only [execOp, resolve, hs.eval hc, Deferred.ofValue, Sem.run_bind, Sem.run_pure, Result.andThen_ok, invoke, q1]
  rw [show fs.toArray ++ vs.toArray ++ cs.toArray = (fs ++ vs ++ cs).toArray by simp]
  exact run_callFunc h1 h2 h3 w

/-- A call of a function by its name. -/
theorem GOl_callF {d : Option Tmp} {xs : Array Operand} {tys : Array TypeId} {f : FuncId} {vs : List Value} {Es0 Fs : List Asn} {Post : Value → List Asn → Ro → Prop}
    (hxs : evlL l xs.toList = some vs) (hE : Es = Es0 ++ Fs) (hh : Has C.P f) (hf : Fn C.P f vs.toArray Es0 h Post)
    (hg : wantedB ops l gd = some true) (hd : dstOk C.N d = true)
    (g : ∀ v Es' h', Le h h' → Post v Es' h' → GOl C ds (putS d v l) (Es' ++ Fs) h' ops os K) : GOl C ds l Es h ops (⟨d, .call ⟨.value (.func f), xs, tys⟩, ty, pos, aft, gd⟩ :: os) K :=
  GOl_call (f := f) (fs := []) (cs := []) rfl hxs hE hh (by simpa using hf) hg hd g

/-! #### append -/
theorem GOl_append {x y : Operand} {t e : TypeId} {v : Value} {n m c : Nat} {xs news : List Value} {ad : Addr} {T E : Ty} {Es' : Value → List Asn} (hT : tyOf t C.ts = some T) (hTd : T.desc = .slice e) (hE : tyOf e C.ts = some E)
    (hz : E.zero.cells.size = E.size) (hsz : 0 < E.size)
    (hx : evl l x = some v) (hy : evl l y = some (.slice (some ad) m c)) (hR : ∀ v', Repl Es (OwnS e E.size v n xs) (OwnS e E.size v' (n + m) (xs ++ news)) (Es' v'))
    (hnl : news.length = m * E.size) (hnews : ∀ w, Hp C.w0 C.X0 C.h0 Es h w → ∀ j u, news[j]? = some u → w.cell? (ad.add j) = some u) (h1 : ∀ u ∈ news, u.oneCell' = true)
    (h63 : n + m ≤ maxLen) (hbytes : (n + m) * E.bytes ≤ 140737488355328)
    (hg : wantedB ops l gd = some true) (hd : dstOk C.N (some d) = true)
    (g : ∀ v', (v' = .slice none 0 0 ↔ v = .slice none 0 0 ∧ m = 0) → GOl C ds ((d, v') :: l) (Es' v') h ops os K) : GOl C ds l Es h ops (⟨some d, .call ⟨.builtin .append, #[x, y], #[t, t]⟩, ty, pos, aft, gd⟩ :: os) K := by
  refine GOl_op (o := ⟨some d, .call ⟨.builtin .append, #[x, y], #[t, t]⟩, ty, pos, aft, gd⟩) hg hd rfl fun a w hs hp => ?_
  obtain ⟨i, hi, hi1, hi2, hi3⟩ := C.ok.info hE
  obtain ⟨D0, hu, hb0⟩ := C.ok.und hT
  rw [hTd] at hb0
  rw [blank_slice hb0] at hu
  obtain ⟨Ds, hown, hnod, hbd⟩ := hp.own
  obtain ⟨D, hA, hDn, hsub, _⟩ := (hR v).own hown hnod
  have hrow : w.ownsRow 0 e E.size v n xs := by
    obtain ⟨hl, hr⟩ := hA
    refine ⟨hl, hr.imp (fun ⟨h1, h2, _⟩ => ⟨h1, h2⟩) fun ⟨g, cap, cur, h1, h2, h3, h4, h5, h6, h7⟩ => ⟨g, cap, cur, h1, Nat.zero_le _, h3, h4, h5, h6, h7⟩⟩
  obtain ⟨v', w', hrun, hown', hgrow, hnil, hblk⟩ := run_append_own_at (P := C.P) w 0 t ty e i E.zero E.size E.bytes hu hi hi3 hi1 hi2 hz hsz v n xs hrow ad m c news hnl (hnews w hp) h1 h63 hbytes (Nat.zero_le _)
  refine .inl ⟨v', w', Es' v', h, ?_, ?_, g v' hnil⟩
  · simp only [execOp, resolve, invoke, builtin, Sem.run_bind, Sem.run_pure, Result.andThen_ok, List.map_toArray, List.map_cons, List.map_nil, hs.eval hx, hs.eval hy, hrun]
  · refine hp.repl (hR v') hgrow.os hgrow.tape hgrow.output hgrow.size (hdr := run_drawn _ hrun) fun D hA hDn hDl => ?_
    obtain ⟨hl, hr⟩ := hA
    obtain ⟨hl', hr'⟩ := hown'
    have hvD : ∀ i, i ∉ D → some i ≠ v.ownBlock := by
      intro i hi he
      rcases hr with ⟨rfl, _, _⟩ | ⟨g, cap, cur, rfl, rfl, _⟩
      · simp [Value.ownBlock] at he
      · simp only [Value.ownBlock, Option.some.injEq] at he; subst he; exact hi (by simp)
    rcases hr' with ⟨rfl, hn0⟩ | ⟨g, cap, cur, rfl, _, hh, hrest⟩
    · refine ⟨[], ⟨hl', .inl ⟨rfl, hn0, rfl⟩⟩, List.nodup_nil, by simp, fun i hi hni => hgrow.block i hi (hvD i hni)⟩
    · refine ⟨[g], ⟨hl', .inr ⟨g, cap, cur, rfl, rfl, hh, hrest⟩⟩, by simp, fun b hb => ?_, fun i hi hni => hgrow.block i hi (hvD i hni)⟩
      simp only [List.mem_singleton] at hb
      subst hb
      refine ⟨?_, (Array.getElem?_eq_some_iff.1 hh).1⟩
      rcases hblk with hb | hb
      · left
        rcases hr with ⟨rfl, _, _⟩ | ⟨g', cap', cur', rfl, rfl, _⟩
        · simp [Value.ownBlock] at hb
        · simp only [Value.ownBlock, Option.some.injEq] at hb; subst hb; simp
      · right
        simp only [Value.ownBlock, Option.some.injEq] at hb; omega

/-! #### The way out -/
def fnQ (P : Program) (fn : Func) (w0 : World) (X0 : List Nat) (h0 : Ro) (Post : Value → List Asn → Ro → Prop) : Exit → Act → World → Prop :=
  bodyPostM Fence.wide 0 P fn fun e w' => ∃ v, e = .returned v ∧ ∃ Es h, Post v Es h ∧ Hp w0 X0 h0 Es h w'

def ResV (C : Ctx) (l : Sl) (Es : List Asn) (h : Ro) : List ResultVar → List Value → Prop
  | [], [] => True
  | .tmp t :: r, v :: vs => look t l = some v ∧ ResV C l Es h r vs
  | .cell a T :: r, v :: vs => (∃ ad, look a l = some (.pointer (some ad)) ∧ Ld C Es h T ad v) ∧ ResV C l Es h r vs
  | _, _ => False

def resVal : List Value → Value
  | [v] => v
  | vs => .tuple vs.toArray

def resOne (tmps : Array Value) : ResultVar → Sem Value
  | .tmp t => pure (tmps.getD t undef)
  | .cell c t => do loadVar t (← asAddr (tmps.getD c undef))

theorem ResV_ok {a : Act} {w : World} (hs : SlotsOk l a) (hp : Hp C.w0 C.X0 C.h0 Es h w) : ∀ {rs : List ResultVar} {vs : List Value}, ResV C l Es h rs vs →
    (rs.mapM (resOne a.tmps) : Sem (List Value)).run C.P w = .ok vs w
  | [], [], _ => rfl
  | .tmp t :: r, v :: vs, ⟨h1, h2⟩ => by
    have e : a.tmps.getD t undef = v := hs.eval (x := .tmp t) h1
    simp only [List.mapM_cons, resOne, Sem.run_bind, Sem.run_pure, Result.andThen_ok, e, ResV_ok hs hp h2]
  | .cell c T :: r, v :: vs, ⟨⟨ad, h1, hl⟩, h2⟩ => by
    have e : a.tmps.getD c undef = .pointer (some ad) := hs.eval (x := .tmp c) h1
    have h3 := ResV_ok hs hp h2
    have h4 := hl w hp
    simp only [List.mapM_cons, resOne, e, asAddr, Sem.run_bind, Sem.run_pure, Result.andThen_ok, h4, h3]
  | [], _ :: _, h => h.elim
  | .tmp _ :: _, [], h => h.elim
  | .cell _ _ :: _, [], h => h.elim

theorem results_eq (fn : Func) (tmps : Array Value) : results fn tmps = (do
    let vs ← fn.results.mapM (resOne tmps)
    pure (if h : vs.size = 1 then vs[0] else .tuple vs) : Sem Value) := by
  have : (fun x => match x with | ResultVar.tmp t => pure (tmps.getD t undef) | .cell a t => do loadVar t (← asAddr (tmps.getD a undef)) : ResultVar → Sem Value) = resOne tmps := by
    funext x; cases x <;> rfl
  rw [← this]
  rfl

theorem results_ok {fn : Func} {a : Act} {w : World} {rs : List ResultVar} {vs : List Value} (hr : fn.results = rs.toArray) (hs : SlotsOk l a) (hp : Hp C.w0 C.X0 C.h0 Es h w) (hv : ResV C l Es h rs vs) :
    (results fn a.tmps).run C.P w = .ok (resVal vs) w := by
  have := ResV_ok hs hp hv
  have h2 : (fn.results.mapM (resOne a.tmps) : Sem (Array Value)).run C.P w = .ok vs.toArray w := by
    rw [hr, List.mapM_toArray]
    simp only [Sem.run_map, this, Result.andThen_ok]
  rw [results_eq]
  simp only [Sem.run_bind, h2, Result.andThen_ok, Sem.run_pure]
  match vs with
  | [] => rfl
  | [v] => rfl
  | v :: u :: r => rfl

theorem GO_ret {fn : Func} {Post : Value → List Asn → Ro → Prop} {rs : List ResultVar} {vs : List Value} (hQ : C.Q = fnQ C.P fn C.w0 C.X0 C.h0 Post) (hr : fn.results = rs.toArray) (hv : ResV C l Es h rs vs) (hP : Post (resVal vs) Es h) :
    GO C [] l Es h (.code .ret :: K) := fun a w s => todo_ret (by
  rw [hQ]
  show LeavesInM _ _ _ _ _ _ a.defers _ _
  rw [s.defers]
  exact ⟨_, results_ok hr s.slots s.hp hv, _, rfl, Es, h, hP, s.hp⟩)

theorem GO_end {fn : Func} {Post : Value → List Asn → Ro → Prop} {rs : List ResultVar} {vs : List Value} (hQ : C.Q = fnQ C.P fn C.w0 C.X0 C.h0 Post) (hr : fn.results = rs.toArray) (hv : ResV C l Es h rs vs) (hP : Post (resVal vs) Es h) :
    GO C [] l Es h [] := fun a w s => todo_end (by
  rw [hQ]
  show LeavesInM _ _ _ _ _ _ a.defers _ _
  rw [s.defers]
  exact ⟨_, results_ok hr s.slots s.hp hv, _, rfl, Es, h, hP, s.hp⟩)

end ops

/-! ### A function's contract -/
def argS : Nat → List Value → Sl
  | _, [] => []
  | k, v :: r => (k, v) :: argS (k + 1) r

theorem argS_look : ∀ {vs : List Value} {k i : Nat} {v : Value}, look i (argS k vs) = some v → k ≤ i ∧ vs[i - k]? = some v
  | [], _, _, _, h => by cases h
  | u :: r, k, i, v, h => by
    simp only [argS, look] at h
    cases hb : Nat.beq i k with
    | true =>
      rw [hb] at h
      simp only [cond_true, Option.some.injEq] at h
      have := Nat.eq_of_beq_eq_true hb
      subst this; subst h
      simp
    | false =>
      rw [hb] at h
      obtain ⟨h1, h2⟩ := argS_look (k := k + 1) h
      refine ⟨by omega, ?_⟩
      rw [show i - k = (i - (k + 1)) + 1 by omega]
      simpa using h2

def mkC (P : Program) (ts : List Ty) (ok : TsOk P ts) (fn : Func) (w0 : World) (X0 : List Nat) (h0 : Ro) (Post : Value → List Asn → Ro → Prop) : Ctx :=
  { P, ts, ok, ro := none, N := fn.ntmps, w0, X0, h0, Q := fnQ P fn w0 X0 h0 Post }

theorem Fn_intro {P : Program} {ts : List Ty} (ok : TsOk P ts) {f : FuncId} {fn : Func} {c : Code} {args : List Value} {Es0 : List Asn} {h0 : Ro} {Post : Value → List Asn → Ro → Prop}
    (hf : P.funcs[f]? = some fn) (hb : fn.body = some c) (hn : Nat.ble args.length fn.ntmps = true)
    (g : ∀ w0 X0, GO (mkC P ts ok fn w0 X0 h0 Post) [] (argS 0 args) Es0 h0 [.code c]) : Fn P f args.toArray Es0 h0 Post := by
  intro w X0 hl ⟨Ds, ho, hnd, hbd⟩
  refine calls_of_todo hf hb (g w X0 _ w ⟨?_, rfl, ?_, ?_⟩)
  · have := Nat.le_of_ble_eq_true hn
    simp [mkC]; omega
  · intro i v e
    obtain ⟨_, h2⟩ := argS_look e
    have hi : i < args.length := (List.getElem?_eq_some_iff.1 h2).1
    simp only [Nat.sub_zero] at h2
    rw [Array.getElem?_append_left (by simpa using hi)]
    simpa using h2
  · exact ⟨rfl, rfl, rfl, Nat.le_refl _, Nat.le_refl _, fun _ _ _ => rfl, hl, Le.refl _, fun i o e => .inl e, Ds, ho, hnd, fun b hb => ⟨(hbd b hb).1, .inr (hbd b hb).2.1, (hbd b hb).2.2⟩⟩

/-- A loop: what holds at a round's head (of 'x'), and a measure that every round lowers. -/
theorem GO_while {C : Ctx} {ds : List Deferred} {l : Sl} {Es : List Asn} {h : Ro} {K : List Item} {c : Code} {X : Type} (I : X → Prop) (μ : X → Nat) (S : X → Sl) (E : X → List Asn) (H : X → Ro) (x0 : X)
    (hi : I x0) (hs : Slots (S x0) l) (hE : E x0 = Es) (hH : H x0 = h)
    (round : ∀ x, I x → (∀ y, I y → μ y < μ x → GO C ds (S y) (E y) (H y) (.inLoop c :: K)) → GO C ds (S x) (E x) (H x) (.code c :: .inLoop c :: K)) :
    GO C ds l Es h (.code (.loop c) :: K) := by
  have key : ∀ n x, μ x = n → I x → GO C ds (S x) (E x) (H x) (.code c :: .inLoop c :: K) := by
    intro n
    induction n using Nat.strongRecOn with
    | _ n ih =>
      intro x hx hI
      exact round x hI fun y hy hlt => GO_inLoop (ih (μ y) (hx ▸ hlt) y rfl hy)
  subst hE; subst hH
  exact GO_loop (GO_keep hs (key _ x0 rfl hi))


section
variable {C : Ctx} {ds : List Deferred} {l : Sl} {Es : List Asn} {h : Ro} {K : List Item}
theorem GO_condD {c : Operand} {x y : Code} {p : Prop} {inst : Decidable p} (hc : evl l c = some (.bool (decide p))) (ht : p → GO C ds l Es h (.code x :: K)) (hf : ¬ p → GO C ds l Es h (.code y :: K)) :
    GO C ds l Es h (.code (.cond c x y) :: K) := GO_cond hc (fun e => ht (of_decide_eq_true e)) (fun e => hf (of_decide_eq_false e))
theorem GO_condN {c : Operand} {x y : Code} {p : Prop} {inst : Decidable p} (hc : evl l c = some (.bool (!decide p))) (ht : ¬ p → GO C ds l Es h (.code x :: K)) (hf : p → GO C ds l Es h (.code y :: K)) :
    GO C ds l Es h (.code (.cond c x y) :: K) := GO_cond hc (fun e => ht (by simpa using e)) (fun e => hf (by simpa using e))
theorem GO_condB {c : Operand} {x y : Code} {p : Bool} (hc : evl l c = some (.bool (!p))) (ht : p = false → GO C ds l Es h (.code x :: K)) (hf : p = true → GO C ds l Es h (.code y :: K)) :
    GO C ds l Es h (.code (.cond c x y) :: K) := GO_cond hc (fun e => ht (by simpa using e)) (fun e => hf (by simpa using e))
variable {ops : Array Oper} {os : List Oper} {o : Oper} {d : Nat} {b : Bool}
theorem GOl_splitD {p : Prop} {inst : Decidable p} (hg : guardSlot ops o.guard = some (d, b)) (hc : look d l = some (.bool (decide p))) (ht : p → GOl C ds ((d, .bool true) :: l) Es h ops (o :: os) K)
    (hf : ¬ p → GOl C ds ((d, .bool false) :: l) Es h ops (o :: os) K) : GOl C ds l Es h ops (o :: os) K := GOl_split hg hc (fun e => ht (of_decide_eq_true e)) (fun e => hf (of_decide_eq_false e))
theorem GOl_splitN {p : Prop} {inst : Decidable p} (hg : guardSlot ops o.guard = some (d, b)) (hc : look d l = some (.bool (!decide p))) (ht : ¬ p → GOl C ds ((d, .bool true) :: l) Es h ops (o :: os) K)
    (hf : p → GOl C ds ((d, .bool false) :: l) Es h ops (o :: os) K) : GOl C ds l Es h ops (o :: os) K := GOl_split hg hc (fun e => ht (by simpa using e)) (fun e => hf (by simpa using e))
theorem GOl_splitB {p : Bool} (hg : guardSlot ops o.guard = some (d, b)) (hc : look d l = some (.bool (!p))) (ht : p = false → GOl C ds ((d, .bool true) :: l) Es h ops (o :: os) K)
    (hf : p = true → GOl C ds ((d, .bool false) :: l) Es h ops (o :: os) K) : GOl C ds l Es h ops (o :: os) K := GOl_split hg hc (fun e => ht (by simpa using e)) (fun e => hf (by simpa using e))
end
end Go.Hw
/-
  Hw, part G: a region that draws its order: operations whose value is known beforehand are promised; the others are met one by one, whatever order comes.
-/
set_option linter.unusedVariables false
namespace Go.Hw
open Go

/-! ### What every schedule keeps -/
/-- No operation of the list stands ahead of one that it must wait for. -/
def Sched (ops : Array Oper) (is : List Nat) : Prop :=
  is.Nodup ∧ (∀ i ∈ is, i < ops.size) ∧ ∀ p i q, is = p ++ i :: q → ∀ o, ops[i]? = some o → ∀ e ∈ o.after.toList, Region.binds .any e = true → e.on ∉ i :: q

theorem Sched.tail {ops : Array Oper} {i : Nat} {is : List Nat} (h : Sched ops (i :: is)) : Sched ops is :=
  ⟨(List.nodup_cons.1 h.1).2, fun j hj => h.2.1 j (.tail _ hj), fun p j q e o ho => h.2.2 (i :: p) j q (by rw [e]; rfl) o ho⟩

theorem binds_any {m : Region.Mode} {e : Edge} (h : Region.binds .any e = true) : Region.binds m e = true := by
  unfold Region.binds at *
  cases hg : e.ground <;> simp_all

/-- A complete order that respects the edges of a mode. -/
def Order (m : Region.Mode) (ops : Array Oper) (L : List Nat) : Prop :=
  (∀ i, i < ops.size → i ∈ L) ∧ (∀ i ∈ L, i < ops.size) ∧ ∀ p i q, L = p ++ i :: q → ∀ o, ops[i]? = some o → ∀ e ∈ o.after.toList, Region.binds m e = true → e.on ∈ p

theorem first_unlisted (S : Nat → Bool) : ∀ (L : List Nat), (∃ i ∈ L, S i = false) → ∃ p i q, L = p ++ i :: q ∧ S i = false ∧ ∀ j ∈ p, S j = true
  | [], ⟨_, h, _⟩ => by cases h
  | x :: L, h => by
    cases hx : S x with
    | false => exact ⟨[], x, L, rfl, hx, fun _ h => by cases h⟩
    | true =>
      obtain ⟨i, hi, hs⟩ := h
      have hi' : i ∈ L := by
        rcases List.mem_cons.1 hi with rfl | h
        · rw [hx] at hs; cases hs
        · exact h
      obtain ⟨p, j, q, e, h1, h2⟩ := first_unlisted S L ⟨i, hi', hs⟩
      exact ⟨x :: p, j, q, by rw [e]; rfl, h1, fun k hk => by
        rcases List.mem_cons.1 hk with rfl | h
        · exact hx
        · exact h2 k h⟩

theorem len_le_of_sub : ∀ {l1 l2 : List Nat}, l1.Nodup → (∀ x ∈ l1, x ∈ l2) → l1.length ≤ l2.length
  | [], _, _, _ => by simp
  | x :: t, l2, hn, hs => by
    have hx := hs x (.head _)
    have hn' := List.nodup_cons.1 hn
    have := len_le_of_sub (l1 := t) (l2 := l2.erase x) hn'.2 (fun y hy => (List.mem_erase_of_ne (fun (e : y = x) => hn'.1 (by rw [← e]; exact hy))).2 (hs y (.tail _ hy)))
    rw [List.length_erase_of_mem hx] at this
    have h0 : 0 < l2.length := List.length_pos_of_mem hx
    simp; omega

theorem getD_of_lt (a : Array Bool) {i : Nat} (h : i < a.size) (d : Bool) : a.getD i d = a[i] := by simp [Array.getD, h]

theorem lin_go {m : Region.Mode} {ops : Array Oper} {L : List Nat} (hL : Order m ops L) : ∀ (fuel t : Nat) (listed : Array Bool) (acc : List Nat),
    fuel + acc.length = ops.size → listed.size = ops.size → (∀ i, i < ops.size → (listed.getD i true = true ↔ i ∈ acc)) → (∀ i ∈ acc, i < ops.size) → acc.Nodup →
    (∀ p i q, acc.reverse = p ++ i :: q → ∀ o, ops[i]? = some o → ∀ e ∈ o.after.toList, Region.binds .any e = true → e.on ∈ p) →
    (Region.linearise.go m ops fuel t listed acc).Nodup ∧ (∀ i, i < ops.size → i ∈ Region.linearise.go m ops fuel t listed acc) ∧ (∀ i ∈ Region.linearise.go m ops fuel t listed acc, i < ops.size) ∧
    ∀ p i q, Region.linearise.go m ops fuel t listed acc = p ++ i :: q → ∀ o, ops[i]? = some o → ∀ e ∈ o.after.toList, Region.binds .any e = true → e.on ∈ p
  | 0, t, listed, acc, hf, hsz, hl, hlt, hn, hord => by
    unfold Region.linearise.go
    refine ⟨by unfold List.Nodup; rw [List.pairwise_reverse]; exact hn.imp Ne.symm, fun i hi => ?_, fun i hi => hlt i (by simpa using hi), hord⟩
    -- all are listed
    have hlen : acc.length = ops.size := by omega
    rcases Classical.em (i ∈ acc) with h | h
    · simpa using h
    · have := len_le_of_sub (l1 := i :: acc) (l2 := List.range ops.size) (List.nodup_cons.2 ⟨h, hn⟩) (fun j hj => by
        rcases List.mem_cons.1 hj with rfl | hj
        · exact List.mem_range.2 hi
        · exact List.mem_range.2 (hlt j hj))
      simp at this; omega
  | fuel + 1, t, listed, acc, hf, hsz, hl, hlt, hn, hord => by
    unfold Region.linearise.go
    simp only
    generalize hrs : (List.range ops.size).filter (fun i => !listed.getD i true && ((ops[i]?).map (·.after.all fun e => !Region.binds m e || listed.getD e.on false)).getD false) = rs
    -- a candidate there is
    have hex : rs ≠ [] := by
      have hsome : ∃ i ∈ L, listed.getD i true = false := by
        rcases Classical.em (∃ i ∈ L, listed.getD i true = false) with h | h
        · exact h
        · exfalso
          have hall : ∀ i, i < ops.size → i ∈ acc := fun i hi => by
            refine (hl i hi).1 ?_
            cases hq : listed.getD i true with
            | true => rfl
            | false => exact absurd ⟨i, hL.1 i hi, hq⟩ h
          have : (List.range ops.size).length ≤ acc.length := len_le_of_sub List.nodup_range fun i hi => hall i (List.mem_range.1 hi)
          simp at this; omega
      obtain ⟨p, i, q, e, hi, hp⟩ := first_unlisted (fun i => listed.getD i true) L hsome
      have hilt : i < ops.size := by
        rcases Nat.lt_or_ge i ops.size with h | h
        · exact h
        · have : listed.getD i true = true := by simp [Array.getD, hsz, Nat.not_lt.2 h]
          rw [this] at hi; cases hi
      have hmem : i ∈ rs := by
        rw [← hrs, List.mem_filter]
        refine ⟨List.mem_range.2 hilt, ?_⟩
        have ho : ops[i]? = some ops[i] := Array.getElem?_eq_getElem hilt
        rw [hi, ho]
        simp only [Bool.not_false, Bool.true_and, Option.map_some, Option.getD_some, Array.all_eq_true_iff_forall_mem]
        intro e' he'
        cases hb : Region.binds m e' with
        | false => rfl
        | true =>
          have hin := hL.2.2 p i q e _ ho e' (by simpa using he') hb
          have h1 := hp _ hin
          have hon : e'.on < ops.size := by
            rcases Nat.lt_or_ge e'.on ops.size with h | h
            · exact h
            · exact hL.2.1 _ (by rw [e]; exact List.mem_append.2 (.inl hin))
          have : listed.getD e'.on false = true := by
            rw [getD_of_lt listed (by omega)]; rw [getD_of_lt listed (by omega)] at h1; exact h1
          simp [this]
      exact List.ne_nil_of_mem hmem
    have hlen : 0 < rs.length := List.length_pos_iff.2 hex
    have hget : rs[t % rs.length]? = some (rs[t % rs.length]'(Nat.mod_lt _ hlen)) := List.getElem?_eq_getElem _
    rw [hget]
    simp only
    generalize hi : rs[t % rs.length]'(Nat.mod_lt _ hlen) = i
    have himem : i ∈ rs := hi ▸ List.getElem_mem _
    rw [← hrs, List.mem_filter] at himem
    obtain ⟨hir, hic⟩ := himem
    have hilt := List.mem_range.1 hir
    have ho : ops[i]? = some ops[i] := Array.getElem?_eq_getElem hilt
    rw [ho] at hic
    simp only [Option.map_some, Option.getD_some, Bool.and_eq_true, Bool.not_eq_true', Array.all_eq_true_iff_forall_mem, Bool.or_eq_true] at hic
    have hnot : i ∉ acc := fun h => by have := (hl i hilt).2 h; rw [hic.1] at this; cases this
    refine lin_go hL fuel (t / rs.length) (listed.setIfInBounds i true) (i :: acc) (by simp; omega) (by simpa using hsz) (fun j hj => ?_) (fun j hj => ?_) (List.nodup_cons.2 ⟨hnot, hn⟩) ?_
    · rw [getD_of_lt _ (by simp; omega), List.mem_cons]
      by_cases hji : j = i
      · subst hji; simp
      · have := hl j hj
        rw [getD_of_lt _ (by omega)] at this
        rw [Array.getElem_setIfInBounds_ne (by omega) (Ne.symm hji), this]
        simp [hji]
    · rcases List.mem_cons.1 hj with rfl | h
      · exact hilt
      · exact hlt j h
    · intro p j q e o ho' e' he' hb
      rw [List.reverse_cons] at e
      rcases Nat.lt_or_ge p.length acc.reverse.length with hlt' | hge
      · -- within what was there
        have h1 : acc.reverse = p ++ (acc.reverse.drop p.length) := by
          have := congrArg (List.take p.length) e
          rw [List.take_append_of_le_length (by omega), List.take_left] at this
          conv => lhs; rw [← List.take_append_drop p.length acc.reverse, this]
        have h2 : acc.reverse.drop p.length ++ [i] = j :: q := by
          have := congrArg (List.drop p.length) e
          rwa [List.drop_append_of_le_length (by omega), List.drop_left] at this
        cases hd : acc.reverse.drop p.length with
        | nil =>
          rw [hd] at h1
          have := congrArg List.length h1
          simp at this hlt'; omega
        | cons x r =>
          rw [hd] at h2 h1
          simp only [List.cons_append, List.cons.injEq] at h2
          obtain ⟨rfl, h2⟩ := h2
          exact hord p x r h1 o ho' e' he' hb
      · have hlen := congrArg List.length e
        simp only [List.length_append, List.length_cons, List.length_nil] at hlen
        have hq : q = [] := List.eq_nil_of_length_eq_zero (by omega)
        subst hq
        have := List.append_inj' e rfl
        obtain ⟨h1, h2⟩ := this
        simp only [List.cons.injEq, and_true] at h2
        subst h2
        rw [ho] at ho'; injection ho' with ho'; subst ho'
        rcases hic.2 e' (by simpa using he') with h3 | h3
        · rw [binds_any hb] at h3; cases h3
        · have hon : e'.on < ops.size := by
            rcases Nat.lt_or_ge e'.on ops.size with h | h
            · exact h
            · simp [Array.getD, hsz, Nat.not_lt.2 h] at h3
          rw [getD_of_lt _ (by omega)] at h3
          have := (hl e'.on hon).1 (by rw [getD_of_lt _ (by omega)]; exact h3)
          rw [← h1]; simpa using this

theorem linearise_ok {m : Region.Mode} {ops : Array Oper} {L : List Nat} (hL : Order m ops L) (t : Nat) : Sched ops (Region.linearise m ops t) ∧ ∀ i, i < ops.size → i ∈ Region.linearise m ops t := by
  have := lin_go hL ops.size t (Array.replicate ops.size false) [] (by simp) (by simp) (fun i hi => by rw [getD_of_lt _ (by simpa using hi)]; simp) (by simp) List.nodup_nil (fun p i q e => by simp at e)
  obtain ⟨h1, h2, h3, h4⟩ := this
  refine ⟨⟨h1, h3, fun p i q e o ho e' he' hb hmem => ?_⟩, h2⟩
  have hp := h4 p i q e o ho e' he' hb
  have hn : (p ++ i :: q).Nodup := e ▸ h1
  rw [List.nodup_append] at hn
  exact hn.2.2 _ hp _ hmem rfl

/-! ### Orders, by reckoning -/
def predsOk (m : Region.Mode) (seen : List Nat) (o : Oper) : Bool := o.after.toList.all fun e => !Region.binds m e || seen.contains e.on
def orderB (m : Region.Mode) (ops : Array Oper) : List Nat → List Nat → Bool
  | _, [] => true
  | seen, i :: r => (match ops[i]? with | some o => predsOk m seen o | none => false) && orderB m ops (i :: seen) r

theorem orderB_ok {m : Region.Mode} {ops : Array Oper} : ∀ {L seen : List Nat}, orderB m ops seen L = true → (∀ i ∈ L, i < ops.size) ∧ ∀ p i q, L = p ++ i :: q → ∀ o, ops[i]? = some o → ∀ e ∈ o.after.toList, Region.binds m e = true → e.on ∈ seen ∨ e.on ∈ p
  | [], seen, _ => ⟨by simp, fun p i q e => by simp at e⟩
  | x :: L, seen, h => by
    simp only [orderB, Bool.and_eq_true] at h
    obtain ⟨h1, h2⟩ := h
    obtain ⟨h3, h4⟩ := orderB_ok h2
    cases hx : ops[x]? with
    | none => rw [hx] at h1; cases h1
    | some ox =>
      rw [hx] at h1
      refine ⟨fun i hi => ?_, fun p i q e o ho e' he' hb => ?_⟩
      · rcases List.mem_cons.1 hi with rfl | h
        · exact (Array.getElem?_eq_some_iff.1 hx).1
        · exact h3 i h
      · cases p with
        | nil =>
          simp only [List.nil_append, List.cons.injEq] at e
          obtain ⟨rfl, _⟩ := e
          rw [hx] at ho; injection ho with ho; subst ho
          simp only [predsOk, List.all_eq_true, Bool.or_eq_true, Bool.not_eq_true', List.contains_iff_mem] at h1
          rcases h1 e' he' with h5 | h5
          · rw [hb] at h5; cases h5
          · exact .inl h5
        | cons y p =>
          simp only [List.cons_append, List.cons.injEq] at e
          obtain ⟨rfl, e⟩ := e
          rcases h4 p i q e o ho e' he' hb with h5 | h5
          · rcases List.mem_cons.1 h5 with h6 | h6
            · exact .inr (by rw [h6]; exact .head _)
            · exact .inl h6
          · exact .inr (.tail _ h5)

/-- Both modes of a region that may be carried out in two fashions have an order; and the plain one. -/
def drawsB (ops : Array Oper) (Lg : List Nat) : Bool :=
  orderB .any ops [] (List.range ops.size) && orderB .text ops [] (List.range ops.size) && orderB .gc ops [] Lg && (List.range ops.size).all fun i => Lg.contains i

theorem schedule_ok {ops : Array Oper} {Lg : List Nat} (h : drawsB ops Lg = true) (mixed : Bool) (t : Nat) : Sched ops (Region.schedule mixed ops t) ∧ ∀ i, i < ops.size → i ∈ Region.schedule mixed ops t := by
  simp only [drawsB, Bool.and_eq_true, List.all_eq_true, List.mem_range, List.contains_iff_mem] at h
  obtain ⟨⟨⟨h1, h2⟩, h3⟩, h4⟩ := h
  have mk : ∀ {m L}, orderB m ops [] L = true → (∀ i, i < ops.size → i ∈ L) → Order m ops L := fun {m L} hb hc =>
    ⟨hc, (orderB_ok hb).1, fun p i q e o ho e' he' hbd => by rcases (orderB_ok hb).2 p i q e o ho e' he' hbd with h5 | h5; simp at h5; exact h5⟩
  unfold Region.schedule
  split
  · exact linearise_ok (mk h1 fun i hi => List.mem_range.2 hi) t
  · split
    · exact linearise_ok (mk h2 fun i hi => List.mem_range.2 hi) _
    · exact linearise_ok (mk h3 h4) _
end Go.Hw
/-
  Hw, part H: the walk of a region that draws its order.
-/
set_option linter.unusedVariables false
namespace Go.Hw
open Go

def tmpOf : Operand → Option Nat | .tmp t => some t | _ => none
/-- The slots that an operation reads, its guard's among them. -/
def opSlots (ops : Array Oper) (o : Oper) : List Nat :=
  (match guardSlot ops o.guard with | some p => [p.1] | none => []) ++ o.op.operands.toList.filterMap tmpOf
def pickS : List Nat → Sl → Sl
  | [], _ => []
  | s :: r, l => match look s l with | some v => (s, v) :: pickS r l | none => pickS r l
theorem pickS_look : ∀ {ss : List Nat} {l : Sl} {s : Nat} {v : Value}, look s (pickS ss l) = some v → s ∈ ss ∧ look s l = some v
  | [], _, _, _, h => by cases h
  | x :: r, l, s, v, h => by
    simp only [pickS] at h
    split at h
    · rename_i u hu
      by_cases hs : s = x
      · subst hs
        rw [look_cons_same] at h
        exact ⟨.head _, by rw [hu]; exact h⟩
      · rw [look_cons_ne hs] at h
        obtain ⟨h1, h2⟩ := pickS_look h
        exact ⟨.tail _ h1, h2⟩
    · obtain ⟨h1, h2⟩ := pickS_look h
      exact ⟨.tail _ h1, h2⟩

def preds (o : Oper) : List Nat := o.after.toList.filterMap fun e => if Region.binds .any e then some e.on else none
theorem mem_preds {o : Oper} {p : Nat} : p ∈ preds o ↔ ∃ e ∈ o.after.toList, Region.binds .any e = true ∧ e.on = p := by
  unfold preds
  rw [List.mem_filterMap]
  constructor
  · rintro ⟨e, he, h⟩
    split at h
    · rename_i hb; injection h with h; exact ⟨e, he, hb, h⟩
    · cases h
  · rintro ⟨e, he, hb, h⟩
    exact ⟨e, he, by rw [if_pos hb, h]⟩

/-- What is done: the operation's place, its slot, its value; what of the owned it needs where it is promised. -/
structure Dn where
  i : Nat
  d : Option Nat
  v : Value
  nd : List Asn
  pr : Bool

def sl : List Dn → Sl → Sl
  | [], l0 => l0
  | ⟨_, d, v, _, _⟩ :: r, l0 => putS d v (sl r l0)
theorem sl_cons (x : Dn) (r : List Dn) (l0 : Sl) : sl (x :: r) l0 = putS x.d x.v (sl r l0) := rfl

/-- Whatever the memory, as long as what is needed lies there: the operation runs and its value is v; or it does not run. -/
def Prom (C : Ctx) (ops : Array Oper) (l : Sl) (nd : List Asn) (h : Ro) (o : Oper) (v : Value) : Prop :=
  ∀ a w, SlotsOk l a → (∀ A ∈ nd, ∃ D, A.holds D (mem w)) → Le h (mem w) →
    (Region.wanted o (yielded ops a.tmps) = true ∧ isDefer o.op = false ∧ (execOp a.eval o).run C.P w = .ok (.value v) w) ∨ (Region.wanted o (yielded ops a.tmps) = false ∧ v = undef)

theorem Prom.le {C : Ctx} {ops : Array Oper} {l : Sl} {nd : List Asn} {h h' : Ro} {o : Oper} {v : Value} (p : Prom C ops l nd h o v) (hl : Le h h') : Prom C ops l nd h' o v :=
  fun a w hs hn hm => p a w hs hn (hl.trans hm)

def WFV (C : Ctx) (ops : Array Oper) (l0 : Sl) (h : Ro) : List Dn → Prop
  | [] => True
  | x :: r => WFV C ops l0 h r ∧ (∀ y ∈ r, y.i ≠ x.i) ∧ ∃ o, ops[x.i]? = some o ∧ o.dst = x.d ∧ (∀ p ∈ preds o, ∃ y ∈ r, y.i = p) ∧
      (x.pr = true → Prom C ops (pickS (opSlots ops o) (sl r l0)) x.nd h o x.v)

theorem WFV.le {C : Ctx} {ops : Array Oper} {l0 : Sl} {h h' : Ro} (hl : Le h h') : ∀ {Vs : List Dn}, WFV C ops l0 h Vs → WFV C ops l0 h' Vs
  | [], _ => trivial
  | x :: r, ⟨h1, h2, o, h3, h4, h5, h6⟩ => ⟨h1.le hl, h2, o, h3, h4, h5, fun e => (h6 e).le hl⟩

/-- A slot is written once within a region, and whoever else names it is ordered against its writer. -/
def NamesOk (ops : Array Oper) : Prop :=
  ∀ i j oi oj s, ops[i]? = some oi → ops[j]? = some oj → oi.dst = some s → i ≠ j → oj.dst ≠ some s ∧ (s ∈ opSlots ops oj → i ∈ preds oj ∨ j ∈ preds oi)

/-- What is fixed by the region's text. -/
structure RegOk (N : Nat) (ops : Array Oper) : Prop where
  inn : ∀ (i : Nat) (o : Oper), ops[i]? = some o → ∀ p ∈ preds o, p < ops.size
  names : NamesOk ops
  dst : ∀ (i : Nat) (o : Oper), ops[i]? = some o → dstOk N o.dst = true

structure GSt (C : Ctx) (ds : List Deferred) (l0 : Sl) (Vs : List Dn) (Es : List Asn) (h : Ro) (ops : Array Oper) (is : List Nat) (a : Act) (w : World) : Prop where
  reg : RegOk C.N ops
  sched : Sched ops is
  all : ∀ i, i < ops.size → (∃ x ∈ Vs, x.i = i) ∨ i ∈ is
  closed : ∀ (i : Nat) (o : Oper), ops[i]? = some o → i ∉ is → ∀ p ∈ preds o, p ∉ is
  wf : WFV C ops l0 h Vs
  real : ∀ x ∈ Vs, x.pr = false → x.i ∉ is
  nd : ∀ x ∈ Vs, x.i ∈ is → ∀ A ∈ x.nd, A ∈ Es
  size : a.tmps.size = C.N
  defers : a.defers = ds
  hp : Hp C.w0 C.X0 C.h0 Es h w
  slots0 : ∀ s v, look s l0 = some v → (∀ (i : Nat) (o : Oper), ops[i]? = some o → o.dst = some s → i ∈ is) → a.tmps[s]? = some v
  slots1 : ∀ x ∈ Vs, x.i ∉ is → ∀ s, x.d = some s → a.tmps[s]? = some x.v

def GD (C : Ctx) (ds : List Deferred) (l0 : Sl) (Vs : List Dn) (Es : List Asn) (h : Ro) (ops : Array Oper) (K : List Item) : Prop :=
  ∀ is a w, GSt C ds l0 Vs Es h ops is a w → Todo C.P C.ro (.inRegion ops is :: K) C.Q a w

section
variable {C : Ctx} {ds : List Deferred} {l0 : Sl} {Vs : List Dn} {Es : List Asn} {h : Ro} {ops : Array Oper} {K : List Item} {is : List Nat} {a : Act} {w : World}

theorem sl_look {s : Nat} {v : Value} : ∀ {Vs : List Dn}, look s (sl Vs l0) = some v → (∃ x ∈ Vs, x.d = some s ∧ x.v = v) ∨ (look s l0 = some v ∧ ∀ x ∈ Vs, x.d ≠ some s)
  | [], e => .inr ⟨e, fun _ h => by cases h⟩
  | x :: r, e => by
    simp only [sl_cons, putS] at e
    cases hd : x.d with
    | none =>
      rw [hd] at e
      rcases sl_look e with ⟨y, h1, h2⟩ | ⟨h1, h2⟩
      · exact .inl ⟨y, .tail _ h1, h2⟩
      · refine .inr ⟨h1, fun y hy => ?_⟩
        rcases List.mem_cons.1 hy with rfl | hy
        · simp [hd]
        · exact h2 y hy
    | some d =>
      rw [hd] at e
      simp only at e
      by_cases hs : s = d
      · subst hs
        rw [look_cons_same] at e
        injection e with e
        exact .inl ⟨x, .head _, hd, e⟩
      · rw [look_cons_ne hs] at e
        rcases sl_look e with ⟨y, h1, h2⟩ | ⟨h1, h2⟩
        · exact .inl ⟨y, .tail _ h1, h2⟩
        · refine .inr ⟨h1, fun y hy => ?_⟩
          rcases List.mem_cons.1 hy with rfl | hy
          · simp [hd, Ne.symm hs]
          · exact h2 y hy

theorem WFV.get : ∀ {Vs : List Dn}, WFV C ops l0 h Vs → ∀ x ∈ Vs, ∃ r, (∀ y ∈ r, y ∈ Vs) ∧ WFV C ops l0 h r ∧ (∀ y ∈ r, y.i ≠ x.i) ∧ ∃ o, ops[x.i]? = some o ∧ o.dst = x.d ∧ (∀ p ∈ preds o, ∃ y ∈ r, y.i = p) ∧
      (x.pr = true → Prom C ops (pickS (opSlots ops o) (sl r l0)) x.nd h o x.v)
  | z :: r, ⟨h1, h2, h3⟩, x, hx => by
    rcases List.mem_cons.1 hx with rfl | hx
    · exact ⟨r, fun y hy => .tail _ hy, h1, h2, h3⟩
    · obtain ⟨r', q1, q2⟩ := h1.get x hx
      exact ⟨r', fun y hy => .tail _ (q1 y hy), q2⟩

/-- The slots that an operation reads hold, at its turn, what the list says. -/
theorem GSt.reads (g : GSt C ds l0 Vs Es h ops is a w) {r : List Dn} (hr : ∀ y ∈ r, y ∈ Vs) (hwf : WFV C ops l0 h r) {i : Nat} {o : Oper} (ho : ops[i]? = some o) (hi : i ∈ is) (hpr : ∀ p ∈ preds o, ∃ y ∈ r, y.i = p) (hnot : ∀ y ∈ r, y.i ≠ i)
    (hpe : ∀ p ∈ preds o, p ∉ is) : SlotsOk (pickS (opSlots ops o) (sl r l0)) a := by
  intro s v e
  obtain ⟨hs, e⟩ := pickS_look e
  rcases sl_look e with ⟨y, hy, hd, hv⟩ | ⟨e0, hno⟩
  · obtain ⟨r', hr', hwf', hne', oy, hoy, hdy, hpy, _⟩ := hwf.get y hy
    have hyi : y.i ≠ i := hnot y hy
    rw [← hv]
    refine g.slots1 y (hr y hy) ?_ s hd
    rcases (g.reg.names y.i i oy o s hoy ho (hdy.trans hd) hyi).2 hs with h1 | h1
    · exact hpe _ h1
    · -- the writer would wait for the reader: but it was done before it
      obtain ⟨z, hz, hzi⟩ := hpy i h1
      exact absurd hzi (hnot z (hr' z hz))
  · refine g.slots0 s v e0 fun j oj hoj hdj => ?_
    by_cases hji : j = i
    · rw [hji]; exact hi
    · rcases (g.reg.names j i oj o s hoj ho hdj hji).2 hs with h1 | h1
      · obtain ⟨y, hy, hyj⟩ := hpr j h1
        obtain ⟨_, _, _, _, oy, hoy, hdy, _⟩ := hwf.get y hy
        rw [hyj, hoj] at hoy
        injection hoy with hoy
        subst hoy
        exact absurd (hdy.symm.trans hdj) (hno y hy)
      · rcases Classical.em (j ∈ is) with h2 | h2
        · exact h2
        · exact absurd hi (g.closed j oj hoj h2 i h1)

/-- The head of a schedule waits for nothing. -/
theorem GSt.free {i : Nat} (g : GSt C ds l0 Vs Es h ops (i :: is) a w) {o : Oper} (ho : ops[i]? = some o) : ∀ p ∈ preds o, p ∉ i :: is := fun p hp => by
  obtain ⟨e, he, hb, rfl⟩ := mem_preds.1 hp
  exact g.sched.2.2 [] i is rfl o ho e he hb

/-- One operation behind: its slot is written. -/
theorem GSt.put {i : Nat} (g : GSt C ds l0 Vs Es h ops (i :: is) a w) {o : Oper} (ho : ops[i]? = some o) {v : Value} {w' : World} {Es' : List Asn} {h' : Ro} {Vs' : List Dn} (hl : Le h h')
    (hp : Hp C.w0 C.X0 C.h0 Es' h' w') (hsub : ∀ x ∈ Vs', x ∈ Vs ∨ (x.i = i ∧ x.d = o.dst ∧ x.v = v)) (hsup : ∀ x ∈ Vs, x ∈ Vs') (hin : ∃ x ∈ Vs', x.i = i ∧ x.d = o.dst ∧ x.v = v)
    (hwf : WFV C ops l0 h' Vs') (hnd : ∀ x ∈ Vs, x.i ∈ is → ∀ A ∈ x.nd, A ∈ Es') (hold : ∀ x ∈ Vs, x.i = i → x.v = v) :
    GSt C ds l0 Vs' Es' h' ops is (a.put o.dst v) w' := by
  have hnot : i ∉ is := (List.nodup_cons.1 g.sched.1).1
  have hput : ∀ s u, o.dst ≠ some s → a.tmps[s]? = some u → (a.put o.dst v).tmps[s]? = some u := by
    intro s u hne hu
    cases hd : o.dst with
    | none => simpa [Act.put] using hu
    | some d =>
      have : d ≠ s := fun e => hne (by rw [hd, e])
      simp [Act.put, this, hu]
  have hown : ∀ s, o.dst = some s → (a.put o.dst v).tmps[s]? = some v := by
    intro s hs
    have h1 := g.reg.dst i o ho
    rw [hs] at h1 ⊢
    have hlt : s < a.tmps.size := by rw [g.size]; exact of_decide_eq_true (by simpa [dstOk, Nat.blt_eq] using h1)
    simp [Act.put, hlt]
  refine ⟨g.reg, g.sched.tail, fun j hj => ?_, fun j oj hoj hj p hp => ?_, hwf, fun x hx hx0 => ?_, fun x hx hxi => ?_, ?_, ?_, hp, fun s u hs hall => ?_, fun x hx hxi s hs => ?_⟩
  · rcases g.all j hj with ⟨x, hx, hxj⟩ | hj
    · exact .inl ⟨x, hsup x hx, hxj⟩
    · rcases List.mem_cons.1 hj with rfl | hj
      · obtain ⟨x, hx, h1, _⟩ := hin
        exact .inl ⟨x, hx, h1⟩
      · exact .inr hj
  · intro hpi
    by_cases hji : j = i
    · subst hji
      rw [ho] at hoj; injection hoj with hoj; subst hoj
      exact g.free ho p hp (.tail _ hpi)
    · exact g.closed j oj hoj (fun h1 => (List.mem_cons.1 h1).elim hji hj) p hp (.tail _ hpi)
  · rcases hsub x hx with h1 | ⟨h1, _⟩
    · exact fun h2 => g.real x h1 hx0 (.tail _ h2)
    · rw [h1]; exact hnot
  · rcases hsub x hx with h1 | ⟨h1, _⟩
    · exact hnd x h1 hxi
    · rw [h1] at hxi; exact absurd hxi hnot
  · have := g.size; cases hd : o.dst <;> simp [Act.put, this]
  · have := g.defers; cases hd : o.dst <;> simp [Act.put, this]
  · have hne : o.dst ≠ some s := fun e => hnot (hall i o ho e)
    exact hput s u hne (g.slots0 s u hs fun j oj hoj hdj => .tail _ (hall j oj hoj hdj))
  · rcases hsub x hx with h1 | ⟨h1, h2, h3⟩
    · by_cases hxe : x.i = i
      · obtain ⟨_, _, _, _, ox, hox, hdx, _⟩ := g.wf.get x h1
        rw [hxe, ho] at hox; injection hox with hox; subst hox
        rw [hown s (hdx.trans hs), hold x h1 hxe]
      · refine hput s x.v (fun hds => ?_) (g.slots1 x h1 (fun h2 => (List.mem_cons.1 h2).elim hxe hxi) s hs)
        obtain ⟨_, _, _, _, ox, hox, hdx, _⟩ := g.wf.get x h1
        exact (g.reg.names i x.i o ox s ho hox hds (Ne.symm hxe)).1 (hdx.trans hs)
    · rw [h3]; exact hown s (h2.symm.trans hs)

/-- A promised operation at the head of the schedule is carried out. -/
theorem GSt.prom {i : Nat} (g : GSt C ds l0 Vs Es h ops (i :: is) a w) {x : Dn} (hx : x ∈ Vs) (hxi : x.i = i)
    (k : ∀ a', GSt C ds l0 Vs Es h ops is a' w → Todo C.P C.ro (.inRegion ops is :: K) C.Q a' w) : Todo C.P C.ro (.inRegion ops (i :: is) :: K) C.Q a w := by
  obtain ⟨r, hr, hwf, hne, o, ho, hd, hpr, hP⟩ := g.wf.get x hx
  have hpt : x.pr = true := by
    cases hp : x.pr with
    | true => rfl
    | false => exact absurd (by rw [hxi]; exact .head _) (g.real x hx hp)
  subst hxi
  have hs := g.reads hr hwf ho (.head _) hpr hne (g.free ho)
  have hnd : ∀ A ∈ x.nd, ∃ D, A.holds D (mem w) := fun A hA => g.hp.get (g.nd x hx (.head _) A hA)
  have hold : ∀ y ∈ Vs, y.i = x.i → y.v = x.v := by
    have key : ∀ {Vs : List Dn}, WFV C ops l0 h Vs → ∀ x ∈ Vs, ∀ y ∈ Vs, y.i = x.i → y.v = x.v := by
      intro Vs
      induction Vs with
      | nil => intro _ x hx; cases hx
      | cons z r ih =>
        intro ⟨h1, h2, _⟩ x hx y hy e
        rcases List.mem_cons.1 hx with hxz | hx'
        · subst hxz
          rcases List.mem_cons.1 hy with hyz | hy'
          · rw [hyz]
          · exact absurd e (h2 y hy')
        · rcases List.mem_cons.1 hy with hyz | hy'
          · subst hyz; exact absurd e.symm (h2 x hx')
          · exact ih h1 x hx' y hy' e
    exact fun y hy e => key g.wf x hx y hy e
  have nxt := fun v (hv : x.v = v) => g.put ho (v := v) (Vs' := Vs) (Le.refl h) g.hp (fun y hy => .inl hy) (fun y hy => hy) ⟨x, hx, rfl, hd.symm, hv⟩ g.wf (fun y hy hyi => g.nd y hy (.tail _ hyi)) (fun y hy e => (hold y hy e).trans hv)
  rcases hP hpt a w hs hnd g.hp.ro with ⟨hw, hdf, hrun⟩ | ⟨hw, hv⟩
  · exact todo_value ho hw (fun c e => by rw [e] at hdf; cases hdf) hrun (k _ (nxt _ rfl))
  · exact todo_unwanted ho hw (k _ (nxt _ hv))

/-! ### The rules -/
def inVs (Vs : List Dn) (p : Nat) : Bool := Vs.any fun x => Nat.beq x.i p
theorem inVs_ok {p : Nat} (e : inVs Vs p = true) : ∃ y ∈ Vs, y.i = p := by
  simp only [inVs, List.any_eq_true] at e
  obtain ⟨y, hy, e⟩ := e
  exact ⟨y, hy, Nat.eq_of_beq_eq_true e⟩
theorem inVs_no {p : Nat} (e : inVs Vs p = false) : ∀ y ∈ Vs, y.i ≠ p := by
  intro y hy e'
  have : inVs Vs p = true := by simp only [inVs, List.any_eq_true]; exact ⟨y, hy, by rw [e']; exact Nat.beq_refl p⟩
  rw [this] at e; cases e

/-- Everything that operation i waits for is done, and it is not. -/
def canB (Vs : List Dn) (i : Nat) (o : Oper) : Bool := (preds o).all (inVs Vs) && !inVs Vs i

theorem GD_prom {i : Nat} {o : Oper} {v : Value} {nd : List Asn} (ho : ops[i]? = some o) (hc : canB Vs i o = true) (hnd : ∀ A ∈ nd, A ∈ Es) (hP : Prom C ops (pickS (opSlots ops o) (sl Vs l0)) nd h o v)
    (g : GD C ds l0 (⟨i, o.dst, v, nd, true⟩ :: Vs) Es h ops K) : GD C ds l0 Vs Es h ops K := by
  simp only [canB, Bool.and_eq_true, List.all_eq_true, Bool.not_eq_true'] at hc
  intro is a w s
  have hin : i ∈ is := by
    rcases s.all i (Array.getElem?_eq_some_iff.1 ho).1 with ⟨x, hx, e⟩ | h1
    · exact absurd e (inVs_no hc.2 x hx)
    · exact h1
  refine g is a w ⟨s.reg, s.sched, fun j hj => (s.all j hj).imp (fun ⟨x, hx, e⟩ => ⟨x, .tail _ hx, e⟩) id, s.closed, ⟨s.wf, inVs_no hc.2, o, ho, rfl, fun p hp => inVs_ok (hc.1 p hp), fun _ => hP⟩, fun x hx e => ?_, fun x hx hxi => ?_, s.size, s.defers, s.hp, s.slots0, fun x hx hxi => ?_⟩
  · rcases List.mem_cons.1 hx with rfl | hx
    · cases e
    · exact s.real x hx e
  · rcases List.mem_cons.1 hx with rfl | hx
    · exact hnd
    · exact s.nd x hx hxi
  · rcases List.mem_cons.1 hx with rfl | hx
    · exact absurd hin hxi
    · exact s.slots1 x hx hxi

/-- What operation i waits for, near and far. -/
def ancG (ops : Array Oper) : Nat → List Nat → List Nat
  | 0, acc => acc
  | j + 1, acc => ancG ops j (bif acc.contains j then (match ops[j]? with | some o => preds o ++ acc | none => acc) else acc)
def anc (ops : Array Oper) (i : Nat) : List Nat := ancG ops (i + 1) [i]

theorem ancG_ok (P : Nat → Prop) (hP : ∀ (j : Nat) (o : Oper), ops[j]? = some o → P j → ∀ p ∈ preds o, P p) : ∀ (n : Nat) (acc : List Nat), (∀ p ∈ acc, P p) → ∀ p ∈ ancG ops n acc, P p
  | 0, _, h => h
  | j + 1, acc, h => by
    unfold ancG
    refine ancG_ok P hP j _ ?_
    cases hc : acc.contains j with
    | false => exact h
    | true =>
      simp only [cond_true]
      cases ho : ops[j]? with
      | none => exact h
      | some o =>
        intro p hp
        rcases List.mem_append.1 hp with h1 | h1
        · exact hP j o ho (h j (by simpa using hc)) p h1
        · exact h p h1

def AllIn (Es : List Asn) : List Asn → Prop
  | [] => True
  | A :: r => A ∈ Es ∧ AllIn Es r
theorem AllIn.ok {Es : List Asn} : ∀ {r : List Asn}, AllIn Es r → ∀ A ∈ r, A ∈ Es
  | _ :: _, ⟨h1, h2⟩, A, hA => (List.mem_cons.1 hA).elim (fun e => e ▸ h1) (fun h => h2.ok A h)
/-- What the promised ones need is there still. -/
def NdOk (ps : List Nat) (Es : List Asn) : List Dn → Prop
  | [] => True
  | x :: r => (bif x.pr then (bif ps.contains x.i then True else AllIn Es x.nd) else True) ∧ NdOk ps Es r
theorem NdOk.ok {ps : List Nat} {Es : List Asn} : ∀ {Vs : List Dn}, NdOk ps Es Vs → ∀ x ∈ Vs, x.pr = true → x.i ∉ ps → ∀ A ∈ x.nd, A ∈ Es
  | x :: r, ⟨h1, h2⟩, y, hy, hp, hn => by
    rcases List.mem_cons.1 hy with rfl | hy
    · have : ps.contains y.i = false := by
        cases hc : ps.contains y.i with
        | false => rfl
        | true => exact absurd (by simpa using hc) hn
      rw [hp, this] at h1
      exact h1.ok
    · exact h2.ok y hy hp hn

/-- An operation met as it comes. -/
def Real (C : Ctx) (ds : List Deferred) (l0 : Sl) (Vs : List Dn) (Es : List Asn) (h : Ro) (ops : Array Oper) (K : List Item) (i : Nat) : Prop :=
  ∃ o, ops[i]? = some o ∧ wantedB ops (pickS (opSlots ops o) (sl Vs l0)) o.guard = some true ∧ isDefer o.op = false ∧
    OpTo C (pickS (opSlots ops o) (sl Vs l0)) Es h o fun v Es' h' => Le h h' ∧ NdOk (anc ops i) Es' Vs ∧ GD C ds l0 (⟨i, o.dst, v, [], false⟩ :: Vs) Es' h' ops K

/-- Whatever is not done and none of 'cs' still waits for something. -/
def onlyB (Vs : List Dn) (cs : List Nat) (ops : Array Oper) : Bool :=
  (List.range ops.size).all fun j => inVs Vs j || cs.contains j || (match ops[j]? with | some o => !(preds o).all (inVs Vs) | none => true)

theorem GD_reals {cs : List Nat} (hb : onlyB Vs cs ops = true) (hne : ∃ i ∈ cs, i < ops.size ∧ inVs Vs i = false) (hr : ∀ i ∈ cs, Real C ds l0 Vs Es h ops K i) : GD C ds l0 Vs Es h ops K := by
  intro is
  induction is with
  | nil =>
    intro a w s
    obtain ⟨i, _, hi, hn⟩ := hne
    rcases s.all i hi with ⟨x, hx, e⟩ | h1
    · exact absurd e (inVs_no hn x hx)
    · cases h1
  | cons i is ih =>
    intro a w s
    rcases Classical.em (∃ x ∈ Vs, x.i = i) with ⟨x, hx, e⟩ | hno
    · exact s.prom hx e fun a' s' => ih a' w s'
    · have hilt := s.sched.2.1 i (.head _)
      have ho : ops[i]? = some ops[i] := Array.getElem?_eq_getElem hilt
      have hpe := s.free ho
      have hpin : ∀ p ∈ preds ops[i], ∃ y ∈ Vs, y.i = p := fun p hp => by
        rcases s.all p (s.reg.inn i _ ho p hp) with h1 | h1
        · exact h1
        · exact absurd h1 (hpe p hp)
      have hic : i ∈ cs := by
        simp only [onlyB, List.all_eq_true, List.mem_range, Bool.or_eq_true] at hb
        rcases hb i hilt with (h1 | h1) | h1
        · exact absurd (inVs_ok h1) hno
        · simpa using h1
        · rw [ho] at h1
          simp only [Bool.not_eq_true'] at h1
          have : (preds ops[i]).all (inVs Vs) = true := by
            rw [List.all_eq_true]
            intro p hp
            obtain ⟨y, hy, e⟩ := hpin p hp
            simp only [inVs, List.any_eq_true]
            exact ⟨y, hy, by rw [e]; exact Nat.beq_refl p⟩
          rw [this] at h1; cases h1
      obtain ⟨o, ho', hg, hx, hO⟩ := hr i hic
      rw [ho] at ho'; injection ho' with ho'
      rw [ho'] at ho hpe hpin
      clear ho'
      have hnot : ∀ y ∈ Vs, y.i ≠ i := fun y hy e => hno ⟨y, hy, e⟩
      have hs := s.reads (fun y hy => hy) s.wf ho (.head _) hpin hnot hpe
      have hw := wantedB_ok hs hg
      have hnd : ∀ c, o.op ≠ .defer c := fun c e => by rw [e] at hx; cases hx
      have hanc : ∀ p ∈ anc ops i, p ∉ is := by
        refine ancG_ok (fun p => p ∉ is) (fun j oj hoj hj p hp hpi => ?_) _ _ (fun p hp => ?_)
        · by_cases hji : j = i
          · subst hji
            rw [ho] at hoj; injection hoj with hoj; subst hoj
            exact hpe p hp (.tail _ hpi)
          · exact s.closed j oj hoj (fun h1 => (List.mem_cons.1 h1).elim hji hj) p hp (.tail _ hpi)
        · rw [List.mem_singleton] at hp; rw [hp]; exact (List.nodup_cons.1 s.sched.1).1
      have fin : ∀ v w' Es' h', Hp C.w0 C.X0 C.h0 Es' h' w' → (Le h h' ∧ NdOk (anc ops i) Es' Vs ∧ GD C ds l0 (⟨i, o.dst, v, [], false⟩ :: Vs) Es' h' ops K) →
          Todo C.P C.ro (.inRegion ops is :: K) C.Q (a.put o.dst v) w' := by
        rintro v w' Es' h' hp ⟨hl, hN, hG⟩
        refine hG is _ _ (s.put ho (Vs' := ⟨i, o.dst, v, [], false⟩ :: Vs) hl hp (fun x hx => ?_) (fun x hx => .tail _ hx) ⟨_, .head _, rfl, rfl, rfl⟩ ⟨s.wf.le hl, hnot, o, ho, rfl, hpin, fun e => by cases e⟩ (fun x hx hxi => ?_) (fun x hx e => absurd e (hnot x hx)))
        · rcases List.mem_cons.1 hx with rfl | hx
          · exact .inr ⟨rfl, rfl, rfl⟩
          · exact .inl hx
        · cases hp : x.pr with
          | true => exact hN.ok x hx hp fun h1 => hanc _ h1 hxi
          | false => exact absurd (.tail _ hxi) (s.real x hx hp)
      rcases hO a w hs s.hp with ⟨v, w', Es', h', hr, hp, hG⟩ | ⟨w', Es', h', hr, hp, hG⟩ | ⟨f, args, w1, hr, hc⟩ | ⟨r, f, tmps, assign, body, w1, n, hr, hc⟩
      · exact todo_value ho hw hnd hr (fin _ _ _ _ hp hG)
      · exact todo_unit ho hw hnd hr (fin _ _ _ _ hp hG)
      · exact todo_enter ho hw hnd hr hc fun v w2 ⟨Es', h', hp, hG⟩ => fin _ _ _ _ hp hG
      · exact todo_round ho hw hnd hr hc fun v w2 ⟨Es', h', hp, hG⟩ => fin _ _ _ _ hp hG

/-- One operation can come next, and no other. -/
theorem GD_real {o : Oper} (i : Nat) (hb : (onlyB Vs [i] ops && Nat.blt i ops.size && !inVs Vs i) = true) (ho : ops[i]? = some o) (hg : wantedB ops (pickS (opSlots ops o) (sl Vs l0)) o.guard = some true) (hx : isDefer o.op = false)
    (hO : OpTo C (pickS (opSlots ops o) (sl Vs l0)) Es h o fun v Es' h' => Le h h' ∧ NdOk (anc ops i) Es' Vs ∧ GD C ds l0 (⟨i, o.dst, v, [], false⟩ :: Vs) Es' h' ops K) : GD C ds l0 Vs Es h ops K := by
  simp only [Bool.and_eq_true, Bool.not_eq_true', Nat.blt_eq] at hb
  refine GD_reals (cs := [i]) hb.1.1 ⟨i, .head _, hb.1.2, hb.2⟩ fun j hj => ?_
  rw [List.mem_singleton] at hj; subst hj
  exact ⟨o, ho, hg, hx, hO⟩
/-- One of two. -/
theorem GD_real2 (i j : Nat) (hb : (onlyB Vs [i, j] ops && Nat.blt i ops.size && !inVs Vs i) = true) (hi : Real C ds l0 Vs Es h ops K i) (hj : Real C ds l0 Vs Es h ops K j) : GD C ds l0 Vs Es h ops K := by
  simp only [Bool.and_eq_true, Bool.not_eq_true', Nat.blt_eq] at hb
  refine GD_reals (cs := [i, j]) hb.1.1 ⟨i, .head _, hb.1.2, hb.2⟩ fun q hq => ?_
  rcases List.mem_cons.1 hq with rfl | hq
  · exact hi
  · rw [List.mem_singleton] at hq; subst hq; exact hj

/-- All is done or promised. -/
theorem GD_done (hb : ((List.range ops.size).all (inVs Vs)) = true) (g : GO C ds (sl Vs l0) Es h K) : GD C ds l0 Vs Es h ops K := by
  intro is
  induction is with
  | nil =>
    intro a w s
    refine todo_region_end (g a w ⟨s.size, s.defers, fun t v e => ?_, s.hp⟩)
    rcases sl_look e with ⟨y, hy, hd, hv⟩ | ⟨e0, hno⟩
    · rw [← hv]; exact s.slots1 y hy (by simp) t hd
    · refine s.slots0 t v e0 fun j oj hoj hdj => ?_
      simp only [List.all_eq_true, List.mem_range] at hb
      obtain ⟨y, hy, hyj⟩ := inVs_ok (hb j (Array.getElem?_eq_some_iff.1 hoj).1)
      obtain ⟨_, _, _, _, oy, hoy, hdy, _⟩ := s.wf.get y hy
      rw [hyj, hoj] at hoy; injection hoy with hoy; subst hoy
      exact absurd (hdy.symm.trans hdj) (hno y hy)
  | cons i is ih =>
    intro a w s
    simp only [List.all_eq_true, List.mem_range] at hb
    obtain ⟨x, hx, e⟩ := inVs_ok (hb i (s.sched.2.1 i (.head _)))
    exact s.prom hx e fun a' s' => ih a' w s'

/-! ### The way in -/
def eqSome : Option Nat → Nat → Bool | some d, s => Nat.beq d s | none, _ => false
def memB (x : Nat) : List Nat → Bool | [] => false | y :: r => Nat.beq x y || memB x r
theorem memB_ok {x : Nat} : ∀ {l : List Nat}, memB x l = true ↔ x ∈ l
  | [] => by simp [memB]
  | y :: r => by
    rw [memB, Bool.or_eq_true, memB_ok, List.mem_cons]
    exact or_congr ⟨Nat.eq_of_beq_eq_true, fun e => by rw [e]; exact Nat.beq_refl y⟩ Iff.rfl

/-- The region's names, as a list: each operation's slot, what it reads, what it waits for. -/
def namesL (ops : Array Oper) : List (Option Nat × List Nat × List Nat) := ops.toList.map fun o => (o.dst, opSlots ops o, preds o)
def namesRow (i : Nat) (di : Option Nat) (ri pi : List Nat) : Nat → List (Option Nat × List Nat × List Nat) → Bool
  | _, [] => true
  | j, (dj, rj, pj) :: r => (Nat.beq i j || (match di with
      | some s => (!eqSome dj s) && (!memB s rj || memB i pj || memB j pi)
      | none => true)) && namesRow i di ri pi (j + 1) r
def namesAll (L : List (Option Nat × List Nat × List Nat)) : Nat → List (Option Nat × List Nat × List Nat) → Bool
  | _, [] => true
  | i, (di, ri, pi) :: r => namesRow i di ri pi 0 L && namesAll L (i + 1) r

theorem namesRow_ok {i : Nat} {di : Option Nat} {ri pi : List Nat} : ∀ {L : List (Option Nat × List Nat × List Nat)} {k j : Nat} {dj : Option Nat} {rj pj : List Nat}, namesRow i di ri pi k L = true → L[j]? = some (dj, rj, pj) → i ≠ k + j → ∀ s, di = some s → dj ≠ some s ∧ (s ∈ rj → i ∈ pj ∨ k + j ∈ pi)
  | (d0, r0, p0) :: r, k, 0, dj, rj, pj, h, e, hne, s, hs => by
    simp only [List.getElem?_cons_zero, Option.some.injEq, Prod.mk.injEq] at e
    obtain ⟨rfl, rfl, rfl⟩ := e
    simp only [namesRow, hs, Bool.and_eq_true, Bool.or_eq_true, Bool.not_eq_true'] at h
    rcases h.1 with h1 | ⟨h1, h2⟩
    · exact absurd (Nat.eq_of_beq_eq_true h1) (by simpa using hne)
    · refine ⟨fun e => ?_, fun hm => ?_⟩
      · rw [e] at h1; simp [eqSome, Nat.beq_refl] at h1
      · rcases h2 with (h2 | h2) | h2
        · rw [memB_ok.2 hm] at h2; cases h2
        · exact .inl (memB_ok.1 h2)
        · exact .inr (by simpa using memB_ok.1 h2)
  | (d0, r0, p0) :: r, k, j + 1, dj, rj, pj, h, e, hne, s, hs => by
    simp only [namesRow, Bool.and_eq_true] at h
    have := namesRow_ok (k := k + 1) (j := j) h.2 (by simpa using e) (by omega) s hs
    rwa [show k + 1 + j = k + (j + 1) by omega] at this
theorem namesAll_ok {L : List (Option Nat × List Nat × List Nat)} : ∀ {M : List (Option Nat × List Nat × List Nat)} {k i : Nat} {di : Option Nat} {ri pi : List Nat}, namesAll L k M = true → M[i]? = some (di, ri, pi) → namesRow (k + i) di ri pi 0 L = true
  | (d0, r0, p0) :: r, k, 0, di, ri, pi, h, e => by
    simp only [List.getElem?_cons_zero, Option.some.injEq, Prod.mk.injEq] at e
    obtain ⟨rfl, rfl, rfl⟩ := e
    simp only [namesAll, Bool.and_eq_true] at h
    exact h.1
  | (d0, r0, p0) :: r, k, i + 1, di, ri, pi, h, e => by
    simp only [namesAll, Bool.and_eq_true] at h
    have := namesAll_ok (k := k + 1) (i := i) h.2 (by simpa using e)
    rwa [show k + 1 + i = k + (i + 1) by omega] at this

def dstsB (N : Nat) (ops : Array Oper) : Bool := ops.toList.all fun o => dstOk N o.dst
/-- Everything that is asked of a region's text. -/
def regB (N : Nat) (ops : Array Oper) (Lg : List Nat) : Bool := drawsB ops Lg && namesAll (namesL ops) 0 (namesL ops) && dstsB N ops

theorem regB_ok {N : Nat} {Lg : List Nat} (hb : regB N ops Lg = true) : RegOk N ops := by
  simp only [regB, Bool.and_eq_true] at hb
  obtain ⟨⟨h1, h2⟩, h3⟩ := hb
  refine ⟨fun i o ho p hp => ?_, fun i j oi oj s hoi hoj hd hne => ?_, fun i o ho => ?_⟩
  · simp only [drawsB, Bool.and_eq_true] at h1
    have hi : i < ops.size := (Array.getElem?_eq_some_iff.1 ho).1
    obtain ⟨e, he, hb, rfl⟩ := mem_preds.1 hp
    have hin : i ∈ List.range ops.size := List.mem_range.2 hi
    obtain ⟨p, q, hpq⟩ := List.append_of_mem hin
    rcases (orderB_ok h1.1.1.1).2 p i q hpq o ho e he hb with h5 | h5
    · simp at h5
    · exact List.mem_range.1 (by rw [hpq]; exact List.mem_append.2 (.inl h5))
  · have hL : ∀ (k : Nat) (o : Oper), ops[k]? = some o → (namesL ops)[k]? = some (o.dst, opSlots ops o, preds o) := fun k o hk => by
      show (ops.toList.map fun o => (o.dst, opSlots ops o, preds o))[k]? = _
      rw [List.getElem?_map, Array.getElem?_toList, hk]; rfl
    have h4 := namesAll_ok h2 (hL i oi hoi)
    simp only [Nat.zero_add] at h4
    have := namesRow_ok (k := 0) (j := j) h4 (hL j oj hoj) (by simpa using hne) s hd
    simpa using this
  · simp only [dstsB, List.all_eq_true] at h3
    exact h3 o (Array.mem_toList_iff.2 (Array.mem_of_getElem? ho))

theorem GO_draw {n : Nat} {os : List Oper} (Lg : List Nat) (hb : regB C.N os.toArray Lg = true) (g : GD C ds l0 [] Es h os.toArray K) : GO C ds l0 Es h (.code (.region n os.toArray true) :: K) := by
  intro a w s
  refine todo_draw fun t => ?_
  have hreg := regB_ok hb
  simp only [regB, Bool.and_eq_true] at hb
  obtain ⟨hS, hall⟩ := schedule_ok hb.1.1 (C.P.follows .mixedOrders) t
  exact g _ a _ ⟨hreg, hS, fun i hi => .inr (hall i hi), fun i o ho hi p hp => absurd (hall i (Array.getElem?_eq_some_iff.1 ho).1) hi, trivial, fun x hx => (by cases hx), fun x hx => (by cases hx), s.size, s.defers, s.hp.drew,
    fun t v e _ => s.slots t v e, fun x hx => (by cases hx)⟩
end
end Go.Hw
/-
  Hw, part I: the rules of a drawn region, in the form that a driver uses.
-/
set_option linter.unusedVariables false
namespace Go.Hw
open Go

def lnth {α : Type} : Nat → List α → Option α
  | _, [] => none
  | 0, x :: _ => some x
  | n + 1, _ :: r => lnth n r
theorem lnth_eq {α : Type} : ∀ {n : Nat} {l : List α} {x : α}, lnth n l = some x → l[n]? = some x
  | 0, _ :: _, _, h => by simpa [lnth] using h
  | n + 1, _ :: r, _, h => by simpa using lnth_eq (n := n) (l := r) (by simpa [lnth] using h)

def pickF : List Nat → Sl → Option Sl
  | [], _ => some []
  | s :: r, l => match pickF r l with
    | some t => match look s l with
      | some v => some ((s, v) :: t)
      | none => some t
    | none => none
theorem pickF_eq : ∀ {ss : List Nat} {l l' : Sl}, pickF ss l = some l' → pickS ss l = l'
  | [], _, _, h => by injection h
  | s :: r, l, l', h => by
    simp only [pickF] at h
    cases hr : pickF r l with
    | none => rw [hr] at h; cases h
    | some t =>
      rw [hr] at h
      have ih := pickF_eq hr
      simp only [pickS]
      cases hv : look s l with
      | none => rw [hv] at h; simp only [Option.some.injEq] at h; rw [ih, ← h]
      | some v => rw [hv] at h; simp only [Option.some.injEq] at h; rw [← h, ih]

def slF : List Dn → Sl → Option Sl
  | [], l0 => some l0
  | ⟨_, d, v, _, _⟩ :: r, l0 => match slF r l0 with
    | some t => match d with
      | some d => some ((d, v) :: t)
      | none => some t
    | none => none
theorem slF_eq : ∀ {Vs : List Dn} {l0 l : Sl}, slF Vs l0 = some l → sl Vs l0 = l
  | [], _, _, h => by injection h
  | ⟨_, d, v, _, _⟩ :: r, l0, l, h => by
    simp only [slF] at h
    cases hr : slF r l0 with
    | none => rw [hr] at h; cases h
    | some t =>
      rw [hr] at h
      have ih := slF_eq hr
      cases d with
      | none => simp only [Option.some.injEq] at h; rw [← h, ← ih]; rfl
      | some d => simp only [Option.some.injEq] at h; rw [← h, ← ih]; rfl

/-- 'GD' with a plan for the driver: (i, 0) promises operation i, (i, 1) meets it, (i, 2), (m, j) meets i or j, with the next m items for i and the rest for j. -/
def GDp (_ : List (Nat × Nat)) (C : Ctx) (ds : List Deferred) (l0 : Sl) (Vs : List Dn) (Es : List Asn) (h : Ro) (ops : Array Oper) (K : List Item) : Prop := GD C ds l0 Vs Es h ops K

def noNd : List Dn → Bool
  | [] => true
  | ⟨_, _, _, [], _⟩ :: r => noNd r
  | _ :: _ => false
theorem NdOk_no {ps : List Nat} {Es : List Asn} : ∀ {Vs : List Dn}, noNd Vs = true → NdOk ps Es Vs
  | [], _ => trivial
  | ⟨i, d, v, [], p⟩ :: r, h => ⟨by cases p <;> simp [AllIn] , NdOk_no (Vs := r) h⟩
/-- What pending promises need. -/
def needF (ps : List Nat) : List Dn → List Asn
  | [] => []
  | ⟨i, _, _, nd, p⟩ :: r => bif p && !ps.contains i then nd ++ needF ps r else needF ps r
theorem AllIn_append {Es : List Asn} : ∀ {a b : List Asn}, AllIn Es (a ++ b) → AllIn Es a ∧ AllIn Es b
  | [], _, h => ⟨trivial, h⟩
  | _ :: r, b, ⟨h1, h2⟩ => ⟨⟨h1, (AllIn_append h2).1⟩, (AllIn_append h2).2⟩
theorem NdOk_need {ps : List Nat} {Es : List Asn} : ∀ {Vs : List Dn}, AllIn Es (needF ps Vs) → NdOk ps Es Vs
  | [], _ => trivial
  | ⟨i, d, v, nd, p⟩ :: r, h => by
    unfold needF at h
    cases p with
    | false => exact ⟨trivial, NdOk_need h⟩
    | true =>
      cases hc : ps.contains i with
      | true => rw [hc] at h; exact ⟨by show (bif ps.contains i then True else AllIn Es nd); rw [hc]; trivial, NdOk_need h⟩
      | false =>
        rw [hc] at h
        simp only [Bool.not_false, Bool.and_self, cond_true] at h
        exact ⟨by simp only [hc, cond_false, cond_true]; exact (AllIn_append h).1, NdOk_need (AllIn_append h).2⟩

/-- What all promises need. -/
def allNd : List Dn → List Asn
  | [] => []
  | ⟨_, _, _, nd, _⟩ :: r => nd ++ allNd r
theorem NdOk_all {ps : List Nat} {Es : List Asn} : ∀ {Vs : List Dn}, AllIn Es (allNd Vs) → NdOk ps Es Vs
  | [], _ => trivial
  | ⟨i, d, v, nd, p⟩ :: r, h => by
    unfold allNd at h
    have h1 := (AllIn_append h).1
    refine ⟨?_, NdOk_all (AllIn_append h).2⟩
    cases p with
    | false => trivial
    | true => cases hc : ps.contains i <;> simp [hc, h1]

section
variable {C : Ctx} {ds : List Deferred} {l0 l' : Sl} {Vs : List Dn} {Es : List Asn} {h : Ro} {os : List Oper} {K : List Item} {pl : List (Nat × Nat)}
  {d : Tmp} {ty : TypeId} {pos : String} {aft : Array Edge} {gd : Option (Nat × Bool)} {i : Nat}

theorem GO_drawp {n : Nat} (Lg : List Nat) (pl : List (Nat × Nat)) (hb : regB C.N os.toArray Lg = true) (g : GDp pl C ds l0 [] Es h os.toArray K) : GO C ds l0 Es h (.code (.region n os.toArray true) :: K) := GO_draw Lg hb g

theorem GP_done {l : Sl} (hb : ((List.range os.toArray.size).all (inVs Vs)) = true) (hl : slF Vs l0 = some l) (g : GO C ds l Es h K) : GDp [] C ds l0 Vs Es h os.toArray K := GD_done hb (slF_eq hl ▸ g)

theorem os_get {o : Oper} (ho : lnth i os = some o) : os.toArray[i]? = some o := by simpa using lnth_eq ho

theorem GP_un {op : Op} (ho : lnth i os = some ⟨some d, op, ty, pos, aft, gd⟩) (hc : canB Vs i ⟨some d, op, ty, pos, aft, gd⟩ = true) (hl : pickF (opSlots os.toArray ⟨some d, op, ty, pos, aft, gd⟩) (sl Vs l0) = some l')
    (hg : wantedB os.toArray l' gd = some false) (g : GDp pl C ds l0 (⟨i, some d, undef, [], true⟩ :: Vs) Es h os.toArray K) : GDp ((i, 0) :: pl) C ds l0 Vs Es h os.toArray K :=
  GD_prom (nd := []) (os_get ho) hc (by simp) (fun a w hs _ _ => .inr ⟨wantedB_ok (pickF_eq hl ▸ hs) hg, rfl⟩) g

/-- Carried out, with this value, whatever the memory is beyond what is named. -/
def OV (C : Ctx) (l : Sl) (nd : List Asn) (h : Ro) (o : Oper) (v : Value) : Prop :=
  isDefer o.op = false ∧ ∀ a w, SlotsOk l a → (∀ A ∈ nd, ∃ D, A.holds D (mem w)) → Le h (mem w) → (execOp a.eval o).run C.P w = .ok (.value v) w

theorem GP_ov {op : Op} {nd : List Asn} {v : Value} (ho : lnth i os = some ⟨some d, op, ty, pos, aft, gd⟩) (hc : canB Vs i ⟨some d, op, ty, pos, aft, gd⟩ = true) (hl : pickF (opSlots os.toArray ⟨some d, op, ty, pos, aft, gd⟩) (sl Vs l0) = some l')
    (hg : wantedB os.toArray l' gd = some true) (hv : OV C l' nd h ⟨some d, op, ty, pos, aft, gd⟩ v) (hnd : AllIn Es nd) (g : GDp pl C ds l0 (⟨i, some d, v, nd, true⟩ :: Vs) Es h os.toArray K) : GDp ((i, 0) :: pl) C ds l0 Vs Es h os.toArray K :=
  GD_prom (os_get ho) hc hnd.ok (fun a w hs hn hm => .inl ⟨wantedB_ok (pickF_eq hl ▸ hs) hg, hv.1, hv.2 a w (pickF_eq hl ▸ hs) hn hm⟩) g

theorem GP_pv {op : Op} {v : Value} (ho : lnth i os = some ⟨some d, op, ty, pos, aft, gd⟩) (hc : canB Vs i ⟨some d, op, ty, pos, aft, gd⟩ = true) (hl : pickF (opSlots os.toArray ⟨some d, op, ty, pos, aft, gd⟩) (sl Vs l0) = some l')
    (hg : wantedB os.toArray l' gd = some true) (hv : pv C.ts l' op = some v) (g : GDp pl C ds l0 (⟨i, some d, v, [], true⟩ :: Vs) Es h os.toArray K) : GDp ((i, 0) :: pl) C ds l0 Vs Es h os.toArray K :=
  GP_ov (nd := []) ho hc hl hg ⟨pv_defer hv, fun a w hs _ _ => pv_ok C.ok hs hv w⟩ trivial g

/-- A guard that is not decided: both ways. -/
def setV (s : Nat) (u : Value) : List Dn → Option (List Dn)
  | [] => none
  | ⟨i, d, v, nd, p⟩ :: r => bif eqSome d s then some (⟨i, d, u, nd, p⟩ :: r) else match setV s u r with
    | some t => some (⟨i, d, v, nd, p⟩ :: t)
    | none => none
theorem setV_eq {s : Nat} {u : Value} : ∀ {Vs Vs' : List Dn}, setV s u Vs = some Vs' → look s (sl Vs l0) = some u → Vs' = Vs
  | ⟨i, d, v, nd, p⟩ :: r, Vs', e, hv => by
    unfold setV at e
    rw [sl_cons] at hv
    cases hd : eqSome d s with
    | true =>
      rw [hd] at e
      simp only [cond_true, Option.some.injEq] at e
      cases d with
      | none => cases hd
      | some d =>
        have : d = s := Nat.eq_of_beq_eq_true hd
        subst this
        simp only [putS, look_cons_same, Option.some.injEq] at hv
        rw [← e, hv]
    | false =>
      rw [hd] at e
      simp only [cond_false] at e
      have hv' : look s (sl r l0) = some u := by
        cases d with
        | none => exact hv
        | some d =>
          have : s ≠ d := fun e' => by subst e'; simp [eqSome, Nat.beq_refl] at hd
          simpa only [putS, look_cons_ne this] using hv
      cases hr : setV s u r with
      | none => rw [hr] at e; cases e
      | some t => rw [hr] at e; simp only [Option.some.injEq] at e; rw [← e, setV_eq hr hv']

theorem GP_split {o : Oper} {s : Nat} {b c : Bool} {Vt Vf : List Dn} (ho : lnth i os = some o) (hg : guardSlot os.toArray o.guard = some (s, b)) (hc : look s (sl Vs l0) = some (.bool c))
    (h1 : setV s (.bool true) Vs = some Vt) (h2 : setV s (.bool false) Vs = some Vf)
    (ht : c = true → GDp ((i, 0) :: pl) C ds l0 Vt Es h os.toArray K) (hf : c = false → GDp ((i, 0) :: pl) C ds l0 Vf Es h os.toArray K) : GDp ((i, 0) :: pl) C ds l0 Vs Es h os.toArray K := by
  cases c with
  | true => exact setV_eq h1 hc ▸ ht rfl
  | false => exact setV_eq h2 hc ▸ hf rfl
theorem GP_splitD {o : Oper} {s : Nat} {b : Bool} {p : Prop} {inst : Decidable p} {Vt Vf : List Dn} (ho : lnth i os = some o) (hg : guardSlot os.toArray o.guard = some (s, b)) (hc : look s (sl Vs l0) = some (.bool (decide p)))
    (h1 : setV s (.bool true) Vs = some Vt) (h2 : setV s (.bool false) Vs = some Vf)
    (ht : p → GDp ((i, 0) :: pl) C ds l0 Vt Es h os.toArray K) (hf : ¬ p → GDp ((i, 0) :: pl) C ds l0 Vf Es h os.toArray K) : GDp ((i, 0) :: pl) C ds l0 Vs Es h os.toArray K :=
  GP_split ho hg hc h1 h2 (fun e => ht (of_decide_eq_true e)) (fun e => hf (of_decide_eq_false e))
theorem GP_splitN {o : Oper} {s : Nat} {b : Bool} {p : Prop} {inst : Decidable p} {Vt Vf : List Dn} (ho : lnth i os = some o) (hg : guardSlot os.toArray o.guard = some (s, b)) (hc : look s (sl Vs l0) = some (.bool (!decide p)))
    (h1 : setV s (.bool true) Vs = some Vt) (h2 : setV s (.bool false) Vs = some Vf)
    (ht : ¬ p → GDp ((i, 0) :: pl) C ds l0 Vt Es h os.toArray K) (hf : p → GDp ((i, 0) :: pl) C ds l0 Vf Es h os.toArray K) : GDp ((i, 0) :: pl) C ds l0 Vs Es h os.toArray K :=
  GP_split ho hg hc h1 h2 (fun e => ht (by simpa using e)) (fun e => hf (by simpa using e))

theorem GP_real {dst : Option Tmp} {op : Op} (ho : lnth i os = some ⟨dst, op, ty, pos, aft, gd⟩) (hb : (onlyB Vs [i] os.toArray && Nat.blt i os.toArray.size && !inVs Vs i) = true) (hl : pickF (opSlots os.toArray ⟨dst, op, ty, pos, aft, gd⟩) (sl Vs l0) = some l')
    (hg : wantedB os.toArray l' gd = some true) (hx : isDefer op = false)
    (hO : OpTo C l' Es h ⟨dst, op, ty, pos, aft, gd⟩ fun v Es' h' => Le h h' ∧ NdOk (anc os.toArray i) Es' Vs ∧ GDp pl C ds l0 (⟨i, dst, v, [], false⟩ :: Vs) Es' h' os.toArray K) :
    GDp ((i, 1) :: pl) C ds l0 Vs Es h os.toArray K :=
  GD_real i hb (os_get ho) (pickF_eq hl ▸ hg) hx (pickF_eq hl ▸ hO)

/-- One of two: the premise for one of them. -/
def RealP (pl : List (Nat × Nat)) (C : Ctx) (ds : List Deferred) (l0 : Sl) (Vs : List Dn) (Es : List Asn) (h : Ro) (os : List Oper) (K : List Item) (i : Nat) : Prop := Real C ds l0 Vs Es h os.toArray K i
theorem RealP_intro {dst : Option Tmp} {op : Op} (ho : lnth i os = some ⟨dst, op, ty, pos, aft, gd⟩) (hl : pickF (opSlots os.toArray ⟨dst, op, ty, pos, aft, gd⟩) (sl Vs l0) = some l')
    (hg : wantedB os.toArray l' gd = some true) (hx : isDefer op = false)
    (hO : OpTo C l' Es h ⟨dst, op, ty, pos, aft, gd⟩ fun v Es' h' => Le h h' ∧ NdOk (anc os.toArray i) Es' Vs ∧ GDp pl C ds l0 (⟨i, dst, v, [], false⟩ :: Vs) Es' h' os.toArray K) :
    RealP pl C ds l0 Vs Es h os K i := ⟨_, os_get ho, pickF_eq hl ▸ hg, hx, pickF_eq hl ▸ hO⟩
def tkP : Nat → List (Nat × Nat) → Option (List (Nat × Nat))
  | 0, _ => some []
  | _ + 1, [] => some []
  | n + 1, x :: r => match tkP n r with | some t => some (x :: t) | none => none
def drP : Nat → List (Nat × Nat) → Option (List (Nat × Nat))
  | 0, l => some l
  | _ + 1, [] => some []
  | n + 1, _ :: r => drP n r
theorem GP_two {m j : Nat} {pi pj : List (Nat × Nat)} (hb : (onlyB Vs [i, j] os.toArray && Nat.blt i os.toArray.size && !inVs Vs i) = true) (hpi : tkP m pl = some pi) (hpj : drP m pl = some pj)
    (hi : RealP pi C ds l0 Vs Es h os K i) (hj : RealP pj C ds l0 Vs Es h os K j) : GDp ((i, 2) :: (m, j) :: pl) C ds l0 Vs Es h os.toArray K := GD_real2 i j hb hi hj
end
end Go.Hw
/-
  Hw, part J: one operation's outcome by itself ('OpTo', 'OV'), for regions that draw.
-/
set_option linter.unusedVariables false
namespace Go.Hw
open Go

section
variable {C : Ctx} {ds : List Deferred} {l : Sl} {Es : List Asn} {h : Ro} {K : List Item} {G : Value → List Asn → Ro → Prop}
  {d : Tmp} {ty : TypeId} {pos : String} {aft : Array Edge} {gd : Option (Nat × Bool)}

theorem OV_pv {o : Oper} {v : Value} (hv : pv C.ts l o.op = some v) : OV C l [] h o v := ⟨pv_defer hv, fun a w hs _ _ => pv_ok C.ok hs hv w⟩

/-- A variable that holds v, where nd and h say so. -/
def Lv (C : Ctx) (nd : List Asn) (h : Ro) (T : TypeId) (ad : Addr) (v : Value) : Prop := ∀ w, (∀ A ∈ nd, ∃ D, A.holds D (mem w)) → Le h (mem w) → (loadVar T ad).run C.P w = .ok v w

theorem Lv_cells {nd : List Asn} {T : TypeId} {t : Ty} {ad : Addr} {vs : List Value} {v : Value} (hT : tyOf T C.ts = some t) (hv : pvPart 0 t.size t.agg vs = some v)
    (hc : ∀ w, (∀ A ∈ nd, ∃ D, A.holds D (mem w)) → Le h (mem w) → ∀ j u, vs[j]? = some u → w.cell? (ad.add j) = some u) : Lv C nd h T ad v := by
  intro w hn hm
  have hcw := hc w hn hm
  simp only [loadVar, Sem.run_bind, C.ok.run_agg hT, Result.andThen_ok, Sem.run_ite]
  unfold pvPart at hv
  cases ha : t.agg with
  | true =>
    rw [ha] at hv
    simp only at hv
    split at hv
    · rename_i us hcut
      injection hv with hv; subst hv
      obtain ⟨h1, h2⟩ := cut_eq hcut
      simp only [List.drop_zero] at h1
      have hl : us.length = t.size := by rw [h1]; simp; omega
      have := run_loadCells_list (P := C.P) w ad us (fun j u hj => hcw j u (by rw [h1] at hj; rw [List.getElem?_take] at hj; split at hj; exact hj; cases hj))
      simp only [if_true, Sem.run_bind, C.ok.run_size hT, Result.andThen_ok]
      rw [← hl, this]; rfl
    · cases hv
  | false =>
    rw [ha] at hv
    simp only at hv
    have h1 := hcw 0 v (nth_eq hv)
    have e : ad.add 0 = ad := by simp [Addr.add]
    rw [e] at h1
    simp [h1]
theorem Lv_blk {T e : TypeId} {t : Ty} {b off : Nat} {cs : List Value} {v : Value} (hT : tyOf T C.ts = some t) (hv : pvPart off t.size t.agg cs = some v) : Lv C [Blk b e cs] h T ⟨b, off, none⟩ v :=
  Lv_cells hT (pvPart_shift hv) fun w hn hm j u hj => by
    obtain ⟨D, _, hb⟩ := hn _ (.head _)
    have hb' : w.heap[b]? = some (.cells cs.toArray e (0, 0)) := hb
    rw [add_off]
    simp only [World.cell?, hb']
    rw [List.getElem?_drop] at hj
    simpa using hj
theorem Lv_ro {T : TypeId} {t : Ty} {ad : Addr} {vs : List Value} {v : Value} (hT : tyOf T C.ts = some t) (hc : CellsAt h ad vs) (hv : pvPart 0 t.size t.agg vs = some v) : Lv C [] h T ad v :=
  Lv_cells hT hv fun w hn hm j u hj => by rw [cell?_mem]; exact cellR_le hm (hc j u hj)

theorem OV_load {t : TypeId} {x : Operand} {ad : Addr} {v : Value} {nd : List Asn} {dst : Option Tmp} (hx : evl l x = some (.pointer (some ad))) (hv : Lv C nd h t ad v) : OV C l nd h ⟨dst, .load t x, ty, pos, aft, gd⟩ v :=
  ⟨rfl, fun a w hs hn hm => by simp only [execOp, hs.eval hx, Instr.loadAt, Instr.sureAddr, Sem.run_bind, Sem.run_pure, Result.andThen_ok, hv w hn hm]⟩

theorem OV_idx {t e : TypeId} {x y : Operand} {ad : Addr} {n c j : Nat} {k : IntKind} {i : Int} {T E : Ty} {dst : Option Tmp} (hT : tyOf t C.ts = some T) (hTd : T.desc = .slice e) (hE : tyOf e C.ts = some E)
    (hx : evl l x = some (.slice (some ad) n c)) (hy : evl l y = some (.int k i)) (hi : i = (j : Int)) (hj : j < n) : OV C l [] h ⟨dst, .indexAddr t x y, ty, pos, aft, gd⟩ (.pointer (some (ad.add (j * E.size)))) :=
  ⟨rfl, fun a w hs _ _ => by
      obtain ⟨D0, hu, hb0⟩ := C.ok.run_und hT
      have hu := hu w
      rw [hTd] at hb0
      rw [blank_slice hb0] at hu
      subst hi
      have hb : (0 : Int) ≤ (j : Int) ∧ (j : Int) < (n : Int) := ⟨by omega, by omega⟩
      simp only [execOp, hs.eval hx, hs.eval hy, Instr.indexAt, asIntOf, Sem.run_bind, Sem.run_pure, Result.andThen_ok, hu, Sem.run_ite, hb, and_self, if_true, C.ok.run_size hE, Int.toNat_natCast]⟩
theorem OV_idxA {t e m : TypeId} {x y : Operand} {ad : Addr} {j : Nat} {k : IntKind} {i : Int} {T E : Ty} {dst : Option Tmp} (hT : tyOf t C.ts = some T) (hTd : T.desc = .array m e) (hE : tyOf e C.ts = some E)
    (hx : evl l x = some (.pointer (some ad))) (hy : evl l y = some (.int k i)) (hi : i = (j : Int)) (hj : j < m) : OV C l [] h ⟨dst, .indexAddr t x y, ty, pos, aft, gd⟩ (.pointer (some (ad.add (j * E.size)))) :=
  ⟨rfl, fun a w hs _ _ => by
      obtain ⟨D0, hu, hb0⟩ := C.ok.run_und hT
      have hu := hu w
      rw [hTd] at hb0
      rw [blank_array hb0] at hu
      subst hi
      have hb : (0 : Int) ≤ (j : Int) ∧ (j : Int) < (m : Int) := ⟨by omega, by omega⟩
      simp only [execOp, hs.eval hx, hs.eval hy, Instr.indexAt, Instr.sureAddr, asIntOf, Sem.run_bind, Sem.run_pure, Result.andThen_ok, hu, Sem.run_ite, hb, and_self, if_true, C.ok.run_size hE, Int.toNat_natCast]⟩

theorem OV_bin {op : BinOp} {t ty' : TypeId} {x y : Operand} {k : IntKind} {p q : Int} {v : Value} {T : Ty} {dst : Option Tmp}
    (hT : tyOf t C.ts = some T) (hx : evl l x = some (.int k p)) (hy : evl l y = some (.int k q)) (hv : pvBin T.desc op (.int k p) (.int k q) = some v) : OV C l [] h ⟨dst, .binOp op t x y ty', ty, pos, aft, gd⟩ v :=
  OV_pv (by simp only [pv, hT, hx, hy]; exact hv)
theorem OV_add {t ty' : TypeId} {x y : Operand} {p q : Int} {T : Ty} {dst : Option Tmp}
    (hT : tyOf t C.ts = some T) (hx : evl l x = some (.int .i64 p)) (hy : evl l y = some (.int .i64 q)) (hb : -9223372036854775808 ≤ p + q ∧ p + q ≤ 9223372036854775807) : OV C l [] h ⟨dst, .binOp .add t x y ty', ty, pos, aft, gd⟩ (.int .i64 (p + q)) :=
  OV_bin hT hx hy (by simp [pvBin, i64_in _ hb])
theorem OV_sub {t ty' : TypeId} {x y : Operand} {p q : Int} {T : Ty} {dst : Option Tmp}
    (hT : tyOf t C.ts = some T) (hx : evl l x = some (.int .i64 p)) (hy : evl l y = some (.int .i64 q)) (hb : -9223372036854775808 ≤ p - q ∧ p - q ≤ 9223372036854775807) : OV C l [] h ⟨dst, .binOp .sub t x y ty', ty, pos, aft, gd⟩ (.int .i64 (p - q)) :=
  OV_bin hT hx hy (by simp [pvBin, i64_in _ hb])

theorem OpTo_ov {o : Oper} {nd : List Asn} {v : Value} (hv : OV C l nd h o v) (hnd : AllIn Es nd) (g : G v Es h) : OpTo C l Es h o G :=
  fun a w hs hp => .inl ⟨v, w, Es, h, hv.2 a w hs (fun A hA => hp.get (hnd.ok A hA)) hp.ro, hp, g⟩

theorem OpTo_store {t e : TypeId} {x y : Operand} {b off : Nat} {v : Value} {cs cs' : List Value} {Es' : List Asn} {T : Ty} {ty : TypeId} {pos : String} {aft : Array Edge} {gd : Option (Nat × Bool)}
    (hT : tyOf t C.ts = some T) (hx : evl l x = some (.pointer (some ⟨b, off, none⟩))) (hy : evl l y = some v) (hR : Repl Es (Blk b e cs) (Blk b e cs') Es') (ho : over off (partL v) cs = some cs')
    (hl : Nat.beq (partL v).length T.size = true) (h1 : allOne (partL v) = true) (g : G undef Es' h) : OpTo C l Es h ⟨none, .store t x y, ty, pos, aft, gd⟩ G := by
  intro a w hs hp
  have hlen := Nat.eq_of_beq_eq_true hl
  obtain ⟨Ds, hown, hnod, hbd⟩ := hp.own
  obtain ⟨D, ⟨hD, hb⟩, hDn, hsub, _⟩ := hR.own hown hnod
  have hb' : w.heap[b]? = some (.cells cs.toArray e (0, 0)) := hb
  have hcs := over_eq ho
  by_cases hnil : partL v = []
  · -- nothing is stored
    have hc : cs' = cs := by
      have := hcs.1; rw [hnil] at this; simpa using this
    subst hc
    have hrun : (storeVar t ⟨b, off, none⟩ v).run C.P w = .ok () w := by
      have h0 : T.size = 0 := by rw [← hlen, hnil]; rfl
      simp only [storeVar, Sem.run_bind, C.ok.run_size hT, Result.andThen_ok, partL_ok, hnil, h0]
      rfl
    exact .inr (.inl ⟨w, Es', h, by simp only [execOp, hs.eval hx, hs.eval hy, Instr.storeAt, Instr.sureAddr, Sem.run_bind, Sem.run_pure, Result.andThen_ok, hrun], hp.asn hR fun D m hm => hm, g⟩)
  · have hle := hcs.2 hnil
    have hrun : (storeVar t ⟨b, off, none⟩ v).run C.P w = .ok () (w.setRow b cs'.toArray) := by
      have hst := run_storeCells_at (P := C.P) b off e (partL v) 0 cs.toArray w hb' (by simpa using hle) (allOne_ok h1)
      simp only [storeVar, Sem.run_bind, C.ok.run_size hT, Result.andThen_ok, partL_ok, List.size_toArray, hlen, ne_eq, not_true, if_false]
      rw [hst]
      simp only [Nat.add_zero, List.toList_toArray]
      rw [← hcs.1]
    have hlt : b < w.heap.size := (Array.getElem?_eq_some_iff.1 hb').1
    refine .inr (.inl ⟨w.setRow b cs'.toArray, Es', h, by simp only [execOp, hs.eval hx, hs.eval hy, Instr.storeAt, Instr.sureAddr, Sem.run_bind, Sem.run_pure, Result.andThen_ok, hrun], ?_, g⟩)
    refine hp.repl hR rfl rfl rfl (by simp [World.setRow]) fun D hA hDn hDl => ⟨D, ⟨hA.1, ?_⟩, hDn, fun q hq => ⟨.inl hq, by have := hDl q hq; simpa [World.setRow] using this⟩, fun i hi hni => ?_⟩
    · show (w.setRow b cs'.toArray).heap[b]? = _
      exact setRow_heap w b cs.toArray cs'.toArray e (0, 0) hb'
    · have : b ≠ i := fun e => hni (by rw [hA.1, e]; simp)
      simp [World.setRow, Array.getElem?_modify, this]

theorem OpTo_box {e : TypeId} {x : Operand} {v : Value}
    (hx : evl l x = some v) (g : ∀ b, G ((.pointer (some ⟨b, 0, none⟩))) (Blk b e (partL v) :: Es) h) : OpTo C l Es h ⟨some d, .box e x, ty, pos, aft, gd⟩ G :=
  fun a w hs hp =>
    .inl ⟨_, _, _, h, by simp only [execOp, hs.eval hx, Instr.box, newVar, newRow, newObj, Sem.run_bind, Sem.run_pure, Sem.run, Result.andThen_ok, partL_ok],
      hp.alloc (.cells (partL v).toArray e) (Blk w.heap.size e (partL v)) (Blk_holds _ _ _), g _⟩

theorem OpTo_alloc {e : TypeId} {T : Ty} (hT : tyOf e C.ts = some T) (g : ∀ b, G ((.pointer (some ⟨b, 0, none⟩))) (Blk b e (partL T.zero) :: Es) h) : OpTo C l Es h ⟨some d, .alloc e, ty, pos, aft, gd⟩ G :=
  fun a w hs hp =>
    .inl ⟨_, _, _, h, by simp only [execOp, Instr.alloc, C.ok.run_zero hT, newVar, newRow, newObj, Sem.run_bind, Sem.run_pure, Sem.run, Result.andThen_ok, partL_ok],
      hp.alloc (.cells (partL T.zero).toArray e) (Blk w.heap.size e (partL T.zero)) (Blk_holds _ _ _), g _⟩

theorem OpTo_buildSlice {t e n : Nat} {parts : Array (Nat × Operand)} {ps : List (Nat × Value)} {T E : Ty} {cs : List Value} (hT : tyOf t C.ts = some T) (hTd : T.desc = .slice e) (hE : tyOf e C.ts = some E)
    (hz : partL E.zero ≠ []) (hzl : (partL E.zero).length = E.size) (hn : Nat.ble (n * E.size) 16777216 = true) (hp : evlP l parts.toList = some ps) (hc : fillL (fun i => some (i * E.size, E.size)) ps (repl (partL E.zero) n) = some cs) (g : ∀ b, G ((.slice (some ⟨b, 0, none⟩) n n)) (Blk b e cs :: Es) h) : OpTo C l Es h ⟨some d, .buildSlice t n parts, ty, pos, aft, gd⟩ G :=
  fun a w hs hp' =>
    .inl ⟨.slice (some ⟨w.heap.size, 0, none⟩) n n, { w with heap := w.heap.push (.cells cs.toArray e) }, _, h, by
      obtain ⟨D0, hu, hb0⟩ := C.ok.run_und hT
      have hu := hu w
      rw [hTd] at hb0
      rw [blank_slice hb0] at hu
      have e1 := evlP_ok hs hp
      have q1 : (parts.map fun x => match x with | (i, x) => (i, a.eval x)) = ps.toArray := by rw [← e1]; apply Array.ext'; simp
      have hf := fillL_ok hc
      have hle : ¬ (n * E.size > 2 ^ 24) := by have := Nat.le_of_ble_eq_true hn; omega
      have hrow : ((Array.range (n * E.size)).map fun i => (partL E.zero).toArray[i % (partL E.zero).toArray.size]!) = (repl (partL E.zero) n).toArray := by
        rw [repl_eq, ← hzl]; exact zero_row _ _ hz
      have hpos : 0 < E.size := by rw [← hzl]; exact List.length_pos_iff.2 hz
      simp only [execOp, Instr.buildSlice, Sem.run_bind, hu, C.ok.run_size hE, Result.andThen_ok, Sem.run_ite, hle, if_false, q1]
      by_cases h0 : n * E.size = 0
      · have hn0 : n = 0 := by rcases Nat.mul_eq_zero.1 h0 with h1 | h1 <;> omega
        subst hn0
        simp only [Nat.zero_mul, if_true, Sem.run_pure, Result.andThen_ok]
        have hr0 : ((Array.range 0).map fun i => (#[] : Array Value)[i % (#[] : Array Value).size]!) = (repl (partL E.zero) 0).toArray := by simp [repl]
        rw [hr0, hf]
        rfl
      · simp only [h0, if_false, C.ok.run_zero hE, Sem.run_bind, Result.andThen_ok, Sem.run_pure, partL_ok, hrow, hf]
        rfl, hp'.alloc (.cells cs.toArray e) (Blk w.heap.size e cs) (Blk_holds _ _ _), g _⟩

theorem OpTo_call' {d : Option Tmp} {c : Operand} {xs : Array Operand} {tys : Array TypeId} {f : FuncId} {fs cs vs : List Value} {Es0 Fs : List Asn} {Post : Value → List Asn → Ro → Prop}
    (hc : evl l c = some (.func (.func f) fs.toArray cs.toArray)) (hxs : evlL l xs.toList = some vs) (hE : Es = Es0 ++ Fs) (hh : Has C.P f) (hf : Fn C.P f (fs ++ vs ++ cs).toArray Es0 h Post)
    (g : ∀ v Es' h', Le h h' → Post v Es' h' → G v (Es' ++ Fs) h') : OpTo C l Es h ⟨d, .call ⟨.value c, xs, tys⟩, ty, pos, aft, gd⟩ G := by
  refine OpTo_call (fun a w hs => ?_) hE hf g
  obtain ⟨fn, h1, h2, h3⟩ := hh
  have e1 := evlL_ok hs hxs
  have q1 : xs.map a.eval = vs.toArray := by rw [← e1]; apply Array.ext'; simp
  simp only [execOp, resolve, hs.eval hc, Deferred.ofValue, Sem.run_bind, Sem.run_pure, Result.andThen_ok, invoke, q1]
  rw [show fs.toArray ++ vs.toArray ++ cs.toArray = (fs ++ vs ++ cs).toArray by simp]
  exact run_callFunc h1 h2 h3 w

theorem OpTo_callF {d : Option Tmp} {xs : Array Operand} {tys : Array TypeId} {f : FuncId} {vs : List Value} {Es0 Fs : List Asn} {Post : Value → List Asn → Ro → Prop}
    (hxs : evlL l xs.toList = some vs) (hE : Es = Es0 ++ Fs) (hh : Has C.P f) (hf : Fn C.P f vs.toArray Es0 h Post)
    (g : ∀ v Es' h', Le h h' → Post v Es' h' → G v (Es' ++ Fs) h') : OpTo C l Es h ⟨d, .call ⟨.value (.func f), xs, tys⟩, ty, pos, aft, gd⟩ G :=
  OpTo_call' (f := f) (fs := []) (cs := []) rfl hxs hE hh (by simpa using hf) g

theorem OpTo_append {x y : Operand} {t e : TypeId} {v : Value} {n m c : Nat} {xs news : List Value} {ad : Addr} {T E : Ty} {Es' : Value → List Asn} (hT : tyOf t C.ts = some T) (hTd : T.desc = .slice e) (hE : tyOf e C.ts = some E)
    (hz : E.zero.cells.size = E.size) (hsz : 0 < E.size)
    (hx : evl l x = some v) (hy : evl l y = some (.slice (some ad) m c)) (hR : ∀ v', Repl Es (OwnS e E.size v n xs) (OwnS e E.size v' (n + m) (xs ++ news)) (Es' v'))
    (hnl : news.length = m * E.size) (hnews : ∀ w, Hp C.w0 C.X0 C.h0 Es h w → ∀ j u, news[j]? = some u → w.cell? (ad.add j) = some u) (h1 : ∀ u ∈ news, u.oneCell' = true)
    (h63 : n + m ≤ maxLen) (hbytes : (n + m) * E.bytes ≤ 140737488355328)
    (g : ∀ v', (v' = .slice none 0 0 ↔ v = .slice none 0 0 ∧ m = 0) → G (v') (Es' v') h) : OpTo C l Es h ⟨some d, .call ⟨.builtin .append, #[x, y], #[t, t]⟩, ty, pos, aft, gd⟩ G := by
  intro a w hs hp
  obtain ⟨i, hi, hi1, hi2, hi3⟩ := C.ok.info hE
  obtain ⟨D0, hu, hb0⟩ := C.ok.und hT
  rw [hTd] at hb0
  rw [blank_slice hb0] at hu
  obtain ⟨Ds, hown, hnod, hbd⟩ := hp.own
  obtain ⟨D, hA, hDn, hsub, _⟩ := (hR v).own hown hnod
  have hrow : w.ownsRow 0 e E.size v n xs := by
    obtain ⟨hl, hr⟩ := hA
    refine ⟨hl, hr.imp (fun ⟨h1, h2, _⟩ => ⟨h1, h2⟩) fun ⟨g, cap, cur, h1, h2, h3, h4, h5, h6, h7⟩ => ⟨g, cap, cur, h1, Nat.zero_le _, h3, h4, h5, h6, h7⟩⟩
  obtain ⟨v', w', hrun, hown', hgrow, hnil, hblk⟩ := run_append_own_at (P := C.P) w 0 t ty e i E.zero E.size E.bytes hu hi hi3 hi1 hi2 hz hsz v n xs hrow ad m c news hnl (hnews w hp) h1 h63 hbytes (Nat.zero_le _)
  refine .inl ⟨v', w', Es' v', h, ?_, ?_, g v' hnil⟩
  · simp only [execOp, resolve, invoke, builtin, Sem.run_bind, Sem.run_pure, Result.andThen_ok, List.map_toArray, List.map_cons, List.map_nil, hs.eval hx, hs.eval hy, hrun]
  · refine hp.repl (hR v') hgrow.os hgrow.tape hgrow.output hgrow.size (hdr := run_drawn _ hrun) fun D hA hDn hDl => ?_
    obtain ⟨hl, hr⟩ := hA
    obtain ⟨hl', hr'⟩ := hown'
    have hvD : ∀ i, i ∉ D → some i ≠ v.ownBlock := by
      intro i hi he
      rcases hr with ⟨rfl, _, _⟩ | ⟨g, cap, cur, rfl, rfl, _⟩
      · simp [Value.ownBlock] at he
      · simp only [Value.ownBlock, Option.some.injEq] at he; subst he; exact hi (by simp)
    rcases hr' with ⟨rfl, hn0⟩ | ⟨g, cap, cur, rfl, _, hh, hrest⟩
    · refine ⟨[], ⟨hl', .inl ⟨rfl, hn0, rfl⟩⟩, List.nodup_nil, by simp, fun i hi hni => hgrow.block i hi (hvD i hni)⟩
    · refine ⟨[g], ⟨hl', .inr ⟨g, cap, cur, rfl, rfl, hh, hrest⟩⟩, by simp, fun b hb => ?_, fun i hi hni => hgrow.block i hi (hvD i hni)⟩
      simp only [List.mem_singleton] at hb
      subst hb
      refine ⟨?_, (Array.getElem?_eq_some_iff.1 hh).1⟩
      rcases hblk with hb | hb
      · left
        rcases hr with ⟨rfl, _, _⟩ | ⟨g', cap', cur', rfl, rfl, _⟩
        · simp [Value.ownBlock] at hb
        · simp only [Value.ownBlock, Option.some.injEq] at hb; subst hb; simp
      · right
        simp only [Value.ownBlock, Option.some.injEq] at hb; omega

end
end Go.Hw
/-
  Hw, part K: maps of the call's own, slices that are only read.
-/
set_option linter.unusedVariables false
namespace Go.Hw
open Go

/-! ### Slices that are only read -/
def encI (n : Int) : List Value := [.int .i64 n]
/-- A slice's n elements, from address A on, are xs. -/
structure SlOf {α : Type} (enc : α → List Value) (sz : Nat) (h : Ro) (A : Option Addr) (n : Nat) (xs : List α) : Prop where
  len : xs.length = n
  at_ : 0 < n → ∃ ad, A = some ad ∧ ∀ j x, xs[j]? = some x → CellsAt h (ad.add (j * sz)) (enc x)
section sl
variable {α : Type} {enc : α → List Value} {sz : Nat} {h : Ro} {A : Option Addr} {n : Nat} {xs : List α}
theorem SlOf.cells {ad : Addr} (s : SlOf enc sz h (some ad) n xs) (d : α) {k : Nat} (hk : k < n) : CellsAt h (ad.add (k * sz)) (enc (xs.getD k d)) := by
  obtain ⟨ad', e, hc⟩ := s.at_ (by omega)
  injection e with e; subst e
  exact hc k _ (by have := s.len; simp [List.getD, List.getElem?_eq_getElem (show k < xs.length by omega)])
theorem SlOf.addr (s : SlOf enc sz h A n xs) (hk : 0 < n) : ∃ ad, A = some ad := by
  obtain ⟨ad', e, hc⟩ := s.at_ hk
  exact ⟨ad', e⟩
theorem SlOf.le {h' : Ro} (s : SlOf enc sz h A n xs) (hl : Le h h') : SlOf enc sz h' A n xs :=
  ⟨s.len, fun hn => let ⟨ad, e, hc⟩ := s.at_ hn; ⟨ad, e, fun j x hx => (hc j x hx).le hl⟩⟩
theorem SlOf.nil : SlOf enc sz h A 0 [] := ⟨rfl, fun h => absurd h (by omega)⟩
end sl

/-! ### Maps -/
/-- A map of the call's own: its entries, in the order in which they lie. -/
def MapA {κ α : Type} (ek : κ → Value) (ev : α → Value) (b : Nat) (l : List (κ × α)) : Asn :=
  ⟨fun D m => D = [b] ∧ ∃ es clock, m b = some (.map es clock) ∧ es.toList.map (fun e => (e.key, e.val)) = l.map (fun p => (ek p.1, ev p.2)) ∧ (∀ x ∈ es.toList, x.born < clock) ∧ (es.toList.map (·.born)).Nodup,
   fun D m m' h ⟨hd, r⟩ => ⟨hd, by rw [← h b (by simp [hd])]; exact r⟩⟩

def lookA {κ α : Type} [DecidableEq κ] (x : κ) : List (κ × α) → Option α
  | [] => none
  | (y, a) :: r => if y = x then some a else lookA x r
def insA {κ α : Type} [DecidableEq κ] (x : κ) (a : α) : List (κ × α) → List (κ × α)
  | [] => [(x, a)]
  | (y, b) :: r => if y = x then (y, a) :: r else (y, b) :: insA x a r

section maps
variable {κ α : Type} [DecidableEq κ] {ek : κ → Value} {ev : α → Value} {P : Program} {k : TypeId} {d : TypeDesc}

/-- The first entry of a key. -/
def firstK (x : κ) : List (κ × α) → Nat → Option (Nat × α)
  | [], _ => none
  | (y, a) :: r, i => if y = x then some (i, a) else firstK x r (i + 1)
theorem firstK_spec (x : κ) : ∀ (l : List (κ × α)) (i : Nat), (firstK x l i = none ∧ lookA x l = none ∧ ∀ a, insA x a l = l ++ [(x, a)]) ∨
    ∃ j a, firstK x l i = some (i + j, a) ∧ lookA x l = some a ∧ (∃ p, l[j]? = some p ∧ p.1 = x) ∧ ∀ b, insA x b l = l.set j (x, b)
  | [], i => .inl ⟨rfl, rfl, fun _ => rfl⟩
  | (y, a) :: r, i => by
    by_cases h : y = x
    · exact .inr ⟨0, a, by simp [firstK, h], by simp [lookA, h], ⟨(y, a), rfl, h⟩, fun b => by simp [insA, h]⟩
    · rcases firstK_spec x r (i + 1) with ⟨h1, h2, h3⟩ | ⟨j, b, h1, h2, h3, h4⟩
      · exact .inl ⟨by simp [firstK, h, h1], by simp [lookA, h, h2], fun b => by simp [insA, h, h3 b]⟩
      · exact .inr ⟨j + 1, b, by simp [firstK, h, h1]; omega, by simp [lookA, h, h2], by simpa using h3, fun c => by simp [insA, h, h4 c]⟩

/-- What a map operation needs of the key's type. -/
structure KeyT (P : Program) (k : TypeId) (ek : κ → Value) : Prop where
  check : ∀ (w : World) (em : Bool) (x : κ), (Instr.checkKey em 10000 k (ek x)).run P w = .ok () w
  find : ∀ (w : World) (x : κ) (ev : Nat → Value) (es : List MapEntry) (l : List (κ × Nat)), es.map (fun e => (e.key, e.val)) = l.map (fun p => (ek p.1, ev p.2)) → (Instr.findKey k (ek x) es).run P w = .ok ((firstK x l 0).map fun p => (p.1, ev p.2)) w
  stays : ∀ (w : World) (x : κ), (Instr.keyThatStays (ek x) (ek x)).run P w = .ok (ek x) w
  inj : ∀ x y, ek x = ek y → x = y

theorem firstK_map {β : Type} (x : κ) (f : α → β) : ∀ (l : List (κ × α)) (i : Nat), firstK x (l.map fun p => (p.1, f p.2)) i = (firstK x l i).map fun p => (p.1, f p.2)
  | [], _ => rfl
  | (y, a) :: r, i => by
    simp only [List.map_cons, firstK]
    split
    · rfl
    · exact firstK_map x f r (i + 1)
theorem KeyT.find' (K : KeyT P k ek) (w : World) (x : κ) {es : List MapEntry} {l : List (κ × α)} (h : es.map (fun e => (e.key, e.val)) = l.map (fun p => (ek p.1, ev p.2))) :
    (Instr.findKey k (ek x) es).run P w = .ok ((firstK x l 0).map fun p => (p.1, ev p.2)) w := by
  let L : List (κ × Nat) := l.zipIdx.map fun p => (p.1.1, p.2)
  let E : Nat → Value := fun i => match l[i]? with | some p => ev p.2 | none => undef
  have e1 : L.map (fun p => (ek p.1, E p.2)) = l.map fun p => (ek p.1, ev p.2) := by
    apply List.ext_getElem?
    intro i
    simp only [L, List.map_map, List.getElem?_map, List.getElem?_zipIdx, Option.map_map]
    cases hi : l[i]? with
    | none => rfl
    | some p => simp [E, hi]
  have e2 : (firstK x L 0).map (fun p => (p.1, E p.2)) = (firstK x l 0).map fun p => (p.1, ev p.2) := by
    rw [← firstK_map x E L 0, ← firstK_map x ev l 0]
    congr 1
    apply List.ext_getElem?
    intro i
    simp only [L, List.map_map, List.getElem?_map, List.getElem?_zipIdx, Option.map_map]
    cases hi : l[i]? with
    | none => rfl
    | some p => simp [E, hi]
  rw [← e2]
  exact K.find w x E es L (by rw [h, e1])
theorem find_A (K : KeyT P k ek) (w : World) (x : κ) {es : List MapEntry} {l : List (κ × α)} (h : es.map (fun e => (e.key, e.val)) = l.map (fun p => (ek p.1, ev p.2))) :
    ((Instr.findKey k (ek x) es).run P w = .ok none w ∧ lookA x l = none ∧ ∀ a, insA x a l = l ++ [(x, a)]) ∨
    ∃ j a e, (Instr.findKey k (ek x) es).run P w = .ok (some (j, ev a)) w ∧ lookA x l = some a ∧ es[j]? = some e ∧ e.key = ek x ∧ ∀ b, insA x b l = l.set j (x, b) := by
  have hf := K.find' w x h
  rcases firstK_spec x l 0 with ⟨h1, h2, h3⟩ | ⟨j, a, h1, h2, ⟨p, h3, h5⟩, h4⟩
  · rw [h1] at hf
    exact .inl ⟨hf, h2, h3⟩
  · rw [h1, Nat.zero_add] at hf
    have hj := congrArg (fun q => q[j]?) h
    simp only [List.getElem?_map, h3, Option.map_some] at hj
    cases he : es[j]? with
    | none => rw [he] at hj; cases hj
    | some e =>
      rw [he] at hj
      simp only [Option.map_some, Option.some.injEq, Prod.mk.injEq] at hj
      exact .inr ⟨j, a, e, hf, h2, he, by rw [hj.1, h5], h4⟩

theorem KeyT.plain {d : TypeDesc} (hd : P.underlying k = some d) (hk : ∀ x, MapKept.IsKey d (ek x)) (hi : ∀ x y, ek x = ek y → x = y) : KeyT P k ek where
  check := fun w em x => MapKept.run_checkKey hd (hk x) em 9999
  stays := fun w x => MapKept.run_keyThatStays (hk x)
  inj := hi
  find := fun w x ev es l h => by
    refine MapKept.run_findKey hd ?_
    suffices H : ∀ (es : List MapEntry) (l : List (κ × Nat)) (i : Nat), es.map (fun e => (e.key, e.val)) = l.map (fun p => (ek p.1, ev p.2)) → Instr.findNow d (ek x) es i = some ((firstK x l i).map fun p => (p.1, ev p.2)) from H es l 0 h
    intro es
    induction es with
    | nil => intro l i h; cases l with
      | nil => rfl
      | cons p l => cases h
    | cons e es ih =>
      intro l i h
      cases l with
      | nil => cases h
      | cons p l =>
        simp only [List.map_cons, List.cons.injEq, Prod.mk.injEq] at h
        obtain ⟨r, hr, hri⟩ := MapKept.sameNow_of_keys (hk x) (show MapKept.IsKey d e.key by rw [h.1.1]; exact hk _)
        rw [h.1.1] at hri
        unfold Instr.findNow
        rw [hr]
        by_cases hq : p.1 = x
        · rw [hri.2 (by rw [hq])]
          simp [firstK, hq, h.1.2]
        · have : r = false := by
            cases r with
            | false => rfl
            | true => exact absurd (hi _ _ (hri.1 rfl)).symm hq
          rw [this]
          simp only [firstK, hq, if_false]
          exact ih l (i + 1) h.2
theorem KeyT.int {k : TypeId} {q : IntKind} (h : P.underlying k = some (.int q)) : KeyT P k (fun i : Int => .int q i) :=
  KeyT.plain h (fun x => rfl) (fun x y e => by injection e)

def lookV (c : Bool) (ev : α → Value) (z : Value) : Option α → Value
  | some a => if c then .tuple #[ev a, .bool true] else ev a
  | none => if c then .tuple #[z, .bool false] else z

theorem run_lookupA (K : KeyT P k ek) {t e : TypeId} (ht : P.underlying t = some (.map k e)) {z : Value} {w : World} (hz : (zeroValue e).run P w = .ok z w) {b : Nat} {l : List (κ × α)} (hb : (MapA ek ev b l).holds [b] (mem w)) (x : κ) (c : Bool) :
    (Instr.lookup t (.map (some b)) (ek x) c).run P w = .ok (lookV c ev z (lookA x l)) w := by
  obtain ⟨_, es, clock, hb, hes, hcl, hnd⟩ := hb
  have hb : w.heap[b]? = some (.map es clock) := hb
  have hck := K.check w es.isEmpty x
  rcases find_A K w x hes with ⟨hf, h2, _⟩ | ⟨j, a, e0, hf, h2, _⟩
  · simp only [Instr.lookup, Sem.run_bind, run_underlying ht, Result.andThen, MapKept.run_getObj_map hb, Sem.run_pure, hck, hf, hz, h2, lookV]
  · simp only [Instr.lookup, Sem.run_bind, run_underlying ht, Result.andThen, MapKept.run_getObj_map hb, Sem.run_pure, hck, hf, h2, lookV]

theorem run_updateA (K : KeyT P k ek) {t e : TypeId} (ht : P.underlying t = some (.map k e)) {w : World} {b : Nat} {l : List (κ × α)} (hb : (MapA ek ev b l).holds [b] (mem w)) (x : κ) (a : α) :
    ∃ w', (Instr.mapUpdate t (.map (some b)) (ek x) (ev a)).run P w = .ok () w' ∧ (MapA ek ev b (insA x a l)).holds [b] (mem w') ∧ w'.os = w.os ∧ w'.tape = w.tape ∧ w'.output = w.output ∧ w'.heap.size = w.heap.size ∧ ∀ i, i ≠ b → w'.heap[i]? = w.heap[i]? := by
  obtain ⟨_, es, clock, hb, hes, hcl, hnd⟩ := hb
  have hb : w.heap[b]? = some (.map es clock) := hb
  have hck := K.check w false x
  rcases find_A K w x hes with ⟨hf, h2, h3⟩ | ⟨j, a0, e0, hf, h2, h3, h4, h5⟩
  · refine ⟨ChangeMaps.setBlock w b (.map (es.push ⟨ek x, ev a, clock⟩) (clock + 1)), ?_, ⟨rfl, _, _, ChangeMaps.heap_setBlock_same hb _, ?_, ?_, ?_⟩, rfl, rfl, rfl, by simp [ChangeMaps.setBlock], fun i hi => ChangeMaps.heap_setBlock_other hb _ hi⟩
    · simp [Instr.mapUpdate, run_underlying ht, MapKept.run_getObj_map hb, hck, hf, MapKept.run_setObj_map _ hb, Result.andThen, ChangeMaps.setBlock]
    · simp [h3, hes]
    · intro y hy
      simp only [Array.toList_push, List.mem_append, List.mem_singleton] at hy
      rcases hy with hy | rfl
      · exact Nat.lt_succ_of_lt (hcl y hy)
      · exact Nat.lt_succ_self _
    · simp only [Array.toList_push, List.map_append, List.map_cons, List.map_nil]
      refine List.nodup_append.2 ⟨hnd, by simp, ?_⟩
      intro p hp q hq
      simp only [List.mem_singleton] at hq
      subst hq
      obtain ⟨y, hy, rfl⟩ := List.mem_map.1 hp
      exact Nat.ne_of_lt (hcl y hy)
  · have hst := K.stays w x
    have h3' : es[j]? = some e0 := by simpa using h3
    refine ⟨ChangeMaps.setBlock w b (.map (es.modify j fun e => { e with key := ek x, val := ev a }) clock), ?_, ⟨rfl, _, _, ChangeMaps.heap_setBlock_same hb _, ?_, ?_, ?_⟩, rfl, rfl, rfl, by simp [ChangeMaps.setBlock], fun i hi => ChangeMaps.heap_setBlock_other hb _ hi⟩
    · simp [Instr.mapUpdate, run_underlying ht, MapKept.run_getObj_map hb, hck, hf, h3', h4, hst, MapKept.run_setObj_map _ hb, Result.andThen, ChangeMaps.setBlock]
    · rw [h5 a]
      apply List.ext_getElem?
      intro i
      have hi := congrArg (fun q => q[i]?) hes
      simp only [List.getElem?_map, Array.getElem?_toList, Array.getElem?_modify, List.getElem?_set] at hi ⊢
      by_cases hij : j = i
      · subst hij
        rw [h3'] at hi ⊢
        cases hl : l[j]? with
        | none => rw [hl] at hi; cases hi
        | some p =>
          have : j < l.length := (List.getElem?_eq_some_iff.1 hl).1
          simp [this]
      · simp only [hij, if_false]; exact hi
    · intro y hy
      obtain ⟨i, hy⟩ := List.getElem?_of_mem hy
      simp only [Array.getElem?_toList, Array.getElem?_modify] at hy
      split at hy
      · cases hi : es[i]? with
        | none => rw [hi] at hy; cases hy
        | some e1 =>
          rw [hi] at hy; simp only [Option.map_some, Option.some.injEq] at hy
          rw [← hy]
          exact hcl e1 (Array.mem_toList_iff.2 (Array.mem_of_getElem? hi))
      · exact hcl y (Array.mem_toList_iff.2 (Array.mem_of_getElem? hy))
    · have : (es.modify j fun e => { e with key := ek x, val := ev a }).toList.map (·.born) = es.toList.map (·.born) := by
        apply List.ext_getElem?
        intro i
        simp only [List.getElem?_map, Array.getElem?_toList, Array.getElem?_modify]
        split
        · cases es[i]? <;> rfl
        · rfl
      rw [this]; exact hnd

variable {C : Ctx} {l : Sl} {Es : List Asn} {h : Ro} {G : Value → List Asn → Ro → Prop} {ty : TypeId} {pos : String} {aft : Array Edge} {gd : Option (Nat × Bool)}

omit [DecidableEq κ] in
theorem OpTo_makeMap {t : TypeId} {dst : Option Tmp} (ek : κ → Value) (ev : α → Value) (g : ∀ b, G (.map (some b)) (MapA ek ev b [] :: Es) h) : OpTo C l Es h ⟨dst, .makeMap t none, ty, pos, aft, gd⟩ G := fun a w hs hp =>
  .inl ⟨.map (some w.heap.size), _, _, h, by simp only [execOp]; rw [Sem.run_bind]; rfl, hp.alloc (.map #[] 0) (MapA ek ev w.heap.size []) (fun m hm => ⟨rfl, #[], 0, hm, rfl, by simp, by simp⟩), g _⟩

theorem OV_lookup {t e : TypeId} {x y : Operand} {b : Nat} {key : κ} {m : List (κ × α)} {c : Bool} {T E : Ty} {r : Option α} {dst : Option Tmp} (K : KeyT C.P k ek) (hT : tyOf t C.ts = some T) (hTd : T.desc = .map k e) (hE : tyOf e C.ts = some E)
    (hx : evl l x = some (.map (some b))) (hy : evl l y = some (ek key)) (hr : lookA key m = r) : OV C l [MapA ek ev b m] h ⟨dst, .lookup t x y c, ty, pos, aft, gd⟩ (lookV c ev E.zero r) :=
  ⟨rfl, fun a w hs hn hm => by
    obtain ⟨D, hD⟩ := hn _ (.head _)
    obtain ⟨D0, hu, hb0⟩ := C.ok.und hT
    rw [hTd] at hb0
    rw [blank_map hb0] at hu
    have hD' := hD
    rw [hD.1] at hD'
    have := run_lookupA K hu (C.ok.run_zero hE w) hD' key c
    rw [hr] at this
    simp only [execOp, hs.eval hx, hs.eval hy, Sem.run_bind, this, Result.andThen_ok, Sem.run_pure]⟩

theorem OpTo_mapUpdate {t e : TypeId} {x y v : Operand} {b : Nat} {key : κ} {u : α} {m : List (κ × α)} {T : Ty} {Es' : List Asn} {dst : Option Tmp} {val : Value} (K : KeyT C.P k ek) (hT : tyOf t C.ts = some T) (hTd : T.desc = .map k e)
    (hx : evl l x = some (.map (some b))) (hy : evl l y = some (ek key)) (hv : evl l v = some val) (hval : val = ev u) (hR : Repl Es (MapA ek ev b m) (MapA ek ev b (insA key u m)) Es') (g : G undef Es' h) :
    OpTo C l Es h ⟨dst, .mapUpdate t x y v, ty, pos, aft, gd⟩ G := fun a w hs hp => by
  subst hval
  obtain ⟨D0, hu, hb0⟩ := C.ok.und hT
  rw [hTd] at hb0
  rw [blank_map hb0] at hu
  obtain ⟨Ds, hown, hnod, hbd⟩ := hp.own
  obtain ⟨D, hA, hDn, hsub, _⟩ := hR.own hown hnod
  have hA' := hA
  rw [hA.1] at hA'
  obtain ⟨w', hrun, hA2, q1, q2, q3, q4, q5⟩ := run_updateA K hu hA' key u
  refine .inr (.inl ⟨w', Es', h, ?_, hp.repl hR q1 q2 q3 (by omega) (hdr := run_drawn _ hrun) fun D hA hDn hDl => ⟨D, ?_, hDn, fun b hb => ⟨.inl hb, by have := hDl b hb; omega⟩, fun i hi hni => q5 i (fun e => hni (by rw [hA.1, e]; simp))⟩, g⟩)
  · simp only [execOp, hs.eval hx, hs.eval hy, hs.eval hv, Sem.run_bind, hrun, Result.andThen_ok, Sem.run_pure]
  · have := hA.1; subst this; exact hA2
theorem OpTo_insert {t e : TypeId} {x y v : Operand} {b : Nat} {key : κ} {u : α} {m : List (κ × α)} {T : Ty} {Es' : List Asn} {dst : Option Tmp} {val : Value} (K : KeyT C.P k ek) (hT : tyOf t C.ts = some T) (hTd : T.desc = .map k e)
    (hx : evl l x = some (.map (some b))) (hy : evl l y = some (ek key)) (hv : evl l v = some val) (hval : val = ev u) (hR : Repl Es (MapA ek ev b m) (MapA ek ev b (insA key u m)) Es') (g : G undef Es' h) :
    OpTo C l Es h ⟨dst, .insert t x y v, ty, pos, aft, gd⟩ G :=
  (OpTo_mapUpdate K hT hTd hx hy hv hval hR g : OpTo C l Es h ⟨dst, .mapUpdate t x y v, ty, pos, aft, gd⟩ G)
end maps
end Go.Hw
/-
  Hw, part L: a range over a map of the call's own.
-/
set_option linter.unusedVariables false
namespace Go.Hw
open Go

/-- A range over a map under way: the map's entries l, those still to come (in the order in which they lie), the one that came last. -/
def RngA {κ α : Type} (ek : κ → Value) (ev : α → Value) (b r : Nat) (l rem : List (κ × α)) (cur : Option (κ × α)) : Asn :=
  ⟨fun D m => D = [b, r] ∧ ∃ (es : Array MapEntry) (clock since : Nat) (seen : Array Nat) (c0 : Nat), m b = some (.map es clock) ∧ es.toList.map (fun e => (e.key, e.val)) = l.map (fun p => (ek p.1, ev p.2)) ∧ (∀ x ∈ es.toList, x.born < clock) ∧ (es.toList.map (·.born)).Nodup ∧
      m r = some (.mapIter (some b) since seen c0) ∧ (∀ x ∈ es.toList, x.born < since) ∧ since ≤ c0 ∧ since ≤ clock ∧ (leftOf es seen).toList.map (fun e => (e.key, e.val)) = rem.map (fun p => (ek p.1, ev p.2)) ∧
      ∀ p, cur = some p → ∃ e ∈ es.toList, (e.key, e.val) = (ek p.1, ev p.2) ∧ c0 = clock ∧ ∃ s : Array Nat, seen = s.push e.born,
   fun D m m' h ⟨hd, q⟩ => ⟨hd, by rw [← h b (by simp [hd]), ← h r (by simp [hd])]; exact q⟩⟩

section
variable {κ α : Type} {ek : κ → Value} {ev : α → Value} {C : Ctx} {l : Sl} {Es : List Asn} {h : Ro} {G : Value → List Asn → Ro → Prop} {ty : TypeId} {pos : String} {aft : Array Edge} {gd : Option (Nat × Bool)} {dst : Option Tmp}

theorem OpTo_range {t k e : TypeId} {x : Operand} {b : Nat} {m : List (κ × α)} {T : Ty} {Es' : Nat → List Asn} (hT : tyOf t C.ts = some T) (hTd : T.desc = .map k e)
    (hx : evl l x = some (.map (some b))) (hR : ∀ r, Repl Es (MapA ek ev b m) (RngA ek ev b r m m none) (Es' r)) (g : ∀ r, G (.pointer (some ⟨r, 0, none⟩)) (Es' r) h) :
    OpTo C l Es h ⟨dst, .range t x, ty, pos, aft, gd⟩ G := fun a w hs hp => by
  obtain ⟨D0, hu, hb0⟩ := C.ok.und hT
  rw [hTd] at hb0
  rw [blank_map hb0] at hu
  obtain ⟨Ds, hown, hnod, hbd⟩ := hp.own
  obtain ⟨D, ⟨hD, es, clock, hb, hes, hcl, hnd⟩, hDn, hsub, _⟩ := (hR 0).own hown hnod
  have hb : w.heap[b]? = some (.map es clock) := hb
  have hrun := run_range_map (P := C.P) w t k e b es clock hu hb
  refine .inl ⟨_, _, Es' w.heap.size, h, by simp only [execOp, hs.eval hx, Sem.run_bind, hrun, Result.andThen_ok]; rfl, ?_, g _⟩
  refine hp.repl (hR w.heap.size) rfl rfl rfl (by show _ ≤ (w.heap.push _).size; simp) fun D hA hDn hDl => ?_
  obtain ⟨rfl, _⟩ := hA
  have hbl : b < w.heap.size := hDl b (by simp)
  have h1 : (w.alloc (.mapIter (some b) clock #[] clock)).heap[b]? = some (.map es clock) := by
    show (w.heap.push _)[b]? = _
    rw [heap_push_lt hbl]; exact hb
  refine ⟨[b, w.heap.size], ⟨rfl, es, clock, clock, #[], clock, h1, hes, hcl, hnd, ?_, hcl, Nat.le_refl _, Nat.le_refl _, ?_, by simp⟩, by simp; omega, ?_, ?_⟩
  · show (w.heap.push _)[w.heap.size]? = _
    simp
  · have : leftOf es #[] = es := by simp [leftOf]
    rw [this]; exact hes
  · intro q hq
    simp only [List.mem_cons, List.not_mem_nil, or_false] at hq
    rcases hq with rfl | rfl
    · exact ⟨.inl (by simp), by show _ < (w.heap.push _).size; simp; omega⟩
    · exact ⟨.inr (Nat.le_refl _), by show _ < (w.heap.push _).size; simp⟩
  · intro i hi _
    exact heap_push_lt hi

theorem left_pick {es : Array MapEntry} {seen : Array Nat} {L1 L2 : List MapEntry} {e : MapEntry} (hnd : (es.toList.map (·.born)).Nodup) (hL : (leftOf es seen).toList = L1 ++ e :: L2) :
    (leftOf es (seen.push e.born)).toList = L1 ++ L2 := by
  have e1 : (leftOf es (seen.push e.born)).toList = (leftOf es seen).toList.filter fun x => !(x.born == e.born) := by
    simp only [leftOf, Array.toList_filter, List.filter_filter]
    congr 1
    funext x
    rw [contains_push]
    cases seen.contains x.born <;> cases hx : (x.born == e.born) <;> simp_all
  have hs : ((L1 ++ e :: L2).map (·.born)).Nodup := by
    rw [← hL]
    simp only [leftOf, Array.toList_filter]
    exact (List.Sublist.map _ List.filter_sublist).nodup hnd
  rw [e1, hL, List.filter_append, List.filter_cons]
  simp only [List.map_append, List.map_cons, List.nodup_append, List.nodup_cons] at hs
  have k1 : L1.filter (fun x => !(x.born == e.born)) = L1 := List.filter_eq_self.2 fun x hx => by
    have := hs.2.2 x.born (List.mem_map.2 ⟨x, hx, rfl⟩) e.born (by simp)
    simpa using this
  have k2 : L2.filter (fun x => !(x.born == e.born)) = L2 := List.filter_eq_self.2 fun x hx => by
    have : x.born ≠ e.born := fun e' => hs.2.1.1 (List.mem_map.2 ⟨x, hx, e'⟩)
    simpa using this
  rw [k1, k2]; simp

theorem OpTo_next {x : Operand} {b r : Nat} {m rem : List (κ × α)} {cur : Option (κ × α)} {Es' : List (κ × α) → Option (κ × α) → List Asn}
    (hx : evl l x = some (.pointer (some ⟨r, 0, none⟩))) (hR : ∀ rem' cur', Repl Es (RngA ek ev b r m rem cur) (RngA ek ev b r m rem' cur') (Es' rem' cur'))
    (g0 : rem = [] → G (.tuple #[.bool false]) Es h) (g1 : ∀ p r1 r2, rem = r1 ++ p :: r2 → G (.tuple #[.bool true, ek p.1, ev p.2]) (Es' (r1 ++ r2) (some p)) h) :
    OpTo C l Es h ⟨dst, .next x false, ty, pos, aft, gd⟩ G := fun a w hs hp => by
  obtain ⟨Ds, hown, hnod, hbd⟩ := hp.own
  obtain ⟨D, ⟨hD, es, clock, since, seen, c0, hb, hes, hcl, hnd, hr, hsi, hsc, hsk, hrem, hcur⟩, hDn, hsub, _⟩ := (hR rem cur).own hown hnod
  have hb : w.heap[b]? = some (.map es clock) := hb
  have hr : w.heap[r]? = some (.mapIter (some b) since seen c0) := hr
  rcases run_next_at (P := C.P) w ty r b since c0 seen es clock hr hb hsi hsc with ⟨h0, hrun⟩ | ⟨e, he, w1, hal, hrun⟩
  · have hnil : rem = [] := by
      have : (leftOf es seen) = #[] := Array.eq_empty_of_size_eq_zero h0
      rw [this] at hrem
      cases rem with
      | nil => rfl
      | cons p q => cases hrem
    exact .inl ⟨_, w, Es, h, by simp only [execOp, hs.eval hx, Sem.run_bind, hrun, Result.andThen_ok]; rfl, hp, g0 hnil⟩
  · obtain ⟨L1, L2, hL⟩ := List.append_of_mem he
    have hem := (mem_left he).1
    rw [hL, List.map_append, List.map_cons] at hrem
    obtain ⟨r1, r2', hr12, hm1, hm2⟩ := List.map_eq_append_iff.1 hrem.symm
    obtain ⟨p, r2, rfl, hp1, hp2⟩ := List.map_eq_cons_iff.1 hm2
    subst hr12
    have hpk : ek p.1 = e.key ∧ ev p.2 = e.val := by injection hp1 with q1 q2; exact ⟨q1, q2⟩
    have hr1 : w1.heap[r]? = some (.mapIter (some b) since seen c0) := by rcases hal with rfl | rfl <;> exact hr
    have hne : r ≠ b := fun e' => by rw [e', hb] at hr; cases hr
    have hp' : Hp C.w0 C.X0 C.h0 Es h w1 := by rcases hal with rfl | rfl; exact hp; exact hp.drew
    have hw1 : w1.heap = w.heap := by rcases hal with rfl | rfl <;> rfl
    refine .inl ⟨.tuple #[.bool true, ek p.1, ev p.2], _, Es' (r1 ++ r2) (some p), h, by simp only [execOp, hs.eval hx, Sem.run_bind, hrun, Result.andThen_ok, hpk.1, hpk.2]; rfl, ?_, g1 p r1 r2 rfl⟩
    refine hp'.repl (hR _ _) rfl rfl rfl (by simp [ChangeMaps.setBlock]) fun D hA hDn hDl => ?_
    obtain ⟨rfl, _⟩ := hA
    have hb1 : (ChangeMaps.setBlock w1 r (.mapIter (some b) since (seen.push e.born) clock)).heap[b]? = some (.map es clock) := by
      have q := (MapKept.heap_set (o' := .mapIter (some b) since (seen.push e.born) clock) hr1).2 b (Ne.symm hne)
      exact q.trans (by rw [hw1]; exact hb)
    refine ⟨[b, r], ⟨rfl, es, clock, since, seen.push e.born, clock, hb1, hes, hcl, hnd, (MapKept.heap_set hr1).1, hsi, hsk, hsk, ?_, ?_⟩, by simpa using Ne.symm hne, fun q hq => ⟨.inl hq, by have := hDl q hq; simpa [ChangeMaps.setBlock] using this⟩, fun i hi hni => ?_⟩
    · rw [left_pick hnd hL, List.map_append, List.map_append, hm1, hp2]
    · rintro q hq
      injection hq with hq
      subst hq
      exact ⟨e, hem, by rw [hpk.1, hpk.2], rfl, seen, rfl⟩
    · exact (MapKept.heap_set hr1).2 i (fun e' => hni (by simp [e']))

theorem OV_entry {x : Operand} {b r : Nat} {m rem : List (κ × α)} {p : κ × α} (hx : evl l x = some (.pointer (some ⟨r, 0, none⟩))) :
    OV C l [RngA ek ev b r m rem (some p)] h ⟨dst, .entry x, ty, pos, aft, gd⟩ (.tuple #[ek p.1, ev p.2]) :=
  ⟨rfl, fun a w hs hn hm => by
    obtain ⟨D, hD, es, clock, since, seen, c0, hb, hes, hcl, hnd, hr, hsi, hsc, hsk, hrem, hcur⟩ := hn _ (.head _)
    obtain ⟨e, he, hev, rfl, s, rfl⟩ := hcur p rfl
    injection hev with q1 q2
    have := run_entry_at (P := C.P) w r b since s es c0 e hr hb he hnd
    simp only [execOp, hs.eval hx, Sem.run_bind, this, Result.andThen_ok, q1, q2]
    rfl⟩

/-- The range is over: the map is the call's own again. -/
theorem GO_rngEnd {ds : List Deferred} {K : List Item} {Es' : List Asn} {b r : Nat} {m rem : List (κ × α)} {cur : Option (κ × α)} (hR : Repl Es (RngA ek ev b r m rem cur) (MapA ek ev b m) Es') (g : GO C ds l Es' h K) : GO C ds l Es h K :=
  fun a w s => g a w ⟨s.size, s.defers, s.slots, s.hp.repl hR rfl rfl rfl (Nat.le_refl _) fun D hA hDn hDl => by
    obtain ⟨rfl, es, clock, since, seen, c0, hb, hes, hcl, hnd, _⟩ := hA
    exact ⟨[b], ⟨rfl, es, clock, hb, hes, hcl, hnd⟩, by simp, fun q hq => ⟨.inl (by simp at hq; simp [hq]), hDl q (by simp at hq; simp [hq])⟩, fun _ _ _ => rfl⟩⟩
end
end Go.Hw
/-
  Hw, part M: contracts of one value; lists that the call owns.
-/
set_option linter.unusedVariables false
namespace Go.Hw
open Go

theorem Hp.shrink {w0 w : World} {X0 : List Nat} {h0 h h' : Ro} {Es : List Asn} (H : Hp w0 X0 h0 Es h' w) (hl : Le h h') (h0l : Le h0 h) : Hp w0 X0 h0 Es h w :=
  ⟨H.os, H.tape, H.output, H.size, H.dr, H.old, hl.trans H.ro, h0l, fun i o e => H.new i o (hl i o e), by
    obtain ⟨Ds, ho, hn, hb⟩ := H.own
    refine ⟨Ds, ho, hn, fun b h1 => ⟨?_, (hb b h1).2⟩⟩
    cases e : h b with
    | none => rfl
    | some o => have := hl b o e; rw [(hb b h1).1] at this; cases this⟩

/-- f comes back with v, and leaves nothing behind. -/
def valPost (v0 : Value) : Value → List Asn → Ro → Prop := fun u Es _ => u = v0 ∧ Es = []
def Val (P : Program) (f : FuncId) (args : Array Value) (h : Ro) (v : Value) : Prop := Fn P f args [] h (valPost v)
theorem Val_intro {P : Program} {ts : List Ty} (ok : TsOk P ts) {f : FuncId} {fn : Func} {c : Code} {args : List Value} {h0 : Ro} {v : Value}
    (hf : P.funcs[f]? = some fn) (hb : fn.body = some c) (hn : Nat.ble args.length fn.ntmps = true)
    (g : ∀ w0 X0, GO (mkC P ts ok fn w0 X0 h0 (valPost v)) [] (argS 0 args) [] h0 [.code c]) : Val P f args.toArray h0 v := Fn_intro ok hf hb hn g

section
variable {C : Ctx} {ds : List Deferred} {l : Sl} {Es : List Asn} {h : Ro} {K : List Item} {ops : Array Oper} {os : List Oper} {G : Value → List Asn → Ro → Prop}
  {ty : TypeId} {pos : String} {aft : Array Edge} {gd : Option (Nat × Bool)} {dst : Option Tmp}

theorem Hp.le0 {w0 w : World} {X0 : List Nat} {h0 h : Ro} {Es : List Asn} (H : Hp w0 X0 h0 Es h w) : Le h0 h := H.le

theorem OpTo_val {xs : Array Operand} {tys : Array TypeId} {f : FuncId} {vs : List Value} {v : Value}
    (hxs : evlL l xs.toList = some vs) (hh : Has C.P f) (hf : Val C.P f vs.toArray h v) (g : G v Es h) : OpTo C l Es h ⟨dst, .call ⟨.value (.func f), xs, tys⟩, ty, pos, aft, gd⟩ G := fun a w hs hp => by
  have := OpTo_callF (C := C) (l := l) (Es := Es) (h := h) (d := dst) (tys := tys) (ty := ty) (pos := pos) (aft := aft) (gd := gd) (Fs := Es) (G := fun v' Es' h' => v' = v ∧ Es' = Es ∧ Le h h') hxs (by rfl) hh hf
    (fun v' Es' h' hle ⟨e1, e2⟩ => ⟨e1, by rw [e2]; rfl, hle⟩) a w hs hp
  have fin : ∀ v' w' Es' h', Hp C.w0 C.X0 C.h0 Es' h' w' → (v' = v ∧ Es' = Es ∧ Le h h') → Hp C.w0 C.X0 C.h0 Es h w' ∧ G v' Es h := fun v' w' Es' h' H ⟨e1, e2, e3⟩ => by
    subst e1; subst e2; exact ⟨H.shrink e3 hp.le, g⟩
  rcases this with ⟨v', w', Es', h', hr, H, q⟩ | ⟨w', Es', h', hr, H, q⟩ | ⟨f, args, w1, hr, hc⟩ | ⟨r, f, tmps, assign, body, w1, n, hr, hc⟩
  · exact .inl ⟨v', w', Es, h, hr, fin _ _ _ _ H q⟩
  · exact .inr (.inl ⟨w', Es, h, hr, fin _ _ _ _ H q⟩)
  · exact .inr (.inr (.inl ⟨f, args, w1, hr, hc.mono fun _ _ ⟨v', he, Es', h', H, q⟩ => ⟨v', he, Es, h, fin _ _ _ _ H q⟩⟩))
  · exact .inr (.inr (.inr ⟨r, f, tmps, assign, body, w1, n, hr, hc.mono fun _ _ ⟨v', he, Es', h', H, q⟩ => ⟨v', he, Es, h, fin _ _ _ _ H q⟩⟩))

/-- A call of a function value. -/
theorem OpTo_valF {c : Operand} {xs : Array Operand} {tys : Array TypeId} {f : FuncId} {fs cs vs : List Value} {v : Value}
    (hc : evl l c = some (.func (.func f) fs.toArray cs.toArray)) (hxs : evlL l xs.toList = some vs) (hh : Has C.P f) (hf : Val C.P f (fs ++ vs ++ cs).toArray h v) (g : G v Es h) : OpTo C l Es h ⟨dst, .call ⟨.value c, xs, tys⟩, ty, pos, aft, gd⟩ G := fun a w hs hp => by
  have := OpTo_call' (C := C) (l := l) (Es := Es) (h := h) (d := dst) (tys := tys) (ty := ty) (pos := pos) (aft := aft) (gd := gd) (Fs := Es) (G := fun v' Es' h' => v' = v ∧ Es' = Es ∧ Le h h') hc hxs (by rfl) hh hf
    (fun v' Es' h' hle ⟨e1, e2⟩ => ⟨e1, by rw [e2]; rfl, hle⟩) a w hs hp
  have fin : ∀ v' w' Es' h', Hp C.w0 C.X0 C.h0 Es' h' w' → (v' = v ∧ Es' = Es ∧ Le h h') → Hp C.w0 C.X0 C.h0 Es h w' ∧ G v' Es h := fun v' w' Es' h' H ⟨e1, e2, e3⟩ => by
    subst e1; subst e2; exact ⟨H.shrink e3 hp.le, g⟩
  rcases this with ⟨v', w', Es', h', hr, H, q⟩ | ⟨w', Es', h', hr, H, q⟩ | ⟨f, args, w1, hr, hc⟩ | ⟨r, f, tmps, assign, body, w1, n, hr, hc⟩
  · exact .inl ⟨v', w', Es, h, hr, fin _ _ _ _ H q⟩
  · exact .inr (.inl ⟨w', Es, h, hr, fin _ _ _ _ H q⟩)
  · exact .inr (.inr (.inl ⟨f, args, w1, hr, hc.mono fun _ _ ⟨v', he, Es', h', H, q⟩ => ⟨v', he, Es, h, fin _ _ _ _ H q⟩⟩))
  · exact .inr (.inr (.inr ⟨r, f, tmps, assign, body, w1, n, hr, hc.mono fun _ _ ⟨v', he, Es', h', H, q⟩ => ⟨v', he, Es, h, fin _ _ _ _ H q⟩⟩))

/-- Any operation of a region in the order of its text. -/
theorem GOl_to {op : Op} (hg : wantedB ops l gd = some true) (hd : dstOk C.N dst = true) (hx : isDefer op = false)
    (g : OpTo C l Es h ⟨dst, op, ty, pos, aft, gd⟩ fun v Es' h' => GOl C ds (putS dst v l) Es' h' ops os K) : GOl C ds l Es h ops (⟨dst, op, ty, pos, aft, gd⟩ :: os) K :=
  GOl_op (o := ⟨dst, op, ty, pos, aft, gd⟩) hg hd hx g
theorem GOl_ov {op : Op} {d : Tmp} {nd : List Asn} {v : Value} (hg : wantedB ops l gd = some true) (hd : dstOk C.N (some d) = true) (hv : OV C l nd h ⟨some d, op, ty, pos, aft, gd⟩ v) (hnd : AllIn Es nd)
    (g : GOl C ds ((d, v) :: l) Es h ops os K) : GOl C ds l Es h ops (⟨some d, op, ty, pos, aft, gd⟩ :: os) K :=
  GOl_op (o := ⟨some d, op, ty, pos, aft, gd⟩) hg hd hv.1 (OpTo_ov hv hnd g)
end


/-! ### Rules for the driver -/
section
variable {C : Ctx} {ds : List Deferred} {l l0 l' : Sl} {Es : List Asn} {h : Ro} {K : List Item} {os : List Oper} {Vs : List Dn} {pl : List (Nat × Nat)}
  {d : Tmp} {ty : TypeId} {pos : String} {aft : Array Edge} {gd : Option (Nat × Bool)} {i : Nat}

theorem GP_loadB {t e : TypeId} {x : Operand} {b off : Nat} {cs : List Value} {T : Ty} {v : Value} (ho : lnth i os = some ⟨some d, .load t x, ty, pos, aft, gd⟩) (hc : canB Vs i ⟨some d, .load t x, ty, pos, aft, gd⟩ = true)
    (hl : pickF (opSlots os.toArray ⟨some d, .load t x, ty, pos, aft, gd⟩) (sl Vs l0) = some l')
    (hg : wantedB os.toArray l' gd = some true) (hx : evl l' x = some (.pointer (some ⟨b, off, none⟩))) (hm : Blk b e cs ∈ Es) (hT : tyOf t C.ts = some T) (hv : pvPart off T.size T.agg cs = some v)
    (g : GDp pl C ds l0 (⟨i, some d, v, [Blk b e cs], true⟩ :: Vs) Es h os.toArray K) : GDp ((i, 0) :: pl) C ds l0 Vs Es h os.toArray K :=
  GP_ov ho hc hl hg (OV_load hx (Lv_blk hT hv)) ⟨hm, trivial⟩ g

theorem GP_add {t ty' : TypeId} {x y : Operand} {p q : Int} {T : Ty} (ho : lnth i os = some ⟨some d, .binOp .add t x y ty', ty, pos, aft, gd⟩) (hc : canB Vs i ⟨some d, .binOp .add t x y ty', ty, pos, aft, gd⟩ = true)
    (hl : pickF (opSlots os.toArray ⟨some d, .binOp .add t x y ty', ty, pos, aft, gd⟩) (sl Vs l0) = some l') (hg : wantedB os.toArray l' gd = some true)
    (hT : tyOf t C.ts = some T) (hx : evl l' x = some (.int .i64 p)) (hy : evl l' y = some (.int .i64 q)) (hb : -9223372036854775808 ≤ p + q ∧ p + q ≤ 9223372036854775807)
    (g : GDp pl C ds l0 (⟨i, some d, .int .i64 (p + q), [], true⟩ :: Vs) Es h os.toArray K) : GDp ((i, 0) :: pl) C ds l0 Vs Es h os.toArray K := GP_ov (nd := []) ho hc hl hg (OV_add hT hx hy hb) trivial g
theorem GP_sub {t ty' : TypeId} {x y : Operand} {p q : Int} {T : Ty} (ho : lnth i os = some ⟨some d, .binOp .sub t x y ty', ty, pos, aft, gd⟩) (hc : canB Vs i ⟨some d, .binOp .sub t x y ty', ty, pos, aft, gd⟩ = true)
    (hl : pickF (opSlots os.toArray ⟨some d, .binOp .sub t x y ty', ty, pos, aft, gd⟩) (sl Vs l0) = some l') (hg : wantedB os.toArray l' gd = some true)
    (hT : tyOf t C.ts = some T) (hx : evl l' x = some (.int .i64 p)) (hy : evl l' y = some (.int .i64 q)) (hb : -9223372036854775808 ≤ p - q ∧ p - q ≤ 9223372036854775807)
    (g : GDp pl C ds l0 (⟨i, some d, .int .i64 (p - q), [], true⟩ :: Vs) Es h os.toArray K) : GDp ((i, 0) :: pl) C ds l0 Vs Es h os.toArray K := GP_ov (nd := []) ho hc hl hg (OV_sub hT hx hy hb) trivial g

theorem GO_dropAll (g : GO C ds l [] h K) : GO C ds l Es h K := by
  induction Es with
  | nil => exact g
  | cons A Es ih => exact GO_drop Take.here ih

/-- The way out of a call that comes back with v0 and leaves nothing behind. -/
theorem GO_retV {fn : Func} {v0 : Value} {rs : List ResultVar} {vs : List Value} (hQ : C.Q = fnQ C.P fn C.w0 C.X0 C.h0 (valPost v0)) (hr : fn.results = rs.toArray) (hv : ResV C l Es h rs vs) (hP : resVal vs = v0) :
    GO C [] l Es h (.code .ret :: K) := fun a w s => todo_ret (by
  rw [hQ]
  show LeavesInM _ _ _ _ _ _ a.defers _ _
  rw [s.defers]
  refine ⟨_, results_ok hr s.slots s.hp hv, _, rfl, [], h, ⟨hP, rfl⟩, ?_⟩
  have : ∀ {Es : List Asn}, Hp C.w0 C.X0 C.h0 Es h w → Hp C.w0 C.X0 C.h0 [] h w := by
    intro Es
    induction Es with
    | nil => exact id
    | cons A Es ih => exact fun H => ih (H.drop Take.here)
  exact this s.hp)
theorem GO_retV1 {fn : Func} {v0 v : Value} {t : Nat} (hQ : C.Q = fnQ C.P fn C.w0 C.X0 C.h0 (valPost v0)) (hr : fn.results = #[.tmp t]) (hv : look t l = some v) (hP : v = v0) : GO C [] l Es h (.code .ret :: K) :=
  GO_retV (rs := [.tmp t]) (vs := [v]) hQ hr ⟨hv, trivial⟩ hP
theorem GO_retV2 {fn : Func} {v0 v u : Value} {t s : Nat} (hQ : C.Q = fnQ C.P fn C.w0 C.X0 C.h0 (valPost v0)) (hr : fn.results = #[.tmp t, .tmp s]) (hv : look t l = some v) (hu : look s l = some u) (hP : .tuple #[v, u] = v0) : GO C [] l Es h (.code .ret :: K) :=
  GO_retV (rs := [.tmp t, .tmp s]) (vs := [v, u]) hQ hr ⟨hv, hu, trivial⟩ hP
theorem GO_retV3 {fn : Func} {v0 v u x : Value} {t s r : Nat} (hQ : C.Q = fnQ C.P fn C.w0 C.X0 C.h0 (valPost v0)) (hr : fn.results = #[.tmp t, .tmp s, .tmp r]) (hv : look t l = some v) (hu : look s l = some u) (hx : look r l = some x) (hP : .tuple #[v, u, x] = v0) : GO C [] l Es h (.code .ret :: K) :=
  GO_retV (rs := [.tmp t, .tmp s, .tmp r]) (vs := [v, u, x]) hQ hr ⟨hv, hu, hx, trivial⟩ hP
theorem GO_retC1 {fn : Func} {v0 v : Value} {t T b off e : Nat} {cs : List Value} {Ty : Ty} (hQ : C.Q = fnQ C.P fn C.w0 C.X0 C.h0 (valPost v0)) (hr : fn.results = #[.cell t T]) (ht : look t l = some (.pointer (some ⟨b, off, none⟩))) (hm : Blk b e cs ∈ Es) (hT : tyOf T C.ts = some Ty)
    (hv : pvPart off Ty.size Ty.agg cs = some v) (hP : v = v0) : GO C [] l Es h (.code .ret :: K) :=
  GO_retV (rs := [.cell t T]) (vs := [v]) hQ hr ⟨⟨_, ht, Ld_blk hT hm hv⟩, trivial⟩ hP
theorem GO_retC2 {fn : Func} {v0 v u : Value} {t T b off e s : Nat} {cs : List Value} {Ty : Ty} (hQ : C.Q = fnQ C.P fn C.w0 C.X0 C.h0 (valPost v0)) (hr : fn.results = #[.cell t T, .tmp s]) (ht : look t l = some (.pointer (some ⟨b, off, none⟩))) (hm : Blk b e cs ∈ Es) (hT : tyOf T C.ts = some Ty)
    (hv : pvPart off Ty.size Ty.agg cs = some v) (hu : look s l = some u) (hP : .tuple #[v, u] = v0) : GO C [] l Es h (.code .ret :: K) :=
  GO_retV (rs := [.cell t T, .tmp s]) (vs := [v, u]) hQ hr ⟨⟨_, ht, Ld_blk hT hm hv⟩, hu, trivial⟩ hP
end

/-! ### Lists that the call owns -/
def OwnL {α : Type} (e sz : Nat) (enc : α → List Value) (v : Value) (l : List α) : Asn := OwnS e sz v l.length (l.flatMap enc)
end Go.Hw

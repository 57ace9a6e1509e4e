/-
  Hw, part A: a walk over the machine's own stack of what is still to do ('Todo'), and a state told by lists: slots, owned assertions, a part of memory that is only read.
-/
import Derived.RangeFuncLeaves
import Derived.Maps.AppendAt
import Derived.Laws.MakeOwn
import Derived.Below
set_option linter.unusedVariables false
namespace Go.Hw
open Go

/-! ### The walk over the stack -/

def fence (ro : Option Nat) : Fence := { Fence.wide with round := ro }

theorem fence_fenced (P : Program) (ro : Option Nat) (m : Machine) : m.fenced P (fence ro) := by
  intro g _
  refine ⟨fun h => ?_, Or.inl trivial, fun _ _ => trivial, fun _ h => ?_⟩
  · simp [fence, Fence.wide] at h
  · simp [fence, Fence.wide] at h

theorem fence_room (ro : Option Nat) (n : Nat) : (fence ro).room n := fun _ h => by simp [fence, Fence.wide] at h

abbrev StepsW (P : Program) := StepsIn (fun _ => True) P

theorem stepsW_in {P : Program} {ro : Option Nat} {m m' : Machine} (h : StepsW P m m') : StepsIn (Machine.fenced P (fence ro)) P m m' :=
  h.mono fun m _ => fence_fenced P ro m
theorem stepsW_of {P : Program} {ro : Option Nat} {m m' : Machine} (h : StepsIn (Machine.fenced P (fence ro)) P m m') : StepsW P m m' :=
  h.mono fun _ _ => trivial

/-- From the stack 'todo', in a frame whose round is 'ro', the activation comes to an end that Q takes. -/
def Todo (P : Program) (ro : Option Nat) (todo : List Item) (Q : Exit → Act → World → Prop) (a : Act) (w : World) : Prop :=
  ∀ (b : Frame) (cs : List Frame), b.roundOf = ro →
    ∃ e a' w', Q e a' w' ∧ ArrivesIn (fun _ => True) P (lone (b.atR a todo) cs w) b [] cs e a' w'

section rules
variable {P : Program} {ro : Option Nat} {Q : Exit → Act → World → Prop} {a : Act} {w : World} {k : List Item}

theorem Todo.step {todo todo' : List Item} {a' : Act} {w' : World} (hs : ∀ (b : Frame) (cs : List Frame), b.roundOf = ro → StepsW P (lone (b.atR a todo) cs w) (lone (b.atR a' todo') cs w'))
    (h : Todo P ro todo' Q a' w') : Todo P ro todo Q a w := fun b cs hb =>
  let ⟨e, a₁, w₁, q, r⟩ := h b cs hb; ⟨e, a₁, w₁, q, .of_steps (hs b cs hb) r⟩

theorem todo_skip (h : Todo P ro k Q a w) : Todo P ro (.code .skip :: k) Q a w := .step (fun _ _ _ => .one trivial stepR_skip) h
theorem todo_label {l : Nat} (h : Todo P ro k Q a w) : Todo P ro (.code (.label l) :: k) Q a w := .step (fun _ _ _ => .one trivial stepR_label) h
theorem todo_inBlock {id : Nat} (h : Todo P ro k Q a w) : Todo P ro (.inBlock id :: k) Q a w := .step (fun _ _ _ => .one trivial stepR_inBlock) h
theorem todo_seq {x y : Code} (h : Todo P ro (.code x :: .code y :: k) Q a w) : Todo P ro (.code (.seq x y) :: k) Q a w := .step (fun _ _ _ => .one trivial stepR_seq) h
theorem todo_block {id : Nat} {c : Code} (h : Todo P ro (.code c :: .inBlock id :: k) Q a w) : Todo P ro (.code (.block id c) :: k) Q a w := .step (fun _ _ _ => .one trivial stepR_block) h
theorem todo_loop {c : Code} (h : Todo P ro (.code c :: .inLoop c :: k) Q a w) : Todo P ro (.code (.loop c) :: k) Q a w := .step (fun _ _ _ => .one trivial stepR_loop) h
theorem todo_inLoop {c : Code} (h : Todo P ro (.code c :: .inLoop c :: k) Q a w) : Todo P ro (.inLoop c :: k) Q a w := .step (fun _ _ _ => .one trivial stepR_inLoop) h
theorem todo_exit {id : Nat} {k' : List Item} (hx : exitTo id k = some k') (h : Todo P ro k' Q a w) : Todo P ro (.code (.exit id) :: k) Q a w := .step (fun _ _ _ => .one trivial (stepR_exit hx)) h
theorem todo_goto {l : Nat} {k' : List Item} (hx : gotoIn l k = some k') (h : Todo P ro k' Q a w) : Todo P ro (.code (.goto l) :: k) Q a w := .step (fun _ _ _ => .one trivial (stepR_goto hx)) h
theorem todo_cond {c : Operand} {x y : Code} {t : Bool} (hc : a.eval c = .bool t) (h : Todo P ro (.code (if t then x else y) :: k) Q a w) : Todo P ro (.code (.cond c x y) :: k) Q a w :=
  .step (fun _ _ _ => .one trivial (stepR_cond hc)) h
theorem todo_ret (h : Q .ret a w) : Todo P ro (.code .ret :: k) Q a w := fun b cs hb =>
  ⟨.ret, a, w, h, fun hn => ⟨_, .one trivial (stepR_ret hn)⟩, fun _ => ⟨k, .refl _⟩⟩
theorem todo_end (h : Q .normal a w) : Todo P ro [] Q a w := fun b cs hb => ⟨.normal, a, w, h, .refl _⟩
theorem todo_region {id : Nat} {ops : Array Oper} (h : Todo P ro (.inRegion ops (List.range ops.size) :: k) Q a w) : Todo P ro (.code (.region id ops false) :: k) Q a w :=
  .step (fun _ _ _ => .one trivial stepR_region) h
theorem todo_region_end {ops : Array Oper} (h : Todo P ro k Q a w) : Todo P ro (.inRegion ops [] :: k) Q a w := .step (fun _ _ _ => .one trivial stepR_region_end) h
/-- A region that draws: whatever schedule comes. -/
theorem todo_draw {id : Nat} {ops : Array Oper} (h : ∀ t, Todo P ro (.inRegion ops (Region.schedule (P.follows .mixedOrders) ops t) :: k) Q a { w with drawn := w.drawn + 1 }) :
    Todo P ro (.code (.region id ops true) :: k) Q a w := fun b cs hb =>
  let ⟨e, a₁, w₁, q, r⟩ := h (w.tape w.drawn (.order b.fn id)) b cs hb; ⟨e, a₁, w₁, q, .of_steps (.one trivial stepR_region_draw) r⟩

/-- Code whose walk is known by the kit's own 'wpIn'. -/
theorem todo_wpIn {c : Code} {Q' : Exit → Act → World → Prop} {n : Nat} (h : c.wpIn (fence ro) n P Q' a w)
    (hn : ∀ a' w', Q' .normal a' w' → Todo P ro k Q a' w')
    (hx : ∀ id k' a' w', Q' (.exit id) a' w' → exitTo id k = some k' → Todo P ro k' Q a' w')
    (hx0 : ∀ id a' w', Q' (.exit id) a' w' → exitTo id k = none → Q (.exit id) a' w')
    (hr : ∀ a' w', Q' .ret a' w' → Q .ret a' w')
    (hg : ∀ l a' w', ¬ Q' (.goto l) a' w') (hp : ∀ c a' w', ¬ Q' (.panic c) a' w') (ho : ∀ a' w', ¬ Q' .outgrown a' w') :
    Todo P ro (.code c :: k) Q a w := by
  intro b cs hb
  obtain ⟨e, a₁, w₁, hq, harr⟩ := h b k cs hb trivial (fence_room _ _)
  cases e with
  | normal =>
    obtain ⟨e₂, a₂, w₂, q₂, r₂⟩ := hn a₁ w₁ hq b cs hb
    exact ⟨e₂, a₂, w₂, q₂, .of_steps (stepsW_of harr) r₂⟩
  | exit id =>
    cases hk : exitTo id k with
    | some k' =>
      obtain ⟨e₂, a₂, w₂, q₂, r₂⟩ := hx id k' a₁ w₁ hq hk b cs hb
      exact ⟨e₂, a₂, w₂, q₂, .of_steps (stepsW_of (harr.1 k' hk)) r₂⟩
    | none =>
      refine ⟨.exit id, a₁, w₁, hx0 id a₁ w₁ hq hk, fun k' hk' => by simp [exitTo] at hk', fun hro _ => ?_⟩
      obtain ⟨k₁, h1, h2⟩ := harr.2 hro hk
      exact ⟨k₁, h1, stepsW_of h2⟩
  | ret =>
    refine ⟨.ret, a₁, w₁, hr _ _ hq, fun hro => ?_, fun hro => ?_⟩
    · obtain ⟨t, hs⟩ := harr.1 hro
      exact ⟨t, stepsW_of hs⟩
    · obtain ⟨t, hs⟩ := harr.2 hro
      exact ⟨t, stepsW_of hs⟩
  | goto l => exact (hg _ _ _ hq).elim
  | panic c => exact (hp _ _ _ hq).elim
  | outgrown => exact (ho _ _ hq).elim

/-! ### One operation -/
section op
variable {ops : Array Oper} {i : Nat} {rest : List Nat} {o : Oper}

theorem semAt_plain (hd : ∀ c, o.op ≠ .defer c) (ρ : Operand → Value) : o.semAt ro ρ = execOp ρ o := Oper.semAt_eq ro ρ o hd

theorem todo_unwanted (ho : ops[i]? = some o) (hw : Region.wanted o (yielded ops a.tmps) = false) (h : Todo P ro (.inRegion ops rest :: k) Q (a.put o.dst undef) w) :
    Todo P ro (.inRegion ops (i :: rest) :: k) Q a w := by
  refine .step (fun b cs hb => .one trivial ?_) h
  have hs := stepR_op_skip (P := P) (b := b) (a := a) (k := k) (cs := cs) (w := w) (ops := ops) (i := i) (rest := rest) (by simp [ho, hw])
  simpa only [ho, Option.bind_some] using hs

theorem todo_value {v : Value} {w' : World} (ho : ops[i]? = some o) (hw : Region.wanted o (yielded ops a.tmps) = true) (hd : ∀ c, o.op ≠ .defer c)
    (hr : (execOp a.eval o).run P w = .ok (.value v) w') (h : Todo P ro (.inRegion ops rest :: k) Q (a.put o.dst v) w') :
    Todo P ro (.inRegion ops (i :: rest) :: k) Q a w := by
  refine .step (fun b cs hb => .one trivial (step_lone_go ?_)) h
  have hg := stepGR_op (P := P) (b := b) (k := k) (cs := cs) (w := w) (rest := rest) ho hw
  have hfin : (b.atR a (.inRegion ops (i :: rest) :: k)).finish v = b.atR (a.put o.dst v) (.inRegion ops rest :: k) := by
    rw [Frame.finish_atR, ho]; rfl
  rw [hg, hb, semAt_plain hd, ← hfin]; simp [stepG.apply, hr]

theorem todo_unit {w' : World} (ho : ops[i]? = some o) (hw : Region.wanted o (yielded ops a.tmps) = true) (hd : ∀ c, o.op ≠ .defer c)
    (hr : (execOp a.eval o).run P w = .ok .skip w') (h : Todo P ro (.inRegion ops rest :: k) Q (a.put o.dst undef) w') :
    Todo P ro (.inRegion ops (i :: rest) :: k) Q a w := by
  refine .step (fun b cs hb => .one trivial (step_lone_go ?_)) h
  have hg := stepGR_op (P := P) (b := b) (k := k) (cs := cs) (w := w) (rest := rest) ho hw
  have hfin : (b.atR a (.inRegion ops (i :: rest) :: k)).finish undef = b.atR (a.put o.dst undef) (.inRegion ops rest :: k) := by
    rw [Frame.finish_atR, ho]; rfl
  rw [hg, hb, semAt_plain hd, ← hfin]; simp [stepG.apply, hr]

theorem todo_enter {f : FuncId} {args : Array Value} {w' : World} {R : Value → World → Prop} (ho : ops[i]? = some o) (hw : Region.wanted o (yielded ops a.tmps) = true) (hd : ∀ c, o.op ≠ .defer c)
    (hr : (execOp a.eval o).run P w = .ok (.enter f args) w') (hc : Calls P f args w' fun e w'' => ∃ v, e = .returned v ∧ R v w'')
    (h : ∀ v w'', R v w'' → Todo P ro (.inRegion ops rest :: k) Q (a.put o.dst v) w'') :
    Todo P ro (.inRegion ops (i :: rest) :: k) Q a w := by
  intro b cs hb
  have hg := stepGR_op (P := P) (b := b) (k := k) (cs := cs) (w := w) (rest := rest) ho hw
  obtain ⟨e, w'', fr, ⟨v, rfl, hR⟩, hsteps, hfn, hleave⟩ := hc (b.atR a (.inRegion ops (i :: rest) :: k) :: cs)
  obtain ⟨e₂, a₂, w₂, q₂, r₂⟩ := h v w'' hR b cs hb
  refine ⟨e₂, a₂, w₂, q₂, .of_steps ?_ r₂⟩
  have henter : step P (lone (b.atR a (.inRegion ops (i :: rest) :: k)) cs w) =
      .next (lone (Frame.enter P f args .normal) (b.atR a (.inRegion ops (i :: rest) :: k) :: cs) w') :=
    step_lone_go (by rw [hg, hb, semAt_plain hd]; simp [stepG.apply, hr, Frame.atR])
  have hfin : (b.atR a (.inRegion ops (i :: rest) :: k)).finish v = b.atR (a.put o.dst v) (.inRegion ops rest :: k) := by
    rw [Frame.finish_atR, ho]; rfl
  refine .head trivial henter (StepsIn.trans (StepsIn.of_steps hsteps) (.one trivial ?_))
  rw [← hfin]; exact step_leave_returned hleave

/-- A call of 'yield': the loop's body is run as a round. -/
theorem todo_round {l : Nat} {f : FuncId} {tmps : Array Value} {assign body : Code} {n : Nat} {w' : World} {R : Value → World → Prop} (ho : ops[i]? = some o) (hw : Region.wanted o (yielded ops a.tmps) = true) (hd : ∀ c, o.op ≠ .defer c)
    (hr : (execOp a.eval o).run P w = .ok (.round l f tmps assign body) w') (hc : RoundIn Fence.wide n P l f tmps assign body w' fun e w'' => ∃ v, e = .returned v ∧ R v w'')
    (h : ∀ v w'', R v w'' → Todo P ro (.inRegion ops rest :: k) Q (a.put o.dst v) w'') :
    Todo P ro (.inRegion ops (i :: rest) :: k) Q a w := by
  intro b cs hb
  have hg := stepGR_op (P := P) (b := b) (k := k) (cs := cs) (w := w) (rest := rest) ho hw
  obtain ⟨e, w'', ⟨v, rfl, hR⟩, hsteps⟩ := hc.2 (b.atR a (.inRegion ops (i :: rest) :: k)) cs (room_wide _)
  obtain ⟨e₂, a₂, w₂, q₂, r₂⟩ := h v w'' hR b cs hb
  refine ⟨e₂, a₂, w₂, q₂, .of_steps ?_ r₂⟩
  have henter : step P (lone (b.atR a (.inRegion ops (i :: rest) :: k)) cs w) =
      .next (lone (Frame.round l f tmps assign body .normal) (b.atR a (.inRegion ops (i :: rest) :: k) :: cs) w') :=
    step_lone_go (by rw [hg, hb, semAt_plain hd]; simp [stepG.apply, hr, Frame.atR])
  have hfin : (b.atR a (.inRegion ops (i :: rest) :: k)).finish v = b.atR (a.put o.dst v) (.inRegion ops rest :: k) := by
    rw [Frame.finish_atR, ho]; rfl
  rw [← hfin]
  exact .head trivial henter (hsteps.mono fun _ _ => trivial)
end op
end rules

/-- A function's contract out of the walk of its body (marks of ranges over functions among the deferred calls taken in). -/
theorem calls_of_todo {P : Program} {f : FuncId} {fn : Func} {c : Code} {args : Array Value} {w : World} {R : Ending → World → Prop}
    (hf : P.funcs[f]? = some fn) (hb : fn.body = some c)
    (h : Todo P none [.code c] (bodyPostM Fence.wide 0 P fn R) { tmps := args ++ Array.replicate (fn.ntmps - args.size) undef, defers := [] } w) :
    Calls P f args w R := by
  refine callsIn_wide (n := 0).1 ⟨trivial, fun cs hr => ?_⟩
  let b : Frame := { (default : Frame) with fn := f, kind := .normal, roundOf := none }
  have henter : Frame.enter P f args .normal =
      b.atR { tmps := args ++ Array.replicate (fn.ntmps - args.size) undef, defers := [] } [.code c] := by
    simp [Frame.enter, Frame.atR, hf, hb, b]
  obtain ⟨e, a', w', hq, harr⟩ := h b cs rfl
  have up : ∀ {m m' : Machine}, StepsW P m m' → StepsIn (Machine.fenced P Fence.wide) P m m' := fun h => h.mono fun m _ => fenced_wide P m
  rw [← henter] at harr
  cases e with
  | normal =>
    obtain ⟨e', w'', fr', hR, hs, hfn, hl⟩ := leaves_stepsInM a'.defers .returning w' { b.atR a' [] with mode := .returning } cs rfl rfl rfl hf rfl trivial hr hq
    exact ⟨e', w'', fr', hR, ComesIn.of_steps (StepsIn.trans (up harr) (.one (fenced_wide _ _) (stepR_end rfl))) hs, hfn, hl⟩
  | ret =>
    obtain ⟨todo, hs₀⟩ := harr.1 rfl
    obtain ⟨e', w'', fr', hR, hs, hfn, hl⟩ := leaves_stepsInM a'.defers .returning w' { b.atR a' todo with mode := .returning } cs rfl rfl rfl hf rfl trivial hr hq
    exact ⟨e', w'', fr', hR, ComesIn.of_steps (up hs₀) hs, hfn, hl⟩
  | panic chain =>
    obtain ⟨todo, hs₀⟩ := harr
    obtain ⟨e', w'', fr', hR, hs, hfn, hl⟩ := leaves_stepsInM a'.defers (.panicking chain) w' { b.atR a' todo with mode := .panicking chain } cs rfl rfl rfl hf rfl trivial hr hq
    exact ⟨e', w'', fr', hR, ComesIn.of_steps (up hs₀) hs, hfn, hl⟩
  | exit id => exact hq.elim
  | goto l => exact hq.elim
  | outgrown => exact ⟨.outgrown, w', b, hq, harr.resolve_left (by simp [b]), rfl, trivial⟩

end Go.Hw

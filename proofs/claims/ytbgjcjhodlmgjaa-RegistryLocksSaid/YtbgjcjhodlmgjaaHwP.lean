/-
  Hw, part P: ranges over functions: the caller's loop (GO_rangeFunc), a round's body, the iterator's calls of yield (OpTo_yield), the way out with marks among the deferred calls.
-/
import Derived.Test.YtbgjcjhodlmgjaaHwO
import Derived.RangeFuncRecord
set_option linter.unusedVariables false
namespace Go.Hw
open Go

/-! ### Steps -/
section steps
variable {P : Program} {ro : Option Nat} {Q : Exit → Act → World → Prop} {a : Act} {w : World} {k : List Item}

theorem todo_beginRound {l : Nat} {w' : World} (hb : (Instr.beginRound l).run P w = .ok () w') (h : Todo P (some l) k Q a w') : Todo P (some l) (.beginRound :: k) Q a w :=
  .step (fun b cs hro => .one trivial (stepR_beginRound hro hb)) h
theorem todo_exitR {id : Nat} (hx : exitTo id k = none) (h : Q (.exit id) a w) : Todo P ro (.code (.exit id) :: k) Q a w := fun b cs hb =>
  ⟨.exit id, a, w, h, fun k' hk => by simp [exitTo] at hk, fun hr _ => ⟨k, hx, .refl _⟩⟩

theorem round_of_todo {l : Nat} {f : FuncId} {tmps : Array Value} {assign body : Code} {R : Ending → World → Prop}
    (h : Todo P (some l) [.code assign, .beginRound, .code body] (roundPost P l R) { tmps := tmps, defers := [] } w) : RoundIn Fence.wide 0 P l f tmps assign body w R := by
  refine ⟨trivial, fun c cs _ => ?_⟩
  let b : Frame := { (default : Frame) with fn := f, kind := .normal, roundOf := some l }
  have hb0 : Frame.round l f tmps assign body .normal = b.atR { tmps := tmps, defers := [] } [.code assign, .beginRound, .code body] := by
    simp [Frame.round, Frame.atR, b]
  obtain ⟨e, a', w', hq, harr⟩ := h b (c :: cs) rfl
  rw [← hb0] at harr
  have up : ∀ {m m' : Machine}, StepsW P m m' → StepsIn (Machine.fenced P Fence.wide) P m m' := fun h => h.mono fun m _ => fenced_wide P m
  cases e with
  | normal =>
    obtain ⟨v, w₄, hend, hR⟩ := hq
    exact ⟨.returned v, w₄, hR, StepsIn.trans (up harr) (.one (fenced_wide _ _) (stepR_round_end rfl rfl hend))⟩
  | ret =>
    obtain ⟨v, w₄, hend, hR⟩ := hq
    obtain ⟨k₁, hs⟩ := harr.2 rfl
    exact ⟨.returned v, w₄, hR, StepsIn.trans (up hs) (.one (fenced_wide _ _) (stepR_round_ret rfl rfl hend))⟩
  | exit id =>
    obtain ⟨v, w₄, hend, hR⟩ := hq
    obtain ⟨k₁, hk, hs⟩ := harr.2 rfl rfl
    exact ⟨.returned v, w₄, hR, StepsIn.trans (up hs) (.one (fenced_wide _ _) (stepR_round_exit rfl rfl hk hend))⟩
  | goto t =>
    obtain ⟨v, w₄, hend, hR⟩ := hq
    obtain ⟨k₁, hk, hs⟩ := harr.2 rfl rfl
    exact ⟨.returned v, w₄, hR, StepsIn.trans (up hs) (.one (fenced_wide _ _) (stepR_round_goto rfl rfl hk hend))⟩
  | panic chain => exact hq.elim
  | outgrown => exact hq.elim

theorem todo_rangeFunc {g : Operand} {ps : Array Tmp} {assign body : Code}
    (h : ∀ fn : FuncId, ∃ (l : Nat) (mark : List Deferred) (w₁ : World) (d : Deferred) (w₁' : World) (f : FuncId) (args : Array Value) (w₂ : World),
      (Instr.enterLoop fn a.tmps ps assign body ro).run P w = .ok (l, mark) w₁ ∧ (resolve a.eval (rangeCall g l) 0).run P w₁ = .ok d w₁' ∧ (invoke d.target d.args).run P w₁' = .ok (.enter f args) w₂ ∧
      Calls P f args w₂ fun e w₃ => ∃ v, e = .returned v ∧ ∃ jump w₄, (Instr.endLoop l).run P w₃ = .ok jump w₄ ∧ Todo P ro ((jump.map Item.code).toList ++ k) Q { a with defers := mark ++ a.defers } w₄) :
    Todo P ro (.code (.rangeFunc g ps assign body) :: k) Q a w := by
  intro b cs hb
  obtain ⟨l, mark, w₁, d, w₁', f, args, w₂, he, hres, hinv, hcall⟩ := h b.fn
  rw [← hb] at he
  have henter := stepR_rangeFunc (P := P) (b := b) (a := a) (k := k) (cs := cs) (w := w) he hres hinv
  obtain ⟨e, w₃, fr, ⟨v, rfl, jump, w₄, hend, hj⟩, hsteps, hfn, hleave⟩ := hcall (b.atR { a with defers := mark ++ a.defers } (.inRangeFunc l :: k) :: cs)
  obtain ⟨e₂, a₂, w₅, q₂, r₂⟩ := hj b cs hb
  refine ⟨e₂, a₂, w₅, q₂, .of_steps ?_ r₂⟩
  refine .head trivial henter (StepsIn.trans (StepsIn.of_steps hsteps) (.head trivial ?_ (.one trivial (stepR_endRangeFunc hend))))
  rw [← finish_atR_inRangeFunc l v]; exact step_leave_returned hleave
end steps

/-! ### The loop's record and the block for deferred calls, owned -/
def LoopA (l : Nat) (r : Loop) : Asn := ObjA l (fun o => o = .loop r)
def DefA (d : Nat) : Asn := ObjA d (fun o => o = .deferred (some []))

section hp
variable {w0 w : World} {X0 : List Nat} {h0 h : Ro} {Es Fs : List Asn}
theorem Hp.putObj {b : Nat} {p p' : Obj → Prop} {o' : Obj} (H : Hp w0 X0 h0 (ObjA b p :: Fs) h w) (hp : p' o') : Hp w0 X0 h0 (ObjA b p' :: Fs) h (w.putObj b o') := by
  refine H.repl .here rfl rfl rfl (by simp) fun D hA hn hb => ?_
  obtain ⟨hD, o, ho, _⟩ := hA
  have hlt : b < w.heap.size := hb b (by simp [hD])
  refine ⟨D, ⟨hD, o', World.putObj_heap_same hlt, hp⟩, hn, fun i hi => ⟨.inl hi, by simpa using hb i hi⟩, fun i hi hni => World.putObj_heap_other fun e => hni (by rw [hD, e]; exact .head _)⟩

theorem Own.perm : ∀ {Es Fs : List Asn} (hp : Es.Perm Fs) {Ds : List (List Nat)} {m : Ro}, Own Es Ds m → ∃ Gs : List (List Nat), Own Fs Gs m ∧ Ds.flatten.Perm Gs.flatten := by
  intro Es Fs hp
  induction hp with
  | nil => intro Ds m ho; exact ⟨Ds, ho, .refl _⟩
  | cons A _ ih =>
    intro Ds m ho
    cases Ds with
    | nil => exact ho.elim
    | cons D Ds =>
      obtain ⟨Gs, h1, h2⟩ := ih ho.2
      exact ⟨D :: Gs, ⟨ho.1, h1⟩, by simpa using h2.append_left D⟩
  | swap A B l =>
    intro Ds m ho
    cases Ds with
    | nil => exact ho.elim
    | cons D Ds =>
      cases Ds with
      | nil => exact ho.2.elim
      | cons D2 Ds => exact ⟨D2 :: D :: Ds, ⟨ho.2.1, ho.1, ho.2.2⟩, by
          simp only [List.flatten_cons, ← List.append_assoc]; exact (List.perm_append_comm).append_right _⟩
  | trans _ _ ih1 ih2 =>
    intro Ds m ho
    obtain ⟨Gs, h1, h2⟩ := ih1 ho
    obtain ⟨Hs, h3, h4⟩ := ih2 h1
    exact ⟨Hs, h3, h2.trans h4⟩

theorem Hp.perm (H : Hp w0 X0 h0 Es h w) (hp : Es.Perm Fs) : Hp w0 X0 h0 Fs h w := by
  obtain ⟨Ds, ho, hn, hb⟩ := H.own
  obtain ⟨Gs, h1, h2⟩ := Own.perm hp ho
  exact ⟨H.os, H.tape, H.output, H.size, H.old, H.ro, H.le, H.new, Gs, h1, h2.nodup_iff.1 hn, fun b hb1 => hb b (h2.mem_iff.2 hb1)⟩

theorem Hp.obj {b : Nat} {p : Obj → Prop} (H : Hp w0 X0 h0 (ObjA b p :: Fs) h w) : ∃ o, w.heap[b]? = some o ∧ p o := by
  obtain ⟨D, _, h1⟩ := H.get (List.Mem.head _)
  exact h1
end hp

section perm
variable {C : Ctx} {ds : List Deferred} {K : List Item} {l : Sl} {Es Fs : List Asn} {h : Ro} {G : Value → List Asn → Ro → Prop}
theorem GO_perm (hp : Es.Perm Fs) (g : GO C ds l Fs h K) : GO C ds l Es h K := fun a w s => g a w ⟨s.size, s.defers, s.slots, s.hp.perm hp⟩
theorem OpTo_perm {o : Oper} (hp : Es.Perm Fs) (g : OpTo C l Fs h o G) : OpTo C l Es h o G := fun a w hs H => g a w hs (H.perm hp)
end perm

/-! ### A round -/
/-- What a round comes to: yield hands back true, and the consumer's state is as 'I' says; or false, with a jump pending. -/
def roundP (lid : Nat) (r : Loop) (I : List Asn → Ro → Prop) (Ix : Code → List Asn → Ro → Prop) : Value → List Asn → Ro → Prop := fun v Es h =>
  (v = .bool true ∧ ∃ Fs, Es = LoopA lid { r with state := .ready, pending := none } :: Fs ∧ I Fs h) ∨
  (v = .bool false ∧ ∃ c Fs, Es = LoopA lid { r with state := .done, pending := some c } :: Fs ∧ Ix c Fs h)

def rQ (P : Program) (lid : Nat) (w0 : World) (X0 : List Nat) (h0 : Ro) (Post : Value → List Asn → Ro → Prop) : Exit → Act → World → Prop :=
  roundPost P lid fun e w' => ∃ v, e = .returned v ∧ ∃ Es h, Post v Es h ∧ Hp w0 X0 h0 Es h w'

def mkR (P : Program) (ts : List Ty) (ok : TsOk P ts) (N lid : Nat) (w0 : World) (X0 : List Nat) (h0 : Ro) (Post : Value → List Asn → Ro → Prop) : Ctx :=
  { P, ts, ok, ro := some lid, N, w0, X0, h0, Q := rQ P lid w0 X0 h0 Post }

section round
variable {C : Ctx} {ds : List Deferred} {K : List Item} {l : Sl} {Es Fs : List Asn} {h : Ro} {lid : Nat} {r : Loop} {I : List Asn → Ro → Prop} {Ix : Code → List Asn → Ro → Prop}

theorem GO_begin (hro : C.ro = some lid) (hT : Take Es (LoopA lid r) Fs) (hr : r.state = .ready) (g : GO C ds l (LoopA lid { r with state := .busy } :: Fs) h K) : GO C ds l Es h (.beginRound :: K) := by
  intro a w s
  have H := s.hp.front hT
  obtain ⟨o, ho, rfl⟩ := H.obj
  have G := g a (w.putObj lid (.loop { r with state := .busy })) ⟨s.size, s.defers, s.slots, H.putObj rfl⟩
  rw [hro] at G ⊢
  exact todo_beginRound (run_beginRound ho hr) G

theorem endR {w : World} (H : Hp C.w0 C.X0 C.h0 Es h w) (hT : Take Es (LoopA lid r) Fs) (jump : Option Code) :
    (Instr.endRound lid jump).run C.P w = .ok (.bool jump.isNone) (w.putObj lid (.loop { r with state := if jump.isNone then .ready else .done, pending := jump })) ∧
    Hp C.w0 C.X0 C.h0 (LoopA lid { r with state := if jump.isNone then .ready else .done, pending := jump } :: Fs) h (w.putObj lid (.loop { r with state := if jump.isNone then .ready else .done, pending := jump })) := by
  have H := H.front hT
  obtain ⟨o, ho, rfl⟩ := H.obj
  exact ⟨run_endRound jump ho, H.putObj rfl⟩

/-- The round's end. The record that the round began with is 'r0'; the one that lies there now differs from it in its state alone. -/
theorem GO_rEnd {r0 : Loop} (hQ : C.Q = rQ C.P lid C.w0 C.X0 C.h0 (roundP lid r0 I Ix)) (hT : Take Es (LoopA lid { r0 with state := .busy }) Fs) (hP : I Fs h) : GO C [] l Es h [] := fun a w s => todo_end (by
  obtain ⟨h1, h2⟩ := endR s.hp hT none
  rw [hQ]
  exact ⟨_, _, h1, _, rfl, _, _, .inl ⟨rfl, Fs, rfl, hP⟩, h2⟩)
theorem GO_rRet {r0 : Loop} (hQ : C.Q = rQ C.P lid C.w0 C.X0 C.h0 (roundP lid r0 I Ix)) (hT : Take Es (LoopA lid { r0 with state := .busy }) Fs) (hP : Ix .ret Fs h) : GO C [] l Es h (.code .ret :: K) := fun a w s => todo_ret (by
  obtain ⟨h1, h2⟩ := endR s.hp hT (some .ret)
  rw [hQ]
  exact ⟨_, _, h1, _, rfl, _, _, .inr ⟨rfl, .ret, Fs, rfl, hP⟩, h2⟩)
theorem GO_rExit {r0 : Loop} {id : Nat} (hx : exitTo id K = none) (hQ : C.Q = rQ C.P lid C.w0 C.X0 C.h0 (roundP lid r0 I Ix)) (hT : Take Es (LoopA lid { r0 with state := .busy }) Fs) (hP : Ix (.exit id) Fs h) : GO C [] l Es h (.code (.exit id) :: K) := fun a w s => todo_exitR hx (by
  obtain ⟨h1, h2⟩ := endR s.hp hT (some (.exit id))
  rw [hQ]
  exact ⟨_, _, h1, _, rfl, _, _, .inr ⟨rfl, .exit id, Fs, rfl, hP⟩, h2⟩)
end round

/-! ### yield, from the iterator's side -/
def Yl (P : Program) (lid : Nat) (args : List Value) (Es0 : List Asn) (h0 : Ro) (Post : Value → List Asn → Ro → Prop) : Prop :=
  ∀ (w : World) (X0 : List Nat), Le h0 (mem w) →
    (∃ Ds : List (List Nat), Own Es0 Ds (mem w) ∧ Ds.flatten.Nodup ∧ ∀ b ∈ Ds.flatten, h0 b = none ∧ b ∈ X0 ∧ b < w.heap.size) →
    ∃ f tmps assign body n, (Instr.yield lid args.toArray).run P w = .ok (.round lid f tmps assign body) w ∧
      RoundIn Fence.wide n P lid f tmps assign body w fun e w' => ∃ v, e = .returned v ∧ ∃ Es h, Post v Es h ∧ Hp w X0 h0 Es h w'

theorem Yl.mono {P : Program} {lid : Nat} {args : List Value} {Es0 : List Asn} {h0 : Ro} {Post Post' : Value → List Asn → Ro → Prop} (y : Yl P lid args Es0 h0 Post) (hp : ∀ v Es h, Le h0 h → Post v Es h → Post' v Es h) : Yl P lid args Es0 h0 Post' := fun w X0 hl ho =>
  let ⟨f, t, as, bo, n, h1, h2⟩ := y w X0 hl ho
  ⟨f, t, as, bo, n, h1, h2.mono fun _ _ ⟨v, he, Es, h, hP, H⟩ => ⟨v, he, Es, h, hp v Es h H.le hP, H⟩⟩

section yield
variable {C : Ctx} {l : Sl} {Es Fs : List Asn} {h : Ro} {G : Value → List Asn → Ro → Prop} {ty : TypeId} {pos : String} {aft : Array Edge} {gd : Option (Nat × Bool)} {dst : Option Tmp}
theorem OpTo_yield {c : Operand} {xs : Array Operand} {tys : Array TypeId} {lid : Nat} {vs : List Value} {Es0 : List Asn} {Post : Value → List Asn → Ro → Prop}
    (hc : evl l c = some (.func (.yield lid) #[] #[])) (hxs : evlL l xs.toList = some vs) (hE : Es = Es0 ++ Fs) (hf : Yl C.P lid vs Es0 h Post)
    (g : ∀ v Es' h', Le h h' → Post v Es' h' → G v (Es' ++ Fs) h') : OpTo C l Es h ⟨dst, .call ⟨.value c, xs, tys⟩, ty, pos, aft, gd⟩ G := by
  intro a w hs hp
  subst hE
  obtain ⟨Ds, ho, hn, hb⟩ := hp.own
  obtain ⟨D1, D2, rfl, ho1, ho2⟩ := ho.split
  have hb1 : ∀ b ∈ D1.flatten, b ∈ (D1 ++ D2).flatten := fun b h1 => by rw [List.flatten_append, List.mem_append]; exact .inl h1
  obtain ⟨f, tmps, assign, body, n, h1, h2⟩ := hf w D1.flatten hp.ro ⟨D1, ho1, by rw [List.flatten_append, List.nodup_append] at hn; exact hn.1, fun b h1 => ⟨(hb b (hb1 b h1)).1, h1, (hb b (hb1 b h1)).2.2⟩⟩
  refine .inr (.inr (.inr ⟨lid, f, tmps, assign, body, w, n, ?_, h2.mono ?_⟩))
  · have e1 : a.eval c = .func (.yield lid) #[] #[] := hs.eval hc
    have e2 : xs.map a.eval = vs.toArray := by
      have := evlL_ok hs hxs
      rw [← this, ← Array.toList_map]
    simp only [execOp, resolve, e1, e2]
    simp [go_sem, h1, invoke]
  · rintro e w2 ⟨v, rfl, Es', h', hP, H'⟩
    exact ⟨v, rfl, Es' ++ Fs, h', hp.call ho1 ho2 hn hb H', g v Es' h' H'.le hP⟩
end yield

/-! ### The iterator's contract -/
/-- g, called with a yield, hands over xs in their order; and stops where yield says no. The consumer's state is the consumer's. -/
def SeqFn {α : Type} (P : Program) (g : FuncId) (lb : List Value) (enc : α → List Value) (xs : List α) (h : Ro) : Prop :=
  ∀ (lid : Nat) (I Ix : List α → List Asn → Ro → Prop), (∀ pre Es h1 h2, Le h1 h2 → I pre Es h1 → I pre Es h2) → (∀ pre Es h1 h2, Le h1 h2 → Ix pre Es h1 → Ix pre Es h2) →
    (∀ pre x post Es h1, xs = pre ++ x :: post → Le h h1 → I pre Es h1 → Yl P lid (enc x) Es h1 fun v Es' h' => (v = .bool true ∧ I (pre ++ [x]) Es' h') ∨ (v = .bool false ∧ Ix (pre ++ [x]) Es' h')) →
    ∀ Es h1, Le h h1 → I [] Es h1 → Fn P g (.func (.yield lid) #[] #[] :: lb).toArray Es h1 fun v Es' h' => I xs Es' h' ∨ ∃ pre post, xs = pre ++ post ∧ Ix pre Es' h'

theorem SeqFn.le {α : Type} {P : Program} {g : FuncId} {lb : List Value} {enc : α → List Value} {xs : List α} {h h' : Ro} (s : SeqFn P g lb enc xs h) (hl : Le h h') : SeqFn P g lb enc xs h' := by
  intro lid I Ix m1 m2 hr Es h1 hl1 hI
  refine (s lid (fun pre Es h2 => Le h' h2 ∧ I pre Es h2) (fun pre Es h2 => Ix pre Es h2) (fun pre Es a b hab ⟨q1, q2⟩ => ⟨q1.trans hab, m1 _ _ _ _ hab q2⟩) m2
    (fun pre x post Es h2 e _ ⟨q1, q2⟩ => (hr pre x post Es h2 e q1 q2).mono fun v Es h3 hle hP => hP.imp (fun ⟨p1, p2⟩ => ⟨p1, q1.trans hle, p2⟩) id) Es h1 (hl.trans hl1) ⟨hl1, hI⟩).mono ?_
  rintro v Es' h2 _ (⟨_, h3⟩ | h3)
  · exact .inl h3
  · exact .inr h3

/-! ### The statement -/
def zipS : List Tmp → List Value → Sl → Sl
  | p :: ps, v :: vs, l => zipS ps vs ((p, v) :: l)
  | _, _, l => l
theorem zipS_ok : ∀ {ps : List Tmp} {vs : List Value} {l : Sl} {tmps : Array Value} {N : Nat}, SlotsOk l { tmps := tmps, defers := [] } → tmps.size = N → ps.all (fun p => Nat.blt p N) = true →
    SlotsOk (zipS ps vs l) { tmps := (ps.zip vs).foldl (fun t p => t.setIfInBounds p.1 p.2) tmps, defers := [] } ∧ ((ps.zip vs).foldl (fun t p => t.setIfInBounds p.1 p.2) tmps).size = N
  | [], vs, l, tmps, N, hs, hN, _ => ⟨by cases vs <;> exact hs, by simpa using hN⟩
  | p :: ps, [], l, tmps, N, hs, hN, _ => ⟨hs, by simpa using hN⟩
  | p :: ps, v :: vs, l, tmps, N, hs, hN, hp => by
    simp only [List.all_cons, Bool.and_eq_true] at hp
    have hlt : p < tmps.size := by
      have h1 := hp.1; rw [Nat.blt_eq] at h1; rw [hN]; exact h1
    exact zipS_ok (ps := ps) (vs := vs) (hs.put (a := { tmps := tmps, defers := [] }) hlt v) (by simpa [Act.put] using hN) hp.2

abbrev mark (D : Nat) : Deferred := { target := .collected D, args := #[] }

theorem GO_rangeFunc {C : Ctx} {ds : List Deferred} {l : Sl} {Es : List Asn} {h : Ro} {K : List Item} {g : Operand} {ps : Array Tmp} {assign body : Code} {α : Type} {gf : Nat} {lb : List Value} {enc : α → List Value} {xs : List α}
    (hro : C.ro = none) (hg : evl l g = some (.func (.func gf) #[] lb.toArray)) (hh : Has C.P gf) (hseq : SeqFn C.P gf lb enc xs h) (hps : ∀ x, (enc x).length = ps.size) (hpN : ps.toList.all (fun p => Nat.blt p C.N) = true)
    (I : List α → List Asn → Ro → Prop) (Ix : Code → List α → List Asn → Ro → Prop) (mI : ∀ pre Es h1 h2, Le h1 h2 → I pre Es h1 → I pre Es h2) (mIx : ∀ c pre Es h1 h2, Le h1 h2 → Ix c pre Es h1 → Ix c pre Es h2) (h0 : I [] Es h)
    (round : ∀ (lid : Nat) (r : Loop) (w0 : World) (X0 : List Nat) pre x post Es1 h1, xs = pre ++ x :: post → I pre Es1 h1 → Le h h1 → r.state = .ready →
      GO (mkR C.P C.ts C.ok C.N lid w0 X0 h1 (roundP lid r (I (pre ++ [x])) (fun c => Ix c (pre ++ [x])))) [] (zipS ps.toList (enc x) l) (LoopA lid r :: Es1) h1 [.code assign, .beginRound, .code body])
    (done : ∀ D h1 Es1, Le h h1 → I xs Es1 h1 → GO C (mark D :: ds) l (DefA D :: Es1) h1 K)
    (stop : ∀ D h1 Es1 c pre post, xs = pre ++ post → Le h h1 → Ix c pre Es1 h1 → GO C (mark D :: ds) l (DefA D :: Es1) h1 (.code c :: K)) :
    GO C ds l Es h (.code (.rangeFunc g ps assign body) :: K) := by
  intro a w s
  refine todo_rangeFunc fun fn => ?_
  obtain ⟨rec, hrec⟩ : ∃ rec : Loop, rec = { state := .ready, pending := none, fn, tmps := a.tmps, params := ps, assign, body, defers := w.heap.size } := ⟨_, rfl⟩
  obtain ⟨lid, hlid⟩ : ∃ lid, lid = w.heap.size + 1 := ⟨_, rfl⟩
  obtain ⟨W1, hW1⟩ : ∃ W1, (w.alloc (.deferred (some []))).alloc (.loop rec) = W1 := ⟨_, rfl⟩
  have H0 : Hp C.w0 C.X0 C.h0 (DefA w.heap.size :: Es) h (w.alloc (.deferred (some []))) := s.hp.alloc _ _ fun m hm => ⟨rfl, _, hm, rfl⟩
  have H1 : Hp C.w0 C.X0 C.h0 (LoopA lid rec :: DefA w.heap.size :: Es) h W1 := by
    have hz : (w.alloc (.deferred (some []))).heap.size = lid := by rw [hlid]; simp
    have := H0.alloc (.loop rec) (LoopA lid rec) (by rw [hz]; exact fun m hm => ⟨rfl, _, hm, rfl⟩)
    rw [← hW1]; exact this
  have H2 : Hp C.w0 C.X0 C.h0 ((LoopA lid rec :: Es) ++ [DefA w.heap.size]) h W1 := H1.perm (by
    simp only [List.cons_append]; exact (List.perm_append_comm (l₁ := [DefA w.heap.size]) (l₂ := Es)).cons _)
  refine ⟨lid, [mark w.heap.size], W1, { target := .fn (.func gf) lb.toArray, args := #[.func (.yield lid) #[] #[]] }, W1, gf, (.func (.yield lid) #[] #[] :: lb).toArray, W1, ?_, ?_, ?_, ?_⟩
  · rw [hro, ← hW1, hrec, hlid]; exact run_enterLoop_outer _ _ _ _ _
  · have e1 : a.eval g = .func (.func gf) #[] lb.toArray := s.slots.eval hg
    simp only [resolve, e1]
    simp [go_sem]
  · obtain ⟨fn', q1, q2, q3⟩ := hh
    simp only [invoke]
    simp [go_sem, run_callFunc q1 q2 q3]
  obtain ⟨Ds, ho, hn, hb⟩ := H2.own
  obtain ⟨D1, D2, rfl, ho1, ho2⟩ := ho.split
  have hb1 : ∀ b ∈ D1.flatten, b ∈ (D1 ++ D2).flatten := fun b h1 => by rw [List.flatten_append, List.mem_append]; exact .inl h1
  have hcall := hseq lid (fun pre Es h' => ∃ Fs, Es = LoopA lid rec :: Fs ∧ I pre Fs h' ∧ Le h h') (fun pre Es h' => ∃ c Fs, Es = LoopA lid { rec with state := .done, pending := some c } :: Fs ∧ Ix c pre Fs h' ∧ Le h h')
    (fun pre Es h1 h2 hl ⟨Fs, q1, q2, q3⟩ => ⟨Fs, q1, mI _ _ _ _ hl q2, q3.trans hl⟩) (fun pre Es h1 h2 hl ⟨c, Fs, q1, q2, q3⟩ => ⟨c, Fs, q1, mIx _ _ _ _ _ hl q2, q3.trans hl⟩)
    (fun pre x post Es1 h1 hx hl1 ⟨Fs, q1, q2, q3⟩ => by
      subst q1
      intro w' X' hl' ⟨Ds', ho', hn', hb'⟩
      have hl0 : w'.heap[lid]? = some (.loop rec) := by
        obtain ⟨D, hA, _⟩ := ho'.get (List.Mem.head _)
        obtain ⟨_, o, hm, rfl⟩ := hA
        exact hm
      have hy := run_yield (P := C.P) (args := (enc x).toArray) hl0 (by rw [hrec]; simpa using hps x)
      refine ⟨_, _, _, _, 0, hy, round_of_todo ?_⟩
      have hz := zipS_ok (ps := ps.toList) (vs := enc x) (l := l) (tmps := a.tmps) (N := C.N) s.slots s.size hpN
      have e : ((rec.params.zip (enc x).toArray).foldl (fun tmps (t, a) => tmps.setIfInBounds t a) rec.tmps) = ((ps.toList.zip (enc x)).foldl (fun t p => t.setIfInBounds p.1 p.2) a.tmps) := by
        rw [hrec, ← Array.foldl_toList, Array.toList_zip]
      rw [e]
      have hst : rec.state = .ready := by rw [hrec]
      have hrr : { rec with state := .ready, pending := none } = rec := by rw [hrec]
      have R := round lid rec w' X' pre x post Fs h1 hx q2 q3 hst { tmps := (ps.toList.zip (enc x)).foldl (fun t p => t.setIfInBounds p.1 p.2) a.tmps, defers := [] } w'
        ⟨hz.2, rfl, hz.1, ⟨rfl, rfl, rfl, Nat.le_refl _, fun _ _ _ => rfl, hl', Le.refl _, fun i o e => .inl e, Ds', ho', hn', fun b hb1 => ⟨(hb' b hb1).1, .inr (hb' b hb1).2.1, (hb' b hb1).2.2⟩⟩⟩
      have ha : rec.assign = assign := by rw [hrec]
      have hbd : rec.body = body := by rw [hrec]
      rw [← ha, ← hbd] at R
      have mono : ∀ e a' w2, rQ C.P lid w' X' h1 (roundP lid rec (I (pre ++ [x])) (fun c => Ix c (pre ++ [x]))) e a' w2 → roundPost C.P lid (fun e w2 => ∃ v, e = .returned v ∧ ∃ Es h2, ((v = .bool true ∧ ∃ Fs, Es = LoopA lid rec :: Fs ∧ I (pre ++ [x]) Fs h2 ∧ Le h h2) ∨ (v = .bool false ∧ ∃ c Fs, Es = LoopA lid { rec with state := .done, pending := some c } :: Fs ∧ Ix c (pre ++ [x]) Fs h2 ∧ Le h h2)) ∧ Hp w' X' h1 Es h2 w2) e a' w2 := by
        have aux : ∀ e w2, (∃ v, e = Ending.returned v ∧ ∃ Es h2, roundP lid rec (I (pre ++ [x])) (fun c => Ix c (pre ++ [x])) v Es h2 ∧ Hp w' X' h1 Es h2 w2) → (∃ v, e = Ending.returned v ∧ ∃ Es h2, ((v = .bool true ∧ ∃ Fs, Es = LoopA lid rec :: Fs ∧ I (pre ++ [x]) Fs h2 ∧ Le h h2) ∨ (v = .bool false ∧ ∃ c Fs, Es = LoopA lid { rec with state := .done, pending := some c } :: Fs ∧ Ix c (pre ++ [x]) Fs h2 ∧ Le h h2)) ∧ Hp w' X' h1 Es h2 w2) := by
          rintro e w2 ⟨v, he, Es, h2, hP, H⟩
          refine ⟨v, he, Es, h2, ?_, H⟩
          rcases hP with ⟨p1, Fs, p2, p3⟩ | ⟨p1, c, Fs, p2, p3⟩
          · rw [hrr] at p2; exact .inl ⟨p1, Fs, p2, p3, q3.trans H.le⟩
          · exact .inr ⟨p1, c, Fs, p2, p3, q3.trans H.le⟩
        intro e a' w2 hq
        cases e with
        | normal => obtain ⟨v, w4, q1, q2⟩ := hq; exact ⟨v, w4, q1, aux _ _ q2⟩
        | ret => obtain ⟨v, w4, q1, q2⟩ := hq; exact ⟨v, w4, q1, aux _ _ q2⟩
        | exit id => obtain ⟨v, w4, q1, q2⟩ := hq; exact ⟨v, w4, q1, aux _ _ q2⟩
        | goto t => obtain ⟨v, w4, q1, q2⟩ := hq; exact ⟨v, w4, q1, aux _ _ q2⟩
        | panic ch => exact hq.elim
        | outgrown => exact hq.elim
      intro b cs hb0
      obtain ⟨e, a', w2, hq, harr⟩ := R b cs hb0
      exact ⟨e, a', w2, mono _ _ _ hq, harr⟩)
    (LoopA lid rec :: Es) h (Le.refl h) ⟨Es, rfl, h0, Le.refl h⟩
  refine (hcall W1 D1.flatten H2.ro ⟨D1, ho1, by rw [List.flatten_append, List.nodup_append] at hn; exact hn.1, fun b h1 => ⟨(hb b (hb1 b h1)).1, h1, (hb b (hb1 b h1)).2.2⟩⟩).mono ?_
  rintro e w3 ⟨v, rfl, Es', h', hP, H'⟩
  have H3 := H2.call ho1 ho2 hn hb H'
  refine ⟨v, rfl, ?_⟩
  have hnb : rec.state ≠ .busy := by rw [hrec]; simp
  have fin : ∀ (r' : Loop) (Fs : List Asn), r'.state ≠ .busy → Hp C.w0 C.X0 C.h0 (LoopA lid r' :: Fs ++ [DefA w.heap.size]) h' w3 → (Instr.endLoop lid).run C.P w3 = .ok r'.pending (w3.putObj lid (.loop { r' with state := .exhausted })) ∧
      Hp C.w0 C.X0 C.h0 (DefA w.heap.size :: Fs) h' (w3.putObj lid (.loop { r' with state := .exhausted })) := by
    intro r' Fs hst H
    obtain ⟨o, ho, rfl⟩ := H.obj
    refine ⟨run_endLoop ho hst, ?_⟩
    have := (H.putObj (p' := fun o => o = .loop { r' with state := .exhausted }) rfl).drop .here
    exact this.perm (List.perm_append_comm (l₁ := Fs) (l₂ := [DefA w.heap.size]))
  rcases hP with ⟨Fs, rfl, p1, p2⟩ | ⟨pre, post, hx, c, Fs, rfl, p1, p2⟩
  · obtain ⟨q1, q2⟩ := fin rec Fs hnb H3
    have hpend : rec.pending = none := by rw [hrec]
    rw [hpend] at q1 q2
    refine ⟨none, _, q1, ?_⟩
    exact done w.heap.size h' Fs p2 p1 { a with defers := [mark w.heap.size] ++ a.defers } _ ⟨s.size, by rw [← s.defers]; rfl, s.slots, q2⟩
  · obtain ⟨q1, q2⟩ := fin { rec with state := .done, pending := some c } Fs (by simp) H3
    refine ⟨some c, _, q1, ?_⟩
    exact stop w.heap.size h' Fs c pre post hx p2 p1 { a with defers := [mark w.heap.size] ++ a.defers } _ ⟨s.size, by rw [← s.defers]; rfl, s.slots, q2⟩

/-! ### The way out with marks -/
def Rt (C : Ctx) (ds : List Deferred) (l : Sl) (Es : List Asn) (h : Ro) : Prop := ∀ a w, St C ds l Es h a w → C.Q .ret a w
section rt
variable {C : Ctx} {ds : List Deferred} {l : Sl} {Es Fs : List Asn} {h : Ro} {K : List Item} {fn : Func} {Post : Value → List Asn → Ro → Prop}
theorem GO_rt (r : Rt C ds l Es h) : GO C ds l Es h (.code .ret :: K) := fun a w s => todo_ret (r a w s)
theorem Rt_mark {D : Nat} (hQ : C.Q = fnQ C.P fn C.w0 C.X0 C.h0 Post) (hT : Take Es (DefA D) Fs) (r : Rt C ds l Fs h) : Rt C (mark D :: ds) l Es h := by
  intro a w s
  have H := s.hp.front hT
  obtain ⟨o, ho, rfl⟩ := H.obj
  have H2 := (H.putObj (p' := fun o => o = .deferred none) rfl).drop .here
  have := r { a with defers := ds } (w.putObj D (.deferred none)) ⟨s.size, rfl, s.slots, H2⟩
  rw [hQ] at this ⊢
  show LeavesInM _ _ _ _ _ _ a.defers _ _
  rw [s.defers]
  exact ⟨by simp, .inl ⟨D, _, rfl, run_takeDeferred ho, this⟩⟩
theorem Rt_S {rs : List ResultVar} {vs : List Value} (hQ : C.Q = fnQ C.P fn C.w0 C.X0 C.h0 Post) (hr : fn.results = rs.toArray) (hv : ResV C l Es h rs vs) (hs : List.Sublist Fs Es) (hP : Post (resVal vs) Fs h) : Rt C [] l Es h := fun a w s => by
  rw [hQ]
  show LeavesInM _ _ _ _ _ _ a.defers _ _
  rw [s.defers]
  exact ⟨_, results_ok hr s.slots s.hp hv, _, rfl, Fs, h, hP, s.hp.sub hs⟩
end rt
end Go.Hw

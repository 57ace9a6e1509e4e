/-
  Hw, part N: equality of structs.
-/
import Derived.Test.YtbgjcjhodlmgjaaHwM
import Derived.Laws.StructEq
set_option linter.unusedVariables false
namespace Go.Hw
open Go

def eqFs (ts : List Ty) (eq : Nat → Value → Value → Option Bool) (xs ys : List Value) : List Field → Option Bool
  | [] => some true
  | f :: r => if f.name = "_" then eqFs ts eq xs ys r else match tyOf f.type ts with
    | some T => match pvPart f.offset T.size T.agg xs, pvPart f.offset T.size T.agg ys with
      | some a, some b => match eq f.type a b, eqFs ts eq xs ys r with
        | some p, some q => some (p && q)
        | _, _ => none
      | _, _ => none
    | none => none
/-- Equality of two values of a type of the table, told by lists. -/
def eqD (ts : List Ty) : Nat → Nat → Value → Value → Option Bool
  | 0, _, _, _ => none
  | n + 1, t, x, y => match tyOf t ts with
    | some T => match T.desc, x, y with
      | .int _, .int k a, .int k' b => if k = k' then some (eqI a b) else none
      | .bool, .bool a, .bool b => some (a == b)
      | .string, .string a, .string b => some (a == b)
      | .struct fs, .agg xs, .agg ys => eqFs ts (eqD ts n) xs.toList ys.toList fs.toList
      | _, _, _ => none
    | none => none
/-- The struct types that it meets. -/
def eqIds (ts : List Ty) : Nat → Nat → List Nat
  | 0, _ => []
  | n + 1, t => match tyOf t ts with
    | some T => match T.desc with
      | .struct fs => t :: fs.toList.flatMap fun f => eqIds ts n f.type
      | _ => []
    | none => []

theorem eqD_ok {P : Program} {ts : List Ty} (hT : TsOk P ts) (w : World) : ∀ {n : Nat} {t : Nat} {x y : Value} {b : Bool}, eqD ts n t x y = some b → (∀ i ∈ eqIds ts n t, P.stoodInHeld i = false) → ∀ d, (Op.equalIn (n + d) t x y).run P w = .ok b w
  | 0, _, _, _, _, h, _, _ => by cases h
  | n + 1, t, x, y, b, h, hs, d => by
    rw [show n + 1 + d = (n + d) + 1 by omega]
    unfold eqD at h
    cases hty : tyOf t ts with
    | none => rw [hty] at h; cases h
    | some T =>
      rw [hty] at h
      obtain ⟨D, hD, hb⟩ := hT.und hty
      simp only at h
      split at h
      · rename_i k0 k a k' b' hd
        split at h
        · rename_i hk; subst hk; injection h with h; subst h
          rw [hd] at hb
          rw [blank_int hb] at hD
          rw [run_equalIn_int w _ t k k0 a b' hD, eqI_eq]; congr 1
        · cases h
      · rename_i a b' hd
        injection h with h; subst h
        rw [hd] at hb
        rw [blank_bool hb] at hD
        exact run_equalIn_bool w _ t a b' hD
      · rename_i a b' hd
        injection h with h; subst h
        rw [hd] at hb
        rw [blank_string hb] at hD
        rw [run_equalIn_string w _ t a b' hD, ← beq_toListBytes]
      · rename_i fs xs ys hd
        rw [hd] at hb
        obtain ⟨gs, rfl, hg⟩ := blank_struct hb
        have hself : P.stoodInHeld t = false := hs t (by unfold eqIds; rw [hty]; simp only [hd]; exact .head _)
        have hfo : P.fieldsOf t = gs := by simp [Program.fieldsOf, hD]
        rw [run_equalIn_struct w (n + d) t xs ys (by rw [hfo]; exact hD) hself, hfo]
        have hsub : ∀ f ∈ fs.toList, ∀ i ∈ eqIds ts n f.type, P.stoodInHeld i = false := fun f hf i hi => hs i (by
          unfold eqIds; rw [hty]; simp only [hd]; exact .tail _ (List.mem_flatMap.2 ⟨f, hf, hi⟩))
        rw [← hg] at h hsub
        clear hg hD hfo hb hd
        generalize gs.toList = gl at h hsub
        induction gl generalizing b with
        | nil => simp only [List.map_nil, eqFs, Option.some.injEq] at h; subst h; rfl
        | cons f r ih =>
          simp only [List.map_cons, eqFs] at h
          have hnm : (blankF f).name = "_" ↔ f.name = "_" := by
            unfold blankF
            by_cases hf : f.name = "_" <;> simp [hf]
          have ihr := fun b hb => ih (b := b) hb (fun f' hf' => hsub f' (by simp only [List.map_cons]; exact .tail _ hf'))
          unfold Op.eqFields
          by_cases hf : f.name = "_"
          · rw [if_pos (hnm.2 hf)] at h
            simp only [hf, ne_eq, not_true, if_false]
            exact ihr b h
          · rw [if_neg (fun e => hf (hnm.1 e))] at h
            simp only [ne_eq, hf, not_false_eq_true, if_true]
            have e1 : (blankF f).type = f.type := rfl
            have e2 : (blankF f).offset = f.offset := rfl
            rw [e1, e2] at h
            cases hF : tyOf f.type ts with
            | none => rw [hF] at h; cases h
            | some F =>
              rw [hF] at h
              simp only at h
              cases hx : pvPart f.offset F.size F.agg xs.toList with
              | none => rw [hx] at h; cases h
              | some p =>
                cases hy : pvPart f.offset F.size F.agg ys.toList with
                | none => rw [hx, hy] at h; cases h
                | some q =>
                  rw [hx, hy] at h
                  simp only at h
                  have p1 := pvPart_ok hx w (hT.run_size hF w) (hT.run_agg hF w)
                  have p2 := pvPart_ok hy w (hT.run_size hF w) (hT.run_agg hF w)
                  simp only [Array.toArray_toList] at p1 p2
                  cases he : eqD ts n f.type p q with
                  | none => rw [he] at h; cases h
                  | some u =>
                    rw [he] at h
                    cases hr : eqFs ts (eqD ts n) xs.toList ys.toList (r.map blankF) with
                    | none => rw [hr] at h; cases h
                    | some v =>
                      rw [hr] at h
                      simp only [Option.some.injEq] at h
                      subst h
                      have q1 := eqD_ok hT w he (hsub (blankF f) (by simp)) d
                      simp only [Sem.run_bind, p1, p2, Result.andThen_ok, q1]
                      cases u with
                      | false => simp
                      | true => simpa using ihr v hr
      · cases h

section
variable {C : Ctx} {l : Sl} {hh : Ro} {ty : TypeId} {pos : String} {aft : Array Edge} {gd : Option (Nat × Bool)} {dst : Option Tmp}

theorem run_eqS {P : Program} {ts : List Ty} (hT : TsOk P ts) {t : Nat} {xs ys : Array Value} {b : Bool} (h : eqD ts 10 t (.agg xs) (.agg ys) = some b) (hs : (eqIds ts 10 t).all (fun i => !P.stoodInHeld i) = true) (hg : P.eqGuardType P.depth t = false) (w : World) (ox oy : Operand) :
    (do eqGuard .eql t ox oy (.agg xs) (.agg ys); binOp .eql t (.agg xs) (.agg ys) : Sem Value).run P w = .ok (.bool b) w ∧ (do eqGuard .neq t ox oy (.agg xs) (.agg ys); binOp .neq t (.agg xs) (.agg ys) : Sem Value).run P w = .ok (.bool (!b)) w := by
  have := eqD_ok hT w h (fun i hi => by have := List.all_eq_true.1 hs i hi; simpa using this) 9990
  simp only [Sem.run_bind, run_eqGuard_agg w _ t ox oy xs ys hg, Result.andThen_ok, run_eql_struct, run_neq_struct]
  rw [this]
  exact ⟨rfl, rfl⟩

theorem OV_eqlS {t ty' : TypeId} {x y : Operand} {xs ys : Array Value} {b : Bool} (hx : evl l x = some (.agg xs)) (hy : evl l y = some (.agg ys)) (h : eqD C.ts 10 t (.agg xs) (.agg ys) = some b) (hs : (eqIds C.ts 10 t).all (fun i => !C.P.stoodInHeld i) = true)
    (hg : C.P.eqGuardType C.P.depth t = false) : OV C l [] hh ⟨dst, .binOp .eql t x y ty', ty, pos, aft, gd⟩ (.bool b) :=
  ⟨rfl, fun a w hsl _ _ => by
    have := (run_eqS C.ok h hs hg w x y).1
    rw [Sem.run_bind] at this
    simp only [execOp, hsl.eval hx, hsl.eval hy, Sem.run_bind]
    rw [this]; rfl⟩
theorem OV_neqS {t ty' : TypeId} {x y : Operand} {xs ys : Array Value} {b : Bool} (hx : evl l x = some (.agg xs)) (hy : evl l y = some (.agg ys)) (h : eqD C.ts 10 t (.agg xs) (.agg ys) = some b) (hs : (eqIds C.ts 10 t).all (fun i => !C.P.stoodInHeld i) = true)
    (hg : C.P.eqGuardType C.P.depth t = false) : OV C l [] hh ⟨dst, .binOp .neq t x y ty', ty, pos, aft, gd⟩ (.bool (!b)) :=
  ⟨rfl, fun a w hsl _ _ => by
    have := (run_eqS C.ok h hs hg w x y).2
    rw [Sem.run_bind] at this
    simp only [execOp, hsl.eval hx, hsl.eval hy, Sem.run_bind]
    rw [this]; rfl⟩
end

/-! ### Memory that is let go at once -/
section
variable {C : Ctx} {l : Sl} {Es : List Asn} {h : Ro} {G : Value → List Asn → Ro → Prop} {ty : TypeId} {pos : String} {aft : Array Edge} {gd : Option (Nat × Bool)} {d : Tmp} {dst : Option Tmp}

theorem blk_at {h' : Ro} {b : Nat} {e : TypeId} {cs : List Value} (hb : h' b = some (.cells cs.toArray e (0, 0))) : CellsAt h' ⟨b, 0, none⟩ cs := fun j v hj => by
  rw [add_off]
  simp only [cellR, hb]
  simpa using hj

/-- An operation's outcome, with the first of what is owned behind it let go. -/
theorem OpTo_free {o : Oper} (g : OpTo C l Es h o fun v Es' h' => ∃ A Fs, Es' = A :: Fs ∧ ∀ D h'', Le h' h'' → A.holds D h'' → G v Fs h'') : OpTo C l Es h o G := fun a w hs hp => by
  have fin : ∀ v Es' h' w', Hp C.w0 C.X0 C.h0 Es' h' w' → (∃ A Fs, Es' = A :: Fs ∧ ∀ D h'', Le h' h'' → A.holds D h'' → G v Fs h'') → ∃ Fs h'', Hp C.w0 C.X0 C.h0 Fs h'' w' ∧ G v Fs h'' := by
    rintro v Es' h' w' hp' ⟨A, Fs, rfl, hG⟩
    obtain ⟨D, h'', h1, h2, h3⟩ := hp'.release Take.here
    exact ⟨Fs, h'', h3, hG D h'' h1 h2⟩
  rcases g a w hs hp with ⟨v, w', Es', h', hr, hp', hG⟩ | ⟨w', Es', h', hr, hp', hG⟩ | ⟨f, args, w1, hr, hc⟩ | ⟨r, f, tmps, assign, body, w1, n, hr, hc⟩
  · obtain ⟨Fs, h'', h1, h2⟩ := fin _ _ _ _ hp' hG
    exact .inl ⟨v, w', Fs, h'', hr, h1, h2⟩
  · obtain ⟨Fs, h'', h1, h2⟩ := fin _ _ _ _ hp' hG
    exact .inr (.inl ⟨w', Fs, h'', hr, h1, h2⟩)
  · exact .inr (.inr (.inl ⟨f, args, w1, hr, hc.mono fun _ _ ⟨v, he, Es', h', hp', hG⟩ => let ⟨Fs, h'', h1, h2⟩ := fin _ _ _ _ hp' hG; ⟨v, he, Fs, h'', h1, h2⟩⟩))
  · exact .inr (.inr (.inr ⟨r, f, tmps, assign, body, w1, n, hr, hc.mono fun _ _ ⟨v, he, Es', h', hp', hG⟩ => let ⟨Fs, h'', h1, h2⟩ := fin _ _ _ _ hp' hG; ⟨v, he, Fs, h'', h1, h2⟩⟩))

theorem OpTo_buildSliceR {t e n : Nat} {parts : Array (Nat × Operand)} {ps : List (Nat × Value)} {T E : Ty} {cs : List Value} (hT : tyOf t C.ts = some T) (hTd : T.desc = .slice e) (hE : tyOf e C.ts = some E)
    (hz : partL E.zero ≠ []) (hzl : (partL E.zero).length = E.size) (hn : Nat.ble (n * E.size) 16777216 = true) (hp : evlP l parts.toList = some ps) (hc : fillL (fun i => some (i * E.size, E.size)) ps (repl (partL E.zero) n) = some cs)
    (g : ∀ b h', Le h h' → CellsAt h' ⟨b, 0, none⟩ cs → G (.slice (some ⟨b, 0, none⟩) n n) Es h') : OpTo C l Es h ⟨some d, .buildSlice t n parts, ty, pos, aft, gd⟩ G :=
  OpTo_free (OpTo_buildSlice hT hTd hE hz hzl hn hp hc fun b => ⟨_, Es, rfl, fun D h'' hl hD => g b h'' hl (blk_at hD.2)⟩)
end
theorem SlOf_ints {h : Ro} {ad : Addr} {l : List Int} (hc : CellsAt h ad (l.map fun i => .int .i64 i)) : SlOf encI 1 h (some ad) l.length l :=
  ⟨rfl, fun _ => ⟨ad, rfl, fun j x hx i v hv => by
    cases i with
    | zero =>
      have := hc j (.int .i64 x) (by simp [hx])
      simp only [encI, List.getElem?_cons_zero, Option.some.injEq] at hv
      rw [← hv, Nat.mul_one]
      have e : (ad.add j).add 0 = ad.add j := by simp [Addr.add]
      rw [e]; exact this
    | succ i => simp [encI] at hv⟩⟩

/-! ### What is owned, in another order -/
theorem Hp.front {w0 w : World} {X0 : List Nat} {h0 h : Ro} {Es Fs : List Asn} {A : Asn} (H : Hp w0 X0 h0 Es h w) (hT : Take Es A Fs) : Hp w0 X0 h0 (A :: Fs) h w := by
  obtain ⟨Ds, ho, hn, hb⟩ := H.own
  obtain ⟨D, Ds', hA, ho', hn', hin⟩ := hT.own ho hn
  exact ⟨H.os, H.tape, H.output, H.size, H.old, H.ro, H.le, H.new, D :: Ds', ⟨hA, ho'⟩, by simpa using hn', fun b hb' => hb b ((hin b).2 (by simpa using hb'))⟩
section
variable {C : Ctx} {ds : List Deferred} {K : List Item} {l : Sl} {Es Fs : List Asn} {A : Asn} {h : Ro} {G : Value → List Asn → Ro → Prop}
theorem OpTo_front {o : Oper} (hT : Take Es A Fs) (g : OpTo C l (A :: Fs) h o G) : OpTo C l Es h o G := fun a w hs hp => g a w hs (hp.front hT)
theorem GO_front (hT : Take Es A Fs) (g : GO C ds l (A :: Fs) h K) : GO C ds l Es h K := fun a w s => g a w ⟨s.size, s.defers, s.slots, s.hp.front hT⟩
end
/-- f comes back with v; what it owned is as it was. -/
def keepPost (v : Value) (Es0 : List Asn) : Value → List Asn → Ro → Prop := fun u Es _ => u = v ∧ Es = Es0
def ValE (P : Program) (f : FuncId) (args : Array Value) (Es0 : List Asn) (h : Ro) (v : Value) : Prop := Fn P f args Es0 h (keepPost v Es0)
theorem ValE_intro {P : Program} {ts : List Ty} (ok : TsOk P ts) {f : FuncId} {fn : Func} {c : Code} {args : List Value} {Es0 : List Asn} {h0 : Ro} {v : Value}
    (hf : P.funcs[f]? = some fn) (hb : fn.body = some c) (hn : Nat.ble args.length fn.ntmps = true)
    (g : ∀ w0 X0, GO (mkC P ts ok fn w0 X0 h0 (keepPost v Es0)) [] (argS 0 args) Es0 h0 [.code c]) : ValE P f args.toArray Es0 h0 v := Fn_intro ok hf hb hn g
theorem Hp.sub {w0 w : World} {X0 : List Nat} {h0 h : Ro} {Es Fs : List Asn} (hs : List.Sublist Fs Es) (H : Hp w0 X0 h0 Es h w) : Hp w0 X0 h0 Fs h w := by
  obtain ⟨Ds, ho, hn, hb⟩ := H.own
  have key : ∀ {Es Fs : List Asn}, List.Sublist Fs Es → ∀ {Ds : List (List Nat)}, Own Es Ds (mem w) → ∃ Gs, Own Fs Gs (mem w) ∧ List.Sublist Gs.flatten Ds.flatten := by
    intro Es Fs hs
    induction hs with
    | slnil => intro Ds ho; exact ⟨Ds, ho, List.Sublist.refl _⟩
    | cons A _ ih =>
      intro Ds ho
      cases Ds with
      | nil => exact ho.elim
      | cons D Ds => obtain ⟨Gs, h1, h2⟩ := ih ho.2; exact ⟨Gs, h1, by rw [List.flatten_cons]; exact h2.trans (List.sublist_append_right _ _)⟩
    | cons_cons A _ ih =>
      intro Ds ho
      cases Ds with
      | nil => exact ho.elim
      | cons D Ds => obtain ⟨Gs, h1, h2⟩ := ih ho.2; exact ⟨D :: Gs, ⟨ho.1, h1⟩, by rw [List.flatten_cons, List.flatten_cons]; exact h2.append_left _⟩
  obtain ⟨Gs, h1, h2⟩ := key hs ho
  exact ⟨H.os, H.tape, H.output, H.size, H.old, H.ro, H.le, H.new, Gs, h1, h2.nodup hn, fun b hb' => hb b (h2.subset hb')⟩
section
variable {C : Ctx} {l : Sl} {Es Fs : List Asn} {h : Ro} {K : List Item}
/-- The way out, with some of what is owned. -/
theorem GO_retS {fn : Func} {Post : Value → List Asn → Ro → Prop} {rs : List ResultVar} {vs : List Value} (hQ : C.Q = fnQ C.P fn C.w0 C.X0 C.h0 Post) (hr : fn.results = rs.toArray) (hv : ResV C l Es h rs vs) (hs : List.Sublist Fs Es) (hP : Post (resVal vs) Fs h) :
    GO C [] l Es h (.code .ret :: K) := fun a w s => todo_ret (by
  rw [hQ]
  show LeavesInM _ _ _ _ _ _ a.defers _ _
  rw [s.defers]
  exact ⟨_, results_ok hr s.slots s.hp hv, _, rfl, Fs, h, hP, s.hp.sub hs⟩)
theorem GO_retK {fn : Func} {v0 : Value} {rs : List ResultVar} {vs : List Value} (hQ : C.Q = fnQ C.P fn C.w0 C.X0 C.h0 (keepPost v0 Fs)) (hr : fn.results = rs.toArray) (hv : ResV C l Es h rs vs) (hs : List.Sublist Fs Es) (hP : resVal vs = v0) :
    GO C [] l Es h (.code .ret :: K) := GO_retS hQ hr hv hs ⟨hP, rfl⟩
theorem GO_retK1 {fn : Func} {v0 v : Value} {t : Nat} (hQ : C.Q = fnQ C.P fn C.w0 C.X0 C.h0 (keepPost v0 Fs)) (hr : fn.results = #[.tmp t]) (hv : look t l = some v) (hs : List.Sublist Fs Es) (hP : v = v0) : GO C [] l Es h (.code .ret :: K) :=
  GO_retK (rs := [.tmp t]) (vs := [v]) hQ hr ⟨hv, trivial⟩ hs hP
theorem GO_retKC1 {fn : Func} {v0 v : Value} {t T b off e : Nat} {cs : List Value} {Ty : Ty} (hQ : C.Q = fnQ C.P fn C.w0 C.X0 C.h0 (keepPost v0 Fs)) (hr : fn.results = #[.cell t T]) (ht : look t l = some (.pointer (some ⟨b, off, none⟩))) (hm : Blk b e cs ∈ Es) (hT : tyOf T C.ts = some Ty)
    (hv : pvPart off Ty.size Ty.agg cs = some v) (hs : List.Sublist Fs Es) (hP : v = v0) : GO C [] l Es h (.code .ret :: K) :=
  GO_retK (rs := [.cell t T]) (vs := [v]) hQ hr ⟨⟨_, ht, Ld_blk hT hm hv⟩, trivial⟩ hs hP
/-- .. for whatever is asked at the end. -/
theorem GO_retS1 {fn : Func} {Post : Value → List Asn → Ro → Prop} {v : Value} {t : Nat} (hQ : C.Q = fnQ C.P fn C.w0 C.X0 C.h0 Post) (hr : fn.results = #[.tmp t]) (hv : look t l = some v) (hs : List.Sublist Fs Es) (hP : Post v Fs h) : GO C [] l Es h (.code .ret :: K) :=
  GO_retS (rs := [.tmp t]) (vs := [v]) hQ hr ⟨hv, trivial⟩ hs hP
theorem GO_retS2 {fn : Func} {Post : Value → List Asn → Ro → Prop} {v u : Value} {t s : Nat} (hQ : C.Q = fnQ C.P fn C.w0 C.X0 C.h0 Post) (hr : fn.results = #[.tmp t, .tmp s]) (hv : look t l = some v) (hu : look s l = some u) (hs : List.Sublist Fs Es) (hP : Post (.tuple #[v, u]) Fs h) : GO C [] l Es h (.code .ret :: K) :=
  GO_retS (rs := [.tmp t, .tmp s]) (vs := [v, u]) hQ hr ⟨hv, hu, trivial⟩ hs hP
theorem GO_retSC2 {fn : Func} {Post : Value → List Asn → Ro → Prop} {v u : Value} {t T b off e s : Nat} {cs : List Value} {Ty : Ty} (hQ : C.Q = fnQ C.P fn C.w0 C.X0 C.h0 Post) (hr : fn.results = #[.cell t T, .tmp s]) (ht : look t l = some (.pointer (some ⟨b, off, none⟩))) (hm : Blk b e cs ∈ Es) (hT : tyOf T C.ts = some Ty)
    (hv : pvPart off Ty.size Ty.agg cs = some v) (hu : look s l = some u) (hs : List.Sublist Fs Es) (hP : Post (.tuple #[v, u]) Fs h) : GO C [] l Es h (.code .ret :: K) :=
  GO_retS (rs := [.cell t T, .tmp s]) (vs := [v, u]) hQ hr ⟨⟨_, ht, Ld_blk hT hm hv⟩, hu, trivial⟩ hs hP
end
section
variable {C : Ctx} {l : Sl} {Es Fs : List Asn} {h : Ro} {G : Value → List Asn → Ro → Prop} {ty : TypeId} {pos : String} {aft : Array Edge} {gd : Option (Nat × Bool)} {dst : Option Tmp}
theorem OpTo_valE {xs : Array Operand} {tys : Array TypeId} {f : FuncId} {vs : List Value} {v : Value} {Es0 : List Asn} (hE : Es = Es0 ++ Fs)
    (hxs : evlL l xs.toList = some vs) (hh : Has C.P f) (hf : ValE C.P f vs.toArray Es0 h v) (g : G v Es h) : OpTo C l Es h ⟨dst, .call ⟨.value (.func f), xs, tys⟩, ty, pos, aft, gd⟩ G := fun a w hs hp => by
  have := OpTo_callF (C := C) (l := l) (Es := Es) (h := h) (d := dst) (tys := tys) (ty := ty) (pos := pos) (aft := aft) (gd := gd) (Fs := Fs) (G := fun v' Es' h' => v' = v ∧ Es' = Es ∧ Le h h') hxs hE hh hf
    (fun v' Es' h' hle ⟨e1, e2⟩ => ⟨e1, by rw [e2, hE], hle⟩) a w hs hp
  have fin : ∀ v' w' Es' h', Hp C.w0 C.X0 C.h0 Es' h' w' → (v' = v ∧ Es' = Es ∧ Le h h') → Hp C.w0 C.X0 C.h0 Es h w' ∧ G v' Es h := fun v' w' Es' h' H ⟨e1, e2, e3⟩ => by
    rw [e1]; rw [e2] at H; exact ⟨H.shrink e3 hp.le, g⟩
  rcases this with ⟨v', w', Es', h', hr, H, q⟩ | ⟨w', Es', h', hr, H, q⟩ | ⟨f, args, w1, hr, hc⟩ | ⟨r, f, tmps, assign, body, w1, n, hr, hc⟩
  · exact .inl ⟨v', w', Es, h, hr, fin _ _ _ _ H q⟩
  · exact .inr (.inl ⟨w', Es, h, hr, fin _ _ _ _ H q⟩)
  · exact .inr (.inr (.inl ⟨f, args, w1, hr, hc.mono fun _ _ ⟨v', he, Es', h', H, q⟩ => ⟨v', he, Es, h, fin _ _ _ _ H q⟩⟩))
  · exact .inr (.inr (.inr ⟨r, f, tmps, assign, body, w1, n, hr, hc.mono fun _ _ ⟨v', he, Es', h', H, q⟩ => ⟨v', he, Es, h, fin _ _ _ _ H q⟩⟩))
end
/-- An owned slice let go: a slice that is only read. -/
theorem OwnS_free {α : Type} {enc : α → List Value} {e sz : Nat} {v : Value} {n : Nat} {l : List α} (hl : ∀ x, (enc x).length = sz) {D : List Nat} {h : Ro} (hn : l.length = n) (H : (OwnS e sz v n (l.flatMap enc)).holds D h) :
    ∃ A c, v = .slice A n c ∧ SlOf enc sz h A n l := by
  obtain ⟨h1, hr⟩ := H
  rcases hr with ⟨rfl, h2, _⟩ | ⟨g, cap, cur, rfl, _, hb, h3, h4, h5, h6⟩
  · refine ⟨none, 0, by rw [h2], hn, fun h0 => absurd h0 (by omega)⟩
  · refine ⟨some ⟨g, 0, none⟩, cap, rfl, hn, fun _ => ⟨_, rfl, fun j x hx i u hu => ?_⟩⟩
    rw [add_off, add_off]
    simp only [cellR, hb]
    have hi : i < sz := by rw [← hl x]; exact (List.getElem?_eq_some_iff.1 hu).1
    have hj : j < n := by rw [← hn]; exact (List.getElem?_eq_some_iff.1 hx).1
    have hflat : ∀ (l : List α) (j : Nat), l[j]? = some x → (l.flatMap enc)[j * sz + i]? = some u := by
      intro l
      induction l with
      | nil => intro j hj; simp at hj
      | cons y r ih =>
        intro j hj
        cases j with
        | zero =>
          simp only [List.getElem?_cons_zero, Option.some.injEq] at hj
          subst hj
          rw [List.flatMap_cons, Nat.zero_mul, Nat.zero_add, List.getElem?_append_left (by rw [hl]; exact hi)]
          exact hu
        | succ j =>
          rw [List.flatMap_cons, List.getElem?_append_right (by rw [hl, Nat.succ_mul]; omega), hl, show (j + 1) * sz + i - sz = j * sz + i by rw [Nat.succ_mul]; omega]
          exact ih j (by simpa using hj)
    have := hflat l j hx
    rw [← h6] at this
    have h7 : j * sz + i < n * sz := by
      have : (j + 1) * sz ≤ n * sz := Nat.mul_le_mul_right _ hj
      rw [Nat.succ_mul] at this; omega
    rw [List.getElem?_take, if_pos h7] at this
    simpa using this
end Go.Hw

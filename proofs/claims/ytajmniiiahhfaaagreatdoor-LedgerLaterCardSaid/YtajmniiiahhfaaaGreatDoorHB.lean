import Derived.Test.YtajmniiiahhfaaaGreatDoorHA
import Derived.Laws.StructEq
import Derived.RangeFuncRecord
import Derived.ChangeKeysEq
import Derived.Sort.Grow
import Derived.Lib.SlicesCompact
set_option linter.unusedSimpArgs false
/-
  Hw, part N: equality of structs.
-/
set_option linter.unusedVariables false
namespace Go.Hw
open Go

def eqFs (ts : List Ty) (eq : Nat → Value → Value → Option Bool) (xs ys : List Value) : List Field → Option Bool
  | [] => some true
  | f :: r => if f.name = "_" then eqFs ts eq xs ys r else match tyOf f.type ts with
    | some T => match pvPart f.offset T.size T.agg xs, pvPart f.offset T.size T.agg ys with
      | some a, some b => match eq f.type a b, eqFs ts eq xs ys r with
        | some p, some q => some (p && q)
        | _, _ => none
      | _, _ => none
    | none => none
/-- Equality of two values of a type of the table, told by lists. -/
def eqD (ts : List Ty) : Nat → Nat → Value → Value → Option Bool
  | 0, _, _, _ => none
  | n + 1, t, x, y => match tyOf t ts with
    | some T => match T.desc, x, y with
      | .int _, .int k a, .int k' b => if k = k' then some (eqI a b) else none
      | .bool, .bool a, .bool b => some (a == b)
      | .string, .string a, .string b => some (a == b)
      | .struct fs, .agg xs, .agg ys => eqFs ts (eqD ts n) xs.toList ys.toList fs.toList
      | _, _, _ => none
    | none => none
/-- The struct types that it meets. -/
def eqIds (ts : List Ty) : Nat → Nat → List Nat
  | 0, _ => []
  | n + 1, t => match tyOf t ts with
    | some T => match T.desc with
      | .struct fs => t :: fs.toList.flatMap fun f => eqIds ts n f.type
      | _ => []
    | none => []

theorem eqD_ok {P : Program} {ts : List Ty} (hT : TsOk P ts) (w : World) : ∀ {n : Nat} {t : Nat} {x y : Value} {b : Bool}, eqD ts n t x y = some b → (∀ i ∈ eqIds ts n t, P.stoodInHeld i = false) → ∀ d, (Op.equalIn (n + d) t x y).run P w = .ok b w
  | 0, _, _, _, _, h, _, _ => by cases h
  | n + 1, t, x, y, b, h, hs, d => by
    rw [show n + 1 + d = (n + d) + 1 by omega]
    unfold eqD at h
    cases hty : tyOf t ts with
    | none => rw [hty] at h; cases h
    | some T =>
      rw [hty] at h
      obtain ⟨D, hD, hb⟩ := hT.und hty
      simp only at h
      split at h
      · rename_i k0 k a k' b' hd
        split at h
        · rename_i hk; subst hk; injection h with h; subst h
          rw [hd] at hb
          rw [blank_int hb] at hD
          rw [run_equalIn_int w _ t k k0 a b' hD, eqI_eq]; congr 1
        · cases h
      · rename_i a b' hd
        injection h with h; subst h
        rw [hd] at hb
        rw [blank_bool hb] at hD
        exact run_equalIn_bool w _ t a b' hD
      · rename_i a b' hd
        injection h with h; subst h
        rw [hd] at hb
        rw [blank_string hb] at hD
        rw [run_equalIn_string w _ t a b' hD, ← beq_toListBytes]
      · rename_i fs xs ys hd
        rw [hd] at hb
        obtain ⟨gs, rfl, hg⟩ := blank_struct hb
        have hself : P.stoodInHeld t = false := hs t (by unfold eqIds; rw [hty]; simp only [hd]; exact .head _)
        have hfo : P.fieldsOf t = gs := by simp [Program.fieldsOf, hD]
        rw [run_equalIn_struct w (n + d) t xs ys (by rw [hfo]; exact hD) hself, hfo]
        have hsub : ∀ f ∈ fs.toList, ∀ i ∈ eqIds ts n f.type, P.stoodInHeld i = false := fun f hf i hi => hs i (by
          unfold eqIds; rw [hty]; simp only [hd]; exact .tail _ (List.mem_flatMap.2 ⟨f, hf, hi⟩))
        rw [← hg] at h hsub
        clear hg hD hfo hb hd
        generalize gs.toList = gl at h hsub
        induction gl generalizing b with
        | nil => simp only [List.map_nil, eqFs, Option.some.injEq] at h; subst h; rfl
        | cons f r ih =>
          simp only [List.map_cons, eqFs] at h
          have hnm : (blankF f).name = "_" ↔ f.name = "_" := by
            unfold blankF
            by_cases hf : f.name = "_" <;> simp [hf]
          have ihr := fun b hb => ih (b := b) hb (fun f' hf' => hsub f' (by simp only [List.map_cons]; exact .tail _ hf'))
          unfold Op.eqFields
          by_cases hf : f.name = "_"
          · rw [if_pos (hnm.2 hf)] at h
            simp only [hf, ne_eq, not_true, if_false]
            exact ihr b h
          · rw [if_neg (fun e => hf (hnm.1 e))] at h
            simp only [ne_eq, hf, not_false_eq_true, if_true]
            have e1 : (blankF f).type = f.type := rfl
            have e2 : (blankF f).offset = f.offset := rfl
            rw [e1, e2] at h
            cases hF : tyOf f.type ts with
            | none => rw [hF] at h; cases h
            | some F =>
              rw [hF] at h
              simp only at h
              cases hx : pvPart f.offset F.size F.agg xs.toList with
              | none => rw [hx] at h; cases h
              | some p =>
                cases hy : pvPart f.offset F.size F.agg ys.toList with
                | none => rw [hx, hy] at h; cases h
                | some q =>
                  rw [hx, hy] at h
                  simp only at h
                  have p1 := pvPart_ok hx w (hT.run_size hF w) (hT.run_agg hF w)
                  have p2 := pvPart_ok hy w (hT.run_size hF w) (hT.run_agg hF w)
                  simp only [Array.toArray_toList] at p1 p2
                  cases he : eqD ts n f.type p q with
                  | none => rw [he] at h; cases h
                  | some u =>
                    rw [he] at h
                    cases hr : eqFs ts (eqD ts n) xs.toList ys.toList (r.map blankF) with
                    | none => rw [hr] at h; cases h
                    | some v =>
                      rw [hr] at h
                      simp only [Option.some.injEq] at h
                      subst h
                      have q1 := eqD_ok hT w he (hsub (blankF f) (by simp)) d
                      simp only [Sem.run_bind, p1, p2, Result.andThen_ok, q1]
                      cases u with
                      | false => simp
                      | true => simpa using ihr v hr
      · cases h

section
variable {C : Ctx} {l : Sl} {hh : Ro} {ty : TypeId} {pos : String} {aft : Array Edge} {gd : Option (Nat × Bool)} {dst : Option Tmp}

theorem run_eqS {P : Program} {ts : List Ty} (hT : TsOk P ts) {t : Nat} {xs ys : Array Value} {b : Bool} (h : eqD ts 10 t (.agg xs) (.agg ys) = some b) (hs : (eqIds ts 10 t).all (fun i => !P.stoodInHeld i) = true) (hg : P.eqGuardType P.depth t = false) (w : World) (ox oy : Operand) :
    (do eqGuard .eql t ox oy (.agg xs) (.agg ys); binOp .eql t (.agg xs) (.agg ys) : Sem Value).run P w = .ok (.bool b) w ∧ (do eqGuard .neq t ox oy (.agg xs) (.agg ys); binOp .neq t (.agg xs) (.agg ys) : Sem Value).run P w = .ok (.bool (!b)) w := by
  have := eqD_ok hT w h (fun i hi => by have := List.all_eq_true.1 hs i hi; simpa using this) 9990
  simp only [Sem.run_bind, run_eqGuard_agg w _ t ox oy xs ys hg, Result.andThen_ok, run_eql_struct, run_neq_struct]
  rw [this]
  exact ⟨rfl, rfl⟩

theorem OV_eqlS {t ty' : TypeId} {x y : Operand} {xs ys : Array Value} {b : Bool} (hx : evl l x = some (.agg xs)) (hy : evl l y = some (.agg ys)) (h : eqD C.ts 10 t (.agg xs) (.agg ys) = some b) (hs : (eqIds C.ts 10 t).all (fun i => !C.P.stoodInHeld i) = true)
    (hg : C.P.eqGuardType C.P.depth t = false) : OV C l [] hh ⟨dst, .binOp .eql t x y ty', ty, pos, aft, gd⟩ (.bool b) :=
  ⟨rfl, fun a w hsl _ _ => by
    have := (run_eqS C.ok h hs hg w x y).1
    rw [Sem.run_bind] at this
    simp only [execOp, hsl.eval hx, hsl.eval hy, Sem.run_bind]
    rw [this]; rfl⟩
theorem OV_neqS {t ty' : TypeId} {x y : Operand} {xs ys : Array Value} {b : Bool} (hx : evl l x = some (.agg xs)) (hy : evl l y = some (.agg ys)) (h : eqD C.ts 10 t (.agg xs) (.agg ys) = some b) (hs : (eqIds C.ts 10 t).all (fun i => !C.P.stoodInHeld i) = true)
    (hg : C.P.eqGuardType C.P.depth t = false) : OV C l [] hh ⟨dst, .binOp .neq t x y ty', ty, pos, aft, gd⟩ (.bool (!b)) :=
  ⟨rfl, fun a w hsl _ _ => by
    have := (run_eqS C.ok h hs hg w x y).2
    rw [Sem.run_bind] at this
    simp only [execOp, hsl.eval hx, hsl.eval hy, Sem.run_bind]
    rw [this]; rfl⟩
end

/-! ### Memory that is let go at once -/
section
variable {C : Ctx} {l : Sl} {Es : List Asn} {h : Ro} {G : Value → List Asn → Ro → Prop} {ty : TypeId} {pos : String} {aft : Array Edge} {gd : Option (Nat × Bool)} {d : Tmp} {dst : Option Tmp}

theorem blk_at {h' : Ro} {b : Nat} {e : TypeId} {cs : List Value} (hb : h' b = some (.cells cs.toArray e (0, 0))) : CellsAt h' ⟨b, 0, none⟩ cs := fun j v hj => by
  rw [add_off]
  simp only [cellR, hb]
  simpa using hj

/-- An operation's outcome, with the first of what is owned behind it let go. -/
theorem OpTo_free {o : Oper} (g : OpTo C l Es h o fun v Es' h' => ∃ A Fs, Es' = A :: Fs ∧ ∀ D h'', Le h' h'' → A.holds D h'' → G v Fs h'') : OpTo C l Es h o G := fun a w hs hp => by
  have fin : ∀ v Es' h' w', Hp C.w0 C.X0 C.h0 Es' h' w' → (∃ A Fs, Es' = A :: Fs ∧ ∀ D h'', Le h' h'' → A.holds D h'' → G v Fs h'') → ∃ Fs h'', Hp C.w0 C.X0 C.h0 Fs h'' w' ∧ G v Fs h'' := by
    rintro v Es' h' w' hp' ⟨A, Fs, rfl, hG⟩
    obtain ⟨D, h'', h1, h2, h3⟩ := hp'.release Take.here
    exact ⟨Fs, h'', h3, hG D h'' h1 h2⟩
  rcases g a w hs hp with ⟨v, w', Es', h', hr, hp', hG⟩ | ⟨w', Es', h', hr, hp', hG⟩ | ⟨f, args, w1, hr, hc⟩ | ⟨r, f, tmps, assign, body, w1, n, hr, hc⟩
  · obtain ⟨Fs, h'', h1, h2⟩ := fin _ _ _ _ hp' hG
    exact .inl ⟨v, w', Fs, h'', hr, h1, h2⟩
  · obtain ⟨Fs, h'', h1, h2⟩ := fin _ _ _ _ hp' hG
    exact .inr (.inl ⟨w', Fs, h'', hr, h1, h2⟩)
  · exact .inr (.inr (.inl ⟨f, args, w1, hr, hc.mono fun _ _ ⟨v, he, Es', h', hp', hG⟩ => let ⟨Fs, h'', h1, h2⟩ := fin _ _ _ _ hp' hG; ⟨v, he, Fs, h'', h1, h2⟩⟩))
  · exact .inr (.inr (.inr ⟨r, f, tmps, assign, body, w1, n, hr, hc.mono fun _ _ ⟨v, he, Es', h', hp', hG⟩ => let ⟨Fs, h'', h1, h2⟩ := fin _ _ _ _ hp' hG; ⟨v, he, Fs, h'', h1, h2⟩⟩))

theorem OpTo_buildSliceR {t e n : Nat} {parts : Array (Nat × Operand)} {ps : List (Nat × Value)} {T E : Ty} {cs : List Value} (hT : tyOf t C.ts = some T) (hTd : T.desc = .slice e) (hE : tyOf e C.ts = some E)
    (hz : partL E.zero ≠ []) (hzl : (partL E.zero).length = E.size) (hn : Nat.ble (n * E.size) 16777216 = true) (hp : evlP l parts.toList = some ps) (hc : fillL (fun i => some (i * E.size, E.size)) ps (repl (partL E.zero) n) = some cs)
    (g : ∀ b h', Le h h' → CellsAt h' ⟨b, 0, none⟩ cs → G (.slice (some ⟨b, 0, none⟩) n n) Es h') : OpTo C l Es h ⟨some d, .buildSlice t n parts, ty, pos, aft, gd⟩ G :=
  OpTo_free (OpTo_buildSlice hT hTd hE hz hzl hn hp hc fun b => ⟨_, Es, rfl, fun D h'' hl hD => g b h'' hl (blk_at hD.2)⟩)
end
theorem SlOf_ints {h : Ro} {ad : Addr} {l : List Int} (hc : CellsAt h ad (l.map fun i => .int .i64 i)) : SlOf encI 1 h (some ad) l.length l :=
  ⟨rfl, fun _ => ⟨ad, rfl, fun j x hx i v hv => by
    cases i with
    | zero =>
      have := hc j (.int .i64 x) (by simp [hx])
      simp only [encI, List.getElem?_cons_zero, Option.some.injEq] at hv
      rw [← hv, Nat.mul_one]
      have e : (ad.add j).add 0 = ad.add j := by simp [Addr.add]
      rw [e]; exact this
    | succ i => simp [encI] at hv⟩⟩

/-! ### What is owned, in another order -/
theorem Hp.front {w0 w : World} {X0 : List Nat} {h0 h : Ro} {Es Fs : List Asn} {A : Asn} (H : Hp w0 X0 h0 Es h w) (hT : Take Es A Fs) : Hp w0 X0 h0 (A :: Fs) h w := by
  obtain ⟨Ds, ho, hn, hb⟩ := H.own
  obtain ⟨D, Ds', hA, ho', hn', hin⟩ := hT.own ho hn
  exact ⟨H.os, H.tape, H.output, H.size, H.dr, H.old, H.ro, H.le, H.new, D :: Ds', ⟨hA, ho'⟩, by simpa using hn', fun b hb' => hb b ((hin b).2 (by simpa using hb'))⟩
section
variable {C : Ctx} {ds : List Deferred} {K : List Item} {l : Sl} {Es Fs : List Asn} {A : Asn} {h : Ro} {G : Value → List Asn → Ro → Prop}
theorem OpTo_front {o : Oper} (hT : Take Es A Fs) (g : OpTo C l (A :: Fs) h o G) : OpTo C l Es h o G := fun a w hs hp => g a w hs (hp.front hT)
theorem GO_front (hT : Take Es A Fs) (g : GO C ds l (A :: Fs) h K) : GO C ds l Es h K := fun a w s => g a w ⟨s.size, s.defers, s.slots, s.hp.front hT⟩
end
/-- f comes back with v; what it owned is as it was. -/
def keepPost (v : Value) (Es0 : List Asn) : Value → List Asn → Ro → Prop := fun u Es _ => u = v ∧ Es = Es0
def ValE (P : Program) (f : FuncId) (args : Array Value) (Es0 : List Asn) (h : Ro) (v : Value) : Prop := Fn P f args Es0 h (keepPost v Es0)
theorem ValE_intro {P : Program} {ts : List Ty} (ok : TsOk P ts) {f : FuncId} {fn : Func} {c : Code} {args : List Value} {Es0 : List Asn} {h0 : Ro} {v : Value}
    (hf : P.funcs[f]? = some fn) (hb : fn.body = some c) (hn : Nat.ble args.length fn.ntmps = true)
    (g : ∀ w0 X0, GO (mkC P ts ok fn w0 X0 h0 (keepPost v Es0)) [] (argS 0 args) Es0 h0 [.code c]) : ValE P f args.toArray Es0 h0 v := Fn_intro ok hf hb hn g
theorem Hp.sub {w0 w : World} {X0 : List Nat} {h0 h : Ro} {Es Fs : List Asn} (hs : List.Sublist Fs Es) (H : Hp w0 X0 h0 Es h w) : Hp w0 X0 h0 Fs h w := by
  obtain ⟨Ds, ho, hn, hb⟩ := H.own
  have key : ∀ {Es Fs : List Asn}, List.Sublist Fs Es → ∀ {Ds : List (List Nat)}, Own Es Ds (mem w) → ∃ Gs, Own Fs Gs (mem w) ∧ List.Sublist Gs.flatten Ds.flatten := by
    intro Es Fs hs
    induction hs with
    | slnil => intro Ds ho; exact ⟨Ds, ho, List.Sublist.refl _⟩
    | cons A _ ih =>
      intro Ds ho
      cases Ds with
      | nil => exact ho.elim
      | cons D Ds => obtain ⟨Gs, h1, h2⟩ := ih ho.2; exact ⟨Gs, h1, by rw [List.flatten_cons]; exact h2.trans (List.sublist_append_right _ _)⟩
    | cons_cons A _ ih =>
      intro Ds ho
      cases Ds with
      | nil => exact ho.elim
      | cons D Ds => obtain ⟨Gs, h1, h2⟩ := ih ho.2; exact ⟨D :: Gs, ⟨ho.1, h1⟩, by rw [List.flatten_cons, List.flatten_cons]; exact h2.append_left _⟩
  obtain ⟨Gs, h1, h2⟩ := key hs ho
  exact ⟨H.os, H.tape, H.output, H.size, H.dr, H.old, H.ro, H.le, H.new, Gs, h1, h2.nodup hn, fun b hb' => hb b (h2.subset hb')⟩
section
variable {C : Ctx} {l : Sl} {Es Fs : List Asn} {h : Ro} {K : List Item}
/-- The way out, with some of what is owned. -/
theorem GO_retS {fn : Func} {Post : Value → List Asn → Ro → Prop} {rs : List ResultVar} {vs : List Value} (hQ : C.Q = fnQ C.P fn C.w0 C.X0 C.h0 Post) (hr : fn.results = rs.toArray) (hv : ResV C l Es h rs vs) (hs : List.Sublist Fs Es) (hP : Post (resVal vs) Fs h) :
    GO C [] l Es h (.code .ret :: K) := fun a w s => todo_ret (by
  rw [hQ]
  show LeavesInM _ _ _ _ _ _ a.defers _ _
  rw [s.defers]
  exact ⟨_, results_ok hr s.slots s.hp hv, _, rfl, Fs, h, hP, s.hp.sub hs⟩)
theorem GO_retK {fn : Func} {v0 : Value} {rs : List ResultVar} {vs : List Value} (hQ : C.Q = fnQ C.P fn C.w0 C.X0 C.h0 (keepPost v0 Fs)) (hr : fn.results = rs.toArray) (hv : ResV C l Es h rs vs) (hs : List.Sublist Fs Es) (hP : resVal vs = v0) :
    GO C [] l Es h (.code .ret :: K) := GO_retS hQ hr hv hs ⟨hP, rfl⟩
theorem GO_retK1 {fn : Func} {v0 v : Value} {t : Nat} (hQ : C.Q = fnQ C.P fn C.w0 C.X0 C.h0 (keepPost v0 Fs)) (hr : fn.results = #[.tmp t]) (hv : look t l = some v) (hs : List.Sublist Fs Es) (hP : v = v0) : GO C [] l Es h (.code .ret :: K) :=
  GO_retK (rs := [.tmp t]) (vs := [v]) hQ hr ⟨hv, trivial⟩ hs hP
theorem GO_retKC1 {fn : Func} {v0 v : Value} {t T b off e : Nat} {cs : List Value} {Ty : Ty} (hQ : C.Q = fnQ C.P fn C.w0 C.X0 C.h0 (keepPost v0 Fs)) (hr : fn.results = #[.cell t T]) (ht : look t l = some (.pointer (some ⟨b, off, none⟩))) (hm : Blk b e cs ∈ Es) (hT : tyOf T C.ts = some Ty)
    (hv : pvPart off Ty.size Ty.agg cs = some v) (hs : List.Sublist Fs Es) (hP : v = v0) : GO C [] l Es h (.code .ret :: K) :=
  GO_retK (rs := [.cell t T]) (vs := [v]) hQ hr ⟨⟨_, ht, Ld_blk hT hm hv⟩, trivial⟩ hs hP
/-- .. for whatever is asked at the end. -/
theorem GO_retS1 {fn : Func} {Post : Value → List Asn → Ro → Prop} {v : Value} {t : Nat} (hQ : C.Q = fnQ C.P fn C.w0 C.X0 C.h0 Post) (hr : fn.results = #[.tmp t]) (hv : look t l = some v) (hs : List.Sublist Fs Es) (hP : Post v Fs h) : GO C [] l Es h (.code .ret :: K) :=
  GO_retS (rs := [.tmp t]) (vs := [v]) hQ hr ⟨hv, trivial⟩ hs hP
theorem GO_retS2 {fn : Func} {Post : Value → List Asn → Ro → Prop} {v u : Value} {t s : Nat} (hQ : C.Q = fnQ C.P fn C.w0 C.X0 C.h0 Post) (hr : fn.results = #[.tmp t, .tmp s]) (hv : look t l = some v) (hu : look s l = some u) (hs : List.Sublist Fs Es) (hP : Post (.tuple #[v, u]) Fs h) : GO C [] l Es h (.code .ret :: K) :=
  GO_retS (rs := [.tmp t, .tmp s]) (vs := [v, u]) hQ hr ⟨hv, hu, trivial⟩ hs hP
theorem GO_retSC2 {fn : Func} {Post : Value → List Asn → Ro → Prop} {v u : Value} {t T b off e s : Nat} {cs : List Value} {Ty : Ty} (hQ : C.Q = fnQ C.P fn C.w0 C.X0 C.h0 Post) (hr : fn.results = #[.cell t T, .tmp s]) (ht : look t l = some (.pointer (some ⟨b, off, none⟩))) (hm : Blk b e cs ∈ Es) (hT : tyOf T C.ts = some Ty)
    (hv : pvPart off Ty.size Ty.agg cs = some v) (hu : look s l = some u) (hs : List.Sublist Fs Es) (hP : Post (.tuple #[v, u]) Fs h) : GO C [] l Es h (.code .ret :: K) :=
  GO_retS (rs := [.cell t T, .tmp s]) (vs := [v, u]) hQ hr ⟨⟨_, ht, Ld_blk hT hm hv⟩, hu, trivial⟩ hs hP
end
section
variable {C : Ctx} {l : Sl} {Es Fs : List Asn} {h : Ro} {G : Value → List Asn → Ro → Prop} {ty : TypeId} {pos : String} {aft : Array Edge} {gd : Option (Nat × Bool)} {dst : Option Tmp}
theorem OpTo_valE {xs : Array Operand} {tys : Array TypeId} {f : FuncId} {vs : List Value} {v : Value} {Es0 : List Asn} (hE : Es = Es0 ++ Fs)
    (hxs : evlL l xs.toList = some vs) (hh : Has C.P f) (hf : ValE C.P f vs.toArray Es0 h v) (g : G v Es h) : OpTo C l Es h ⟨dst, .call ⟨.value (.func f), xs, tys⟩, ty, pos, aft, gd⟩ G := fun a w hs hp => by
  have := OpTo_callF (C := C) (l := l) (Es := Es) (h := h) (d := dst) (tys := tys) (ty := ty) (pos := pos) (aft := aft) (gd := gd) (Fs := Fs) (G := fun v' Es' h' => v' = v ∧ Es' = Es ∧ Le h h') hxs hE hh hf
    (fun v' Es' h' hle ⟨e1, e2⟩ => ⟨e1, by rw [e2, hE], hle⟩) a w hs hp
  have fin : ∀ v' w' Es' h', Hp C.w0 C.X0 C.h0 Es' h' w' → (v' = v ∧ Es' = Es ∧ Le h h') → Hp C.w0 C.X0 C.h0 Es h w' ∧ G v' Es h := fun v' w' Es' h' H ⟨e1, e2, e3⟩ => by
    rw [e1]; rw [e2] at H; exact ⟨H.shrink e3 hp.le, g⟩
  rcases this with ⟨v', w', Es', h', hr, H, q⟩ | ⟨w', Es', h', hr, H, q⟩ | ⟨f, args, w1, hr, hc⟩ | ⟨r, f, tmps, assign, body, w1, n, hr, hc⟩
  · exact .inl ⟨v', w', Es, h, hr, fin _ _ _ _ H q⟩
  · exact .inr (.inl ⟨w', Es, h, hr, fin _ _ _ _ H q⟩)
  · exact .inr (.inr (.inl ⟨f, args, w1, hr, hc.mono fun _ _ ⟨v', he, Es', h', H, q⟩ => ⟨v', he, Es, h, fin _ _ _ _ H q⟩⟩))
  · exact .inr (.inr (.inr ⟨r, f, tmps, assign, body, w1, n, hr, hc.mono fun _ _ ⟨v', he, Es', h', H, q⟩ => ⟨v', he, Es, h, fin _ _ _ _ H q⟩⟩))
end
/-- An owned slice let go: a slice that is only read. -/
theorem OwnS_free {α : Type} {enc : α → List Value} {e sz : Nat} {v : Value} {n : Nat} {l : List α} (hl : ∀ x, (enc x).length = sz) {D : List Nat} {h : Ro} (hn : l.length = n) (H : (OwnS e sz v n (l.flatMap enc)).holds D h) :
    ∃ A c, v = .slice A n c ∧ SlOf enc sz h A n l := by
  obtain ⟨h1, hr⟩ := H
  rcases hr with ⟨rfl, h2, _⟩ | ⟨g, cap, cur, rfl, _, hb, h3, h4, h5, h6⟩
  · refine ⟨none, 0, by rw [h2], hn, fun h0 => absurd h0 (by omega)⟩
  · refine ⟨some ⟨g, 0, none⟩, cap, rfl, hn, fun _ => ⟨_, rfl, fun j x hx i u hu => ?_⟩⟩
    rw [add_off, add_off]
    simp only [cellR, hb]
    have hi : i < sz := by rw [← hl x]; exact (List.getElem?_eq_some_iff.1 hu).1
    have hj : j < n := by rw [← hn]; exact (List.getElem?_eq_some_iff.1 hx).1
    have hflat : ∀ (l : List α) (j : Nat), l[j]? = some x → (l.flatMap enc)[j * sz + i]? = some u := by
      intro l
      induction l with
      | nil => intro j hj; simp at hj
      | cons y r ih =>
        intro j hj
        cases j with
        | zero =>
          simp only [List.getElem?_cons_zero, Option.some.injEq] at hj
          subst hj
          rw [List.flatMap_cons, Nat.zero_mul, Nat.zero_add, List.getElem?_append_left (by rw [hl]; exact hi)]
          exact hu
        | succ j =>
          rw [List.flatMap_cons, List.getElem?_append_right (by rw [hl, Nat.succ_mul]; omega), hl, show (j + 1) * sz + i - sz = j * sz + i by rw [Nat.succ_mul]; omega]
          exact ih j (by simpa using hj)
    have := hflat l j hx
    rw [← h6] at this
    have h7 : j * sz + i < n * sz := by
      have : (j + 1) * sz ≤ n * sz := Nat.mul_le_mul_right _ hj
      rw [Nat.succ_mul] at this; omega
    rw [List.getElem?_take, if_pos h7] at this
    simpa using this
end Go.Hw
/-
  Hw, part Ks: maps whose keys are structs of integers.
-/
set_option linter.unusedVariables false
namespace Go.Hw
open Go

/-- Each field of a struct is an integer. -/
def chkFs (ts : List Ty) (xs : List Value) : List Field → Bool
  | [] => true
  | f :: r => match tyOf f.type ts with
    | some T => match T.desc, pvPart f.offset T.size T.agg xs with
      | .int q, some (.int q' _) => decide (q = q') && chkFs ts xs r
      | _, _ => false
    | none => false

theorem run_checkKey_struct {P : Program} {ts : List Ty} (hT : TsOk P ts) {k : Nat} {T : Ty} {fs : Array Field} (hk : tyOf k ts = some T) (hd : T.desc = .struct fs) {xs : List Value} (hc : chkFs ts xs fs.toList = true) (w : World) (em : Bool) :
    (Instr.checkKey em 10000 k (.agg xs.toArray)).run P w = .ok () w := by
  obtain ⟨D, hD, hb⟩ := hT.und hk
  rw [hd] at hb
  obtain ⟨gs, rfl, hg⟩ := blank_struct hb
  show (Instr.checkKey em (9999 + 1) k (.agg xs.toArray)).run P w = _
  unfold Instr.checkKey
  simp only [Sem.run_bind, run_underlying hD, Result.andThen_ok]
  rw [← Array.forIn_toList]
  rw [← hg] at hc
  clear hg hb hD hd
  generalize gs.toList = gl at *
  induction gl with
  | nil => simp
  | cons f r ih =>
    simp only [List.map_cons, chkFs] at hc
    have e1 : (blankF f).type = f.type := rfl
    have e2 : (blankF f).offset = f.offset := rfl
    rw [e1, e2] at hc
    cases hF : tyOf f.type ts with
    | none => rw [hF] at hc; cases hc
    | some F =>
      rw [hF] at hc
      simp only at hc
      obtain ⟨D2, hD2, hb2⟩ := hT.und hF
      split at hc
      · rename_i q q' n hd2 hp
        simp only [Bool.and_eq_true, decide_eq_true_eq] at hc
        obtain ⟨rfl, hc⟩ := hc
        have p1 := pvPart_ok hp w (hT.run_size hF w) (hT.run_agg hF w)
        rw [hd2] at hb2
        rw [blank_int hb2] at hD2
        have p2 := MapKept.run_checkKey (P := P) (w := w) hD2 (show MapKept.IsKey (.int q) (.int q n) from rfl) em 9998
        have ih := ih hc
        by_cases hn : f.name = "_"
        · simp only [List.forIn_cons, Sem.run_bind, hn, ne_eq, not_true_eq_false, if_false, Sem.run_pure, Result.andThen_ok]
          exact ih
        · simp only [List.forIn_cons, Sem.run_bind, hn, ne_eq, not_false_eq_true, if_true, p1, p2, Sem.run_pure, Result.andThen_ok]
          exact ih
      · cases hc

theorem KeyT.struct {κ : Type} [DecidableEq κ] {P : Program} {ts : List Ty} (hT : TsOk P ts) {k : Nat} {T : Ty} {fs : Array Field} (hk : tyOf k ts = some T) (hd : T.desc = .struct fs) (f : κ → List Value) (hinj : ∀ x y, f x = f y → x = y)
    (hc : ∀ x, chkFs ts (f x) fs.toList = true) (heq : ∀ x y, eqD ts 10 k (.agg (f x).toArray) (.agg (f y).toArray) = some (decide (x = y))) (hs : (eqIds ts 10 k).all (fun i => !P.stoodInHeld i) = true) (hb : ∀ x, ∀ v ∈ f x, ∃ q n, v = .int q n) :
    KeyT P k (fun x => .agg (f x).toArray) where
  check := fun w em x => run_checkKey_struct hT hk hd (hc x) w em
  inj := fun x y e => by injection e with e; exact hinj x y (by simpa using congrArg Array.toList e)
  stays := fun w x => by
    have hs : Instr.sameBits 10000 (.agg (f x).toArray) (.agg (f x).toArray) = true := by
      show Instr.sameBits (9999 + 1) (.agg (f x).toArray) (.agg (f x).toArray) = true
      simp only [Instr.sameBits, beq_self_eq_true, Bool.true_and, List.all_eq_true]
      intro p hp
      obtain ⟨i, hi, e⟩ := List.getElem_of_mem hp
      rw [List.getElem_zip] at e
      rw [← e]
      simp only
      obtain ⟨q, n, e2⟩ := hb x ((f x).toArray.toList[i]'(by simpa using hi)) (List.getElem_mem _)
      rw [e2]
      simp [Instr.sameBits]
    simp [Instr.keyThatStays, hs]
  find := fun w x ev es l h => by
    obtain ⟨D, hD, hb⟩ := hT.und hk
    rw [hd] at hb
    obtain ⟨gs, rfl, hg⟩ := blank_struct hb
    have ask : ∀ (es : List MapEntry) (l : List (κ × Nat)) (i : Nat), es.map (fun e => (e.key, e.val)) = l.map (fun p => (Value.agg (f p.1).toArray, ev p.2)) →
        (Instr.findAsking k (.agg (f x).toArray) es i).run P w = .ok ((firstK x l i).map fun p => (p.1, ev p.2)) w := by
      intro es
      induction es with
      | nil => intro l i h; cases l with
        | nil => simp [Instr.findAsking, firstK]
        | cons p l => cases h
      | cons e es ih =>
        intro l i h
        cases l with
        | nil => cases h
        | cons p l =>
          simp only [List.map_cons, List.cons.injEq, Prod.mk.injEq] at h
          have q := eqD_ok hT w (heq x p.1) (fun i hi => by have := List.all_eq_true.1 hs i hi; simpa using this) 9990
          have q1 : (Op.equal k (.agg (f x).toArray) e.key).run P w = .ok (decide (x = p.1)) w := by rw [h.1.1]; exact q
          unfold Instr.findAsking
          simp only [Sem.run_bind, q1, Result.andThen_ok]
          by_cases hx : x = p.1
          · simp [firstK, hx, h.1.2]
          · simp only [hx, decide_false, Bool.false_eq_true, if_false, firstK, Ne.symm hx]
            exact ih l (i + 1) h.2
    unfold Instr.findKey
    simp only [Sem.run_bind, run_underlying hD, Result.andThen_ok]
    cases es with
    | nil => cases l with
      | nil => simp [Instr.findNow, firstK]
      | cons p l => cases h
    | cons e es =>
      have hn : Instr.findNow (.struct gs) (.agg (f x).toArray) (e :: es) 0 = none := by simp [Instr.findNow, Instr.sameNow]
      rw [hn]
      exact ask (e :: es) l 0 h
end Go.Hw
/-
  Hw, part O: append, from memory that is owned or only read; what an owned slice's value is.
-/
set_option linter.unusedVariables false
namespace Go.Hw
open Go

section
variable {C : Ctx} {ds : List Deferred} {l : Sl} {Es : List Asn} {h : Ro} {K : List Item} {G : Value → List Asn → Ro → Prop}
  {d : Tmp} {ty : TypeId} {pos : String} {aft : Array Edge} {gd : Option (Nat × Bool)}

/-- An owned slice's value is a slice. -/
theorem GO_openS {e sz : Nat} {v : Value} {n : Nat} {xs : List Value} (hm : OwnS e sz v n xs ∈ Es) (g : ∀ A c, v = .slice A n c → GO C ds l Es h K) : GO C ds l Es h K := fun a w s => by
  obtain ⟨D, h1, hr⟩ := s.hp.get hm
  rcases hr with ⟨h2, h3, _⟩ | ⟨b, cap, cur, h2, _⟩
  · exact g none 0 (by rw [h2, h3]) a w s
  · exact g _ _ h2 a w s

theorem OpTo_appendB {x y : Operand} {t e e' : TypeId} {v : Value} {n m c b : Nat} {xs cs : List Value} {T E : Ty} {Es' : Value → List Asn} (hT : tyOf t C.ts = some T) (hTd : T.desc = .slice e) (hE : tyOf e C.ts = some E)
    (hz : E.zero.cells.size = E.size) (hsz : Nat.blt 0 E.size = true)
    (hx : evl l x = some v) (hy : evl l y = some (.slice (some ⟨b, 0, none⟩) m c)) (hm : Blk b e' cs ∈ Es) (hR : ∀ v', Repl Es (OwnS e E.size v n xs) (OwnS e E.size v' (n + m) (xs ++ cs)) (Es' v'))
    (hnl : Nat.beq cs.length (m * E.size) = true) (h1 : allOne cs = true) (h63 : n + m ≤ 1000000000) (hby : Nat.ble E.bytes 100000 = true)
    (g : ∀ v', G v' (Es' v') h) : OpTo C l Es h ⟨some d, .call ⟨.builtin .append, #[x, y], #[t, t]⟩, ty, pos, aft, gd⟩ G := by
  have hb := Nat.le_of_ble_eq_true hby
  refine OpTo_append hT hTd hE hz (by simpa [Nat.blt_eq] using hsz) hx hy hR (Nat.eq_of_beq_eq_true hnl) (fun w hp j u hj => ?_) (allOne_ok h1) (by unfold maxLen; omega) ?_ (fun v' _ => g v')
  · have := hp.blk hm
    rw [add_off]
    simp only [World.cell?, this]
    simpa using hj
  · calc (n + m) * E.bytes ≤ 1000000000 * 100000 := Nat.mul_le_mul h63 hb
      _ ≤ 140737488355328 := by decide

theorem OpTo_appendR {x y : Operand} {t e : TypeId} {v : Value} {n m c : Nat} {xs cs : List Value} {ad : Addr} {T E : Ty} {Es' : Value → List Asn} (hT : tyOf t C.ts = some T) (hTd : T.desc = .slice e) (hE : tyOf e C.ts = some E)
    (hz : E.zero.cells.size = E.size) (hsz : Nat.blt 0 E.size = true)
    (hx : evl l x = some v) (hy : evl l y = some (.slice (some ad) m c)) (hm : CellsAt h ad cs) (hR : ∀ v', Repl Es (OwnS e E.size v n xs) (OwnS e E.size v' (n + m) (xs ++ cs)) (Es' v'))
    (hnl : cs.length = m * E.size) (h1 : ∀ u ∈ cs, u.oneCell' = true) (h63 : n + m ≤ 1000000000) (hby : Nat.ble E.bytes 100000 = true)
    (g : ∀ v', G v' (Es' v') h) : OpTo C l Es h ⟨some d, .call ⟨.builtin .append, #[x, y], #[t, t]⟩, ty, pos, aft, gd⟩ G := by
  have hb := Nat.le_of_ble_eq_true hby
  refine OpTo_append hT hTd hE hz (by simpa [Nat.blt_eq] using hsz) hx hy hR hnl (fun w hp j u hj => ?_) h1 (by unfold maxLen; omega) ?_ (fun v' _ => g v')
  · rw [cell?_mem]; exact cellR_le hp.ro (hm j u hj)
  · calc (n + m) * E.bytes ≤ 1000000000 * 100000 := Nat.mul_le_mul h63 hb
      _ ≤ 140737488355328 := by decide
end
end Go.Hw
/-
  Hw, part P: ranges over functions: the caller's loop (GO_rangeFunc), a round's body, the iterator's calls of yield (OpTo_yield), the way out with marks among the deferred calls.
-/
set_option linter.unusedVariables false
namespace Go.Hw
open Go

/-! ### Steps -/
section steps
variable {P : Program} {ro : Option Nat} {Q : Exit → Act → World → Prop} {a : Act} {w : World} {k : List Item}

theorem todo_beginRound {l : Nat} {w' : World} (hb : (Instr.beginRound l).run P w = .ok () w') (h : Todo P (some l) k Q a w') : Todo P (some l) (.beginRound :: k) Q a w :=
  .step (fun b cs hro => .one trivial (stepR_beginRound hro hb)) h
theorem todo_exitR {id : Nat} (hx : exitTo id k = none) (h : Q (.exit id) a w) : Todo P ro (.code (.exit id) :: k) Q a w := fun b cs hb =>
  ⟨.exit id, a, w, h, fun k' hk => by simp [exitTo] at hk, fun hr _ => ⟨k, hx, .refl _⟩⟩

theorem round_of_todo {l : Nat} {f : FuncId} {tmps : Array Value} {assign body : Code} {R : Ending → World → Prop}
    (h : Todo P (some l) [.code assign, .beginRound, .code body] (roundPost P l R) { tmps := tmps, defers := [] } w) : RoundIn Fence.wide 0 P l f tmps assign body w R := by
  refine ⟨trivial, fun c cs _ => ?_⟩
  let b : Frame := { (default : Frame) with fn := f, kind := .normal, roundOf := some l }
  have hb0 : Frame.round l f tmps assign body .normal = b.atR { tmps := tmps, defers := [] } [.code assign, .beginRound, .code body] := by
    simp [Frame.round, Frame.atR, b]
  obtain ⟨e, a', w', hq, harr⟩ := h b (c :: cs) rfl
  rw [← hb0] at harr
  have up : ∀ {m m' : Machine}, StepsW P m m' → StepsIn (Machine.fenced P Fence.wide) P m m' := fun h => h.mono fun m _ => fenced_wide P m
  cases e with
  | normal =>
    obtain ⟨v, w₄, hend, hR⟩ := hq
    exact ⟨.returned v, w₄, hR, StepsIn.trans (up harr) (.one (fenced_wide _ _) (stepR_round_end rfl rfl hend))⟩
  | ret =>
    obtain ⟨v, w₄, hend, hR⟩ := hq
    obtain ⟨k₁, hs⟩ := harr.2 rfl
    exact ⟨.returned v, w₄, hR, StepsIn.trans (up hs) (.one (fenced_wide _ _) (stepR_round_ret rfl rfl hend))⟩
  | exit id =>
    obtain ⟨v, w₄, hend, hR⟩ := hq
    obtain ⟨k₁, hk, hs⟩ := harr.2 rfl rfl
    exact ⟨.returned v, w₄, hR, StepsIn.trans (up hs) (.one (fenced_wide _ _) (stepR_round_exit rfl rfl hk hend))⟩
  | goto t =>
    obtain ⟨v, w₄, hend, hR⟩ := hq
    obtain ⟨k₁, hk, hs⟩ := harr.2 rfl rfl
    exact ⟨.returned v, w₄, hR, StepsIn.trans (up hs) (.one (fenced_wide _ _) (stepR_round_goto rfl rfl hk hend))⟩
  | panic chain => exact hq.elim
  | outgrown => exact hq.elim

theorem todo_rangeFunc {g : Operand} {ps : Array Tmp} {assign body : Code}
    (h : ∀ fn : FuncId, ∃ (l : Nat) (mark : List Deferred) (w₁ : World) (d : Deferred) (w₁' : World) (f : FuncId) (args : Array Value) (w₂ : World),
      (Instr.enterLoop fn a.tmps ps assign body ro).run P w = .ok (l, mark) w₁ ∧ (resolve a.eval (rangeCall g l) 0).run P w₁ = .ok d w₁' ∧ (invoke d.target d.args).run P w₁' = .ok (.enter f args) w₂ ∧
      Calls P f args w₂ fun e w₃ => ∃ v, e = .returned v ∧ ∃ jump w₄, (Instr.endLoop l).run P w₃ = .ok jump w₄ ∧ Todo P ro ((jump.map Item.code).toList ++ k) Q { a with defers := mark ++ a.defers } w₄) :
    Todo P ro (.code (.rangeFunc g ps assign body) :: k) Q a w := by
  intro b cs hb
  obtain ⟨l, mark, w₁, d, w₁', f, args, w₂, he, hres, hinv, hcall⟩ := h b.fn
  rw [← hb] at he
  have henter := stepR_rangeFunc (P := P) (b := b) (a := a) (k := k) (cs := cs) (w := w) he hres hinv
  obtain ⟨e, w₃, fr, ⟨v, rfl, jump, w₄, hend, hj⟩, hsteps, hfn, hleave⟩ := hcall (b.atR { a with defers := mark ++ a.defers } (.inRangeFunc l :: k) :: cs)
  obtain ⟨e₂, a₂, w₅, q₂, r₂⟩ := hj b cs hb
  refine ⟨e₂, a₂, w₅, q₂, .of_steps ?_ r₂⟩
  refine .head trivial henter (StepsIn.trans (StepsIn.of_steps hsteps) (.head trivial ?_ (.one trivial (stepR_endRangeFunc hend))))
  rw [← finish_atR_inRangeFunc l v]; exact step_leave_returned hleave
end steps

/-! ### The loop's record and the block for deferred calls, owned -/
def LoopA (l : Nat) (r : Loop) : Asn := ObjA l (fun o => o = .loop r)
def DefA (d : Nat) : Asn := ObjA d (fun o => o = .deferred (some []))

section hp
variable {w0 w : World} {X0 : List Nat} {h0 h : Ro} {Es Fs : List Asn}
theorem Hp.putObj {b : Nat} {p p' : Obj → Prop} {o' : Obj} (H : Hp w0 X0 h0 (ObjA b p :: Fs) h w) (hp : p' o') : Hp w0 X0 h0 (ObjA b p' :: Fs) h (w.putObj b o') := by
  refine H.repl .here rfl rfl rfl (by simp) fun D hA hn hb => ?_
  obtain ⟨hD, o, ho, _⟩ := hA
  have hlt : b < w.heap.size := hb b (by simp [hD])
  refine ⟨D, ⟨hD, o', World.putObj_heap_same hlt, hp⟩, hn, fun i hi => ⟨.inl hi, by simpa using hb i hi⟩, fun i hi hni => World.putObj_heap_other fun e => hni (by rw [hD, e]; exact .head _)⟩

theorem Own.perm : ∀ {Es Fs : List Asn} (hp : Es.Perm Fs) {Ds : List (List Nat)} {m : Ro}, Own Es Ds m → ∃ Gs : List (List Nat), Own Fs Gs m ∧ Ds.flatten.Perm Gs.flatten := by
  intro Es Fs hp
  induction hp with
  | nil => intro Ds m ho; exact ⟨Ds, ho, .refl _⟩
  | cons A _ ih =>
    intro Ds m ho
    cases Ds with
    | nil => exact ho.elim
    | cons D Ds =>
      obtain ⟨Gs, h1, h2⟩ := ih ho.2
      exact ⟨D :: Gs, ⟨ho.1, h1⟩, by simpa using h2.append_left D⟩
  | swap A B l =>
    intro Ds m ho
    cases Ds with
    | nil => exact ho.elim
    | cons D Ds =>
      cases Ds with
      | nil => exact ho.2.elim
      | cons D2 Ds => exact ⟨D2 :: D :: Ds, ⟨ho.2.1, ho.1, ho.2.2⟩, by
          simp only [List.flatten_cons, ← List.append_assoc]; exact (List.perm_append_comm).append_right _⟩
  | trans _ _ ih1 ih2 =>
    intro Ds m ho
    obtain ⟨Gs, h1, h2⟩ := ih1 ho
    obtain ⟨Hs, h3, h4⟩ := ih2 h1
    exact ⟨Hs, h3, h2.trans h4⟩

theorem Hp.perm (H : Hp w0 X0 h0 Es h w) (hp : Es.Perm Fs) : Hp w0 X0 h0 Fs h w := by
  obtain ⟨Ds, ho, hn, hb⟩ := H.own
  obtain ⟨Gs, h1, h2⟩ := Own.perm hp ho
  exact ⟨H.os, H.tape, H.output, H.size, H.dr, H.old, H.ro, H.le, H.new, Gs, h1, h2.nodup_iff.1 hn, fun b hb1 => hb b (h2.mem_iff.2 hb1)⟩

theorem Hp.obj {b : Nat} {p : Obj → Prop} (H : Hp w0 X0 h0 (ObjA b p :: Fs) h w) : ∃ o, w.heap[b]? = some o ∧ p o := by
  obtain ⟨D, _, h1⟩ := H.get (List.Mem.head _)
  exact h1
end hp

section perm
variable {C : Ctx} {ds : List Deferred} {K : List Item} {l : Sl} {Es Fs : List Asn} {h : Ro} {G : Value → List Asn → Ro → Prop}
theorem GO_perm (hp : Es.Perm Fs) (g : GO C ds l Fs h K) : GO C ds l Es h K := fun a w s => g a w ⟨s.size, s.defers, s.slots, s.hp.perm hp⟩
theorem OpTo_perm {o : Oper} (hp : Es.Perm Fs) (g : OpTo C l Fs h o G) : OpTo C l Es h o G := fun a w hs H => g a w hs (H.perm hp)
end perm

/-! ### A round -/
/-- What a round comes to: yield hands back true, and the consumer's state is as 'I' says; or false, with a jump pending. -/
def roundP (lid : Nat) (r : Loop) (I : List Asn → Ro → Prop) (Ix : Code → List Asn → Ro → Prop) : Value → List Asn → Ro → Prop := fun v Es h =>
  (v = .bool true ∧ ∃ Fs, Es = LoopA lid { r with state := .ready, pending := none } :: Fs ∧ I Fs h) ∨
  (v = .bool false ∧ ∃ c Fs, Es = LoopA lid { r with state := .done, pending := some c } :: Fs ∧ Ix c Fs h)

def rQ (P : Program) (lid : Nat) (w0 : World) (X0 : List Nat) (h0 : Ro) (Post : Value → List Asn → Ro → Prop) : Exit → Act → World → Prop :=
  roundPost P lid fun e w' => ∃ v, e = .returned v ∧ ∃ Es h, Post v Es h ∧ Hp w0 X0 h0 Es h w'

def mkR (P : Program) (ts : List Ty) (ok : TsOk P ts) (N lid : Nat) (w0 : World) (X0 : List Nat) (h0 : Ro) (Post : Value → List Asn → Ro → Prop) : Ctx :=
  { P, ts, ok, ro := some lid, N, w0, X0, h0, Q := rQ P lid w0 X0 h0 Post }

section round
variable {C : Ctx} {ds : List Deferred} {K : List Item} {l : Sl} {Es Fs : List Asn} {h : Ro} {lid : Nat} {r : Loop} {I : List Asn → Ro → Prop} {Ix : Code → List Asn → Ro → Prop}

theorem GO_begin (hro : C.ro = some lid) (hT : Take Es (LoopA lid r) Fs) (hr : r.state = .ready) (g : GO C ds l (LoopA lid { r with state := .busy } :: Fs) h K) : GO C ds l Es h (.beginRound :: K) := by
  intro a w s
  have H := s.hp.front hT
  obtain ⟨o, ho, rfl⟩ := H.obj
  have G := g a (w.putObj lid (.loop { r with state := .busy })) ⟨s.size, s.defers, s.slots, H.putObj rfl⟩
  rw [hro] at G ⊢
  exact todo_beginRound (run_beginRound ho hr) G

theorem endR {w : World} (H : Hp C.w0 C.X0 C.h0 Es h w) (hT : Take Es (LoopA lid r) Fs) (jump : Option Code) :
    (Instr.endRound lid jump).run C.P w = .ok (.bool jump.isNone) (w.putObj lid (.loop { r with state := if jump.isNone then .ready else .done, pending := jump })) ∧
    Hp C.w0 C.X0 C.h0 (LoopA lid { r with state := if jump.isNone then .ready else .done, pending := jump } :: Fs) h (w.putObj lid (.loop { r with state := if jump.isNone then .ready else .done, pending := jump })) := by
  have H := H.front hT
  obtain ⟨o, ho, rfl⟩ := H.obj
  exact ⟨run_endRound jump ho, H.putObj rfl⟩

/-- The round's end. The record that the round began with is 'r0'; the one that lies there now differs from it in its state alone. -/
theorem GO_rEnd {r0 : Loop} (hQ : C.Q = rQ C.P lid C.w0 C.X0 C.h0 (roundP lid r0 I Ix)) (hT : Take Es (LoopA lid { r0 with state := .busy }) Fs) (hP : I Fs h) : GO C [] l Es h [] := fun a w s => todo_end (by
  obtain ⟨h1, h2⟩ := endR s.hp hT none
  rw [hQ]
  exact ⟨_, _, h1, _, rfl, _, _, .inl ⟨rfl, Fs, rfl, hP⟩, h2⟩)
theorem GO_rRet {r0 : Loop} (hQ : C.Q = rQ C.P lid C.w0 C.X0 C.h0 (roundP lid r0 I Ix)) (hT : Take Es (LoopA lid { r0 with state := .busy }) Fs) (hP : Ix .ret Fs h) : GO C [] l Es h (.code .ret :: K) := fun a w s => todo_ret (by
  obtain ⟨h1, h2⟩ := endR s.hp hT (some .ret)
  rw [hQ]
  exact ⟨_, _, h1, _, rfl, _, _, .inr ⟨rfl, .ret, Fs, rfl, hP⟩, h2⟩)
theorem GO_rExit {r0 : Loop} {id : Nat} (hx : exitTo id K = none) (hQ : C.Q = rQ C.P lid C.w0 C.X0 C.h0 (roundP lid r0 I Ix)) (hT : Take Es (LoopA lid { r0 with state := .busy }) Fs) (hP : Ix (.exit id) Fs h) : GO C [] l Es h (.code (.exit id) :: K) := fun a w s => todo_exitR hx (by
  obtain ⟨h1, h2⟩ := endR s.hp hT (some (.exit id))
  rw [hQ]
  exact ⟨_, _, h1, _, rfl, _, _, .inr ⟨rfl, .exit id, Fs, rfl, hP⟩, h2⟩)
end round

/-! ### yield, from the iterator's side -/
def Yl (P : Program) (lid : Nat) (args : List Value) (Es0 : List Asn) (h0 : Ro) (Post : Value → List Asn → Ro → Prop) : Prop :=
  ∀ (w : World) (X0 : List Nat), Le h0 (mem w) →
    (∃ Ds : List (List Nat), Own Es0 Ds (mem w) ∧ Ds.flatten.Nodup ∧ ∀ b ∈ Ds.flatten, h0 b = none ∧ b ∈ X0 ∧ b < w.heap.size) →
    ∃ f tmps assign body n, (Instr.yield lid args.toArray).run P w = .ok (.round lid f tmps assign body) w ∧
      RoundIn Fence.wide n P lid f tmps assign body w fun e w' => ∃ v, e = .returned v ∧ ∃ Es h, Post v Es h ∧ Hp w X0 h0 Es h w'

theorem Yl.mono {P : Program} {lid : Nat} {args : List Value} {Es0 : List Asn} {h0 : Ro} {Post Post' : Value → List Asn → Ro → Prop} (y : Yl P lid args Es0 h0 Post) (hp : ∀ v Es h, Le h0 h → Post v Es h → Post' v Es h) : Yl P lid args Es0 h0 Post' := fun w X0 hl ho =>
  let ⟨f, t, as, bo, n, h1, h2⟩ := y w X0 hl ho
  ⟨f, t, as, bo, n, h1, h2.mono fun _ _ ⟨v, he, Es, h, hP, H⟩ => ⟨v, he, Es, h, hp v Es h H.le hP, H⟩⟩

section yield
variable {C : Ctx} {l : Sl} {Es Fs : List Asn} {h : Ro} {G : Value → List Asn → Ro → Prop} {ty : TypeId} {pos : String} {aft : Array Edge} {gd : Option (Nat × Bool)} {dst : Option Tmp}
theorem OpTo_yield {c : Operand} {xs : Array Operand} {tys : Array TypeId} {lid : Nat} {vs : List Value} {Es0 : List Asn} {Post : Value → List Asn → Ro → Prop}
    (hc : evl l c = some (.func (.yield lid) #[] #[])) (hxs : evlL l xs.toList = some vs) (hE : Es = Es0 ++ Fs) (hf : Yl C.P lid vs Es0 h Post)
    (g : ∀ v Es' h', Le h h' → Post v Es' h' → G v (Es' ++ Fs) h') : OpTo C l Es h ⟨dst, .call ⟨.value c, xs, tys⟩, ty, pos, aft, gd⟩ G := by
  intro a w hs hp
  subst hE
  obtain ⟨Ds, ho, hn, hb⟩ := hp.own
  obtain ⟨D1, D2, rfl, ho1, ho2⟩ := ho.split
  have hb1 : ∀ b ∈ D1.flatten, b ∈ (D1 ++ D2).flatten := fun b h1 => by rw [List.flatten_append, List.mem_append]; exact .inl h1
  obtain ⟨f, tmps, assign, body, n, h1, h2⟩ := hf w D1.flatten hp.ro ⟨D1, ho1, by rw [List.flatten_append, List.nodup_append] at hn; exact hn.1, fun b h1 => ⟨(hb b (hb1 b h1)).1, h1, (hb b (hb1 b h1)).2.2⟩⟩
  refine .inr (.inr (.inr ⟨lid, f, tmps, assign, body, w, n, ?_, h2.mono ?_⟩))
  · have e1 : a.eval c = .func (.yield lid) #[] #[] := hs.eval hc
    have e2 : xs.map a.eval = vs.toArray := by
      have := evlL_ok hs hxs
      rw [← this, ← Array.toList_map]
    simp only [execOp, resolve, e1, e2]
    simp [go_sem, h1, invoke]
  · rintro e w2 ⟨v, rfl, Es', h', hP, H'⟩
    exact ⟨v, rfl, Es' ++ Fs, h', hp.call ho1 ho2 hn hb H', g v Es' h' H'.le hP⟩
end yield

/-! ### The iterator's contract -/
/-- g, called with a yield, hands over xs in their order; and stops where yield says no. The consumer's state is the consumer's. -/
def SeqFn {α : Type} (P : Program) (g : FuncId) (lb : List Value) (enc : α → List Value) (xs : List α) (h : Ro) : Prop :=
  ∀ (lid : Nat) (I Ix : List α → List Asn → Ro → Prop), (∀ pre Es h1 h2, Le h1 h2 → I pre Es h1 → I pre Es h2) → (∀ pre Es h1 h2, Le h1 h2 → Ix pre Es h1 → Ix pre Es h2) →
    (∀ pre x post Es h1, xs = pre ++ x :: post → Le h h1 → I pre Es h1 → Yl P lid (enc x) Es h1 fun v Es' h' => (v = .bool true ∧ I (pre ++ [x]) Es' h') ∨ (v = .bool false ∧ Ix (pre ++ [x]) Es' h')) →
    ∀ Es h1, Le h h1 → I [] Es h1 → Fn P g (.func (.yield lid) #[] #[] :: lb).toArray Es h1 fun v Es' h' => I xs Es' h' ∨ ∃ pre post, xs = pre ++ post ∧ Ix pre Es' h'

theorem SeqFn.le {α : Type} {P : Program} {g : FuncId} {lb : List Value} {enc : α → List Value} {xs : List α} {h h' : Ro} (s : SeqFn P g lb enc xs h) (hl : Le h h') : SeqFn P g lb enc xs h' := by
  intro lid I Ix m1 m2 hr Es h1 hl1 hI
  refine (s lid (fun pre Es h2 => Le h' h2 ∧ I pre Es h2) (fun pre Es h2 => Ix pre Es h2) (fun pre Es a b hab ⟨q1, q2⟩ => ⟨q1.trans hab, m1 _ _ _ _ hab q2⟩) m2
    (fun pre x post Es h2 e _ ⟨q1, q2⟩ => (hr pre x post Es h2 e q1 q2).mono fun v Es h3 hle hP => hP.imp (fun ⟨p1, p2⟩ => ⟨p1, q1.trans hle, p2⟩) id) Es h1 (hl.trans hl1) ⟨hl1, hI⟩).mono ?_
  rintro v Es' h2 _ (⟨_, h3⟩ | h3)
  · exact .inl h3
  · exact .inr h3

/-! ### The statement -/
def zipS : List Tmp → List Value → Sl → Sl
  | p :: ps, v :: vs, l => zipS ps vs ((p, v) :: l)
  | _, _, l => l
theorem zipS_ok : ∀ {ps : List Tmp} {vs : List Value} {l : Sl} {tmps : Array Value} {N : Nat}, SlotsOk l { tmps := tmps, defers := [] } → tmps.size = N → ps.all (fun p => Nat.blt p N) = true →
    SlotsOk (zipS ps vs l) { tmps := (ps.zip vs).foldl (fun t p => t.setIfInBounds p.1 p.2) tmps, defers := [] } ∧ ((ps.zip vs).foldl (fun t p => t.setIfInBounds p.1 p.2) tmps).size = N
  | [], vs, l, tmps, N, hs, hN, _ => ⟨by cases vs <;> exact hs, by simpa using hN⟩
  | p :: ps, [], l, tmps, N, hs, hN, _ => ⟨hs, by simpa using hN⟩
  | p :: ps, v :: vs, l, tmps, N, hs, hN, hp => by
    simp only [List.all_cons, Bool.and_eq_true] at hp
    have hlt : p < tmps.size := by
      have h1 := hp.1; rw [Nat.blt_eq] at h1; rw [hN]; exact h1
    exact zipS_ok (ps := ps) (vs := vs) (hs.put (a := { tmps := tmps, defers := [] }) hlt v) (by simpa [Act.put] using hN) hp.2

abbrev mark (D : Nat) : Deferred := { target := .collected D, args := #[] }

theorem GO_rangeFunc {C : Ctx} {ds : List Deferred} {l : Sl} {Es : List Asn} {h : Ro} {K : List Item} {g : Operand} {ps : Array Tmp} {assign body : Code} {α : Type} {gf : Nat} {lb : List Value} {enc : α → List Value} {xs : List α}
    (hro : C.ro = none) (hg : evl l g = some (.func (.func gf) #[] lb.toArray)) (hh : Has C.P gf) (hseq : SeqFn C.P gf lb enc xs h) (hps : ∀ x, (enc x).length = ps.size) (hpN : ps.toList.all (fun p => Nat.blt p C.N) = true)
    (I : List α → List Asn → Ro → Prop) (Ix : Code → List α → List Asn → Ro → Prop) (mI : ∀ pre Es h1 h2, Le h1 h2 → I pre Es h1 → I pre Es h2) (mIx : ∀ c pre Es h1 h2, Le h1 h2 → Ix c pre Es h1 → Ix c pre Es h2) (h0 : I [] Es h)
    (round : ∀ (lid : Nat) (r : Loop) (w0 : World) (X0 : List Nat) pre x post Es1 h1, xs = pre ++ x :: post → I pre Es1 h1 → Le h h1 → r.state = .ready →
      GO (mkR C.P C.ts C.ok C.N lid w0 X0 h1 (roundP lid r (I (pre ++ [x])) (fun c => Ix c (pre ++ [x])))) [] (zipS ps.toList (enc x) l) (LoopA lid r :: Es1) h1 [.code assign, .beginRound, .code body])
    (done : ∀ D h1 Es1, Le h h1 → I xs Es1 h1 → GO C (mark D :: ds) l (DefA D :: Es1) h1 K)
    (stop : ∀ D h1 Es1 c pre post, xs = pre ++ post → Le h h1 → Ix c pre Es1 h1 → GO C (mark D :: ds) l (DefA D :: Es1) h1 (.code c :: K)) :
    GO C ds l Es h (.code (.rangeFunc g ps assign body) :: K) := by
  intro a w s
  refine todo_rangeFunc fun fn => ?_
  obtain ⟨rec, hrec⟩ : ∃ rec : Loop, rec = { state := .ready, pending := none, fn, tmps := a.tmps, params := ps, assign, body, defers := w.heap.size } := ⟨_, rfl⟩
  obtain ⟨lid, hlid⟩ : ∃ lid, lid = w.heap.size + 1 := ⟨_, rfl⟩
  obtain ⟨W1, hW1⟩ : ∃ W1, (w.alloc (.deferred (some []))).alloc (.loop rec) = W1 := ⟨_, rfl⟩
  have H0 : Hp C.w0 C.X0 C.h0 (DefA w.heap.size :: Es) h (w.alloc (.deferred (some []))) := s.hp.alloc _ _ fun m hm => ⟨rfl, _, hm, rfl⟩
  have H1 : Hp C.w0 C.X0 C.h0 (LoopA lid rec :: DefA w.heap.size :: Es) h W1 := by
    have hz : (w.alloc (.deferred (some []))).heap.size = lid := by rw [hlid]; simp
    have := H0.alloc (.loop rec) (LoopA lid rec) (by rw [hz]; exact fun m hm => ⟨rfl, _, hm, rfl⟩)
    rw [← hW1]; exact this
  have H2 : Hp C.w0 C.X0 C.h0 ((LoopA lid rec :: Es) ++ [DefA w.heap.size]) h W1 := H1.perm (by
    simp only [List.cons_append]; exact (List.perm_append_comm (l₁ := [DefA w.heap.size]) (l₂ := Es)).cons _)
  refine ⟨lid, [mark w.heap.size], W1, { target := .fn (.func gf) lb.toArray, args := #[.func (.yield lid) #[] #[]] }, W1, gf, (.func (.yield lid) #[] #[] :: lb).toArray, W1, ?_, ?_, ?_, ?_⟩
  · rw [hro, ← hW1, hrec, hlid]; exact run_enterLoop_outer _ _ _ _ _
  · have e1 : a.eval g = .func (.func gf) #[] lb.toArray := s.slots.eval hg
    simp only [resolve, e1]
    simp [go_sem]
  · obtain ⟨fn', q1, q2, q3⟩ := hh
    simp only [invoke]
    simp [go_sem, run_callFunc q1 q2 q3]
  obtain ⟨Ds, ho, hn, hb⟩ := H2.own
  obtain ⟨D1, D2, rfl, ho1, ho2⟩ := ho.split
  have hb1 : ∀ b ∈ D1.flatten, b ∈ (D1 ++ D2).flatten := fun b h1 => by rw [List.flatten_append, List.mem_append]; exact .inl h1
  have hcall := hseq lid (fun pre Es h' => ∃ Fs, Es = LoopA lid rec :: Fs ∧ I pre Fs h' ∧ Le h h') (fun pre Es h' => ∃ c Fs, Es = LoopA lid { rec with state := .done, pending := some c } :: Fs ∧ Ix c pre Fs h' ∧ Le h h')
    (fun pre Es h1 h2 hl ⟨Fs, q1, q2, q3⟩ => ⟨Fs, q1, mI _ _ _ _ hl q2, q3.trans hl⟩) (fun pre Es h1 h2 hl ⟨c, Fs, q1, q2, q3⟩ => ⟨c, Fs, q1, mIx _ _ _ _ _ hl q2, q3.trans hl⟩)
    (fun pre x post Es1 h1 hx hl1 ⟨Fs, q1, q2, q3⟩ => by
      subst q1
      intro w' X' hl' ⟨Ds', ho', hn', hb'⟩
      have hl0 : w'.heap[lid]? = some (.loop rec) := by
        obtain ⟨D, hA, _⟩ := ho'.get (List.Mem.head _)
        obtain ⟨_, o, hm, rfl⟩ := hA
        exact hm
      have hy := run_yield (P := C.P) (args := (enc x).toArray) hl0 (by rw [hrec]; simpa using hps x)
      refine ⟨_, _, _, _, 0, hy, round_of_todo ?_⟩
      have hz := zipS_ok (ps := ps.toList) (vs := enc x) (l := l) (tmps := a.tmps) (N := C.N) s.slots s.size hpN
      have e : ((rec.params.zip (enc x).toArray).foldl (fun tmps (t, a) => tmps.setIfInBounds t a) rec.tmps) = ((ps.toList.zip (enc x)).foldl (fun t p => t.setIfInBounds p.1 p.2) a.tmps) := by
        rw [hrec, ← Array.foldl_toList, Array.toList_zip]
      rw [e]
      have hst : rec.state = .ready := by rw [hrec]
      have hrr : { rec with state := .ready, pending := none } = rec := by rw [hrec]
      have R := round lid rec w' X' pre x post Fs h1 hx q2 q3 hst { tmps := (ps.toList.zip (enc x)).foldl (fun t p => t.setIfInBounds p.1 p.2) a.tmps, defers := [] } w'
        ⟨hz.2, rfl, hz.1, ⟨rfl, rfl, rfl, Nat.le_refl _, Nat.le_refl _, fun _ _ _ => rfl, hl', Le.refl _, fun i o e => .inl e, Ds', ho', hn', fun b hb1 => ⟨(hb' b hb1).1, .inr (hb' b hb1).2.1, (hb' b hb1).2.2⟩⟩⟩
      have ha : rec.assign = assign := by rw [hrec]
      have hbd : rec.body = body := by rw [hrec]
      rw [← ha, ← hbd] at R
      have mono : ∀ e a' w2, rQ C.P lid w' X' h1 (roundP lid rec (I (pre ++ [x])) (fun c => Ix c (pre ++ [x]))) e a' w2 → roundPost C.P lid (fun e w2 => ∃ v, e = .returned v ∧ ∃ Es h2, ((v = .bool true ∧ ∃ Fs, Es = LoopA lid rec :: Fs ∧ I (pre ++ [x]) Fs h2 ∧ Le h h2) ∨ (v = .bool false ∧ ∃ c Fs, Es = LoopA lid { rec with state := .done, pending := some c } :: Fs ∧ Ix c (pre ++ [x]) Fs h2 ∧ Le h h2)) ∧ Hp w' X' h1 Es h2 w2) e a' w2 := by
        have aux : ∀ e w2, (∃ v, e = Ending.returned v ∧ ∃ Es h2, roundP lid rec (I (pre ++ [x])) (fun c => Ix c (pre ++ [x])) v Es h2 ∧ Hp w' X' h1 Es h2 w2) → (∃ v, e = Ending.returned v ∧ ∃ Es h2, ((v = .bool true ∧ ∃ Fs, Es = LoopA lid rec :: Fs ∧ I (pre ++ [x]) Fs h2 ∧ Le h h2) ∨ (v = .bool false ∧ ∃ c Fs, Es = LoopA lid { rec with state := .done, pending := some c } :: Fs ∧ Ix c (pre ++ [x]) Fs h2 ∧ Le h h2)) ∧ Hp w' X' h1 Es h2 w2) := by
          rintro e w2 ⟨v, he, Es, h2, hP, H⟩
          refine ⟨v, he, Es, h2, ?_, H⟩
          rcases hP with ⟨p1, Fs, p2, p3⟩ | ⟨p1, c, Fs, p2, p3⟩
          · rw [hrr] at p2; exact .inl ⟨p1, Fs, p2, p3, q3.trans H.le⟩
          · exact .inr ⟨p1, c, Fs, p2, p3, q3.trans H.le⟩
        intro e a' w2 hq
        cases e with
        | normal => obtain ⟨v, w4, q1, q2⟩ := hq; exact ⟨v, w4, q1, aux _ _ q2⟩
        | ret => obtain ⟨v, w4, q1, q2⟩ := hq; exact ⟨v, w4, q1, aux _ _ q2⟩
        | exit id => obtain ⟨v, w4, q1, q2⟩ := hq; exact ⟨v, w4, q1, aux _ _ q2⟩
        | goto t => obtain ⟨v, w4, q1, q2⟩ := hq; exact ⟨v, w4, q1, aux _ _ q2⟩
        | panic ch => exact hq.elim
        | outgrown => exact hq.elim
      intro b cs hb0
      obtain ⟨e, a', w2, hq, harr⟩ := R b cs hb0
      exact ⟨e, a', w2, mono _ _ _ hq, harr⟩)
    (LoopA lid rec :: Es) h (Le.refl h) ⟨Es, rfl, h0, Le.refl h⟩
  refine (hcall W1 D1.flatten H2.ro ⟨D1, ho1, by rw [List.flatten_append, List.nodup_append] at hn; exact hn.1, fun b h1 => ⟨(hb b (hb1 b h1)).1, h1, (hb b (hb1 b h1)).2.2⟩⟩).mono ?_
  rintro e w3 ⟨v, rfl, Es', h', hP, H'⟩
  have H3 := H2.call ho1 ho2 hn hb H'
  refine ⟨v, rfl, ?_⟩
  have hnb : rec.state ≠ .busy := by rw [hrec]; simp
  have fin : ∀ (r' : Loop) (Fs : List Asn), r'.state ≠ .busy → Hp C.w0 C.X0 C.h0 (LoopA lid r' :: Fs ++ [DefA w.heap.size]) h' w3 → (Instr.endLoop lid).run C.P w3 = .ok r'.pending (w3.putObj lid (.loop { r' with state := .exhausted })) ∧
      Hp C.w0 C.X0 C.h0 (DefA w.heap.size :: Fs) h' (w3.putObj lid (.loop { r' with state := .exhausted })) := by
    intro r' Fs hst H
    obtain ⟨o, ho, rfl⟩ := H.obj
    refine ⟨run_endLoop ho hst, ?_⟩
    have := (H.putObj (p' := fun o => o = .loop { r' with state := .exhausted }) rfl).drop .here
    exact this.perm (List.perm_append_comm (l₁ := Fs) (l₂ := [DefA w.heap.size]))
  rcases hP with ⟨Fs, rfl, p1, p2⟩ | ⟨pre, post, hx, c, Fs, rfl, p1, p2⟩
  · obtain ⟨q1, q2⟩ := fin rec Fs hnb H3
    have hpend : rec.pending = none := by rw [hrec]
    rw [hpend] at q1 q2
    refine ⟨none, _, q1, ?_⟩
    exact done w.heap.size h' Fs p2 p1 { a with defers := [mark w.heap.size] ++ a.defers } _ ⟨s.size, by rw [← s.defers]; rfl, s.slots, q2⟩
  · obtain ⟨q1, q2⟩ := fin { rec with state := .done, pending := some c } Fs (by simp) H3
    refine ⟨some c, _, q1, ?_⟩
    exact stop w.heap.size h' Fs c pre post hx p2 p1 { a with defers := [mark w.heap.size] ++ a.defers } _ ⟨s.size, by rw [← s.defers]; rfl, s.slots, q2⟩

/-! ### The way out with marks -/
def Rt (C : Ctx) (ds : List Deferred) (l : Sl) (Es : List Asn) (h : Ro) : Prop := ∀ a w, St C ds l Es h a w → C.Q .ret a w
section rt
variable {C : Ctx} {ds : List Deferred} {l : Sl} {Es Fs : List Asn} {h : Ro} {K : List Item} {fn : Func} {Post : Value → List Asn → Ro → Prop}
theorem GO_rt (r : Rt C ds l Es h) : GO C ds l Es h (.code .ret :: K) := fun a w s => todo_ret (r a w s)
theorem Rt_mark {D : Nat} (hQ : C.Q = fnQ C.P fn C.w0 C.X0 C.h0 Post) (hT : Take Es (DefA D) Fs) (r : Rt C ds l Fs h) : Rt C (mark D :: ds) l Es h := by
  intro a w s
  have H := s.hp.front hT
  obtain ⟨o, ho, rfl⟩ := H.obj
  have H2 := (H.putObj (p' := fun o => o = .deferred none) rfl).drop .here
  have := r { a with defers := ds } (w.putObj D (.deferred none)) ⟨s.size, rfl, s.slots, H2⟩
  rw [hQ] at this ⊢
  show LeavesInM _ _ _ _ _ _ a.defers _ _
  rw [s.defers]
  exact ⟨by simp, .inl ⟨D, _, rfl, run_takeDeferred ho, this⟩⟩
theorem Rt_S {rs : List ResultVar} {vs : List Value} (hQ : C.Q = fnQ C.P fn C.w0 C.X0 C.h0 Post) (hr : fn.results = rs.toArray) (hv : ResV C l Es h rs vs) (hs : List.Sublist Fs Es) (hP : Post (resVal vs) Fs h) : Rt C [] l Es h := fun a w s => by
  rw [hQ]
  show LeavesInM _ _ _ _ _ _ a.defers _ _
  rw [s.defers]
  exact ⟨_, results_ok hr s.slots s.hp hv, _, rfl, Fs, h, hP, s.hp.sub hs⟩
end rt
end Go.Hw
/-
  Hw, part Q: contracts whose answer lies in memory that is only read from then on ('Res').
-/
set_option linter.unusedVariables false
namespace Go.Hw
open Go

def resPost (R : Value → Ro → Prop) : Value → List Asn → Ro → Prop := fun u Es h => Es = [] ∧ R u h
/-- f comes back; of its value and of what may be read then R holds; nothing is left that is owned. -/
def Res (P : Program) (f : FuncId) (args : Array Value) (h : Ro) (R : Value → Ro → Prop) : Prop := Fn P f args [] h (resPost R)

theorem Res.mono {P : Program} {f : FuncId} {args : Array Value} {h : Ro} {R R' : Value → Ro → Prop} (r : Res P f args h R) (hr : ∀ v h', Le h h' → R v h' → R' v h') : Res P f args h R' :=
  Fn.mono r fun v Es h' hl ⟨h1, h2⟩ => ⟨h1, hr v h' hl h2⟩
theorem Res_intro {P : Program} {ts : List Ty} (ok : TsOk P ts) {f : FuncId} {fn : Func} {c : Code} {args : List Value} {h0 : Ro} {R : Value → Ro → Prop}
    (hf : P.funcs[f]? = some fn) (hb : fn.body = some c) (hn : Nat.ble args.length fn.ntmps = true)
    (g : ∀ w0 X0, GO (mkC P ts ok fn w0 X0 h0 (resPost R)) [] (argS 0 args) [] h0 [.code c]) : Res P f args.toArray h0 R := Fn_intro ok hf hb hn g
theorem Res_of_val {P : Program} {f : FuncId} {args : Array Value} {h : Ro} {v : Value} (r : Val P f args h v) : Res P f args h fun u _ => u = v := Fn.mono r fun u Es h' hl ⟨h1, h2⟩ => ⟨h2, h1⟩
theorem Val_of_res {P : Program} {f : FuncId} {args : Array Value} {h : Ro} {v : Value} (r : Res P f args h fun u _ => u = v) : Val P f args h v := Fn.mono r fun u Es h' hl ⟨h1, h2⟩ => ⟨h2, h1⟩

section
variable {C : Ctx} {ds : List Deferred} {l : Sl} {Es Fs : List Asn} {h : Ro} {K : List Item} {G : Value → List Asn → Ro → Prop} {ty : TypeId} {pos : String} {aft : Array Edge} {gd : Option (Nat × Bool)} {dst : Option Tmp}
theorem OpTo_res {xs : Array Operand} {tys : Array TypeId} {f : FuncId} {vs : List Value} {R : Value → Ro → Prop}
    (hxs : evlL l xs.toList = some vs) (hh : Has C.P f) (hf : Res C.P f vs.toArray h R) (g : ∀ v h', Le h h' → R v h' → G v Es h') : OpTo C l Es h ⟨dst, .call ⟨.value (.func f), xs, tys⟩, ty, pos, aft, gd⟩ G :=
  OpTo_callF (Fs := Es) hxs (by rfl) hh hf fun v Es' h' hle ⟨e1, e2⟩ => by subst e1; exact g v h' hle e2
theorem OpTo_resF {c : Operand} {xs : Array Operand} {tys : Array TypeId} {f : FuncId} {fs cs vs : List Value} {R : Value → Ro → Prop}
    (hc : evl l c = some (.func (.func f) fs.toArray cs.toArray)) (hxs : evlL l xs.toList = some vs) (hh : Has C.P f) (hf : Res C.P f (fs ++ vs ++ cs).toArray h R) (g : ∀ v h', Le h h' → R v h' → G v Es h') : OpTo C l Es h ⟨dst, .call ⟨.value c, xs, tys⟩, ty, pos, aft, gd⟩ G :=
  OpTo_call' (Es0 := []) (Fs := Es) hc hxs (by rfl) hh hf fun v Es' h' hle ⟨e1, e2⟩ => by subst e1; exact g v h' hle e2

variable {fn : Func} {R : Value → Ro → Prop}
theorem GO_retR {rs : List ResultVar} {vs : List Value} (hQ : C.Q = fnQ C.P fn C.w0 C.X0 C.h0 (resPost R)) (hr : fn.results = rs.toArray) (hv : ResV C l Es h rs vs) (hP : R (resVal vs) h) :
    GO C [] l Es h (.code .ret :: K) := GO_retS hQ hr hv (List.nil_sublist _) ⟨rfl, hP⟩
theorem GO_retR1 {v : Value} {t : Nat} (hQ : C.Q = fnQ C.P fn C.w0 C.X0 C.h0 (resPost R)) (hr : fn.results = #[.tmp t]) (hv : look t l = some v) (hP : R v h) : GO C [] l Es h (.code .ret :: K) :=
  GO_retR (rs := [.tmp t]) (vs := [v]) hQ hr ⟨hv, trivial⟩ hP
theorem GO_retR2 {v u : Value} {t s : Nat} (hQ : C.Q = fnQ C.P fn C.w0 C.X0 C.h0 (resPost R)) (hr : fn.results = #[.tmp t, .tmp s]) (hv : look t l = some v) (hu : look s l = some u) (hP : R (.tuple #[v, u]) h) : GO C [] l Es h (.code .ret :: K) :=
  GO_retR (rs := [.tmp t, .tmp s]) (vs := [v, u]) hQ hr ⟨hv, hu, trivial⟩ hP
theorem GO_retR3 {v u x : Value} {t s r : Nat} (hQ : C.Q = fnQ C.P fn C.w0 C.X0 C.h0 (resPost R)) (hr : fn.results = #[.tmp t, .tmp s, .tmp r]) (hv : look t l = some v) (hu : look s l = some u) (hx : look r l = some x) (hP : R (.tuple #[v, u, x]) h) : GO C [] l Es h (.code .ret :: K) :=
  GO_retR (rs := [.tmp t, .tmp s, .tmp r]) (vs := [v, u, x]) hQ hr ⟨hv, hu, hx, trivial⟩ hP
theorem GO_retRC1 {v : Value} {t T b off e : Nat} {cs : List Value} {Ty : Ty} (hQ : C.Q = fnQ C.P fn C.w0 C.X0 C.h0 (resPost R)) (hr : fn.results = #[.cell t T]) (ht : look t l = some (.pointer (some ⟨b, off, none⟩))) (hm : Blk b e cs ∈ Es) (hT : tyOf T C.ts = some Ty)
    (hv : pvPart off Ty.size Ty.agg cs = some v) (hP : R v h) : GO C [] l Es h (.code .ret :: K) :=
  GO_retR (rs := [.cell t T]) (vs := [v]) hQ hr ⟨⟨_, ht, Ld_blk hT hm hv⟩, trivial⟩ hP
theorem GO_retRC2 {v u : Value} {t T b off e s : Nat} {cs : List Value} {Ty : Ty} (hQ : C.Q = fnQ C.P fn C.w0 C.X0 C.h0 (resPost R)) (hr : fn.results = #[.cell t T, .tmp s]) (ht : look t l = some (.pointer (some ⟨b, off, none⟩))) (hm : Blk b e cs ∈ Es) (hT : tyOf T C.ts = some Ty)
    (hv : pvPart off Ty.size Ty.agg cs = some v) (hu : look s l = some u) (hP : R (.tuple #[v, u]) h) : GO C [] l Es h (.code .ret :: K) :=
  GO_retR (rs := [.cell t T, .tmp s]) (vs := [v, u]) hQ hr ⟨⟨_, ht, Ld_blk hT hm hv⟩, hu, trivial⟩ hP
theorem GO_retRC3 {v u x : Value} {t T b off e s r : Nat} {cs : List Value} {Ty : Ty} (hQ : C.Q = fnQ C.P fn C.w0 C.X0 C.h0 (resPost R)) (hr : fn.results = #[.cell t T, .tmp s, .tmp r]) (ht : look t l = some (.pointer (some ⟨b, off, none⟩))) (hm : Blk b e cs ∈ Es) (hT : tyOf T C.ts = some Ty)
    (hv : pvPart off Ty.size Ty.agg cs = some v) (hu : look s l = some u) (hx : look r l = some x) (hP : R (.tuple #[v, u, x]) h) : GO C [] l Es h (.code .ret :: K) :=
  GO_retR (rs := [.cell t T, .tmp s, .tmp r]) (vs := [v, u, x]) hQ hr ⟨⟨_, ht, Ld_blk hT hm hv⟩, hu, hx, trivial⟩ hP

/-- An owned slice let go. -/
theorem GO_relS {α : Type} {enc : α → List Value} {e sz : Nat} {v : Value} {n : Nat} {xs : List α} {Es' : List Asn} (hl : ∀ x, (enc x).length = sz) (hn : xs.length = n) (hT : Take Es (OwnS e sz v n (xs.flatMap enc)) Es')
    (g : ∀ A c h', Le h h' → v = .slice A n c → SlOf enc sz h' A n xs → GO C ds l Es' h' K) : GO C ds l Es h K :=
  GO_release hT fun D h' hle hA => by
    obtain ⟨A, c, e1, e2⟩ := OwnS_free hl hn hA
    exact g A c h' hle e1 e2
/-- An owned block let go. -/
theorem GO_relB {b : Nat} {e : TypeId} {cs : List Value} {Es' : List Asn} (hT : Take Es (Blk b e cs) Es') (g : ∀ h', Le h h' → CellsAt h' ⟨b, 0, none⟩ cs → GO C ds l Es' h' K) : GO C ds l Es h K :=
  GO_release hT fun D h' hle hA => g h' hle (blk_at hA.2)
end

/-! ### What a call is handed out of what is owned -/
theorem Take.perm {Es Fs : List Asn} {A : Asn} (h : Take Es A Fs) : Es.Perm (A :: Fs) := by
  obtain ⟨p, q, rfl, rfl⟩ := h; exact List.perm_middle
def Takes : List Asn → List Asn → List Asn → Prop
  | Es, [], Fs => Es = Fs
  | Es, A :: r, Fs => ∃ M, Take Es A M ∧ Takes M r Fs
theorem Takes_nil {Es : List Asn} : Takes Es [] Es := rfl
theorem Takes_cons {Es M r Fs : List Asn} {A : Asn} (h : Take Es A M) (k : Takes M r Fs) : Takes Es (A :: r) Fs := ⟨M, h, k⟩
theorem Takes.perm : ∀ {Es Es0 Fs : List Asn}, Takes Es Es0 Fs → Es.Perm (Es0 ++ Fs)
  | _, [], _, h => by cases h; exact .refl _
  | _, A :: r, _, ⟨M, h, k⟩ => h.perm.trans (k.perm.cons A)

section
variable {C : Ctx} {l : Sl} {Es Fs : List Asn} {h : Ro} {G : Value → List Asn → Ro → Prop} {ty : TypeId} {pos : String} {aft : Array Edge} {gd : Option (Nat × Bool)} {dst : Option Tmp}
theorem OpTo_callP {xs : Array Operand} {tys : Array TypeId} {f : FuncId} {vs : List Value} {Es0 : List Asn} {Post : Value → List Asn → Ro → Prop}
    (hxs : evlL l xs.toList = some vs) (hh : Has C.P f) (hf : Fn C.P f vs.toArray Es0 h Post) (hp : Takes Es Es0 Fs)
    (g : ∀ v Es' h', Le h h' → Post v Es' h' → G v (Es' ++ Fs) h') : OpTo C l Es h ⟨dst, .call ⟨.value (.func f), xs, tys⟩, ty, pos, aft, gd⟩ G :=
  OpTo_perm hp.perm (OpTo_callF (Fs := Fs) hxs rfl hh hf g)
/-- An operation's outcome, whatever the order in which what is owned is told. -/
theorem OpTo_imp {o : Oper} {G' : Value → List Asn → Ro → Prop} (g : OpTo C l Es h o G') (hg : ∀ v Es' h' (w' : World), Hp C.w0 C.X0 C.h0 Es' h' w' → G' v Es' h' → ∃ Es'' h'', Hp C.w0 C.X0 C.h0 Es'' h'' w' ∧ G v Es'' h'') : OpTo C l Es h o G := fun a w hs H => by
  rcases g a w hs H with ⟨v, w', Es', h', hr, hp, hG⟩ | ⟨w', Es', h', hr, hp, hG⟩ | ⟨f, args, w1, hr, hc⟩ | ⟨r, f, tmps, assign, body, w1, n, hr, hc⟩
  · obtain ⟨E2, h2, q1, q2⟩ := hg _ _ _ w' hp hG; exact .inl ⟨v, w', E2, h2, hr, q1, q2⟩
  · obtain ⟨E2, h2, q1, q2⟩ := hg _ _ _ w' hp hG; exact .inr (.inl ⟨w', E2, h2, hr, q1, q2⟩)
  · exact .inr (.inr (.inl ⟨f, args, w1, hr, hc.mono fun _ w' ⟨v, he, Es', h', hp', hG⟩ => by
      obtain ⟨E2, h2, q1, q2⟩ := hg _ _ _ w' hp' hG; exact ⟨v, he, E2, h2, q1, q2⟩⟩))
  · exact .inr (.inr (.inr ⟨r, f, tmps, assign, body, w1, n, hr, hc.mono fun _ w' ⟨v, he, Es', h', hp', hG⟩ => by
      obtain ⟨E2, h2, q1, q2⟩ := hg _ _ _ w' hp' hG; exact ⟨v, he, E2, h2, q1, q2⟩⟩))
/-- A call that keeps what it was handed. -/
theorem OpTo_valP {xs : Array Operand} {tys : Array TypeId} {f : FuncId} {vs : List Value} {v : Value} {Es0 : List Asn}
    (hxs : evlL l xs.toList = some vs) (hh : Has C.P f) (hf : ValE C.P f vs.toArray Es0 h v) (hp : Takes Es Es0 Fs) (g : G v Es h) : OpTo C l Es h ⟨dst, .call ⟨.value (.func f), xs, tys⟩, ty, pos, aft, gd⟩ G :=
  OpTo_imp (G' := fun v' Es' h' => v' = v ∧ Es' = Es0 ++ Fs ∧ h' = h) (OpTo_perm hp.perm (OpTo_valE (Fs := Fs) rfl hxs hh hf ⟨rfl, rfl, rfl⟩)) fun v' Es' h' w' H ⟨e1, e2, e3⟩ => by
    subst e1; subst e2; subst e3
    exact ⟨Es, h', H.perm hp.perm.symm, g⟩
end

section
variable {C : Ctx} {l : Sl} {Es Fs : List Asn} {h : Ro} {G : Value → List Asn → Ro → Prop} {ty : TypeId} {pos : String} {aft : Array Edge} {gd : Option (Nat × Bool)} {d : Tmp}
theorem OwnS_form {e sz : Nat} {v : Value} {n : Nat} {xs : List Value} {D : List Nat} {m : Ro} (H : (OwnS e sz v n xs).holds D m) : ∃ A c, v = .slice A n c := by
  rcases H.2 with ⟨h2, h3, _⟩ | ⟨b, cap, cur, h2, _⟩
  · exact ⟨none, 0, by rw [h2, h3]⟩
  · exact ⟨_, _, h2⟩
/-- append, the grown slice's value told as a slice. -/
theorem OpTo_appendQ {x y : Operand} {t e : TypeId} {v : Value} {n m c : Nat} {xs cs : List Value} {ad : Addr} {T E : Ty} {Es' : Value → List Asn} (hT : tyOf t C.ts = some T) (hTd : T.desc = .slice e) (hE : tyOf e C.ts = some E)
    (hz : E.zero.cells.size = E.size) (hsz : Nat.blt 0 E.size = true)
    (hx : evl l x = some v) (hy : evl l y = some (.slice (some ad) m c)) (hm : CellsAt h ad cs) (hR : ∀ v', Repl Es (OwnS e E.size v n xs) (OwnS e E.size v' (n + m) (xs ++ cs)) (Es' v'))
    (hnl : cs.length = m * E.size) (h1 : ∀ u ∈ cs, u.oneCell' = true) (h63 : n + m ≤ 1000000000) (hby : Nat.ble E.bytes 100000 = true)
    (g : ∀ A' c', G (.slice A' (n + m) c') (Es' (.slice A' (n + m) c')) h) : OpTo C l Es h ⟨some d, .call ⟨.builtin .append, #[x, y], #[t, t]⟩, ty, pos, aft, gd⟩ G :=
  OpTo_imp (G' := fun v Es1 h1 => Es1 = Es' v ∧ h1 = h) (OpTo_appendR hT hTd hE hz hsz hx hy hm hR hnl h1 h63 hby fun v' => ⟨rfl, rfl⟩) fun v Es1 h1 w' H ⟨e1, e2⟩ => by
    subst e1; subst e2
    obtain ⟨p, q, _, hq⟩ := hR v
    have hm : OwnS e E.size v (n + m) (xs ++ cs) ∈ Es' v := by rw [hq]; simp
    obtain ⟨D, hA⟩ := H.get hm
    obtain ⟨A, c, rfl⟩ := OwnS_form hA
    exact ⟨_, _, H, g A c⟩
end

section
variable {C : Ctx} {ds : List Deferred} {l : Sl} {Es Fs : List Asn} {h : Ro} {K : List Item} {G : Value → List Asn → Ro → Prop}
/-- A nil slice, as an owned one. -/
theorem Hp.nilS {w0 w : World} {X0 : List Nat} {h0 : Ro} {e sz : Nat} (H : Hp w0 X0 h0 Es h w) : Hp w0 X0 h0 (OwnS e sz (.slice none 0 0) 0 [] :: Es) h w := by
  obtain ⟨Ds, ho, hn, hb⟩ := H.own
  exact ⟨H.os, H.tape, H.output, H.size, H.dr, H.old, H.ro, H.le, H.new, [] :: Ds, ⟨⟨by simp, .inl ⟨rfl, rfl, rfl⟩⟩, ho⟩, by simpa using hn, by simpa using hb⟩
theorem GO_nilS (e sz : Nat) (g : GO C ds l (OwnS e sz (.slice none 0 0) 0 [] :: Es) h K) : GO C ds l Es h K := fun a w s => g a w ⟨s.size, s.defers, s.slots, s.hp.nilS⟩
theorem OpTo_nilS (e sz : Nat) {o : Oper} (g : OpTo C l (OwnS e sz (.slice none 0 0) 0 [] :: Es) h o G) : OpTo C l Es h o G := fun a w hs H => g a w hs H.nilS
end

section
variable {C : Ctx} {ds : List Deferred} {l l' : Sl} {Es Es' Fs : List Asn} {h : Ro} {K : List Item}
theorem Hp.takes {w0 w : World} {X0 : List Nat} {h0 : Ro} (H : Hp w0 X0 h0 Es h w) (hT : Takes Es Es' Fs) : Hp w0 X0 h0 Es' h w := (H.perm hT.perm).sub (List.sublist_append_left _ _)
/-- A state told anew: fewer slots, less of what is owned, in another order. -/
theorem GO_fit (hs : Slots l' l) (hT : Takes Es Es' Fs) (g : GO C ds l' Es' h K) : GO C ds l Es h K := fun a w s => g a w ⟨s.size, s.defers, s.slots.sub hs.ok, s.hp.takes hT⟩
theorem GO_take (hT : Takes Es Es' Fs) (g : GO C ds l Es' h K) : GO C ds l Es h K := fun a w s => g a w ⟨s.size, s.defers, s.slots, s.hp.takes hT⟩
/-- A loop; what is owned at its head is taken out of what is owned now. -/
theorem GO_loopT {c : Code} {X : Type} (I : X → Prop) (μ : X → Nat) (S : X → Sl) (E : X → List Asn) (H : X → Ro) (x0 : X)
    (hi : I x0) (hs : Slots (S x0) l) (hT : Takes Es (E x0) Fs) (hH : H x0 = h)
    (round : ∀ x, I x → (∀ y, I y → μ y < μ x → GO C ds (S y) (E y) (H y) (.inLoop c :: K)) → GO C ds (S x) (E x) (H x) (.code c :: .inLoop c :: K)) :
    GO C ds l Es h (.code (.loop c) :: K) := GO_take hT (GO_while I μ S E H x0 hi hs rfl hH round)
end
end Go.Hw
/-
  Hw, part R: append of slices that are only read, slicing, slice literals of the call's own.
-/
set_option linter.unusedVariables false
namespace Go.Hw
open Go

theorem addr_add_add (a : Addr) (m n : Nat) : (a.add m).add n = a.add (m + n) := by
  unfold Addr.add; split <;> split <;> simp_all <;> omega

section sl
variable {α : Type} {enc : α → List Value} {sz : Nat} {h : Ro} {A : Option Addr} {n : Nat} {xs : List α}
theorem flatMap_len (hl : ∀ x, (enc x).length = sz) : ∀ (xs : List α), (xs.flatMap enc).length = xs.length * sz
  | [] => by simp
  | x :: r => by simp [hl x, flatMap_len hl r, Nat.add_mul, Nat.add_comm]
theorem flatMap_get (hl : ∀ x, (enc x).length = sz) : ∀ (xs : List α) (j : Nat) (u : Value), (xs.flatMap enc)[j]? = some u → ∃ x, xs[j / sz]? = some x ∧ (enc x)[j % sz]? = some u
  | [], j, u, e => by simp at e
  | x :: r, j, u, e => by
    rw [List.flatMap_cons] at e
    by_cases hj : j < sz
    · rw [List.getElem?_append_left (by rw [hl]; exact hj)] at e
      exact ⟨x, by rw [Nat.div_eq_of_lt hj]; rfl, by rw [Nat.mod_eq_of_lt hj]; exact e⟩
    · rw [List.getElem?_append_right (by rw [hl]; omega), hl] at e
      obtain ⟨y, h1, h2⟩ := flatMap_get hl r (j - sz) u e
      have hpos : 0 < sz := by
        rcases Nat.eq_zero_or_pos sz with h0 | h0
        · exfalso
          have h3 := hl y
          rw [h0, List.length_eq_zero_iff] at h3
          rw [h3] at h2; simp at h2
        · exact h0
      refine ⟨y, ?_, ?_⟩
      · rw [Nat.div_eq_sub_div hpos (by omega)]; simpa using h1
      · rw [Nat.mod_eq_sub_mod (by omega)]; exact h2
/-- A slice that is only read, its cells in a row. -/
theorem SlOf.flat {ad : Addr} (s : SlOf enc sz h (some ad) n xs) (hl : ∀ x, (enc x).length = sz) : CellsAt h ad (xs.flatMap enc) := by
  intro j u e
  obtain ⟨x, h1, h2⟩ := flatMap_get hl xs j u e
  have hlt : j / sz < xs.length := (List.getElem?_eq_some_iff.1 h1).1
  obtain ⟨ad', e', hc⟩ := s.at_ (by rw [← s.len]; exact Nat.lt_of_le_of_lt (Nat.zero_le _) hlt)
  injection e' with e'; subst e'
  have := hc _ x h1 _ u h2
  have e3 : (ad.add (j / sz * sz)).add (j % sz) = ad.add j := by
    rw [addr_add_add, Nat.div_add_mod']
  rw [e3] at this; exact this
theorem SlOf.of_flat {ad : Addr} (hl : ∀ x, (enc x).length = sz) (hn : xs.length = n) (hc : CellsAt h ad (xs.flatMap enc)) : SlOf enc sz h (some ad) n xs := by
  refine ⟨hn, fun _ => ⟨ad, rfl, fun j x hx i u hu => ?_⟩⟩
  have hi : i < sz := by have := (List.getElem?_eq_some_iff.1 hu).1; rw [hl] at this; exact this
  have key : ∀ (xs : List α) (j : Nat), xs[j]? = some x → (xs.flatMap enc)[j * sz + i]? = some u := by
    intro xs
    induction xs with
    | nil => intro j e; simp at e
    | cons y r ih =>
      intro j e
      rw [List.flatMap_cons]
      cases j with
      | zero =>
        simp only [List.getElem?_cons_zero, Option.some.injEq] at e
        subst e
        rw [Nat.zero_mul, Nat.zero_add, List.getElem?_append_left (by rw [hl]; exact hi)]; exact hu
      | succ j =>
        rw [List.getElem?_append_right (by rw [hl, Nat.add_mul, Nat.one_mul]; omega), hl, show (j + 1) * sz + i - sz = j * sz + i by rw [Nat.add_mul, Nat.one_mul]; omega]
        exact ih j (by simpa using e)
  have e3 : (ad.add (j * sz)).add i = ad.add (j * sz + i) := addr_add_add _ _ _
  rw [e3]; exact hc _ u (key xs j hx)
/-- The part of a slice from l up to k. -/
theorem SlOf.part (s : SlOf enc sz h A n xs) {l k : Nat} (hlk : l ≤ k) (hk : k ≤ n) (A' : Option Addr) (hA : l < k → A' = A.map (·.add (l * sz))) : SlOf enc sz h A' (k - l) ((xs.take k).drop l) := by
  have hlen := s.len
  refine ⟨by simp; omega, fun hpos => ?_⟩
  obtain ⟨ad, rfl, hc⟩ := s.at_ (by omega)
  refine ⟨ad.add (l * sz), hA (by omega), fun j x hx => ?_⟩
  rw [List.getElem?_drop, List.getElem?_take] at hx
  split at hx
  · have e3 : (ad.add (l * sz)).add (j * sz) = ad.add ((l + j) * sz) := by rw [addr_add_add, Nat.add_mul]
    rw [e3]; exact hc _ x hx
  · cases hx
theorem OwnS_free' {e : TypeId} {v : Value} (hl : ∀ x, (enc x).length = sz) {D : List Nat} (hn : xs.length = n) (H : (OwnS e sz v n (xs.flatMap enc)).holds D h) :
    ∃ A c, v = .slice A n c ∧ n ≤ c ∧ SlOf enc sz h A n xs := by
  obtain ⟨A, c, e1, e2⟩ := OwnS_free hl hn H
  refine ⟨A, c, e1, ?_, e2⟩
  rcases H.2 with ⟨h2, h3, _⟩ | ⟨b, cap, cur, h2, _, _, h4, _⟩
  · omega
  · rw [h2] at e1; injection e1 with _ _ e3; omega
end sl

section
variable {C : Ctx} {ds : List Deferred} {l : Sl} {Es : List Asn} {h : Ro} {K : List Item} {G : Value → List Asn → Ro → Prop} {ty : TypeId} {pos : String} {aft : Array Edge} {gd : Option (Nat × Bool)} {d : Tmp} {dst : Option Tmp}

theorem GO_relC {α : Type} {enc : α → List Value} {e sz : Nat} {v : Value} {n : Nat} {xs : List α} {Es' : List Asn} (hl : ∀ x, (enc x).length = sz) (hn : xs.length = n) (hT : Take Es (OwnS e sz v n (xs.flatMap enc)) Es')
    (g : ∀ A c h', Le h h' → v = .slice A n c → n ≤ c → SlOf enc sz h' A n xs → GO C ds l Es' h' K) : GO C ds l Es h K :=
  GO_release hT fun D h' hle hA => by
    obtain ⟨A, c, e1, e2, e3⟩ := OwnS_free' hl hn hA
    exact g A c h' hle e1 e2 e3

/-- An operation's outcome, with what is owned let go behind it. -/
theorem OpTo_relC {α : Type} {enc : α → List Value} {e sz : Nat} {n : Nat} {xs : List α} {o : Oper} (hl : ∀ x, (enc x).length = sz) (hn : xs.length = n)
    (g : OpTo C l Es h o fun v Es' h' => ∃ Fs, Es' = OwnS e sz v n (xs.flatMap enc) :: Fs ∧ ∀ A c h'', Le h' h'' → n ≤ c → SlOf enc sz h'' A n xs → G (.slice A n c) Fs h'') : OpTo C l Es h o G :=
  OpTo_imp g fun v Es' h' w' H ⟨Fs, e1, k⟩ => by
    subst e1
    obtain ⟨D, h'', hle, hA, H'⟩ := H.release .here
    obtain ⟨A, c, rfl, q1, q2⟩ := OwnS_free' hl hn hA
    exact ⟨Fs, h'', H', k A c h'' hle q1 q2⟩

theorem run_append_none0 {P : Program} {t ty e : TypeId} {i : TypeInfo} {w : World} (ht : P.underlying t = some (.slice e)) (hi : P.info? e = some i) {size : Nat}
    {v : Value} {n c : Nat} {xs : List Value} (hown : w.ownsRow 0 e size v n xs) :
    (Builtin.append_ #[t, t] ty #[v, .slice none 0 c]).run P w = .ok v w := by
  rcases hown.2 with ⟨rfl, rfl⟩ | ⟨g, cap, cur, rfl, _, _, hnc, _⟩
  · simp [Builtin.append_, run_underlying ht, sizeOf, typeInfo, hi, Builtin.lenOf, Builtin.firstCells]
  · simp [Builtin.append_, run_underlying ht, sizeOf, typeInfo, hi, Builtin.lenOf, Builtin.firstCells, hnc, storeCells]

/-- append(xs, ys...): xs owned, ys only read. -/
theorem OpTo_appendS {α : Type} {enc : α → List Value} {x y : Operand} {t e : TypeId} {v : Value} {n m c : Nat} {xs ys : List α} {A : Option Addr} {T E : Ty} {Es' : Value → List Asn} (hT : tyOf t C.ts = some T) (hTd : T.desc = .slice e) (hE : tyOf e C.ts = some E)
    (hz : E.zero.cells.size = E.size) (hsz : Nat.blt 0 E.size = true) (hx : evl l x = some v) (hy : evl l y = some (.slice A m c)) (hm : SlOf enc E.size h A m ys) (hl : ∀ x, (enc x).length = E.size) (h1 : ∀ x, ∀ u ∈ enc x, u.oneCell' = true)
    (hR : ∀ v', Repl Es (OwnS e E.size v n (xs.flatMap enc)) (OwnS e E.size v' (n + m) ((xs ++ ys).flatMap enc)) (Es' v')) (h63 : n + m ≤ 1000000000) (hby : Nat.ble E.bytes 100000 = true)
    (g : ∀ A' c', G (.slice A' (n + m) c') (Es' (.slice A' (n + m) c')) h) : OpTo C l Es h ⟨some d, .call ⟨.builtin .append, #[x, y], #[t, t]⟩, ty, pos, aft, gd⟩ G := by
  have hlen := hm.len
  cases A with
  | some ad =>
    refine OpTo_appendQ hT hTd hE hz hsz hx hy (hm.flat hl) (fun v' => by have := hR v'; rw [List.flatMap_append] at this; exact this) (by rw [flatMap_len hl, hlen]) (fun u hu => ?_) h63 hby g
    obtain ⟨x, _, hx⟩ := List.mem_flatMap.1 hu
    exact h1 x u hx
  | none =>
    have hm0 : m = 0 := by
      rcases Nat.eq_zero_or_pos m with h0 | h0
      · exact h0
      · obtain ⟨ad, e, _⟩ := hm.at_ h0; cases e
    subst hm0
    have hys : ys = [] := List.eq_nil_of_length_eq_zero hlen
    subst hys
    intro a w hs hp
    obtain ⟨i, hi, hi1, hi2, hi3⟩ := C.ok.info hE
    obtain ⟨D0, hu, hb0⟩ := C.ok.und hT
    rw [hTd] at hb0
    rw [blank_slice hb0] at hu
    obtain ⟨Ds, hown, hnod, hbd⟩ := hp.own
    obtain ⟨D, hA, hDn, hsub, _⟩ := (hR v).own hown hnod
    have hrow : w.ownsRow 0 e E.size v n (xs.flatMap enc) := by
      obtain ⟨hl, hr⟩ := hA
      refine ⟨hl, hr.imp (fun ⟨h1, h2, _⟩ => ⟨h1, h2⟩) fun ⟨g, cap, cur, h1, h2, h3, h4, h5, h6, h7⟩ => ⟨g, cap, cur, h1, Nat.zero_le _, h3, h4, h5, h6, h7⟩⟩
    have hrun := run_append_none0 (P := C.P) (t := t) (ty := ty) (c := c) hu hi hrow
    obtain ⟨A, c', rfl⟩ := OwnS_form hA
    refine .inl ⟨.slice A n c', w, Es' (.slice A n c'), h, ?_, ?_, g A c'⟩
    · simp only [execOp, resolve, invoke, builtin, Sem.run_bind, Sem.run_pure, Result.andThen_ok, List.map_toArray, List.map_cons, List.map_nil, hs.eval hx, hs.eval hy, hrun]
    · refine hp.asn (hR _) fun D m hA => ?_
      simpa using hA

/-- append(xs, ys...) where xs is only read and has no room: a new row. -/
theorem OpTo_appendF {α : Type} {enc : α → List Value} {x y : Operand} {t e : TypeId} {n m c cx : Nat} {xs ys : List α} {A B : Option Addr} {T E : Ty} (hT : tyOf t C.ts = some T) (hTd : T.desc = .slice e) (hE : tyOf e C.ts = some E)
    (hz : E.zero.cells.size = E.size) (hsz : Nat.blt 0 E.size = true) (hx : evl l x = some (.slice A n cx)) (hy : evl l y = some (.slice B m c)) (hxs : SlOf enc E.size h A n xs) (hys : SlOf enc E.size h B m ys) (hcx : cx = n) (hm : 0 < m)
    (hl : ∀ x, (enc x).length = E.size) (h63 : n + m ≤ 1000000000) (hby : Nat.ble E.bytes 100000 = true)
    (g : ∀ A' c', G (.slice A' (n + m) c') (OwnS e E.size (.slice A' (n + m) c') (n + m) ((xs ++ ys).flatMap enc) :: Es) h) : OpTo C l Es h ⟨some d, .call ⟨.builtin .append, #[x, y], #[t, t]⟩, ty, pos, aft, gd⟩ G := by
  subst hcx
  intro a w hs hp
  obtain ⟨i, hi, hi1, hi2, hi3⟩ := C.ok.info hE
  obtain ⟨D0, hu, hb0⟩ := C.ok.und hT
  rw [hTd] at hb0
  rw [blank_slice hb0] at hu
  obtain ⟨bd, rfl⟩ := hys.addr hm
  have hpos : 0 < E.size := by simpa [Nat.blt_eq] using hsz
  have hbB := Nat.le_of_ble_eq_true hby
  have hcy : ∀ j v, (ys.flatMap enc)[j]? = some v → w.cell? (bd.add j) = some v := fun j v e => by rw [cell?_mem]; exact cellR_le hp.ro (hys.flat hl j v e)
  have hly : (ys.flatMap enc).length = m * i.size := by rw [flatMap_len hl, hys.len, hi1]
  have hlx : (xs.flatMap enc).length = cx * i.size := by rw [flatMap_len hl, hxs.len, hi1]
  have hbytes : (cx + m) * i.bytes ≤ 140737488355328 := by
    rw [hi2]
    calc (cx + m) * E.bytes ≤ 1000000000 * 100000 := Nat.mul_le_mul h63 hbB
      _ ≤ 140737488355328 := by decide
  have hge := grownCap_ge w (cx + m) cx e
  have hcm : grownCap w (cx + m) cx e ≤ maxLen := grownCap_le_maxLen w (cx + m) cx e (by unfold maxLen; omega)
  have hrun : (Builtin.append_ #[t, t] ty #[.slice A cx cx, .slice (some bd) m c]).run C.P w =
      .ok (.slice (some ⟨w.heap.size, 0, none⟩) (cx + m) (grownCap w (cx + m) cx e))
        (w.drew.alloc (.cells ((xs.flatMap enc).toArray ++ (ys.flatMap enc).toArray ++ Builtin.zeroCells E.zero.cells (grownCap w (cx + m) cx e - (cx + m))) e)) := by
    cases A with
    | some ad =>
      exact run_append_grow (P := C.P) w t ty e i E.zero hu hi hi3 ad cx cx _ hlx (fun j v e => by rw [cell?_mem]; exact cellR_le hp.ro (hxs.flat hl j v e)) bd m c _ hly hcy (by omega) (by omega) (growslice_fits (by omega) hbytes)
    | none =>
      have h0 : cx = 0 := by
        rcases Nat.eq_zero_or_pos cx with h0 | h0
        · exact h0
        · obtain ⟨ad, e, _⟩ := hxs.at_ h0; cases e
      subst h0
      have hxs0 : xs = [] := List.eq_nil_of_length_eq_zero hxs.len
      subst hxs0
      have := run_append_nil (P := C.P) w t ty e i E.zero hu hi hi3 bd m c _ hly hcy hm (by omega) (by have := hbytes; simp only [Nat.zero_add] at this; omega)
      simpa using this
  refine .inl ⟨_, w.drew.alloc (.cells ((xs.flatMap enc).toArray ++ (ys.flatMap enc).toArray ++ Builtin.zeroCells E.zero.cells (grownCap w (cx + m) cx e - (cx + m))) e), _, h, ?_, ?_, g (some ⟨w.heap.size, 0, none⟩) (grownCap w (cx + m) cx e)⟩
  · simp only [execOp, resolve, invoke, builtin, Sem.run_bind, Sem.run_pure, Result.andThen_ok, List.map_toArray, List.map_cons, List.map_nil, hs.eval hx, hs.eval hy, hrun]
  · have hp2 : Hp C.w0 C.X0 C.h0 Es h w.drew := hp.drew
    refine hp2.alloc _ _ fun mm hmm => ⟨?_, .inr ⟨w.heap.size, _, _, rfl, rfl, hmm, hge, hcm, ?_, ?_⟩⟩
    · rw [flatMap_len hl]; simp [hxs.len, hys.len]
    · simp only [Array.size_append, List.size_toArray, size_zeroCells, hz, hlx, hly, hi1, ← Nat.add_mul]
      congr 1
      omega
    · simp only [Array.toList_append, List.append_assoc, List.flatMap_append]
      rw [← List.append_assoc]
      refine List.take_left' ?_
      rw [List.length_append, hlx, hly, hi1, Nat.add_mul]

/-- A slice literal, owned. -/
theorem OpTo_buildSliceO {t e n : Nat} {parts : Array (Nat × Operand)} {ps : List (Nat × Value)} {T E : Ty} {cs : List Value} (hT : tyOf t C.ts = some T) (hTd : T.desc = .slice e) (hE : tyOf e C.ts = some E)
    (hz : partL E.zero ≠ []) (hzl : (partL E.zero).length = E.size) (hn : Nat.ble (n * E.size) 16777216 = true) (hp : evlP l parts.toList = some ps) (hc : fillL (fun i => some (i * E.size, E.size)) ps (repl (partL E.zero) n) = some cs)
    (hcl : Nat.beq cs.length (n * E.size) = true) (hn2 : Nat.ble n 16777216 = true)
    (g : ∀ b, G ((.slice (some ⟨b, 0, none⟩) n n)) (OwnS e E.size (.slice (some ⟨b, 0, none⟩) n n) n cs :: Es) h) : OpTo C l Es h ⟨some d, .buildSlice t n parts, ty, pos, aft, gd⟩ G := by
  have hcl := Nat.eq_of_beq_eq_true hcl
  have hn2 := Nat.le_of_ble_eq_true hn2
  refine OpTo_imp (G' := fun v Es' h' => ∃ b, v = .slice (some ⟨b, 0, none⟩) n n ∧ Es' = Blk b e cs :: Es ∧ h' = h) (OpTo_buildSlice hT hTd hE hz hzl hn hp hc fun b => ⟨b, rfl, rfl, rfl⟩) fun v Es' h' w' H ⟨b, e1, e2, e3⟩ => ?_
  subst e1; subst e2; subst e3
  refine ⟨_, _, H.asn (A' := OwnS e E.size (.slice (some ⟨b, 0, none⟩) n n) n cs) .here fun D m hA => ⟨hcl, .inr ⟨b, n, cs.toArray, rfl, hA.1, hA.2, Nat.le_refl _, by unfold maxLen; omega, by simpa using hcl, ?_⟩⟩, g b⟩
  rw [← hcl]; exact List.take_length

theorem run_sliceBound {P : Program} {w : World} {k : IntKind} {i : Int} {j y : Nat} {code : BoundsCode} (hi : i = (j : Int)) (hj : j ≤ y) : (Instr.sliceBound (.int k i) y code).run P w = .ok j w := by
  subst hi
  have : (0 : Int) ≤ (j : Int) ∧ (j : Int) ≤ (y : Int) := by omega
  simp [Instr.sliceBound, asIntOf, this]

/-- 's[lo:]' of a slice that is only read. -/
theorem OpTo_sliceLo {α : Type} {enc : α → List Value} {x y : Operand} {t e : TypeId} {k : IntKind} {i : Int} {lo n c : Nat} {xs : List α} {A : Option Addr} {T E : Ty} (hT : tyOf t C.ts = some T) (hTd : T.desc = .slice e) (hE : tyOf e C.ts = some E)
    (hx : evl l x = some (.slice A n c)) (hy : evl l y = some (.int k i)) (hs : SlOf enc E.size h A n xs) (hi : i = (lo : Int)) (hlo : lo ≤ n) (hnc : n ≤ c)
    (g : ∀ A', SlOf enc E.size h A' (n - lo) (xs.drop lo) → G (.slice A' (n - lo) (c - lo)) Es h) : OpTo C l Es h ⟨dst, .slice t x (some y) none none, ty, pos, aft, gd⟩ G := by
  intro a w hsl hp
  obtain ⟨D0, hu, hb0⟩ := C.ok.und hT
  rw [hTd] at hb0
  rw [blank_slice hb0] at hu
  have e1 : a.eval x = .slice A n c := hsl.eval hx
  have e2 : a.eval y = .int k i := hsl.eval hy
  have hp1 := hs.part (l := lo) (k := n) hlo (Nat.le_refl _) (if c = lo then A else A.map (·.add (lo * E.size))) (fun h => by
    split
    · rename_i hc
      omega
    · rfl)
  rw [List.take_of_length_le (by rw [hs.len]; exact Nat.le_refl _)] at hp1
  refine .inl ⟨_, w, Es, h, ?_, hp, g _ hp1⟩
  simp only [execOp, Instr.sliceAt, Sem.run_bind, run_underlying hu, Result.andThen_ok, Instr.slice, e1, e2, Option.map_some, Option.map_none, Instr.sliceBounds, Sem.run_pure, run_sliceBound (code := .sliceB) hi hlo, C.ok.run_size hE, Bool.false_eq_true, if_false, Option.isSome_none]

/-- 's[:hi:hi]' of a slice that is only read. -/
theorem OpTo_sliceHM {α : Type} {enc : α → List Value} {x y z : Operand} {t e : TypeId} {k k' : IntKind} {i i' : Int} {hi n c : Nat} {xs : List α} {A : Option Addr} {T E : Ty} (hT : tyOf t C.ts = some T) (hTd : T.desc = .slice e) (hE : tyOf e C.ts = some E)
    (hx : evl l x = some (.slice A n c)) (hy : evl l y = some (.int k i)) (hz : evl l z = some (.int k' i')) (hs : SlOf enc E.size h A n xs) (hi1 : i = (hi : Int)) (hi2 : i' = (hi : Int)) (hle : hi ≤ n) (hnc : n ≤ c)
    (g : ∀ A', SlOf enc E.size h A' hi (xs.take hi) → G (.slice A' hi hi) Es h) : OpTo C l Es h ⟨dst, .slice t x none (some y) (some z), ty, pos, aft, gd⟩ G := by
  intro a w hsl hp
  obtain ⟨D0, hu, hb0⟩ := C.ok.und hT
  rw [hTd] at hb0
  rw [blank_slice hb0] at hu
  have e1 : a.eval x = .slice A n c := hsl.eval hx
  have e2 : a.eval y = .int k i := hsl.eval hy
  have e3 : a.eval z = .int k' i' := hsl.eval hz
  have hp1 := hs.part (l := 0) (k := hi) (Nat.zero_le _) hle (if hi = 0 then A else A.map (·.add (0 * E.size))) (fun h => by
    rw [if_neg (by omega)])
  rw [List.drop_zero, Nat.sub_zero] at hp1
  refine .inl ⟨_, w, Es, h, ?_, hp, g _ hp1⟩
  simp only [execOp, Instr.sliceAt, Sem.run_bind, run_underlying hu, Result.andThen_ok, Instr.slice, e1, e2, e3, Option.map_some, Option.map_none, Instr.sliceBounds, Sem.run_pure, run_sliceBound hi1 (Nat.le_refl hi), run_sliceBound hi2 (Nat.le_trans hle hnc), C.ok.run_size hE, Bool.false_eq_true, if_false, Option.isSome_none, Nat.sub_zero]
/-- 's[:hi]' of a slice that is only read. -/
theorem OpTo_sliceHi {α : Type} {enc : α → List Value} {x y : Operand} {t e : TypeId} {k : IntKind} {i : Int} {hi n c : Nat} {xs : List α} {A : Option Addr} {T E : Ty} (hT : tyOf t C.ts = some T) (hTd : T.desc = .slice e) (hE : tyOf e C.ts = some E)
    (hx : evl l x = some (.slice A n c)) (hy : evl l y = some (.int k i)) (hs : SlOf enc E.size h A n xs) (hi1 : i = (hi : Int)) (hle : hi ≤ n) (hnc : n ≤ c)
    (g : ∀ A', SlOf enc E.size h A' hi (xs.take hi) → G (.slice A' hi c) Es h) : OpTo C l Es h ⟨dst, .slice t x none (some y) none, ty, pos, aft, gd⟩ G := by
  intro a w hsl hp
  obtain ⟨D0, hu, hb0⟩ := C.ok.und hT
  rw [hTd] at hb0
  rw [blank_slice hb0] at hu
  have e1 : a.eval x = .slice A n c := hsl.eval hx
  have e2 : a.eval y = .int k i := hsl.eval hy
  have hp1 := hs.part (l := 0) (k := hi) (Nat.zero_le _) hle (if c = 0 then A else A.map (·.add (0 * E.size))) (fun h => by
    rw [if_neg (by omega)])
  rw [List.drop_zero, Nat.sub_zero] at hp1
  refine .inl ⟨_, w, Es, h, ?_, hp, g _ hp1⟩
  simp only [execOp, Instr.sliceAt, Sem.run_bind, run_underlying hu, Result.andThen_ok, Instr.slice, e1, e2, Option.map_some, Option.map_none, Instr.sliceBounds, Sem.run_pure, run_sliceBound hi1 (Nat.le_trans hle hnc), C.ok.run_size hE, Bool.false_eq_true, if_false, if_true, Option.isSome_none, Nat.sub_zero]
end

section
variable {C : Ctx} {h : Ro}
theorem CellsAt.shift {ad : Addr} {vs : List Value} (hc : CellsAt h ad vs) (off : Nat) : CellsAt h (ad.add off) (vs.drop off) := fun j u e => by
  rw [addr_add_add]; rw [List.getElem?_drop] at e; exact hc _ u e
theorem Lv_roF {T : TypeId} {t : Ty} {ad : Addr} {off : Nat} {vs : List Value} {v : Value} (hT : tyOf T C.ts = some t) (hc : CellsAt h ad vs) (hv : pvPart off t.size t.agg vs = some v) : Lv C [] h T (ad.add off) v :=
  Lv_ro hT (hc.shift off) (pvPart_shift hv)
theorem Lv_roF2 {T : TypeId} {t : Ty} {ad : Addr} {o1 o2 : Nat} {vs : List Value} {v : Value} (hT : tyOf T C.ts = some t) (hc : CellsAt h ad vs) (hv : pvPart (o1 + o2) t.size t.agg vs = some v) : Lv C [] h T ((ad.add o1).add o2) v := by
  rw [addr_add_add]; exact Lv_roF hT hc hv
theorem Lv_roF3 {T : TypeId} {t : Ty} {ad : Addr} {o1 o2 o3 : Nat} {vs : List Value} {v : Value} (hT : tyOf T C.ts = some t) (hc : CellsAt h ad vs) (hv : pvPart (o1 + o2 + o3) t.size t.agg vs = some v) : Lv C [] h T (((ad.add o1).add o2).add o3) v := by
  rw [addr_add_add, addr_add_add, ← Nat.add_assoc]; exact Lv_roF hT hc hv
end

def addrD : Option Addr → Addr
  | some a => a
  | none => ⟨0, 0, none⟩
section
variable {α : Type} {enc : α → List Value} {sz : Nat} {h : Ro} {A : Option Addr} {n : Nat} {xs : List α}
theorem SlOf.addrD (s : SlOf enc sz h A n xs) {k : Nat} (hk : k < n) : A = some (Hw.addrD A) := by
  obtain ⟨ad, rfl⟩ := s.addr (by omega)
  rfl
theorem SlOf.cellsD (s : SlOf enc sz h A n xs) (d : α) {k : Nat} (hk : k < n) : CellsAt h ((Hw.addrD A).add (k * sz)) (enc (xs.getD k d)) := by
  obtain ⟨ad, rfl⟩ := s.addr (by omega)
  exact s.cells d hk
end
section
variable {C : Ctx} {l : Sl} {h : Ro} {ty : TypeId} {pos : String} {aft : Array Edge} {gd : Option (Nat × Bool)}
theorem OV_idxS {t e : TypeId} {x y : Operand} {A : Option Addr} {n c j : Nat} {k : IntKind} {i : Int} {T E : Ty} {dst : Option Tmp} (hT : tyOf t C.ts = some T) (hTd : T.desc = .slice e) (hE : tyOf e C.ts = some E)
    (hx : evl l x = some (.slice A n c)) (hy : evl l y = some (.int k i)) (hA : A = some (addrD A)) (hi : i = (j : Int)) (hj : j < n) : OV C l [] h ⟨dst, .indexAddr t x y, ty, pos, aft, gd⟩ (.pointer (some ((addrD A).add (j * E.size)))) :=
  OV_idx hT hTd hE (hA ▸ hx) hy hi hj
end
end Go.Hw
/-
  Hw, part S: append whose outcome is only read from then on.
-/
set_option linter.unusedVariables false
namespace Go.Hw
open Go

section
variable {C : Ctx} {ds : List Deferred} {l : Sl} {Es Fs : List Asn} {h : Ro} {K : List Item} {G : Value → List Asn → Ro → Prop} {ty : TypeId} {pos : String} {aft : Array Edge} {gd : Option (Nat × Bool)} {d : Tmp} {dst : Option Tmp}

theorem OpTo_appendSR {α : Type} {enc : α → List Value} {x y : Operand} {t e : TypeId} {v : Value} {n m c : Nat} {xs ys : List α} {A : Option Addr} {T E : Ty} (hT : tyOf t C.ts = some T) (hTd : T.desc = .slice e) (hE : tyOf e C.ts = some E)
    (hz : E.zero.cells.size = E.size) (hsz : Nat.blt 0 E.size = true) (hx : evl l x = some v) (hy : evl l y = some (.slice A m c)) (hm : SlOf enc E.size h A m ys) (hl : ∀ x, (enc x).length = E.size) (h1 : ∀ x, ∀ u ∈ enc x, u.oneCell' = true)
    (hTk : Take Es (OwnS e E.size v n (xs.flatMap enc)) Fs) (hn : xs.length = n) (h63 : n + m ≤ 1000000000) (hby : Nat.ble E.bytes 100000 = true)
    (g : ∀ A' c' h', Le h h' → n + m ≤ c' → SlOf enc E.size h' A' (n + m) (xs ++ ys) → G (.slice A' (n + m) c') Fs h') : OpTo C l Es h ⟨some d, .call ⟨.builtin .append, #[x, y], #[t, t]⟩, ty, pos, aft, gd⟩ G :=
  OpTo_relC (e := e) (n := n + m) (xs := xs ++ ys) hl (by rw [List.length_append, hn, hm.len])
    (OpTo_front hTk (OpTo_appendS (Es' := fun v' => OwnS e E.size v' (n + m) ((xs ++ ys).flatMap enc) :: Fs) hT hTd hE hz hsz hx hy hm hl h1 (fun v' => .here) h63 hby fun A' c' => ⟨Fs, rfl, fun A c h'' hle hc hs => g A c h'' hle hc hs⟩))

theorem OpTo_appendFR {α : Type} {enc : α → List Value} {x y : Operand} {t e : TypeId} {n m c cx : Nat} {xs ys : List α} {A B : Option Addr} {T E : Ty} (hT : tyOf t C.ts = some T) (hTd : T.desc = .slice e) (hE : tyOf e C.ts = some E)
    (hz : E.zero.cells.size = E.size) (hsz : Nat.blt 0 E.size = true) (hx : evl l x = some (.slice A n cx)) (hy : evl l y = some (.slice B m c)) (hxs : SlOf enc E.size h A n xs) (hys : SlOf enc E.size h B m ys) (hcx : cx = n) (hm : 0 < m)
    (hl : ∀ x, (enc x).length = E.size) (h63 : n + m ≤ 1000000000) (hby : Nat.ble E.bytes 100000 = true)
    (g : ∀ A' c' h', Le h h' → n + m ≤ c' → SlOf enc E.size h' A' (n + m) (xs ++ ys) → G (.slice A' (n + m) c') Es h') : OpTo C l Es h ⟨some d, .call ⟨.builtin .append, #[x, y], #[t, t]⟩, ty, pos, aft, gd⟩ G :=
  OpTo_relC (e := e) (n := n + m) (xs := xs ++ ys) hl (by rw [List.length_append, hxs.len, hys.len])
    (OpTo_appendF hT hTd hE hz hsz hx hy hxs hys hcx hm hl h63 hby fun A' c' => ⟨Es, rfl, fun A c h'' hle hc hs => g A c h'' hle hc hs⟩)

/-- A slice literal that is only read, as a list. -/
theorem OpTo_buildSliceS {α : Type} {enc : α → List Value} {t e n : Nat} {parts : Array (Nat × Operand)} {ps : List (Nat × Value)} {T E : Ty} {cs : List Value} (xs : List α) (hT : tyOf t C.ts = some T) (hTd : T.desc = .slice e) (hE : tyOf e C.ts = some E)
    (hz : partL E.zero ≠ []) (hzl : (partL E.zero).length = E.size) (hn : Nat.ble (n * E.size) 16777216 = true) (hp : evlP l parts.toList = some ps) (hc : fillL (fun i => some (i * E.size, E.size)) ps (repl (partL E.zero) n) = some cs)
    (hl : ∀ x, (enc x).length = E.size) (hcs : cs = xs.flatMap enc) (hxn : xs.length = n)
    (g : ∀ b h', Le h h' → SlOf enc E.size h' (some ⟨b, 0, none⟩) n xs → G (.slice (some ⟨b, 0, none⟩) n n) Es h') : OpTo C l Es h ⟨some d, .buildSlice t n parts, ty, pos, aft, gd⟩ G :=
  OpTo_buildSliceR hT hTd hE hz hzl hn hp hc fun b h' hle hcs' => g b h' hle (SlOf.of_flat hl hxn (by rw [← hcs]; exact hcs'))
end
end Go.Hw
/-
  Hw, part T: equality of values with arrays in them.
-/
set_option linter.unusedVariables false
namespace Go.Hw
open Go

def eqAr (eq : Nat → Value → Value → Option Bool) (e : Nat) (E : Ty) (xs ys : List Value) : List Nat → Option Bool
  | [] => some true
  | i :: r => match pvPart (i * E.size) E.size E.agg xs, pvPart (i * E.size) E.size E.agg ys with
    | some a, some b => match eq e a b, eqAr eq e E xs ys r with
      | some p, some q => some (p && q)
      | _, _ => none
    | _, _ => none
def eqV (ts : List Ty) : Nat → Nat → Value → Value → Option Bool
  | 0, _, _, _ => none
  | n + 1, t, x, y => match tyOf t ts with
    | some T => match T.desc, x, y with
      | .int _, .int k a, .int k' b => if k = k' then some (eqI a b) else none
      | .bool, .bool a, .bool b => some (a == b)
      | .string, .string a, .string b => some (a == b)
      | .struct fs, .agg xs, .agg ys => eqFs ts (eqV ts n) xs.toList ys.toList fs.toList
      | .array m e, .agg xs, .agg ys => match tyOf e ts with
        | some E => eqAr (eqV ts n) e E xs.toList ys.toList (List.range m)
        | none => none
      | _, _, _ => none
    | none => none
def eqVIds (ts : List Ty) : Nat → Nat → List Nat
  | 0, _ => []
  | n + 1, t => match tyOf t ts with
    | some T => match T.desc with
      | .struct fs => t :: fs.toList.flatMap fun f => eqVIds ts n f.type
      | .array _ e => eqVIds ts n e
      | _ => []
    | none => []

theorem eqV_ok {P : Program} {ts : List Ty} (hT : TsOk P ts) (w : World) : ∀ {n : Nat} {t : Nat} {x y : Value} {b : Bool}, eqV ts n t x y = some b → (∀ i ∈ eqVIds ts n t, P.stoodInHeld i = false) → ∀ d, (Op.equalIn (n + d) t x y).run P w = .ok b w
  | 0, _, _, _, _, h, _, _ => by cases h
  | n + 1, t, x, y, b, h, hs, d => by
    rw [show n + 1 + d = (n + d) + 1 by omega]
    unfold eqV at h
    cases hty : tyOf t ts with
    | none => rw [hty] at h; cases h
    | some T =>
      rw [hty] at h
      obtain ⟨D, hD, hb⟩ := hT.und hty
      simp only at h
      split at h
      · rename_i k0 k a k' b' hd
        split at h
        · rename_i hk; subst hk; injection h with h; subst h
          rw [hd] at hb
          rw [blank_int hb] at hD
          rw [run_equalIn_int w _ t k k0 a b' hD, eqI_eq]; congr 1
        · cases h
      · rename_i a b' hd
        injection h with h; subst h
        rw [hd] at hb
        rw [blank_bool hb] at hD
        exact run_equalIn_bool w _ t a b' hD
      · rename_i a b' hd
        injection h with h; subst h
        rw [hd] at hb
        rw [blank_string hb] at hD
        rw [run_equalIn_string w _ t a b' hD, ← beq_toListBytes]
      · rename_i fs xs ys hd
        rw [hd] at hb
        obtain ⟨gs, rfl, hg⟩ := blank_struct hb
        have hself : P.stoodInHeld t = false := hs t (by unfold eqVIds; rw [hty]; simp only [hd]; exact .head _)
        have hfo : P.fieldsOf t = gs := by simp [Program.fieldsOf, hD]
        rw [run_equalIn_struct w (n + d) t xs ys (by rw [hfo]; exact hD) hself, hfo]
        have hsub : ∀ f ∈ fs.toList, ∀ i ∈ eqVIds ts n f.type, P.stoodInHeld i = false := fun f hf i hi => hs i (by
          unfold eqVIds; rw [hty]; simp only [hd]; exact .tail _ (List.mem_flatMap.2 ⟨f, hf, hi⟩))
        rw [← hg] at h hsub
        clear hg hD hfo hb hd
        generalize gs.toList = gl at h hsub
        induction gl generalizing b with
        | nil => simp only [List.map_nil, eqFs, Option.some.injEq] at h; subst h; rfl
        | cons f r ih =>
          simp only [List.map_cons, eqFs] at h
          have hnm : (blankF f).name = "_" ↔ f.name = "_" := by
            unfold blankF
            by_cases hf : f.name = "_" <;> simp [hf]
          have ihr := fun b hb => ih (b := b) hb (fun f' hf' => hsub f' (by simp only [List.map_cons]; exact .tail _ hf'))
          unfold Op.eqFields
          by_cases hf : f.name = "_"
          · rw [if_pos (hnm.2 hf)] at h
            simp only [hf, ne_eq, not_true, if_false]
            exact ihr b h
          · rw [if_neg (fun e => hf (hnm.1 e))] at h
            simp only [ne_eq, hf, not_false_eq_true, if_true]
            have e1 : (blankF f).type = f.type := rfl
            have e2 : (blankF f).offset = f.offset := rfl
            rw [e1, e2] at h
            cases hF : tyOf f.type ts with
            | none => rw [hF] at h; cases h
            | some F =>
              rw [hF] at h
              simp only at h
              cases hx : pvPart f.offset F.size F.agg xs.toList with
              | none => rw [hx] at h; cases h
              | some p =>
                cases hy : pvPart f.offset F.size F.agg ys.toList with
                | none => rw [hx, hy] at h; cases h
                | some q =>
                  rw [hx, hy] at h
                  simp only at h
                  have p1 := pvPart_ok hx w (hT.run_size hF w) (hT.run_agg hF w)
                  have p2 := pvPart_ok hy w (hT.run_size hF w) (hT.run_agg hF w)
                  simp only [Array.toArray_toList] at p1 p2
                  cases he : eqV ts n f.type p q with
                  | none => rw [he] at h; cases h
                  | some u =>
                    rw [he] at h
                    cases hr : eqFs ts (eqV ts n) xs.toList ys.toList (r.map blankF) with
                    | none => rw [hr] at h; cases h
                    | some v =>
                      rw [hr] at h
                      simp only [Option.some.injEq] at h
                      subst h
                      have q1 := eqV_ok hT w he (hsub (blankF f) (by simp)) d
                      simp only [Sem.run_bind, p1, p2, Result.andThen_ok, q1]
                      cases u with
                      | false => simp
                      | true => simpa using ihr v hr
      · rename_i m e xs ys hd
        rw [hd] at hb
        rw [blank_array hb] at hD
        cases hE : tyOf e ts with
        | none => rw [hE] at h; cases h
        | some E =>
          rw [hE] at h
          simp only at h
          obtain ⟨ie, hie, _⟩ := hT.info hE
          have hsz : P.cellsOf e = E.size := by
            have h1 := hT.run_size hE w
            rw [run_sizeOf w hie] at h1
            injection h1
          rw [run_equalIn_array w (n + d) xs ys hD hie, hsz]
          have hsub : ∀ i ∈ eqVIds ts n e, P.stoodInHeld i = false := fun i hi => hs i (by unfold eqVIds; rw [hty]; simp only [hd]; exact hi)
          generalize List.range m = is at h
          induction is generalizing b with
          | nil => simp only [eqAr, Option.some.injEq] at h; subst h; rfl
          | cons i is ih =>
            simp only [eqAr] at h
            cases hx : pvPart (i * E.size) E.size E.agg xs.toList with
            | none => rw [hx] at h; cases h
            | some p =>
              cases hy : pvPart (i * E.size) E.size E.agg ys.toList with
              | none => rw [hx, hy] at h; cases h
              | some q =>
                rw [hx, hy] at h
                simp only at h
                have p1 := pvPart_ok hx w (hT.run_size hE w) (hT.run_agg hE w)
                have p2 := pvPart_ok hy w (hT.run_size hE w) (hT.run_agg hE w)
                simp only [Array.toArray_toList] at p1 p2
                cases he : eqV ts n e p q with
                | none => rw [he] at h; cases h
                | some u =>
                  rw [he] at h
                  cases hr : eqAr (eqV ts n) e E xs.toList ys.toList is with
                  | none => rw [hr] at h; cases h
                  | some v =>
                    rw [hr] at h
                    simp only [Option.some.injEq] at h
                    subst h
                    have q1 := eqV_ok hT w he hsub d
                    simp only [Op.eqItems, Sem.run_bind, p1, p2, Result.andThen_ok, q1]
                    cases u with
                    | false => simp
                    | true => simpa using ih v hr
      · cases h


theorem eqFs_refl {ts : List Ty} {eq : Nat → Value → Value → Option Bool} (he : ∀ t x b, eq t x x = some b → b = true) {xs : List Value} : ∀ {fs : List Field} {b : Bool}, eqFs ts eq xs xs fs = some b → b = true
  | [], b, h => by simp only [eqFs, Option.some.injEq] at h; exact h.symm
  | f :: r, b, h => by
    simp only [eqFs] at h
    split at h
    · exact eqFs_refl he h
    · split at h
      · split at h
        · rename_i a b' h1 h2
          rw [h1] at h2; injection h2 with h2; subst h2
          split at h
          · rename_i p q h3 h4
            injection h with h
            rw [← h, he _ _ _ h3, eqFs_refl he h4]; rfl
          · cases h
        · cases h
      · cases h
theorem eqAr_refl {eq : Nat → Value → Value → Option Bool} (he : ∀ t x b, eq t x x = some b → b = true) {e : Nat} {E : Ty} {xs : List Value} : ∀ {is : List Nat} {b : Bool}, eqAr eq e E xs xs is = some b → b = true
  | [], b, h => by simp only [eqAr, Option.some.injEq] at h; exact h.symm
  | i :: r, b, h => by
    simp only [eqAr] at h
    split at h
    · rename_i a b' h1 h2
      rw [h1] at h2; injection h2 with h2; subst h2
      split at h
      · rename_i p q h3 h4
        injection h with h
        rw [← h, he _ _ _ h3, eqAr_refl he h4]; rfl
      · cases h
    · cases h
theorem eqV_refl {ts : List Ty} : ∀ {n : Nat} {t : Nat} {x : Value} {b : Bool}, eqV ts n t x x = some b → b = true
  | 0, _, _, _, h => by cases h
  | n + 1, t, x, b, h => by
    unfold eqV at h
    split at h
    · split at h
      · rename_i h1 h2
        split at h
        · injection h with h; injection h2 with _ h2; subst h2; rw [← h, eqI_eq]; simp
        · cases h
      · rename_i h1; injection h with h; injection h1 with h1; subst h1; rw [← h]; simp
      · rename_i h1; injection h with h; injection h1 with h1; subst h1; rw [← h, beq_toListBytes]; simp
      · rename_i h1; injection h1 with h1; subst h1; exact eqFs_refl (fun t x b => eqV_refl) h
      · rename_i h1; injection h1 with h1; subst h1
        split at h
        · exact eqAr_refl (fun t x b => eqV_refl) h
        · cases h
      · cases h
    · cases h

section
variable {C : Ctx} {l : Sl} {hh : Ro} {ty : TypeId} {pos : String} {aft : Array Edge} {gd : Option (Nat × Bool)} {dst : Option Tmp}
theorem run_eqV {P : Program} {ts : List Ty} (hT : TsOk P ts) {t : Nat} {xs ys : Array Value} {b : Bool} (h : eqV ts 10 t (.agg xs) (.agg ys) = some b) (hs : (eqVIds ts 10 t).all (fun i => !P.stoodInHeld i) = true) (hg : P.eqGuardType P.depth t = false) (w : World) (ox oy : Operand) :
    (do eqGuard .eql t ox oy (.agg xs) (.agg ys); binOp .eql t (.agg xs) (.agg ys) : Sem Value).run P w = .ok (.bool b) w ∧ (do eqGuard .neq t ox oy (.agg xs) (.agg ys); binOp .neq t (.agg xs) (.agg ys) : Sem Value).run P w = .ok (.bool (!b)) w := by
  have hs' : ∀ i ∈ eqVIds ts 10 t, P.stoodInHeld i = false := fun i hi => by
    have := List.all_eq_true.1 hs i hi; simpa using this
  have q := eqV_ok hT w h hs' 9990
  constructor
  · simp only [Sem.run_bind, run_eqGuard_agg w _ t ox oy xs ys hg, Result.andThen_ok, run_eql_struct, q]
  · simp only [Sem.run_bind, run_eqGuard_agg w _ t ox oy xs ys hg, Result.andThen_ok, run_neq_struct, q]
theorem OV_eqlV {t ty' : TypeId} {x y : Operand} {xs ys : Array Value} {b : Bool} (hx : evl l x = some (.agg xs)) (hy : evl l y = some (.agg ys)) (h : eqV C.ts 10 t (.agg xs) (.agg ys) = some b) (hs : (eqVIds C.ts 10 t).all (fun i => !C.P.stoodInHeld i) = true)
    (hg : C.P.eqGuardType C.P.depth t = false) : OV C l [] hh ⟨dst, .binOp .eql t x y ty', ty, pos, aft, gd⟩ (.bool b) :=
  ⟨rfl, fun a w hsl _ _ => by
    have := (run_eqV C.ok h hs hg w x y).1
    rw [Sem.run_bind] at this
    simp only [execOp, hsl.eval hx, hsl.eval hy, Sem.run_bind]
    rw [this]; rfl⟩
theorem OV_neqV {t ty' : TypeId} {x y : Operand} {xs ys : Array Value} {b : Bool} (hx : evl l x = some (.agg xs)) (hy : evl l y = some (.agg ys)) (h : eqV C.ts 10 t (.agg xs) (.agg ys) = some b) (hs : (eqVIds C.ts 10 t).all (fun i => !C.P.stoodInHeld i) = true)
    (hg : C.P.eqGuardType C.P.depth t = false) : OV C l [] hh ⟨dst, .binOp .neq t x y ty', ty, pos, aft, gd⟩ (.bool (!b)) :=
  ⟨rfl, fun a w hsl _ _ => by
    have := (run_eqV C.ok h hs hg w x y).2
    rw [Sem.run_bind] at this
    simp only [execOp, hsl.eval hx, hsl.eval hy, Sem.run_bind]
    rw [this]; rfl⟩

theorem OV_neqR {t ty' : TypeId} {x y : Operand} {xs : Array Value} (hx : evl l x = some (.agg xs)) (hy : evl l y = some (.agg xs)) (h : (eqV C.ts 10 t (.agg xs) (.agg xs)).isSome = true) (hs : (eqVIds C.ts 10 t).all (fun i => !C.P.stoodInHeld i) = true)
    (hg : C.P.eqGuardType C.P.depth t = false) : OV C l [] hh ⟨dst, .binOp .neq t x y ty', ty, pos, aft, gd⟩ (.bool false) := by
  obtain ⟨b, hb⟩ := Option.isSome_iff_exists.1 h
  have := eqV_refl hb; subst this
  exact OV_neqV hx hy hb hs hg
theorem OV_eqlR {t ty' : TypeId} {x y : Operand} {xs : Array Value} (hx : evl l x = some (.agg xs)) (hy : evl l y = some (.agg xs)) (h : (eqV C.ts 10 t (.agg xs) (.agg xs)).isSome = true) (hs : (eqVIds C.ts 10 t).all (fun i => !C.P.stoodInHeld i) = true)
    (hg : C.P.eqGuardType C.P.depth t = false) : OV C l [] hh ⟨dst, .binOp .eql t x y ty', ty, pos, aft, gd⟩ (.bool true) := by
  obtain ⟨b, hb⟩ := Option.isSome_iff_exists.1 h
  have := eqV_refl hb; subst this
  exact OV_eqlV hx hy hb hs hg
end
end Go.Hw
/-
  Hw, part U: the library's sort of a slice of ints that the call owns, out of the shelf's contract.
-/
set_option linter.unusedVariables false
namespace Go.Hw
open Go

def sortI (xs : List Int) : List Int := xs.mergeSort fun x y => decide (x ≤ y)
theorem sortI_len (xs : List Int) : (sortI xs).length = xs.length := List.length_mergeSort xs

theorem flatMap_encI : ∀ (xs : List Int), xs.flatMap encI = xs.map fun i => Value.int .i64 i
  | [] => rfl
  | x :: r => by rw [List.flatMap_cons, flatMap_encI r]; rfl

theorem sortFn {P : Program} {f : FuncId} (hC : ∀ (blk off cap : Nat) (zs : List Int) (w : World), Sort.Holds (Value.int .i64) w blk off zs.toArray → blk < w.heap.size → zs.length < 4611686018427387904 →
      Calls P f #[.slice (some ⟨blk, off, none⟩) zs.length cap] w fun e w' => e = .returned (.tuple #[]) ∧ ∃ n os, w' = Sort.grow (Sort.putRow (Value.int .i64) (Sort.ahead w n) blk off (zs.mergeSort fun x y => decide (x ≤ y)).toArray) os)
    (hN : ∀ (p : Option Addr) (cap : Nat) (w : World), Calls P f #[.slice p 0 cap] w fun e w' => e = .returned (.tuple #[]) ∧ w' = w)
    (e : TypeId) (v : Value) (xs : List Int) (n : Nat) (h : Ro) (hn : n ≤ 1000000000) (hx : xs.length = n) :
    Fn P f #[v] [OwnS e 1 v n (xs.flatMap encI)] h fun u Es _ => u = .tuple #[] ∧ Es = [OwnS e 1 v n ((sortI xs).flatMap encI)] := by
  subst hx
  intro w X0 hl ⟨Ds, ho, hnd, hb⟩
  have H0 : Hp w X0 h [OwnS e 1 v xs.length (xs.flatMap encI)] h w := ⟨rfl, rfl, rfl, Nat.le_refl _, Nat.le_refl _, fun _ _ _ => rfl, hl, Le.refl _, fun i o e => .inl e, Ds, ho, hnd, fun b h1 => ⟨(hb b h1).1, .inr (hb b h1).2.1, (hb b h1).2.2⟩⟩
  obtain ⟨D, hA⟩ := H0.get (List.Mem.head _)
  have hA0 := hA
  obtain ⟨hlen, hr⟩ := hA
  rcases hr with ⟨rfl, h0, hD⟩ | ⟨g, cap, cur, rfl, hD, hm, hcap, hmax, hcs, htk⟩
  · have hx : xs = [] := List.eq_nil_of_length_eq_zero h0
    subst hx
    refine (hN none 0 w).mono ?_
    rintro e' w' ⟨rfl, rfl⟩
    have e0 : sortI [] = [] := by simp [sortI]
    exact ⟨_, rfl, _, h, ⟨rfl, by rw [e0]⟩, H0⟩
  · have hm' : w.heap[g]? = some (.cells cur e (0, 0)) := hm
    rw [Nat.mul_one] at hcs htk
    rw [flatMap_encI] at htk
    have hcell : ∀ j, j < xs.length → cur[j]? = some (.int .i64 (xs.getD j 0)) := by
      intro j hj
      have h1 : (cur.toList.take xs.length)[j]? = (xs.map fun i => Value.int .i64 i)[j]? := by rw [htk]
      rw [List.getElem?_take, if_pos hj, List.getElem?_map, List.getElem?_eq_getElem hj] at h1
      rw [← Array.getElem?_toList, h1]; simp [List.getD, List.getElem?_eq_getElem hj]
    refine (hC g 0 cap xs w ?_ ?_ (by omega)).mono ?_
    · intro j hj
      have hj' : j < xs.length := by simpa using hj
      refine ⟨?_, ?_⟩
      · simp only [World.cell?, hm', Nat.zero_add]
        simp [hcell j hj', List.getD, getElem!_pos xs.toArray j (by simpa using hj'), List.getElem?_eq_getElem hj']
      · simp [World.frozen?, hm']
    · exact (Array.getElem?_eq_some_iff.1 hm').1
    rintro e' w' ⟨rfl, k, os, rfl⟩
    refine ⟨_, rfl, _, h, ⟨rfl, rfl⟩, ?_⟩
    have hsl := sortI_len xs
    have hglt : g < w.heap.size := (Array.getElem?_eq_some_iff.1 hm').1
    refine H0.repl .here rfl rfl rfl (by simp [Sort.grow]) fun D1 hA1 hDn hDb => ?_
    have hD1 : D1 = [g] := by
      rcases hA1.2 with ⟨e1, _⟩ | ⟨g', c', cur', e1, e2, _⟩
      · cases e1
      · injection e1 with e1 _; injection e1 with e1; injection e1 with e1; rw [e2, e1]
    subst hD1
    have hold : ∀ i, i < w.heap.size → (Sort.grow (Sort.putRow (Value.int .i64) (Sort.ahead w k) g 0 (xs.mergeSort fun x y => decide (x ≤ y)).toArray) os).heap[i]? = (w.heap.modify g (Sort.onCells (Sort.putCells (Value.int .i64) 0 (sortI xs).toArray)))[i]? := by
      intro i hi
      show (w.heap.modify g _ ++ os)[i]? = _
      rw [Array.getElem?_append_left (by simpa using hi)]; rfl
    refine ⟨[g], ⟨by rw [flatMap_encI]; simp [hsl], .inr ⟨g, cap, Sort.putCells (Value.int .i64) 0 (sortI xs).toArray cur, rfl, rfl, ?_, hcap, hmax, by simp [Sort.putCells, hcs], ?_⟩⟩, by simp, ?_, ?_⟩
    · show (Sort.grow _ os).heap[g]? = _
      rw [hold g hglt, Array.getElem?_modify, if_pos rfl, hm']
      rfl
    · rw [Nat.mul_one, flatMap_encI]
      apply List.ext_getElem?
      intro j
      rw [List.getElem?_take, List.getElem?_map]
      by_cases hj : j < xs.length
      · rw [if_pos hj, Array.getElem?_toList]
        have hjs : j < (sortI xs).length := by omega
        have hcj : j < cur.size := by omega
        simp only [Sort.putCells, Array.getElem?_mapIdx, Array.getElem?_eq_getElem hcj, Option.map_some, Nat.zero_le, true_and, Nat.zero_add, List.size_toArray, hjs, if_true, Nat.sub_zero, List.getElem?_eq_getElem hjs]
        rw [getElem!_pos _ j (by simpa using hjs)]
        simp
      · rw [if_neg hj, List.getElem?_eq_none (by omega)]; rfl
    · intro i hi
      simp only [List.mem_singleton] at hi
      subst hi
      exact ⟨.inl (by simp), by simp [Sort.grow]; omega⟩
    · intro i hi hni
      have hne : g ≠ i := fun e => hni (by simp [e])
      rw [hold i hi, Array.getElem?_modify, if_neg hne]
end Go.Hw
/-
  Hw, part W: the library's Compact of a slice of ints that the call owns, out of the shelf's contract; what it leaves of a sorted list; a block let go ahead of an operation.
-/
set_option linter.unusedVariables false
namespace Go.Hw
open Go

theorem compactFn {P : Program} {f : FuncId} (hC : ∀ (blk off cap : Nat) (zs : List Int) (w : World), Sort.Holds (Value.int .i64) w blk off zs.toArray → zs.length ≤ 9223372036854775807 → zs.length ≤ cap →
      Calls P f #[.slice (some ⟨blk, off, none⟩) zs.length cap] w fun e w' => e = .returned (.slice (some ⟨blk, off, none⟩) (Lib.compact zs).length cap) ∧ ∃ q, w' = Sort.putRow (Value.int .i64) (Sort.ahead w q) blk off (Lib.compact zs ++ List.replicate (zs.length - (Lib.compact zs).length) 0).toArray)
    (hN : ∀ (p : Option Addr) (cap : Nat) (w : World), Calls P f #[.slice p 0 cap] w fun e w' => e = .returned (.slice p 0 cap) ∧ w' = w)
    (hcl : ∀ zs : List Int, (Lib.compact zs).length ≤ zs.length)
    (e : TypeId) (v : Value) (xs : List Int) (n : Nat) (h : Ro) (hn : n ≤ 1000000000) (hx : xs.length = n) :
    Fn P f #[v] [OwnS e 1 v n (xs.flatMap encI)] h fun u Es _ => Es = [OwnS e 1 u (Lib.compact xs).length ((Lib.compact xs).flatMap encI)] := by
  subst hx
  intro w X0 hl ⟨Ds, ho, hnd, hb⟩
  have H0 : Hp w X0 h [OwnS e 1 v xs.length (xs.flatMap encI)] h w := ⟨rfl, rfl, rfl, Nat.le_refl _, Nat.le_refl _, fun _ _ _ => rfl, hl, Le.refl _, fun i o e => .inl e, Ds, ho, hnd, fun b h1 => ⟨(hb b h1).1, .inr (hb b h1).2.1, (hb b h1).2.2⟩⟩
  obtain ⟨D, hA⟩ := H0.get (List.Mem.head _)
  have hA0 := hA
  obtain ⟨hlen, hr⟩ := hA
  have hcl := hcl xs
  rcases hr with ⟨rfl, h0, hD⟩ | ⟨g, cap, cur, rfl, hD, hm, hcap, hmax, hcs, htk⟩
  · have hx : xs = [] := List.eq_nil_of_length_eq_zero h0
    subst hx
    refine (hN none 0 w).mono ?_
    rintro e' w' ⟨rfl, rfl⟩
    have e0 : Lib.compact ([] : List Int) = [] := List.eq_nil_of_length_eq_zero (by simpa using hcl)
    exact ⟨_, rfl, _, h, rfl, by rw [e0]; exact H0⟩
  · have hm' : w.heap[g]? = some (.cells cur e (0, 0)) := hm
    rw [Nat.mul_one] at hcs htk
    rw [flatMap_encI] at htk
    have hcell : ∀ j, j < xs.length → cur[j]? = some (.int .i64 (xs.getD j 0)) := by
      intro j hj
      have h1 : (cur.toList.take xs.length)[j]? = (xs.map fun i => Value.int .i64 i)[j]? := by rw [htk]
      rw [List.getElem?_take, if_pos hj, List.getElem?_map, List.getElem?_eq_getElem hj] at h1
      rw [← Array.getElem?_toList, h1]; simp [List.getD, List.getElem?_eq_getElem hj]
    refine (hC g 0 cap xs w ?_ (by omega) hcap).mono ?_
    · intro j hj
      have hj' : j < xs.length := by simpa using hj
      refine ⟨?_, ?_⟩
      · simp only [World.cell?, hm', Nat.zero_add]
        simp [hcell j hj', List.getD, getElem!_pos xs.toArray j (by simpa using hj'), List.getElem?_eq_getElem hj']
      · simp [World.frozen?, hm']
    rintro e' w' ⟨rfl, k, rfl⟩
    generalize hz : Lib.compact xs = zs at *
    refine ⟨_, rfl, _, h, rfl, ?_⟩
    have hglt : g < w.heap.size := (Array.getElem?_eq_some_iff.1 hm').1
    refine H0.repl .here rfl rfl rfl (by simp [Sort.putRow, Sort.mapBlock, Sort.ahead]) fun D1 hA1 hDn hDb => ?_
    have hD1 : D1 = [g] := by
      rcases hA1.2 with ⟨e1, _⟩ | ⟨g', c', cur', e1, e2, _⟩
      · cases e1
      · injection e1 with e1 _; injection e1 with e1; injection e1 with e1; rw [e2, e1]
    subst hD1
    generalize hws : (zs ++ List.replicate (xs.length - zs.length) 0).toArray = ws
    have hwl : ws.size = xs.length := by rw [← hws]; simp; omega
    have hwg : ∀ j, j < zs.length → ws[j]? = zs[j]? := fun j hj => by rw [← hws]; simp [List.getElem?_append_left hj]
    have hold : ∀ i : Nat, (Sort.putRow (Value.int .i64) (Sort.ahead w k) g 0 ws).heap[i]? = (w.heap.modify g (Sort.onCells (Sort.putCells (Value.int .i64) 0 ws)))[i]? := fun i => rfl
    refine ⟨[g], ⟨by rw [flatMap_encI]; simp, .inr ⟨g, cap, Sort.putCells (Value.int .i64) 0 ws cur, rfl, rfl, ?_, by omega, hmax, by simp [Sort.putCells, hcs], ?_⟩⟩, by simp, ?_, ?_⟩
    · show (Sort.putRow _ _ _ _ _).heap[g]? = _
      rw [hold g, Array.getElem?_modify, if_pos rfl, hm']
      rfl
    · rw [Nat.mul_one, flatMap_encI]
      apply List.ext_getElem?
      intro j
      rw [List.getElem?_take, List.getElem?_map]
      by_cases hj : j < zs.length
      · rw [if_pos hj, Array.getElem?_toList]
        have hcj : j < cur.size := by omega
        have hjs : j < ws.size := by omega
        simp only [Sort.putCells, Array.getElem?_mapIdx, Array.getElem?_eq_getElem hcj, Option.map_some, Nat.zero_le, true_and, Nat.zero_add, hjs, if_true, Nat.sub_zero]
        rw [getElem!_pos _ j hjs]
        have := hwg j hj
        rw [Array.getElem?_eq_getElem hjs] at this
        rw [← this]; rfl
      · rw [if_neg hj, List.getElem?_eq_none (by omega)]; rfl
    · intro i hi
      simp only [List.mem_singleton] at hi
      subst hi
      exact ⟨.inl (by simp), by simpa [Sort.putRow, Sort.mapBlock, Sort.ahead] using hglt⟩
    · intro i hi hni
      have hne : g ≠ i := fun e => hni (by simp [e])
      rw [hold i, Array.getElem?_modify, if_neg hne]

/-! ### What Compact leaves of a sorted list -/
theorem compact_len (zs : List Int) : (Lib.compact zs).length ≤ zs.length := by
  unfold Lib.compact Lib.compactUpTo
  rw [List.length_map]
  have := List.length_filter_le (Lib.keeps zs.toArray) (List.range zs.length)
  simpa using this
theorem keeps_iff (zs : List Int) (j : Nat) (hj : j < zs.length) : Lib.keeps zs.toArray j = true ↔ j = 0 ∨ zs.getD j 0 ≠ zs.getD (j - 1) 0 := by
  unfold Lib.keeps
  rw [decide_eq_true_eq]
  by_cases h0 : j = 0
  · simp [h0]
  · simp [h0, getElem!_pos zs.toArray j (by simpa using hj), getElem!_pos zs.toArray (j - 1) (by simp; omega), List.getD, List.getElem?_eq_getElem hj, List.getElem?_eq_getElem (show j - 1 < zs.length by omega)]
theorem compact_mem {zs : List Int} (x : Int) : x ∈ Lib.compact zs ↔ x ∈ zs := by
  unfold Lib.compact Lib.compactUpTo
  simp only [List.mem_map, List.mem_filter, List.mem_range]
  constructor
  · rintro ⟨j, ⟨hj, _⟩, rfl⟩
    rw [getElem!_pos zs.toArray j (by simpa using hj)]
    simp
  · intro hx
    obtain ⟨i, hi, rfl⟩ := List.getElem_of_mem hx
    -- the first place of this element
    have : ∀ i, (hi : i < zs.length) → ∃ j, (j < zs.length ∧ Lib.keeps zs.toArray j = true) ∧ zs.toArray[j]! = zs[i] := by
      intro i
      induction i with
      | zero => intro hi; exact ⟨0, ⟨hi, (keeps_iff zs 0 hi).2 (.inl rfl)⟩, by rw [getElem!_pos zs.toArray 0 (by simpa using hi)]; simp⟩
      | succ i ih =>
        intro hi
        by_cases he : zs[i + 1] = zs[i]
        · rw [he]; exact ih (by omega)
        · refine ⟨i + 1, ⟨hi, (keeps_iff zs (i + 1) hi).2 (.inr ?_)⟩, by rw [getElem!_pos zs.toArray (i + 1) (by simpa using hi)]; simp⟩
          simpa [List.getD, List.getElem?_eq_getElem hi, List.getElem?_eq_getElem (show i < zs.length by omega)] using he
    exact this i hi
theorem compact_incr {zs : List Int} (hs : zs.Pairwise (· ≤ ·)) : (Lib.compact zs).Pairwise (· < ·) := by
  unfold Lib.compact Lib.compactUpTo
  rw [List.pairwise_map]
  have h1 : ((List.range zs.length).filter (Lib.keeps zs.toArray)).Pairwise (· < ·) := List.Pairwise.filter _ List.pairwise_lt_range
  refine h1.imp_of_mem ?_
  intro a b ha hb hab
  simp only [List.mem_filter, List.mem_range] at ha hb
  rw [getElem!_pos zs.toArray a (by simpa using ha.1), getElem!_pos zs.toArray b (by simpa using hb.1)]
  simp only [List.getElem_toArray]
  have hb0 : 0 < b := by omega
  have hk := (keeps_iff zs b hb.1).1 hb.2
  have hne : zs[b] ≠ zs[b - 1]'(by omega) := by
    rcases hk with h | h
    · omega
    · simpa [List.getD, List.getElem?_eq_getElem hb.1, List.getElem?_eq_getElem (show b - 1 < zs.length by omega)] using h
  have h2 := List.pairwise_iff_getElem.1 hs (b - 1) b (by omega) hb.1 (by omega)
  have h3 : zs[a]'ha.1 ≤ zs[b - 1]'(by omega) := by
    by_cases e : a = b - 1
    · subst e; exact Int.le_refl _
    · exact List.pairwise_iff_getElem.1 hs a (b - 1) ha.1 (by omega) (by omega)
  omega
theorem sortI_mem (xs : List Int) (x : Int) : x ∈ sortI xs ↔ x ∈ xs := by unfold sortI; exact List.mem_mergeSort
theorem sortI_sorted (xs : List Int) : (sortI xs).Pairwise (· ≤ ·) := by
  unfold sortI
  have := List.pairwise_mergeSort (le := fun x y : Int => decide (x ≤ y)) (fun a b c h1 h2 => by simp at *; omega) (fun a b => by simp; omega) xs
  simpa using this

/-! ### A block let go ahead of an operation -/
theorem OpTo_relB {C : Ctx} {l : Sl} {Es Es' : List Asn} {h : Ro} {o : Oper} {G : Value → List Asn → Ro → Prop} {b : Nat} {e : TypeId} {cs : List Value} (hT : Take Es (Blk b e cs) Es')
    (g : ∀ h', Le h h' → CellsAt h' ⟨b, 0, none⟩ cs → OpTo C l Es' h' o G) : OpTo C l Es h o G := fun a w hs H => by
  obtain ⟨D, h', hle, hA, H'⟩ := H.release hT
  exact g h' hle (blk_at hA.2) a w hs H'
theorem OpTo_relS {C : Ctx} {l : Sl} {Es Es' : List Asn} {h : Ro} {o : Oper} {G : Value → List Asn → Ro → Prop} {α : Type} {enc : α → List Value} {e sz : Nat} {v : Value} {n : Nat} {xs : List α} (hl : ∀ x, (enc x).length = sz) (hn : xs.length = n)
    (hT : Take Es (OwnS e sz v n (xs.flatMap enc)) Es') (g : ∀ A c h', Le h h' → v = .slice A n c → n ≤ c → SlOf enc sz h' A n xs → OpTo C l Es' h' o G) : OpTo C l Es h o G := fun a w hs H => by
  obtain ⟨D, h', hle, hA, H'⟩ := H.release hT
  obtain ⟨A, c, rfl, q1, q2⟩ := OwnS_free' hl hn hA
  exact g A c h' hle rfl q1 q2 a w hs H'
end Go.Hw
/-
  Hw, part X: '&' with a mask, its outcome known by its bounds alone.
-/
set_option linter.unusedVariables false
namespace Go.Hw
open Go
section
variable {C : Ctx} {ds : List Deferred} {l : Sl} {Es : List Asn} {h : Ro} {ops : Array Oper} {os : List Oper} {K : List Item}
theorem mask_bd (p q : Int) (hq : 0 ≤ q ∧ q ≤ 1000000) : ∃ w : Int, IntKind.i64.wrap ((BitVec.ofInt IntKind.i64.bits p &&& BitVec.ofInt IntKind.i64.bits q).toNat : Int) = w ∧ 0 ≤ w ∧ w ≤ q := by
  obtain ⟨k, rfl⟩ : ∃ k : Nat, q = k := ⟨q.toNat, by omega⟩
  have h1 : (BitVec.ofInt IntKind.i64.bits p &&& BitVec.ofInt IntKind.i64.bits (k : Int)).toNat ≤ k := by
    rw [BitVec.toNat_and]
    have : (BitVec.ofInt IntKind.i64.bits (k : Int)).toNat = k := by
      rw [BitVec.ofInt_natCast, BitVec.toNat_ofNat]
      exact Nat.mod_eq_of_lt (by show k < 2 ^ 64; omega)
    rw [this]
    exact Nat.and_le_right
  generalize (BitVec.ofInt IntKind.i64.bits p &&& BitVec.ofInt IntKind.i64.bits (k : Int)).toNat = m at *
  exact ⟨m, i64_in _ (by omega), by omega, by omega⟩
theorem GOl_mask {t ty' : TypeId} {x y : Operand} {p q : Int} {d : Tmp} {ty : TypeId} {pos : String} {aft : Array Edge} {gd : Option (Nat × Bool)} {T : Ty}
    (hT : tyOf t C.ts = some T) (hx : evl l x = some (.int .i64 p)) (hy : evl l y = some (.int .i64 q)) (hq : 0 ≤ q ∧ q ≤ 1000000)
    (hg : wantedB ops l gd = some true) (hd : dstOk C.N (some d) = true) (g : ∀ w : Int, 0 ≤ w → w ≤ q → GOl C ds ((d, (.int .i64 w)) :: l) Es h ops os K) : GOl C ds l Es h ops (⟨some d, .binOp .and t x y ty', ty, pos, aft, gd⟩ :: os) K := by
  obtain ⟨w, e, h1, h2⟩ := mask_bd p q hq
  exact GOl_bin hT hx hy (by simp only [pvBin, if_true]; rw [e]) hg hd (g w h1 h2)
end
end Go.Hw
namespace Go.Hw
open Go
section
variable {C : Ctx} {ds : List Deferred} {l : Sl} {Es : List Asn} {h : Ro} {ops : Array Oper} {os : List Oper} {K : List Item}
/-- min and max of integers, under a name of their own. -/
theorem GOl_min {xs : Array Operand} {tys : Array TypeId} {n : Int} {d : Tmp} {ty : TypeId} {pos : String} {aft : Array Edge} {gd : Option (Nat × Bool)}
    (hv : pv C.ts l (.call ⟨.builtin .min, xs, tys⟩) = some (.int .i64 n)) (hg : wantedB ops l gd = some true) (hd : dstOk C.N (some d) = true) (g : ∀ w : Int, w = n → GOl C ds ((d, .int .i64 w) :: l) Es h ops os K) :
    GOl C ds l Es h ops (⟨some d, .call ⟨.builtin .min, xs, tys⟩, ty, pos, aft, gd⟩ :: os) K := GOl_pv hv hg hd (g n rfl)
theorem GOl_max {xs : Array Operand} {tys : Array TypeId} {n : Int} {d : Tmp} {ty : TypeId} {pos : String} {aft : Array Edge} {gd : Option (Nat × Bool)}
    (hv : pv C.ts l (.call ⟨.builtin .max, xs, tys⟩) = some (.int .i64 n)) (hg : wantedB ops l gd = some true) (hd : dstOk C.N (some d) = true) (g : ∀ w : Int, w = n → GOl C ds ((d, .int .i64 w) :: l) Es h ops os K) :
    GOl C ds l Es h ops (⟨some d, .call ⟨.builtin .max, xs, tys⟩, ty, pos, aft, gd⟩ :: os) K := GOl_pv hv hg hd (g n rfl)
end
end Go.Hw
namespace Go.Hw
open Go
/-! ### Parts of a slice that is only read, as values -/
def sliceA (A : Option Addr) (c lo sz : Nat) : Option Addr := if c = lo then A else A.map (·.add (lo * sz))
def sliceH (A : Option Addr) (c sz : Nat) : Option Addr := if c = 0 then A else A.map (·.add (0 * sz))
theorem SlOf.low {α : Type} {enc : α → List Value} {sz : Nat} {h : Ro} {A : Option Addr} {n : Nat} {xs : List α} (hs : SlOf enc sz h A n xs) {lo c : Nat} (hlo : lo ≤ n) (hnc : n ≤ c) : SlOf enc sz h (sliceA A c lo sz) (n - lo) (xs.drop lo) := by
  have hp1 := hs.part (l := lo) (k := n) hlo (Nat.le_refl _) (sliceA A c lo sz) (fun h => by
    unfold sliceA
    split
    · rename_i hc
      omega
    · rfl)
  rwa [List.take_of_length_le (by rw [hs.len]; exact Nat.le_refl _)] at hp1
theorem SlOf.high {α : Type} {enc : α → List Value} {sz : Nat} {h : Ro} {A : Option Addr} {n : Nat} {xs : List α} (hs : SlOf enc sz h A n xs) {hi c : Nat} (hle : hi ≤ n) (hnc : n ≤ c) : SlOf enc sz h (sliceH A c sz) hi (xs.take hi) := by
  have hp1 := hs.part (l := 0) (k := hi) (Nat.zero_le _) hle (sliceH A c sz) (fun h => by
    unfold sliceH; rw [if_neg (by omega)])
  rwa [List.drop_zero, Nat.sub_zero] at hp1
section
variable {C : Ctx} {l : Sl} {h : Ro} {ty : TypeId} {pos : String} {aft : Array Edge} {gd : Option (Nat × Bool)}
theorem OV_sliceLo {x y : Operand} {t e : TypeId} {k : IntKind} {i : Int} {lo n c : Nat} {A : Option Addr} {T E : Ty} {dst : Option Tmp} (hT : tyOf t C.ts = some T) (hTd : T.desc = .slice e) (hE : tyOf e C.ts = some E)
    (hx : evl l x = some (.slice A n c)) (hy : evl l y = some (.int k i)) (hi : i = (lo : Int)) (hlo : lo ≤ n) : OV C l [] h ⟨dst, .slice t x (some y) none none, ty, pos, aft, gd⟩ (.slice (sliceA A c lo E.size) (n - lo) (c - lo)) :=
  ⟨rfl, fun a w hsl _ _ => by
    obtain ⟨D0, hu, hb0⟩ := C.ok.und hT
    rw [hTd] at hb0
    rw [blank_slice hb0] at hu
    have e1 : a.eval x = .slice A n c := hsl.eval hx
    have e2 : a.eval y = .int k i := hsl.eval hy
    simp only [execOp, Instr.sliceAt, Sem.run_bind, run_underlying hu, Result.andThen_ok, Instr.slice, e1, e2, Option.map_some, Option.map_none, Instr.sliceBounds, Sem.run_pure, run_sliceBound (code := .sliceB) hi hlo, C.ok.run_size hE, Bool.false_eq_true, if_false, Option.isSome_none, sliceA]⟩
theorem OV_sliceHi {x y : Operand} {t e : TypeId} {k : IntKind} {i : Int} {hi n c : Nat} {A : Option Addr} {T E : Ty} {dst : Option Tmp} (hT : tyOf t C.ts = some T) (hTd : T.desc = .slice e) (hE : tyOf e C.ts = some E)
    (hx : evl l x = some (.slice A n c)) (hy : evl l y = some (.int k i)) (hi1 : i = (hi : Int)) (hle : hi ≤ n) (hnc : n ≤ c) : OV C l [] h ⟨dst, .slice t x none (some y) none, ty, pos, aft, gd⟩ (.slice (sliceH A c E.size) hi c) :=
  ⟨rfl, fun a w hsl _ _ => by
    obtain ⟨D0, hu, hb0⟩ := C.ok.und hT
    rw [hTd] at hb0
    rw [blank_slice hb0] at hu
    have e1 : a.eval x = .slice A n c := hsl.eval hx
    have e2 : a.eval y = .int k i := hsl.eval hy
    simp only [execOp, Instr.sliceAt, Sem.run_bind, run_underlying hu, Result.andThen_ok, Instr.slice, e1, e2, Option.map_some, Option.map_none, Instr.sliceBounds, Sem.run_pure, run_sliceBound hi1 (Nat.le_trans hle hnc), C.ok.run_size hE, Bool.false_eq_true, if_false, if_true, Option.isSome_none, Nat.sub_zero, sliceH]⟩
end
end Go.Hw
namespace Go.Hw
open Go
theorem GOl_remB {C : Ctx} {ds : List Deferred} {l : Sl} {Es : List Asn} {h : Ro} {ops : Array Oper} {os : List Oper} {K : List Item} {t ty' : TypeId} {x y : Operand} {p q : Int} {d : Tmp} {ty : TypeId} {pos : String} {aft : Array Edge} {gd : Option (Nat × Bool)} {T : Ty}
    (hT : tyOf t C.ts = some T) (hx : evl l x = some (.int .i64 p)) (hy : evl l y = some (.int .i64 q)) (hb : 0 ≤ p ∧ 1 ≤ q)
    (hg : wantedB ops l gd = some true) (hd : dstOk C.N (some d) = true) (g : ∀ w : Int, 0 ≤ w → w < q → GOl C ds ((d, (.int .i64 w)) :: l) Es h ops os K) : GOl C ds l Es h ops (⟨some d, .binOp .rem t x y ty', ty, pos, aft, gd⟩ :: os) K :=
  GOl_rem hT hx hy hb hg hd (g _ (Int.emod_nonneg _ (by omega)) (Int.emod_lt_of_pos _ (by omega)))
end Go.Hw
/-
  Hw, part Xb: unsigned remainders and conversions.
-/
set_option linter.unusedVariables false
namespace Go.Hw
open Go
section
variable {C : Ctx} {ds : List Deferred} {l : Sl} {Es : List Asn} {h : Ro} {ops : Array Oper} {os : List Oper} {K : List Item}
theorem GOl_remU {t ty' : TypeId} {x y : Operand} {p q : Int} {d : Tmp} {ty : TypeId} {pos : String} {aft : Array Edge} {gd : Option (Nat × Bool)} {T : Ty}
    (hT : tyOf t C.ts = some T) (hx : evl l x = some (.int .u64 p)) (hy : evl l y = some (.int .u64 q)) (hb : 0 ≤ p ∧ 1 ≤ q)
    (hg : wantedB ops l gd = some true) (hd : dstOk C.N (some d) = true) (g : ∀ i : Nat, (i : Int) < q → GOl C ds ((d, (.int .u64 (i : Int))) :: l) Es h ops os K) : GOl C ds l Es h ops (⟨some d, .binOp .rem t x y ty', ty, pos, aft, gd⟩ :: os) K := by
  obtain ⟨h1, h3⟩ := hb
  have e : ((p % q).toNat : Int) = p % q := Int.toNat_of_nonneg (Int.emod_nonneg _ (by omega))
  have := g (p % q).toNat (by rw [e]; exact Int.emod_lt_of_pos _ (by omega))
  rw [e] at this
  exact GOl_bin hT hx hy (by
    simp only [pvBin, if_true]
    rw [if_neg (by omega), Int.tmod_eq_emod_of_nonneg h1]) hg hd this
theorem GOl_convU {s t : TypeId} {x : Operand} {k : IntKind} {p : Int} {d : Tmp} {ty : TypeId} {pos : String} {aft : Array Edge} {gd : Option (Nat × Bool)} {S : Ty} {sz by' : Nat} {z : Value}
    (hS : tyOf s C.ts = some S) (hT : tyOf t C.ts = some ⟨t, .int .u64, sz, by', z⟩) (hx : evl l x = some (.int k p)) (hb : 0 ≤ p ∧ p ≤ 9223372036854775807)
    (hg : wantedB ops l gd = some true) (hd : dstOk C.N (some d) = true) (g : GOl C ds ((d, (.int .u64 p)) :: l) Es h ops os K) : GOl C ds l Es h ops (⟨some d, .convert s t x, ty, pos, aft, gd⟩ :: os) K := by
  have e : IntKind.u64.wrap p = p := by simp [IntKind.wrap, IntKind.bits, IntKind.signed]; omega
  exact GOl_pv (by simp [pv, hS, hT, hx, pvConv, e]) hg hd g
end
end Go.Hw
/-
  Hw, part Xc: what is owned is let go in the midst of a region; one of three operations that can come next.
-/
set_option linter.unusedVariables false
namespace Go.Hw
open Go
section
variable {C : Ctx} {ds : List Deferred} {l : Sl} {Es : List Asn} {h : Ro} {ops : Array Oper} {os : List Oper} {K : List Item}
theorem GOl_release {Es' : List Asn} {A : Asn} (hT : Take Es A Es') (g : ∀ D h', Le h h' → A.holds D h' → GOl C ds l Es' h' ops os K) : GOl C ds l Es h ops os K := fun k hk a w s => by
  obtain ⟨D, h', hl, hA, H⟩ := s.hp.release hT
  exact g D h' hl hA k hk a w ⟨s.size, s.defers, s.slots, H⟩
theorem GOl_relC {α : Type} {enc : α → List Value} {e sz : Nat} {v : Value} {n : Nat} {xs : List α} {Es' : List Asn} (hl : ∀ x, (enc x).length = sz) (hn : xs.length = n) (hT : Take Es (OwnS e sz v n (xs.flatMap enc)) Es')
    (g : ∀ A c h', Le h h' → v = .slice A n c → n ≤ c → SlOf enc sz h' A n xs → GOl C ds l Es' h' ops os K) : GOl C ds l Es h ops os K :=
  GOl_release hT fun D h' hle hA => by
    obtain ⟨A, c, e1, e2, e3⟩ := OwnS_free' hl hn hA
    exact g A c h' hle e1 e2 e3
end
section
variable {C : Ctx} {ds : List Deferred} {l0 : Sl} {Vs : List Dn} {Es : List Asn} {h : Ro} {K : List Item} {os : List Oper} {pl : List (Nat × Nat)} {i : Nat}
theorem GP_three {m j n k : Nat} {pi r pj pk : List (Nat × Nat)} (hb : (onlyB Vs [i, j, k] os.toArray && Nat.blt i os.toArray.size && !inVs Vs i) = true) (hpi : tkP m pl = some pi) (hr : drP m pl = some r) (hpj : tkP n r = some pj) (hpk : drP n r = some pk)
    (hi : RealP pi C ds l0 Vs Es h os K i) (hj : RealP pj C ds l0 Vs Es h os K j) (hk : RealP pk C ds l0 Vs Es h os K k) : GDp ((i, 3) :: (m, j) :: (n, k) :: pl) C ds l0 Vs Es h os.toArray K := by
  simp only [Bool.and_eq_true, Bool.not_eq_true', Nat.blt_eq] at hb
  refine GD_reals (cs := [i, j, k]) hb.1.1 ⟨i, .head _, hb.1.2, hb.2⟩ fun q hq => ?_
  rcases List.mem_cons.1 hq with rfl | hq
  · exact hi
  · rcases List.mem_cons.1 hq with rfl | hq
    · exact hj
    · rw [List.mem_singleton] at hq; subst hq; exact hk
end
end Go.Hw

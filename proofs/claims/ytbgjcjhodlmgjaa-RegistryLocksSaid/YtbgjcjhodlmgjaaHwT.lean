/-
  Hw, part T: equality of values with arrays in them.
-/
import Derived.Test.YtbgjcjhodlmgjaaHwS
import Derived.ChangeKeysEq
set_option linter.unusedVariables false
namespace Go.Hw
open Go

def eqAr (eq : Nat → Value → Value → Option Bool) (e : Nat) (E : Ty) (xs ys : List Value) : List Nat → Option Bool
  | [] => some true
  | i :: r => match pvPart (i * E.size) E.size E.agg xs, pvPart (i * E.size) E.size E.agg ys with
    | some a, some b => match eq e a b, eqAr eq e E xs ys r with
      | some p, some q => some (p && q)
      | _, _ => none
    | _, _ => none
def eqV (ts : List Ty) : Nat → Nat → Value → Value → Option Bool
  | 0, _, _, _ => none
  | n + 1, t, x, y => match tyOf t ts with
    | some T => match T.desc, x, y with
      | .int _, .int k a, .int k' b => if k = k' then some (eqI a b) else none
      | .bool, .bool a, .bool b => some (a == b)
      | .string, .string a, .string b => some (a == b)
      | .struct fs, .agg xs, .agg ys => eqFs ts (eqV ts n) xs.toList ys.toList fs.toList
      | .array m e, .agg xs, .agg ys => match tyOf e ts with
        | some E => eqAr (eqV ts n) e E xs.toList ys.toList (List.range m)
        | none => none
      | _, _, _ => none
    | none => none
def eqVIds (ts : List Ty) : Nat → Nat → List Nat
  | 0, _ => []
  | n + 1, t => match tyOf t ts with
    | some T => match T.desc with
      | .struct fs => t :: fs.toList.flatMap fun f => eqVIds ts n f.type
      | .array _ e => eqVIds ts n e
      | _ => []
    | none => []

theorem eqV_ok {P : Program} {ts : List Ty} (hT : TsOk P ts) (w : World) : ∀ {n : Nat} {t : Nat} {x y : Value} {b : Bool}, eqV ts n t x y = some b → (∀ i ∈ eqVIds ts n t, P.stoodInHeld i = false) → ∀ d, (Op.equalIn (n + d) t x y).run P w = .ok b w
  | 0, _, _, _, _, h, _, _ => by cases h
  | n + 1, t, x, y, b, h, hs, d => by
    rw [show n + 1 + d = (n + d) + 1 by omega]
    unfold eqV at h
    cases hty : tyOf t ts with
    | none => rw [hty] at h; cases h
    | some T =>
      rw [hty] at h
      obtain ⟨D, hD, hb⟩ := hT.und hty
      simp only at h
      split at h
      · rename_i k0 k a k' b' hd
        split at h
        · rename_i hk; subst hk; injection h with h; subst h
          rw [hd] at hb
          rw [blank_int hb] at hD
          rw [run_equalIn_int w _ t k k0 a b' hD, eqI_eq]; congr 1
        · cases h
      · rename_i a b' hd
        injection h with h; subst h
        rw [hd] at hb
        rw [blank_bool hb] at hD
        exact run_equalIn_bool w _ t a b' hD
      · rename_i a b' hd
        injection h with h; subst h
        rw [hd] at hb
        rw [blank_string hb] at hD
        rw [run_equalIn_string w _ t a b' hD, ← beq_toListBytes]
      · rename_i fs xs ys hd
        rw [hd] at hb
        obtain ⟨gs, rfl, hg⟩ := blank_struct hb
        have hself : P.stoodInHeld t = false := hs t (by unfold eqVIds; rw [hty]; simp only [hd]; exact .head _)
        have hfo : P.fieldsOf t = gs := by simp [Program.fieldsOf, hD]
        rw [run_equalIn_struct w (n + d) t xs ys (by rw [hfo]; exact hD) hself, hfo]
        have hsub : ∀ f ∈ fs.toList, ∀ i ∈ eqVIds ts n f.type, P.stoodInHeld i = false := fun f hf i hi => hs i (by
          unfold eqVIds; rw [hty]; simp only [hd]; exact .tail _ (List.mem_flatMap.2 ⟨f, hf, hi⟩))
        rw [← hg] at h hsub
        clear hg hD hfo hb hd
        generalize gs.toList = gl at h hsub
        induction gl generalizing b with
        | nil => simp only [List.map_nil, eqFs, Option.some.injEq] at h; subst h; rfl
        | cons f r ih =>
          simp only [List.map_cons, eqFs] at h
          have hnm : (blankF f).name = "_" ↔ f.name = "_" := by
            unfold blankF
            by_cases hf : f.name = "_" <;> simp [hf]
          have ihr := fun b hb => ih (b := b) hb (fun f' hf' => hsub f' (by simp only [List.map_cons]; exact .tail _ hf'))
          unfold Op.eqFields
          by_cases hf : f.name = "_"
          · rw [if_pos (hnm.2 hf)] at h
            simp only [hf, ne_eq, not_true, if_false]
            exact ihr b h
          · rw [if_neg (fun e => hf (hnm.1 e))] at h
            simp only [ne_eq, hf, not_false_eq_true, if_true]
            have e1 : (blankF f).type = f.type := rfl
            have e2 : (blankF f).offset = f.offset := rfl
            rw [e1, e2] at h
            cases hF : tyOf f.type ts with
            | none => rw [hF] at h; cases h
            | some F =>
              rw [hF] at h
              simp only at h
              cases hx : pvPart f.offset F.size F.agg xs.toList with
              | none => rw [hx] at h; cases h
              | some p =>
                cases hy : pvPart f.offset F.size F.agg ys.toList with
                | none => rw [hx, hy] at h; cases h
                | some q =>
                  rw [hx, hy] at h
                  simp only at h
                  have p1 := pvPart_ok hx w (hT.run_size hF w) (hT.run_agg hF w)
                  have p2 := pvPart_ok hy w (hT.run_size hF w) (hT.run_agg hF w)
                  simp only [Array.toArray_toList] at p1 p2
                  cases he : eqV ts n f.type p q with
                  | none => rw [he] at h; cases h
                  | some u =>
                    rw [he] at h
                    cases hr : eqFs ts (eqV ts n) xs.toList ys.toList (r.map blankF) with
                    | none => rw [hr] at h; cases h
                    | some v =>
                      rw [hr] at h
                      simp only [Option.some.injEq] at h
                      subst h
                      have q1 := eqV_ok hT w he (hsub (blankF f) (by simp)) d
                      simp only [Sem.run_bind, p1, p2, Result.andThen_ok, q1]
                      cases u with
                      | false => simp
                      | true => simpa using ihr v hr
      · rename_i m e xs ys hd
        rw [hd] at hb
        rw [blank_array hb] at hD
        cases hE : tyOf e ts with
        | none => rw [hE] at h; cases h
        | some E =>
          rw [hE] at h
          simp only at h
          obtain ⟨ie, hie, _⟩ := hT.info hE
          have hsz : P.cellsOf e = E.size := by
            have h1 := hT.run_size hE w
            rw [run_sizeOf w hie] at h1
            injection h1
          rw [run_equalIn_array w (n + d) xs ys hD hie, hsz]
          have hsub : ∀ i ∈ eqVIds ts n e, P.stoodInHeld i = false := fun i hi => hs i (by unfold eqVIds; rw [hty]; simp only [hd]; exact hi)
          generalize List.range m = is at h
          induction is generalizing b with
          | nil => simp only [eqAr, Option.some.injEq] at h; subst h; rfl
          | cons i is ih =>
            simp only [eqAr] at h
            cases hx : pvPart (i * E.size) E.size E.agg xs.toList with
            | none => rw [hx] at h; cases h
            | some p =>
              cases hy : pvPart (i * E.size) E.size E.agg ys.toList with
              | none => rw [hx, hy] at h; cases h
              | some q =>
                rw [hx, hy] at h
                simp only at h
                have p1 := pvPart_ok hx w (hT.run_size hE w) (hT.run_agg hE w)
                have p2 := pvPart_ok hy w (hT.run_size hE w) (hT.run_agg hE w)
                simp only [Array.toArray_toList] at p1 p2
                cases he : eqV ts n e p q with
                | none => rw [he] at h; cases h
                | some u =>
                  rw [he] at h
                  cases hr : eqAr (eqV ts n) e E xs.toList ys.toList is with
                  | none => rw [hr] at h; cases h
                  | some v =>
                    rw [hr] at h
                    simp only [Option.some.injEq] at h
                    subst h
                    have q1 := eqV_ok hT w he hsub d
                    simp only [Op.eqItems, Sem.run_bind, p1, p2, Result.andThen_ok, q1]
                    cases u with
                    | false => simp
                    | true => simpa using ih v hr
      · cases h


theorem eqFs_refl {ts : List Ty} {eq : Nat → Value → Value → Option Bool} (he : ∀ t x b, eq t x x = some b → b = true) {xs : List Value} : ∀ {fs : List Field} {b : Bool}, eqFs ts eq xs xs fs = some b → b = true
  | [], b, h => by simp only [eqFs, Option.some.injEq] at h; exact h.symm
  | f :: r, b, h => by
    simp only [eqFs] at h
    split at h
    · exact eqFs_refl he h
    · split at h
      · split at h
        · rename_i a b' h1 h2
          rw [h1] at h2; injection h2 with h2; subst h2
          split at h
          · rename_i p q h3 h4
            injection h with h
            rw [← h, he _ _ _ h3, eqFs_refl he h4]; rfl
          · cases h
        · cases h
      · cases h
theorem eqAr_refl {eq : Nat → Value → Value → Option Bool} (he : ∀ t x b, eq t x x = some b → b = true) {e : Nat} {E : Ty} {xs : List Value} : ∀ {is : List Nat} {b : Bool}, eqAr eq e E xs xs is = some b → b = true
  | [], b, h => by simp only [eqAr, Option.some.injEq] at h; exact h.symm
  | i :: r, b, h => by
    simp only [eqAr] at h
    split at h
    · rename_i a b' h1 h2
      rw [h1] at h2; injection h2 with h2; subst h2
      split at h
      · rename_i p q h3 h4
        injection h with h
        rw [← h, he _ _ _ h3, eqAr_refl he h4]; rfl
      · cases h
    · cases h
theorem eqV_refl {ts : List Ty} : ∀ {n : Nat} {t : Nat} {x : Value} {b : Bool}, eqV ts n t x x = some b → b = true
  | 0, _, _, _, h => by cases h
  | n + 1, t, x, b, h => by
    unfold eqV at h
    split at h
    · split at h
      · rename_i h1 h2
        split at h
        · injection h with h; injection h2 with _ h2; subst h2; rw [← h, eqI_eq]; simp
        · cases h
      · rename_i h1; injection h with h; injection h1 with h1; subst h1; rw [← h]; simp
      · rename_i h1; injection h with h; injection h1 with h1; subst h1; rw [← h, beq_toListBytes]; simp
      · rename_i h1; injection h1 with h1; subst h1; exact eqFs_refl (fun t x b => eqV_refl) h
      · rename_i h1; injection h1 with h1; subst h1
        split at h
        · exact eqAr_refl (fun t x b => eqV_refl) h
        · cases h
      · cases h
    · cases h

section
variable {C : Ctx} {l : Sl} {hh : Ro} {ty : TypeId} {pos : String} {aft : Array Edge} {gd : Option (Nat × Bool)} {dst : Option Tmp}
theorem run_eqV {P : Program} {ts : List Ty} (hT : TsOk P ts) {t : Nat} {xs ys : Array Value} {b : Bool} (h : eqV ts 10 t (.agg xs) (.agg ys) = some b) (hs : (eqVIds ts 10 t).all (fun i => !P.stoodInHeld i) = true) (hg : P.eqGuardType P.depth t = false) (w : World) (ox oy : Operand) :
    (do eqGuard .eql t ox oy (.agg xs) (.agg ys); binOp .eql t (.agg xs) (.agg ys) : Sem Value).run P w = .ok (.bool b) w ∧ (do eqGuard .neq t ox oy (.agg xs) (.agg ys); binOp .neq t (.agg xs) (.agg ys) : Sem Value).run P w = .ok (.bool (!b)) w := by
  have hs' : ∀ i ∈ eqVIds ts 10 t, P.stoodInHeld i = false := fun i hi => by
    have := List.all_eq_true.1 hs i hi; simpa using this
  have q := eqV_ok hT w h hs' 9990
  constructor
  · simp only [Sem.run_bind, run_eqGuard_agg w _ t ox oy xs ys hg, Result.andThen_ok, run_eql_struct, q]
  · simp only [Sem.run_bind, run_eqGuard_agg w _ t ox oy xs ys hg, Result.andThen_ok, run_neq_struct, q]
theorem OV_eqlV {t ty' : TypeId} {x y : Operand} {xs ys : Array Value} {b : Bool} (hx : evl l x = some (.agg xs)) (hy : evl l y = some (.agg ys)) (h : eqV C.ts 10 t (.agg xs) (.agg ys) = some b) (hs : (eqVIds C.ts 10 t).all (fun i => !C.P.stoodInHeld i) = true)
    (hg : C.P.eqGuardType C.P.depth t = false) : OV C l [] hh ⟨dst, .binOp .eql t x y ty', ty, pos, aft, gd⟩ (.bool b) :=
  ⟨rfl, fun a w hsl _ _ => by
    have := (run_eqV C.ok h hs hg w x y).1
    rw [Sem.run_bind] at this
    simp only [execOp, hsl.eval hx, hsl.eval hy, Sem.run_bind]
    rw [this]; rfl⟩
theorem OV_neqV {t ty' : TypeId} {x y : Operand} {xs ys : Array Value} {b : Bool} (hx : evl l x = some (.agg xs)) (hy : evl l y = some (.agg ys)) (h : eqV C.ts 10 t (.agg xs) (.agg ys) = some b) (hs : (eqVIds C.ts 10 t).all (fun i => !C.P.stoodInHeld i) = true)
    (hg : C.P.eqGuardType C.P.depth t = false) : OV C l [] hh ⟨dst, .binOp .neq t x y ty', ty, pos, aft, gd⟩ (.bool (!b)) :=
  ⟨rfl, fun a w hsl _ _ => by
    have := (run_eqV C.ok h hs hg w x y).2
    rw [Sem.run_bind] at this
    simp only [execOp, hsl.eval hx, hsl.eval hy, Sem.run_bind]
    rw [this]; rfl⟩

theorem OV_neqR {t ty' : TypeId} {x y : Operand} {xs : Array Value} (hx : evl l x = some (.agg xs)) (hy : evl l y = some (.agg xs)) (h : (eqV C.ts 10 t (.agg xs) (.agg xs)).isSome = true) (hs : (eqVIds C.ts 10 t).all (fun i => !C.P.stoodInHeld i) = true)
    (hg : C.P.eqGuardType C.P.depth t = false) : OV C l [] hh ⟨dst, .binOp .neq t x y ty', ty, pos, aft, gd⟩ (.bool false) := by
  obtain ⟨b, hb⟩ := Option.isSome_iff_exists.1 h
  have := eqV_refl hb; subst this
  exact OV_neqV hx hy hb hs hg
theorem OV_eqlR {t ty' : TypeId} {x y : Operand} {xs : Array Value} (hx : evl l x = some (.agg xs)) (hy : evl l y = some (.agg xs)) (h : (eqV C.ts 10 t (.agg xs) (.agg xs)).isSome = true) (hs : (eqVIds C.ts 10 t).all (fun i => !C.P.stoodInHeld i) = true)
    (hg : C.P.eqGuardType C.P.depth t = false) : OV C l [] hh ⟨dst, .binOp .eql t x y ty', ty, pos, aft, gd⟩ (.bool true) := by
  obtain ⟨b, hb⟩ := Option.isSome_iff_exists.1 h
  have := eqV_refl hb; subst this
  exact OV_eqlV hx hy hb hs hg
end
end Go.Hw

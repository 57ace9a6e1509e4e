import Derived.Test.YtbgjcjhodlmgjabDoorDN9
set_option linter.unusedVariables false
set_option linter.unusedSimpArgs false
set_option maxRecDepth 100000
set_option maxHeartbeats 8000000
namespace Go.Hw
open Go
attribute [local irreducible] GO GOl GDp Val Fn Res CellsAt ValE Blk OwnS MapA Yl
open Go.Proofs (Tryd.prog)

/-! ### Birthdays -/
theorem lenM_other {y y' m : Int} (h : m ≠ 2) : lenM y m = lenM y' m := by unfold lenM; rw [if_neg h, if_neg h]
theorem lenM_two (y : Int) : lenM y 2 = 28 ∨ lenM y 2 = 29 := by unfold lenM; by_cases h : leapP y <;> simp [h]
theorem date_prev {n : Int} (h0 : 1 ≤ n) (h1 : n ≤ 1048576) :
    (1 < dateD n ∧ dateY (n - 1) = dateY n ∧ dateM (n - 1) = dateM n ∧ dateD (n - 1) = dateD n - 1) ∨
    (dateD n = 1 ∧ 1 < dateM n ∧ dateY (n - 1) = dateY n ∧ dateM (n - 1) = dateM n - 1 ∧ dateD (n - 1) = lenM (dateY n) (dateM n - 1)) ∨
    (dateD n = 1 ∧ dateM n = 1 ∧ dateY (n - 1) = dateY n - 1 ∧ dateM (n - 1) = 12 ∧ dateD (n - 1) = 31) := by
  have hd := date_ok (show 0 ≤ n by omega) h1
  have e0 : ∀ {y m d}, IsDate (n - 1) y m d → dateY (n - 1) = y ∧ dateM (n - 1) = m ∧ dateD (n - 1) = d := fun k => by
    have := k.eq (by omega) (by omega); exact ⟨this.1.symm, this.2.1.symm, this.2.2.symm⟩
  have hlo := hd.lo; have hm1 := hd.m1; have hm2 := hd.m2; have hd1 := hd.d1; have hd2 := hd.d2
  by_cases hd3 : 1 < dateD n
  · exact .inl ⟨hd3, e0 ⟨by omega, hm1, hm2, by omega, by omega⟩⟩
  · have hde : dateD n = 1 := by omega
    by_cases hm3 : 1 < dateM n
    · have hs := mon_succ (dateY n) (dateM n - 1) (by omega) (by omega)
      rw [Int.sub_add_cancel] at hs
      have hl := lenM_pos (dateY n) (dateM n - 1)
      exact .inr (.inl ⟨hde, hm3, e0 ⟨by omega, by omega, by omega, by omega, by omega⟩⟩)
    · have hme : dateM n = 1 := by omega
      have hb := bef_succ (dateY n - 1)
      rw [Int.sub_add_cancel] at hb
      have hs : mon (dateY n - 1) 13 = mon (dateY n - 1) 12 + lenM (dateY n - 1) 12 := mon_succ (dateY n - 1) 12 (by omega) (by omega)
      have h13 := mon_13 (dateY n - 1)
      have hl : lenM (dateY n - 1) 12 = 31 := by unfold lenM; simp
      have h1 := mon_1 (dateY n)
      rw [hme] at hlo
      exact .inr (.inr ⟨hde, hme, e0 ⟨by omega, by omega, by omega, by omega, by omega⟩⟩)

/-- Is a day a birthday? -/
def bday (born day : Int) : Prop :=
  if dateM born = 2 ∧ dateD born = 29 ∧ dateM day = 3 ∧ dateD day = 1 then dateD (day - 1) = 28 else dateM day = dateM born ∧ dateD day = dateD born
instance (a b : Int) : Decidable (bday a b) := by unfold bday; infer_instance
theorem step_aux {y m d y2 m2 d2 y3 m3 e3 : Int} (b1 : 1 ≤ m) (b2 : m ≤ 12) (b3 : 1 ≤ d) (b4 : d ≤ lenM y m) (d1 : 1 ≤ m2) (d2' : m2 ≤ 12) (d3 : 1 ≤ d2)
    (hp : (1 < d2 ∧ y3 = y2 ∧ m3 = m2 ∧ e3 = d2 - 1) ∨ (d2 = 1 ∧ 1 < m2 ∧ y3 = y2 ∧ m3 = m2 - 1 ∧ e3 = lenM y2 (m2 - 1)) ∨ (d2 = 1 ∧ m2 = 1 ∧ y3 = y2 - 1 ∧ m3 = 12 ∧ e3 = 31)) :
    (y2 - y - if m2 < m ∨ m2 = m ∧ d2 < d then 1 else 0) = if (if m = 2 ∧ d = 29 ∧ m2 = 3 ∧ d2 = 1 then e3 = 28 else m2 = m ∧ d2 = d) then (y3 - y - if m3 < m ∨ m3 = m ∧ e3 < d then 1 else 0) + 1 else y3 - y - if m3 < m ∨ m3 = m ∧ e3 < d then 1 else 0 := by
  have hl1 := lenM_pos y m
  have hl4 : m ≠ 2 → lenM y m = lenM y2 m := lenM_other
  have hq : m = m2 - 1 → lenM y2 (m2 - 1) = lenM y2 m := fun e => by rw [e]
  have hr : m = 2 → (lenM y m = 28 ∨ lenM y m = 29) ∧ (lenM y2 m = 28 ∨ lenM y2 m = 29) := fun e => by rw [e]; exact ⟨lenM_two y, lenM_two y2⟩
  have hl5 := lenM_pos y2 (m2 - 1)
  generalize lenM y m = L1 at *
  generalize lenM y2 m = L2 at *
  generalize lenM y2 (m2 - 1) = L3 at *
  rcases hp with ⟨k1, k2, k3, k4⟩ | ⟨k1, k2, k3, k4, k5⟩ | ⟨k1, k2, k3, k4, k5⟩ <;> (repeat' split) <;> omega
theorem age_step {born day : Int} (h0 : 0 ≤ born) (h1 : born < day) (h2 : day ≤ 1048576) : ageOf born day = if bday born day then ageOf born (day - 1) + 1 else ageOf born (day - 1) := by
  have hb := date_ok h0 (show born ≤ 1048576 by omega)
  have hd := date_ok (show 0 ≤ day by omega) h2
  exact step_aux hb.m1 hb.m2 hb.d1 hb.d2 hd.m1 hd.m2 hd.d1 (date_prev (n := day) (by omega) h2)


theorem birthdays_w (hS : SortSaid) (hC : CompactSaid) (h : Ro) (hG : LenG h) (born day : Int) :
    Val Tryd.prog 5 #[.int .i64 born, .int .i64 day] h (.bool true) := by
  refine Val_intro (args := [_, _]) ts_ok Go.Proofs.Tryd.func5 rfl rfl fun w0 X0 => ?_
  generalize hp : (⟨0, born, false, 0⟩ : Per) = p
  have hpv : perV p = .agg #[.int .i64 0, .int .i64 born, .bool false, .int .i64 0] := by rw [← hp]; rfl
  have hf1 : ∀ d, Val Tryd.prog 10 #[.agg #[.int .i64 0, .int .i64 born, .bool false, .int .i64 0], .int .i64 d] h (ageR p d) := fun d => hpv ▸ age_c h hG p d
  by_cases hA : AgeOk p day
  · have g1 := hf1 day
    rw [show ageR p day = _ from if_pos hA] at g1
    have hpb : p.born = born := by rw [← hp]
    obtain ⟨⟨_, _, p3, p4, _, _⟩, A2, A3⟩ := hA
    have hP : PerOk p := by rw [← hp]; refine ⟨by dsimp only; omega, by dsimp only; omega, by dsimp only; omega, by dsimp only; omega, by dsimp only; omega, by dsimp only; omega⟩
    rw [hpb] at A2 p3 p4 g1
    by_cases hbd : day = born
    · have e0 : ageOf born day = 0 := by subst hbd; unfold ageOf; simp
      rw [e0] at g1
      repeat' (first | apply GO_seq | apply GO_skip | apply GO_region | apply GOl_nil | (apply GOl_pv; exact rfl; exact rfl; exact rfl) | (apply GOl_load; exact rfl; exact Ld_blk rfl (by (repeat (first | exact List.Mem.head _ | apply List.Mem.tail)); done) rfl; exact rfl; exact rfl) | (apply GOl_to; exact rfl; exact rfl; exact rfl; (first | (apply OpTo_store; exact rfl; exact rfl; exact rfl; exact (by (repeat (first | exact Repl.here | apply Repl.there)); done); exact rfl; exact rfl; exact rfl; skip) | (apply OpTo_alloc; exact rfl; intro b; skip) | (apply OpTo_val; exact rfl; exact has8; exact sane37_c hS hC _ hG; skip) | (apply OpTo_val; exact rfl; exact has10; exact g1; skip))) | (apply GO_cond; exact rfl; all_goals intro hc; all_goals try simp only [ltI_t, ltI_f, leI_t, leI_f, eqI_t, eqI_f, Bool.not_eq_true', Bool.not_eq_false', decide_eq_true_eq, decide_eq_false_iff_not, reduceCtorEq] at hc; all_goals try (exfalso; omega)) | (apply GO_retV1; exact rfl; exact rfl; exact rfl))
      all_goals first | rfl | (simp [eqI_eq]; done) | (simp at hc; done) | (exfalso; omega)
    · have g2 := hf1 (day - 1)
      rw [show ageR p (day - 1) = _ from if_pos ⟨hP, by rw [hpb]; omega, by omega⟩, hpb] at g2
      have hst := age_step p3 (show born < day by omega) A3
      have d1 := date_c h hG born
      have d2 := date_c h hG day
      have d3 := date_c h hG (day - 1)
      rw [show dateR born = _ from if_pos ⟨p3, by omega⟩] at d1
      rw [show dateR day = _ from if_pos ⟨by omega, A3⟩] at d2
      rw [show dateR (day - 1) = _ from if_pos ⟨by omega, by omega⟩] at d3
      have y1 := year_bd p3 p4
      have y2 := year_bd (show 0 ≤ day - 1 by omega) (by omega)
      have hab : -5000 ≤ ageOf born (day - 1) ∧ ageOf born (day - 1) ≤ 5000 := by unfold ageOf; split <;> omega
      unfold bday at hst
      generalize ageOf born day = a at *
      generalize ageOf born (day - 1) = b' at *
      repeat' (first | apply GO_seq | apply GO_skip | apply GO_region | apply GOl_nil | (apply GOl_unwanted; exact rfl; exact rfl) | (apply GOl_add; exact rfl; exact rfl; exact rfl; omega; exact rfl; exact rfl) | (apply GOl_sub; exact rfl; exact rfl; exact rfl; omega; exact rfl; exact rfl) | (apply GOl_pv; exact rfl; exact rfl; exact rfl) | (apply GOl_load; exact rfl; exact Ld_blk rfl (by (repeat (first | exact List.Mem.head _ | apply List.Mem.tail)); done) rfl; exact rfl; exact rfl) | (apply GOl_to; exact rfl; exact rfl; exact rfl; (first | (apply OpTo_store; exact rfl; exact rfl; exact rfl; exact (by (repeat (first | exact Repl.here | apply Repl.there)); done); exact rfl; exact rfl; exact rfl; skip) | (apply OpTo_alloc; exact rfl; intro b; skip) | (apply OpTo_val; exact rfl; exact has8; exact sane37_c hS hC _ hG; skip) | (apply OpTo_val; exact rfl; exact has10; (first | exact g1 | exact g2); skip) | (apply OpTo_val; exact rfl; exact has18; (first | exact d1 | exact d2 | exact d3); skip))) | (apply GO_cond; exact rfl; all_goals intro hc; all_goals try simp only [ltI_t, ltI_f, leI_t, leI_f, eqI_t, eqI_f, Bool.not_eq_true', Bool.not_eq_false', decide_eq_true_eq, decide_eq_false_iff_not, reduceCtorEq] at hc; all_goals try (exfalso; omega)) | (apply GOl_split; exact rfl; exact rfl; all_goals intro hc; all_goals try simp only [ltI_t, ltI_f, leI_t, leI_f, eqI_t, eqI_f, Bool.not_eq_true', Bool.not_eq_false', decide_eq_true_eq, decide_eq_false_iff_not, reduceCtorEq] at hc; all_goals try (exfalso; omega)) | (apply GO_retV1; exact rfl; exact rfl; exact rfl))
      all_goals first
        | (simp at hc; done)
        | (simp only [eqI_eq, Value.bool.injEq, decide_eq_true_eq] at *; split at hst <;> omega)
        | (simp only [eqI_eq, Value.bool.injEq, decide_eq_true_eq, decide_eq_false_iff_not, Bool.false_eq_true, reduceCtorEq] at *; split at hst <;> (try split at hst) <;> omega)
       
  · have g1 := hf1 day
    rw [show ageR p day = _ from if_neg hA] at g1
    repeat' (first | apply GO_seq | apply GO_skip | apply GO_region | apply GOl_nil | (apply GOl_pv; exact rfl; exact rfl; exact rfl) | (apply GOl_load; exact rfl; exact Ld_blk rfl (by (repeat (first | exact List.Mem.head _ | apply List.Mem.tail)); done) rfl; exact rfl; exact rfl) | (apply GOl_to; exact rfl; exact rfl; exact rfl; (first | (apply OpTo_store; exact rfl; exact rfl; exact rfl; exact (by (repeat (first | exact Repl.here | apply Repl.there)); done); exact rfl; exact rfl; exact rfl; skip) | (apply OpTo_alloc; exact rfl; intro b; skip) | (apply OpTo_val; exact rfl; exact has8; exact sane37_c hS hC _ hG; skip) | (apply OpTo_val; exact rfl; exact has10; exact g1; skip))) | (apply GO_cond; exact rfl; all_goals intro hc; all_goals try simp only [ltI_t, ltI_f, leI_t, leI_f, eqI_t, eqI_f, Bool.not_eq_true', Bool.not_eq_false', decide_eq_true_eq, decide_eq_false_iff_not, reduceCtorEq] at hc; all_goals try (exfalso; omega)) | (apply GO_retV1; exact rfl; exact rfl; exact rfl))
    all_goals first | rfl | (simp [eqI_eq]; done) | (simp at hc; done) | (exfalso; omega)
end Go.Hw

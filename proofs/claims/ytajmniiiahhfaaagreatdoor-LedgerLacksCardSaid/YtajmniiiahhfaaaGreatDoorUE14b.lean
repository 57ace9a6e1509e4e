import Derived.Test.YtajmniiiahhfaaaGreatDoorED
import Derived.Test.YtajmniiiahhfaaaGreatDoorEB
/-
  law08: Days, walked.
-/
set_option linter.unusedVariables false
set_option linter.unusedSimpArgs false
set_option maxRecDepth 100000
set_option maxHeartbeats 8000000
namespace Go.Hw
open Go
attribute [local irreducible] GO GOl GDp Val Fn Res CellsAt ValE Blk OwnS MapA OwnPf Has Yl idF
open Go.Proofs (Tryz.prog)

open Classical in
theorem knownL_ok {l : List Fct} (k : Int) (h : LedOk l) : LedOk (knownL l k) := by
  refine ⟨?_, fun f hf => h.2.1 f ?_, sortF_filter h.2.2 _⟩
  · have : (knownL l k).length ≤ l.length := List.length_filter_le _ _
    have := h.1
    omega
  · unfold knownL at hf; exact (List.mem_filter.1 hf).1
theorem knownE_ok {l : List Fct} {k : Int} (h : LedOk l) (hk : 0 ≤ k ∧ k ≤ 1048576) : knownE l k = (knownL l k, 0) := by
  unfold knownE; rw [if_neg (by rw [ledE_zero.2 h]; omega), if_neg (fun q => q hk)]
theorem knownE_no {l : List Fct} {k : Int} (h : LedOk l) (hk : ¬ (0 ≤ k ∧ k ≤ 1048576)) : knownE l k = ([], 1) := by
  unfold knownE; rw [if_neg (by rw [ledE_zero.2 h]; omega), if_pos hk]
theorem viewE_ok {l : List Fct} {d k : Int} (h : LedOk l) (hd : 0 ≤ d ∧ d ≤ 1048576) (hk : 0 ≤ k ∧ k ≤ 1048576) : viewE l d k = (viewL idF l d k, 0) := by
  unfold viewE; rw [if_neg (by rw [ledE_zero.2 h]; omega), if_neg (by omega)]
theorem viewE_no {l : List Fct} {d k : Int} (h : LedOk l) (hd : ¬ (0 ≤ d ∧ d ≤ 1048576) ∨ ¬ (0 ≤ k ∧ k ≤ 1048576)) : viewE l d k = ([], 1) := by
  unfold viewE; rw [if_neg (by rw [ledE_zero.2 h]; omega), if_pos hd]

/-- Known of a good ledger. -/
theorem known_ok (h : Ro) (hG : PowG h) (A : Option Addr) (n c : Nat) (l : List (Fsh × Fct)) (hx : FactsAt h A n l) (hok : LedOk (fcs l)) (k : Int) : Res Tryz.prog 43 #[ledV A n c, .int .i64 k] h (fun u h' => ∃ A k' c' l', u = .tuple #[ledV A k' c', .int .i64 (if 0 ≤ k ∧ k ≤ 1048576 then 0 else 1)] ∧ k' ≤ c' ∧ FactsAt h' A k' l' ∧ fcs l' = if 0 ≤ k ∧ k ≤ 1048576 then knownL (fcs l) k else []) := by
  refine (knownLed_c h hG A n c l hx k).mono ?_
  rintro u h2 _ ⟨v, rfl, A9, k9, c9, l9, rfl, hkc, hla, hf⟩
  refine ⟨A9, k9, c9, l9, ?_, hkc, hla.facts, ?_⟩
  · by_cases hk : 0 ≤ k ∧ k ≤ 1048576
    · rw [knownE_ok hok hk, if_pos hk]
    · rw [knownE_no hok hk, if_neg hk]
  · rw [hf]
    by_cases hk : 0 ≤ k ∧ k ≤ 1048576
    · rw [knownE_ok hok hk, if_pos hk]
    · rw [knownE_no hok hk, if_neg hk]
theorem view_ok (h : Ro) (hG : PowG h) (A : Option Addr) (n c : Nat) (l : List (Fsh × Fct)) (hx : FactsAt h A n l) (hok : LedOk (fcs l)) (d k : Int) : Res Tryz.prog 37 #[ledV A n c, .int .i64 d, .int .i64 k] h (fun u h' => ∃ A k' c' l', u = .tuple #[.slice A k' c', .int .i64 (viewE (fcs l) d k).2] ∧ k' ≤ c' ∧ FactsAt h' A k' l' ∧ fcs l' = (viewE (fcs l) d k).1) := view_c h hG A n c l hx d k

open Classical in


theorem days_law (h : Ro) (hG : PowG h) (A : Option Addr) (n c : Nat) (l : List (Fsh × Fct)) (hx : LedIn h A n c l) (day one two : Int) : Val Tryz.prog 11 #[ledV A n c, .int .i64 day, .int .i64 one, .int .i64 two] h (.bool true) := by
  refine Val_intro (args := [_, _, _, _]) ts_ok Go.Proofs.Tryz.func11 rfl rfl fun w0 X0 => ?_
  have hsane := sane8_c h hG
  have hrow := hx.row
  have hsm := hx.small
  obtain ⟨e, he⟩ : ∃ e, e = ledE (fcs l) := ⟨_, rfl⟩
  have hck : (n : Int) ≤ 14 → ∀ h', Le h h' → Res Tryz.prog 35 #[ledV A n c] h' (fun u _ => u = .int .i64 e) := fun hn h' hl => by rw [he]; exact checkL_c h' (hG.le hl) A n c l ((hx.facts hn).le hl)
  by_cases h0 : e = 0
  · have hok := ledE_zero.1 (he ▸ h0)
    have hkn := fun (hn : (n : Int) ≤ 14) (k : Int) (h' : Ro) (hl : Le h h') => known_ok h' (hG.le hl) A n c l ((hx.facts hn).le hl) hok k
    have hvw := fun (hn : (n : Int) ≤ 14) (h' : Ro) (hl : Le h h') => view_ok h' (hG.le hl) A n c l ((hx.facts hn).le hl) hok day one
    by_cases h1 : 0 ≤ one ∧ one ≤ 1048576
    · have hk1 := fun hn => hkn hn one
      simp only [if_pos h1] at hk1
      have hok3 : ∀ l3 : List (Fsh × Fct), fcs l3 = knownL (fcs l) one → LedOk (fcs l3) := fun l3 e3 => by rw [e3]; exact knownL_ok one hok
      have hk2 := fun (h' : Ro) (hl : Le h h') (A3 : Option Addr) (k3 c3 : Nat) (l3 : List (Fsh × Fct)) (hx3 : FactsAt h' A3 k3 l3) (e3 : fcs l3 = knownL (fcs l) one) => known_ok h' (hG.le hl) A3 k3 c3 l3 hx3 (hok3 l3 e3) two
      have hv2 := fun (h' : Ro) (hl : Le h h') (A3 : Option Addr) (k3 c3 : Nat) (l3 : List (Fsh × Fct)) (hx3 : FactsAt h' A3 k3 l3) (e3 : fcs l3 = knownL (fcs l) one) (m : Int) => view_ok h' (hG.le hl) A3 k3 c3 l3 hx3 (hok3 l3 e3) day m
      by_cases h2 : 0 ≤ two ∧ two ≤ 1048576
      · have hkm := fun hn => hkn hn (min one two)
        simp only [if_pos (show 0 ≤ min one two ∧ min one two ≤ 1048576 by omega)] at hkm
        simp only [if_pos h2] at hk2
        have ho : viewE (fcs l) day one = if 0 ≤ day ∧ day ≤ 1048576 then (viewL idF (fcs l) day one, 0) else ([], 1) := by
          by_cases hd : 0 ≤ day ∧ day ≤ 1048576
          · rw [if_pos hd, viewE_ok hok hd h1]
          · rw [if_neg hd, viewE_no hok (.inl hd)]
        have hm : viewE (knownL (fcs l) one) day (max one two) = viewE (fcs l) day one := by
          rw [ho]
          by_cases hd : 0 ≤ day ∧ day ≤ 1048576
          · rw [if_pos hd, viewE_ok (knownL_ok one hok) hd (by omega), viewL_known]
          · rw [if_neg hd, viewE_no (knownL_ok one hok) (.inl hd)]
        repeat' (first | apply GO_seq | apply GO_skip | apply GO_region | apply GOl_nil | (apply GOl_min; exact rfl; exact rfl; exact rfl; intro wn hwn) | (apply GOl_max; exact rfl; exact rfl; exact rfl; intro wx hwx) | (apply GOl_unwanted; exact rfl; exact rfl) | (apply GOl_pv; exact rfl; exact rfl; exact rfl) | (apply GOl_load; exact rfl; exact Ld_blk rfl (by (repeat (first | exact List.Mem.head _ | apply List.Mem.tail)); done) rfl; exact rfl; exact rfl) | (apply GOl_to; exact rfl; exact rfl; exact rfl; (first | (apply OpTo_store; exact rfl; exact rfl; exact rfl; exact (by (repeat (first | exact Repl.here | apply Repl.there)); done); exact rfl; exact rfl; exact rfl; skip) | (apply OpTo_box; exact rfl; intro b; skip) | (apply OpTo_alloc; exact rfl; intro b; skip) | (apply OpTo_val; exact rfl; exact has30; exact hsane; skip) | (apply OpTo_res; exact rfl; exact has31; exact few8_c _ A n c l (hrow.le (by first | exact Le.refl _ | assumption | (repeat (first | assumption | (apply Le.trans; assumption))))) hsm 14; rintro w1 h1 hle1 ⟨b, rfl, hb⟩; cases b; all_goals skip) | (apply OpTo_res; exact rfl; exact has35; exact hck (hb rfl) _ (by first | exact Le.refl _ | assumption | (repeat (first | assumption | (apply Le.trans; assumption)))); rintro w2 h2 hle2 rfl; skip) | (apply OpTo_res; exact rfl; exact has43; exact hk1 (hb rfl) _ (by first | exact Le.refl _ | assumption | (repeat (first | assumption | (apply Le.trans; assumption)))); rintro w3 h3 hle3 ⟨A3, k3, c3, l3, rfl, hk3, hx3, hf3⟩; skip) | (apply OpTo_res; exact rfl; exact has43; exact hk2 _ (by first | exact Le.refl _ | assumption | (repeat (first | assumption | (apply Le.trans; assumption)))) _ _ _ l3 (hx3.le (by first | exact Le.refl _ | assumption | (repeat (first | assumption | (apply Le.trans; assumption))))) hf3; rintro w4 h4 hle4 ⟨A4, k4, c4, l4, rfl, hk4, hx4, hf4⟩; skip) | (subst hwn; apply OpTo_res; exact rfl; exact has43; exact hkm (hb rfl) _ (by first | exact Le.refl _ | assumption | (repeat (first | assumption | (apply Le.trans; assumption)))); rintro w5 h5 hle5 ⟨A5, k5, c5, l5, rfl, hk5, hx5, hf5⟩; skip) | (apply OpTo_res; exact rfl; exact has37; exact hvw (hb rfl) _ (by first | exact Le.refl _ | assumption | (repeat (first | assumption | (apply Le.trans; assumption)))); rintro w6 h6 hle6 ⟨A6, k6, c6, l6, rfl, hk6, hx6, hf6⟩; skip) | (subst hwx; apply OpTo_res; exact rfl; exact has37; exact hv2 _ (by first | exact Le.refl _ | assumption | (repeat (first | assumption | (apply Le.trans; assumption)))) _ _ _ l3 (hx3.le (by first | exact Le.refl _ | assumption | (repeat (first | assumption | (apply Le.trans; assumption))))) hf3 _; rintro w7 h7 hle7 ⟨A7, k7, c7, l7, rfl, hk7, hx7, hf7⟩; skip) | (apply OpTo_val; exact rfl; exact has34; exact same8_c _ _ _ _ l4 (hx4.le (by first | exact Le.refl _ | assumption | (repeat (first | assumption | (apply Le.trans; assumption))))) _ _ _ l5 (hx5.le (by first | exact Le.refl _ | assumption | (repeat (first | assumption | (apply Le.trans; assumption))))); skip) | (apply OpTo_val; exact rfl; exact has46; exact sameL_c _ _ _ _ l6 (hx6.le (by first | exact Le.refl _ | assumption | (repeat (first | assumption | (apply Le.trans; assumption))))) _ _ _ l7 (hx7.le (by first | exact Le.refl _ | assumption | (repeat (first | assumption | (apply Le.trans; assumption))))); skip))) | (apply GO_cond; exact rfl; all_goals intro hc; all_goals try simp only [ltI_t, ltI_f, leI_t, leI_f, eqI_t, eqI_f, Bool.not_eq_true', Bool.not_eq_false', decide_eq_true_eq, decide_eq_false_iff_not, reduceCtorEq] at hc; all_goals try (exfalso; omega)) | (apply GOl_split; exact rfl; exact rfl; all_goals intro hc; all_goals try simp only [ltI_t, ltI_f, leI_t, leI_f, eqI_t, eqI_f, Bool.not_eq_true', Bool.not_eq_false', decide_eq_true_eq, decide_eq_false_iff_not, reduceCtorEq] at hc; all_goals try (exfalso; omega)) | (apply GO_retV1; exact rfl; exact rfl; exact rfl))
        all_goals first
          | rfl
          | (rw [hf3, hm] at hf7; rw [decide_eq_true (hf6.trans hf7.symm)])
          | (exfalso; exact hc (by rw [hf3, hm]))
          | (exfalso; exact hc (by rw [hf4, hf5, hf3, knownL_two]))
      · simp only [if_neg h2] at hk2
        repeat' (first | apply GO_seq | apply GO_skip | apply GO_region | apply GOl_nil | (apply GOl_min; exact rfl; exact rfl; exact rfl; intro wn hwn) | (apply GOl_unwanted; exact rfl; exact rfl) | (apply GOl_pv; exact rfl; exact rfl; exact rfl) | (apply GOl_load; exact rfl; exact Ld_blk rfl (by (repeat (first | exact List.Mem.head _ | apply List.Mem.tail)); done) rfl; exact rfl; exact rfl) | (apply GOl_to; exact rfl; exact rfl; exact rfl; (first | (apply OpTo_store; exact rfl; exact rfl; exact rfl; exact (by (repeat (first | exact Repl.here | apply Repl.there)); done); exact rfl; exact rfl; exact rfl; skip) | (apply OpTo_box; exact rfl; intro b; skip) | (apply OpTo_alloc; exact rfl; intro b; skip) | (apply OpTo_val; exact rfl; exact has30; exact hsane; skip) | (apply OpTo_res; exact rfl; exact has31; exact few8_c _ A n c l (hrow.le (by first | exact Le.refl _ | assumption | (repeat (first | assumption | (apply Le.trans; assumption))))) hsm 14; rintro w1 h1 hle1 ⟨b, rfl, hb⟩; cases b; all_goals skip) | (apply OpTo_res; exact rfl; exact has35; exact hck (hb rfl) _ (by first | exact Le.refl _ | assumption | (repeat (first | assumption | (apply Le.trans; assumption)))); rintro w2 h2 hle2 rfl; skip) | (apply OpTo_res; exact rfl; exact has43; exact hk1 (hb rfl) _ (by first | exact Le.refl _ | assumption | (repeat (first | assumption | (apply Le.trans; assumption)))); rintro w3 h3 hle3 ⟨A3, k3, c3, l3, rfl, hk3, hx3, hf3⟩; skip) | (apply OpTo_res; exact rfl; exact has43; exact hk2 _ (by first | exact Le.refl _ | assumption | (repeat (first | assumption | (apply Le.trans; assumption)))) _ _ _ l3 (hx3.le (by first | exact Le.refl _ | assumption | (repeat (first | assumption | (apply Le.trans; assumption))))) hf3; rintro w4 h4 hle4 ⟨A4, k4, c4, l4, rfl, hk4, hx4, hf4⟩; skip) | (apply OpTo_res; exact rfl; exact has43; exact hkn (hb rfl) wn _ (by first | exact Le.refl _ | assumption | (repeat (first | assumption | (apply Le.trans; assumption)))); rintro w5 h5 hle5 ⟨A5, k5, c5, l5, rfl, hk5, hx5, hf5⟩; skip))) | (apply GO_cond; exact rfl; all_goals intro hc; all_goals try simp only [ltI_t, ltI_f, leI_t, leI_f, eqI_t, eqI_f, Bool.not_eq_true', Bool.not_eq_false', decide_eq_true_eq, decide_eq_false_iff_not, reduceCtorEq] at hc; all_goals try (exfalso; omega)) | (apply GOl_split; exact rfl; exact rfl; all_goals intro hc; all_goals try simp only [ltI_t, ltI_f, leI_t, leI_f, eqI_t, eqI_f, Bool.not_eq_true', Bool.not_eq_false', decide_eq_true_eq, decide_eq_false_iff_not, reduceCtorEq] at hc; all_goals try (exfalso; omega)) | (apply GO_retV1; exact rfl; exact rfl; exact rfl))
        all_goals first
          | rfl
          | exact congrArg Value.bool ((ltI_t _ _).mpr (by omega))
    · have hk1 := fun hn => hkn hn one
      simp only [if_neg h1] at hk1
      repeat' (first | apply GO_seq | apply GO_skip | apply GO_region | apply GOl_nil | (apply GOl_unwanted; exact rfl; exact rfl) | (apply GOl_pv; exact rfl; exact rfl; exact rfl) | (apply GOl_load; exact rfl; exact Ld_blk rfl (by (repeat (first | exact List.Mem.head _ | apply List.Mem.tail)); done) rfl; exact rfl; exact rfl) | (apply GOl_to; exact rfl; exact rfl; exact rfl; (first | (apply OpTo_store; exact rfl; exact rfl; exact rfl; exact (by (repeat (first | exact Repl.here | apply Repl.there)); done); exact rfl; exact rfl; exact rfl; skip) | (apply OpTo_box; exact rfl; intro b; skip) | (apply OpTo_alloc; exact rfl; intro b; skip) | (apply OpTo_val; exact rfl; exact has30; exact hsane; skip) | (apply OpTo_res; exact rfl; exact has31; exact few8_c _ A n c l (hrow.le (by first | exact Le.refl _ | assumption | (repeat (first | assumption | (apply Le.trans; assumption))))) hsm 14; rintro w1 h1 hle1 ⟨b, rfl, hb⟩; cases b; all_goals skip) | (apply OpTo_res; exact rfl; exact has35; exact hck (hb rfl) _ (by first | exact Le.refl _ | assumption | (repeat (first | assumption | (apply Le.trans; assumption)))); rintro w2 h2 hle2 rfl; skip) | (apply OpTo_res; exact rfl; exact has43; exact hk1 (hb rfl) _ (by first | exact Le.refl _ | assumption | (repeat (first | assumption | (apply Le.trans; assumption)))); rintro w3 h3 hle3 ⟨A3, k3, c3, l3, rfl, hk3, hx3, hf3⟩; (have hz3 : k3 = 0 := (by have := hx3.len; rw [hf3] at this; exact this.symm)); subst hz3; skip))) | (apply GO_cond; exact rfl; all_goals intro hc; all_goals try simp only [ltI_t, ltI_f, leI_t, leI_f, eqI_t, eqI_f, Bool.not_eq_true', Bool.not_eq_false', decide_eq_true_eq, decide_eq_false_iff_not, reduceCtorEq] at hc; all_goals try (exfalso; omega)) | (apply GOl_split; exact rfl; exact rfl; all_goals intro hc; all_goals try simp only [ltI_t, ltI_f, leI_t, leI_f, eqI_t, eqI_f, Bool.not_eq_true', Bool.not_eq_false', decide_eq_true_eq, decide_eq_false_iff_not, reduceCtorEq] at hc; all_goals try (exfalso; omega)) | (apply GO_retV1; exact rfl; exact rfl; exact rfl))
      all_goals first
        | rfl
        | exact congrArg Value.bool ((ltI_t _ _).mpr (by omega))
  · repeat' (first | apply GO_seq | apply GO_skip | apply GO_region | apply GOl_nil | (apply GOl_unwanted; exact rfl; exact rfl) | (apply GOl_pv; exact rfl; exact rfl; exact rfl) | (apply GOl_load; exact rfl; exact Ld_blk rfl (by (repeat (first | exact List.Mem.head _ | apply List.Mem.tail)); done) rfl; exact rfl; exact rfl) | (apply GOl_to; exact rfl; exact rfl; exact rfl; (first | (apply OpTo_box; exact rfl; intro b; skip) | (apply OpTo_val; exact rfl; exact has30; exact hsane; skip) | (apply OpTo_res; exact rfl; exact has31; exact few8_c _ A n c l (hrow.le (by first | exact Le.refl _ | assumption | (repeat (first | assumption | (apply Le.trans; assumption))))) hsm 14; rintro w1 h1 hle1 ⟨b, rfl, hb⟩; cases b; all_goals skip) | (apply OpTo_res; exact rfl; exact has35; exact hck (hb rfl) _ (by first | exact Le.refl _ | assumption | (repeat (first | assumption | (apply Le.trans; assumption)))); rintro w2 h2 hle2 rfl; skip))) | (apply GO_cond; exact rfl; all_goals intro hc; all_goals try simp only [ltI_t, ltI_f, leI_t, leI_f, eqI_t, eqI_f, Bool.not_eq_true', Bool.not_eq_false', decide_eq_true_eq, decide_eq_false_iff_not, reduceCtorEq] at hc; all_goals try (exfalso; omega)) | (apply GO_retV1; exact rfl; exact rfl; exact rfl))
    all_goals first
        | rfl
        | exact congrArg Value.bool ((ltI_t _ _).mpr (by omega))
end Go.Hw

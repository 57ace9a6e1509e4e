import Derived.Test.YtajmniiiahhfaaaGreatDoorUE14b
/-
  law08: Later, walked.
-/
set_option linter.unusedVariables false
set_option linter.unusedSimpArgs false
set_option maxRecDepth 100000
set_option maxHeartbeats 8000000
namespace Go.Hw
open Go
attribute [local irreducible] GO GOl GDp Val Fn Res CellsAt ValE Blk OwnS MapA OwnPf Has Yl idF
open Go.Proofs (Tryz.prog)

theorem union_ok {l : List Fct} {f : Fct} (h32 : In32 l) (hv : f.void.length = 32) (hok : LedOk l) (hf : FctOk f) (hn : l.length ≤ 14) : LedOk (unionL l [f]) ∧ (unionL l [f]).length ≤ 15 := by
  have h2 : In32 [f] := fun y hy => by rw [List.mem_singleton] at hy; subst hy; exact hv
  obtain ⟨q1, q2⟩ := unionL_spec h32 h2
  have hl := unionL_len h32 h2 hok.2.1 (fun y hy => by rw [List.mem_singleton] at hy; subst hy; exact hf) hok.2.2 (List.pairwise_singleton _ _)
  have hm : (missL l [f]).length ≤ 1 := List.length_filter_le _ _
  exact ⟨⟨by omega, fun y hy => ((q2 y).1 hy).2, q1⟩, by omega⟩
theorem later_known {l : List Fct} {f : Fct} {k : Int} (h32 : In32 l) (hv : f.void.length = 32) (hok : LedOk l) (hf : FctOk f) (hn : l.length ≤ 14) (hk : k < f.known) : (if 0 ≤ k ∧ k ≤ 1048576 then knownL (unionL l [f]) k else []) = if 0 ≤ k ∧ k ≤ 1048576 then knownL l k else [] := by
  split
  · exact knownL_later h32 hv hok.2.1 hok.2.2 hk
  · rfl
theorem later_view {l : List Fct} {f : Fct} {d k : Int} (h32 : In32 l) (hv : f.void.length = 32) (hok : LedOk l) (hf : FctOk f) (hn : l.length ≤ 14) (hk : k < f.known) : viewE (unionL l [f]) d k = viewE l d k := by
  have ho2 := (union_ok h32 hv hok hf hn).1
  by_cases hd : (0 ≤ d ∧ d ≤ 1048576) ∧ (0 ≤ k ∧ k ≤ 1048576)
  · rw [viewE_ok ho2 hd.1 hd.2, viewE_ok hok hd.1 hd.2, viewL_later h32 hv hok.2.1 hok.2.2 hk]
  · rw [viewE_no ho2 (by omega), viewE_no hok (by omega)]
theorem In32_of {h : Ro} {l : List (Fsh × Fct)} (hf : ∀ p ∈ l, FAt h p.1 p.2 ∧ FSm p.2) : In32 (fcs l) := fun f hf2 => by
  obtain ⟨p, hp, rfl⟩ := List.mem_map.1 hf2
  exact (hf p hp).1.void

open Classical in


theorem later_law (h : Ro) (hG : PowG h) (A : Option Addr) (n c : Nat) (l : List (Fsh × Fct)) (hx : LedIn h A n c l) (s : Fsh) (f : Fct) (hf : FAt h s f) (hs : FSm f) (day known : Int) : Val Tryz.prog 10 #[ledV A n c, factV s f, .int .i64 day, .int .i64 known] h (.bool true) := by
  refine Val_intro (args := [_, _, _, _]) ts_ok Go.Proofs.Tryz.func10 rfl rfl fun w0 X0 => ?_
  have hsane := sane8_c h hG
  have hrow := hx.row
  have hsm := hx.small
  have hlen := hx.row.len
  have h32 : In32 (fcs l) := In32_of hx.fat
  have hv := hf.void
  by_cases hkf : f.known ≤ known
  · repeat' (first | apply GO_seq | apply GO_skip | apply GO_region | apply GOl_nil | (apply GOl_unwanted; exact rfl; exact rfl) | (apply GOl_pv; exact rfl; exact rfl; exact rfl) | (apply GOl_load; exact rfl; exact Ld_blk rfl (by (repeat (first | exact List.Mem.head _ | apply List.Mem.tail)); done) rfl; exact rfl; exact rfl) | (apply GOl_to; exact rfl; exact rfl; exact rfl; (first | (apply OpTo_box; exact rfl; intro b; skip) | (apply OpTo_val; exact rfl; exact has30; exact hsane; skip) | (apply OpTo_buildSliceS (enc := encF82) (n := 1) [(s, f)]; exact rfl; exact rfl; exact rfl; exact List.cons_ne_nil _ _; exact rfl; exact rfl; exact rfl; exact rfl; exact encF82_len; exact rfl; exact rfl; intro b5 h5 hle5 hs5; skip) | (apply OpTo_res; exact rfl; exact has31; exact few8_c _ A n c l (hrow.le (by first | exact Le.refl _ | assumption | (repeat (first | assumption | (apply Le.trans; assumption))))) hsm 14; rintro w1 h1 hle1 ⟨b, rfl, hb⟩; cases b; all_goals skip) | (apply OpTo_res; exact rfl; exact has31; exact few8_c _ _ 1 1 [(s, f)] (hs5.le (by first | exact Le.refl _ | assumption | (repeat (first | assumption | (apply Le.trans; assumption))))) (by omega) 1; rintro w1 h1 hle1 ⟨b, rfl, hb2⟩; cases b; all_goals skip))) | (apply GO_cond; exact rfl; all_goals intro hc; all_goals try simp only [ltI_t, ltI_f, leI_t, leI_f, eqI_t, eqI_f, Bool.not_eq_true', Bool.not_eq_false', decide_eq_true_eq, decide_eq_false_iff_not, reduceCtorEq] at hc; all_goals try (exfalso; omega)) | (apply GO_retV1; exact rfl; exact rfl; exact rfl))
    all_goals first
      | rfl
     
  · by_cases h0 : LedOk (fcs l) ∧ FctOk f
    · obtain ⟨hok, hfo⟩ := h0
      have had : (n : Int) ≤ 14 → ∀ h', Le h h' → Res Tryz.prog 41 #[ledV A n c, factV s f] h' (fun u h2 => ∃ A2 k2 c2 l2 bl, u = .tuple #[ledV A2 k2 c2, .bool bl, .int .i64 0] ∧ FactsAt h2 A2 k2 l2 ∧ fcs l2 = unionL (fcs l) [f]) := fun hn h' hl => by
        have ha := hx.facts hn
        have hl1 := ha.len
        obtain ⟨q1, q2⟩ := union_ok h32 hv hok hfo (by omega)
        refine (addLed_c h' (hG.le hl) A n c l (ha.le hl) hx.cap s f (hf.le hl) hs).mono ?_
        rintro u h2 _ ⟨v, rfl, A9, k, c9, l9, rfl, hkc, hla, hf9⟩
        by_cases hin : f ∈ fcs l
        · have e : addL (fcs l) f = (fcs l, false, 0) := by
            unfold addL; rw [if_neg (by rw [ledE_zero.2 hok]; omega), if_neg (fun q => q hfo), if_pos hin]
          rw [e] at hf9 ⊢
          exact ⟨A9, k, c9, l9, false, rfl, hla.facts, by rw [hf9, unionL_in h32 hok.2.1 hok.2.2 hin]⟩
        · have e : addL (fcs l) f = (unionL (fcs l) [f], true, 0) := by
            unfold addL; rw [if_neg (by rw [ledE_zero.2 hok]; omega), if_neg (fun q => q hfo), if_neg hin, lim1 _ (by omega)]; rfl
          rw [e] at hf9 ⊢
          exact ⟨A9, k, c9, l9, true, rfl, hla.facts, hf9⟩
      have hvw := fun (hn : (n : Int) ≤ 14) (h' : Ro) (hl : Le h h') => view_ok h' (hG.le hl) A n c l ((hx.facts hn).le hl) hok day known
      have hkn := fun (hn : (n : Int) ≤ 14) (h' : Ro) (hl : Le h h') => known_ok h' (hG.le hl) A n c l ((hx.facts hn).le hl) hok known
      have ho2 : (n : Int) ≤ 14 → LedOk (unionL (fcs l) [f]) := fun hn => (union_ok h32 hv hok hfo (by have := (hx.facts hn).len; omega)).1
      have hv2 := fun (hn : (n : Int) ≤ 14) (h' : Ro) (hl : Le h h') (A2 : Option Addr) (k2 c2 : Nat) (l2 : List (Fsh × Fct)) (hx2 : FactsAt h' A2 k2 l2) (e2 : fcs l2 = unionL (fcs l) [f]) => view_ok h' (hG.le hl) A2 k2 c2 l2 hx2 (by rw [e2]; exact ho2 hn) day known
      have hk2 := fun (hn : (n : Int) ≤ 14) (h' : Ro) (hl : Le h h') (A2 : Option Addr) (k2 c2 : Nat) (l2 : List (Fsh × Fct)) (hx2 : FactsAt h' A2 k2 l2) (e2 : fcs l2 = unionL (fcs l) [f]) => known_ok h' (hG.le hl) A2 k2 c2 l2 hx2 (by rw [e2]; exact ho2 hn) known
      have lv : (n : Int) ≤ 14 → viewE (unionL (fcs l) [f]) day known = viewE (fcs l) day known := fun hn => later_view h32 hv hok hfo (by have := (hx.facts hn).len; omega) (by omega)
      have lk : (n : Int) ≤ 14 → (if 0 ≤ known ∧ known ≤ 1048576 then knownL (unionL (fcs l) [f]) known else []) = if 0 ≤ known ∧ known ≤ 1048576 then knownL (fcs l) known else [] := fun hn => later_known h32 hv hok hfo (by have := (hx.facts hn).len; omega) (by omega)
      repeat' (first | apply GO_seq | apply GO_skip | apply GO_region | apply GOl_nil | (apply GOl_unwanted; exact rfl; exact rfl) | (apply GOl_pv; exact rfl; exact rfl; exact rfl) | (apply GOl_load; exact rfl; exact Ld_blk rfl (by (repeat (first | exact List.Mem.head _ | apply List.Mem.tail)); done) rfl; exact rfl; exact rfl) | (apply GOl_to; exact rfl; exact rfl; exact rfl; (first | (apply OpTo_store; exact rfl; exact rfl; exact rfl; exact (by (repeat (first | exact Repl.here | apply Repl.there)); done); exact rfl; exact rfl; exact rfl; skip) | (apply OpTo_box; exact rfl; intro b; skip) | (apply OpTo_alloc; exact rfl; intro b; skip) | (apply OpTo_val; exact rfl; exact has30; exact hsane; skip) | (apply OpTo_buildSliceS (enc := encF82) (n := 1) [(s, f)]; exact rfl; exact rfl; exact rfl; exact List.cons_ne_nil _ _; exact rfl; exact rfl; exact rfl; exact rfl; exact encF82_len; exact rfl; exact rfl; intro b5 h5 hle5 hs5; skip) | (apply OpTo_res; exact rfl; exact has31; exact few8_c _ A n c l (hrow.le (by first | exact Le.refl _ | assumption | (repeat (first | assumption | (apply Le.trans; assumption))))) hsm 14; rintro w1 h1 hle1 ⟨b, rfl, hb⟩; cases b; all_goals skip) | (apply OpTo_res; exact rfl; exact has31; exact few8_c _ _ 1 1 [(s, f)] (hs5.le (by first | exact Le.refl _ | assumption | (repeat (first | assumption | (apply Le.trans; assumption))))) (by omega) 1; rintro w1 h1 hle1 ⟨b, rfl, hb2⟩; cases b; all_goals skip) | (apply OpTo_res; exact rfl; exact has41; exact had (hb rfl) _ (by first | exact Le.refl _ | assumption | (repeat (first | assumption | (apply Le.trans; assumption)))); rintro w2 h2 hle2 ⟨A2, k2, c2, l2, bl, rfl, hx2, hf2⟩; skip) | (apply OpTo_res; exact rfl; exact has37; exact hvw (hb rfl) _ (by first | exact Le.refl _ | assumption | (repeat (first | assumption | (apply Le.trans; assumption)))); rintro w6 h6 hle6 ⟨A6, k6, c6, l6, rfl, hk6, hx6, hf6⟩; skip) | (apply OpTo_res; exact rfl; exact has37; exact hv2 (hb rfl) _ (by first | exact Le.refl _ | assumption | (repeat (first | assumption | (apply Le.trans; assumption)))) _ _ _ l2 (hx2.le (by first | exact Le.refl _ | assumption | (repeat (first | assumption | (apply Le.trans; assumption))))) hf2; rintro w7 h7 hle7 ⟨A7, k7, c7, l7, rfl, hk7, hx7, hf7⟩; skip) | (apply OpTo_res; exact rfl; exact has43; exact hkn (hb rfl) _ (by first | exact Le.refl _ | assumption | (repeat (first | assumption | (apply Le.trans; assumption)))); rintro w3 h3 hle3 ⟨A3, k3, c3, l3, rfl, hk3, hx3, hf3⟩; skip) | (apply OpTo_res; exact rfl; exact has43; exact hk2 (hb rfl) _ (by first | exact Le.refl _ | assumption | (repeat (first | assumption | (apply Le.trans; assumption)))) _ _ _ l2 (hx2.le (by first | exact Le.refl _ | assumption | (repeat (first | assumption | (apply Le.trans; assumption))))) hf2; rintro w4 h4 hle4 ⟨A4, k4, c4, l4, rfl, hk4, hx4, hf4⟩; skip) | (apply OpTo_val; exact rfl; exact has34; exact same8_c _ _ _ _ l3 (hx3.le (by first | exact Le.refl _ | assumption | (repeat (first | assumption | (apply Le.trans; assumption))))) _ _ _ l4 (hx4.le (by first | exact Le.refl _ | assumption | (repeat (first | assumption | (apply Le.trans; assumption))))); skip) | (apply OpTo_val; exact rfl; exact has46; exact sameL_c _ _ _ _ l6 (hx6.le (by first | exact Le.refl _ | assumption | (repeat (first | assumption | (apply Le.trans; assumption))))) _ _ _ l7 (hx7.le (by first | exact Le.refl _ | assumption | (repeat (first | assumption | (apply Le.trans; assumption))))); skip))) | (apply GO_cond; exact rfl; all_goals intro hc; all_goals try simp only [ltI_t, ltI_f, leI_t, leI_f, eqI_t, eqI_f, Bool.not_eq_true', Bool.not_eq_false', decide_eq_true_eq, decide_eq_false_iff_not, reduceCtorEq] at hc; all_goals try (exfalso; omega)) | (apply GOl_split; exact rfl; exact rfl; all_goals intro hc; all_goals try simp only [ltI_t, ltI_f, leI_t, leI_f, eqI_t, eqI_f, Bool.not_eq_true', Bool.not_eq_false', decide_eq_true_eq, decide_eq_false_iff_not, reduceCtorEq] at hc; all_goals try (exfalso; omega)) | (apply GO_retV1; exact rfl; exact rfl; exact rfl))
      all_goals first
        | rfl
        | (rw [hf2, lk (hb rfl)] at hf4; rw [decide_eq_true (hf3.trans hf4.symm)])
        | (exfalso; exact hc (by rw [hf2, lv (hb rfl)]))
        | (exfalso; exact hc (by rw [hf6, hf7, hf2, lv (hb rfl)]))
        | (exfalso; exact hc rfl)
       
    · have had : (n : Int) ≤ 14 → ∀ h', Le h h' → Res Tryz.prog 41 #[ledV A n c, factV s f] h' (fun u h2 => ∃ A k c bl er, u = .tuple #[ledV A k c, .bool bl, .int .i64 er] ∧ er ≠ 0) := fun hn h' hl => by
        have ha := hx.facts hn
        refine (addLed_c h' (hG.le hl) A n c l (ha.le hl) hx.cap s f (hf.le hl) hs).mono ?_
        rintro u h2 _ ⟨v, rfl, A9, k9, c9, l9, rfl, -⟩
        refine ⟨A9, k9, c9, _, _, rfl, ?_⟩
        unfold addL
        split
        · rename_i q; exact q
        · rename_i q
          have hq : ledE (fcs l) = 0 := Classical.byContradiction q
          rw [if_pos (fun w => h0 ⟨ledE_zero.1 hq, w⟩)]
          show (70 : Int) ≠ 0
          omega
      repeat' (first | apply GO_seq | apply GO_skip | apply GO_region | apply GOl_nil | (apply GOl_unwanted; exact rfl; exact rfl) | (apply GOl_pv; exact rfl; exact rfl; exact rfl) | (apply GOl_load; exact rfl; exact Ld_blk rfl (by (repeat (first | exact List.Mem.head _ | apply List.Mem.tail)); done) rfl; exact rfl; exact rfl) | (apply GOl_to; exact rfl; exact rfl; exact rfl; (first | (apply OpTo_store; exact rfl; exact rfl; exact rfl; exact (by (repeat (first | exact Repl.here | apply Repl.there)); done); exact rfl; exact rfl; exact rfl; skip) | (apply OpTo_box; exact rfl; intro b; skip) | (apply OpTo_alloc; exact rfl; intro b; skip) | (apply OpTo_val; exact rfl; exact has30; exact hsane; skip) | (apply OpTo_buildSliceS (enc := encF82) (n := 1) [(s, f)]; exact rfl; exact rfl; exact rfl; exact List.cons_ne_nil _ _; exact rfl; exact rfl; exact rfl; exact rfl; exact encF82_len; exact rfl; exact rfl; intro b5 h5 hle5 hs5; skip) | (apply OpTo_res; exact rfl; exact has31; exact few8_c _ A n c l (hrow.le (by first | exact Le.refl _ | assumption | (repeat (first | assumption | (apply Le.trans; assumption))))) hsm 14; rintro w1 h1 hle1 ⟨b, rfl, hb⟩; cases b; all_goals skip) | (apply OpTo_res; exact rfl; exact has31; exact few8_c _ _ 1 1 [(s, f)] (hs5.le (by first | exact Le.refl _ | assumption | (repeat (first | assumption | (apply Le.trans; assumption))))) (by omega) 1; rintro w1 h1 hle1 ⟨b, rfl, hb2⟩; cases b; all_goals skip) | (apply OpTo_res; exact rfl; exact has41; exact had (hb rfl) _ (by first | exact Le.refl _ | assumption | (repeat (first | assumption | (apply Le.trans; assumption)))); rintro w2 h2 hle2 ⟨A2, k2, c2, bl, er, rfl, her⟩; skip))) | (apply GO_cond; exact rfl; all_goals intro hc; all_goals try simp only [ltI_t, ltI_f, leI_t, leI_f, eqI_t, eqI_f, Bool.not_eq_true', Bool.not_eq_false', decide_eq_true_eq, decide_eq_false_iff_not, reduceCtorEq] at hc; all_goals try (exfalso; omega)) | (apply GO_retV1; exact rfl; exact rfl; exact rfl))
      all_goals first
        | rfl
        | (exfalso; omega)
       
end Go.Hw

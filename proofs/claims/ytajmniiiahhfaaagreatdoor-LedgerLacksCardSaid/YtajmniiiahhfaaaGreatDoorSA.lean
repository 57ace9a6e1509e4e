import Derived.Test.YtajmniiiahhfaaaGreatDoorGC
/-
  sheets: the order of games, the valid sheets of a list of facts, walked.
-/
set_option linter.unusedVariables false
set_option linter.unusedSimpArgs false
set_option maxRecDepth 100000
set_option maxHeartbeats 4000000
namespace Go.Hw
open Go
attribute [local irreducible] GO GOl GDp Val Fn Res CellsAt ValE Blk OwnS MapA OwnPf Has Yl
open Go.Proofs (Tryz.prog)

structure FactsAt (h : Ro) (A : Option Addr) (n : Nat) (l : List (Fsh × Fct)) : Prop where
  row : SlOf encF82 82 h A n l
  fat : ∀ p ∈ l, FAt h p.1 p.2 ∧ FSm p.2
  small : n ≤ 1000000
theorem FactsAt.le {h h' : Ro} {A : Option Addr} {n : Nat} {l : List (Fsh × Fct)} (a : FactsAt h A n l) (hl : Le h h') : FactsAt h' A n l := ⟨a.row.le hl, fun p hp => ⟨(a.fat p hp).1.le hl, (a.fat p hp).2⟩, a.small⟩
open Classical in
noncomputable def validL (l : List (Fsh × Fct)) : List (Fsh × Fct) := l.filter fun p => decide (p.2.kind = 3 ∧ FctOk p.2)
theorem validL_snoc (l : List (Fsh × Fct)) (p : Fsh × Fct) : validL (l ++ [p]) = validL l ++ validL [p] := by unfold validL; rw [List.filter_append]
def FR (p : Fsh × Fct) (u : List Value) (h : Ro) : Prop := u = [factV p.1 p.2]
def p0 : Fsh × Fct := (fsh0, fct0)

/-- The order of games. -/
def cmpG (a b : FGame) : Int := orL [cmpI a.s b.s, cmpI a.c b.c, cmpI a.h b.h, cmpI a.a b.a]


theorem order_c (h : Ro) (a gb : FGame) : Res Tryz.prog 63 #[gameV a, gameV gb] h (fun u _ => u = .int .i64 (cmpG a gb)) := by
  refine Res_intro (args := [_, _]) ts_ok Go.Proofs.Tryz.func63 rfl rfl fun w0 X0 => ?_
  unfold cmpG
  generalize hor : orL [cmpI a.s gb.s, cmpI a.c gb.c, cmpI a.h gb.h, cmpI a.a gb.a] = o at *
  repeat' (first | apply GO_seq | apply GO_region | apply GOl_nil | (apply GOl_pv; exact rfl; exact rfl; exact rfl) | (apply GOl_to; exact rfl; exact rfl; exact rfl; (first | (apply OpTo_box; exact rfl; intro b; skip))) | (apply GO_drawp (n := 1) [0, 1, 2, 3, 4, 5, 6, 7, 8, 9, 10, 11, 12, 13, 14, 15, 16, 17, 18, 19, 20, 21, 22] [(0, 0), (1, 0), (2, 0), (3, 0), (5, 0), (6, 0), (7, 0), (8, 0), (10, 0), (11, 0), (12, 0), (13, 0), (15, 0), (16, 0), (17, 0), (18, 0), (4, 1), (9, 1), (14, 1), (19, 1), (20, 1), (21, 1), (22, 0)]; kernel_rfl) | (apply GP_pv; exact rfl; kernel_rfl; exact rfl; exact rfl; exact rfl) | (apply GP_loadB; exact rfl; kernel_rfl; exact rfl; exact rfl; exact rfl; exact (by (repeat (first | exact List.Mem.head _ | apply List.Mem.tail)); done); exact rfl; exact rfl) | (apply GP_real; exact rfl; kernel_rfl; exact rfl; exact rfl; exact rfl; (first | (apply OpTo_buildSliceR (e := 3) (cs := [cmpI a.s gb.s, cmpI a.c gb.c, cmpI a.h gb.h, cmpI a.a gb.a].map fun i => .int .i64 i); exact rfl; exact rfl; exact rfl; exact List.cons_ne_nil _ _; exact rfl; exact rfl; exact rfl; exact rfl; intro b1 h1 hle1 hcs1; refine ⟨hle1, by (first | exact NdOk_no rfl | (apply NdOk_all; (repeat' (first | exact trivial | apply And.intro | exact List.Mem.head _ | apply List.Mem.tail)); done) | (apply NdOk_need; (repeat' (first | exact trivial | apply And.intro | exact List.Mem.head _ | apply List.Mem.tail)); done)), ?_⟩) | (apply OpTo_val; exact rfl; exact has94; (have hv7 := or7_c _ _ 4 4 [cmpI a.s gb.s, cmpI a.c gb.c, cmpI a.h gb.h, cmpI a.a gb.a] (SlOf_ints hcs1) (by omega); rw [hor] at hv7; exact hv7); refine ⟨Le.refl _, by (first | exact NdOk_no rfl | (apply NdOk_all; (repeat' (first | exact trivial | apply And.intro | exact List.Mem.head _ | apply List.Mem.tail)); done) | (apply NdOk_need; (repeat' (first | exact trivial | apply And.intro | exact List.Mem.head _ | apply List.Mem.tail)); done)), ?_⟩) | (apply OpTo_val; exact rfl; exact has95; exact cmpI7_c _ _ _; refine ⟨Le.refl _, by (first | exact NdOk_no rfl | (apply NdOk_all; (repeat' (first | exact trivial | apply And.intro | exact List.Mem.head _ | apply List.Mem.tail)); done) | (apply NdOk_need; (repeat' (first | exact trivial | apply And.intro | exact List.Mem.head _ | apply List.Mem.tail)); done)), ?_⟩))) | (apply GP_done; kernel_rfl; exact rfl) | (apply GO_retR1; exact rfl; exact rfl; exact rfl))
  all_goals rfl


theorem valid_c (h : Ro) (A : Option Addr) (n c : Nat) : Res Tryz.prog 91 #[.slice A n c] h (fun u h' => ∃ bx, u = .func (.func 118) #[] #[.pointer (some ⟨bx, 0, none⟩)] ∧ CellsAt h' ⟨bx, 0, none⟩ [.slice A n c]) := by
  refine Res_intro (args := [_]) ts_ok Go.Proofs.Tryz.func91 rfl rfl fun w0 X0 => ?_
  repeat' (first | apply GO_seq | apply GO_region | apply GOl_nil | (apply GOl_pv; exact rfl; exact rfl; exact rfl) | (apply GOl_to; exact rfl; exact rfl; exact rfl; (first | (apply OpTo_box; exact rfl; intro b; skip))))
  refine GO_relB (by (repeat (first | exact Take.here | apply Take.there)); done) ?_
  intro h1 hle1 hc1
  (first | (apply GO_retR1; exact rfl; exact rfl; exact rfl))
  exact ⟨b, rfl, hc1⟩

open Classical in


theorem validSeq (h : Ro) (A : Option Addr) (n c : Nat) (l : List (Fsh × Fct)) (hx : FactsAt h A n l) (bx : Nat) (hb : CellsAt h ⟨bx, 0, none⟩ [.slice A n c]) : SeqR Tryz.prog 118 [.pointer (some ⟨bx, 0, none⟩)] FR (validL l) h := by
  intro lid I Ix mI mIx hround Es h1 hle h0
  refine Fn_intro (args := [_, _]) ts_ok Go.Proofs.Tryz.func118 rfl rfl fun w0 X0 => ?_
  have hlen := hx.row.len
  have hn := hx.small
  have hb1 := hb.le hle
  repeat' (first | apply GO_seq | apply GO_block | apply GO_region | apply GOl_nil | (apply GOl_pv; exact rfl; exact rfl; exact rfl) | (apply GOl_ov; exact rfl; exact rfl; (first | (apply OV_load; exact rfl; exact Lv_ro rfl hb1 rfl)); exact (by repeat' (first | exact trivial | apply And.intro | exact List.Mem.head _ | apply List.Mem.tail))))
  refine GO_while (X := Nat × List Asn × Ro) (fun x => x.1 ≤ n ∧ Le h x.2.2 ∧ I (validL (l.take x.1)) x.2.1 x.2.2) (fun x => n - x.1) (fun x => [(7, .int .i64 x.1), (6, .int .i64 n), (5, .slice A n c), (0, .func (.yield lid) #[] #[])])
    (fun x => x.2.1) (fun x => x.2.2) (0, Es, h1) ⟨by omega, hle, h0⟩ (by (repeat (first | exact trivial | refine ⟨rfl, ?_⟩)); done) rfl rfl ?_
  rintro ⟨k, Es1, hk⟩ ⟨hkn, hlk, hI⟩ ih
  dsimp only at hkn hlk hI ih ⊢
  by_cases hkn2 : k < n
  · have a1 := hx.row.addrD hkn2
    have c1 := (hx.row.cellsD p0 hkn2).le hlk
    have et := take7 p0 (xs := l) rfl (show k < l.length by omega)
    have hsplit := take_split p0 (l := l) rfl (show k < l.length by omega)
    have hfa := hx.fat _ (mem7 p0 (show k < l.length by omega))
    generalize l.getD k p0 = p at *
    have hch := check7_c hk p.1 p.2 (hfa.1.le hlk) hfa.2
    have hyl : (p.2.kind = 3 ∧ FctOk p.2) → Yl Tryz.prog lid [factV p.1 p.2] Es1 hk fun v Es' h' => (v = .bool true ∧ I (validL (l.take (k + 1))) Es' h') ∨ (v = .bool false ∧ Ix (validL (l.take (k + 1))) Es' h') := fun hv => by
      have e1 : validL [p] = [p] := by unfold validL; simp [hv]
      have e2 : validL (l.take (k + 1)) = validL (l.take k) ++ [p] := by rw [et, validL_snoc, e1]
      have e3 : validL l = validL (l.take k) ++ p :: validL (l.drop (k + 1)) := by
        conv => lhs; rw [hsplit]
        unfold validL at e1 ⊢
        rw [List.filter_append, show p :: l.drop (k + 1) = [p] ++ l.drop (k + 1) from rfl, List.filter_append, e1]; rfl
      rw [e2]
      exact hround _ _ _ _ _ _ e3 hlk rfl hI
    by_cases hv : p.2.kind = 3 ∧ FctOk p.2
    · have hv1 := hv.1
      rw [if_pos hv.2] at hch
      repeat' (first | apply GO_seq | apply GO_skip | apply GO_inBlock | apply GO_block | apply GO_region | apply GOl_nil | (apply GOl_add; exact rfl; exact rfl; exact rfl; omega; exact rfl; exact rfl) | (apply GOl_pv; exact rfl; exact rfl; exact rfl) | (apply GOl_load; exact rfl; exact Ld_blk rfl (by (repeat (first | exact List.Mem.head _ | apply List.Mem.tail)); done) rfl; exact rfl; exact rfl) | (apply GOl_ov; exact rfl; exact rfl; (first | (apply OV_idxS (j := k); exact rfl; exact rfl; exact rfl; exact rfl; exact rfl; exact a1; (with_reducible exact rfl); omega) | (apply OV_load; exact rfl; exact Lv_ro rfl c1 rfl)); exact (by repeat' (first | exact trivial | apply And.intro | exact List.Mem.head _ | apply List.Mem.tail))) | (apply GOl_to; exact rfl; exact rfl; exact rfl; (first | (apply OpTo_store; exact rfl; exact rfl; exact rfl; exact (by (repeat (first | exact Repl.here | apply Repl.there)); done); exact rfl; exact rfl; exact rfl; skip) | (apply OpTo_alloc; exact rfl; intro b; skip) | (apply OpTo_val; exact rfl; exact has82; exact hch; skip) | (refine OpTo_perm (List.perm_append_comm (l₁ := [_])) ?_; apply OpTo_yield (Es0 := Es1) (Fs := [_]); exact rfl; exact rfl; exact rfl; exact hyl hv; rintro v E2 h2 hle2 (⟨rfl, hP⟩ | ⟨rfl, hP⟩); all_goals skip))) | (apply GO_cond; exact rfl; all_goals intro hc; all_goals try simp only [ltI_t, ltI_f, leI_t, leI_f, eqI_t, eqI_f, Bool.not_eq_true', Bool.not_eq_false', decide_eq_true_eq, decide_eq_false_iff_not, reduceCtorEq] at hc; all_goals try (exfalso; omega)) | (apply GOl_split; exact rfl; exact rfl; all_goals intro hc; all_goals try simp only [ltI_t, ltI_f, leI_t, leI_f, eqI_t, eqI_f, Bool.not_eq_true', Bool.not_eq_false', decide_eq_true_eq, decide_eq_false_iff_not, reduceCtorEq] at hc; all_goals try (exfalso; omega)))
      all_goals first
        | (exfalso; omega)
        | (have h3 := ih (k + 1, E2, h2) ⟨by show k + 1 ≤ n; omega, hlk.trans hle2, hP⟩ (by show n - (k + 1) < n - k; omega)
           refine GO_perm (List.perm_append_comm (l₁ := E2) (l₂ := [_])) (GO_drop .here ?_)
           exact GO_keep (by (repeat (first | exact trivial | refine ⟨rfl, ?_⟩)); done) h3)
        | (refine GO_retS (rs := []) (vs := []) (Fs := E2) rfl rfl trivial (List.sublist_append_left _ _) (.inr ⟨validL (l.take (k + 1)), validL (l.drop (k + 1)), ?_, hP⟩)
           unfold validL; rw [← List.filter_append, List.take_append_drop])
       
    have hno : validL (l.take (k + 1)) = validL (l.take k) := by
      rw [et, validL_snoc]; unfold validL; simp [hv]
    by_cases hk3 : p.2.kind = 3
    · rw [if_neg (fun h => hv ⟨hk3, h⟩)] at hch
      repeat' (first | apply GO_seq | apply GO_skip | apply GO_inBlock | apply GO_block | apply GO_region | apply GOl_nil | (apply GOl_unwanted; exact rfl; exact rfl) | (apply GOl_add; exact rfl; exact rfl; exact rfl; omega; exact rfl; exact rfl) | (apply GOl_pv; exact rfl; exact rfl; exact rfl) | (apply GOl_load; exact rfl; exact Ld_blk rfl (by (repeat (first | exact List.Mem.head _ | apply List.Mem.tail)); done) rfl; exact rfl; exact rfl) | (apply GOl_ov; exact rfl; exact rfl; (first | (apply OV_idxS (j := k); exact rfl; exact rfl; exact rfl; exact rfl; exact rfl; exact a1; (with_reducible exact rfl); omega) | (apply OV_load; exact rfl; exact Lv_ro rfl c1 rfl)); exact (by repeat' (first | exact trivial | apply And.intro | exact List.Mem.head _ | apply List.Mem.tail))) | (apply GOl_to; exact rfl; exact rfl; exact rfl; (first | (apply OpTo_store; exact rfl; exact rfl; exact rfl; exact (by (repeat (first | exact Repl.here | apply Repl.there)); done); exact rfl; exact rfl; exact rfl; skip) | (apply OpTo_alloc; exact rfl; intro b; skip) | (apply OpTo_val; exact rfl; exact has82; exact hch; skip))) | (apply GO_cond; exact rfl; all_goals intro hc; all_goals try simp only [ltI_t, ltI_f, leI_t, leI_f, eqI_t, eqI_f, Bool.not_eq_true', Bool.not_eq_false', decide_eq_true_eq, decide_eq_false_iff_not, reduceCtorEq] at hc; all_goals try (exfalso; omega)) | (apply GOl_split; exact rfl; exact rfl; all_goals intro hc; all_goals try simp only [ltI_t, ltI_f, leI_t, leI_f, eqI_t, eqI_f, Bool.not_eq_true', Bool.not_eq_false', decide_eq_true_eq, decide_eq_false_iff_not, reduceCtorEq] at hc; all_goals try (exfalso; omega)))
      all_goals
        have h3 := ih (k + 1, Es1, hk) ⟨by show k + 1 ≤ n; omega, hlk, by show I (validL (l.take (k + 1))) _ _; rw [hno]; exact hI⟩ (by show n - (k + 1) < n - k; omega)
        refine GO_drop .here ?_
        exact GO_keep (by (repeat (first | exact trivial | refine ⟨rfl, ?_⟩)); done) h3
    · generalize (if FctOk p.2 then (0 : Int) else 70) = chv at hch
      repeat' (first | apply GO_seq | apply GO_skip | apply GO_inBlock | apply GO_block | apply GO_region | apply GOl_nil | (apply GOl_unwanted; exact rfl; exact rfl) | (apply GOl_add; exact rfl; exact rfl; exact rfl; omega; exact rfl; exact rfl) | (apply GOl_pv; exact rfl; exact rfl; exact rfl) | (apply GOl_load; exact rfl; exact Ld_blk rfl (by (repeat (first | exact List.Mem.head _ | apply List.Mem.tail)); done) rfl; exact rfl; exact rfl) | (apply GOl_ov; exact rfl; exact rfl; (first | (apply OV_idxS (j := k); exact rfl; exact rfl; exact rfl; exact rfl; exact rfl; exact a1; (with_reducible exact rfl); omega) | (apply OV_load; exact rfl; exact Lv_ro rfl c1 rfl)); exact (by repeat' (first | exact trivial | apply And.intro | exact List.Mem.head _ | apply List.Mem.tail))) | (apply GOl_to; exact rfl; exact rfl; exact rfl; (first | (apply OpTo_store; exact rfl; exact rfl; exact rfl; exact (by (repeat (first | exact Repl.here | apply Repl.there)); done); exact rfl; exact rfl; exact rfl; skip) | (apply OpTo_alloc; exact rfl; intro b; skip))) | (apply GO_cond; exact rfl; all_goals intro hc; all_goals try simp only [ltI_t, ltI_f, leI_t, leI_f, eqI_t, eqI_f, Bool.not_eq_true', Bool.not_eq_false', decide_eq_true_eq, decide_eq_false_iff_not, reduceCtorEq] at hc; all_goals try (exfalso; omega)) | (apply GOl_split; exact rfl; exact rfl; all_goals intro hc; all_goals try simp only [ltI_t, ltI_f, leI_t, leI_f, eqI_t, eqI_f, Bool.not_eq_true', Bool.not_eq_false', decide_eq_true_eq, decide_eq_false_iff_not, reduceCtorEq] at hc; all_goals try (exfalso; omega)))
      all_goals
        have h3 := ih (k + 1, Es1, hk) ⟨by show k + 1 ≤ n; omega, hlk, by show I (validL (l.take (k + 1))) _ _; rw [hno]; exact hI⟩ (by show n - (k + 1) < n - k; omega)
        refine GO_drop .here ?_
        exact GO_keep (by (repeat (first | exact trivial | refine ⟨rfl, ?_⟩)); done) h3
  · rw [List.take_of_length_le (by omega)] at hI
    repeat' (first | apply GO_seq | apply GO_region | apply GOl_nil | (apply GO_exit; exact rfl) | (apply GOl_pv; exact rfl; exact rfl; exact rfl) | (apply GO_cond; exact rfl; all_goals intro hc; all_goals try simp only [ltI_t, ltI_f, leI_t, leI_f, eqI_t, eqI_f, Bool.not_eq_true', Bool.not_eq_false', decide_eq_true_eq, decide_eq_false_iff_not, reduceCtorEq] at hc; all_goals try (exfalso; omega)))
    exact GO_end (rs := []) (vs := []) rfl rfl trivial (.inl hI)
end Go.Hw

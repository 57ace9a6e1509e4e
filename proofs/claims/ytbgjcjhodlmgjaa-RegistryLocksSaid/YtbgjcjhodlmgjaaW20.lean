import Derived.Test.YtbgjcjhodlmgjaaW19
set_option linter.unusedVariables false
set_option linter.unusedSimpArgs false
set_option maxRecDepth 100000
set_option maxHeartbeats 1600000
namespace Go.Hw
open Go
attribute [local irreducible] GO GOl GDp Val Fn Res CellsAt ValE Blk OwnS MapA RngA
open Go.Proofs (Try.prog)

theorem sameRegT (h : Ro) (s s' : Rsh) (r : Reg) (hr : RegAt h s r) (hr' : RegAt h s' r) : Val Try.prog 15 #[regV r.league r.day s, regV r.league r.day s'] h (.bool true) := by
  have := sameReg_c h s s' r r hr hr'; rwa [decide_eq_true rfl] at this
theorem sameIntsT (h : Ro) (A B : Option Addr) (c c' : Nat) (xs : List Int) (hx : SlOf encI 1 h A xs.length xs) (hy : SlOf encI 1 h B xs.length xs) (hn : xs.length ≤ 1000000000) : Val Try.prog 22 #[.slice A xs.length c, .slice B xs.length c'] h (.bool true) := by
  have := sameInts_c h A B _ c _ c' xs xs hx hy hn hn; rwa [decide_eq_true rfl] at this
theorem sameMvsT (h : Ro) (A B : Option Addr) (c c' : Nat) (xs : List Mv) (hx : SlOf encM 82 h A xs.length xs) (hy : SlOf encM 82 h B xs.length xs) (hn : xs.length ≤ 1000000000) : Val Try.prog 27 #[.slice A xs.length c, .slice B xs.length c'] h (.bool true) := by
  have := sameMvs_c h A B _ c _ c' xs xs hx hy hn hn; rwa [decide_eq_true rfl] at this
theorem squadL_len (r : Reg) (club : Int) : (squadL r club).length ≤ r.ents.length := by
  have key : ∀ l : List Ent, (l.foldl (sqStep r club) []).length ≤ l.length := fun l => by
    induction l using rev_ind with
    | h0 => simp
    | h1 l x ih =>
      rw [List.foldl_append, List.foldl_cons, List.foldl_nil, sqStep, List.length_append]
      split
      · rw [insL_len]; simp; omega
      · simp; omega
  exact key r.ents


theorem enterSpec_w (hS : SortSaid) (h : Ro) (lg : Int) (A : Option Addr) (n c : Nat) (xs : List Int) (hx : SlOf encI 1 h A n xs) (s : Rsh) (r : Reg) (hcl : SlOf encI 1 h s.ac s.nc r.clubs) (hen : SlOf encE 7 h s.ae s.ne r.ents) (x : Ent) :
    Val Try.prog 3 #[.int .i64 lg, .slice A n c, regV r.league r.day s, entV x] h (.bool true) := by
  refine Val_intro (args := [_, _, _, _]) ts_ok Go.Proofs.Try.func3 rfl rfl fun w0 X0 => ?_
  by_cases hn : n ≤ 40
  · by_cases hF : s.nc ≤ 30 ∧ s.ne ≤ 16
    · have hr : RegAt h s r := ⟨hcl, hen, by omega, by omega⟩
      obtain ⟨q, sq, e, hN, hNR, hat⟩ : ∃ (q : Reg) (sq : Rsh) (e : Int), Val Try.prog 11 #[.int .i64 lg, .slice A n c] h (.tuple #[regV q.league q.day sq, .int .i64 e]) ∧ Val Try.prog 12 #[.int .i64 lg, .slice A n c] h (.tuple #[regV q.league q.day sq, .int .i64 e]) ∧ RegAt h sq q := by
        have h1 := new_c h lg A n c xs hx (by omega)
        have h2 := newR_c h lg A n c xs hx (by omega)
        by_cases hO : OpenOk lg xs
        · rw [if_pos hO] at h1 h2
          exact ⟨⟨lg, xs, 0, []⟩, _, _, h1, h2, hx, SlOf.nil, by show n ≤ _; omega, by simp⟩
        · rw [if_neg hO] at h1 h2
          exact ⟨reg0, _, _, h1, h2, RegAt_nil _⟩
      obtain ⟨ck, hck⟩ : ∃ ck : Int, ∀ h', Le h h' → Val Try.prog 16 #[regV r.league r.day s] h' (.int .i64 ck) ∧ Val Try.prog 17 #[regV r.league r.day s] h' (.int .i64 ck) := ⟨_, fun h' hl => ⟨check_c h' s r (hr.le hl), checkR_c h' s r (hr.le hl)⟩⟩
      generalize hq2 : regEnter r x = q2
      have hE1 : ∀ h', Le h h' → Res Try.prog 13 #[regV r.league r.day s, entV x] h' (regR q2) := fun h' hl => hq2 ▸ regEnter_c h' s r (hr.le hl) x
      have hE2 : ∀ h', Le h h' → Res Try.prog 14 #[regV r.league r.day s, entV x] h' (regR q2) := fun h' hl => hq2 ▸ enterR_c h' s r (hr.le hl) x
      repeat' (first | apply GO_seq | apply GO_skip | apply GO_region | apply GOl_nil | (apply GOl_pv; exact rfl; exact rfl; exact rfl) | (apply GOl_load; exact rfl; exact Ld_blk rfl (by (repeat (first | exact List.Mem.head _ | apply List.Mem.tail)); done) rfl; exact rfl; exact rfl) | (apply GOl_to; exact rfl; exact rfl; exact rfl; (first | (apply OpTo_store; exact rfl; exact rfl; exact rfl; exact (by (repeat (first | exact Repl.here | apply Repl.there)); done); exact rfl; exact rfl; exact rfl; skip) | (apply OpTo_box; exact rfl; intro b; skip) | (apply OpTo_alloc; exact rfl; intro b; skip) | (apply OpTo_val; exact rfl; exact has9; exact sane_c hS _; skip) | (apply OpTo_val; exact rfl; exact has11; exact hN; skip) | (apply OpTo_val; exact rfl; exact has12; exact hNR; skip) | (apply OpTo_res; exact rfl; exact has13; exact hE1 _ (by first | exact Le.refl _ | assumption | (repeat (first | assumption | (apply Le.trans; assumption)))); rintro vr hr1 hle1 ⟨s1, rfl, hat1⟩; skip) | (apply OpTo_res; exact rfl; exact has14; exact hE2 _ (by first | exact Le.refl _ | assumption | (repeat (first | assumption | (apply Le.trans; assumption)))); rintro vr hr1 hle2 ⟨s2, rfl, hat2⟩; skip) | (apply OpTo_val; exact rfl; exact has10; exact few_c _ _ _ _; skip))) | (apply GO_drawp (n := 9) [0, 1, 2, 3, 4, 5, 6, 7, 8, 9, 10, 11, 12, 13, 14, 15, 16, 17, 18, 19, 20, 21, 22, 23, 24, 25] [(0, 0), (1, 0), (2, 1), (3, 0), (4, 0), (5, 0), (6, 0), (7, 0), (8, 0), (9, 0), (11, 0), (10, 1), (12, 1), (13, 0), (14, 0), (15, 0), (16, 0), (17, 0), (18, 1), (19, 0), (20, 0), (21, 0), (22, 0), (23, 0), (24, 0), (25, 0)]; kernel_rfl) | (apply GP_pv; exact rfl; kernel_rfl; exact rfl; exact rfl; exact rfl) | (apply GP_loadB; exact rfl; kernel_rfl; exact rfl; exact rfl; exact rfl; exact (by (repeat (first | exact List.Mem.head _ | apply List.Mem.tail)); done); exact rfl; exact rfl) | (apply GP_real; exact rfl; kernel_rfl; exact rfl; exact rfl; exact rfl; (first | (apply OpTo_val; exact rfl; exact has15; exact sameRegT _ _ _ q (hat.le (by first | exact Le.refl _ | assumption | (repeat (first | assumption | (apply Le.trans; assumption))))) (hat.le (by first | exact Le.refl _ | assumption | (repeat (first | assumption | (apply Le.trans; assumption))))); refine ⟨Le.refl _, by (first | exact NdOk_no rfl | (apply NdOk_all; (repeat' (first | exact trivial | apply And.intro | exact List.Mem.head _ | apply List.Mem.tail)); done) | (apply NdOk_need; (repeat' (first | exact trivial | apply And.intro | exact List.Mem.head _ | apply List.Mem.tail)); done)), ?_⟩) | (apply OpTo_val; exact rfl; exact has15; exact sameRegT _ _ _ q2.1 (hat1.le (by first | exact Le.refl _ | assumption | (repeat (first | assumption | (apply Le.trans; assumption))))) (hat2.le (by first | exact Le.refl _ | assumption | (repeat (first | assumption | (apply Le.trans; assumption))))); refine ⟨Le.refl _, by (first | exact NdOk_no rfl | (apply NdOk_all; (repeat' (first | exact trivial | apply And.intro | exact List.Mem.head _ | apply List.Mem.tail)); done) | (apply NdOk_need; (repeat' (first | exact trivial | apply And.intro | exact List.Mem.head _ | apply List.Mem.tail)); done)), ?_⟩) | (apply OpTo_val; exact rfl; exact has16; exact (hck _ (by first | exact Le.refl _ | assumption | (repeat (first | assumption | (apply Le.trans; assumption))))).1; refine ⟨Le.refl _, by (first | exact NdOk_no rfl | (apply NdOk_all; (repeat' (first | exact trivial | apply And.intro | exact List.Mem.head _ | apply List.Mem.tail)); done) | (apply NdOk_need; (repeat' (first | exact trivial | apply And.intro | exact List.Mem.head _ | apply List.Mem.tail)); done)), ?_⟩) | (apply OpTo_val; exact rfl; exact has17; exact (hck _ (by first | exact Le.refl _ | assumption | (repeat (first | assumption | (apply Le.trans; assumption))))).2; refine ⟨Le.refl _, by (first | exact NdOk_no rfl | (apply NdOk_all; (repeat' (first | exact trivial | apply And.intro | exact List.Mem.head _ | apply List.Mem.tail)); done) | (apply NdOk_need; (repeat' (first | exact trivial | apply And.intro | exact List.Mem.head _ | apply List.Mem.tail)); done)), ?_⟩))) | (apply GP_done; kernel_rfl; exact rfl) | (apply GP_split; exact rfl; exact rfl; exact rfl; exact rfl; exact rfl; all_goals intro hc; all_goals try simp only [ltI_t, ltI_f, leI_t, leI_f, eqI_t, eqI_f, Bool.not_eq_true', Bool.not_eq_false', decide_eq_true_eq, decide_eq_false_iff_not, reduceCtorEq] at hc; all_goals try (exfalso; omega)) | (apply GO_cond; exact rfl; all_goals intro hc; all_goals try simp only [ltI_t, ltI_f, leI_t, leI_f, eqI_t, eqI_f, Bool.not_eq_true', Bool.not_eq_false', decide_eq_true_eq, decide_eq_false_iff_not, reduceCtorEq] at hc; all_goals try (exfalso; omega)) | (apply GOl_split; exact rfl; exact rfl; all_goals intro hc; all_goals try simp only [ltI_t, ltI_f, leI_t, leI_f, eqI_t, eqI_f, Bool.not_eq_true', Bool.not_eq_false', decide_eq_true_eq, decide_eq_false_iff_not, reduceCtorEq] at hc; all_goals try (exfalso; omega)) | (apply GO_retV1; exact rfl; exact rfl; exact rfl))
      all_goals first | rfl | (simp [eqI_eq]; done)
    · repeat' (first | apply GO_seq | apply GO_skip | apply GO_region | apply GOl_nil | (apply GOl_pv; exact rfl; exact rfl; exact rfl) | (apply GOl_load; exact rfl; exact Ld_blk rfl (by (repeat (first | exact List.Mem.head _ | apply List.Mem.tail)); done) rfl; exact rfl; exact rfl) | (apply GOl_to; exact rfl; exact rfl; exact rfl; (first | (apply OpTo_box; exact rfl; intro b; skip) | (apply OpTo_val; exact rfl; exact has9; exact sane_c hS _; skip) | (apply OpTo_val; exact rfl; exact has10; exact few_c _ _ _ _; skip))) | (apply GO_cond; exact rfl; all_goals intro hc; all_goals try simp only [ltI_t, ltI_f, leI_t, leI_f, eqI_t, eqI_f, Bool.not_eq_true', Bool.not_eq_false', decide_eq_true_eq, decide_eq_false_iff_not, reduceCtorEq] at hc; all_goals try (exfalso; omega)) | (apply GOl_split; exact rfl; exact rfl; all_goals intro hc; all_goals try simp only [ltI_t, ltI_f, leI_t, leI_f, eqI_t, eqI_f, Bool.not_eq_true', Bool.not_eq_false', decide_eq_true_eq, decide_eq_false_iff_not, reduceCtorEq] at hc; all_goals try (exfalso; omega)) | (apply GO_retV1; exact rfl; exact rfl; exact rfl))
      all_goals first | rfl | (simp [eqI_eq]; done)
  · repeat' (first | apply GO_seq | apply GO_skip | apply GO_region | apply GOl_nil | (apply GOl_unwanted; exact rfl; exact rfl) | (apply GOl_pv; exact rfl; exact rfl; exact rfl) | (apply GOl_to; exact rfl; exact rfl; exact rfl; (first | (apply OpTo_box; exact rfl; intro b; skip) | (apply OpTo_val; exact rfl; exact has9; exact sane_c hS _; skip))) | (apply GO_cond; exact rfl; all_goals intro hc; all_goals try simp only [ltI_t, ltI_f, leI_t, leI_f, eqI_t, eqI_f, Bool.not_eq_true', Bool.not_eq_false', decide_eq_true_eq, decide_eq_false_iff_not, reduceCtorEq] at hc; all_goals try (exfalso; omega)) | (apply GOl_split; exact rfl; exact rfl; all_goals intro hc; all_goals try simp only [ltI_t, ltI_f, leI_t, leI_f, eqI_t, eqI_f, Bool.not_eq_true', Bool.not_eq_false', decide_eq_true_eq, decide_eq_false_iff_not, reduceCtorEq] at hc; all_goals try (exfalso; omega)) | (apply GO_retV1; exact rfl; exact rfl; exact rfl))
    all_goals first | rfl | (simp [eqI_eq]; done)
end Go.Hw


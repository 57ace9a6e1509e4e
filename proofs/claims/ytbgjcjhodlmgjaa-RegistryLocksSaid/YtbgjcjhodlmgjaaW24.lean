import Derived.Test.YtbgjcjhodlmgjaaW23
set_option linter.unusedVariables false
set_option linter.unusedSimpArgs false
set_option maxRecDepth 100000
set_option maxHeartbeats 4000000
namespace Go.Hw
open Go
attribute [local irreducible] GO GOl GDp Val Fn Res CellsAt ValE Blk OwnS MapA RngA
open Go.Proofs (Try.prog)

theorem clubsAlike {r ry : Reg} {x : Ent} {p : Int} (hg : RegGood r) (hgy : RegGood ry) (he : ry.ents = r.ents ++ [x]) (hp : x.player ≠ p) : regClub ry p = regClub r p ∧ regLocked ry p = regLocked r p := by
  have e : ofL ry.ents p = ofL r.ents p := by rw [he, ofL_snoc, if_neg hp]
  unfold regClub regLocked
  rw [e]; simp [hg, hgy]


open Classical in
theorem grows_w (hS : SortSaid) (h : Ro) (s : Rsh) (r : Reg) (hcl : SlOf encI 1 h s.ac s.nc r.clubs) (hen : SlOf encE 7 h s.ae s.ne r.ents) (x : Ent) (p : Int) :
    Val Try.prog 7 #[regV r.league r.day s, entV x, .int .i64 p] h (.bool true) := by
  refine Val_intro (args := [_, _, _]) ts_ok Go.Proofs.Try.func7 rfl rfl fun w0 X0 => ?_
  by_cases hF : s.nc ≤ 30 ∧ s.ne ≤ 16
  · have hr : RegAt h s r := ⟨hcl, hen, by omega, by omega⟩
    have hlc := hcl.len
    have hle := hen.len
    by_cases hgo : RegGood r ∧ addE r.clubs r.day r.ents x = 0
    · obtain ⟨hg, ha⟩ := hgo
      have hgy := good_snoc hg ha
      generalize hry : (⟨r.league, r.clubs, x.day, r.ents ++ [x]⟩ : Reg) = ry at hgy
      have hye : ry.ents = r.ents ++ [x] := by rw [← hry]
      have hE : ∀ h', Le h h' → Res Try.prog 13 #[regV r.league r.day s, entV x] h' (fun v h'' => ∃ s1, v = .tuple #[regV r.league x.day s1, .int .i64 0] ∧ s1.ne = s.ne + 1 ∧ s1.ae = some (addrD s1.ae) ∧ CellsAt h'' ((addrD s1.ae).add (s.ne * 7)) (encE x) ∧ RegAt h'' s1 ry) := fun h' hl => Res.mono (regEnter_c h' s r (hr.le hl) x) fun v h'' _ hp => by
        unfold regEnter at hp
        rw [if_pos hg, if_pos ha, hry] at hp
        obtain ⟨s1, h1, h2⟩ := hp
        subst hry
        have hn1 : s1.ne = s.ne + 1 := by have := h2.ents.len; simp at this; omega
        have hcx := h2.ents.cellsD e0 (show s.ne < s1.ne by omega)
        have hgx : (r.ents ++ [x]).getD s.ne e0 = x := by simp [List.getD, ← hle]
        rw [hgx] at hcx
        exact ⟨s1, h1, hn1, h2.ents.addrD (show s.ne < s1.ne by omega), hcx, h2⟩
      have hml : movesL ry.ents = if x.kind ≤ 4 then movesL r.ents ++ [mvOf x] else movesL r.ents := by rw [hye, movesL_snoc]
      have hmt : (movesL ry.ents).take (movesL r.ents).length = movesL r.ents := by rw [hml]; split <;> simp
      have hmle : (movesL r.ents).length ≤ (movesL ry.ents).length ∧ (movesL ry.ents).length ≤ (movesL r.ents).length + 1 := by rw [hml]; split <;> simp
      have hq16 := movesL_len r.ents
      generalize hq : movesL r.ents = q at *
      generalize hm : movesL ry.ents = m at *
      have hM1 : ∀ h', Le h h' → Res Try.prog 25 #[regV r.league r.day s] h' (fun v h'' => ∃ A c, v = .tuple #[.slice A q.length c, .int .i64 0] ∧ q.length ≤ c ∧ SlOf encM 82 h'' A q.length q) := fun h' hl => by
        have := regMoves_n h' s r (hr.le hl); simp only [if_pos hg, hq] at this; exact this
      have hM2 : ∀ h' s1, RegAt h' s1 ry → Res Try.prog 25 #[regV r.league x.day s1] h' (fun v h'' => ∃ A c, v = .tuple #[.slice A m.length c, .int .i64 0] ∧ m.length ≤ c ∧ SlOf encM 82 h'' A m.length m) := fun h' s1 h1 => by
        have := regMoves_n h' s1 ry h1; simp only [if_pos hgy, hm] at this; subst hry; exact this
      have hK2 : ∀ h' s1, RegAt h' s1 ry → Val Try.prog 16 #[regV r.league x.day s1] h' (.int .i64 0) := fun h' s1 h1 => by
        have := check_c h' s1 ry h1; rw [if_pos hgy] at this; subst hry; exact this
      repeat' (first | apply GO_seq | apply GO_skip | apply GO_block | apply GO_region | apply GOl_nil | (apply GOl_pv; exact rfl; exact rfl; exact rfl) | (apply GOl_load; exact rfl; exact Ld_blk rfl (by (repeat (first | exact List.Mem.head _ | apply List.Mem.tail)); done) rfl; exact rfl; exact rfl) | (apply GOl_to; exact rfl; exact rfl; exact rfl; (first | (apply OpTo_store; exact rfl; exact rfl; exact rfl; exact (by (repeat (first | exact Repl.here | apply Repl.there)); done); exact rfl; exact rfl; exact rfl; skip) | (apply OpTo_box; exact rfl; intro b; skip) | (apply OpTo_alloc; exact rfl; intro b; skip) | (apply OpTo_val; exact rfl; exact has9; exact sane_c hS _; skip) | (apply OpTo_res; exact rfl; exact has13; exact hE _ (by first | exact Le.refl _ | assumption | (repeat (first | assumption | (apply Le.trans; assumption)))); rintro vr hr1 hle1 ⟨s1, rfl, hs1, had1, hcx1, hat1⟩; skip) | (apply OpTo_res; exact rfl; exact has25; exact hM1 _ (by first | exact Le.refl _ | assumption | (repeat (first | assumption | (apply Le.trans; assumption)))); rintro vq hr2 hle2 ⟨A1, c1, rfl, hc1, hq1⟩; skip) | (apply OpTo_res; exact rfl; exact has25; exact hM2 _ _ (hat1.le (by first | exact Le.refl _ | assumption | (repeat (first | assumption | (apply Le.trans; assumption))))); rintro vq hr3 hle3 ⟨A2, c2, rfl, hc2, hq2⟩; skip) | (apply OpTo_val; exact rfl; exact has10; exact few_c _ _ _ _; skip))) | (apply GO_drawp (n := 11) [0, 1, 2, 3, 4, 5, 6, 7, 8, 9, 10, 11, 12, 13, 14, 15, 16, 17, 18, 19, 20, 21, 22, 23, 24, 25, 26, 27, 28, 29, 30, 31, 32, 33, 34, 35, 36, 37, 38, 39, 40, 41, 42, 43, 44, 45, 46, 47, 48, 49, 50, 51, 52, 53, 54, 55, 56, 57, 58] [(0, 0), (1, 0), (2, 0), (3, 0), (4, 0), (5, 0), (6, 0), (7, 0), (8, 1), (9, 0), (10, 0), (11, 0), (12, 0), (13, 0), (14, 0), (15, 0), (16, 0), (17, 0), (18, 0), (19, 0), (20, 0), (21, 0), (22, 0), (23, 0), (24, 0), (25, 0), (26, 0), (27, 0), (28, 0), (29, 0), (30, 0), (31, 0), (32, 0), (33, 0), (34, 0), (35, 0), (36, 0), (37, 0), (38, 0), (39, 0), (40, 0), (41, 0), (42, 0), (43, 0), (44, 0), (45, 0), (46, 0), (47, 0), (48, 0), (49, 0), (50, 0), (51, 0), (52, 0), (53, 0), (54, 0), (55, 1), (56, 1), (57, 0), (58, 0)]; kernel_rfl) | (apply GP_add; exact rfl; kernel_rfl; exact rfl; exact rfl; exact rfl; exact rfl; exact rfl; omega) | (apply GP_pv; exact rfl; kernel_rfl; exact rfl; exact rfl; exact rfl) | (apply GP_loadB; exact rfl; kernel_rfl; exact rfl; exact rfl; exact rfl; exact (by (repeat (first | exact List.Mem.head _ | apply List.Mem.tail)); done); exact rfl; exact rfl) | (apply GP_ov; exact rfl; kernel_rfl; exact rfl; exact rfl; (first | (apply OV_idxS (j := s.ne); exact rfl; exact rfl; exact rfl; exact rfl; exact rfl; exact had1; (with_reducible exact rfl); omega) | (apply OV_load; exact rfl; exact Lv_ro rfl (hcx1.le (by first | exact Le.refl _ | assumption | (repeat (first | assumption | (apply Le.trans; assumption))))) rfl) | (apply OV_neqR; exact rfl; exact rfl; exact rfl; kernel_rfl; kernel_rfl)); exact (by repeat' (first | exact trivial | apply And.intro | exact List.Mem.head _ | apply List.Mem.tail))) | (apply GP_real; exact rfl; kernel_rfl; exact rfl; exact rfl; exact rfl; (first | (apply OpTo_val; exact rfl; exact has16; exact hK2 _ _ (hat1.le (by first | exact Le.refl _ | assumption | (repeat (first | assumption | (apply Le.trans; assumption))))); refine ⟨Le.refl _, by (first | exact NdOk_no rfl | (apply NdOk_all; (repeat' (first | exact trivial | apply And.intro | exact List.Mem.head _ | apply List.Mem.tail)); done) | (apply NdOk_need; (repeat' (first | exact trivial | apply And.intro | exact List.Mem.head _ | apply List.Mem.tail)); done)), ?_⟩) | (apply OpTo_sliceHi (enc := encM) (xs := m) (hi := q.length); exact rfl; exact rfl; exact rfl; exact rfl; exact rfl; exact hq2.le (by first | exact Le.refl _ | assumption | (repeat (first | assumption | (apply Le.trans; assumption)))); exact rfl; omega; exact hc2; intro A3 hs3; rw [hmt] at hs3; refine ⟨Le.refl _, by (first | exact NdOk_no rfl | (apply NdOk_all; (repeat' (first | exact trivial | apply And.intro | exact List.Mem.head _ | apply List.Mem.tail)); done) | (apply NdOk_need; (repeat' (first | exact trivial | apply And.intro | exact List.Mem.head _ | apply List.Mem.tail)); done)), ?_⟩) | (apply OpTo_val; exact rfl; exact has27; exact sameMvsT _ _ _ _ _ q (hq1.le (by first | exact Le.refl _ | assumption | (repeat (first | assumption | (apply Le.trans; assumption))))) (hs3.le (by first | exact Le.refl _ | assumption | (repeat (first | assumption | (apply Le.trans; assumption))))) (by omega); refine ⟨Le.refl _, by (first | exact NdOk_no rfl | (apply NdOk_all; (repeat' (first | exact trivial | apply And.intro | exact List.Mem.head _ | apply List.Mem.tail)); done) | (apply NdOk_need; (repeat' (first | exact trivial | apply And.intro | exact List.Mem.head _ | apply List.Mem.tail)); done)), ?_⟩))) | (apply GP_done; kernel_rfl; exact rfl) | (apply GP_split; exact rfl; exact rfl; exact rfl; exact rfl; exact rfl; all_goals intro hc; all_goals try simp only [ltI_t, ltI_f, leI_t, leI_f, eqI_t, eqI_f, Bool.not_eq_true', Bool.not_eq_false', decide_eq_true_eq, decide_eq_false_iff_not, reduceCtorEq] at hc; all_goals try (exfalso; omega)) | (apply GO_cond; exact rfl; all_goals intro hc; all_goals try simp only [ltI_t, ltI_f, leI_t, leI_f, eqI_t, eqI_f, Bool.not_eq_true', Bool.not_eq_false', decide_eq_true_eq, decide_eq_false_iff_not, reduceCtorEq] at hc; all_goals try (exfalso; omega)))
      rename_i bR bX g1 g2 g3 g4 g5 g6 g7 g8 g9 g10
      clear hE hM1 hM2 hK2
      have hlr : ∀ h', Le hr3 h' → RegAt h' s1 ry := fun h' hl => hat1.le ((hle2.trans hle3).trans hl)
      have hl0 : Le h hr3 := (hle1.trans hle2).trans hle3
      generalize hrc : regClub r p = rc
      generalize hrl : regLocked r p = rl
      have hC1 : ∀ h', Le h h' → Val Try.prog 18 #[regV r.league r.day s, .int .i64 p] h' (.tuple #[.int .i64 rc.1, .int .i64 rc.2.1, .bool rc.2.2]) := fun h' hl => hrc ▸ regClub_c h' s r (hr.le hl) p
      have hL1 : ∀ h', Le h h' → Val Try.prog 20 #[regV r.league r.day s, .int .i64 p] h' (.tuple #[.int .i64 rl.1, .bool rl.2]) := fun h' hle => hrl ▸ regLocked_c h' s r (hr.le hle) p
      have hC2 : ∀ h', Le hr3 h' → x.player ≠ p → Val Try.prog 18 #[regV r.league x.day s1, .int .i64 p] h' (.tuple #[.int .i64 rc.1, .int .i64 rc.2.1, .bool rc.2.2]) := fun h' hl hp => by
        have := regClub_c h' s1 ry (hlr h' hl) p
        rw [(clubsAlike hg hgy hye hp).1, hrc] at this; subst hry; exact this
      have hL2 : ∀ h', Le hr3 h' → x.player ≠ p → Val Try.prog 20 #[regV r.league x.day s1, .int .i64 p] h' (.tuple #[.int .i64 rl.1, .bool rl.2]) := fun h' hl hp => by
        have := regLocked_c h' s1 ry (hlr h' hl) p
        rw [(clubsAlike hg hgy hye hp).2, hrl] at this; subst hry; exact this
      refine GO_loopT (X := Nat) (fun k => k ≤ s.ne) (fun k => s.ne - k)
        (fun k => [(14, .int .i64 k), (13, .int .i64 s.ne), (7, .pointer (some ⟨b, 0, none⟩)), (4, .pointer (some ⟨bX, 0, none⟩)), (3, .pointer (some ⟨bR, 0, none⟩)), (2, .int .i64 p)])
        (fun k => [Blk b 25 (partL (regV r.league x.day s1)), Blk bX 27 (partL (entV x)), Blk bR 25 (partL (regV r.league r.day s))]) (fun _ => hr3) 0 (by omega) (by (repeat (first | exact trivial | refine ⟨rfl, ?_⟩)); done) (by (repeat (first | exact Takes_nil | (apply Takes_cons; exact (by (repeat (first | exact Take.here | apply Take.there)); done)))); done) rfl ?_
      rintro k hk ih
      by_cases hk2 : k < s.ne
      · have a1 := hen.addrD hk2
        have d1 := (hen.cellsD e0 hk2).le hl0
        have d2 := (hlr hr3 (Le.refl _)).ents.cellsD e0 (show k < s1.ne by omega)
        have hge : ry.ents.getD k e0 = r.ents.getD k e0 := by rw [hye]; simp [List.getD, List.getElem?_append_left (show k < r.ents.length by omega)]
        rw [hge] at d2
        generalize r.ents.getD k e0 = y at d1 d2
        clear hC1 hC2 hL1 hL2
        repeat' (first | apply GO_seq | apply GO_skip | apply GO_inBlock | apply GO_block | apply GO_region | apply GOl_nil | (apply GOl_add; exact rfl; exact rfl; exact rfl; omega; exact rfl; exact rfl) | (apply GOl_pv; exact rfl; exact rfl; exact rfl) | (apply GO_drawp (n := 16) [0, 1, 2, 3, 4, 5, 6, 7, 8, 9, 10] [(0, 0), (1, 0), (2, 0), (3, 0), (4, 0), (5, 0), (6, 0), (7, 0), (8, 0), (9, 0), (10, 0)]; kernel_rfl) | (apply GP_pv; exact rfl; kernel_rfl; exact rfl; exact rfl; exact rfl) | (apply GP_loadB; exact rfl; kernel_rfl; exact rfl; exact rfl; exact rfl; exact (by (repeat (first | exact List.Mem.head _ | apply List.Mem.tail)); done); exact rfl; exact rfl) | (apply GP_ov; exact rfl; kernel_rfl; exact rfl; exact rfl; (first | (apply OV_idxS (j := k); exact rfl; exact rfl; exact rfl; exact rfl; exact rfl; (first | exact had1 | exact a1); (with_reducible exact rfl); omega) | (apply OV_load; exact rfl; exact Lv_ro rfl d1 rfl) | (apply OV_load; exact rfl; exact Lv_ro rfl d2 rfl) | (apply OV_neqR; exact rfl; exact rfl; exact rfl; kernel_rfl; kernel_rfl)); exact (by repeat' (first | exact trivial | apply And.intro | exact List.Mem.head _ | apply List.Mem.tail))) | (apply GP_done; kernel_rfl; exact rfl) | (apply GO_cond; exact rfl; all_goals intro hc; all_goals try simp only [ltI_t, ltI_f, leI_t, leI_f, eqI_t, eqI_f, Bool.not_eq_true', Bool.not_eq_false', decide_eq_true_eq, decide_eq_false_iff_not, reduceCtorEq] at hc; all_goals try (exfalso; omega)))
        have h2 := ih (k + 1) (by omega) (by omega)
        refine GO_fit (by (repeat (first | exact trivial | refine ⟨rfl, ?_⟩)); done) (by (repeat (first | exact Takes_nil | (apply Takes_cons; exact (by (repeat (first | exact Take.here | apply Take.there)); done)))); done) (h2)
      · repeat' (first | apply GO_seq | apply GO_skip | apply GO_region | apply GOl_nil | (apply GO_exit; exact rfl) | (apply GOl_unwanted; exact rfl; exact rfl) | (apply GOl_pv; exact rfl; exact rfl; exact rfl) | (apply GOl_load; exact rfl; exact Ld_blk rfl (by (repeat (first | exact List.Mem.head _ | apply List.Mem.tail)); done) rfl; exact rfl; exact rfl) | (apply GOl_to; exact rfl; exact rfl; exact rfl; (first | (apply OpTo_val; exact rfl; exact has18; exact hC1 _ (by first | exact Le.refl _ | assumption | (repeat (first | assumption | (apply Le.trans; assumption)))); skip) | (apply OpTo_val; exact rfl; exact has18; exact hC2 _ (by first | exact Le.refl _ | assumption | (repeat (first | assumption | (apply Le.trans; assumption)))) (by omega); skip) | (apply OpTo_val; exact rfl; exact has20; exact hL1 _ (by first | exact Le.refl _ | assumption | (repeat (first | assumption | (apply Le.trans; assumption)))); skip) | (apply OpTo_val; exact rfl; exact has20; exact hL2 _ (by first | exact Le.refl _ | assumption | (repeat (first | assumption | (apply Le.trans; assumption)))) (by omega); skip))) | (apply GO_cond; exact rfl; all_goals intro hc; all_goals try simp only [ltI_t, ltI_f, leI_t, leI_f, eqI_t, eqI_f, Bool.not_eq_true', Bool.not_eq_false', decide_eq_true_eq, decide_eq_false_iff_not, reduceCtorEq] at hc; all_goals try (exfalso; omega)) | (apply GOl_split; exact rfl; exact rfl; all_goals intro hc; all_goals try simp only [ltI_t, ltI_f, leI_t, leI_f, eqI_t, eqI_f, Bool.not_eq_true', Bool.not_eq_false', decide_eq_true_eq, decide_eq_false_iff_not, reduceCtorEq] at hc; all_goals try (exfalso; omega)) | (apply GO_retV1; exact rfl; exact rfl; exact rfl))
        all_goals first | rfl | (simp at hc; done) | (simp [eqI_eq]; done)
    · have hE : ∀ h', Le h h' → Res Try.prog 13 #[regV r.league r.day s, entV x] h' (fun v h'' => ∃ s1 e, v = .tuple #[regV 0 0 s1, .int .i64 e] ∧ e ≠ 0 ∧ s1.ne = 0 ∧ s1.nc = 0) := fun h' hl => Res.mono (regEnter_c h' s r (hr.le hl) x) fun v h'' _ hp => by
        obtain ⟨s1, h1, h2⟩ := hp
        have e2 : (regEnter r x).1 = reg0 ∧ (regEnter r x).2 ≠ 0 := by
          unfold regEnter
          split
          · rename_i hg
            rw [if_neg (fun ha => hgo ⟨hg, ha⟩)]; exact ⟨rfl, fun ha => hgo ⟨hg, ha⟩⟩
          · exact ⟨rfl, by simp⟩
        rw [e2.1] at h1 h2
        exact ⟨s1, _, h1, e2.2, by have := h2.ents.len; simpa [reg0] using this.symm, by have := h2.clubs.len; simpa [reg0] using this.symm⟩
      repeat' (first | apply GO_seq | apply GO_skip | apply GO_region | apply GOl_nil | (apply GOl_pv; exact rfl; exact rfl; exact rfl) | (apply GOl_load; exact rfl; exact Ld_blk rfl (by (repeat (first | exact List.Mem.head _ | apply List.Mem.tail)); done) rfl; exact rfl; exact rfl) | (apply GOl_to; exact rfl; exact rfl; exact rfl; (first | (apply OpTo_store; exact rfl; exact rfl; exact rfl; exact (by (repeat (first | exact Repl.here | apply Repl.there)); done); exact rfl; exact rfl; exact rfl; skip) | (apply OpTo_box; exact rfl; intro b; skip) | (apply OpTo_alloc; exact rfl; intro b; skip) | (apply OpTo_val; exact rfl; exact has9; exact sane_c hS _; skip) | (apply OpTo_res; exact rfl; exact has13; exact hE _ (by first | exact Le.refl _ | assumption | (repeat (first | assumption | (apply Le.trans; assumption)))); rintro vr hr1 hle1 ⟨s1, e1, rfl, he1, hs1, hs2⟩; skip) | (apply OpTo_val; exact rfl; exact has10; exact few_c _ _ _ _; skip))) | (apply GO_cond; exact rfl; all_goals intro hc; all_goals try simp only [ltI_t, ltI_f, leI_t, leI_f, eqI_t, eqI_f, Bool.not_eq_true', Bool.not_eq_false', decide_eq_true_eq, decide_eq_false_iff_not, reduceCtorEq] at hc; all_goals try (exfalso; omega)) | (apply GOl_split; exact rfl; exact rfl; all_goals intro hc; all_goals try simp only [ltI_t, ltI_f, leI_t, leI_f, eqI_t, eqI_f, Bool.not_eq_true', Bool.not_eq_false', decide_eq_true_eq, decide_eq_false_iff_not, reduceCtorEq] at hc; all_goals try (exfalso; omega)) | (apply GO_retV1; exact rfl; exact rfl; exact rfl))
      all_goals first | rfl | (simp at hc; done) | (simp [eqI_eq, hs2]; done) | (exfalso; omega)
  · repeat' (first | apply GO_seq | apply GO_skip | apply GO_region | apply GOl_nil | (apply GOl_pv; exact rfl; exact rfl; exact rfl) | (apply GOl_load; exact rfl; exact Ld_blk rfl (by (repeat (first | exact List.Mem.head _ | apply List.Mem.tail)); done) rfl; exact rfl; exact rfl) | (apply GOl_to; exact rfl; exact rfl; exact rfl; (first | (apply OpTo_box; exact rfl; intro b; skip) | (apply OpTo_val; exact rfl; exact has9; exact sane_c hS _; skip) | (apply OpTo_val; exact rfl; exact has10; exact few_c _ _ _ _; skip))) | (apply GO_cond; exact rfl; all_goals intro hc; all_goals try simp only [ltI_t, ltI_f, leI_t, leI_f, eqI_t, eqI_f, Bool.not_eq_true', Bool.not_eq_false', decide_eq_true_eq, decide_eq_false_iff_not, reduceCtorEq] at hc; all_goals try (exfalso; omega)) | (apply GO_retV1; exact rfl; exact rfl; exact rfl))
    all_goals first | rfl | (simp at hc; done) | (simp [eqI_eq]; done)
end Go.Hw


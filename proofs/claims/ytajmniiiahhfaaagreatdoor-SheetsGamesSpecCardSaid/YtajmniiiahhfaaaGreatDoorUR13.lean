import Derived.Test.YtajmniiiahhfaaaGreatDoorUR12
/-
  The reference's sheets: With, played, Games, Disputes, walked.
-/
set_option linter.unusedVariables false
set_option linter.unusedSimpArgs false
set_option maxRecDepth 100000
set_option maxHeartbeats 8000000
namespace Go.Hw
open Go
attribute [local irreducible] GO GOl GDp Val Fn Res CellsAt ValE Blk OwnS MapA OwnPf Has Yl RngA
open Go.Proofs (Tryz.prog)
def insG (g : FGame) : List FGame → List FGame
  | [] => [g]
  | y :: r => if y = g then y :: r else if LtG g y then g :: y :: r else y :: insG g r
theorem insG_done {g : FGame} : ∀ {L : List FGame} {R : List FGame}, (∃ x ∈ L, ¬ LtG x g) → insG g (L ++ R) = insG g L ++ R
  | [], R, ⟨x, hx, _⟩ => by simp at hx
  | z :: r, R, ⟨x, hx, hn⟩ => by
    show insG g (z :: (r ++ R)) = insG g (z :: r) ++ R
    unfold insG
    by_cases h1 : z = g
    · rw [if_pos h1, if_pos h1]; rfl
    · rw [if_neg h1, if_neg h1]
      by_cases h2 : LtG g z
      · rw [if_pos h2, if_pos h2]; rfl
      · rw [if_neg h2, if_neg h2]
        have h3 : LtG z g := by
          rcases LtG.tri z g with h | h | h
          · exact h
          · exact absurd h h1
          · exact absurd h h2
        have : ∃ y ∈ r, ¬ LtG y g := by
          rcases List.mem_cons.1 hx with e | e
          · subst e; exact absurd h3 hn
          · exact ⟨x, e, hn⟩
        rw [insG_done this]; rfl
theorem insG_skip {g : FGame} : ∀ {L : List FGame} {R : List FGame}, (∀ x ∈ L, LtG x g) → insG g (L ++ R) = L ++ insG g R
  | [], R, _ => rfl
  | z :: r, R, h => by
    have hz := h z List.mem_cons_self
    show insG g (z :: (r ++ R)) = z :: (r ++ insG g R)
    conv => lhs; unfold insG
    rw [if_neg (fun e => by subst e; exact LtG.irrefl _ hz), if_neg (fun e => LtG.irrefl _ (e.trans hz)), insG_skip (fun x hx => h x (List.mem_cons_of_mem _ hx))]
theorem insG_mem {g x : FGame} : ∀ {l : List FGame}, x ∈ insG g l ↔ x = g ∨ x ∈ l
  | [] => by simp [insG]
  | y :: r => by
    unfold insG
    split
    · rename_i h; subst h
      exact ⟨.inr, fun h => h.elim (fun e => by subst e; exact List.mem_cons_self) id⟩
    · split
      · exact List.mem_cons
      · rw [List.mem_cons, insG_mem, List.mem_cons]
        constructor
        · rintro (h | h | h)
          · exact .inr (.inl h)
          · exact .inl h
          · exact .inr (.inr h)
        · rintro (h | h | h)
          · exact .inr (.inl h)
          · exact .inl h
          · exact .inr (.inr h)
theorem insG_lt {g : FGame} : ∀ {l : List FGame}, l.Pairwise LtG → (insG g l).Pairwise LtG
  | [], _ => by simp [insG]
  | y :: r, h => by
    have h0 := h
    rw [List.pairwise_cons] at h
    unfold insG
    split
    · exact h0
    · rename_i h1
      split
      · rename_i h2
        rw [List.pairwise_cons]
        refine ⟨fun z hz => ?_, h0⟩
        rcases List.mem_cons.1 hz with e | e
        · subst e; exact h2
        · exact h2.trans (h.1 z e)
      · rename_i h2
        rw [List.pairwise_cons]
        refine ⟨fun z hz => ?_, insG_lt h.2⟩
        rcases insG_mem.1 hz with e | e
        · subst e
          rcases LtG.tri y z with h | h | h
          · exact h
          · exact absurd h h1
          · exact absurd h h2
        · exact h.1 z e
theorem gameC_len (g : FGame) : (gameC g).length = 4 := rfl
theorem gameC_one : ∀ g, ∀ u ∈ gameC g, u.oneCell' = true := fun g => allOne_ok rfl
theorem less9_c (h : Ro) (a b : FGame) : Val Tryz.prog 121 #[gameV a, gameV b] h (.bool (decide (LtG a b))) := by
  refine Val_intro (args := [_, _]) ts_ok Go.Proofs.Tryz.func121 rfl rfl fun w0 X0 => ?_
  repeat' (first | apply GO_seq | apply GO_skip | apply GO_region | apply GOl_nil | (apply GOl_pv; (iterate 3 exact rfl)) | (apply GOl_load; exact rfl; exact Ld_blk rfl (by (repeat (first|exact List.Mem.head _|apply List.Mem.tail));done) rfl; exact rfl; exact rfl) | (apply GOl_to; (iterate 3 exact rfl); (first | (apply OpTo_box; exact rfl; intro b; skip))) | (apply GO_cond; exact rfl; all_goals intro hc; all_goals try simp only [hcS, reduceCtorEq] at hc; all_goals try (exfalso; omega)))
  all_goals (first | (apply GO_retV1; (iterate 3 exact rfl)))
  all_goals (refine dec_ofV ?_; (try simp only [ltI_t, ltI_f, eqI_t, eqI_f] at *); unfold LtG; omega)
theorem withG_c (h : Ro) (A : Option Addr) (n c : Nat) (l : List FGame) (hx : SlOf gameC 4 h A n l) (hn : n ≤ 1000000) (g : FGame) : Res Tryz.prog 96 #[.slice A n c, gameV g] h (fun u h' => ∃ A' c', u = .slice A' (insG g l).length c' ∧ SlOf gameC 4 h' A' (insG g l).length (insG g l)) := by
  refine Res_intro (args := [_, _]) ts_ok Go.Proofs.Tryz.func96 rfl rfl fun w0 X0 => ?_
  have hlen := hx.len
  repeat' (first | apply GO_seq | apply GO_block | apply GO_region | apply GOl_nil | (apply GOl_pv; (iterate 3 exact rfl)) | (apply GOl_to; (iterate 3 exact rfl); (first | (apply OpTo_box; exact rfl; intro b; skip) | (apply OpTo_buildSliceO (n := 0); (iterate 3 exact rfl); exact List.cons_ne_nil _ _; (iterate 6 exact rfl); intro b1; skip))))
  generalize b = b0
  refine GO_loopT (X := Nat × Bool × Nat × List FGame × Option Addr × Nat × Ro) (fun x => x.1 ≤ n ∧ x.2.2.2.1.length = x.2.2.1 ∧ x.2.2.1 ≤ x.1 + 1 ∧ Le h x.2.2.2.2.2.2 ∧ (x.2.1 = true → (∃ z ∈ l.take x.1, ¬ LtG z g) ∧ x.2.2.2.1 = insG g (l.take x.1)) ∧ (x.2.1 = false → (∀ z ∈ l.take x.1, LtG z g) ∧ x.2.2.2.1 = l.take x.1)) (fun x => n - x.1)
    (fun x => [(7, .int .i64 x.1), (6, .bool x.2.1), (5, .slice x.2.2.2.2.1 x.2.2.1 x.2.2.2.2.2.1), (3, .pointer (some ⟨b0, 0, none⟩)), (0, .slice A n c)])
    (fun x => [OwnS 24 4 (.slice x.2.2.2.2.1 x.2.2.1 x.2.2.2.2.2.1) x.2.2.1 (x.2.2.2.1.flatMap gameC), Blk b0 24 (gameC g)]) (fun x => x.2.2.2.2.2.2) (0, false, 0, [], some ⟨b1, 0, none⟩, 0, h) ⟨by dsimp only; omega, rfl, by dsimp only; omega, Le.refl _, (fun e => by cases e), fun _ => ⟨fun z hz => by simp at hz, rfl⟩⟩ (by (repeat (first|exact trivial|refine ⟨rfl, ?_⟩));done) (by (repeat (first | exact Takes_nil | (apply Takes_cons; exact (by (repeat (first|exact Take.here|apply Take.there));done)))); done) rfl ?_
  rintro ⟨i, d, m, o, A1, c1, hh⟩ ⟨hi, hm, hmi, hle, hd1, hd2⟩ ih
  dsimp only at hi hm hmi hle hd1 hd2 ih ⊢
  by_cases hin : i < n
  · have a1 := hx.addrD hin
    have cc : CellsAt h ((addrD A).add (i * ty24.size)) (gameC (l.getD i game0)) := hx.cellsD game0 hin
    have et := take7 game0 hlen hin
    generalize l.getD i game0 = y at *
    cases d with
    | true =>
      obtain ⟨q1, q2⟩ := hd1 rfl
      have e1 : o ++ [y] = insG g (l.take (i + 1)) := by rw [et, insG_done q1, q2]
      have q3 : ∃ z ∈ l.take (i + 1), ¬ LtG z g := by obtain ⟨z, hz, hz2⟩ := q1; exact ⟨z, by rw [et]; exact List.mem_append_left _ hz, hz2⟩
      repeat' (first | apply GO_seq | apply GO_skip | apply GO_inBlock | apply GO_block | apply GO_region | apply GOl_nil | (apply GOl_add; (iterate 3 exact rfl); omega; exact rfl; exact rfl) | (apply GOl_pv; (iterate 3 exact rfl)) | (apply GOl_ov; exact rfl; exact rfl; (first | (apply OV_idxS (j := i); (iterate 5 exact rfl); exact a1; (with_reducible exact rfl); omega) | (apply OV_load; exact rfl; exact Lv_ro rfl (cc.le (by first|exact Le.refl _|assumption|(repeat (first|assumption|(apply Le.trans;assumption))))) rfl)); exact (by repeat' (first|exact trivial|apply And.intro|exact List.Mem.head _|apply List.Mem.tail))) | (apply GOl_to; (iterate 3 exact rfl); (first | (apply OpTo_buildSliceS (enc := gameC) (n := 1) [y]; (iterate 3 exact rfl); exact List.cons_ne_nil _ _; (iterate 4 exact rfl); exact gameC_len; exact rfl; exact rfl; intro bz2 hz2 hlez2 hs2; skip) | (apply OpTo_appendS (enc := gameC) (n := m) (xs := o) (ys := [y]); (iterate 7 exact rfl); exact (hs2.le (by first|exact Le.refl _|assumption|(repeat (first|assumption|(apply Le.trans;assumption))))); exact gameC_len; exact gameC_one; intro v1; exact (by (repeat (first|exact Repl.here|apply Repl.there));done); omega; exact rfl; intro A2 c2; skip))) | (apply GO_drawp (n := 6) [0, 1, 2, 3, 4, 5] [(0, 0), (1, 0), (2, 0), (3, 0), (4, 0), (5, 0)]; kernel_rfl) | (apply GO_drawp (n := 8) [0, 1, 2, 3, 4, 5, 6, 7, 8, 9] [(0, 0), (1, 0), (2, 0), (3, 0), (4, 0), (5, 1), (6, 0), (7, 0), (8, 0), (9, 0)]; kernel_rfl) | (apply GP_un; exact rfl; kernel_rfl; exact rfl; exact rfl) | (apply GP_pv; exact rfl; kernel_rfl; (iterate 3 exact rfl)) | (apply GP_loadB; exact rfl; kernel_rfl; (iterate 3 exact rfl); exact (by (repeat (first|exact List.Mem.head _|apply List.Mem.tail));done); exact rfl; exact rfl) | (apply GP_ov; exact rfl; kernel_rfl; exact rfl; exact rfl; (first | (apply OV_eqlS; exact rfl; exact rfl; exact game_eq _ _; kernel_rfl; kernel_rfl) | (apply OV_idxS (j := i); (iterate 5 exact rfl); exact a1; (with_reducible exact rfl); omega) | (apply OV_load; exact rfl; exact Lv_ro rfl (cc.le (by first|exact Le.refl _|assumption|(repeat (first|assumption|(apply Le.trans;assumption))))) rfl)); exact (by repeat' (first|exact trivial|apply And.intro|exact List.Mem.head _|apply List.Mem.tail))) | (apply GP_real; exact rfl; kernel_rfl; (iterate 3 exact rfl); (first | (apply OpTo_val; exact rfl; exact has121; exact less9_c _ g y; refine ⟨Le.refl _, by (first | exact NdOk_no rfl | (apply NdOk_all; (repeat' (first|exact trivial|apply And.intro|exact List.Mem.head _|apply List.Mem.tail)); done) | (apply NdOk_need; (repeat' (first|exact trivial|apply And.intro|exact List.Mem.head _|apply List.Mem.tail)); done)), ?_⟩))) | (apply GP_done; kernel_rfl; exact rfl) | (apply GP_split; (iterate 5 exact rfl); all_goals intro hc; all_goals try simp only [hcS, reduceCtorEq] at hc; all_goals try (exfalso; omega)) | (apply GO_cond; exact rfl; all_goals intro hc; all_goals try simp only [hcS, reduceCtorEq] at hc; all_goals try (exfalso; omega)))
      all_goals (try (exfalso; omega))
      all_goals (try contradiction)
      all_goals
        have h3 := ih (i + 1, true, m + 1, o ++ [y], A2, c2, hz2) ⟨by dsimp only; omega, by simp [hm], by dsimp only; omega, hle.trans hlez2, fun _ => ⟨q3, e1⟩, fun e => by cases e⟩ (by dsimp only; omega)
        dsimp only at h3
        refine GO_fit (by (repeat (first|exact trivial|refine ⟨rfl, ?_⟩));done) (by (repeat (first | exact Takes_nil | (apply Takes_cons; exact (by (repeat (first|exact Take.here|apply Take.there));done)))); done) (h3)
    | false =>
      obtain ⟨q1, q2⟩ := hd2 rfl
      by_cases hyg : y = g
      · subst hyg
        have e1 : o ++ [y] = insG y (l.take (i + 1)) := by rw [et, insG_skip q1, q2]; unfold insG; rw [if_pos rfl]
        have q3 : ∃ z ∈ l.take (i + 1), ¬ LtG z y := ⟨y, by rw [et]; simp, LtG.irrefl _⟩
        repeat' (first | apply GO_seq | apply GO_skip | apply GO_inBlock | apply GO_block | apply GO_region | apply GOl_nil | (apply GOl_add; (iterate 3 exact rfl); omega; exact rfl; exact rfl) | (apply GOl_pv; (iterate 3 exact rfl)) | (apply GOl_load; exact rfl; exact Ld_blk rfl (by (repeat (first|exact List.Mem.head _|apply List.Mem.tail));done) rfl; exact rfl; exact rfl) | (apply GOl_ov; exact rfl; exact rfl; (first | (apply OV_idxS (j := i); (iterate 5 exact rfl); exact a1; (with_reducible exact rfl); omega) | (apply OV_load; exact rfl; exact Lv_ro rfl (cc.le (by first|exact Le.refl _|assumption|(repeat (first|assumption|(apply Le.trans;assumption))))) rfl)); exact (by repeat' (first|exact trivial|apply And.intro|exact List.Mem.head _|apply List.Mem.tail))) | (apply GOl_to; (iterate 3 exact rfl); (first | (apply OpTo_buildSliceS (enc := gameC) (n := 1) [y]; (iterate 3 exact rfl); exact List.cons_ne_nil _ _; (iterate 4 exact rfl); exact gameC_len; exact rfl; exact rfl; intro bz2 hz2 hlez2 hs2; skip) | (apply OpTo_appendS (enc := gameC) (n := m) (xs := o) (ys := [y]); (iterate 7 exact rfl); exact (hs2.le (by first|exact Le.refl _|assumption|(repeat (first|assumption|(apply Le.trans;assumption))))); exact gameC_len; exact gameC_one; intro v1; exact (by (repeat (first|exact Repl.here|apply Repl.there));done); omega; exact rfl; intro A2 c2; skip))) | (apply GO_drawp (n := 6) [0, 1, 2, 3, 4, 5] [(0, 0), (1, 0), (2, 0), (3, 0), (4, 0), (5, 0)]; kernel_rfl) | (apply GO_drawp (n := 8) [0, 1, 2, 3, 4, 5, 6, 7, 8, 9] [(0, 0), (1, 0), (2, 0), (3, 0), (4, 0), (5, 1), (6, 0), (7, 0), (8, 0), (9, 0)]; kernel_rfl) | (apply GP_un; exact rfl; kernel_rfl; exact rfl; exact rfl) | (apply GP_pv; exact rfl; kernel_rfl; (iterate 3 exact rfl)) | (apply GP_loadB; exact rfl; kernel_rfl; (iterate 3 exact rfl); exact (by (repeat (first|exact List.Mem.head _|apply List.Mem.tail));done); exact rfl; exact rfl) | (apply GP_ov; exact rfl; kernel_rfl; exact rfl; exact rfl; (first | (apply OV_eqlS; exact rfl; exact rfl; exact game_eq _ _; kernel_rfl; kernel_rfl) | (apply OV_idxS (j := i); (iterate 5 exact rfl); exact a1; (with_reducible exact rfl); omega) | (apply OV_load; exact rfl; exact Lv_ro rfl (cc.le (by first|exact Le.refl _|assumption|(repeat (first|assumption|(apply Le.trans;assumption))))) rfl)); exact (by repeat' (first|exact trivial|apply And.intro|exact List.Mem.head _|apply List.Mem.tail))) | (apply GP_real; exact rfl; kernel_rfl; (iterate 3 exact rfl); (first | (apply OpTo_val; exact rfl; exact has121; exact less9_c _ y y; refine ⟨Le.refl _, by (first | exact NdOk_no rfl | (apply NdOk_all; (repeat' (first|exact trivial|apply And.intro|exact List.Mem.head _|apply List.Mem.tail)); done) | (apply NdOk_need; (repeat' (first|exact trivial|apply And.intro|exact List.Mem.head _|apply List.Mem.tail)); done)), ?_⟩))) | (apply GP_done; kernel_rfl; exact rfl) | (apply GP_split; (iterate 5 exact rfl); all_goals intro hc; all_goals try simp only [hcS, reduceCtorEq] at hc; all_goals try (exfalso; omega)) | (apply GO_cond; exact rfl; all_goals intro hc; all_goals try simp only [hcS, reduceCtorEq] at hc; all_goals try (exfalso; omega)))
        all_goals (try (exfalso; omega))
        all_goals (try contradiction)
        all_goals
          have h3 := ih (i + 1, true, m + 1, o ++ [y], A2, c2, hz2) ⟨by dsimp only; omega, by simp [hm], by dsimp only; omega, hle.trans hlez2, fun _ => ⟨q3, e1⟩, fun e => by cases e⟩ (by dsimp only; omega)
          dsimp only at h3
          refine GO_fit (by (repeat (first|exact trivial|refine ⟨rfl, ?_⟩));done) (by (repeat (first | exact Takes_nil | (apply Takes_cons; exact (by (repeat (first|exact Take.here|apply Take.there));done)))); done) (h3)
      · by_cases hlt : LtG g y
        · have hmi2 : m = i := by rw [← hm, q2, List.length_take]; omega
          have e1 : o ++ [g] ++ [y] = insG g (l.take (i + 1)) := by rw [et, insG_skip q1, q2]; unfold insG; rw [if_neg hyg, if_pos hlt, List.append_assoc]; rfl
          have q3 : ∃ z ∈ l.take (i + 1), ¬ LtG z g := ⟨y, by rw [et]; simp, fun w => LtG.irrefl _ (w.trans hlt)⟩
          repeat' (first | apply GO_seq | apply GO_skip | apply GO_inBlock | apply GO_block | apply GO_region | apply GOl_nil | (apply GOl_add; (iterate 3 exact rfl); omega; exact rfl; exact rfl) | (apply GOl_pv; (iterate 3 exact rfl)) | (apply GOl_load; exact rfl; exact Ld_blk rfl (by (repeat (first|exact List.Mem.head _|apply List.Mem.tail));done) rfl; exact rfl; exact rfl) | (apply GOl_ov; exact rfl; exact rfl; (first | (apply OV_idxS (j := i); (iterate 5 exact rfl); exact a1; (with_reducible exact rfl); omega) | (apply OV_load; exact rfl; exact Lv_ro rfl (cc.le (by first|exact Le.refl _|assumption|(repeat (first|assumption|(apply Le.trans;assumption))))) rfl)); exact (by repeat' (first|exact trivial|apply And.intro|exact List.Mem.head _|apply List.Mem.tail))) | (apply GOl_to; (iterate 3 exact rfl); (first | (apply OpTo_buildSliceS (enc := gameC) (n := 1) [g]; (iterate 3 exact rfl); exact List.cons_ne_nil _ _; (iterate 4 exact rfl); exact gameC_len; exact rfl; exact rfl; intro bz2 hz2 hlez2 hs2; skip) | (apply OpTo_appendS (enc := gameC) (n := m) (xs := o) (ys := [g]); (iterate 7 exact rfl); exact (hs2.le (by first|exact Le.refl _|assumption|(repeat (first|assumption|(apply Le.trans;assumption))))); exact gameC_len; exact gameC_one; intro v1; exact (by (repeat (first|exact Repl.here|apply Repl.there));done); omega; exact rfl; intro A2 c2; skip) | (apply OpTo_buildSliceS (enc := gameC) (n := 1) [y]; (iterate 3 exact rfl); exact List.cons_ne_nil _ _; (iterate 4 exact rfl); exact gameC_len; exact rfl; exact rfl; intro bz3 hz3 hlez3 hs3; skip) | (apply OpTo_appendS (enc := gameC) (n := m + 1) (xs := o ++ [g]) (ys := [y]); (iterate 7 exact rfl); exact (hs3.le (by first|exact Le.refl _|assumption|(repeat (first|assumption|(apply Le.trans;assumption))))); exact gameC_len; exact gameC_one; intro v1; exact (by (repeat (first|exact Repl.here|apply Repl.there));done); omega; exact rfl; intro A3 c3; skip))) | (apply GO_drawp (n := 6) [0, 1, 2, 3, 4, 5] [(0, 0), (1, 0), (2, 0), (3, 0), (4, 0), (5, 0)]; kernel_rfl) | (apply GO_drawp (n := 8) [0, 1, 2, 3, 4, 5, 6, 7, 8, 9] [(0, 0), (1, 0), (2, 0), (3, 0), (4, 0), (5, 1), (6, 0), (7, 0), (8, 0), (9, 0)]; kernel_rfl) | (apply GP_un; exact rfl; kernel_rfl; exact rfl; exact rfl) | (apply GP_pv; exact rfl; kernel_rfl; (iterate 3 exact rfl)) | (apply GP_loadB; exact rfl; kernel_rfl; (iterate 3 exact rfl); exact (by (repeat (first|exact List.Mem.head _|apply List.Mem.tail));done); exact rfl; exact rfl) | (apply GP_ov; exact rfl; kernel_rfl; exact rfl; exact rfl; (first | (apply OV_eqlS; exact rfl; exact rfl; exact game_eq _ _; kernel_rfl; kernel_rfl) | (apply OV_idxS (j := i); (iterate 5 exact rfl); exact a1; (with_reducible exact rfl); omega) | (apply OV_load; exact rfl; exact Lv_ro rfl (cc.le (by first|exact Le.refl _|assumption|(repeat (first|assumption|(apply Le.trans;assumption))))) rfl)); exact (by repeat' (first|exact trivial|apply And.intro|exact List.Mem.head _|apply List.Mem.tail))) | (apply GP_real; exact rfl; kernel_rfl; (iterate 3 exact rfl); (first | (apply OpTo_val; exact rfl; exact has121; exact less9_c _ g y; refine ⟨Le.refl _, by (first | exact NdOk_no rfl | (apply NdOk_all; (repeat' (first|exact trivial|apply And.intro|exact List.Mem.head _|apply List.Mem.tail)); done) | (apply NdOk_need; (repeat' (first|exact trivial|apply And.intro|exact List.Mem.head _|apply List.Mem.tail)); done)), ?_⟩))) | (apply GP_done; kernel_rfl; exact rfl) | (apply GP_split; (iterate 5 exact rfl); all_goals intro hc; all_goals try simp only [hcS, reduceCtorEq] at hc; all_goals try (exfalso; omega)) | (apply GO_cond; exact rfl; all_goals intro hc; all_goals try simp only [hcS, reduceCtorEq] at hc; all_goals try (exfalso; omega)))
          all_goals (try (exfalso; omega))
          all_goals (try contradiction)
          all_goals
            have h3 := ih (i + 1, true, m + 1 + 1, o ++ [g] ++ [y], A3, c3, hz3) ⟨by dsimp only; omega, by simp [hm], by dsimp only; omega, hle.trans (by first|exact Le.refl _|assumption|(repeat (first|assumption|(apply Le.trans;assumption)))), fun _ => ⟨q3, e1⟩, fun e => by cases e⟩ (by dsimp only; omega)
            dsimp only at h3
            refine GO_fit (by (repeat (first|exact trivial|refine ⟨rfl, ?_⟩));done) (by (repeat (first | exact Takes_nil | (apply Takes_cons; exact (by (repeat (first|exact Take.here|apply Take.there));done)))); done) (h3)
        · have hyl : LtG y g := by
            rcases LtG.tri y g with h | h | h
            · exact h
            · exact absurd h hyg
            · exact absurd h hlt
          have e1 : o ++ [y] = l.take (i + 1) := by rw [et, q2]
          have q3 : ∀ z ∈ l.take (i + 1), LtG z g := fun z hz => by
            rw [et, List.mem_append, List.mem_singleton] at hz
            rcases hz with hz | rfl
            · exact q1 z hz
            · exact hyl
          repeat' (first | apply GO_seq | apply GO_skip | apply GO_inBlock | apply GO_block | apply GO_region | apply GOl_nil | (apply GOl_add; (iterate 3 exact rfl); omega; exact rfl; exact rfl) | (apply GOl_pv; (iterate 3 exact rfl)) | (apply GOl_load; exact rfl; exact Ld_blk rfl (by (repeat (first|exact List.Mem.head _|apply List.Mem.tail));done) rfl; exact rfl; exact rfl) | (apply GOl_ov; exact rfl; exact rfl; (first | (apply OV_idxS (j := i); (iterate 5 exact rfl); exact a1; (with_reducible exact rfl); omega) | (apply OV_load; exact rfl; exact Lv_ro rfl (cc.le (by first|exact Le.refl _|assumption|(repeat (first|assumption|(apply Le.trans;assumption))))) rfl)); exact (by repeat' (first|exact trivial|apply And.intro|exact List.Mem.head _|apply List.Mem.tail))) | (apply GOl_to; (iterate 3 exact rfl); (first | (apply OpTo_buildSliceS (enc := gameC) (n := 1) [y]; (iterate 3 exact rfl); exact List.cons_ne_nil _ _; (iterate 4 exact rfl); exact gameC_len; exact rfl; exact rfl; intro bz2 hz2 hlez2 hs2; skip) | (apply OpTo_appendS (enc := gameC) (n := m) (xs := o) (ys := [y]); (iterate 7 exact rfl); exact (hs2.le (by first|exact Le.refl _|assumption|(repeat (first|assumption|(apply Le.trans;assumption))))); exact gameC_len; exact gameC_one; intro v1; exact (by (repeat (first|exact Repl.here|apply Repl.there));done); omega; exact rfl; intro A2 c2; skip))) | (apply GO_drawp (n := 6) [0, 1, 2, 3, 4, 5] [(0, 0), (1, 0), (2, 0), (3, 0), (4, 0), (5, 0)]; kernel_rfl) | (apply GO_drawp (n := 8) [0, 1, 2, 3, 4, 5, 6, 7, 8, 9] [(0, 0), (1, 0), (2, 0), (3, 0), (4, 0), (5, 1), (6, 0), (7, 0), (8, 0), (9, 0)]; kernel_rfl) | (apply GP_un; exact rfl; kernel_rfl; exact rfl; exact rfl) | (apply GP_pv; exact rfl; kernel_rfl; (iterate 3 exact rfl)) | (apply GP_loadB; exact rfl; kernel_rfl; (iterate 3 exact rfl); exact (by (repeat (first|exact List.Mem.head _|apply List.Mem.tail));done); exact rfl; exact rfl) | (apply GP_ov; exact rfl; kernel_rfl; exact rfl; exact rfl; (first | (apply OV_eqlS; exact rfl; exact rfl; exact game_eq _ _; kernel_rfl; kernel_rfl) | (apply OV_idxS (j := i); (iterate 5 exact rfl); exact a1; (with_reducible exact rfl); omega) | (apply OV_load; exact rfl; exact Lv_ro rfl (cc.le (by first|exact Le.refl _|assumption|(repeat (first|assumption|(apply Le.trans;assumption))))) rfl)); exact (by repeat' (first|exact trivial|apply And.intro|exact List.Mem.head _|apply List.Mem.tail))) | (apply GP_real; exact rfl; kernel_rfl; (iterate 3 exact rfl); (first | (apply OpTo_val; exact rfl; exact has121; exact less9_c _ g y; refine ⟨Le.refl _, by (first | exact NdOk_no rfl | (apply NdOk_all; (repeat' (first|exact trivial|apply And.intro|exact List.Mem.head _|apply List.Mem.tail)); done) | (apply NdOk_need; (repeat' (first|exact trivial|apply And.intro|exact List.Mem.head _|apply List.Mem.tail)); done)), ?_⟩))) | (apply GP_done; kernel_rfl; exact rfl) | (apply GP_split; (iterate 5 exact rfl); all_goals intro hc; all_goals try simp only [hcS, reduceCtorEq] at hc; all_goals try (exfalso; omega)) | (apply GO_cond; exact rfl; all_goals intro hc; all_goals try simp only [hcS, reduceCtorEq] at hc; all_goals try (exfalso; omega)))
          all_goals (try (exfalso; omega))
          all_goals (try contradiction)
          all_goals
            have h3 := ih (i + 1, false, m + 1, o ++ [y], A2, c2, hz2) ⟨by dsimp only; omega, by simp [hm], by dsimp only; omega, hle.trans hlez2, (fun e => by cases e), fun _ => ⟨q3, e1⟩⟩ (by dsimp only; omega)
            dsimp only at h3
            refine GO_fit (by (repeat (first|exact trivial|refine ⟨rfl, ?_⟩));done) (by (repeat (first | exact Takes_nil | (apply Takes_cons; exact (by (repeat (first|exact Take.here|apply Take.there));done)))); done) (h3)
  · rw [List.take_of_length_le (by omega)] at hd1 hd2
    clear ih
    cases d with
    | true =>
      have e1 := (hd1 rfl).2
      repeat' (first | apply GO_seq | apply GO_skip | apply GO_region | apply GOl_nil | (apply GO_exit; exact rfl) | (apply GOl_pv; (iterate 3 exact rfl)) | (apply GO_cond; exact rfl; all_goals intro hc; all_goals try simp only [hcS, reduceCtorEq] at hc; all_goals try (exfalso; omega)))
      all_goals (try (exfalso; omega))
      all_goals
        refine GO_relS (enc := gameC) (xs := o) gameC_len hm (by (repeat (first|exact Take.here|apply Take.there));done) ?_
        intro A9 c9 h9 hle9 e9 hs9
        injection e9 with e91 _ e93
        subst e91; subst e93
        refine GO_retR1 rfl rfl rfl ?_
        rw [← e1, hm]
        exact ⟨_, _, rfl, hs9⟩
    | false =>
      obtain ⟨q1, q2⟩ := hd2 rfl
      have e1 : o ++ [g] = insG g l := by
        have := insG_skip (R := []) q1
        rw [List.append_nil] at this
        rw [this, q2]; rfl
      repeat' (first | apply GO_seq | apply GO_region | apply GOl_nil | (apply GO_exit; exact rfl) | (apply GOl_pv; (iterate 3 exact rfl)) | (apply GOl_load; exact rfl; exact Ld_blk rfl (by (repeat (first|exact List.Mem.head _|apply List.Mem.tail));done) rfl; exact rfl; exact rfl) | (apply GOl_to; (iterate 3 exact rfl); (first | (apply OpTo_buildSliceS (enc := gameC) (n := 1) [g]; (iterate 3 exact rfl); exact List.cons_ne_nil _ _; (iterate 4 exact rfl); exact gameC_len; exact rfl; exact rfl; intro bz2 hz2 hlez2 hs2; skip) | (apply OpTo_appendS (enc := gameC) (n := m) (xs := o) (ys := [g]); (iterate 7 exact rfl); exact (hs2.le (by first|exact Le.refl _|assumption|(repeat (first|assumption|(apply Le.trans;assumption))))); exact gameC_len; exact gameC_one; intro v1; exact (by (repeat (first|exact Repl.here|apply Repl.there));done); omega; exact rfl; intro A2 c2; skip))) | (apply GO_cond; exact rfl; all_goals intro hc; all_goals try simp only [hcS, reduceCtorEq] at hc; all_goals try (exfalso; omega)))
      all_goals (try (exfalso; omega))
      all_goals
        refine GO_relS (enc := gameC) (xs := o ++ [g]) (n := m + 1) gameC_len (by simp [hm]) (by (repeat (first|exact Take.here|apply Take.there));done) ?_
        intro A9 c9 h9 hle9 e9 hs9
        injection e9 with e91 _ e93
        subst e91; subst e93
        refine GO_retR1 rfl rfl rfl ?_
        have e8 : (insG g l).length = m + 1 := by rw [← e1]; simp [hm]
        rw [e8, ← e1]
        exact ⟨_, _, rfl, hs9⟩
end Go.Hw

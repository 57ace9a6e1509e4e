import Derived.Test.YtekcphgpmihmlabGreatDoorVS6
import Derived.Test.YtekcphgpmihmlabGreatDoorHB
/-
  The law SheetsDisputes, walked.
-/
set_option linter.unusedVariables false
set_option linter.unusedSimpArgs false
set_option maxRecDepth 100000
set_option maxHeartbeats 4000000
namespace Go.Hw
open Go
attribute [local irreducible] GO GOl GDp Val Fn Res CellsAt ValE Blk OwnS MapA OwnPf Has Yl RngA
open Go.Proofs (Tryz.prog)

theorem lt_adj {D : List FGame} (h : D.Pairwise LtG) {i : Nat} (hi : i + 1 < D.length) : LtG (D.getD i game0) (D.getD (i + 1) game0) := by
  have := List.pairwise_iff_getElem.1 h i (i + 1) (by omega) hi (by omega)
  rw [List.getD_eq_getElem?_getD, List.getD_eq_getElem?_getD, List.getElem?_eq_getElem hi, List.getElem?_eq_getElem (show i < D.length by omega)]
  exact this
theorem lt_at {D : List FGame} (h : D.Pairwise LtG) {i : Nat} (hi : i < D.length) (h0 : 0 < i) : LtG (D.getD (i - 1) game0) (D.getD i game0) := by
  have := lt_adj h (i := i - 1) (by omega)
  rwa [show i - 1 + 1 = i by omega] at this
theorem scoreO_nz {a b : Option Fct} (h : a ≠ none ∨ b ≠ none) : (scoreO a b).kind ≠ 0 := by
  cases a <;> cases b
  · simp at h
  · show (1 : Int) ≠ 0; decide
  · show (1 : Int) ≠ 0; decide
  · unfold scoreO
    dsimp only
    split
    · show (2 : Int) ≠ 0; decide
    · show (3 : Int) ≠ 0; decide
theorem scoreF_nz {l : List Fct} {g : FGame} (hv : ∀ f ∈ l, f.void.length = 32) {f : Fct} (hf : f ∈ l) (h1 : f.kind = 3) (h2 : FctOk f) (h3 : f.sh.g = g) : (scoreF l g).kind ≠ 0 := by
  unfold scoreF
  refine scoreO_nz ?_
  rcases ref_of h2 h1 with h | h
  · exact .inl fun hn => (bestF_none hv).1 hn f hf ⟨h1, h2, h3, h⟩
  · exact .inr fun hn => (bestF_none hv).1 hn f hf ⟨h1, h2, h3, h⟩
theorem any_take {D : List FGame} {g : FGame} {k : Nat} (hk : k < D.length) : decide (g ∈ D.take (k + 1)) = (decide (g ∈ D.take k) || decide (D.getD k game0 = g)) := by
  rw [take7 game0 rfl hk, Bool.eq_iff_iff]
  simp only [List.mem_append, List.mem_singleton, Bool.or_eq_true, decide_eq_true_eq]
  exact ⟨fun h => h.imp id fun h => h.symm, fun h => h.imp id fun h => h.symm⟩


theorem less9_c (h : Ro) (a b : FGame) : Val Tryz.prog 9 #[gameV a, gameV b] h (.bool (decide (LtG a b))) := by
  refine Val_intro (args := [_, _]) ts_ok Go.Proofs.Tryz.func9 rfl rfl fun w0 X0 => ?_
  repeat' (first | apply GO_seq | apply GO_skip | apply GO_region | apply GOl_nil | (apply GOl_pv; exact rfl; exact rfl; exact rfl) | (apply GOl_load; exact rfl; exact Ld_blk rfl (by (repeat (first | exact List.Mem.head _ | apply List.Mem.tail)); done) rfl; exact rfl; exact rfl) | (apply GOl_to; exact rfl; exact rfl; exact rfl; (first | (apply OpTo_box; exact rfl; intro b; skip))) | (apply GO_cond; exact rfl; all_goals intro hc; all_goals try simp only [ltI_t, ltI_f, leI_t, leI_f, eqI_t, eqI_f, Bool.not_eq_true', Bool.not_eq_false', decide_eq_true_eq, decide_eq_false_iff_not, reduceCtorEq] at hc; all_goals try (exfalso; omega)))
  all_goals (first | (apply GO_retV1; exact rfl; exact rfl; exact rfl))
  all_goals (refine dec_ofV ?_; (try simp only [ltI_t, ltI_f, eqI_t, eqI_f] at *); unfold LtG; omega)

theorem less9_t (h : Ro) (a b : FGame) (hl : LtG a b) : Val Tryz.prog 9 #[gameV a, gameV b] h (.bool true) := by
  have := less9_c h a b
  rwa [decide_eq_true hl] at this
def scoreC (s : Fsh) (x : FScore) : List Value := .int .i64 x.kind :: (sheetC s x.sh ++ [.int .i64 x.day])


theorem disputes9_c (h : Ro) (hG : PowG h) (A : Option Addr) (n c : Nat) (l : List (Fsh × Fct)) (hx : SlOf encF82 82 h A n l) (hf : ∀ p ∈ l, FAt h p.1 p.2) (hn : n ≤ 9223372036854775807) (season comp : Int) : Val Tryz.prog 3 #[.slice A n c, .int .i64 season, .int .i64 comp] h (.bool true) := by
  refine Val_intro (args := [_, _, _]) ts_ok Go.Proofs.Tryz.func3 rfl rfl fun w0 X0 => ?_
  have hfew := fewF_c h A n c l hx hn 12
  have hsane := sane9_c h hG
  by_cases hF : (∀ p ∈ l, SmallS p.1 p.2) ∧ (n : Int) ≤ 12
  · rw [decide_eq_true hF] at hfew
    have hfa := factsOf hx hf hF.1 (by omega)
    have hn12 : n ≤ 12 := by omega
    clear hF hn hf
    have hlen := hx.len
    have hadr := fun i (hi : i < n) => hx.addrD hi
    have hcel := fun i (hi : i < n) => hx.cellsD p0 hi
    have hvl := cont_void hfa
    obtain ⟨D, hDe⟩ : ∃ D, D = disputesL l := ⟨_, rfl⟩
    obtain ⟨G, hGe⟩ : ∃ G, G = gamesL l season comp := ⟨_, rfl⟩
    have hDl : D.length ≤ 1000000000 := by rw [hDe]; exact disputesL_len hfa
    have hDm : ∀ g, g ∈ D ↔ (scoreF (cont l) g).kind = 3 := fun g => by rw [hDe]; exact disputesL_mem
    have hDlt : D.Pairwise LtG := by rw [hDe]; exact disputesL_lt l
    have hGlt : G.Pairwise LtG := by rw [hGe]; exact gamesL_lt l season comp
    have hGm : ∀ g ∈ G, g.s = season ∧ g.c = comp ∧ (scoreF (cont l) g).kind ≠ 0 := fun g hg => by
      rw [hGe, gamesL_mem] at hg
      obtain ⟨q1, q2, f, q3, q4, q5, q6⟩ := hg
      exact ⟨q1, q2, scoreF_nz hvl q3 q4 q5 q6⟩
    have hGi : ∀ p ∈ l, FctOk p.2 → p.2.kind = 3 → p.2.sh.g.s = season → p.2.sh.g.c = comp → p.2.sh.g ∈ G := fun p hp q1 q2 q3 q4 => by
      rw [hGe, gamesL_mem]
      exact ⟨q3, q4, p.2, cont_mem.2 ⟨p.1, hp⟩, q2, q1, rfl⟩
    have sc : ∀ h' g, Le h h' → Res Tryz.prog 8 #[.slice A n c, gameV g] h' (fun u h' => ∃ s, u = scoreV s (scoreF (cont l) g) ∧ ShAt h' s (scoreF (cont l) g).sh ∧ ShSm (scoreF (cont l) g).sh) := fun h' g hl' => score2_c h' (hG.le hl') A n c l (hfa.le hl') g
    have di : Res Tryz.prog 7 #[.slice A n c] h (fun u h' => ∃ A c, u = .slice A D.length c ∧ SlOf gameC 4 h' A D.length D) := by rw [hDe]; exact disputes_c h hG A n c l hfa
    have ga : ∀ h', Le h h' → Res Tryz.prog 10 #[.slice A n c, .int .i64 season, .int .i64 comp] h' (fun u h' => ∃ A c, u = .slice A G.length c ∧ SlOf gameC 4 h' A G.length G) := fun h' hl' => by rw [hGe]; exact games_c h' (hG.le hl') A n c l (hfa.le hl') season comp
    have hGl : G.length ≤ 1000000000 := by
      rw [hGe]
      have h1 := pairsL_len hfa
      have h2 : (gamesL l season comp).length ≤ (pairsL l).length := by
        unfold gamesL
        rw [sortG_len]
        unfold keysOf
        rw [List.length_map]
        exact List.length_filter_le _ _
      omega
    clear hDe hGe
    repeat' (first | apply GO_seq | apply GO_skip | apply GO_block | apply GO_region | apply GOl_nil | (apply GOl_pv; exact rfl; exact rfl; exact rfl) | (apply GOl_to; exact rfl; exact rfl; exact rfl; (first | (apply OpTo_val; exact rfl; exact has5; exact hsane; skip) | (apply OpTo_val; exact rfl; exact has6; exact hfew; skip) | (apply OpTo_res; exact rfl; exact has7; exact di; rintro v1 h1 hle1 ⟨A1, c1, rfl, hs1⟩; skip))) | (apply GO_cond; exact rfl; all_goals intro hc; all_goals try simp only [ltI_t, ltI_f, leI_t, leI_f, eqI_t, eqI_f, Bool.not_eq_true', Bool.not_eq_false', decide_eq_true_eq, decide_eq_false_iff_not, reduceCtorEq] at hc; all_goals try (exfalso; omega)))
    have hl1 : Le h h1 := (by first | exact Le.refl _ | assumption | (repeat (first | assumption | (apply Le.trans; assumption))))
    refine GO_loopT (X := Nat × Ro) (fun x => x.1 ≤ D.length ∧ Le h1 x.2) (fun x => D.length - x.1)
      (fun x => [(8, .int .i64 x.1), (7, .slice A1 D.length c1), (0, .slice A n c), (1, .int .i64 season), (2, .int .i64 comp)]) (fun _ => []) (fun x => x.2) (0, h1) ⟨by omega, Le.refl _⟩ (by (repeat (first | exact trivial | refine ⟨rfl, ?_⟩)); done) (by (repeat (first | exact Takes_nil | (apply Takes_cons; exact (by (repeat (first | exact Take.here | apply Take.there)); done)))); done) rfl ?_
    rintro ⟨i, hk⟩ ⟨hi, hlk⟩ ih
    dsimp only at hi hlk ih ⊢
    by_cases hiD : i < D.length
    · have a1 := hs1.addrD hiD
      have e1 := (hs1.cellsD game0 hiD).le hlk
      have a0 := hs1.addrD (show i - 1 < D.length by omega)
      have e0 := (hs1.cellsD game0 (show i - 1 < D.length by omega)).le hlk
      have hm1 := (hDm (D.getD i game0)).1 (mem7 game0 hiD)
      have sc1 := sc hk (D.getD i game0) (hl1.trans hlk)
      have hlt := lt_at hDlt hiD
      generalize D.getD (i - 1) game0 = g0 at *
      generalize D.getD i game0 = g at *
      generalize scoreF (cont l) g = x at *
      obtain ⟨xk, xs, xd⟩ := x
      dsimp only at hm1 sc1
      repeat' (first | apply GO_seq | apply GO_skip | apply GO_inBlock | apply GO_block | apply GO_region | apply GOl_nil | (apply GOl_add; exact rfl; exact rfl; exact rfl; omega; exact rfl; exact rfl) | (apply GOl_pv; exact rfl; exact rfl; exact rfl) | (apply GO_drawp (n := 9) [0, 1, 2, 3, 4, 5, 6, 7, 8, 9, 10, 11, 12, 13, 14, 15, 16, 17, 18, 19, 20, 21, 22, 23, 24] [(0, 0), (1, 0), (2, 0), (3, 0), (4, 0), (5, 1), (6, 0), (7, 0), (8, 0), (9, 0), (10, 0), (11, 0), (12, 0), (13, 0), (14, 0), (15, 0), (16, 0), (17, 0), (18, 0), (19, 0), (20, 0), (21, 1), (22, 0), (23, 0), (24, 0)]; kernel_rfl) | (apply GP_un; exact rfl; kernel_rfl; exact rfl; exact rfl) | (apply GP_sub; exact rfl; kernel_rfl; exact rfl; exact rfl; exact rfl; exact rfl; exact rfl; omega) | (apply GP_pv; exact rfl; kernel_rfl; exact rfl; exact rfl; exact rfl) | (apply GP_ov; exact rfl; kernel_rfl; exact rfl; exact rfl; (first | (apply OV_idxS (j := i); exact rfl; exact rfl; exact rfl; exact rfl; exact rfl; exact a1; (with_reducible exact rfl); omega) | (apply OV_idxS (j := i - 1); exact rfl; exact rfl; exact rfl; exact rfl; exact rfl; exact a0; omega; omega) | (apply OV_load; exact rfl; exact Lv_ro rfl (e1.le (by first | exact Le.refl _ | assumption | (repeat (first | assumption | (apply Le.trans; assumption))))) rfl) | (apply OV_load; exact rfl; exact Lv_ro rfl (e0.le (by first | exact Le.refl _ | assumption | (repeat (first | assumption | (apply Le.trans; assumption))))) rfl)); exact (by repeat' (first | exact trivial | apply And.intro | exact List.Mem.head _ | apply List.Mem.tail))) | (apply GP_real; exact rfl; kernel_rfl; exact rfl; exact rfl; exact rfl; (first | (apply OpTo_res; exact rfl; exact has8; exact sc1; rintro v5 h5 hle5 ⟨s5, rfl, hs5, hsm⟩; refine ⟨hle5, by (first | exact NdOk_no rfl | (apply NdOk_all; (repeat' (first | exact trivial | apply And.intro | exact List.Mem.head _ | apply List.Mem.tail)); done) | (apply NdOk_need; (repeat' (first | exact trivial | apply And.intro | exact List.Mem.head _ | apply List.Mem.tail)); done)), ?_⟩) | (apply OpTo_val; exact rfl; exact has9; exact less9_t _ _ _ (hlt (by omega)); refine ⟨Le.refl _, by (first | exact NdOk_no rfl | (apply NdOk_all; (repeat' (first | exact trivial | apply And.intro | exact List.Mem.head _ | apply List.Mem.tail)); done) | (apply NdOk_need; (repeat' (first | exact trivial | apply And.intro | exact List.Mem.head _ | apply List.Mem.tail)); done)), ?_⟩))) | (apply GP_done; kernel_rfl; exact rfl) | (apply GP_split; exact rfl; exact rfl; exact rfl; exact rfl; exact rfl; all_goals intro hc; all_goals try simp only [ltI_t, ltI_f, leI_t, leI_f, eqI_t, eqI_f, Bool.not_eq_true', Bool.not_eq_false', decide_eq_true_eq, decide_eq_false_iff_not, reduceCtorEq] at hc; all_goals try (exfalso; omega)) | (apply GO_cond; exact rfl; all_goals intro hc; all_goals try simp only [ltI_t, ltI_f, leI_t, leI_f, eqI_t, eqI_f, Bool.not_eq_true', Bool.not_eq_false', decide_eq_true_eq, decide_eq_false_iff_not, reduceCtorEq] at hc; all_goals try (exfalso; omega)) | (apply GP_un1; exact rfl; kernel_rfl; exact rfl; exact rfl))
      all_goals first
        | (have h2 := ih (i + 1, h5) ⟨by show i + 1 ≤ D.length; omega, hlk.trans hle5⟩ (by show D.length - (i + 1) < D.length - i; omega)
           refine GO_fit (by (repeat (first | exact trivial | refine ⟨rfl, ?_⟩)); done) (by (repeat (first | exact Takes_nil | (apply Takes_cons; exact (by (repeat (first | exact Take.here | apply Take.there)); done)))); done) (h2))
       
    · clear ih
      repeat' (first | apply GO_seq | apply GO_block | apply GO_region | apply GOl_nil | (apply GO_exit; exact rfl) | (apply GOl_pv; exact rfl; exact rfl; exact rfl) | (apply GOl_to; exact rfl; exact rfl; exact rfl; (first | (apply OpTo_res; exact rfl; exact has10; exact ga _ (hl1.trans hlk); rintro v2 h2 hle2 ⟨A2, c2, rfl, hs2⟩; skip))) | (apply GO_cond; exact rfl; all_goals intro hc; all_goals try simp only [ltI_t, ltI_f, leI_t, leI_f, eqI_t, eqI_f, Bool.not_eq_true', Bool.not_eq_false', decide_eq_true_eq, decide_eq_false_iff_not, reduceCtorEq] at hc; all_goals try (exfalso; omega)))
      have hl2 : Le h h2 := (hl1.trans hlk).trans hle2
      have hl12 : Le h1 h2 := hlk.trans hle2
      refine GO_loopT (X := Nat × Ro) (fun x => x.1 ≤ G.length ∧ Le h2 x.2) (fun x => G.length - x.1)
        (fun x => [(10, .int .i64 x.1), (9, .slice A2 G.length c2), (7, .slice A1 D.length c1), (0, .slice A n c), (1, .int .i64 season), (2, .int .i64 comp)]) (fun _ => []) (fun x => x.2) (0, h2) ⟨by omega, Le.refl _⟩ (by (repeat (first | exact trivial | refine ⟨rfl, ?_⟩)); done) (by (repeat (first | exact Takes_nil | (apply Takes_cons; exact (by (repeat (first | exact Take.here | apply Take.there)); done)))); done) rfl ?_
      rintro ⟨i, hk2⟩ ⟨hi, hlk2⟩ ih
      dsimp only at hi hlk2 ih ⊢
      by_cases hiG : i < G.length
      · have a1 := hs2.addrD hiG
        have e1 := (hs2.cellsD game0 hiG).le hlk2
        have a0 := hs2.addrD (show i - 1 < G.length by omega)
        have e0 := (hs2.cellsD game0 (show i - 1 < G.length by omega)).le hlk2
        obtain ⟨q1, q2, q3⟩ := hGm _ (mem7 game0 hiG)
        have hmD := hDm (G.getD i game0)
        have sc1 := sc hk2 (G.getD i game0) (hl2.trans hlk2)
        have hlt := lt_at hGlt hiG
        generalize G.getD (i - 1) game0 = g0 at *
        generalize G.getD i game0 = g at *
        generalize scoreF (cont l) g = x at *
        obtain ⟨xk, xs, xd⟩ := x
        dsimp only at hmD q3 sc1
        repeat' (first | apply GO_seq | apply GO_skip | apply GO_block | apply GO_region | apply GOl_nil | (apply GOl_to; exact rfl; exact rfl; exact rfl; apply OpTo_alloc (e := 28); exact rfl; intro bg) | (apply GOl_to; exact rfl; exact rfl; exact rfl; apply OpTo_alloc (e := 34); exact rfl; intro bs) | (apply GOl_pv; exact rfl; exact rfl; exact rfl) | (apply GOl_load; exact rfl; exact Ld_blk rfl (by (repeat (first | exact List.Mem.head _ | apply List.Mem.tail)); done) rfl; exact rfl; exact rfl) | (apply GOl_ov; exact rfl; exact rfl; (first | (apply OV_idxS (j := i); exact rfl; exact rfl; exact rfl; exact rfl; exact rfl; exact a1; (with_reducible exact rfl); omega) | (apply OV_load; exact rfl; exact Lv_ro rfl (e1.le (by first | exact Le.refl _ | assumption | (repeat (first | assumption | (apply Le.trans; assumption))))) rfl)); exact (by repeat' (first | exact trivial | apply And.intro | exact List.Mem.head _ | apply List.Mem.tail))) | (apply GOl_to; exact rfl; exact rfl; exact rfl; (first | (apply OpTo_store; exact rfl; exact rfl; exact rfl; exact (by (repeat (first | exact Repl.here | apply Repl.there)); done); exact rfl; exact rfl; exact rfl; skip) | (apply OpTo_res; exact rfl; exact has8; exact sc1; rintro v5 h5 hle5 ⟨s5, rfl, hs5, hsm⟩; skip))) | (apply GO_drawp (n := 17) [0, 1, 2, 3, 4, 5, 6, 7, 8, 9, 10, 11, 12, 13, 14, 15, 16, 17, 18, 19, 20, 21, 22, 23, 24, 25, 26, 27, 28] [(0, 0), (1, 0), (2, 0), (3, 0), (4, 0), (5, 0), (6, 0), (7, 0), (8, 0), (9, 0), (10, 0), (11, 0), (12, 0), (13, 0), (14, 0), (15, 0), (16, 0), (17, 0), (18, 0), (19, 0), (20, 0), (21, 0), (22, 0), (23, 0), (24, 0), (25, 1), (26, 0), (27, 0), (28, 0)]; kernel_rfl) | (apply GP_un; exact rfl; kernel_rfl; exact rfl; exact rfl) | (apply GP_sub; exact rfl; kernel_rfl; exact rfl; exact rfl; exact rfl; exact rfl; exact rfl; omega) | (apply GP_pv; exact rfl; kernel_rfl; exact rfl; exact rfl; exact rfl) | (apply GP_loadB; exact rfl; kernel_rfl; exact rfl; exact rfl; exact rfl; exact (by (repeat (first | exact List.Mem.head _ | apply List.Mem.tail)); done); exact rfl; exact rfl) | (apply GP_ov; exact rfl; kernel_rfl; exact rfl; exact rfl; (first | (apply OV_idxS (j := i - 1); exact rfl; exact rfl; exact rfl; exact rfl; exact rfl; exact a0; omega; omega) | (apply OV_load; exact rfl; exact Lv_ro rfl (e0.le (by first | exact Le.refl _ | assumption | (repeat (first | assumption | (apply Le.trans; assumption))))) rfl)); exact (by repeat' (first | exact trivial | apply And.intro | exact List.Mem.head _ | apply List.Mem.tail))) | (apply GP_real; exact rfl; kernel_rfl; exact rfl; exact rfl; exact rfl; (first | (apply OpTo_val; exact rfl; exact has9; exact less9_t _ _ _ (hlt (by omega)); refine ⟨Le.refl _, by (first | exact NdOk_no rfl | (apply NdOk_all; (repeat' (first | exact trivial | apply And.intro | exact List.Mem.head _ | apply List.Mem.tail)); done) | (apply NdOk_need; (repeat' (first | exact trivial | apply And.intro | exact List.Mem.head _ | apply List.Mem.tail)); done)), ?_⟩))) | (apply GP_done; kernel_rfl; exact rfl) | (apply GP_split; exact rfl; exact rfl; exact rfl; exact rfl; exact rfl; all_goals intro hc; all_goals try simp only [ltI_t, ltI_f, leI_t, leI_f, eqI_t, eqI_f, Bool.not_eq_true', Bool.not_eq_false', decide_eq_true_eq, decide_eq_false_iff_not, reduceCtorEq] at hc; all_goals try (exfalso; omega)) | (apply GO_cond; exact rfl; all_goals intro hc; all_goals try simp only [ltI_t, ltI_f, leI_t, leI_f, eqI_t, eqI_f, Bool.not_eq_true', Bool.not_eq_false', decide_eq_true_eq, decide_eq_false_iff_not, reduceCtorEq] at hc; all_goals try (exfalso; omega)) | (apply GP_un1; exact rfl; kernel_rfl; exact rfl; exact rfl))
        all_goals
          have hl5 : Le h1 h5 := hl12.trans (hlk2.trans hle5)
          refine GO_loopT (X := Nat) (fun k => k ≤ D.length) (fun k => D.length - k)
            (fun k => [(14, .int .i64 k), (13, .bool (decide (g ∈ D.take k))), (10, .int .i64 i), (9, .slice A2 G.length c2), (7, .slice A1 D.length c1), (11, .pointer (some ⟨bg, 0, none⟩)), (12, .pointer (some ⟨bs, 0, none⟩)), (0, .slice A n c), (1, .int .i64 season), (2, .int .i64 comp)])
            (fun _ => [Blk bg 28 (gameC g), Blk bs 34 (scoreC s5 ⟨xk, xs, xd⟩)]) (fun _ => h5) 0 (by omega) (by (repeat (first | exact trivial | refine ⟨rfl, ?_⟩)); done) (by (repeat (first | exact Takes_nil | (apply Takes_cons; exact (by (repeat (first | exact Take.here | apply Take.there)); done)))); done) rfl ?_
          rintro k hkn ih2
          try dsimp only at hkn
          try dsimp only at ih2
          try dsimp only
          by_cases hkD : k < D.length
          · have a3 := hs1.addrD hkD
            have e3 := (hs1.cellsD game0 hkD).le hl5
            have hat := any_take (g := g) hkD
            have h3 := ih2 (k + 1) (by omega) (by omega)
            rw [hat] at h3
            generalize D.getD k game0 = g3 at *
            repeat' (first | apply GO_seq | apply GO_skip | apply GO_inBlock | apply GO_block | apply GO_region | apply GOl_nil | (apply GOl_add; exact rfl; exact rfl; exact rfl; omega; exact rfl; exact rfl) | (apply GOl_pv; exact rfl; exact rfl; exact rfl) | (apply GO_drawp (n := 23) [0, 1, 2, 3, 4, 5, 6, 7, 8, 9] [(0, 0), (1, 0), (2, 0), (3, 0), (4, 0), (5, 0), (6, 0), (7, 0), (8, 0), (9, 0)]; kernel_rfl) | (apply GP_un; exact rfl; kernel_rfl; exact rfl; exact rfl) | (apply GP_pv; exact rfl; kernel_rfl; exact rfl; exact rfl; exact rfl) | (apply GP_loadB; exact rfl; kernel_rfl; exact rfl; exact rfl; exact rfl; exact (by (repeat (first | exact List.Mem.head _ | apply List.Mem.tail)); done); exact rfl; exact rfl) | (apply GP_ov; exact rfl; kernel_rfl; exact rfl; exact rfl; (first | (apply OV_idxS (j := k); exact rfl; exact rfl; exact rfl; exact rfl; exact rfl; exact a3; (with_reducible exact rfl); omega) | (apply OV_load; exact rfl; exact Lv_ro rfl e3 rfl) | (apply OV_eqlS; exact rfl; exact rfl; exact game_eq _ _; kernel_rfl; kernel_rfl)); exact (by repeat' (first | exact trivial | apply And.intro | exact List.Mem.head _ | apply List.Mem.tail))) | (apply GP_done; kernel_rfl; exact rfl) | (apply GP_split; exact rfl; exact rfl; exact rfl; exact rfl; exact rfl; all_goals intro hc; all_goals try simp only [ltI_t, ltI_f, leI_t, leI_f, eqI_t, eqI_f, Bool.not_eq_true', Bool.not_eq_false', decide_eq_true_eq, decide_eq_false_iff_not, reduceCtorEq] at hc; all_goals try (exfalso; omega)) | (apply GO_cond; exact rfl; all_goals intro hc; all_goals try simp only [ltI_t, ltI_f, leI_t, leI_f, eqI_t, eqI_f, Bool.not_eq_true', Bool.not_eq_false', decide_eq_true_eq, decide_eq_false_iff_not, reduceCtorEq] at hc; all_goals try (exfalso; omega)))
            all_goals first
              | (rw [decide_eq_true (show g ∈ D.take k by assumption), Bool.true_or] at h3
                 refine GO_fit (by (repeat (first | exact trivial | refine ⟨rfl, ?_⟩)); done) (by (repeat (first | exact Takes_nil | (apply Takes_cons; exact (by (repeat (first | exact Take.here | apply Take.there)); done)))); done) (h3))
              | (rw [decide_eq_false (show ¬ g ∈ D.take k by assumption), Bool.false_or] at h3
                 refine GO_fit (by (repeat (first | exact trivial | refine ⟨rfl, ?_⟩)); done) (by (repeat (first | exact Takes_nil | (apply Takes_cons; exact (by (repeat (first | exact Take.here | apply Take.there)); done)))); done) (h3))
             
          · rw [List.take_of_length_le (show D.length ≤ k by omega)]
            have h3 := ih (i + 1, h5) ⟨by show i + 1 ≤ G.length; omega, hlk2.trans hle5⟩ (by show G.length - (i + 1) < G.length - i; omega)
            by_cases hx3 : xk = 3
            · rw [decide_eq_true (hmD.2 hx3)]
              subst hx3
              repeat' (first | apply GO_seq | apply GO_skip | apply GO_inBlock | apply GO_region | apply GOl_nil | (apply GO_exit; exact rfl) | (apply GOl_add; exact rfl; exact rfl; exact rfl; omega; exact rfl; exact rfl) | (apply GOl_pv; exact rfl; exact rfl; exact rfl) | (apply GOl_load; exact rfl; exact Ld_blk rfl (by (repeat (first | exact List.Mem.head _ | apply List.Mem.tail)); done) rfl; exact rfl; exact rfl) | (apply GO_cond; exact rfl; all_goals intro hc; all_goals try simp only [ltI_t, ltI_f, leI_t, leI_f, eqI_t, eqI_f, Bool.not_eq_true', Bool.not_eq_false', decide_eq_true_eq, decide_eq_false_iff_not, reduceCtorEq] at hc; all_goals try (exfalso; omega)))
              all_goals first
                | refine GO_fit (by (repeat (first | exact trivial | refine ⟨rfl, ?_⟩)); done) (by (repeat (first | exact Takes_nil | (apply Takes_cons; exact (by (repeat (first | exact Take.here | apply Take.there)); done)))); done) (h3)
                | (exfalso; simp [eqI_eq] at hc; done)
               
            · rw [decide_eq_false (fun q => hx3 (hmD.1 q))]
              repeat' (first | apply GO_seq | apply GO_skip | apply GO_inBlock | apply GO_region | apply GOl_nil | (apply GO_exit; exact rfl) | (apply GOl_add; exact rfl; exact rfl; exact rfl; omega; exact rfl; exact rfl) | (apply GOl_pv; exact rfl; exact rfl; exact rfl) | (apply GOl_load; exact rfl; exact Ld_blk rfl (by (repeat (first | exact List.Mem.head _ | apply List.Mem.tail)); done) rfl; exact rfl; exact rfl) | (apply GO_cond; exact rfl; all_goals intro hc; all_goals try simp only [ltI_t, ltI_f, leI_t, leI_f, eqI_t, eqI_f, Bool.not_eq_true', Bool.not_eq_false', decide_eq_true_eq, decide_eq_false_iff_not, reduceCtorEq] at hc; all_goals try (exfalso; omega)))
              all_goals first
                | refine GO_fit (by (repeat (first | exact trivial | refine ⟨rfl, ?_⟩)); done) (by (repeat (first | exact Takes_nil | (apply Takes_cons; exact (by (repeat (first | exact Take.here | apply Take.there)); done)))); done) (h3)
                | (exfalso; simp [eqI_eq, hx3] at hc; done)
               
      · clear ih
        repeat' (first | apply GO_seq | apply GO_block | apply GO_region | apply GOl_nil | (apply GO_exit; exact rfl) | (apply GOl_pv; exact rfl; exact rfl; exact rfl) | (apply GO_cond; exact rfl; all_goals intro hc; all_goals try simp only [ltI_t, ltI_f, leI_t, leI_f, eqI_t, eqI_f, Bool.not_eq_true', Bool.not_eq_false', decide_eq_true_eq, decide_eq_false_iff_not, reduceCtorEq] at hc; all_goals try (exfalso; omega)))
        refine GO_loopT (X := Nat) (fun k => k ≤ n) (fun k => n - k)
          (fun k => [(15, .int .i64 k), (9, .slice A2 G.length c2), (0, .slice A n c), (1, .int .i64 season), (2, .int .i64 comp)]) (fun _ => []) (fun _ => hk2) 0 (by omega) (by (repeat (first | exact trivial | refine ⟨rfl, ?_⟩)); done) (by (repeat (first | exact Takes_nil | (apply Takes_cons; exact (by (repeat (first | exact Take.here | apply Take.there)); done)))); done) rfl ?_
        rintro i hi ih
        try dsimp only at hi
        try dsimp only at ih
        try dsimp only
        by_cases hin : i < n
        · have a1 := hadr i hin
          have c1' := (hcel i hin).le (hl2.trans hlk2)
          have hfk := hfa.fat _ (mem7 p0 (show i < l.length by omega))
          have hgi := hGi _ (mem7 p0 (show i < l.length by omega))
          have h3 := ih (i + 1) (by omega) (by omega)
          generalize l.getD i p0 = p at *
          obtain ⟨s, f⟩ := p
          have c3 : CellsAt hk2 ((addrD A).add (i * 82)) (factC s f) := c1'
          clear c1'
          dsimp only at hfk hgi
          have hch := check7_c hk2 s f (hfk.1.le (hl2.trans hlk2)) hfk.2
          by_cases hok : FctOk f
          · rw [if_pos hok] at hch
            repeat' (first | apply GO_seq | apply GO_skip | apply GO_block | apply GO_region | apply GOl_nil | (apply GO_exit; exact rfl) | (apply GOl_to; exact rfl; exact rfl; exact rfl; apply OpTo_alloc (e := 28); exact rfl; intro bg) | (apply GOl_unwanted; exact rfl; exact rfl) | (apply GOl_add; exact rfl; exact rfl; exact rfl; omega; exact rfl; exact rfl) | (apply GOl_pv; exact rfl; exact rfl; exact rfl) | (apply GOl_load; exact rfl; exact Ld_blk rfl (by (repeat (first | exact List.Mem.head _ | apply List.Mem.tail)); done) rfl; exact rfl; exact rfl) | (apply GOl_ov; exact rfl; exact rfl; (first | (apply OV_idxS (j := i); exact rfl; exact rfl; exact rfl; exact rfl; exact rfl; exact a1; omega; omega) | (apply OV_load; exact rfl; exact Lv_ro rfl c3 rfl) | (apply OV_load; exact rfl; first | exact Lv_ro rfl (by assumption) rfl | exact Lv_roF rfl (by assumption) rfl | exact Lv_roF2 rfl (by assumption) rfl | exact Lv_roF3 rfl (by assumption) rfl)); exact (by repeat' (first | exact trivial | apply And.intro | exact List.Mem.head _ | apply List.Mem.tail))) | (apply GOl_to; exact rfl; exact rfl; exact rfl; (first | (apply OpTo_store; exact rfl; exact rfl; exact rfl; exact (by (repeat (first | exact Repl.here | apply Repl.there)); done); exact rfl; exact rfl; exact rfl; skip) | (apply OpTo_val; exact rfl; exact has11; exact hch; skip))) | (apply GO_cond; exact rfl; all_goals intro hc; all_goals try simp only [ltI_t, ltI_f, leI_t, leI_f, eqI_t, eqI_f, Bool.not_eq_true', Bool.not_eq_false', decide_eq_true_eq, decide_eq_false_iff_not, reduceCtorEq] at hc; all_goals try (exfalso; omega)) | (apply GOl_split; exact rfl; exact rfl; all_goals intro hc; all_goals try simp only [ltI_t, ltI_f, leI_t, leI_f, eqI_t, eqI_f, Bool.not_eq_true', Bool.not_eq_false', decide_eq_true_eq, decide_eq_false_iff_not, reduceCtorEq] at hc; all_goals try (exfalso; omega)))
            all_goals first
              | refine GO_fit (by (repeat (first | exact trivial | refine ⟨rfl, ?_⟩)); done) (by (repeat (first | exact Takes_nil | (apply Takes_cons; exact (by (repeat (first | exact Take.here | apply Take.there)); done)))); done) (h3)
              | (have hm2 := hgi hok (by assumption) (by assumption) (by assumption)
                 refine GO_loopT (X := Nat) (fun k => k ≤ G.length) (fun k => G.length - k)
                   (fun k => [(18, .int .i64 k), (17, .bool (decide (f.sh.g ∈ G.take k))), (15, .int .i64 i), (9, .slice A2 G.length c2), (16, .pointer (some ⟨bg, 0, none⟩)), (0, .slice A n c), (1, .int .i64 season), (2, .int .i64 comp)])
                   (fun _ => [Blk bg 28 (gameC f.sh.g)]) (fun _ => hk2) 0 (by omega) (by (repeat (first | exact trivial | refine ⟨rfl, ?_⟩)); done) (by (repeat (first | exact Takes_nil | (apply Takes_cons; exact (by (repeat (first | exact Take.here | apply Take.there)); done)))); done) rfl ?_
                 rintro k hkn ih2
                 try dsimp only at hkn
                 try dsimp only at ih2
                 try dsimp only
                 by_cases hkG : k < G.length
                 · have a3 := hs2.addrD hkG
                   have e3 := (hs2.cellsD game0 hkG).le hlk2
                   have hat := any_take (g := f.sh.g) hkG
                   have h4 := ih2 (k + 1) (by omega) (by omega)
                   rw [hat] at h4
                   generalize G.getD k game0 = g3 at *
                   repeat' (first | apply GO_seq | apply GO_skip | apply GO_inBlock | apply GO_block | apply GO_region | apply GOl_nil | (apply GOl_add; exact rfl; exact rfl; exact rfl; omega; exact rfl; exact rfl) | (apply GOl_pv; exact rfl; exact rfl; exact rfl) | (apply GO_drawp (n := 35) [0, 1, 2, 3, 4, 5, 6, 7, 8, 9] [(0, 0), (1, 0), (2, 0), (3, 0), (4, 0), (5, 0), (6, 0), (7, 0), (8, 0), (9, 0)]; kernel_rfl) | (apply GP_un; exact rfl; kernel_rfl; exact rfl; exact rfl) | (apply GP_pv; exact rfl; kernel_rfl; exact rfl; exact rfl; exact rfl) | (apply GP_loadB; exact rfl; kernel_rfl; exact rfl; exact rfl; exact rfl; exact (by (repeat (first | exact List.Mem.head _ | apply List.Mem.tail)); done); exact rfl; exact rfl) | (apply GP_ov; exact rfl; kernel_rfl; exact rfl; exact rfl; (first | (apply OV_idxS (j := k); exact rfl; exact rfl; exact rfl; exact rfl; exact rfl; exact a3; (with_reducible exact rfl); omega) | (apply OV_load; exact rfl; exact Lv_ro rfl e3 rfl) | (apply OV_eqlS; exact rfl; exact rfl; exact game_eq _ _; kernel_rfl; kernel_rfl)); exact (by repeat' (first | exact trivial | apply And.intro | exact List.Mem.head _ | apply List.Mem.tail))) | (apply GP_done; kernel_rfl; exact rfl) | (apply GP_split; exact rfl; exact rfl; exact rfl; exact rfl; exact rfl; all_goals intro hc; all_goals try simp only [ltI_t, ltI_f, leI_t, leI_f, eqI_t, eqI_f, Bool.not_eq_true', Bool.not_eq_false', decide_eq_true_eq, decide_eq_false_iff_not, reduceCtorEq] at hc; all_goals try (exfalso; omega)) | (apply GO_cond; exact rfl; all_goals intro hc; all_goals try simp only [ltI_t, ltI_f, leI_t, leI_f, eqI_t, eqI_f, Bool.not_eq_true', Bool.not_eq_false', decide_eq_true_eq, decide_eq_false_iff_not, reduceCtorEq] at hc; all_goals try (exfalso; omega)))
                   all_goals first
                     | (rw [decide_eq_true (show f.sh.g ∈ G.take k by assumption), Bool.true_or] at h4
                        refine GO_fit (by (repeat (first | exact trivial | refine ⟨rfl, ?_⟩)); done) (by (repeat (first | exact Takes_nil | (apply Takes_cons; exact (by (repeat (first | exact Take.here | apply Take.there)); done)))); done) (h4))
                     | (rw [decide_eq_false (show ¬ f.sh.g ∈ G.take k by assumption), Bool.false_or] at h4
                        refine GO_fit (by (repeat (first | exact trivial | refine ⟨rfl, ?_⟩)); done) (by (repeat (first | exact Takes_nil | (apply Takes_cons; exact (by (repeat (first | exact Take.here | apply Take.there)); done)))); done) (h4))
                    
                 · rw [List.take_of_length_le (show G.length ≤ k by omega), decide_eq_true hm2]
                   repeat' (first | apply GO_seq | apply GO_skip | apply GO_inBlock | apply GO_region | apply GOl_nil | (apply GO_exit; exact rfl) | (apply GOl_add; exact rfl; exact rfl; exact rfl; omega; exact rfl; exact rfl) | (apply GOl_pv; exact rfl; exact rfl; exact rfl) | (apply GO_cond; exact rfl; all_goals intro hc; all_goals try simp only [ltI_t, ltI_f, leI_t, leI_f, eqI_t, eqI_f, Bool.not_eq_true', Bool.not_eq_false', decide_eq_true_eq, decide_eq_false_iff_not, reduceCtorEq] at hc; all_goals try (exfalso; omega)))
                   all_goals first
                     | refine GO_fit (by (repeat (first | exact trivial | refine ⟨rfl, ?_⟩)); done) (by (repeat (first | exact Takes_nil | (apply Takes_cons; exact (by (repeat (first | exact Take.here | apply Take.there)); done)))); done) (h3)
                    )
             
          · rw [if_neg hok] at hch
            repeat' (first | apply GO_seq | apply GO_skip | apply GO_block | apply GO_region | apply GOl_nil | (apply GO_exit; exact rfl) | (apply GOl_to; exact rfl; exact rfl; exact rfl; apply OpTo_alloc (e := 28); exact rfl; intro bg) | (apply GOl_unwanted; exact rfl; exact rfl) | (apply GOl_add; exact rfl; exact rfl; exact rfl; omega; exact rfl; exact rfl) | (apply GOl_pv; exact rfl; exact rfl; exact rfl) | (apply GOl_ov; exact rfl; exact rfl; (first | (apply OV_idxS (j := i); exact rfl; exact rfl; exact rfl; exact rfl; exact rfl; exact a1; omega; omega) | (apply OV_load; exact rfl; exact Lv_ro rfl c3 rfl) | (apply OV_load; exact rfl; first | exact Lv_ro rfl (by assumption) rfl | exact Lv_roF rfl (by assumption) rfl | exact Lv_roF2 rfl (by assumption) rfl | exact Lv_roF3 rfl (by assumption) rfl)); exact (by repeat' (first | exact trivial | apply And.intro | exact List.Mem.head _ | apply List.Mem.tail))) | (apply GOl_to; exact rfl; exact rfl; exact rfl; (first | (apply OpTo_store; exact rfl; exact rfl; exact rfl; exact (by (repeat (first | exact Repl.here | apply Repl.there)); done); exact rfl; exact rfl; exact rfl; skip) | (apply OpTo_val; exact rfl; exact has11; exact hch; skip))) | (apply GO_cond; exact rfl; all_goals intro hc; all_goals try simp only [ltI_t, ltI_f, leI_t, leI_f, eqI_t, eqI_f, Bool.not_eq_true', Bool.not_eq_false', decide_eq_true_eq, decide_eq_false_iff_not, reduceCtorEq] at hc; all_goals try (exfalso; omega)) | (apply GOl_split; exact rfl; exact rfl; all_goals intro hc; all_goals try simp only [ltI_t, ltI_f, leI_t, leI_f, eqI_t, eqI_f, Bool.not_eq_true', Bool.not_eq_false', decide_eq_true_eq, decide_eq_false_iff_not, reduceCtorEq] at hc; all_goals try (exfalso; omega)))
            all_goals first
              | refine GO_fit (by (repeat (first | exact trivial | refine ⟨rfl, ?_⟩)); done) (by (repeat (first | exact Takes_nil | (apply Takes_cons; exact (by (repeat (first | exact Take.here | apply Take.there)); done)))); done) (h3)
             
        · repeat' (first | apply GO_seq | apply GO_region | apply GOl_nil | (apply GO_exit; exact rfl) | (apply GOl_pv; exact rfl; exact rfl; exact rfl) | (apply GO_cond; exact rfl; all_goals intro hc; all_goals try simp only [ltI_t, ltI_f, leI_t, leI_f, eqI_t, eqI_f, Bool.not_eq_true', Bool.not_eq_false', decide_eq_true_eq, decide_eq_false_iff_not, reduceCtorEq] at hc; all_goals try (exfalso; omega)) | (apply GO_retV1; exact rfl; exact rfl; exact rfl))
          all_goals first | rfl
  · rw [decide_eq_false hF] at hfew
    repeat' (first | apply GO_seq | apply GO_skip | apply GO_region | apply GOl_nil | (apply GOl_pv; exact rfl; exact rfl; exact rfl) | (apply GOl_to; exact rfl; exact rfl; exact rfl; (first | (apply OpTo_val; exact rfl; exact has5; exact hsane; skip) | (apply OpTo_val; exact rfl; exact has6; exact hfew; skip))) | (apply GO_cond; exact rfl; all_goals intro hc; all_goals try simp only [ltI_t, ltI_f, leI_t, leI_f, eqI_t, eqI_f, Bool.not_eq_true', Bool.not_eq_false', decide_eq_true_eq, decide_eq_false_iff_not, reduceCtorEq] at hc; all_goals try (exfalso; omega)) | (apply GO_retV1; exact rfl; exact rfl; exact rfl))
    all_goals rfl
end Go.Hw

import Derived.Test.YtajmniiiahhfaaaGreatDoorUR12
import Derived.Test.YtajmniiiahhfaaaGreatDoorEB
/-
  law09: LatestSpec, ScoreSpec, walked.
-/
set_option linter.unusedVariables false
set_option linter.unusedSimpArgs false
set_option maxRecDepth 100000
set_option maxHeartbeats 8000000
namespace Go.Hw
open Go
attribute [local irreducible] GO GOl GDp Val Fn Res CellsAt ValE Blk OwnS MapA OwnPf Has Yl RngA
open Go.Proofs (Tryz.prog)
theorem fewSheet_c (h : Ro) (s : Fsh) (x : FSheet) : Res Tryz.prog 16 #[sheetV s x] h (fun u _ => ∃ b : Bool, u = .bool b) := by
  refine Res_intro (args := [_]) ts_ok Go.Proofs.Tryz.func16 rfl rfl fun w0 X0 => ?_
  repeat' (first | apply GO_seq | apply GO_region | apply GOl_nil | (apply GOl_unwanted; exact rfl; exact rfl) | (apply GOl_pv; (iterate 3 exact rfl)) | (apply GOl_load; exact rfl; exact Ld_blk rfl (by (repeat (first|exact List.Mem.head _|apply List.Mem.tail));done) rfl; exact rfl; exact rfl) | (apply GOl_to; (iterate 3 exact rfl); (first | (apply OpTo_box; exact rfl; intro b; skip))) | (apply GOl_split; exact rfl; exact rfl; all_goals intro hc; all_goals try simp only [hcS, reduceCtorEq] at hc; all_goals try (exfalso; omega)))
  all_goals exact GO_retR1 rfl rfl rfl ⟨_, rfl⟩
theorem scoreSpec_law (h : Ro) (hG : PowG h) (A : Option Addr) (n c : Nat) (l : List (Fsh × Fct)) (hx : LedIn h A n c l) (g : FGame) : Val Tryz.prog 4 #[.slice A n c, gameV g] h (.bool true) := by
  refine Val_intro (args := [_, _]) ts_ok Go.Proofs.Tryz.func4 rfl rfl fun w0 X0 => ?_
  have hfew := fewF_c h A n c l hx.row hx.small 14
  have hsane := sane9_c h hG
  by_cases hF : (∀ p ∈ l, SmallS p.1 p.2) ∧ (n : Int) ≤ 14
  · rw [decide_eq_true hF] at hfew
    have hfa := hx.facts hF.2
    have hn14 := hF.2
    clear hF
    have k1 := fun h' (hl : Le h h') => score2_c h' (hG.le hl) A n c l (hfa.le hl) g
    have k2 := fun h' (hl : Le h h') => scoreR_c h' A n c l (hfa.le hl) (by omega) g
    generalize scoreF (cont l) g = X at *
    repeat' (first | apply GO_seq | apply GO_skip | apply GO_region | apply GOl_nil | (apply GOl_pv; (iterate 3 exact rfl)) | (apply GOl_to; (iterate 3 exact rfl); (first | (apply OpTo_box; exact rfl; intro b; skip) | (apply OpTo_val; exact rfl; exact has14; exact hsane; skip) | (apply OpTo_val; exact rfl; exact has15; exact hfew; skip))) | (apply GO_drawp (n := 5) [0, 1, 2, 3, 4, 5, 6, 7] [(0, 0), (1, 0), (3, 0), (4, 0), (2, 1), (5, 1), (6, 1), (7, 0)]; kernel_rfl) | (apply GP_pv; exact rfl; kernel_rfl; (iterate 3 exact rfl)) | (apply GP_loadB; exact rfl; kernel_rfl; (iterate 3 exact rfl); exact (by (repeat (first|exact List.Mem.head _|apply List.Mem.tail));done); exact rfl; exact rfl) | (apply GP_real; exact rfl; kernel_rfl; (iterate 3 exact rfl); (first | (apply OpTo_res; exact rfl; exact has23; exact k1 _ (by first|exact Le.refl _|assumption|(repeat (first|assumption|(apply Le.trans;assumption)))); rintro w1 h1 hle1 ⟨s1, rfl, hs1, hm1⟩; refine ⟨hle1, by (first | exact NdOk_no rfl | (apply NdOk_all; (repeat' (first|exact trivial|apply And.intro|exact List.Mem.head _|apply List.Mem.tail)); done) | (apply NdOk_need; (repeat' (first|exact trivial|apply And.intro|exact List.Mem.head _|apply List.Mem.tail)); done)), ?_⟩) | (apply OpTo_res; exact rfl; exact has24; exact k2 _ (by first|exact Le.refl _|assumption|(repeat (first|assumption|(apply Le.trans;assumption)))); rintro w2 h2 hle2 ⟨s2, rfl, hs2, hm2⟩; refine ⟨hle2, by (first | exact NdOk_no rfl | (apply NdOk_all; (repeat' (first|exact trivial|apply And.intro|exact List.Mem.head _|apply List.Mem.tail)); done) | (apply NdOk_need; (repeat' (first|exact trivial|apply And.intro|exact List.Mem.head _|apply List.Mem.tail)); done)), ?_⟩) | (apply OpTo_val; exact rfl; exact has22; exact (by have := sameScore_c _ s1 X (hs1.le (by first|exact Le.refl _|assumption|(repeat (first|assumption|(apply Le.trans;assumption))))) hm1 s2 X hs2 hm2; rwa [decide_eq_true rfl] at this); refine ⟨Le.refl _, by (first | exact NdOk_no rfl | (apply NdOk_all; (repeat' (first|exact trivial|apply And.intro|exact List.Mem.head _|apply List.Mem.tail)); done) | (apply NdOk_need; (repeat' (first|exact trivial|apply And.intro|exact List.Mem.head _|apply List.Mem.tail)); done)), ?_⟩))) | (apply GP_done; kernel_rfl; exact rfl) | (apply GO_cond; exact rfl; all_goals intro hc; all_goals try simp only [hcS, reduceCtorEq] at hc; all_goals try (exfalso; omega)) | (apply GO_retV1; (iterate 3 exact rfl)))
    all_goals first | rfl
  · rw [decide_eq_false hF] at hfew
    repeat' (first | apply GO_seq | apply GO_skip | apply GO_region | apply GOl_nil | (apply GOl_pv; (iterate 3 exact rfl)) | (apply GOl_to; (iterate 3 exact rfl); (first | (apply OpTo_box; exact rfl; intro b; skip) | (apply OpTo_val; exact rfl; exact has14; exact hsane; skip) | (apply OpTo_val; exact rfl; exact has15; exact hfew; skip))) | (apply GO_cond; exact rfl; all_goals intro hc; all_goals try simp only [hcS, reduceCtorEq] at hc; all_goals try (exfalso; omega)) | (apply GO_retV1; (iterate 3 exact rfl)))
    all_goals first | rfl
theorem latestSpec_law (h : Ro) (hG : PowG h) (A : Option Addr) (n c : Nat) (l : List (Fsh × Fct)) (hx : LedIn h A n c l) (g : FGame) (r : Int) (sa : Fsh) (xa : FSheet) (ha : ShAt h sa xa) (hma : ShSm xa) (sb : Fsh) (xb : FSheet) (hb : ShAt h sb xb) (hmb : ShSm xb) : Val Tryz.prog 3 #[.slice A n c, gameV g, .int .i64 r, sheetV sa xa, sheetV sb xb] h (.bool true) := by
  refine Val_intro (args := [_, _, _, _, _]) ts_ok Go.Proofs.Tryz.func3 rfl rfl fun w0 X0 => ?_
  have hfew := fewF_c h A n c l hx.row hx.small 14
  have hsane := sane9_c h hG
  by_cases hF : (∀ p ∈ l, SmallS p.1 p.2) ∧ (n : Int) ≤ 14
  · rw [decide_eq_true hF] at hfew
    have hfa := hx.facts hF.2
    have hn14 := hF.2
    clear hF
    have k1 := fun h' (hl : Le h h') => latest2_c h' (hG.le hl) A n c l (hfa.le hl) g r
    have k2 := fun h' (hl : Le h h') => latestR_c h' A n c l (hfa.le hl) (by omega) g r
    have k3 := fun h' (hl : Le h h') => sameSh_c h' sa xa (ha.le hl) hma sb xb (hb.le hl) hmb
    have k4 := fun h' (hl : Le h h') => sameSh9_c h' sa xa (ha.le hl) hma sb xb (hb.le hl) hmb
    have k5 := fun h' (hl : Le h h') => by
      have := sameSh_c h' sa xa (ha.le hl) hma sa xa (ha.le hl) hma
      rw [decide_eq_true (SameSh.refl xa)] at this
      exact this
    generalize bestD (cont l) g r = X at *
    generalize decide (bestF (cont l) g r ≠ none) = ok at *
    generalize decide (SameSh xa xb) = same at *
    obtain ⟨dy, hdy⟩ : ∃ dy, X.day = dy := ⟨_, rfl⟩
    rw [hdy] at k1 k2
    clear hdy
    repeat' (first | apply GO_seq | apply GO_skip | apply GO_region | apply GOl_nil | (apply GOl_unwanted; exact rfl; exact rfl) | (apply GOl_pv; (iterate 3 exact rfl)) | (apply GOl_load; exact rfl; exact Ld_blk rfl (by (repeat (first|exact List.Mem.head _|apply List.Mem.tail));done) rfl; exact rfl; exact rfl) | (apply GOl_to; (iterate 3 exact rfl); (first | (apply OpTo_store; (iterate 3 exact rfl); exact (by (repeat (first|exact Repl.here|apply Repl.there));done); (iterate 3 exact rfl); skip) | (apply OpTo_box; exact rfl; intro b; skip) | (apply OpTo_alloc; exact rfl; intro b; skip) | (apply OpTo_val; exact rfl; exact has14; exact hsane; skip) | (apply OpTo_val; exact rfl; exact has15; exact hfew; skip) | (apply OpTo_res; exact rfl; exact has16; (first | exact fewSheet_c _ sa xa | exact fewSheet_c _ sb xb); rintro w3 h3 hle3 ⟨bf, rfl⟩; cases bf; all_goals skip) | (apply OpTo_res; exact rfl; exact has17; exact k1 _ (by first|exact Le.refl _|assumption|(repeat (first|assumption|(apply Le.trans;assumption)))); rintro w1 h1 hle1 ⟨s1, rfl, hs1, hm1⟩; skip) | (apply OpTo_res; exact rfl; exact has18; exact k2 _ (by first|exact Le.refl _|assumption|(repeat (first|assumption|(apply Le.trans;assumption)))); rintro w2 h2 hle2 ⟨s2, rfl, hs2, hm2⟩; skip))) | (apply GO_drawp (n := 7) [0, 1, 2, 3, 4, 5, 6, 7, 8, 9, 10, 11, 12, 13, 14, 15, 16, 17, 18, 19, 20, 21, 22, 23, 24, 25, 26, 27] [(0, 0), (1, 0), (2, 1), (3, 0), (4, 0), (5, 0), (6, 0), (7, 0), (8, 0), (9, 0), (10, 0), (11, 0), (12, 0), (13, 0), (14, 0), (15, 0), (17, 0), (18, 0), (16, 1), (19, 1), (20, 0), (21, 0), (22, 0), (23, 0), (24, 0), (25, 1), (26, 0), (27, 0)]; kernel_rfl) | (apply GP_un; exact rfl; kernel_rfl; exact rfl; exact rfl) | (apply GP_pv; exact rfl; kernel_rfl; (iterate 3 exact rfl)) | (apply GP_loadB; exact rfl; kernel_rfl; (iterate 3 exact rfl); exact (by (repeat (first|exact List.Mem.head _|apply List.Mem.tail));done); exact rfl; exact rfl) | (apply GP_real; exact rfl; kernel_rfl; (iterate 3 exact rfl); (first | (apply OpTo_val; exact rfl; exact has19; exact (by have := equal9_c _ s1 X.sh (hs1.le (by first|exact Le.refl _|assumption|(repeat (first|assumption|(apply Le.trans;assumption))))) hm1 s2 X.sh hs2 hm2; rwa [decide_eq_true rfl] at this); refine ⟨Le.refl _, by (first | exact NdOk_no rfl | (apply NdOk_all; (repeat' (first|exact trivial|apply And.intro|exact List.Mem.head _|apply List.Mem.tail)); done) | (apply NdOk_need; (repeat' (first|exact trivial|apply And.intro|exact List.Mem.head _|apply List.Mem.tail)); done)), ?_⟩) | (apply OpTo_val; exact rfl; exact has20; (first | exact k3 _ (by first|exact Le.refl _|assumption|(repeat (first|assumption|(apply Le.trans;assumption)))) | exact k5 _ (by first|exact Le.refl _|assumption|(repeat (first|assumption|(apply Le.trans;assumption))))); refine ⟨Le.refl _, by (first | exact NdOk_no rfl | (apply NdOk_all; (repeat' (first|exact trivial|apply And.intro|exact List.Mem.head _|apply List.Mem.tail)); done) | (apply NdOk_need; (repeat' (first|exact trivial|apply And.intro|exact List.Mem.head _|apply List.Mem.tail)); done)), ?_⟩) | (apply OpTo_val; exact rfl; exact has21; exact k4 _ (by first|exact Le.refl _|assumption|(repeat (first|assumption|(apply Le.trans;assumption)))); refine ⟨Le.refl _, by (first | exact NdOk_no rfl | (apply NdOk_all; (repeat' (first|exact trivial|apply And.intro|exact List.Mem.head _|apply List.Mem.tail)); done) | (apply NdOk_need; (repeat' (first|exact trivial|apply And.intro|exact List.Mem.head _|apply List.Mem.tail)); done)), ?_⟩))) | (apply GP_done; kernel_rfl; exact rfl) | (apply GP_split; (iterate 5 exact rfl); all_goals intro hc; all_goals try simp only [hcS, reduceCtorEq] at hc; all_goals try (exfalso; omega)) | (apply GO_cond; exact rfl; all_goals intro hc; all_goals try simp only [hcS, reduceCtorEq] at hc; all_goals try (exfalso; omega)) | (apply GO_retV1; (iterate 3 exact rfl)) | (apply GP_un1; exact rfl; kernel_rfl; exact rfl; exact rfl))
    all_goals first
      | rfl
      | (exfalso; simp [eqI_eq] at hc; done)
     
  · rw [decide_eq_false hF] at hfew
    repeat' (first | apply GO_seq | apply GO_skip | apply GO_region | apply GOl_nil | (apply GOl_unwanted; exact rfl; exact rfl) | (apply GOl_pv; (iterate 3 exact rfl)) | (apply GOl_to; (iterate 3 exact rfl); (first | (apply OpTo_box; exact rfl; intro b; skip) | (apply OpTo_val; exact rfl; exact has14; exact hsane; skip) | (apply OpTo_val; exact rfl; exact has15; exact hfew; skip))) | (apply GO_cond; exact rfl; all_goals intro hc; all_goals try simp only [hcS, reduceCtorEq] at hc; all_goals try (exfalso; omega)) | (apply GO_retV1; (iterate 3 exact rfl)))
    all_goals first | rfl
end Go.Hw

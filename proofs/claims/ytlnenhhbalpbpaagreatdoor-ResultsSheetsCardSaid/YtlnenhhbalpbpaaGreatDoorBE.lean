import Derived.Test.YtlnenhhbalpbpaaGreatDoorRA
import Derived.Test.YtlnenhhbalpbpaaGreatDoorBA
set_option linter.unusedVariables false
set_option linter.unusedSimpArgs false
set_option maxRecDepth 100000
set_option maxHeartbeats 8000000
namespace Go.Hw
open Go
attribute [local irreducible] GO GOl GDp Val Fn Res CellsAt ValE Blk OwnS MapA OwnPf Has Yl
open Go.Proofs (Tryz.prog)
theorem gameR7_c (h : Ro) (g : FGame) : Val Tryz.prog 14 #[gameV g] h (.int .i64 (if GameOk g then 0 else 70)):=by
  refine Val_intro (args:=[_]) ts_ok Go.Proofs.Tryz.func14 rfl rfl fun w0 X0 => ?_
  have hv:=validR7_c h g
  by_cases hg : GameOk g
  · rw [decide_eq_true hg] at hv
    rw [if_pos hg]
    repeat' (first|apply GO_seq|apply GO_skip|apply GO_region|apply GOl_nil|(apply GOl_pv;(iterate 3 exact rfl))|(apply GOl_load;exact rfl;exact Ld_blk rfl QM rfl;exact rfl;exact rfl)|(apply GOl_to;(iterate 3 exact rfl);(first|(apply OpTo_box;exact rfl;intro b;skip)|(apply OpTo_val;exact rfl;exact has36;exact hv;skip)))|(apply GO_cond;exact rfl;all_goals (intro hc;try simp only [hcS,reduceCtorEq] at hc;try (exfalso;omega))))
    all_goals first
      | (exfalso;simp at hc;done)
      | (exact GO_retV1 rfl rfl rfl rfl)
  · rw [decide_eq_false hg] at hv
    rw [if_neg hg]
    repeat' (first|apply GO_seq|apply GO_region|apply GOl_nil|(apply GOl_pv;(iterate 3 exact rfl))|(apply GOl_load;exact rfl;exact Ld_blk rfl QM rfl;exact rfl;exact rfl)|(apply GOl_to;(iterate 3 exact rfl);(first|(apply OpTo_box;exact rfl;intro b;skip)|(apply OpTo_val;exact rfl;exact has36;exact hv;skip)))|(apply GO_cond;exact rfl;all_goals (intro hc;try simp only [hcS,reduceCtorEq] at hc;try (exfalso;omega))))
    all_goals first
      | (exfalso;simp at hc;done)
      | (exact GO_retV1 rfl rfl rfl rfl)
theorem withinR12_c (h : Ro) (n m : Int) : Val Tryz.prog 35 #[.int .i64 n,.int .i64 m] h (.bool (decide (0 ≤ n ∧ n ≤ m))):=by
  refine Val_intro (args:=[_,_]) ts_ok Go.Proofs.Tryz.func35 rfl rfl fun w0 X0 => ?_
  repeat' (first|apply GO_seq|apply GO_region|apply GOl_nil|(apply GOl_unwanted;exact rfl;exact rfl)|(apply GOl_pv;(iterate 3 exact rfl))|(apply GOl_split;exact rfl;exact rfl;all_goals (intro hc;try simp only [hcS,reduceCtorEq] at hc;try (exfalso;omega)))|(apply GO_retV1;(iterate 3 exact rfl)))
  all_goals (refine dec_ofV ?_;(try rw [leI_t]);grind)
theorem checkR12_c (h : Ro) (r : FRes) : Val Tryz.prog 13 #[resV r] h (.int .i64 (if ResOk r then 0 else 1)):=by
  refine Val_intro (args:=[_]) ts_ok Go.Proofs.Tryz.func13 rfl rfl fun w0 X0 => ?_
  have hgm:=fun h' => gameR7_c h' r.g
  have hR:=fun (_ : Unit) => resOk_ref r
  unfold ResBd ResBad1 ResBad2 ResThree Bel at hR
  by_cases hgo : GameOk r.g
  · simp only [if_pos hgo] at hgm
    all_goals
      repeat' (first|apply GO_seq|apply GO_skip|apply GO_region|apply GOl_nil|(apply GOl_unwanted;exact rfl;exact rfl)|(apply GOl_add;(iterate 3 exact rfl);omega;exact rfl;exact rfl)|(apply GOl_pv;(iterate 3 exact rfl))|(apply GOl_load;exact rfl;exact Ld_blk rfl QM rfl;exact rfl;exact rfl)|(apply GOl_to;(iterate 3 exact rfl);(first|(apply OpTo_box;exact rfl;intro b;skip)|(apply OpTo_val;exact rfl;exact has14;exact hgm _;skip)|(apply OpTo_val;exact rfl;exact has35;exact withinR12_c _ _ _;skip)))|(apply GO_cond;exact rfl;all_goals (intro hc;try simp only [hcS,reduceCtorEq] at hc;try (exfalso;omega)))|(apply GOl_split;exact rfl;exact rfl;all_goals (intro hc;try simp only [hcS,reduceCtorEq] at hc;try (exfalso;omega))))
    all_goals first
      | (exfalso;simp at hc;done)
      | (refine GO_retV1 rfl rfl rfl ?_;first|(rw [if_pos ((hR ()).2 (by grind))];done)|(rw [if_neg (fun k => by have k2:=(hR ()).1 k;grind)];done))
  · simp only [if_neg hgo] at hgm
    rw [if_neg (fun k => hgo ((hR ()).1 k).1.1)]
    repeat' (first|apply GO_seq|apply GO_region|apply GOl_nil|(apply GOl_unwanted;exact rfl;exact rfl)|(apply GOl_pv;(iterate 3 exact rfl))|(apply GOl_load;exact rfl;exact Ld_blk rfl QM rfl;exact rfl;exact rfl)|(apply GOl_to;(iterate 3 exact rfl);(first|(apply OpTo_box;exact rfl;intro b;skip)|(apply OpTo_val;exact rfl;exact has14;exact hgm _;skip)))|(apply GO_cond;exact rfl;all_goals (intro hc;try simp only [hcS,reduceCtorEq] at hc;try (exfalso;omega)))|(apply GOl_split;exact rfl;exact rfl;all_goals (intro hc;try simp only [hcS,reduceCtorEq] at hc;try (exfalso;omega))))
    all_goals first
      | (exfalso;omega)
      | (exact GO_retV1 rfl rfl rfl rfl)
end Go.Hw

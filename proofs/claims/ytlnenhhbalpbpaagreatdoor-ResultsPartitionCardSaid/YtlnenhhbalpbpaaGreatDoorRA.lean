import Derived.Test.YtlnenhhbalpbpaaGreatDoorGB
import Derived.Test.YtlnenhhbalpbpaaGreatDoorMR2s
set_option linter.unusedVariables false
set_option linter.unusedSimpArgs false
set_option maxRecDepth 100000
set_option maxHeartbeats 4000000
namespace Go.Hw
open Go
attribute [local irreducible] GO GOl GDp Val Fn Res CellsAt ValE Blk OwnS MapA OwnPf Has
open Go.Proofs (Tryz.prog)
theorem inR_c (h : Ro) (n a b : Int) : Val Tryz.prog 117 #[.int .i64 n,.int .i64 a,.int .i64 b] h (.bool (decide (a ≤ n ∧ n ≤ b))):=by
  refine Val_intro (args:=[_,_,_]) ts_ok Go.Proofs.Tryz.func117 rfl rfl fun w0 X0 => ?_
  repeat' (first|apply GO_seq|apply GO_region|apply GOl_nil|(apply GOl_unwanted;exact rfl;exact rfl)|(apply GOl_pv;(iterate 3 exact rfl))|(apply GOl_split;exact rfl;exact rfl;all_goals (intro hc;try simp only [hcS,reduceCtorEq] at hc;try (exfalso;omega)))|(apply GO_retV1;(iterate 3 exact rfl)))
  all_goals (refine dec_ofV ?_;(try rw [leI_t]);grind)
theorem clubR_c (h : Ro) (n : Int) : Val Tryz.prog 75 #[.int .i64 n] h (.bool (decide (Bel n 192))):=by
  refine Val_intro (args:=[_]) ts_ok Go.Proofs.Tryz.func75 rfl rfl fun w0 X0 => ?_
  repeat' (first|apply GO_seq|apply GO_region|apply GOl_nil|(apply GOl_pv;(iterate 3 exact rfl))|(apply GOl_to;(iterate 3 exact rfl);(first|(apply OpTo_val;exact rfl;exact has117;exact inR_c _ _ _ _;skip)))|(apply GO_retV1;(iterate 3 exact rfl)))
  all_goals (refine dec_ofV ?_;rw [decide_eq_true_eq];unfold Bel;omega)
theorem seasonR_c (h : Ro) (n : Int) : Val Tryz.prog 73 #[.int .i64 n] h (.bool (decide (Bel n 64))):=by
  refine Val_intro (args:=[_]) ts_ok Go.Proofs.Tryz.func73 rfl rfl fun w0 X0 => ?_
  repeat' (first|apply GO_seq|apply GO_region|apply GOl_nil|(apply GOl_pv;(iterate 3 exact rfl))|(apply GOl_to;(iterate 3 exact rfl);(first|(apply OpTo_val;exact rfl;exact has117;exact inR_c _ _ _ _;skip)))|(apply GO_retV1;(iterate 3 exact rfl)))
  all_goals (refine dec_ofV ?_;rw [decide_eq_true_eq];unfold Bel;omega)
theorem compR_c (h : Ro) (n : Int) : Val Tryz.prog 74 #[.int .i64 n] h (.bool (decide (Bel n 16))):=by
  refine Val_intro (args:=[_]) ts_ok Go.Proofs.Tryz.func74 rfl rfl fun w0 X0 => ?_
  repeat' (first|apply GO_seq|apply GO_region|apply GOl_nil|(apply GOl_pv;(iterate 3 exact rfl))|(apply GOl_to;(iterate 3 exact rfl);(first|(apply OpTo_val;exact rfl;exact has117;exact inR_c _ _ _ _;skip)))|(apply GO_retV1;(iterate 3 exact rfl)))
  all_goals (refine dec_ofV ?_;rw [decide_eq_true_eq];unfold Bel;omega)
theorem validR7_c (h : Ro) (g : FGame) : Val Tryz.prog 36 #[gameV g] h (.bool (decide (GameOk g))):=by
  refine Val_intro (args:=[_]) ts_ok Go.Proofs.Tryz.func36 rfl rfl fun w0 X0 => ?_
  repeat' (first|apply GO_seq|apply GO_region|apply GOl_nil|(apply GOl_unwanted;exact rfl;exact rfl)|(apply GOl_pv;(iterate 3 exact rfl))|(apply GOl_load;exact rfl;exact Ld_blk rfl QM rfl;exact rfl;exact rfl)|(apply GOl_to;(iterate 3 exact rfl);(first|(apply OpTo_box;exact rfl;intro b;skip)|(apply OpTo_val;exact rfl;exact has73;exact seasonR_c _ _;skip)|(apply OpTo_val;exact rfl;exact has74;exact compR_c _ _;skip)|(apply OpTo_val;exact rfl;exact has75;exact clubR_c _ _;skip)))|(apply GOl_split;exact rfl;exact rfl;all_goals (intro hc;try simp only [hcS,reduceCtorEq] at hc;try (exfalso;omega)))|(apply GO_retV1;(iterate 3 exact rfl)))
  all_goals (refine dec_ofV ?_;(try simp only [Bool.not_eq_true',eqI_f]);unfold GameOk;grind)
end Go.Hw
set_option linter.unusedVariables false
set_option linter.unusedSimpArgs false
set_option maxRecDepth 100000
set_option maxHeartbeats 4000000
namespace Go.Hw
open Go
attribute [local irreducible] GO GOl GDp Val Fn Res CellsAt ValE Blk OwnS MapA OwnPf Has
open Go.Proofs (Tryz.prog)
end Go.Hw

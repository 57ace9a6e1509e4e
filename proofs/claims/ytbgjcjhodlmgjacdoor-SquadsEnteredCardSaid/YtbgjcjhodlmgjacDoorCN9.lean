import Derived.Test.YtbgjcjhodlmgjacDoorNB
set_option linter.unusedVariables false
set_option linter.unusedSimpArgs false
set_option maxRecDepth 100000
set_option maxHeartbeats 8000000
namespace Go.Hw
open Go
attribute [local irreducible] GO GOl GDp Val Fn Res CellsAt ValE Blk OwnS MapA Yl
open Go.Proofs (Tryd.prog)


theorem fewQ2_c (h : Ro) (q : Quo) (A B D : Option Addr) (c n m d e : Nat) : Val Tryd.prog 5 #[quoV q A c, .slice B n d, .slice D m e] h (.bool (decide (q.wins.length ≤ 20 ∧ n ≤ 20 ∧ m ≤ 20))) := by
  refine Val_intro (args := [_, _, _]) ts_ok Go.Proofs.Tryd.func5 rfl rfl fun w0 X0 => ?_
  repeat' (first | apply GO_seq | apply GO_region | apply GOl_nil | (apply GOl_unwanted; exact rfl; exact rfl) | (apply GOl_pv; exact rfl; exact rfl; exact rfl) | (apply GOl_load; exact rfl; exact Ld_blk rfl (by (repeat (first | exact List.Mem.head _ | apply List.Mem.tail)); done) rfl; exact rfl; exact rfl) | (apply GOl_to; exact rfl; exact rfl; exact rfl; (first | (apply OpTo_box; exact rfl; intro b; skip))) | (apply GOl_split; exact rfl; exact rfl; all_goals intro hc; all_goals try simp only [ltI_t, ltI_f, leI_t, leI_f, eqI_t, eqI_f, Bool.not_eq_true', Bool.not_eq_false', decide_eq_true_eq, decide_eq_false_iff_not, reduceCtorEq] at hc; all_goals try (exfalso; omega)) | (apply GO_retV1; exact rfl; exact rfl; exact rfl))
  all_goals (simp only [ltI_eq, leI_eq, eqI_eq, Value.bool.injEq]; first | rfl | (rw [decide_eq_decide]; omega) | (symm; rw [decide_eq_false_iff_not]; omega) | (symm; rw [decide_eq_true_eq]; omega))

end Go.Hw

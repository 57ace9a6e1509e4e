import Derived.Test.YtbgjcjhodlmgjaaW3
import Derived.Test.YtbgjcjhodlmgjaaW1
set_option linter.unusedVariables false
set_option linter.unusedSimpArgs false
set_option maxRecDepth 100000
set_option maxHeartbeats 400000
namespace Go.Hw
open Go
attribute [local irreducible] GO GOl GDp Val Fn CellsAt
open Go.Proofs (Try.prog)

def shNew (s : Rsh) : Rsh := ⟨s.ac, s.nc, s.cc, none, 0, 0⟩
def shNil : Rsh := ⟨none, 0, 0, none, 0, 0⟩
open Classical in
theorem new_c (h : Ro) (lg : Int) (A : Option Addr) (n c : Nat) (xs : List Int) (hx : SlOf encI 1 h A n xs) (hn : n ≤ 1000000000) :
    Val Try.prog 11 #[.int .i64 lg, .slice A n c] h (if OpenOk lg xs then .tuple #[regV lg 0 ⟨A, n, c, none, 0, 0⟩, .int .i64 0] else .tuple #[regV 0 0 shNil, .int .i64 360]) := by
  refine Val_intro (args := [_, _]) ts_ok Go.Proofs.Try.func11 rfl rfl fun w0 X0 => ?_
  repeat' (first | apply GO_seq | apply GO_skip | apply GO_region | apply GOl_nil | (apply GOl_unwanted; exact rfl; exact rfl) | (apply GOl_pv; exact rfl; exact rfl; exact rfl) | (apply GOl_load; exact rfl; exact Ld_blk rfl (by (repeat (first | exact List.Mem.head _ | apply List.Mem.tail)); done) rfl; exact rfl; exact rfl) | (apply GOl_to; exact rfl; exact rfl; exact rfl; (first | (apply OpTo_store; exact rfl; exact rfl; exact rfl; exact (by (repeat (first | exact Repl.here | apply Repl.there)); done); exact rfl; exact rfl; exact rfl; skip) | (apply OpTo_alloc; exact rfl; intro b; skip) | (apply OpTo_val; exact rfl; exact has29; exact isField_c _ _ _ _ xs hx hn; skip))) | (apply GO_cond; exact rfl; all_goals intro hc; all_goals try simp only [ltI_t, ltI_f, leI_t, leI_f, eqI_t, eqI_f, Bool.not_eq_true', Bool.not_eq_false', decide_eq_true_eq, decide_eq_false_iff_not, reduceCtorEq] at hc; all_goals try (exfalso; omega)) | (apply GOl_split; exact rfl; exact rfl; all_goals intro hc; all_goals try simp only [ltI_t, ltI_f, leI_t, leI_f, eqI_t, eqI_f, Bool.not_eq_true', Bool.not_eq_false', decide_eq_true_eq, decide_eq_false_iff_not, reduceCtorEq] at hc; all_goals try (exfalso; omega)) | (apply GO_retC2; exact rfl; exact rfl; exact rfl; exact (by (repeat (first | exact List.Mem.head _ | apply List.Mem.tail)); done); exact rfl; exact rfl; exact rfl))
  all_goals first
    | (rw [if_neg (by unfold OpenOk; grind)]; rfl)
    | (rw [if_pos (by unfold OpenOk; grind)]; rfl)
    | skip

open Classical in
theorem newR_c (h : Ro) (lg : Int) (A : Option Addr) (n c : Nat) (xs : List Int) (hx : SlOf encI 1 h A n xs) (hn : n ≤ 1000000000) :
    Val Try.prog 12 #[.int .i64 lg, .slice A n c] h (if OpenOk lg xs then .tuple #[regV lg 0 ⟨A, n, c, none, 0, 0⟩, .int .i64 0] else .tuple #[regV 0 0 shNil, .int .i64 360]) := by
  refine Val_intro (args := [_, _]) ts_ok Go.Proofs.Try.func12 rfl rfl fun w0 X0 => ?_
  repeat' (first | apply GO_seq | apply GO_skip | apply GO_region | apply GOl_nil | (apply GOl_unwanted; exact rfl; exact rfl) | (apply GOl_pv; exact rfl; exact rfl; exact rfl) | (apply GOl_to; exact rfl; exact rfl; exact rfl; (first | (apply OpTo_store; exact rfl; exact rfl; exact rfl; exact (by (repeat (first | exact Repl.here | apply Repl.there)); done); exact rfl; exact rfl; exact rfl; skip) | (apply OpTo_alloc; exact rfl; intro b; skip) | (apply OpTo_val; exact rfl; exact has30; exact clubs_c _ _ _ _ xs hx hn; skip))) | (apply GO_cond; exact rfl; all_goals intro hc; all_goals try simp only [ltI_t, ltI_f, leI_t, leI_f, eqI_t, eqI_f, Bool.not_eq_true', Bool.not_eq_false', decide_eq_true_eq, decide_eq_false_iff_not, reduceCtorEq] at hc; all_goals try (exfalso; omega)) | (apply GOl_split; exact rfl; exact rfl; all_goals intro hc; all_goals try simp only [ltI_t, ltI_f, leI_t, leI_f, eqI_t, eqI_f, Bool.not_eq_true', Bool.not_eq_false', decide_eq_true_eq, decide_eq_false_iff_not, reduceCtorEq] at hc; all_goals try (exfalso; omega)) | (apply GO_retC2; exact rfl; exact rfl; exact rfl; exact (by (repeat (first | exact List.Mem.head _ | apply List.Mem.tail)); done); exact rfl; exact rfl; exact rfl))
  all_goals first
    | (rw [if_neg (by unfold OpenOk; grind)]; rfl)
    | (rw [if_pos (by unfold OpenOk; grind)]; rfl)
    | skip

abbrev PlA (b : Nat) (m : List (Int × Sta)) : Asn := MapA (fun i : Int => .int .i64 i) staV b m
theorem K3 : KeyT Try.prog 3 (fun i : Int => .int .i64 i) := by
  obtain ⟨D, h1, h2⟩ := TsOk.und ts_ok (n := 3) rfl
  exact KeyT.int (by rw [h1, blank_int h2])

theorem status_c (h : Ro) (lg d : Int) (s : Rsh) (v : Value) (b : Nat) (m : List (Int × Sta)) (p : Int) :
    ValE Try.prog 34 #[.agg #[.int .i64 lg, .slice s.ac s.nc s.cc, .int .i64 d, v, .map (some b)], .int .i64 p] [PlA b m] h (staV ((lookA p m).getD st0)) := by
  refine ValE_intro (args := [_, _]) ts_ok Go.Proofs.Try.func34 rfl rfl fun w0 X0 => ?_
  rcases hl : lookA p m with _ | t
  all_goals
    repeat' (first | apply GO_seq | apply GO_skip | apply GO_region | apply GOl_nil | (apply GOl_pv; exact rfl; exact rfl; exact rfl) | (apply GOl_load; exact rfl; exact Ld_blk rfl (by (repeat (first | exact List.Mem.head _ | apply List.Mem.tail)); done) rfl; exact rfl; exact rfl) | (apply GOl_ov; exact rfl; exact rfl; (first | (apply OV_lookup (ev := staV) K3; exact rfl; exact rfl; exact rfl; exact rfl; exact rfl; exact hl)); exact (by repeat' (first | exact trivial | apply And.intro | exact List.Mem.head _ | apply List.Mem.tail))) | (apply GOl_to; exact rfl; exact rfl; exact rfl; (first | (apply OpTo_store; exact rfl; exact rfl; exact rfl; exact (by (repeat (first | exact Repl.here | apply Repl.there)); done); exact rfl; exact rfl; exact rfl; skip) | (apply OpTo_box; exact rfl; intro b; skip) | (apply OpTo_alloc; exact rfl; intro b; skip) | (apply OpTo_val; exact rfl; exact has35; exact unknown_c _; skip))) | (apply GO_cond; exact rfl; all_goals intro hc; all_goals try simp only [ltI_t, ltI_f, leI_t, leI_f, eqI_t, eqI_f, Bool.not_eq_true', Bool.not_eq_false', decide_eq_true_eq, decide_eq_false_iff_not, reduceCtorEq] at hc; all_goals try (exfalso; omega)) | (apply GO_retKC1; exact rfl; exact rfl; exact rfl; exact (by (repeat (first | exact List.Mem.head _ | apply List.Mem.tail)); done); exact rfl; exact rfl; exact (by (repeat (first | exact List.Sublist.refl _ | exact List.nil_sublist _ | apply List.Sublist.cons_cons | apply List.Sublist.cons)); done)))
  all_goals rfl
end Go.Hw


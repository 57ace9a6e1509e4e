import Derived.Test.YtajmniiiahhfaaaGreatDoorED
import Derived.Test.YtajmniiiahhfaaaGreatDoorEB
/-
  law08: Days, walked.
-/
set_option linter.unusedVariables false
set_option linter.unusedSimpArgs false
set_option maxRecDepth 100000
set_option maxHeartbeats 8000000
namespace Go.Hw
open Go
attribute [local irreducible] GO GOl GDp Val Fn Res CellsAt ValE Blk OwnS MapA OwnPf Has Yl idF
open Go.Proofs (Tryz.prog)
theorem viewE_ok {l : List Fct} {d k : Int} (h : LedOk l) (hd : 0 ≤ d ∧ d ≤ 1048576) (hk : 0 ≤ k ∧ k ≤ 1048576) : viewE l d k = (viewL idF l d k, 0) := by
  unfold viewE; rw [if_neg (by rw [ledE_zero.2 h]; omega), if_neg (by omega)]
theorem viewE_no {l : List Fct} {d k : Int} (h : LedOk l) (hd : ¬ (0 ≤ d ∧ d ≤ 1048576) ∨ ¬ (0 ≤ k ∧ k ≤ 1048576)) : viewE l d k = ([], 1) := by
  unfold viewE; rw [if_neg (by rw [ledE_zero.2 h]; omega), if_pos hd]
theorem view_ok (h : Ro) (hG : PowG h) (A : Option Addr) (n c : Nat) (l : List (Fsh × Fct)) (hx : FactsAt h A n l) (hok : LedOk (fcs l)) (d k : Int) : Res Tryz.prog 37 #[ledV A n c, .int .i64 d, .int .i64 k] h (fun u h' => ∃ A k' c' l', u = .tuple #[.slice A k' c', .int .i64 (viewE (fcs l) d k).2] ∧ k' ≤ c' ∧ FactsAt h' A k' l' ∧ fcs l' = (viewE (fcs l) d k).1) := view_c h hG A n c l hx d k
end Go.Hw

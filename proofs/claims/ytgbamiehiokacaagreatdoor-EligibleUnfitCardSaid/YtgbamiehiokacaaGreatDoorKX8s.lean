import Derived.Test.YtgbamiehiokacaaGreatDoorKX3
set_option linter.unusedVariables false
set_option linter.unusedSimpArgs false
set_option maxRecDepth 100000
set_option maxHeartbeats 8000000
namespace Go.Hw
open Go
attribute [local irreducible] GO GOl GDp Val Fn Res CellsAt ValE Blk OwnS MapA OwnPf Has Yl SepA forceL
open Go.Proofs (Tryz.prog)
theorem susp_ext {a b : FSusp} : a = b ↔ a.p = b.p ∧ a.club = b.club ∧ a.g.s = b.g.s ∧ a.g.c = b.g.c ∧ a.g.h = b.g.h ∧ a.g.a = b.g.a:=by
  rcases a with ⟨a1,a2,a3,a4,a5,a6⟩
  rcases b with ⟨b1,b2,b3,b4,b5,b6⟩
  simp
theorem susp_eq (a b : FSusp) : eqD ts 10 88 (.agg (encSu a).toArray) (.agg (encSu b).toArray) = some (decide (a = b)):=by
  have e : eqD ts 10 88 (.agg (encSu a).toArray) (.agg (encSu b).toArray) = some (eqI a.p b.p && (eqI a.club b.club && ((eqI a.g.s b.g.s && (eqI a.g.c b.g.c && (eqI a.g.h b.g.h && (eqI a.g.a b.g.a && true)))) && true))):=rfl
  rw [e];congr 1;refine dec_of ?_;rw [susp_ext];simp only [Bool.and_eq_true,eqI_t,and_true]
end Go.Hw

import Derived.Test.YtlnenhhbalpbpaaGreatDoorRA
import Derived.Test.YtlnenhhbalpbpaaGreatDoorBA
set_option linter.all false
set_option maxRecDepth 100000
set_option maxHeartbeats 8000000
namespace Go.Hw
open Go
attribute [local irreducible] GO GOl GDp Val Fn Res Ab Du Blk Bd Cd Bf Has Yl
open Go.Proofs.Tryz (prog)
theorem gameR7_c (h:Ro)(g:Ak):Val prog 14 #[De g] h (.int .i64 (if Dh g then 0 else 70)):=by
 refine QXV Proofs.Tryz.func14 fun w0 X0=>?_
 have hv:=Kn h g
 by_cases hg:Dh g
 · rw [decide_eq_true hg] at hv
   rw [if_pos hg]
   repeat' (first|refine QF ?_|(refine QB ?_;intro b)|(refine QG ?_;first|(apply Aa;exact J;exact Gta;exact hv))|(refine QH ?_ ?_<;>intro hc<;>try omega)|fail)
   all_goals first
    | (exfalso;simp at hc;done)
    | (exact Ac rfl rfl rfl rfl)
 · rw [decide_eq_false hg] at hv
   rw [if_neg hg]
   repeat' (first|refine QF ?_|(refine QB ?_;intro b)|(refine QG ?_;first|(apply Aa;exact J;exact Gta;exact hv))|(refine QH ?_ ?_<;>intro hc<;>try omega)|fail)
   all_goals first
    | (exfalso;simp at hc;done)
    | (exact Ac rfl rfl rfl rfl)
end Go.Hw

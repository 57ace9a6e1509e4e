import Derived.Test.YtgbamiehiokacaaGreatDoorKV15
import Derived.Test.YtgbamiehiokacaaGreatDoorKV14s
import Derived.Test.YtgbamiehiokacaaGreatDoorKV18v
set_option linter.unusedVariables false
set_option linter.unusedSimpArgs false
set_option maxRecDepth 100000
set_option maxHeartbeats 8000000
namespace Go.Hw
open Go
attribute [local irreducible] GO GOl GDp Val Fn Res CellsAt ValE Blk OwnS MapA OwnPf Has Yl SepA forceL idF voidL
open Go.Proofs (Tryz.prog)
open Classical in
theorem Tg (h : Ro) (hG : PowG h) (A : Option Addr) (n c : Nat) (l : List (Fsh × Fct)) (hx : LedIn h A n c l) : Res Tryz.prog 3 #[.slice A n c] h (fun u _ => u = .bool true):=by
 refine Bn (args:=[_]) ts_ok Go.Proofs.Tryz.func3 rfl rfl fun w0 X0 => ?_
 have hfew:=few10_c h A n c l hx.row hx.small
 have hsane:=Rb h hG
 by_cases hF : (∀ p ∈ l,SmallS p.1 p.2) ∧ (n : Int) ≤ 16
 · rw [decide_eq_true hF] at hfew
   have hfa:=hx.facts16 hF.2
   have hn6 : n ≤ 65536:=by have:=hF.2;omega
   have hf1:=fun h' (hl : Le h h') => Void_c h' (hG.le hl) A n c l (hfa.le hl) hn6
   have hf2:=fun h' (hl : Le h h') => VoidR_c h' A n c l (hfa.le hl) hn6
   clear hF hfa hx
   generalize canonL (fcs l) = C at *
   have h32 : ∀ x ∈ (voidL C).map idF,x.length = 32:=fun x hx => by
    obtain ⟨f,_,rfl⟩:=List.mem_map.1 hx
    exact Iv f
   repeat' (first|apply Ad|apply Ap|apply Aa|apply Ab|(apply Ac;(iterate 3 exact J))|(apply Aj;(iterate 3 exact J);(first|(apply Ai;exact J;exact has15;exact hsane;skip)|(apply Ai;exact J;exact has16;exact hfew;skip)|(apply Bf;exact J;exact has17;exact hf1 _ QL;rintro w3 h3 hle3 ⟨A3,c3,rl,rfl,hsl,hrl,hn3⟩;skip)|(apply Bf;exact J;exact has18;exact hf2 _ QL;rintro w4 h4 hle4 ⟨A4,c4,ql,rfl,hql,hrq,hn4⟩;skip)|(apply Ai;exact J;exact has19;exact sameDg_c _ A3 rl.length c3 rl (hsl.le QL) hn3 A4 ql.length c4 ql (hql.le QL) (hrl.trans hrq.symm) (by rw [hrl];exact h32);skip)))|(apply Af;exact J;all_goals (intro hc;try simp only [hcS,reduceCtorEq] at hc;try (exfalso;omega))))
   all_goals first
    | (exfalso;simp at hc;done)
    | (exact Ca rfl rfl rfl rfl)
    | (exact Ca rfl rfl rfl (by simp [Dj]))
 · rw [decide_eq_false hF] at hfew
   repeat' (first|apply Ad|apply Ap|apply Aa|apply Ab|(apply Ac;(iterate 3 exact J))|(apply Aj;(iterate 3 exact J);(first|(apply Ai;exact J;exact has15;exact hsane;skip)|(apply Ai;exact J;exact has16;exact hfew;skip)))|(apply Af;exact J;all_goals (intro hc;try simp only [hcS,reduceCtorEq] at hc;try (exfalso;omega))))
   all_goals first
    | (exact Ca rfl rfl rfl rfl)
    | (exfalso;simp at hc;done)
end Go.Hw

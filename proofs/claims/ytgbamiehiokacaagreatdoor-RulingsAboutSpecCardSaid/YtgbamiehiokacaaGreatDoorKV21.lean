import Derived.Test.YtgbamiehiokacaaGreatDoorKV15
import Derived.Test.YtgbamiehiokacaaGreatDoorKV14s
import Derived.Test.YtgbamiehiokacaaGreatDoorKV18
import Derived.Test.YtgbamiehiokacaaGreatDoorKV20
set_option linter.unusedVariables false
set_option linter.unusedSimpArgs false
set_option maxRecDepth 100000
set_option maxHeartbeats 8000000
namespace Go.Hw
open Go
attribute [local irreducible] GO GOl GDp Val Fn Res CellsAt ValE Blk OwnS MapA OwnPf Has Yl SepA forceL idF voidL aboutL maxF
open Go.Proofs (Tryz.prog)
open Classical in
theorem Xw (h : Ro) (hG : PowG h) (A : Option Addr) (n c : Nat) (l : List (Fsh × Fct)) (hx : LedIn h A n c l) (g : FGame) (s co cl : Int) : Res Tryz.prog 5 #[.slice A n c,gameV g,.int .i64 s,.int .i64 co,.int .i64 cl] h (fun u _ => u = .bool true):=by
 refine Bn (args:=[_,_,_,_,_]) ts_ok Go.Proofs.Tryz.func5 rfl rfl fun w0 X0 => ?_
 have hfew:=fun h' (hl : Le h h') => few10_c h' A n c l (hx.row.le hl) hx.small
 have hsane:=Rb h hG
 by_cases hF : (∀ p ∈ l,SmallS p.1 p.2) ∧ (n : Int) ≤ 16
 · simp only [decide_eq_true hF] at hfew
   have hfa:=hx.facts16 hF.2
   have hn6 : n ≤ 65536:=by have:=hF.2;omega
   have ho1:=fun h' (hl : Le h h') => Awa h' (hG.le hl) A n c l (hfa.le hl) g
   have ho2:=fun h' (hl : Le h h') => OfGameR_c h' A n c l (hfa.le hl) hn6 g
   have hp1:=fun h' (hl : Le h h') => Points_c h' (hG.le hl) A n c l (hfa.le hl) s co cl
   have hp2:=fun h' (hl : Le h h') => PointsR_c h' A n c l (hfa.le hl) hn6 s co cl
   have hb1:=fun h' (hl : Le h h') => Bans_c h' (hG.le hl) A n c l (hfa.le hl) cl
   have hb2:=fun h' (hl : Le h h') => BansR_c h' A n c l (hfa.le hl) hn6 cl
   clear hF hfa hx
   generalize canonL (fcs l) = C at *
   generalize (ofGame C g) = oo at *
   obtain ⟨rr,dy,ok⟩:=oo
   dsimp only at ho1 ho2
   generalize (pointsL C s co cl) = pp at *
   have hre:=Hk rr rr
   rw [decide_eq_true rfl] at hre
   repeat' (first|apply Ad|apply Ap|apply Aa|apply Ab|(apply Az;exact J;exact J)|(apply Ac;(iterate 3 exact J))|(apply Aq;exact J;exact Bd rfl QM rfl;exact J;exact J)|(apply Bc;exact J;exact J;(first|(apply Aw;exact J;exact Bp rfl (hcg9.le QL) rfl)|(apply Dv;exact J;exact J;exact hre;kernel_rfl;kernel_rfl));exact QA)|(apply Aj;(iterate 3 exact J);(first|(apply Ao;(iterate 3 exact J);exact QR;(iterate 3 exact J);skip)|(apply Ay;exact J;intro b;skip)|(apply At;exact J;intro b;skip)|(refine Cl (e:=35) QK ?_;intro h9 hle9 hcg9;apply Ai;exact J;exact has15;exact Rb _ (hG.le hle9);skip)|(apply Ai;exact J;exact has16;exact hfew _ QL;skip)|(apply Bf;exact J;exact has23;exact ho1 _ QL;rintro w1 h1 hle1 rfl;skip)|(apply Bf;exact J;exact has24;exact ho2 _ QL;rintro w2 h2 hle2 rfl;skip)|(apply Bf;exact J;exact has25;exact hp1 _ QL;rintro w5 h5 hle5 rfl;skip)|(apply Bf;exact J;exact has26;exact hp2 _ QL;rintro w6 h6 hle6 rfl;skip)|(apply Bf;exact J;exact has28;exact hb1 _ QL;rintro w3 h3 hle3 ⟨A3,c3,rl,rfl,hsl,hrl,hn3⟩;skip)|(apply Bf;exact J;exact has29;exact hb2 _ QL;rintro w4 h4 hle4 ⟨A4,c4,ql,rfl,hql,hrq,hn4⟩;skip)|(apply Ai;exact J;exact has27;exact sameDa_c _ A3 rl.length c3 rl (hsl.le QL) hn3 A4 ql.length c4 ql (hql.le QL) (hrl.trans hrq.symm);skip)))|(apply Af;exact J;all_goals (intro hc;try simp only [hcS,reduceCtorEq] at hc;try (exfalso;omega)))|(apply Bg;exact J;exact J;all_goals (intro hc;try simp only [hcS,reduceCtorEq] at hc;try (exfalso;omega))))
   all_goals first
    | (exfalso;simp at hc;done)
    | (exact Ca rfl rfl rfl rfl)
    | (exact Ca rfl rfl rfl (by simp [Dj]))
 · simp only [decide_eq_false hF] at hfew
   repeat' (first|apply Ad|apply Ap|apply Aa|apply Ab|(apply Ac;(iterate 3 exact J))|(apply Aj;(iterate 3 exact J);(first|(apply Ay;exact J;intro b;skip)|(apply Ai;exact J;exact has15;exact hsane;skip)|(apply Ai;exact J;exact has16;exact hfew _ QL;skip)))|(apply Af;exact J;all_goals (intro hc;try simp only [hcS,reduceCtorEq] at hc;try (exfalso;omega))))
   all_goals first
    | (exact Ca rfl rfl rfl rfl)
    | (exfalso;simp at hc;done)
end Go.Hw

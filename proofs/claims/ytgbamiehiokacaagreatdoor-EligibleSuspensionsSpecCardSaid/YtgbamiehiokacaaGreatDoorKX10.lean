import Derived.Test.YtgbamiehiokacaaGreatDoorXB
import Derived.Test.YtgbamiehiokacaaGreatDoorKX7
set_option linter.all false
set_option maxRecDepth 100000
set_option maxHeartbeats 8000000
namespace Go.Hw
open Go
attribute [local irreducible] GO GOl GDp Val Fn Res CellsAt ValE Blk OwnS MapA OwnPf Has Yl SepA forceL decC memS suspC suspN suspOne yelC cardsF nextC regF offS unfitL
open Go.Proofs (Tryz.prog)
open Classical in
theorem Te (h:Ro)(hG:PowG h)(A:Option Addr)(n c:Nat)(l:List (Fsh×Fct))(hx:LedIn h A n c l)(s co:Int):Res Tryz.prog 8 #[.slice A n c,.int .i64 s,.int .i64 co] h (fun u _=>u=.bool true):=by
 refine Bi (args:=[_,_,_]) ts_ok Go.Proofs.Tryz.func8 rfl rfl fun w0 X0 => ?_
 have hfew:=fewF_c h A n c l hx.row hx.small 12
 have hsane:=Qx h hG
 by_cases hF:(∀ p∈l,SmallS p.1 p.2)∧(n:Int)≤12
 · rw [decide_eq_true hF] at hfew
   have hfa:FactsAt h A n l:=⟨hx.row,hx.fat,by have:=hF.2;omega⟩
   have hn6:n≤65536:=by have:=hF.2;omega
   have hs1:=fun s co h' (hl:Le h h')=>Gu h' (hG.le hl) A n c l (hfa.le hl) hn6 s co
   have hs2:=fun s co h' (hl:Le h h')=>Ih h' A n c l (hfa.le hl) hn6 s co
   clear hF hfa hx
   have k1:=hs1 s co
   have k2:=hs2 s co
   have k3:=hs1 1 2
   have k4:=hs2 1 2
   generalize suspC (decC (fcs l) s co)=S at *
   generalize suspC (decC (fcs l) 1 2)=T at *
   clear hs1 hs2
   repeat' (first|apply Ac|apply Av|apply Aa|apply Ab|(apply Ad;(iterate 3 exact J))|(apply Ai;(iterate 3 exact J);(first|(apply Ak;exact J;exact B7a;exact hsane;skip)|(apply Ak;exact J;exact B6a;exact hfew;skip)|(apply Ba;exact J;exact has40;exact k1 _ QL;rintro w1 h1 hle1 ⟨A1,c1,rfl,hS1,hn1⟩;skip)|(apply Ba;exact J;exact has41;exact k2 _ QL;rintro w2 h2 hle2 ⟨A2,c2,rfl,hS2,hn2⟩;skip)|(apply Ak;exact J;exact has39;exact Zf _ A1 S.length c1 S (hS1.le QL) hn1 A2 S.length c2 S (hS2.le QL) rfl;skip)|(apply Ba;exact J;exact has40;exact k3 _ QL;rintro w3 h3 hle3 ⟨A3,c3,rfl,hS3,hn3⟩;skip)|(apply Ba;exact J;exact has41;exact k4 _ QL;rintro w4 h4 hle4 ⟨A4,c4,rfl,hS4,hn4⟩;skip)|(apply Ak;exact J;exact has39;exact Zf _ A3 T.length c3 T (hS3.le QL) hn3 A4 T.length c4 T (hS4.le QL) rfl;skip)))|(apply Af;exact J;all_goals (intro hc;try simp only [hcS,reduceCtorEq] at hc;try (exfalso;omega))))
   all_goals first
    | (exfalso;simp at hc;done)
    | (exact Bt rfl rfl rfl rfl)
 · rw [decide_eq_false hF] at hfew
   repeat' (first|apply Ac|apply Av|apply Aa|apply Ab|(apply Ad;(iterate 3 exact J))|(apply Ai;(iterate 3 exact J);(first|(apply Ak;exact J;exact B7a;exact hsane;skip)|(apply Ak;exact J;exact B6a;exact hfew;skip)))|(apply Af;exact J;all_goals (intro hc;try simp only [hcS,reduceCtorEq] at hc;try (exfalso;omega))))
   all_goals first
    | (exact Bt rfl rfl rfl rfl)
    | (exfalso;simp at hc;done)
end Go.Hw

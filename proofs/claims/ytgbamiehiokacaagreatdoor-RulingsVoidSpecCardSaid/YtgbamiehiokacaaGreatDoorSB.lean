import Derived.Test.YtgbamiehiokacaaGreatDoorSA
import Derived.Test.YtgbamiehiokacaaGreatDoorRA
set_option linter.unusedVariables false
set_option linter.unusedSimpArgs false
set_option maxRecDepth 100000
set_option maxHeartbeats 4000000
namespace Go.Hw
open Go
attribute [local irreducible] GO GOl GDp Val Fn Res CellsAt ValE Blk OwnS MapA OwnPf Has Yl RngA
open Go.Proofs (Tryz.prog)
def SmallS (s : Fsh) (f : Fct) : Prop:=s.cl.n ≤ 60 ∧ f.eRules.length ≤ 100 ∧ s.hs.n ≤ 60 ∧ s.asn.n ≤ 60 ∧ s.hc.n ≤ 60 ∧ s.ac.n ≤ 60 ∧ s.lo.n ≤ 60
instance (s : Fsh) (f : Fct) : Decidable (SmallS s f):=by unfold SmallS;infer_instance
theorem small_c (h : Ro) (s : Fsh) (f : Fct) : Val Tryz.prog 78 #[factV s f] h (.bool (decide (SmallS s f))):=by
 refine Au (args:=[_]) ts_ok Go.Proofs.Tryz.func78 rfl rfl fun w0 X0 => ?_
 repeat' (first|apply Ad|apply Aa|apply Ab|(apply Az;exact J;exact J)|(apply Ac;(iterate 3 exact J))|(apply Aq;exact J;exact Bd rfl QM rfl;exact J;exact J)|(apply Aj;(iterate 3 exact J);(first|(apply Ay;exact J;intro b;skip)))|(apply Bg;exact J;exact J;all_goals (intro hc;try simp only [hcS,reduceCtorEq] at hc;try (exfalso;omega))))
 all_goals (first|(apply Av;(iterate 3 exact J)))
 all_goals (refine Ce ?_;(try simp only [Id,Hm,leI_f] at *);unfold SmallS;first|omega|(simp only [Bool.false_eq_true,false_iff];omega))
theorem fewF_c (h : Ro) (A : Option Addr) (n c : Nat) (l : List (Fsh × Fct)) (hx : SlOf encF82 82 h A n l) (hn : n ≤ 9223372036854775807) (most : Int) : Val Tryz.prog 34 #[.slice A n c,.int .i64 most] h (.bool (decide ((∀ p ∈ l,SmallS p.1 p.2) ∧ (n : Int) ≤ most))):=by
 refine Au (args:=[_,_]) ts_ok Go.Proofs.Tryz.func34 rfl rfl fun w0 X0 => ?_
 have hlen:=hx.len
 repeat' (first|apply Ad|apply Ag|apply Aa|apply Ab|(apply Ac;(iterate 3 exact J)))
 refine Bh (X:=Nat) (fun k => k ≤ n ∧ ∀ p ∈ l.take k,SmallS p.1 p.2) (fun k => n - k) (fun k => [(5,.int .i64 k),(0,.slice A n c),(1,.int .i64 most)]) (fun _ => []) (fun _ => h) 0 ⟨by omega,by simp⟩ QS QT rfl ?_
 rintro k ⟨hk,hI⟩ ih
 by_cases hkn : k < n
 · have a1:=hx.addrD hkn
   have c1:=hx.cellsD p0 hkn
   have ht1:=Cq p0 hlen hkn
   have hm:=mem7 p0 (show k < l.length by omega)
   generalize l.getD k p0 = p at *
   have hs:=small_c h p.1 p.2
   by_cases hp : SmallS p.1 p.2
   · rw [decide_eq_true hp] at hs
     repeat' (first|apply Ad|apply Ap|apply Ah|apply Ag|apply Aa|apply Ab|(apply Be;(iterate 3 exact J);omega;exact J;exact J)|(apply Ac;(iterate 3 exact J))|(apply Bc;exact J;exact J;(first|(apply Bb (j:=k);(iterate 5 exact J);exact a1;(with_reducible exact J);omega)|(apply Aw;exact J;exact Bp rfl c1 rfl));exact QA)|(apply Aj;(iterate 3 exact J);(first|(apply Ai;exact J;exact has78;exact hs;skip)))|(apply Af;exact J;all_goals (intro hc;try simp only [hcS,reduceCtorEq] at hc;try (exfalso;omega))))
     all_goals
      have h3:=ih (k + 1) ⟨by omega,by
       rw [ht1];intro q hq
       rw [List.mem_append,List.mem_singleton] at hq
       rcases hq with hq|rfl
       · exact hI q hq
       · exact hp⟩ (by omega)
      refine Bm QS QT (h3)
   · rw [decide_eq_false hp] at hs
     repeat' (first|apply Ad|apply Ap|apply Ag|apply Aa|apply Ab|(apply Ac;(iterate 3 exact J))|(apply Bc;exact J;exact J;(first|(apply Bb (j:=k);(iterate 5 exact J);exact a1;(with_reducible exact J);omega)|(apply Aw;exact J;exact Bp rfl c1 rfl));exact QA)|(apply Aj;(iterate 3 exact J);(first|(apply Ai;exact J;exact has78;exact hs;skip)))|(apply Af;exact J;all_goals (intro hc;try simp only [hcS,reduceCtorEq] at hc;try (exfalso;omega)))|(apply Av;(iterate 3 exact J)))
     all_goals (rw [decide_eq_false];rintro ⟨h1,_⟩;exact hp (h1 p hm))
 · rw [List.take_of_length_le (by omega)] at hI
   repeat' (first|apply Ad|apply Aa|apply Ab|(apply Bi;exact J)|(apply Ac;(iterate 3 exact J))|(apply Af;exact J;all_goals (intro hc;try simp only [hcS,reduceCtorEq] at hc;try (exfalso;omega)))|(apply Av;(iterate 3 exact J)))
   all_goals (refine Ce ?_;rw [Hm];exact ⟨fun h => ⟨hI,h⟩,fun h => h.2⟩)
def shF (r g d k : Int) : Fct:={ fct0 with kind:=3,day:=d,known:=k,sh:={ sheet0 with g:=⟨0,0,1,2⟩,ref:=r,hg:=g } }
end Go.Hw
namespace Go.Hw
open Go
attribute [local irreducible] GO GOl GDp Val Fn Res CellsAt ValE Blk OwnS MapA OwnPf Has Yl RngA
open Go.Proofs (Tryz.prog)
def g9 : FGame:=⟨0,0,1,2⟩
theorem FactsAt.nil (h : Ro) : FactsAt h none 0 []:=⟨SlOf.nil,fun p hp => absurd hp (by simp),by omega⟩
end Go.Hw
namespace Go.Hw
open Go
attribute [local irreducible] GO GOl GDp Val Fn Res CellsAt ValE Blk OwnS MapA OwnPf Has Yl RngA
open Go.Proofs (Tryz.prog)
def L1 : List (Fsh × Fct):=[(fsh0,shF 0 3 7 9),(fsh0,shF 0 2 7 8)]
def L2 : List (Fsh × Fct):=[(fsh0,shF 0 2 7 8),(fsh0,shF 1 2 9 9)]
end Go.Hw

import Derived.Test.YtgbamiehiokacaaGreatDoorXB
set_option linter.unusedVariables false
set_option linter.unusedSimpArgs false
set_option maxRecDepth 100000
set_option maxHeartbeats 8000000
namespace Go.Hw
open Go
attribute [local irreducible] GO GOl GDp Val Fn Res CellsAt ValE Blk OwnS MapA OwnPf Has Yl SepA forceL decC memS suspC suspN suspOne yelC cardsF nextC regF offS unfitL
open Go.Proofs (Tryz.prog)
open Classical in
theorem unfit_law (h : Ro) (hG : PowG h) (A : Option Addr) (n c : Nat) (l : List (Fsh × Fct)) (hx : LedIn h A n c l) (pl day : Int) : Res Tryz.prog 13 #[.slice A n c,.int .i64 pl,.int .i64 day] h (fun u _ => u = .bool true):=by
 refine Br (args:=[_,_,_]) ts_ok Go.Proofs.Tryz.func13 rfl rfl fun w0 X0 => ?_
 have hfew:=Wn h A n c l hx.row hx.small 12
 have hsane:=Mw h hG
 by_cases hF : (∀ p ∈ l,SmallS p.1 p.2) ∧ (n : Int) ≤ 12
 · rw [decide_eq_true hF] at hfew
   have hfa : FactsAt h A n l:=⟨hx.row,hx.fat,by have:=hF.2;omega⟩
   have hn6 : n ≤ 65536:=by have:=hF.2;omega
   have hf1:=fun h' (hl : Le h h') => Fa h' (hG.le hl) A n c l (hfa.le hl)
   have hu1:=fun h' (hl : Le h h') => Lz h' (hG.le hl) A n c l (hfa.le hl) pl day
   have e : unfitL (canonL (fcs l)) pl day = ((forceL (canonL (fcs l))).map (·.ru)).any (unfB pl day):=by unfold unfitL;rfl
   rw [e] at hu1
   obtain ⟨L,hL⟩ : ∃ L,L = (forceL (canonL (fcs l))).map (·.ru):=⟨_,rfl⟩
   rw [← hL] at hf1 hu1
   clear hF hfa hx e hL
   repeat' (first|apply Ad|apply At|apply Ah|apply Aa|apply Ab|(apply Ac;(iterate 3 exact J))|(apply Aj;(iterate 3 exact J);(first|(apply Ap;exact J;exact Oo;exact hsane;skip)|(apply Ap;exact J;exact Mq;exact hfew;skip)|(apply Bf;exact J;exact Ot;exact hf1 _ QL;rintro w1 h1 hle1 ⟨A3,c3,rl,rfl,hsl,rfl,hn3⟩;skip)))|(apply Af;exact J;all_goals (intro hc;try simp only [hcS,reduceCtorEq] at hc;try (exfalso;omega))))
   all_goals (try (exfalso;simp at hc;done))
   clear hf1 hfew hsane
   refine Bi (X:=Nat) (fun k => k ≤ rl.length) (fun k => rl.length - k)
    (fun k => [(18,.int .i64 k),(17,.int .i64 rl.length),(16,.slice A3 rl.length c3),(7,.bool ((rl.take k).any (unfB pl day))),(0,.slice A n c),(1,.int .i64 pl),(2,.int .i64 day)])
    (fun _ => []) (fun _ => h1) 0 (by omega) QS QT rfl ?_
   rintro k hk ih
   by_cases hkn : k < rl.length
   · have a1:=hsl.addrD hkn
     have c1:=hsl.cellsD rul0 hkn
     have et:=Cr rul0 (xs:=rl) rfl hkn
     generalize rl.getD k rul0 = r at *
     have h9:=ih (k + 1) (by omega) (by omega)
     rw [et,List.any_append,List.any_cons,List.any_nil,Bool.or_false] at h9
     generalize (rl.take k).any (unfB pl day) = w at *
     clear ih et
     cases w
     · rw [Bool.false_or] at h9
       by_cases hP : r.kind = 6 ∧ r.player = pl ∧ r.lo ≤ day ∧ day ≤ r.hi
       · rw [show unfB pl day r = true from decide_eq_true hP] at h9
         obtain ⟨p1,p2,p3,p4⟩:=hP
         have e7 : leI day r.hi = true:=(Hb _ _).mpr p4
         repeat' (first|apply Ad|apply At|apply Ao|apply Ah|apply Aa|apply Ab|(apply Bg;(iterate 3 exact J);omega;exact J;exact J)|(apply Ac;(iterate 3 exact J))|(apply Aq;exact J;exact Ba rfl QM rfl;exact J;exact J)|(apply Bc;exact J;exact J;(first|(apply Bd (j:=k);(iterate 5 exact J);exact a1;(with_reducible exact J);omega)|(apply Au;exact J;exact Bl rfl c1 rfl));exact QA)|(apply Aj;(iterate 3 exact J);(first|(apply Ag;(iterate 3 exact J);exact QR;(iterate 3 exact J);skip)|(apply Ai;exact J;intro b;skip)))|(apply Af;exact J;all_goals (intro hc;try simp only [hcS,reduceCtorEq] at hc;try (exfalso;omega)))|(apply Bb;exact J;exact J;all_goals (intro hc;try simp only [hcS,reduceCtorEq] at hc;try (exfalso;omega))))
         all_goals first
          | (exfalso;omega)
          | contradiction
          | (rw [e7];refine Bk QS QT (h9))
          | (refine Bk QS QT (h9))
       · rw [show unfB pl day r = false from decide_eq_false hP] at h9
         by_cases p4 : day ≤ r.hi
         case' neg => have e7 : leI day r.hi = false:=(leI_f _ _).mpr (by omega)
         all_goals (repeat' (first|apply Ad|apply At|apply Ao|apply Ah|apply Aa|apply Ab|(apply Ar;exact J;exact J)|(apply Bg;(iterate 3 exact J);omega;exact J;exact J)|(apply Ac;(iterate 3 exact J))|(apply Aq;exact J;exact Ba rfl QM rfl;exact J;exact J)|(apply Bc;exact J;exact J;(first|(apply Bd (j:=k);(iterate 5 exact J);exact a1;(with_reducible exact J);omega)|(apply Au;exact J;exact Bl rfl c1 rfl));exact QA)|(apply Aj;(iterate 3 exact J);(first|(apply Ag;(iterate 3 exact J);exact QR;(iterate 3 exact J);skip)|(apply Ai;exact J;intro b;skip)))|(apply Af;exact J;all_goals (intro hc;try simp only [hcS,reduceCtorEq] at hc;try (exfalso;omega)))|(apply Bb;exact J;exact J;all_goals (intro hc;try simp only [hcS,reduceCtorEq] at hc;try (exfalso;omega)))))
         all_goals first
          | (exfalso;exact hP ⟨by assumption,by assumption,by assumption,by assumption⟩)
          | (exfalso;omega)
          | contradiction
          | (rw [e7];refine Bk QS QT (h9))
          | (refine Bk QS QT (h9))
     · rw [Bool.true_or] at h9
       repeat' (first|apply Ad|apply At|apply Ao|apply Ah|apply Aa|apply Ab|(apply Ar;exact J;exact J)|(apply Bg;(iterate 3 exact J);omega;exact J;exact J)|(apply Ac;(iterate 3 exact J))|(apply Bc;exact J;exact J;(first|(apply Bd (j:=k);(iterate 5 exact J);exact a1;(with_reducible exact J);omega)|(apply Au;exact J;exact Bl rfl c1 rfl));exact QA)|(apply Aj;(iterate 3 exact J);(first|(apply Ag;(iterate 3 exact J);exact QR;(iterate 3 exact J);skip)|(apply Ai;exact J;intro b;skip)))|(apply Af;exact J;all_goals (intro hc;try simp only [hcS,reduceCtorEq] at hc;try (exfalso;omega))))
       all_goals first
        | (exfalso;omega)
        | contradiction
        | (refine Bk QS QT (h9))
   · rw [List.take_of_length_le (by omega)]
     clear ih
     generalize rl.any (unfB pl day) = w at *
     cases w
     all_goals (repeat' (first|apply Ad|apply Aa|apply Ab|(apply Bm;exact J)|(apply Ac;(iterate 3 exact J))|(apply Aj;(iterate 3 exact J);(first|(apply Bf;exact J;exact has37;exact hu1 _ QL;rintro w5 h5 hle5 rfl;skip)))|(apply Af;exact J;all_goals (intro hc;try simp only [hcS,reduceCtorEq] at hc;try (exfalso;omega)))))
     all_goals first
      | (exfalso;omega)
      | (exact Bv rfl rfl rfl rfl)
 · rw [decide_eq_false hF] at hfew
   repeat' (first|apply Ad|apply At|apply Aa|apply Ab|(apply Ac;(iterate 3 exact J))|(apply Aj;(iterate 3 exact J);(first|(apply Ap;exact J;exact Oo;exact hsane;skip)|(apply Ap;exact J;exact Mq;exact hfew;skip)))|(apply Af;exact J;all_goals (intro hc;try simp only [hcS,reduceCtorEq] at hc;try (exfalso;omega))))
   all_goals first
    | (exact Bv rfl rfl rfl rfl)
    | (exfalso;simp at hc;done)
end Go.Hw

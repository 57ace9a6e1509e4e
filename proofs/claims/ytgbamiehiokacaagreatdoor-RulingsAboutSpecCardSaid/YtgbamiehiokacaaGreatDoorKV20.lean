import Derived.Test.YtgbamiehiokacaaGreatDoorVF
import Derived.Test.YtgbamiehiokacaaGreatDoorVD
import Derived.Test.YtgbamiehiokacaaGreatDoorRD
set_option linter.unusedVariables false
set_option linter.unusedSimpArgs false
set_option maxRecDepth 100000
set_option maxHeartbeats 8000000
namespace Go.Hw
open Go
attribute [local irreducible] GO GOl GDp Val Fn Res CellsAt ValE Blk OwnS MapA OwnPf Has Yl SepA forceL idF voidL aboutL maxF
open Go.Proofs (Tryz.prog)
def aboutQ (g : FGame) (l : List Fct) : List Fct:=l.filter fun f => decide (AboutG g f.ru)
theorem Hf (g : FGame) (l : List Fct) (f : Fct) : aboutQ g (l ++ [f]) = if AboutG g f.ru then aboutQ g l ++ [f] else aboutQ g l:=by
 unfold aboutQ
 rw [List.filter_append]
 by_cases h : AboutG g f.ru <;> simp [h]
theorem Vy (C : List Fct) (g : FGame) : aboutL C g = aboutQ g (forceL C):=by unfold aboutL aboutQ;rfl
theorem maxQ_not {g : FGame} {l : List Fct} {f : Fct} (h : ¬ AboutG g f.ru) : maxF (aboutQ g (l ++ [f])) = maxF (aboutQ g l):=by rw [Hf,if_neg h]
theorem maxQ_new {g : FGame} {l : List Fct} {f : Fct} (h : AboutG g f.ru) (hm : maxF (aboutQ g l) = none) : maxF (aboutQ g (l ++ [f])) = some f:=by rw [Hf,if_pos h,Jt,hm]
theorem maxQ_more {g : FGame} {l : List Fct} {f b : Fct} (h : AboutG g f.ru) (hm : maxF (aboutQ g l) = some b) (hc : 0 < cmpF f b) : maxF (aboutQ g (l ++ [f])) = some f:=by rw [Hf,if_pos h,Jt,hm];dsimp only;rw [if_pos hc]
theorem maxQ_less {g : FGame} {l : List Fct} {f b : Fct} (h : AboutG g f.ru) (hm : maxF (aboutQ g l) = some b) (hc : ¬ 0 < cmpF f b) : maxF (aboutQ g (l ++ [f])) = some b:=by rw [Hf,if_pos h,Jt,hm];dsimp only;rw [if_neg hc]
def BestAt (l : List (Fsh × Fct)) (g : FGame) (k : Nat) (b : Int) : Prop:=(b = -1 ∧ maxF (aboutQ g (fcs (l.take k))) = none) ∨ ∃ j : Nat,b = (j : Int) ∧ j < k ∧ maxF (aboutQ g (fcs (l.take k))) = some (l.getD j p0).2
theorem OfGameR_c (h : Ro) (A : Option Addr) (n c : Nat) (l : List (Fsh × Fct)) (hx : FactsAt h A n l) (hn6 : n ≤ 65536) (g : FGame) : Res Tryz.prog 24 #[.slice A n c,gameV g] h (fun u _ => u = .tuple #[.agg (rulC (ofGame (canonL (fcs l)) g).1).toArray,.int .i64 (ofGame (canonL (fcs l)) g).2.1,.bool (ofGame (canonL (fcs l)) g).2.2]):=by
 refine Bn (args:=[_,_]) ts_ok Go.Proofs.Tryz.func24 rfl rfl fun w0 X0 => ?_
 obtain ⟨C,hC⟩ : ∃ C,C = canonL (fcs l):=⟨_,rfl⟩
 have hfi:=fun h' (hl : Le h h') => Qa h' A n c l (hx.le hl) hn6
 rw [← hC] at hfi ⊢
 clear hx
 repeat' (first|apply Ad|apply Ag|apply Aa|apply Ab|(apply Ac;(iterate 3 exact J))|(apply Aj;(iterate 3 exact J);(first|(apply Ay;exact J;intro b;skip)|(apply At;exact J;intro b;skip)|(refine Cl (e:=35) QK ?_;intro h1 hle1 hcg;apply Bf;exact J;exact has65;exact hfi _ QL;rintro w1 h2 hle2 ⟨A3,c3,l3,rfl,hL⟩;skip))))
 rename_i b3
 generalize b = b4
 have hlen3 : l3.length = l3.length:=rfl
 have hsm3:=hL.2.1.small
 have hcg : CellsAt h2 ⟨b3,0,none⟩ (gameC g):=hcg.le hle2
 have hfo : aboutL C g = aboutQ g (fcs l3):=by rw [hL.2.2];exact Vy C g
 refine Bh (X:=Nat × Int × Ro) (fun x => x.1 ≤ l3.length ∧ Le h2 x.2.2 ∧ BestAt l3 g x.1 x.2.1) (fun x => l3.length - x.1)
  (fun x => [(9,.int .i64 x.1),(8,.int .i64 x.2.1),(7,.slice A3 l3.length c3),(3,ptrV b3),(4,ptrV b4),(5,.int .i64 0),(6,.bool false)])
  (fun _ => [Blk b4 44 (rulC rul0)]) (fun x => x.2.2) (0,-1,h2) ⟨by dsimp only;omega,Le.refl _,.inl ⟨rfl,by rw [List.take_zero];unfold maxF;rfl⟩⟩ QS QT rfl ?_
 rintro ⟨k,bi,hh⟩ ⟨hk,hle,hI⟩ ih
 dsimp only at hk hle hI ih ⊢
 have hcg3 : CellsAt hh ⟨b3,0,none⟩ (gameC g):=hcg.le hle
 by_cases hkn : k < l3.length
 · have a1:=hL.2.1.row.addrD hkn
   have c1 : CellsAt hh ((addrD A3).add (k * ty54.size)) (encF82 (l3.getD k p0)):=(hL.2.1.row.cellsD p0 hkn).le hle
   have et:=Cq p0 rfl hkn
   have ef : fcs (l3.take (k + 1)) = fcs (l3.take k) ++ [(l3.getD k p0).2]:=by rw [et,Jz]
   have gp:=(hL.2.1.good _ (mem7 p0 hkn)).le hle
   obtain ⟨p,hp⟩ : ∃ p,l3.getD k p0 = p:=⟨_,rfl⟩
   rw [hp] at c1 ef gp
   have hge:=Nu p.2.ru.g g
   by_cases hA : AboutG g p.2.ru
   · rcases hI with ⟨rfl,hm⟩|⟨j,rfl,hj,hm⟩
     · have h3:=ih (k + 1,(k : Int),hh) ⟨by dsimp only;omega,hle,.inr ⟨k,rfl,by dsimp only;omega,by dsimp only;rw [ef,hp];exact maxQ_new hA hm⟩⟩ (by dsimp only;omega)
       dsimp only at h3
       obtain ⟨hg1,hk1⟩:=hA
       rw [decide_eq_true hg1] at hge
       clear hm hfi
       rcases hk1 with hk1|hk1|hk1
       all_goals (repeat' (first|apply Ad|apply Ap|apply Ah|apply Ag|apply Aa|apply Ab|(apply Be;(iterate 3 exact J);omega;exact J;exact J)|(apply Ac;(iterate 3 exact J))|(apply Bc;exact J;exact J;(first|(apply Bb (j:=k);(iterate 5 exact J);exact a1;(with_reducible exact J);omega)|(apply Aw;exact J;first|exact Bp rfl (by assumption) rfl|exact By rfl (by assumption) rfl|exact Bv rfl (by assumption) rfl|exact Lv_roF3 rfl (by assumption) rfl));exact QA)|(apply Ba (n:=7) [0,1,2,3,4,5,6,7,8,9,10,11,12,13,14,15,16,17,18,19,20,21,22,23,24,25,26,27,28,29,30,31,32,33,34,35] [(0,0),(1,0),(2,0),(3,0),(4,0),(5,0),(6,0),(7,0),(8,0),(9,0),(10,0),(11,0),(12,0),(13,0),(14,0),(15,0),(16,0),(17,0),(18,0),(19,0),(20,0),(21,0),(22,0),(23,0),(24,0),(25,0),(26,0),(27,0),(28,0),(29,0),(30,0),(31,0),(32,1),(33,0),(34,0),(35,0)];kernel_rfl)|(apply Lm;exact J;kernel_rfl;exact J;exact J)|(apply Cb;exact J;kernel_rfl;(iterate 3 exact J))|(apply Cg;exact J;kernel_rfl;exact J;exact J;(first|(apply Bb (j:=k);(iterate 5 exact J);exact a1;(with_reducible exact J);omega)|(apply Dv;exact J;exact J;exact hge;kernel_rfl;kernel_rfl)|(apply Aw;exact J;first|exact Bp rfl (by assumption) rfl|exact By rfl (by assumption) rfl|exact Bv rfl (by assumption) rfl|exact Lv_roF3 rfl (by assumption) rfl));exact QA)|(apply Bj;kernel_rfl;exact J)|(apply Cy;(iterate 5 exact J);all_goals (intro hc;try simp only [hcS,reduceCtorEq] at hc;try (exfalso;omega)))|(apply Af;exact J;all_goals (intro hc;try simp only [hcS,reduceCtorEq] at hc;try (exfalso;omega)))|(apply Ot;exact J;kernel_rfl;exact J;exact J)))
       all_goals first
        | (exfalso;omega)
        | contradiction
        | (refine Bm QS QT (h3))
     · have hjn : j < l3.length:=by omega
       have a2:=hL.2.1.row.addrD hjn
       have c2 : CellsAt hh ((addrD A3).add (j * ty54.size)) (encF82 (l3.getD j p0)):=(hL.2.1.row.cellsD p0 hjn).le hle
       have gq:=(hL.2.1.good _ (mem7 p0 hjn)).le hle
       have ej : ∀ k',fcs (l3.take (k + 1)) = fcs (l3.take k) ++ [p.2] → maxF (aboutQ g (fcs (l3.take k) ++ [p.2])) = some (l3.getD j p0).2 → j < k' → k' = k + 1 → BestAt l3 g k' (j : Int):=fun k' e1 e2 e3 e4 => by
        subst e4
        exact .inr ⟨j,rfl,e3,by rw [e1,e2]⟩
       obtain ⟨q,hq⟩ : ∃ q,l3.getD j p0 = q:=⟨_,rfl⟩
       rw [hq] at c2 gq hm ej
       have hcm:=fun h' (hl : Le hh h') => Ih h' p q (gp.le hl) (gq.le hl)
       have hA2:=hA
       obtain ⟨hg1,hk1⟩:=hA2
       rw [decide_eq_true hg1] at hge
       by_cases hc9 : 0 < cmpF p.2 q.2
       · have hbk : BestAt l3 g (k + 1) (k : Int):=.inr ⟨k,rfl,by omega,by rw [ef,hp];exact maxQ_more hA hm hc9⟩
         clear hfi hm ej
         rcases hk1 with hk1|hk1|hk1
         all_goals (repeat' (first|apply Ad|apply Ap|apply Ah|apply Ag|apply Aa|apply Ab|(apply Be;(iterate 3 exact J);omega;exact J;exact J)|(apply Ac;(iterate 3 exact J))|(apply Bc;exact J;exact J;(first|(first|(apply Bb (j:=k);(iterate 5 exact J);exact a1;(with_reducible exact J);omega)|(apply Bb (j:=j);(iterate 5 exact J);exact a2;(with_reducible exact J);omega))|(apply Aw;exact J;first|exact Bp rfl (by assumption) rfl|exact By rfl (by assumption) rfl|exact Bv rfl (by assumption) rfl|exact Lv_roF3 rfl (by assumption) rfl));exact QA)|(apply Ba (n:=7) [0,1,2,3,4,5,6,7,8,9,10,11,12,13,14,15,16,17,18,19,20,21,22,23,24,25,26,27,28,29,30,31,32,33,34,35] [(0,0),(1,0),(2,0),(3,0),(4,0),(5,0),(6,0),(7,0),(8,0),(9,0),(10,0),(11,0),(12,0),(13,0),(14,0),(15,0),(16,0),(17,0),(18,0),(19,0),(20,0),(21,0),(22,0),(23,0),(24,0),(25,0),(26,0),(27,0),(28,0),(29,0),(30,0),(31,0),(32,1),(33,0),(34,0),(35,0)];kernel_rfl)|(apply Lm;exact J;kernel_rfl;exact J;exact J)|(apply Cb;exact J;kernel_rfl;(iterate 3 exact J))|(apply Cg;exact J;kernel_rfl;exact J;exact J;(first|(first|(apply Bb (j:=k);(iterate 5 exact J);exact a1;(with_reducible exact J);omega)|(apply Bb (j:=j);(iterate 5 exact J);exact a2;(with_reducible exact J);omega))|(first|(apply Aw;exact J;apply Bp;exact J;(with_reducible exact c1);exact J)|(apply Aw;exact J;apply Bp;exact J;(with_reducible exact c2);exact J))|(apply Dv;exact J;exact J;exact hge;kernel_rfl;kernel_rfl)|(apply Aw;exact J;first|exact Bp rfl (by assumption) rfl|exact By rfl (by assumption) rfl|exact Bv rfl (by assumption) rfl|exact Lv_roF3 rfl (by assumption) rfl));exact QA)|(apply Bq;exact J;kernel_rfl;(iterate 3 exact J);(first|(apply Bf;exact J;exact has66;exact hcm _ QL;rintro vr hr1 hle5 rfl;refine ⟨hle5,QN,?_⟩)))|(apply Bj;kernel_rfl;exact J)|(apply Cy;(iterate 5 exact J);all_goals (intro hc;try simp only [hcS,reduceCtorEq] at hc;try (exfalso;omega)))|(apply Af;exact J;all_goals (intro hc;try simp only [hcS,reduceCtorEq] at hc;try (exfalso;omega)))))
         all_goals first
          | (exfalso;omega)
          | contradiction
          | (have h3:=ih (k + 1,(k : Int),hr1) ⟨by dsimp only;omega,hle.trans hle5,hbk⟩ (by dsimp only;omega)
             dsimp only at h3
             refine Bm QS QT (h3))
       · have hbk : BestAt l3 g (k + 1) (j : Int):=ej _ ef (maxQ_less hA hm hc9) (by omega) rfl
         clear hfi hm ej
         rcases hk1 with hk1|hk1|hk1
         all_goals (repeat' (first|apply Ad|apply Ap|apply Ah|apply Ag|apply Aa|apply Ab|(apply Be;(iterate 3 exact J);omega;exact J;exact J)|(apply Ac;(iterate 3 exact J))|(apply Bc;exact J;exact J;(first|(first|(apply Bb (j:=k);(iterate 5 exact J);exact a1;(with_reducible exact J);omega)|(apply Bb (j:=j);(iterate 5 exact J);exact a2;(with_reducible exact J);omega))|(apply Aw;exact J;first|exact Bp rfl (by assumption) rfl|exact By rfl (by assumption) rfl|exact Bv rfl (by assumption) rfl|exact Lv_roF3 rfl (by assumption) rfl));exact QA)|(apply Ba (n:=7) [0,1,2,3,4,5,6,7,8,9,10,11,12,13,14,15,16,17,18,19,20,21,22,23,24,25,26,27,28,29,30,31,32,33,34,35] [(0,0),(1,0),(2,0),(3,0),(4,0),(5,0),(6,0),(7,0),(8,0),(9,0),(10,0),(11,0),(12,0),(13,0),(14,0),(15,0),(16,0),(17,0),(18,0),(19,0),(20,0),(21,0),(22,0),(23,0),(24,0),(25,0),(26,0),(27,0),(28,0),(29,0),(30,0),(31,0),(32,1),(33,0),(34,0),(35,0)];kernel_rfl)|(apply Lm;exact J;kernel_rfl;exact J;exact J)|(apply Cb;exact J;kernel_rfl;(iterate 3 exact J))|(apply Cg;exact J;kernel_rfl;exact J;exact J;(first|(first|(apply Bb (j:=k);(iterate 5 exact J);exact a1;(with_reducible exact J);omega)|(apply Bb (j:=j);(iterate 5 exact J);exact a2;(with_reducible exact J);omega))|(first|(apply Aw;exact J;apply Bp;exact J;(with_reducible exact c1);exact J)|(apply Aw;exact J;apply Bp;exact J;(with_reducible exact c2);exact J))|(apply Dv;exact J;exact J;exact hge;kernel_rfl;kernel_rfl)|(apply Aw;exact J;first|exact Bp rfl (by assumption) rfl|exact By rfl (by assumption) rfl|exact Bv rfl (by assumption) rfl|exact Lv_roF3 rfl (by assumption) rfl));exact QA)|(apply Bq;exact J;kernel_rfl;(iterate 3 exact J);(first|(apply Bf;exact J;exact has66;exact hcm _ QL;rintro vr hr1 hle5 rfl;refine ⟨hle5,QN,?_⟩)))|(apply Bj;kernel_rfl;exact J)|(apply Cy;(iterate 5 exact J);all_goals (intro hc;try simp only [hcS,reduceCtorEq] at hc;try (exfalso;omega)))|(apply Af;exact J;all_goals (intro hc;try simp only [hcS,reduceCtorEq] at hc;try (exfalso;omega)))))
         all_goals first
          | (exfalso;omega)
          | contradiction
          | (have h3:=ih (k + 1,(j : Int),hr1) ⟨by dsimp only;omega,hle.trans hle5,hbk⟩ (by dsimp only;omega)
             dsimp only at h3
             refine Bm QS QT (h3))
   · have hm':=maxQ_not (l:=fcs (l3.take k)) hA
     have h3:=ih (k + 1,bi,hh) ⟨by dsimp only;omega,hle,by
      rcases hI with ⟨rfl,hm⟩|⟨j,rfl,hj,hm⟩
      · exact .inl ⟨rfl,by dsimp only;rw [ef,hm',hm]⟩
      · exact .inr ⟨j,rfl,by dsimp only;omega,by dsimp only;rw [ef,hm',hm]⟩⟩ (by dsimp only;omega)
     dsimp only at h3
     by_cases hg1 : p.2.ru.g = g
     · rw [decide_eq_true hg1] at hge
       have k1 : p.2.ru.kind ≠ 1:=fun e => hA ⟨hg1,.inl e⟩
       have k2 : p.2.ru.kind ≠ 2:=fun e => hA ⟨hg1,.inr (.inl e)⟩
       have k3 : p.2.ru.kind ≠ 3:=fun e => hA ⟨hg1,.inr (.inr e)⟩
       repeat' (first|apply Ad|apply Ap|apply Ah|apply Ag|apply Aa|apply Ab|(apply Be;(iterate 3 exact J);omega;exact J;exact J)|(apply Ac;(iterate 3 exact J))|(apply Bc;exact J;exact J;(first|(apply Bb (j:=k);(iterate 5 exact J);exact a1;(with_reducible exact J);omega)|(apply Aw;exact J;first|exact Bp rfl (by assumption) rfl|exact By rfl (by assumption) rfl|exact Bv rfl (by assumption) rfl|exact Lv_roF3 rfl (by assumption) rfl));exact QA)|(apply Ba (n:=7) [0,1,2,3,4,5,6,7,8,9,10,11,12,13,14,15,16,17,18,19,20,21,22,23,24,25,26,27,28,29,30,31,32,33,34,35] [(0,0),(1,0),(2,0),(3,0),(4,0),(5,0),(6,0),(7,0),(8,0),(9,0),(10,0),(11,0),(12,0),(13,0),(14,0),(15,0),(16,0),(17,0),(18,0),(19,0),(20,0),(21,0),(22,0),(23,0),(24,0),(25,0),(26,0),(27,0),(28,0),(29,0),(30,0),(31,0),(32,1),(33,0),(34,0),(35,0)];kernel_rfl)|(apply Lm;exact J;kernel_rfl;exact J;exact J)|(apply Cb;exact J;kernel_rfl;(iterate 3 exact J))|(apply Cg;exact J;kernel_rfl;exact J;exact J;(first|(apply Bb (j:=k);(iterate 5 exact J);exact a1;(with_reducible exact J);omega)|(apply Dv;exact J;exact J;exact hge;kernel_rfl;kernel_rfl)|(apply Aw;exact J;first|exact Bp rfl (by assumption) rfl|exact By rfl (by assumption) rfl|exact Bv rfl (by assumption) rfl|exact Lv_roF3 rfl (by assumption) rfl));exact QA)|(apply Bj;kernel_rfl;exact J)|(apply Cy;(iterate 5 exact J);all_goals (intro hc;try simp only [hcS,reduceCtorEq] at hc;try (exfalso;omega)))|(apply Af;exact J;all_goals (intro hc;try simp only [hcS,reduceCtorEq] at hc;try (exfalso;omega)))|(apply Ot;exact J;kernel_rfl;exact J;exact J))
       all_goals first
        | (exfalso;omega)
        | contradiction
        | (refine Bm QS QT (h3))
     · rw [decide_eq_false hg1] at hge
       repeat' (first|apply Ad|apply Ap|apply Ah|apply Ag|apply Aa|apply Ab|(apply Be;(iterate 3 exact J);omega;exact J;exact J)|(apply Ac;(iterate 3 exact J))|(apply Bc;exact J;exact J;(first|(apply Bb (j:=k);(iterate 5 exact J);exact a1;(with_reducible exact J);omega)|(apply Aw;exact J;first|exact Bp rfl (by assumption) rfl|exact By rfl (by assumption) rfl|exact Bv rfl (by assumption) rfl|exact Lv_roF3 rfl (by assumption) rfl));exact QA)|(apply Ba (n:=7) [0,1,2,3,4,5,6,7,8,9,10,11,12,13,14,15,16,17,18,19,20,21,22,23,24,25,26,27,28,29,30,31,32,33,34,35] [(0,0),(1,0),(2,0),(3,0),(4,0),(5,0),(6,0),(7,0),(8,0),(9,0),(10,0),(11,0),(12,0),(13,0),(14,0),(15,0),(16,0),(17,0),(18,0),(19,0),(20,0),(21,0),(22,0),(23,0),(24,0),(25,0),(26,0),(27,0),(28,0),(29,0),(30,0),(31,0),(32,1),(33,0),(34,0),(35,0)];kernel_rfl)|(apply Lm;exact J;kernel_rfl;exact J;exact J)|(apply Cb;exact J;kernel_rfl;(iterate 3 exact J))|(apply Cg;exact J;kernel_rfl;exact J;exact J;(first|(apply Bb (j:=k);(iterate 5 exact J);exact a1;(with_reducible exact J);omega)|(apply Dv;exact J;exact J;exact hge;kernel_rfl;kernel_rfl)|(apply Aw;exact J;first|exact Bp rfl (by assumption) rfl|exact By rfl (by assumption) rfl|exact Bv rfl (by assumption) rfl|exact Lv_roF3 rfl (by assumption) rfl));exact QA)|(apply Bj;kernel_rfl;exact J)|(apply Af;exact J;all_goals (intro hc;try simp only [hcS,reduceCtorEq] at hc;try (exfalso;omega)))|(apply Ot;exact J;kernel_rfl;exact J;exact J))
       all_goals first
        | (exfalso;omega)
        | contradiction
        | (refine Bm QS QT (h3))
 · have ek : k = l3.length:=by omega
   subst ek
   clear ih hfi
   rcases hI with ⟨rfl,hm⟩|⟨j,rfl,hj,hm⟩
   · rw [List.take_length] at hm
     have e9 : ofGame C g = (rul0,0,false):=by unfold ofGame;rw [hfo,hm]
     rw [e9]
     repeat' (first|apply Ad|apply Aa|apply Ab|(apply Bi;exact J)|(apply Ac;(iterate 3 exact J))|(apply Aj;(iterate 3 exact J);(first|(apply Ao;(iterate 3 exact J);exact QR;(iterate 3 exact J);skip)))|(apply Af;exact J;all_goals (intro hc;try simp only [hcS,reduceCtorEq] at hc;try (exfalso;omega))))
     all_goals first
      | (exfalso;omega)
      | (exact Ko rfl rfl rfl QM rfl rfl rfl rfl rfl)
   · rw [List.take_length] at hm
     have a2:=hL.2.1.row.addrD hj
     have c2 : CellsAt hh ((addrD A3).add (j * ty54.size)) (encF82 (l3.getD j p0)):=(hL.2.1.row.cellsD p0 hj).le hle
     generalize l3.getD j p0 = q at *
     have e9 : ofGame C g = (q.2.ru,q.2.day,true):=by unfold ofGame;rw [hfo,hm]
     rw [e9]
     repeat' (first|apply Ad|apply Ap|apply Aa|apply Ab|(apply Bi;exact J)|(apply Ac;(iterate 3 exact J))|(apply Ba (n:=11) [0,1,2,3,4,10,5,6,7,8,9,11,12] [(0,0),(1,0),(2,0),(3,0),(4,0),(5,0),(6,0),(7,0),(8,0),(9,0),(10,1),(11,0),(12,0)];kernel_rfl)|(apply Cb;exact J;kernel_rfl;(iterate 3 exact J))|(apply Cg;exact J;kernel_rfl;exact J;exact J;(first|(apply Bb (j:=j);(iterate 5 exact J);exact a2;(with_reducible exact J);omega)|(apply Aw;exact J;first|exact Bp rfl (by assumption) rfl|exact By rfl (by assumption) rfl|exact Bv rfl (by assumption) rfl|exact Lv_roF3 rfl (by assumption) rfl));exact QA)|(apply Bq;exact J;kernel_rfl;(iterate 3 exact J);(first|(apply Ao;(iterate 3 exact J);exact QR;(iterate 3 exact J);refine ⟨Le.refl _,QN,?_⟩)))|(apply Bj;kernel_rfl;exact J)|(apply Af;exact J;all_goals (intro hc;try simp only [hcS,reduceCtorEq] at hc;try (exfalso;omega))))
     all_goals first
      | (exfalso;omega)
      | (exact Ko rfl rfl rfl QM rfl rfl rfl rfl rfl)
end Go.Hw

import Derived.Test.YtgbamiehiokacaaGreatDoorRD
set_option linter.unusedVariables false
set_option linter.unusedSimpArgs false
set_option maxRecDepth 100000
set_option maxHeartbeats 8000000
namespace Go.Hw
open Go
attribute [local irreducible] GO GOl GDp Val Fn Res CellsAt ValE Blk OwnS MapA OwnPf Has Yl idF
open Go.Proofs (Tryz.prog)
open Classical in
theorem Ama (h : Ro) (A : Option Addr) (n c : Nat) (l : List (Fsh × Fct)) (hx : FactsAt h A n l) (hn : n ≤ 65536) : Res Tryz.prog 56 #[.slice A n c] h (fun u h' => ∃ A' k c' l',u = .slice A' k c' ∧ LedIs h' A' k c' l' (canonL (fcs l))):=by
 refine Bn (args:=[_]) ts_ok Go.Proofs.Tryz.func56 rfl rfl fun w0 X0 => ?_
 have hlen:=hx.row.len
 have h32 : In32 (fcs l):=Oq hx.fat
 repeat' (first|apply Ad|apply Ag|apply Aa|apply Ab|(apply Ac;(iterate 3 exact J))|(apply Aj;(iterate 3 exact J);(first|(apply Bk (cs:=[]);(iterate 3 exact J);exact List.cons_ne_nil _ _;(iterate 4 exact J);intro b1 h1 hle1 hcs1;skip))))
 have hL0 : LedIs h1 (some ⟨b1,0,none⟩) 0 0 [] (canonL (fcs (l.take 0))):=⟨Nat.le_refl _,⟨SlOf.of_flat (fun _ => rfl) rfl hcs1,fun p hp => absurd hp (by simp),by omega⟩,rfl⟩
 refine Bh (X:=Nat × Option Addr × Nat × Nat × List (Fsh × Fct) × Ro) (fun x => x.1 ≤ n ∧ Le h x.2.2.2.2.2 ∧ LedIs x.2.2.2.2.2 x.2.1 x.2.2.1 x.2.2.2.1 x.2.2.2.2.1 (canonL (fcs (l.take x.1)))) (fun x => n - x.1)
  (fun x => [(4,.int .i64 x.1),(3,.slice x.2.1 x.2.2.1 x.2.2.2.1),(0,.slice A n c)]) (fun _ => []) (fun x => x.2.2.2.2.2) (0,some ⟨b1,0,none⟩,0,0,[],h1) ⟨by dsimp only;omega,hle1,hL0⟩ QS QT rfl ?_
 rintro ⟨i,A3,k3,c3,l3,hh⟩ ⟨hi,hle,hL⟩ ih
 dsimp only at hi hle hL ih ⊢
 have ht32 : In32 (fcs (l.take i)):=fun f hf => h32 f (fcs_sub (fun p hp => List.mem_of_mem_take hp) f hf)
 have hcl:=Bra ht32
 rw [← hL.2.2,List.length_map,List.length_map,hL.2.1.row.len,List.length_take] at hcl
 by_cases hin : i < n
 · have a1:=hx.row.addrD hin
   have c1 : CellsAt hh ((addrD A).add (i * ty54.size)) (encF82 (l.getD i p0)):=(hx.row.cellsD p0 hin).le hle
   have et:=Cq p0 hlen hin
   have hm:=mem7 p0 (show i < l.length by omega)
   have hfp:=hx.fat _ hm
   generalize l.getD i p0 = p at *
   have e5 : fcs (l.take (i + 1)) = fcs (l.take i) ++ [p.2]:=by rw [et];unfold fcs;rw [List.map_append];rfl
   by_cases hp : FctOk p.2
   · have hch:=fun h' (hl : Le h h') => by
      have:=Sj h' p.1 p.2 (hfp.1.le hl) hfp.2
      rw [if_pos hp] at this;exact this
     have e6 : canonL (fcs (l.take (i + 1))) = insF p.2 (fcs l3):=by rw [e5,Jb,if_pos hp,hL.2.2]
     have hgp : FGd hh p:=⟨hfp.1.le hle,hfp.2,hp⟩
     have hlen3:=hL.2.1.row.len
     have hml : (fcs l3).length = k3:=by rw [List.length_map,hlen3]
     repeat' (first|apply Ad|apply Ap|apply Ag|apply Aa|apply Ab|(apply Ac;(iterate 3 exact J))|(apply Bc;exact J;exact J;(first|(apply Bb (j:=i);(iterate 5 exact J);exact a1;(with_reducible exact J);omega)|(apply Aw;exact J;exact Bp rfl c1 rfl));exact QA)|(apply Aj;(iterate 3 exact J);(first|(apply Ai;exact J;exact has45;exact hch _ QL;skip)))|(apply Af;exact J;all_goals (intro hc;try simp only [hcS,reduceCtorEq] at hc;try (exfalso;omega))))
     all_goals (try (exfalso;omega))
     refine Bh (X:=Nat × Ro) (fun x => x.1 ≤ k3 ∧ Le hh x.2 ∧ ∀ t,t < x.1 → cmpF ((fcs l3).getD t fct0) p.2 < 0) (fun x => k3 - x.1) (fun x => [(5,.int .i64 x.1),(4,.int .i64 i),(3,.slice A3 k3 c3),(0,.slice A n c)]) (fun _ => []) (fun x => x.2) (0,hh) ⟨by dsimp only;omega,Le.refl _,fun t ht => absurd ht (by dsimp only;omega)⟩ QS QT rfl ?_
     rintro ⟨j,hj2⟩ ⟨hj,hlj,hI⟩ ih2
     dsimp only at hj hlj hI ih2 ⊢
     have hfin : ∀ (h9 : Ro) (A9 : Option Addr) (c9 : Nat),Le hh h9 → insF p.2 (fcs l3) = (fcs l3).take j ++ p.2 :: (fcs l3).drop j → SlOf encF82 82 h9 A9 (j + (1 + (k3 - j))) (l3.take j ++ ([p] ++ l3.drop j)) → j + (1 + (k3 - j)) ≤ c9 → LedIs h9 A9 (j + (1 + (k3 - j))) c9 (l3.take j ++ ([p] ++ l3.drop j)) (canonL (fcs (l.take (i + 1)))):=fun h9 A9 c9 hl9 e9 hs9 hc9 => by
      refine ⟨hc9,⟨hs9,fun q hq => ?_,by omega⟩,?_⟩
      · rw [List.mem_append,List.mem_append,List.mem_singleton] at hq
        rcases hq with hq|rfl|hq
        · exact (hL.2.1.good q (List.mem_of_mem_take hq)).le hl9
        · exact hgp.le hl9
        · exact (hL.2.1.good q (List.mem_of_mem_drop hq)).le hl9
      · rw [e6,e9];unfold fcs;simp [List.map_take,List.map_drop]
     by_cases hjk : j < k3
     · have b1:=hL.2.1.row.addrD hjk
       have d1 : CellsAt hj2 ((addrD A3).add (j * ty54.size)) (encF82 (l3.getD j p0)):=(hL.2.1.row.cellsD p0 hjk).le hlj
       have hmj:=mem7 p0 (show j < l3.length by omega)
       have g1:=hL.2.1.good _ hmj
       have hgd:=fcs_getD l3 (k:=j) (by omega)
       generalize l3.getD j p0 = q at *
       by_cases hc9 : cmpF q.2 p.2 < 0
       · repeat' (first|apply Ad|apply Ap|apply Ah|apply Ag|apply Aa|apply Ab|(apply Be;(iterate 3 exact J);omega;exact J;exact J)|(apply Ac;(iterate 3 exact J))|(apply Ba (n:=7) [0,1,2,3,4,5,6,7,8,9,10,11,12,13,14,15] [(0,0),(1,0),(2,0),(3,0),(4,0),(5,0),(6,0),(7,0),(8,0),(9,0),(10,0),(11,0),(12,0),(13,1),(14,0),(15,0)];kernel_rfl)|(apply Cb;exact J;kernel_rfl;(iterate 3 exact J))|(apply Cg;exact J;kernel_rfl;exact J;exact J;(first|(apply Bb (j:=i);(iterate 5 exact J);exact a1;(with_reducible exact J);omega)|(apply Bb (j:=j);(iterate 5 exact J);exact b1;(with_reducible exact J);omega)|(apply Aw;exact J;apply Bp;exact J;(with_reducible exact (c1.le QL));exact J)|(apply Aw;exact J;apply Bp;exact J;(with_reducible exact d1);exact J));exact QA)|(apply Bq;exact J;kernel_rfl;(iterate 3 exact J);(first|(apply Bf;exact J;exact has66;exact Ih _ q p (g1.le QL) (hgp.le QL);rintro vr hr1 hle1 rfl;refine ⟨hle1,QN,?_⟩)))|(apply Bj;kernel_rfl;exact J)|(apply Cy;(iterate 5 exact J);all_goals (intro hc;try simp only [hcS,reduceCtorEq] at hc;try (exfalso;omega)))|(apply Af;exact J;all_goals (intro hc;try simp only [hcS,reduceCtorEq] at hc;try (exfalso;omega))))
         all_goals (try (exfalso;omega))
         all_goals
          have h3:=ih2 (j + 1,hr1) ⟨by dsimp only;omega,by dsimp only;exact hlj.trans hle1,fun t ht => by
           dsimp only at ht
           rcases Nat.lt_or_ge t j with w1|w1
           · exact hI t w1
           · have : t = j:=by omega
             subst this;rw [hgd];exact hc9⟩ (by dsimp only;omega)
          dsimp only at h3
          refine Bm QS QT (h3)
       · clear ih2
         have hat:=Xb (x:=p.2) (L:=fcs l3) (k:=j) (by omega) hI (fun _ => by rw [hgd];exact hc9)
         have hsm:=fun h' (hl : Le hh h') => sameR_c h' q.1 q.2 ((g1.le hl).1) g1.2.1 p.1 p.2 ((hgp.le hl).1) hgp.2.1
         by_cases he : q.2 = p.2
         · rw [if_pos ⟨by omega,by rw [hgd];exact he⟩] at hat
           rw [decide_eq_true he] at hsm
           repeat' (first|apply Ad|apply Aa|apply Ab|(apply Bi;exact J)|(apply Be;(iterate 3 exact J);omega;exact J;exact J)|(apply Ac;(iterate 3 exact J))|(apply Ba (n:=7) [0,1,2,3,4,5,6,7,8,9,10,11,12,13,14,15] [(0,0),(1,0),(2,0),(3,0),(4,0),(5,0),(6,0),(7,0),(8,0),(9,0),(10,0),(11,0),(12,0),(13,1),(14,0),(15,0)];kernel_rfl)|(apply Ba (n:=9) [0,1,2,3,4,5,6,7,8,9,10,11,12,13,14] [(0,0),(1,0),(2,0),(3,0),(4,0),(5,0),(6,0),(7,0),(8,0),(9,0),(10,0),(11,0),(12,0),(13,1),(14,0)];kernel_rfl)|(apply Cb;exact J;kernel_rfl;(iterate 3 exact J))|(apply Cg;exact J;kernel_rfl;exact J;exact J;(first|(apply Bb (j:=i);(iterate 5 exact J);exact a1;(with_reducible exact J);omega)|(apply Bb (j:=j);(iterate 5 exact J);exact b1;(with_reducible exact J);omega)|(apply Aw;exact J;apply Bp;exact J;(with_reducible exact (c1.le QL));exact J)|(apply Aw;exact J;apply Bp;exact J;(with_reducible exact (d1.le QL));exact J));exact QA)|(apply Bq;exact J;kernel_rfl;(iterate 3 exact J);(first|(apply Bf;exact J;exact has66;exact Ih _ q p (g1.le QL) (hgp.le QL);rintro vr hr1 hle1 rfl;refine ⟨hle1,QN,?_⟩)|(apply Ai;exact J;exact has98;exact hsm _ QL;refine ⟨Le.refl _,QN,?_⟩)))|(apply Bj;kernel_rfl;exact J)|(apply Cy;(iterate 5 exact J);all_goals (intro hc;try simp only [hcS,reduceCtorEq] at hc;try (exfalso;omega)))|(apply Af;exact J;all_goals (intro hc;try simp only [hcS,reduceCtorEq] at hc;try (exfalso;omega))))
           all_goals (try (exfalso;omega))
           all_goals
            have h3:=ih (i + 1,A3,k3,c3,l3,hr1) ⟨by dsimp only;omega,by dsimp only;exact hle.trans QL,hL.1,hL.2.1.le QL,by dsimp only;rw [e6,hat]⟩ (by dsimp only;omega)
            dsimp only at h3
            refine Bm QS QT (h3)
         · rw [if_neg (fun w => he (by rw [← hgd];exact w.2))] at hat
           rw [decide_eq_false he] at hsm
           repeat' (first|apply Ad|apply Ap|apply Ah|apply Aa|apply Ab|(apply Bi;exact J)|(apply Be;(iterate 3 exact J);omega;exact J;exact J)|(apply Ac;(iterate 3 exact J))|(apply Aj;(iterate 3 exact J);(first|(apply Gg (enc:=encF82) (hi:=j);(iterate 6 exact J);exact (hL.2.1.row.le QL);(with_reducible exact J);(with_reducible exact J);omega;exact hL.1;intro A6 hs6;skip)|(apply Fr (enc:=encF82) (xs:=l3.take j) (ys:=[p] ++ l3.drop j);(iterate 7 exact J);exact hs6;exact (hs7.le QL);exact J;omega;exact Bl;omega;exact J;intro A9 c9 h9 hle9 hnc9 hs9;skip)))|(apply Ba (n:=7) [0,1,2,3,4,5,6,7,8,9,10,11,12,13,14,15] [(0,0),(1,0),(2,0),(3,0),(4,0),(5,0),(6,0),(7,0),(8,0),(9,0),(10,0),(11,0),(12,0),(13,1),(14,0),(15,0)];kernel_rfl)|(apply Ba (n:=9) [0,1,2,3,4,5,6,7,8,9,10,11,12,13,14] [(0,0),(1,0),(2,0),(3,0),(4,0),(5,0),(6,0),(7,0),(8,0),(9,0),(10,0),(11,0),(12,0),(13,1),(14,0)];kernel_rfl)|(apply Ba (n:=10) [0,1,2,3,4,5,6,7,8,9] [(0,0),(1,0),(2,0),(3,0),(5,0),(6,0),(7,0),(4,1),(8,1),(9,0)];kernel_rfl)|(apply Cb;exact J;kernel_rfl;(iterate 3 exact J))|(apply Cg;exact J;kernel_rfl;exact J;exact J;(first|(apply Bb (j:=i);(iterate 5 exact J);exact a1;(with_reducible exact J);omega)|(apply Bb (j:=j);(iterate 5 exact J);exact b1;(with_reducible exact J);omega)|(apply Aw;exact J;apply Bp;exact J;(with_reducible exact (c1.le QL));exact J)|(apply Aw;exact J;apply Bp;exact J;(with_reducible exact (d1.le QL));exact J)|(apply Et (lo:=j) (n:=k3) (c:=c3);(iterate 5 exact J);(with_reducible exact J);omega));exact QA)|(apply Bq;exact J;kernel_rfl;(iterate 3 exact J);(first|(apply Bf;exact J;exact has66;exact Ih _ q p (g1.le QL) (hgp.le QL);rintro vr hr1 hle1 rfl;refine ⟨hle1,QN,?_⟩)|(apply Ai;exact J;exact has98;exact hsm _ QL;refine ⟨Le.refl _,QN,?_⟩)|(apply Bw (n:=1) (cs:=[p].flatMap encF82);(iterate 3 exact J);exact List.cons_ne_nil _ _;(iterate 6 exact J);intro b8;refine ⟨Le.refl _,QN,?_⟩)|(apply Fa (enc:=encF82) (n:=1) (xs:=[p]) (ys:=l3.drop j);(iterate 7 exact J);exact ((hL.2.1.row.low (lo:=j) (c:=c3) (by omega) hL.1).le QL);exact Bl;exact (fun x => Bz (Vi x.1 x.2));exact QK;exact J;omega;exact J;intro A7 c7 h7 hle7 hnc7 hs7;refine ⟨hle7,QN,?_⟩)))|(apply Bj;kernel_rfl;exact J)|(apply Cy;(iterate 5 exact J);all_goals (intro hc;try simp only [hcS,reduceCtorEq] at hc;try (exfalso;omega)))|(apply Af;exact J;all_goals (intro hc;try simp only [hcS,reduceCtorEq] at hc;try (exfalso;omega))))
           all_goals (try (exfalso;omega))
           all_goals
            have h3:=ih (i + 1,A9,j + (1 + (k3 - j)),c9,l3.take j ++ ([p] ++ l3.drop j),h9) ⟨by dsimp only;omega,by dsimp only;exact hle.trans QL,hfin _ _ _ QL hat hs9 hnc9⟩ (by dsimp only;omega)
            dsimp only at h3
            refine Bm QS QT (h3)
     · clear ih2
       have hjk2 : j = k3:=by omega
       have hat:=Xb (x:=p.2) (L:=fcs l3) (k:=j) (by omega) hI (fun w => by omega)
       rw [if_neg (fun w => by omega)] at hat
       repeat' (first|apply Ad|apply Ap|apply Ah|apply Aa|apply Ab|(apply Bi;exact J)|(apply Be;(iterate 3 exact J);omega;exact J;exact J)|(apply Ac;(iterate 3 exact J))|(apply Aj;(iterate 3 exact J);(first|(apply Gg (enc:=encF82) (hi:=j);(iterate 6 exact J);exact (hL.2.1.row.le QL);(with_reducible exact J);(with_reducible exact J);omega;exact hL.1;intro A6 hs6;skip)|(apply Fr (enc:=encF82) (xs:=l3.take j) (ys:=[p] ++ l3.drop j);(iterate 7 exact J);exact hs6;exact (hs7.le QL);exact J;omega;exact Bl;omega;exact J;intro A9 c9 h9 hle9 hnc9 hs9;skip)))|(apply Ba (n:=7) [0,1,2,3,4,5,6,7,8,9,10,11,12,13,14,15] [(0,0),(1,0),(2,0),(3,0),(4,0),(5,0),(6,0),(7,0),(8,0),(9,0),(10,0),(11,0),(12,0),(13,1),(14,0),(15,0)];kernel_rfl)|(apply Ba (n:=9) [0,1,2,3,4,5,6,7,8,9,10,11,12,13,14] [(0,0),(1,0),(2,0),(3,0),(4,0),(5,0),(6,0),(7,0),(8,0),(9,0),(10,0),(11,0),(12,0),(13,1),(14,0)];kernel_rfl)|(apply Ba (n:=10) [0,1,2,3,4,5,6,7,8,9] [(0,0),(1,0),(2,0),(3,0),(5,0),(6,0),(7,0),(4,1),(8,1),(9,0)];kernel_rfl)|(apply Lm;exact J;kernel_rfl;exact J;exact J)|(apply Cb;exact J;kernel_rfl;(iterate 3 exact J))|(apply Cg;exact J;kernel_rfl;exact J;exact J;(first|(apply Bb (j:=i);(iterate 5 exact J);exact a1;(with_reducible exact J);omega)|(apply Aw;exact J;apply Bp;exact J;(with_reducible exact (c1.le QL));exact J)|(apply Et (lo:=j) (n:=k3) (c:=c3);(iterate 5 exact J);(with_reducible exact J);omega));exact QA)|(apply Bq;exact J;kernel_rfl;(iterate 3 exact J);(first|(apply Bw (n:=1) (cs:=[p].flatMap encF82);(iterate 3 exact J);exact List.cons_ne_nil _ _;(iterate 6 exact J);intro b8;refine ⟨Le.refl _,QN,?_⟩)|(apply Fa (enc:=encF82) (n:=1) (xs:=[p]) (ys:=l3.drop j);(iterate 7 exact J);exact ((hL.2.1.row.low (lo:=j) (c:=c3) (by omega) hL.1).le QL);exact Bl;exact (fun x => Bz (Vi x.1 x.2));exact QK;exact J;omega;exact J;intro A7 c7 h7 hle7 hnc7 hs7;refine ⟨hle7,QN,?_⟩)))|(apply Bj;kernel_rfl;exact J)|(apply Cy;(iterate 5 exact J);all_goals (intro hc;try simp only [hcS,reduceCtorEq] at hc;try (exfalso;omega)))|(apply Af;exact J;all_goals (intro hc;try simp only [hcS,reduceCtorEq] at hc;try (exfalso;omega)))|(apply Ot;exact J;kernel_rfl;exact J;exact J))
       all_goals (try (exfalso;omega))
       all_goals
        have h3:=ih (i + 1,A9,j + (1 + (k3 - j)),c9,l3.take j ++ ([p] ++ l3.drop j),h9) ⟨by dsimp only;omega,by dsimp only;exact hle.trans QL,hfin _ _ _ QL hat hs9 hnc9⟩ (by dsimp only;omega)
        dsimp only at h3
        refine Bm QS QT (h3)
   · have hch:=fun h' (hl : Le h h') => by
      have:=Sj h' p.1 p.2 (hfp.1.le hl) hfp.2
      rw [if_neg hp] at this;exact this
     have e6 : canonL (fcs (l.take (i + 1))) = fcs l3:=by rw [e5,Jb,if_neg hp,hL.2.2]
     repeat' (first|apply Ad|apply Ap|apply Ag|apply Aa|apply Ab|(apply Bi;exact J)|(apply Be;(iterate 3 exact J);omega;exact J;exact J)|(apply Ac;(iterate 3 exact J))|(apply Bc;exact J;exact J;(first|(apply Bb (j:=i);(iterate 5 exact J);exact a1;(with_reducible exact J);omega)|(apply Aw;exact J;exact Bp rfl c1 rfl));exact QA)|(apply Aj;(iterate 3 exact J);(first|(apply Ai;exact J;exact has45;exact hch _ QL;skip)))|(apply Af;exact J;all_goals (intro hc;try simp only [hcS,reduceCtorEq] at hc;try (exfalso;omega))))
     all_goals (try (exfalso;omega))
     all_goals
      have h3:=ih (i + 1,A3,k3,c3,l3,hh) ⟨by dsimp only;omega,hle,hL.1,hL.2.1,e6.symm⟩ (by dsimp only;omega)
      dsimp only at h3
      refine Bm QS QT (h3)
 · rw [List.take_of_length_le (by omega)] at hL
   clear ih
   repeat' (first|apply Ad|apply Aa|apply Ab|(apply Bi;exact J)|(apply Ac;(iterate 3 exact J))|(apply Af;exact J;all_goals (intro hc;try simp only [hcS,reduceCtorEq] at hc;try (exfalso;omega))))
   all_goals first
    | (exfalso;omega)
    | (exact Ca rfl rfl rfl ⟨A3,k3,c3,l3,rfl,hL⟩)
end Go.Hw

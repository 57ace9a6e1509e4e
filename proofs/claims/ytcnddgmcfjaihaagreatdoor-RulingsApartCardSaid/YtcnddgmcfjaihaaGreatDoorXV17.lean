import Derived.Test.YtcnddgmcfjaihaaGreatDoorXV16
set_option linter.unusedVariables false
set_option linter.unusedSimpArgs false
set_option maxRecDepth 100000
set_option maxHeartbeats 8000000
namespace Go.Hw
open Go
attribute [local irreducible] GO GOl GDp Val Fn Res CellsAt ValE Blk OwnS MapA OwnPf Has Yl SepA forceL idF voidL ofR
open Go.Proofs (Tryz.prog)
def apP (n : Int) (l : List (Fsh × Fct)) : List (Fsh × Fct):=l.filter fun p => decide (Apart n p.2)
theorem apP_snoc (n : Int) (l : List (Fsh × Fct)) (p : Fsh × Fct) : apP n (l ++ [p]) = if Apart n p.2 then apP n l ++ [p] else apP n l:=by
  unfold apP
  rw [List.filter_append]
  by_cases h : Apart n p.2 <;> simp [h]
theorem apP_fcs (n : Int) (l : List (Fsh × Fct)) : fcs (apP n l) = apartL n (fcs l):=by
  unfold apP apartL fcs
  rw [List.filter_map];rfl
theorem apP_len (n : Int) (l : List (Fsh × Fct)) : (apP n l).length ≤ l.length:=by unfold apP;exact List.length_filter_le _ _
theorem apP_sub (n : Int) (l : List (Fsh × Fct)) : ∀ p ∈ apP n l,p ∈ l:=fun p hp => by unfold apP at hp;exact (List.mem_filter.1 hp).1
def noC (n : Int) (l : List FRul) : List FRul:=l.filter fun r => decide (r.case ≠ n)
theorem noC_snoc (n : Int) (l : List FRul) (r : FRul) : noC n (l ++ [r]) = if r.case ≠ n then noC n l ++ [r] else noC n l:=by
  unfold noC
  rw [List.filter_append]
  by_cases h : r.case ≠ n <;> simp [h]
theorem noC_len (n : Int) (l : List FRul) : (noC n l).length ≤ l.length:=by unfold noC;exact List.length_filter_le _ _
theorem noC_force (n : Int) (C : List Fct) : (forceL (apartL n C)).map (·.ru) = noC n ((forceL C).map (·.ru)):=by
  rw [force_apart]
  unfold noC
  rw [List.filter_map];rfl
open Classical in
theorem apart10_law (h : Ro) (hG : PowG h) (A : Option Addr) (n c : Nat) (l : List (Fsh × Fct)) (hx : LedIn h A n c l) (num : Int) : Res Tryz.prog 8 #[.slice A n c,.int .i64 num] h (fun u _ => u = .bool true):=by
  refine Res_intro (args:=[_,_]) ts_ok Go.Proofs.Tryz.func8 rfl rfl fun w0 X0 => ?_
  have hfew:=few10_c h A n c l hx.row hx.small
  have hsane:=sane10_c h hG
  by_cases hF : (∀ p ∈ l,SmallS p.1 p.2) ∧ (n : Int) ≤ 16
  · rw [decide_eq_true hF] at hfew
    have hfa:=hx.facts16 hF.2
    have hlen:=hfa.row.len
    have hn16:=hF.2
    have hfat:=hfa.fat
    have hrow:=hfa.row
    have h32 : ∀ f ∈ fcs l,f.void.length = 32:=fun f hf => by
      obtain ⟨p,hp,rfl⟩:=List.mem_map.1 hf
      exact (hfa.fat p hp).1.void
    have hca : canonL (fcs (apP num l)) = apartL num (canonL (fcs l)):=by rw [apP_fcs,canon_apart h32]
    have hf1:=fun h' (hl : Le h h') => InForce_c h' (hG.le hl) A n c l (hfa.le hl)
    have hof : ofR (canonL (fcs (apP num l))) num = none:=by rw [hca];unfold ofR;rw [apart_of_none];rfl
    have hsu : ¬ HeldI (canonL (fcs (apP num l))) num:=by rw [hca];exact apart_not_held num _
    have hnf : (forceL (canonL (fcs (apP num l)))).map (·.ru) = noC num ((forceL (canonL (fcs l))).map (·.ru)):=by rw [hca,noC_force]
    obtain ⟨L,hL⟩ : ∃ L,L = (forceL (canonL (fcs l))).map (·.ru):=⟨_,rfl⟩
    rw [← hL] at hf1 hnf
    clear hF hfa hx h32 hca
    repeat' (first|apply GO_seq|apply GO_skip|apply GO_block|apply GO_region|apply GOl_nil|(apply GOl_pv;(iterate 3 exact rfl))|(apply GOl_to;(iterate 3 exact rfl);(first|(apply OpTo_val;exact rfl;exact has10;exact hsane;skip)|(apply OpTo_val;exact rfl;exact has11;exact hfew;skip)))|(apply GO_cond;exact rfl;all_goals (intro hc;try simp only [hcS,reduceCtorEq] at hc;try (exfalso;omega))))
    all_goals (try (exfalso;simp at hc;done))
    refine GO_nilS 54 82 ?_
    refine GO_loopT (X:=Nat × List (Fsh × Fct) × Option Addr × Nat × Ro) (fun x => x.1 ≤ n ∧ Le h x.2.2.2.2 ∧ x.2.1 = apP num (l.take x.1)) (fun x => n - x.1)
      (fun x => [(20,.int .i64 x.1),(19,.int .i64 n),(18,.slice A n c),(5,.slice x.2.2.1 x.2.1.length x.2.2.2.1),(0,.slice A n c),(1,.int .i64 num)])
      (fun x => [OwnS 54 82 (.slice x.2.2.1 x.2.1.length x.2.2.2.1) x.2.1.length (x.2.1.flatMap encF82)]) (fun x => x.2.2.2.2) (0,[],none,0,h) ⟨by dsimp only;omega,Le.refl _,rfl⟩ QS QT rfl ?_
    rintro ⟨k,out,A4,c4,hh⟩ ⟨hk,hle,ho⟩ ih
    dsimp only at hk hle ho ih ⊢
    have hol : out.length ≤ k:=by
      have:=apP_len num (l.take k)
      rw [← ho,List.length_take] at this
      omega
    by_cases hkn : k < n
    · have a1:=hrow.addrD hkn
      have c1:=(hrow.cellsD p0 hkn).le hle
      have et:=take7 p0 hlen hkn
      generalize l.getD k p0 = p at *
      have hsn:=apP_snoc num (l.take k) p
      rw [← et,← ho] at hsn
      by_cases hP : Apart num p.2
      · rw [if_pos hP] at hsn
        obtain ⟨P1,P2⟩:=hP
        repeat' (first|apply GO_seq|apply GO_skip|apply GO_inBlock|apply GO_block|apply GO_region|apply GOl_nil|(apply GOl_unwanted;exact rfl;exact rfl)|(apply GOl_add;(iterate 3 exact rfl);omega;exact rfl;exact rfl)|(apply GOl_pv;(iterate 3 exact rfl))|(apply GOl_load;exact rfl;exact Ld_blk rfl QM rfl;exact rfl;exact rfl)|(apply GOl_ov;exact rfl;exact rfl;(first|(apply OV_idxS (j:=k);(iterate 5 exact rfl);exact a1;(with_reducible exact rfl);omega)|(apply OV_load;exact rfl;exact Lv_ro rfl c1 rfl));exact QA)|(apply GOl_to;(iterate 3 exact rfl);(first|(apply OpTo_store;(iterate 3 exact rfl);exact QR;(iterate 3 exact rfl);skip)|(apply OpTo_alloc;exact rfl;intro b;skip)|(apply OpTo_buildSliceS (enc:=encF82) (n:=1) [p];(iterate 3 exact rfl);exact List.cons_ne_nil _ _;(iterate 4 exact rfl);exact encF82_len;exact rfl;exact rfl;intro b5 h5 hle5 hs5;skip)|(apply OpTo_appendS (enc:=encF82) (xs:=out);(iterate 7 exact rfl);exact hs5;exact encF82_len;exact encF82_one;intro v1;exact QR;omega;exact rfl;intro A5 c5;skip)))|(apply GO_cond;exact rfl;all_goals (intro hc;try simp only [hcS,reduceCtorEq] at hc;try (exfalso;omega)))|(apply GOl_split;exact rfl;exact rfl;all_goals (intro hc;try simp only [hcS,reduceCtorEq] at hc;try (exfalso;omega))))
        all_goals first
          | (exfalso;omega)
          | (exfalso;exact P1 ⟨by assumption,by assumption⟩)
          | (exfalso;exact P2 ⟨by assumption,by assumption⟩)
          | (have h3:=ih (k + 1,out ++ [p],A5,c5,h5) ⟨by dsimp only;omega,hle.trans hle5,by dsimp only;rw [hsn]⟩ (by dsimp only;omega)
             dsimp only at h3
             rw [List.length_append] at h3
             refine GO_fit QS QT (h3))
      · rw [if_neg hP] at hsn
        have h3:=ih (k + 1,out,A4,c4,hh) ⟨by dsimp only;omega,hle,by dsimp only;rw [hsn]⟩ (by dsimp only;omega)
        dsimp only at h3
        have hP2 : ¬ (¬ (p.2.kind = 4 ∧ p.2.ru.case = num) ∧ ¬ (p.2.kind = 5 ∧ p.2.aCase = num)):=hP
        repeat' (first|apply GO_seq|apply GO_skip|apply GO_inBlock|apply GO_block|apply GO_region|apply GOl_nil|(apply GOl_unwanted;exact rfl;exact rfl)|(apply GOl_add;(iterate 3 exact rfl);omega;exact rfl;exact rfl)|(apply GOl_pv;(iterate 3 exact rfl))|(apply GOl_load;exact rfl;exact Ld_blk rfl QM rfl;exact rfl;exact rfl)|(apply GOl_ov;exact rfl;exact rfl;(first|(apply OV_idxS (j:=k);(iterate 5 exact rfl);exact a1;(with_reducible exact rfl);omega)|(apply OV_load;exact rfl;exact Lv_ro rfl c1 rfl));exact QA)|(apply GOl_to;(iterate 3 exact rfl);(first|(apply OpTo_store;(iterate 3 exact rfl);exact QR;(iterate 3 exact rfl);skip)|(apply OpTo_alloc;exact rfl;intro b;skip)))|(apply GO_cond;exact rfl;all_goals (intro hc;try simp only [hcS,reduceCtorEq] at hc;try (exfalso;omega)))|(apply GOl_split;exact rfl;exact rfl;all_goals (intro hc;try simp only [hcS,reduceCtorEq] at hc;try (exfalso;omega))))
        all_goals first
          | (exfalso;omega)
          | (refine GO_fit QS QT (h3))
    · rw [List.take_of_length_le (by omega)] at ho
      clear ih
      refine GO_relC (enc:=encF82) (e:=54) (sz:=82) (n:=out.length) (xs:=out) encF82_len rfl QK ?_
      intro A7 c7 h7 hle7 e7 hnc7 hs7
      cases e7
      have hle77 : Le h h7:=(by first|exact Le.refl _|assumption|(repeat (first|assumption|(apply Le.trans;assumption))))
      have hfo : FactsAt h7 A4 out.length out:=⟨hs7,fun p hp => by
        rw [ho] at hp
        have:=hfat p (apP_sub num l p hp)
        exact ⟨this.1.le hle77,this.2⟩,by omega⟩
      rw [← ho] at hof hsu hnf
      have hf2:=fun h' (hl : Le h7 h') => InForce_c h' (hG.le (hle77.trans hl)) A4 out.length c4 out (hfo.le hl)
      have ho2:=fun h' (hl : Le h7 h') => Of_c h' (hG.le (hle77.trans hl)) A4 out.length c4 out (hfo.le hl) num
      have hs2:=fun h' (hl : Le h7 h') => Suspended_c h' (hG.le (hle77.trans hl)) A4 out.length c4 out (hfo.le hl) num
      rw [hof] at ho2
      rw [decide_eq_false hsu] at hs2
      rw [hnf] at hf2
      clear hof hsu hnf ho hs7 hfat
      repeat' (first|apply GO_seq|apply GO_block|apply GO_region|apply GOl_nil|(apply GO_exit;exact rfl)|(apply GOl_pv;(iterate 3 exact rfl))|(apply GOl_to;(iterate 3 exact rfl);(first|(apply OpTo_res;exact rfl;exact has17;exact hf1 _ (by first|exact Le.refl _|assumption|(repeat (first|assumption|(apply Le.trans;assumption))));rintro w3 h3 hle3 ⟨A3,c3,rl,rfl,hsl,rfl,hn3⟩;skip)))|(apply GO_cond;exact rfl;all_goals (intro hc;try simp only [hcS,reduceCtorEq] at hc;try (exfalso;omega))))
      refine GO_nilS 44 17 ?_
      refine GO_loopT (X:=Nat × List FRul × Option Addr × Nat × Ro) (fun x => x.1 ≤ rl.length ∧ Le h3 x.2.2.2.2 ∧ x.2.1 = noC num (rl.take x.1)) (fun x => rl.length - x.1)
        (fun x => [(54,.int .i64 x.1),(53,.int .i64 rl.length),(52,.slice A3 rl.length c3),(8,.slice x.2.2.1 x.2.1.length x.2.2.2.1),(5,.slice A4 out.length c4),(1,.int .i64 num)])
        (fun x => [OwnS 44 17 (.slice x.2.2.1 x.2.1.length x.2.2.2.1) x.2.1.length (x.2.1.flatMap rulC)]) (fun x => x.2.2.2.2) (0,[],none,0,h3) ⟨by dsimp only;omega,Le.refl _,rfl⟩ QS QT rfl ?_
      rintro ⟨i,ou,A5,c5,hj⟩ ⟨hi,hlj,ho5⟩ ih
      dsimp only at hi hlj ho5 ih ⊢
      have hol5 : ou.length ≤ i:=by
        have:=noC_len num (rl.take i)
        rw [← ho5,List.length_take] at this
        omega
      by_cases hin : i < rl.length
      · have a1:=hsl.addrD hin
        have c1:=(hsl.cellsD rul0 hin).le hlj
        have et:=take7 rul0 (xs:=rl) rfl hin
        generalize rl.getD i rul0 = r at *
        have hsn:=noC_snoc num (rl.take i) r
        rw [← et,← ho5] at hsn
        by_cases hP : r.case ≠ num
        · rw [if_pos hP] at hsn
          repeat' (first|apply GO_seq|apply GO_skip|apply GO_inBlock|apply GO_block|apply GO_region|apply GOl_nil|(apply GOl_add;(iterate 3 exact rfl);omega;exact rfl;exact rfl)|(apply GOl_pv;(iterate 3 exact rfl))|(apply GOl_load;exact rfl;exact Ld_blk rfl QM rfl;exact rfl;exact rfl)|(apply GOl_ov;exact rfl;exact rfl;(first|(apply OV_idxS (j:=i);(iterate 5 exact rfl);exact a1;(with_reducible exact rfl);omega)|(apply OV_load;exact rfl;exact Lv_ro rfl c1 rfl));exact QA)|(apply GOl_to;(iterate 3 exact rfl);(first|(apply OpTo_store;(iterate 3 exact rfl);exact QR;(iterate 3 exact rfl);skip)|(apply OpTo_alloc;exact rfl;intro b;skip)|(apply OpTo_buildSliceS (enc:=rulC) (n:=1) [r];(iterate 3 exact rfl);exact List.cons_ne_nil _ _;(iterate 4 exact rfl);exact fun _ => rfl;exact rfl;exact rfl;intro b6 h6 hle6 hs6;skip)|(apply OpTo_appendS (enc:=rulC) (xs:=ou);(iterate 7 exact rfl);exact hs6;exact fun _ => rfl;exact fun x => allOne_ok rfl;intro v1;exact QR;omega;exact rfl;intro A6 c6;skip)))|(apply GO_cond;exact rfl;all_goals (intro hc;try simp only [hcS,reduceCtorEq] at hc;try (exfalso;omega))))
          all_goals first
            | (exfalso;omega)
            | contradiction
            | (have h9:=ih (i + 1,ou ++ [r],A6,c6,h6) ⟨by dsimp only;omega,hlj.trans hle6,by dsimp only;rw [hsn]⟩ (by dsimp only;omega)
               dsimp only at h9
               rw [List.length_append] at h9
               refine GO_fit QS QT (h9))
        · rw [if_neg hP] at hsn
          have h9:=ih (i + 1,ou,A5,c5,hj) ⟨by dsimp only;omega,hlj,by dsimp only;rw [hsn]⟩ (by dsimp only;omega)
          dsimp only at h9
          repeat' (first|apply GO_seq|apply GO_skip|apply GO_inBlock|apply GO_block|apply GO_region|apply GOl_nil|(apply GOl_add;(iterate 3 exact rfl);omega;exact rfl;exact rfl)|(apply GOl_pv;(iterate 3 exact rfl))|(apply GOl_load;exact rfl;exact Ld_blk rfl QM rfl;exact rfl;exact rfl)|(apply GOl_ov;exact rfl;exact rfl;(first|(apply OV_idxS (j:=i);(iterate 5 exact rfl);exact a1;(with_reducible exact rfl);omega)|(apply OV_load;exact rfl;exact Lv_ro rfl c1 rfl));exact QA)|(apply GOl_to;(iterate 3 exact rfl);(first|(apply OpTo_store;(iterate 3 exact rfl);exact QR;(iterate 3 exact rfl);skip)|(apply OpTo_alloc;exact rfl;intro b;skip)))|(apply GO_cond;exact rfl;all_goals (intro hc;try simp only [hcS,reduceCtorEq] at hc;try (exfalso;omega))))
          all_goals first
            | (exfalso;omega)
            | contradiction
            | (refine GO_fit QS QT (h9))
      · rw [List.take_of_length_le (by omega)] at ho5
        clear ih
        refine GO_relC (enc:=rulC) (e:=44) (sz:=17) (n:=ou.length) (xs:=ou) (fun _ => rfl) rfl QK ?_
        intro A8 c8 h8 hle8 e8 hnc8 hs8
        cases e8
        repeat' (first|apply GO_seq|apply GO_region|apply GOl_nil|(apply GO_exit;exact rfl)|(apply GOl_pv;(iterate 3 exact rfl))|(apply GOl_to;(iterate 3 exact rfl);(first|(apply OpTo_store;(iterate 3 exact rfl);exact QR;(iterate 3 exact rfl);skip)|(apply OpTo_alloc;exact rfl;intro b;skip)|(apply OpTo_res;exact rfl;exact has18;exact ho2 _ (by first|exact Le.refl _|assumption|(repeat (first|assumption|(apply Le.trans;assumption))));rintro w1 h1 hle1 rfl;skip)|(apply OpTo_res;exact rfl;exact has17;exact hf2 _ (by first|exact Le.refl _|assumption|(repeat (first|assumption|(apply Le.trans;assumption))));rintro w4 h4 hle4 ⟨A9,c9,ql,rfl,hql,hrq,hn4⟩;skip)|(apply OpTo_val;exact rfl;exact has16;exact sameRu_c _ A9 ql.length c9 ql (hql.le (by first|exact Le.refl _|assumption|(repeat (first|assumption|(apply Le.trans;assumption))))) hn4 A5 ou.length c5 ou (hs8.le (by first|exact Le.refl _|assumption|(repeat (first|assumption|(apply Le.trans;assumption))))) (hrq.trans ho5.symm);skip)|(apply OpTo_res;exact rfl;exact has21;exact hs2 _ (by first|exact Le.refl _|assumption|(repeat (first|assumption|(apply Le.trans;assumption))));rintro w5 h5 hle5 rfl;skip)))|(apply GO_cond;exact rfl;all_goals (intro hc;try simp only [hcS,reduceCtorEq] at hc;try (exfalso;omega))))
        all_goals first
          | (exact GO_retR1 rfl rfl rfl rfl)
          | (exfalso;simp at hc;done)
  · rw [decide_eq_false hF] at hfew
    repeat' (first|apply GO_seq|apply GO_skip|apply GO_region|apply GOl_nil|(apply GOl_pv;(iterate 3 exact rfl))|(apply GOl_to;(iterate 3 exact rfl);(first|(apply OpTo_val;exact rfl;exact has10;exact hsane;skip)|(apply OpTo_val;exact rfl;exact has11;exact hfew;skip)))|(apply GO_cond;exact rfl;all_goals (intro hc;try simp only [hcS,reduceCtorEq] at hc;try (exfalso;omega))))
    all_goals first
      | (exact GO_retR1 rfl rfl rfl rfl)
      | (exfalso;simp at hc;done)
end Go.Hw

import Derived.Test.YtcnddgmcfjaihaaGreatDoorVF
import Derived.Test.YtcnddgmcfjaihaaGreatDoorXR11
set_option linter.unusedVariables false
set_option linter.unusedSimpArgs false
set_option maxRecDepth 100000
set_option maxHeartbeats 8000000
namespace Go.Hw
open Go
attribute [local irreducible] GO GOl GDp Val Fn Res CellsAt ValE Blk OwnS MapA OwnPf Has Yl SepA forceL
open Go.Proofs (Tryz.prog)
theorem stand_idx {l : List (Fsh × Fct)} {num i : Int} {f : Fct} (h : standI (fcs l) num i = some f) : ∃ j y,j < l.length ∧ idxP (fun p : Fsh × Fct => decide (OfCase num p.2 ∧ p.2.ru.inst = i)) l 0 = (j : Int) ∧ l[j]? = some y ∧ y.2 = f:=by
  have e : standI (fcs l) num i = (l.find? fun p : Fsh × Fct => decide (OfCase num p.2 ∧ p.2.ru.inst = i)).map (·.2):=by
    unfold standI fcs
    rw [List.find?_map];rfl
  rw [e] at h
  obtain ⟨y,hy,hyf⟩:=Option.map_eq_some_iff.1 h
  rcases idxP_find (fun p : Fsh × Fct => decide (OfCase num p.2 ∧ p.2.ru.inst = i)) l 0 with ⟨_,e2⟩|⟨j,x,e1,e2,e3,e4⟩
  · rw [e2] at hy;cases hy
  · rw [e4] at hy
    cases hy
    exact ⟨j,y,e1,by rw [e2,Nat.zero_add],e3,hyf⟩
theorem factsR10_c (h : Ro) (A : Option Addr) (n c : Nat) (l : List (Fsh × Fct)) (hx : FactsAt h A n l) (hn6 : n ≤ 65536) : Res Tryz.prog 45 #[.slice A n c] h (fun u h' => ∃ A' c' l',u = .slice A' l'.length c' ∧ LedIs h' A' l'.length c' l' (forceL (canonL (fcs l)))):=by
  refine Res_intro (args:=[_]) ts_ok Go.Proofs.Tryz.func45 rfl rfl fun w0 X0 => ?_
  have h32 : In32 (fcs l):=In32_of hx.fat
  have hok : ∀ f ∈ canonL (fcs l),FctOk f:=fun f hf => (((canonL_spec (fcs l) h32).2 f).1 hf).2
  have hcan:=fun h' (hl : Le h h') => canonR_c h' A n c l (hx.le hl) hn6
  obtain ⟨C,hC⟩ : ∃ C,C = canonL (fcs l):=⟨_,rfl⟩
  rw [← hC] at hcan hok ⊢
  clear hx
  repeat' (first|apply GO_seq|apply GO_block|apply GO_region|apply GOl_nil|(apply GOl_pv;(iterate 3 exact rfl))|(apply GOl_to;(iterate 3 exact rfl);(first|(apply OpTo_res;exact rfl;exact has39;exact hcan _ (by first|exact Le.refl _|assumption|(repeat (first|assumption|(apply Le.trans;assumption))));rintro v1 h1 hle1 ⟨A3,k3,c3,l3,rfl,hL⟩;skip)|(apply OpTo_res;exact rfl;exact has102;exact casesR_c _ A3 k3 c3 l3 (hL.2.1.facts.le (by first|exact Le.refl _|assumption|(repeat (first|assumption|(apply Le.trans;assumption)))));rw [hL.2.2];rintro v2 h2 hle2 ⟨A5,c5,rfl,hs5⟩;skip)|(apply OpTo_buildSliceO (n:=0);(iterate 3 exact rfl);exact List.cons_ne_nil _ _;(iterate 6 exact rfl);intro b8;skip))))
  have hlen3:=hL.2.1.row.len
  have hsm3:=hL.2.1.small
  have hnl:=casesL_len C
  have hCl : C.length = k3:=by rw [← hL.2.2,List.length_map,hlen3]
  have hmem : ∀ m ∈ casesL C,∃ f ∈ C,OfCase m f:=fun m hm => (casesL_mem C m).1 hm
  rw [show forceL C = forceN C (casesL C) from (forceN_all C).symm]
  generalize casesL C = ns at *
  refine GO_loopT (X:=Nat × List (Fsh × Fct) × Option Addr × Nat × Ro) (fun x => x.1 ≤ ns.length ∧ Le h2 x.2.2.2.2 ∧ (∀ p ∈ x.2.1,FGd h2 p) ∧ fcs x.2.1 = forceN C (ns.take x.1)) (fun x => ns.length - x.1)
    (fun x => [(6,.int .i64 x.1),(3,.slice A3 k3 c3),(4,.slice A5 ns.length c5),(5,.slice x.2.2.1 x.2.1.length x.2.2.2.1)])
    (fun x => [OwnS 54 82 (.slice x.2.2.1 x.2.1.length x.2.2.2.1) x.2.1.length (x.2.1.flatMap encF82)]) (fun x => x.2.2.2.2) (0,[],some ⟨b8,0,none⟩,0,h2) ⟨by dsimp only;omega,Le.refl _,by simp,rfl⟩ QS QT rfl ?_
  rintro ⟨k,out,A4,c4,hh⟩ ⟨hk,hle,hgd,ho⟩ ih
  dsimp only at hk hle hgd ho ih ⊢
  have hol : out.length ≤ k:=by
    have q:=congrArg List.length ho
    have q2:=forceN_len C (ns.take k)
    rw [List.length_map] at q
    rw [List.length_take] at q2
    omega
  by_cases hkn : k < ns.length
  · have a5:=hs5.addrD hkn
    have d5 : CellsAt hh ((addrD A5).add (k * ty3.size)) (encI (ns.getD k 0)):=(hs5.cellsD 0 hkn).le hle
    have et:=take7 0 (xs:=ns) rfl hkn
    have hnm:=hmem _ (getD_mem 0 hkn)
    generalize ns.getD k 0 = m at *
    have hxl : FactsAt hh A3 k3 l3:=hL.2.1.facts.le (by first|exact Le.refl _|assumption|(repeat (first|assumption|(apply Le.trans;assumption))))
    have hsu:=suspR10_c hh A3 k3 c3 l3 hxl m
    have hla:=lastR10_c hh A3 k3 c3 l3 hxl m
    rw [hL.2.2] at hsu hla
    have e0 : forceN C (ns.take (k + 1)) = fcs out ++ (if HeldI C m then none else standI C m (lastI C m)).toList:=by rw [et,forceN_snoc,ho]
    by_cases hH : HeldI C m
    · rw [decide_eq_true hH] at hsu
      rw [if_pos hH] at e0
      have h3:=ih (k + 1,out,A4,c4,hh) ⟨by dsimp only;omega,hle,hgd,by dsimp only;rw [e0];simp⟩ (by dsimp only;omega)
      dsimp only at h3
      repeat' (first|apply GO_seq|apply GO_skip|apply GO_inBlock|apply GO_block|apply GO_region|apply GOl_nil|(apply GOl_add;(iterate 3 exact rfl);omega;exact rfl;exact rfl)|(apply GOl_pv;(iterate 3 exact rfl))|(apply GOl_ov;exact rfl;exact rfl;(first|(apply OV_idxS (j:=k) (n:=ns.length);(iterate 5 exact rfl);exact a5;(with_reducible exact rfl);omega)|(apply OV_load;exact rfl;apply Lv_ro;exact rfl;(with_reducible exact d5);exact rfl));exact QA)|(apply GOl_to;(iterate 3 exact rfl);(first|(apply OpTo_val;exact rfl;exact has47;exact hsu;skip)))|(apply GO_cond;exact rfl;all_goals (intro hc;try simp only [hcS,reduceCtorEq] at hc;try (exfalso;omega))))
      all_goals first
        | (exfalso;omega)
        | (refine GO_fit QS QT (h3))
    · rw [decide_eq_false hH] at hsu
      rw [if_neg hH] at e0
      obtain ⟨_,f9,hf9⟩:=stand_last hok hnm
      rw [hf9] at e0
      have hstd:=standR10_c hh A3 k3 c3 l3 hxl m (lastI C m)
      obtain ⟨jj,y,hjj,hij,hyy,hyf⟩:=stand_idx (l:=l3) (by rw [hL.2.2];exact hf9)
      rw [hij] at hstd
      have aL:=hL.2.1.row.addrD (show jj < k3 by omega)
      have dL : CellsAt hh ((addrD A3).add (jj * ty54.size)) (encF82 y):=by
        have:=(hL.2.1.row.cellsD p0 (show jj < k3 by omega)).le (show Le h1 hh from (by first|exact Le.refl _|assumption|(repeat (first|assumption|(apply Le.trans;assumption)))))
        rwa [List.getD_eq_getElem?_getD,hyy] at this
      have hyg : FGd h2 y:=(hL.2.1.good y (List.mem_of_getElem? hyy)).le hle2
      repeat' (first|apply GO_seq|apply GO_skip|apply GO_inBlock|apply GO_block|apply GO_region|apply GOl_nil|(apply GOl_add;(iterate 3 exact rfl);omega;exact rfl;exact rfl)|(apply GOl_pv;(iterate 3 exact rfl))|(apply GOl_ov;exact rfl;exact rfl;(first|(first|(apply OV_idxS (j:=k) (n:=ns.length);(iterate 5 exact rfl);exact a5;(with_reducible exact rfl);omega)|(apply OV_idxS (j:=jj) (n:=k3);(iterate 5 exact rfl);exact aL;(with_reducible exact rfl);omega))|(first|(apply OV_load;exact rfl;apply Lv_ro;exact rfl;(with_reducible exact d5);exact rfl)|(apply OV_load;exact rfl;apply Lv_ro;exact rfl;(with_reducible exact dL);exact rfl)));exact QA)|(apply GOl_to;(iterate 3 exact rfl);(first|(apply OpTo_val;exact rfl;exact has47;exact hsu;skip)))|(apply GO_drawp (n:=8) [0,1,2,3,4,5,6,7,8,9,10,11,12,13,14,15,16,17,18] [(0,0),(1,0),(2,0),(3,0),(4,0),(5,0),(6,0),(7,0),(8,0),(9,0),(10,0),(11,0),(12,1),(13,1),(14,0),(15,0),(16,1),(17,1),(18,0)];kernel_rfl)|(apply GP_pv;exact rfl;kernel_rfl;(iterate 3 exact rfl))|(apply GP_ov;exact rfl;kernel_rfl;exact rfl;exact rfl;(first|(first|(apply OV_idxS (j:=k) (n:=ns.length);(iterate 5 exact rfl);exact a5;(with_reducible exact rfl);omega)|(apply OV_idxS (j:=jj) (n:=k3);(iterate 5 exact rfl);exact aL;(with_reducible exact rfl);omega))|(first|(apply OV_load;exact rfl;apply Lv_ro;exact rfl;(with_reducible exact d5);exact rfl)|(apply OV_load;exact rfl;apply Lv_ro;exact rfl;(with_reducible exact dL);exact rfl)));exact QA)|(apply GP_real;exact rfl;kernel_rfl;(iterate 3 exact rfl);(first|(apply OpTo_val;exact rfl;exact has103;exact hla;refine ⟨Le.refl _,QN,?_⟩)|(apply OpTo_val;exact rfl;exact has40;exact hstd;refine ⟨Le.refl _,QN,?_⟩)|(apply OpTo_buildSliceS (enc:=encF82) (n:=1) [y];(iterate 3 exact rfl);exact List.cons_ne_nil _ _;(iterate 4 exact rfl);exact encF82_len;exact rfl;exact rfl;intro b5 h5 hle5 hs6;refine ⟨hle5,QN,?_⟩)|(apply OpTo_appendS (enc:=encF82) (xs:=out);(iterate 7 exact rfl);exact hs6;exact encF82_len;exact encF82_one;intro v1;exact QR;omega;exact rfl;intro A6 c6;refine ⟨Le.refl _,QN,?_⟩)))|(apply GP_done;kernel_rfl;exact rfl)|(apply GO_cond;exact rfl;all_goals (intro hc;try simp only [hcS,reduceCtorEq] at hc;try (exfalso;omega))))
      all_goals first
        | (exfalso;omega)
        | (have h3:=ih (k + 1,out ++ [y],A6,c6,h5) ⟨by dsimp only;omega,hle.trans hle5,fun q hq => by
             rcases List.mem_append.1 hq with w|w
             · exact hgd q w
             · rw [List.mem_singleton] at w;subst w;exact hyg,by dsimp only;rw [e0,fcs_snoc,hyf];rfl⟩ (by dsimp only;omega)
           dsimp only at h3
           rw [List.length_append] at h3
           refine GO_fit QS QT (h3))
  · rw [List.take_of_length_le (by omega)] at ho
    clear ih
    refine GO_relC (enc:=encF82) (e:=54) (sz:=82) (n:=out.length) (xs:=out) encF82_len rfl QK ?_
    intro A6 c6 h6 hle6 e6 hnc6 hs6
    cases e6
    repeat' (first|apply GO_seq|apply GO_region|apply GOl_nil|(apply GO_exit;exact rfl)|(apply GOl_pv;(iterate 3 exact rfl))|(apply GO_cond;exact rfl;all_goals (intro hc;try simp only [hcS,reduceCtorEq] at hc;try (exfalso;omega))))
    all_goals first
      | (exfalso;omega)
      | (exact GO_retR1 rfl rfl rfl ⟨A4,c4,out,rfl,hnc6,⟨hs6,fun p hp => (hgd p hp).le (by first|exact Le.refl _|assumption|(repeat (first|assumption|(apply Le.trans;assumption)))),by omega⟩,ho⟩)
theorem InForceR_c (h : Ro) (A : Option Addr) (n c : Nat) (l : List (Fsh × Fct)) (hx : FactsAt h A n l) (hn6 : n ≤ 65536) : Res Tryz.prog 20 #[.slice A n c] h (fun u h' => ∃ A' c' rl,u = .slice A' rl.length c' ∧ SlOf rulC 17 h' A' rl.length rl ∧ rl = (forceL (canonL (fcs l))).map (·.ru) ∧ rl.length ≤ 1000000):=by
  refine Res_intro (args:=[_]) ts_ok Go.Proofs.Tryz.func20 rfl rfl fun w0 X0 => ?_
  obtain ⟨L,hL⟩ : ∃ L,L = forceL (canonL (fcs l)):=⟨_,rfl⟩
  have hfi:=fun h' (hl : Le h h') => factsR10_c h' A n c l (hx.le hl) hn6
  rw [← hL] at hfi ⊢
  repeat' (first|apply GO_seq|apply GO_block|apply GO_region|apply GOl_nil|(apply GOl_pv;(iterate 3 exact rfl))|(apply GOl_to;(iterate 3 exact rfl);(first|(apply OpTo_res;exact rfl;exact has45;exact hfi _ (by first|exact Le.refl _|assumption|(repeat (first|assumption|(apply Le.trans;assumption))));rintro w1 h1 hle1 ⟨A3,c3,l3,rfl,hL3⟩;skip)|(apply OpTo_buildSliceO (n:=0);(iterate 3 exact rfl);exact List.cons_ne_nil _ _;(iterate 6 exact rfl);intro b8;skip))))
  have hs9:=hL3.2.1.row
  have hn3:=hL3.2.1.small
  have hf3:=hL3.2.2
  refine GO_loopT (X:=Nat × List FRul × Option Addr × Nat × Ro) (fun x => x.1 ≤ l3.length ∧ Le h1 x.2.2.2.2 ∧ x.2.1 = (fcs (l3.take x.1)).map (·.ru)) (fun x => l3.length - x.1)
    (fun x => [(5,.int .i64 x.1),(3,.slice A3 l3.length c3),(4,.slice x.2.2.1 x.2.1.length x.2.2.2.1)])
    (fun x => [OwnS 44 17 (.slice x.2.2.1 x.2.1.length x.2.2.2.1) x.2.1.length (x.2.1.flatMap rulC)]) (fun x => x.2.2.2.2) (0,[],some ⟨b8,0,none⟩,0,h1) ⟨by dsimp only;omega,Le.refl _,rfl⟩ QS QT rfl ?_
  rintro ⟨k,out,A4,c4,hh⟩ ⟨hk,hle,ho⟩ ih
  dsimp only at hk hle ho ih ⊢
  have hol : out.length ≤ k:=by
    rw [ho,List.length_map,List.length_map,List.length_take];omega
  by_cases hkn : k < l3.length
  · have a1:=hs9.addrD hkn
    have cc : CellsAt hh ((addrD A3).add (k * ty54.size)) (encF82 (l3.getD k p0)):=(hs9.cellsD p0 hkn).le hle
    have et:=take7 p0 (xs:=l3) rfl hkn
    generalize l3.getD k p0 = p at *
    repeat' (first|apply GO_seq|apply GO_skip|apply GO_inBlock|apply GO_block|apply GO_region|apply GOl_nil|(apply GOl_add;(iterate 3 exact rfl);omega;exact rfl;exact rfl)|(apply GOl_pv;(iterate 3 exact rfl))|(apply GOl_ov;exact rfl;exact rfl;(first|(apply OV_idxS (j:=k);(iterate 5 exact rfl);exact a1;(with_reducible exact rfl);omega)|(apply OV_load;exact rfl;first|exact Lv_ro rfl (by assumption) rfl|exact Lv_roF rfl (by assumption) rfl|exact Lv_roF2 rfl (by assumption) rfl|exact Lv_roF3 rfl (by assumption) rfl));exact QA)|(apply GOl_to;(iterate 3 exact rfl);(first|(apply OpTo_buildSliceS (enc:=rulC) (n:=1) [p.2.ru];(iterate 3 exact rfl);exact List.cons_ne_nil _ _;(iterate 4 exact rfl);exact fun _ => rfl;exact rfl;exact rfl;intro b5 h5 hle5 hs5;skip)|(apply OpTo_appendS (enc:=rulC) (xs:=out);(iterate 7 exact rfl);exact hs5;exact fun _ => rfl;exact fun x => allOne_ok rfl;intro v1;exact QR;omega;exact rfl;intro A5 c5;skip)))|(apply GO_cond;exact rfl;all_goals (intro hc;try simp only [hcS,reduceCtorEq] at hc;try (exfalso;omega))))
    all_goals first
      | (exfalso;omega)
      | (have h3:=ih (k + 1,out ++ [p.2.ru],A5,c5,h5) ⟨by dsimp only;omega,hle.trans hle5,by dsimp only;rw [ho,et];simp [fcs]⟩ (by dsimp only;omega)
         dsimp only at h3
         rw [List.length_append] at h3
         refine GO_fit QS QT (h3))
  · rw [List.take_of_length_le (by omega),hf3] at ho
    clear ih
    refine GO_relC (enc:=rulC) (e:=44) (sz:=17) (n:=out.length) (xs:=out) (fun _ => rfl) rfl QK ?_
    intro A7 c7 h7 hle7 e7 hnc7 hs7
    cases e7
    repeat' (first|apply GO_seq|apply GO_region|apply GOl_nil|(apply GO_exit;exact rfl)|(apply GOl_pv;(iterate 3 exact rfl))|(apply GO_cond;exact rfl;all_goals (intro hc;try simp only [hcS,reduceCtorEq] at hc;try (exfalso;omega))))
    all_goals first
      | (exfalso;omega)
      | (exact GO_retR1 rfl rfl rfl ⟨A4,c4,out,rfl,hs7,ho,by omega⟩)
theorem OfR_c (h : Ro) (A : Option Addr) (n c : Nat) (l : List (Fsh × Fct)) (hx : FactsAt h A n l) (hn6 : n ≤ 65536) (num : Int) : Res Tryz.prog 19 #[.slice A n c,.int .i64 num] h (fun u _ => u = .tuple #[.agg (rulC ((ofR (canonL (fcs l)) num).getD rul0)).toArray,.bool (ofR (canonL (fcs l)) num).isSome]):=by
  refine Res_intro (args:=[_,_]) ts_ok Go.Proofs.Tryz.func19 rfl rfl fun w0 X0 => ?_
  rw [← ofL_map]
  obtain ⟨L,hL⟩ : ∃ L,L = (forceL (canonL (fcs l))).map (·.ru):=⟨_,rfl⟩
  have hfi:=fun h' (hl : Le h h') => InForceR_c h' A n c l (hx.le hl) hn6
  rw [← hL] at hfi ⊢
  repeat' (first|apply GO_seq|apply GO_block|apply GO_region|apply GOl_nil|(apply GOl_pv;(iterate 3 exact rfl))|(apply GOl_to;(iterate 3 exact rfl);(first|(apply OpTo_alloc;exact rfl;intro b;skip)|(apply OpTo_res;exact rfl;exact has20;exact hfi _ (by first|exact Le.refl _|assumption|(repeat (first|assumption|(apply Le.trans;assumption))));rintro w1 h1 hle1 ⟨A3,c3,rl,rfl,hsl,rfl,hn3⟩;skip))))
  generalize b = b4
  refine GO_loopT (X:=Nat) (fun k => k ≤ rl.length ∧ (rl.take k).find? (fun r => decide (r.case = num)) = none) (fun k => rl.length - k)
    (fun k => [(7,.int .i64 k),(6,.slice A3 rl.length c3),(4,.pointer (some ⟨b4,0,none⟩)),(1,.int .i64 num)])
    (fun _ => [Blk b4 44 (rulC rul0)]) (fun _ => h1) 0 ⟨by omega,rfl⟩ QS QT rfl ?_
  rintro k ⟨hk,hI⟩ ih
  by_cases hkn : k < rl.length
  · have a1:=hsl.addrD hkn
    have cc : CellsAt h1 ((addrD A3).add (k * ty44.size)) (rulC (rl.getD k rul0)):=hsl.cellsD rul0 hkn
    have et:=take7 rul0 (xs:=rl) rfl hkn
    have hsplit:=take_split rul0 (l:=rl) rfl hkn
    generalize rl.getD k rul0 = r at *
    by_cases hr : r.case = num
    · have e9 : rl.find? (fun r => decide (r.case = num)) = some r:=by
        rw [hsplit,List.find?_append,hI,List.find?_cons];simp [hr]
      rw [e9]
      repeat' (first|apply GO_seq|apply GO_skip|apply GO_block|apply GO_region|apply GOl_nil|(apply GOl_pv;(iterate 3 exact rfl))|(apply GOl_ov;exact rfl;exact rfl;(first|(apply OV_idxS (j:=k);(iterate 5 exact rfl);exact a1;(with_reducible exact rfl);omega)|(apply OV_load;exact rfl;first|exact Lv_ro rfl (by assumption) rfl|exact Lv_roF rfl (by assumption) rfl|exact Lv_roF2 rfl (by assumption) rfl|exact Lv_roF3 rfl (by assumption) rfl));exact QA)|(apply GOl_to;(iterate 3 exact rfl);(first|(apply OpTo_store;(iterate 3 exact rfl);exact QR;(iterate 3 exact rfl);skip)))|(apply GO_cond;exact rfl;all_goals (intro hc;try simp only [hcS,reduceCtorEq] at hc;try (exfalso;omega))))
      all_goals first
        | (exfalso;omega)
        | contradiction
        | (exact GO_retRC2 rfl rfl rfl QM rfl rfl rfl rfl)
    · have h3:=ih (k + 1) ⟨by omega,by rw [et,List.find?_append,hI];simp [hr]⟩ (by omega)
      repeat' (first|apply GO_seq|apply GO_skip|apply GO_inBlock|apply GO_block|apply GO_region|apply GOl_nil|(apply GOl_add;(iterate 3 exact rfl);omega;exact rfl;exact rfl)|(apply GOl_pv;(iterate 3 exact rfl))|(apply GOl_ov;exact rfl;exact rfl;(first|(apply OV_idxS (j:=k);(iterate 5 exact rfl);exact a1;(with_reducible exact rfl);omega)|(apply OV_load;exact rfl;first|exact Lv_ro rfl (by assumption) rfl|exact Lv_roF rfl (by assumption) rfl|exact Lv_roF2 rfl (by assumption) rfl|exact Lv_roF3 rfl (by assumption) rfl));exact QA)|(apply GO_cond;exact rfl;all_goals (intro hc;try simp only [hcS,reduceCtorEq] at hc;try (exfalso;omega))))
      all_goals first
        | (exfalso;omega)
        | contradiction
        | (refine GO_fit QS QT (h3))
  · rw [List.take_of_length_le (by omega)] at hI
    rw [hI]
    clear ih
    repeat' (first|apply GO_seq|apply GO_region|apply GOl_nil|(apply GO_exit;exact rfl)|(apply GOl_pv;(iterate 3 exact rfl))|(apply GOl_to;(iterate 3 exact rfl);(first|(apply OpTo_store;(iterate 3 exact rfl);exact QR;(iterate 3 exact rfl);skip)))|(apply GO_cond;exact rfl;all_goals (intro hc;try simp only [hcS,reduceCtorEq] at hc;try (exfalso;omega))))
    all_goals first
      | (exfalso;omega)
      | (exact GO_retRC2 rfl rfl rfl QM rfl rfl rfl rfl)
theorem SuspendedR_c (h : Ro) (A : Option Addr) (n c : Nat) (l : List (Fsh × Fct)) (hx : FactsAt h A n l) (hn6 : n ≤ 65536) (num : Int) : Res Tryz.prog 22 #[.slice A n c,.int .i64 num] h (fun u _ => u = .bool (decide (HeldI (canonL (fcs l)) num))):=by
  refine Res_intro (args:=[_,_]) ts_ok Go.Proofs.Tryz.func22 rfl rfl fun w0 X0 => ?_
  have hcan:=fun h' (hl : Le h h') => canonR_c h' A n c l (hx.le hl) hn6
  obtain ⟨C,hC⟩ : ∃ C,C = canonL (fcs l):=⟨_,rfl⟩
  rw [← hC] at hcan ⊢
  repeat' (first|apply GO_seq|apply GO_region|apply GOl_nil|(apply GOl_pv;(iterate 3 exact rfl))|(apply GOl_to;(iterate 3 exact rfl);(first|(apply OpTo_res;exact rfl;exact has39;exact hcan _ (by first|exact Le.refl _|assumption|(repeat (first|assumption|(apply Le.trans;assumption))));rintro v1 h1 hle1 ⟨A3,k3,c3,l3,rfl,hL⟩;skip)|(apply OpTo_val;exact rfl;exact has47;(have hsu:=suspR10_c _ A3 k3 c3 l3 hL.2.1.facts num;rw [hL.2.2] at hsu;exact hsu);skip))))
  all_goals exact GO_retR1 rfl rfl rfl rfl
end Go.Hw

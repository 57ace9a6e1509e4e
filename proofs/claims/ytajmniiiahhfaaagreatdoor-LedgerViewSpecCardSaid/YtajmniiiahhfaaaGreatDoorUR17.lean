import Derived.Test.YtajmniiiahhfaaaGreatDoorUR16
import Derived.Test.YtajmniiiahhfaaaGreatDoorEC
set_option linter.unusedVariables false
set_option linter.unusedSimpArgs false
set_option maxRecDepth 100000
set_option maxHeartbeats 8000000
namespace Go.Hw
open Go
attribute [local irreducible] GO GOl GDp Val Fn Res CellsAt ValE Blk OwnS MapA OwnPf Has Yl idF
open Go.Proofs (Tryz.prog)
theorem dayR8_c (h : Ro) (n : Int) : Val Tryz.prog 86 #[.int .i64 n] h (.bool (decide (0 ≤ n ∧ n ≤ 1048576))):=by
  refine Val_intro (args:=[_]) ts_ok Go.Proofs.Tryz.func86 rfl rfl fun w0 X0 => ?_
  repeat' (first|apply GO_seq|apply GO_region|apply GOl_nil|(apply GOl_unwanted;exact rfl;exact rfl)|(apply GOl_pv;(iterate 3 exact rfl))|(apply GOl_split;exact rfl;exact rfl;all_goals (intro hc;try simp only [hcS,reduceCtorEq] at hc;try (exfalso;omega)))|(apply GO_retV1;(iterate 3 exact rfl)))
  all_goals (refine dec_ofV ?_;(try simp only [ltI_t,leI_t] at *);grind)
open Classical in
theorem knownR_c (h : Ro) (A : Option Addr) (n c : Nat) (l : List (Fsh × Fct)) (hx : FactsAt h A n l) (hn : n ≤ 65536) (day : Int) : Res Tryz.prog 44 #[ledV A n c,.int .i64 day] h (fun u h' => ∃ v,u = .tuple #[v,.int .i64 (knownE (fcs l) day).2] ∧ LedOut h' v (knownE (fcs l) day).1):=by
  refine Res_intro (args:=[_,_]) ts_ok Go.Proofs.Tryz.func44 rfl rfl fun w0 X0 => ?_
  obtain ⟨e,he⟩ : ∃ e,e = ledE (fcs l):=⟨_,rfl⟩
  have hck:=fun h' (hl : Le h h') => checkLR_e (c:=c) h' (hx.le hl) he.symm
  have hlen:=hx.row.len
  have hdv:=fun h' => dayR8_c h' day
  by_cases h0 : e = 0
  · by_cases h1 : 0 ≤ day ∧ day ≤ 1048576
    · have hkn : knownE (fcs l) day = (knownL (fcs l) day,0):=by unfold knownE;rw [if_neg (by rw [← he];omega),if_neg (fun q => q h1)]
      rw [hkn]
      have hok:=ledE_zero.1 (he ▸ h0)
      have hg : ∀ p ∈ l,FGd h p:=fun p hp => ⟨(hx.fat p hp).1,(hx.fat p hp).2,hok.2.1 _ (List.mem_map.2 ⟨p,hp,rfl⟩)⟩
      rw [decide_eq_true h1] at hdv
      clear he
      subst h0
      repeat' (first|apply GO_seq|apply GO_region|apply GOl_nil|(apply GOl_pv;(iterate 3 exact rfl))|(apply GOl_load;exact rfl;exact Ld_blk rfl QM rfl;exact rfl;exact rfl)|(apply GOl_to;(iterate 3 exact rfl);(first|(apply OpTo_box;exact rfl;intro b;skip)|(apply OpTo_alloc;exact rfl;intro b;skip))))
      rename_i b2
      generalize b = b4
      repeat' (first|apply GO_seq|apply GO_skip|apply GO_block|apply GO_region|apply GOl_nil|(apply GOl_pv;(iterate 3 exact rfl))|(apply GOl_to;(iterate 3 exact rfl);(first|(apply OpTo_store;(iterate 3 exact rfl);exact QR;(iterate 3 exact rfl);skip)|(apply OpTo_alloc;exact rfl;intro b;skip)|(apply OpTo_res;exact rfl;exact has36;exact hck _ (by first|exact Le.refl _|assumption|(repeat (first|assumption|(apply Le.trans;assumption))));rintro v1 h3 hle1 rfl;skip)|(apply OpTo_val;exact rfl;exact has86;exact hdv _;skip)))|(apply GO_cond;exact rfl;all_goals (intro hc;try simp only [hcS,reduceCtorEq] at hc;try (exfalso;omega))))
      all_goals (try (exfalso;omega))
      generalize b = b7
      refine GO_nilS 73 82 ?_
      refine GO_loopT (X:=Nat × Nat × List (Fsh × Fct) × Option Addr × Nat × Ro) (fun x => x.1 ≤ n ∧ x.2.2.1.length = x.2.1 ∧ x.2.1 ≤ x.1 ∧ Le h x.2.2.2.2.2 ∧ x.2.2.1 = recL (l.take x.1) day) (fun x => n - x.1)
        (fun x => [(8,.int .i64 x.1),(7,.pointer (some ⟨b7,0,none⟩)),(5,.int .i64 0),(4,.pointer (some ⟨b4,0,none⟩)),(2,.pointer (some ⟨b2,0,none⟩)),(1,.int .i64 day)])
        (fun x => [Blk b7 47 [.slice x.2.2.2.1 x.2.1 x.2.2.2.2.1],Blk b4 47 [.slice none 0 0],Blk b2 47 [.slice A n c],OwnS 73 82 (.slice x.2.2.2.1 x.2.1 x.2.2.2.2.1) x.2.1 (x.2.2.1.flatMap encF82)]) (fun x => x.2.2.2.2.2) (0,0,[],none,0,h3) ⟨by dsimp only;omega,rfl,by dsimp only;omega,(by first|exact Le.refl _|assumption|(repeat (first|assumption|(apply Le.trans;assumption)))),rfl⟩ QS QT rfl ?_
      rintro ⟨i,m,o,A4,c4,hh⟩ ⟨hi,hm,hmi,hle,ho⟩ ih
      dsimp only at hi hm hmi hle ho ih ⊢
      by_cases hin : i < n
      · have a1:=hx.row.addrD hin
        have cc : CellsAt hh ((addrD A).add (i * ty73.size)) (encF82 (l.getD i p0)):=(hx.row.cellsD p0 hin).le hle
        have et:=take7 p0 hlen hin
        generalize l.getD i p0 = y at *
        by_cases hP : y.2.known ≤ day
        · have e1 : o ++ [y] = recL (l.take (i + 1)) day:=by rw [et,recL_snoc,← ho];simp [recL,hP]
          repeat' (first|apply GO_seq|apply GO_skip|apply GO_inBlock|apply GO_block|apply GO_region|apply GOl_nil|(apply GOl_add;(iterate 3 exact rfl);omega;exact rfl;exact rfl)|(apply GOl_pv;(iterate 3 exact rfl))|(apply GOl_load;exact rfl;exact Ld_blk rfl QM rfl;exact rfl;exact rfl)|(apply GOl_ov;exact rfl;exact rfl;(first|(apply OV_idxS (j:=i);(iterate 5 exact rfl);exact a1;(with_reducible exact rfl);omega)|(apply OV_load;exact rfl;first|exact Lv_ro rfl (by assumption) rfl|exact Lv_roF rfl (by assumption) rfl|exact Lv_roF2 rfl (by assumption) rfl|exact Lv_roF3 rfl (by assumption) rfl));exact QA)|(apply GO_drawp (n:=11) [0,1,2,3,4,5,6,7,8,9,10] [(0,0),(1,0),(2,0),(3,0),(4,0),(5,0),(6,0),(7,1),(8,1),(9,0),(10,1)];kernel_rfl)|(apply GP_pv;exact rfl;kernel_rfl;(iterate 3 exact rfl))|(apply GP_loadB;exact rfl;kernel_rfl;(iterate 3 exact rfl);exact QM;exact rfl;exact rfl)|(apply GP_ov;exact rfl;kernel_rfl;exact rfl;exact rfl;(first|(apply OV_idxS (j:=i);(iterate 5 exact rfl);exact a1;(with_reducible exact rfl);omega)|(apply OV_load;exact rfl;first|exact Lv_ro rfl (by assumption) rfl|exact Lv_roF rfl (by assumption) rfl|exact Lv_roF2 rfl (by assumption) rfl|exact Lv_roF3 rfl (by assumption) rfl));exact QA)|(apply GP_real;exact rfl;kernel_rfl;(iterate 3 exact rfl);(first|(apply OpTo_store;(iterate 3 exact rfl);exact QR;(iterate 3 exact rfl);refine ⟨Le.refl _,QN,?_⟩)|(apply OpTo_buildSliceS (enc:=encF82) (n:=1) [y];(iterate 3 exact rfl);exact List.cons_ne_nil _ _;(iterate 4 exact rfl);exact encF82_len;exact rfl;exact rfl;intro bz2 hz2 hlez2 hs2;refine ⟨hlez2,QN,?_⟩)|(apply OpTo_appendS (enc:=encF82) (n:=m) (xs:=o) (ys:=[y]);(iterate 7 exact rfl);exact (hs2.le (by first|exact Le.refl _|assumption|(repeat (first|assumption|(apply Le.trans;assumption)))));exact encF82_len;exact encF82_one;intro v1;exact QR;omega;exact rfl;intro A2 c2;refine ⟨Le.refl _,QN,?_⟩)))|(apply GP_done;kernel_rfl;exact rfl)|(apply GO_cond;exact rfl;all_goals (intro hc;try simp only [hcS,reduceCtorEq] at hc;try (exfalso;omega))))
          all_goals (try (exfalso;omega))
          all_goals
            have h3:=ih (i + 1,m + 1,o ++ [y],A2,c2,hz2) ⟨by dsimp only;omega,by simp [hm],by dsimp only;omega,by dsimp only;exact hle.trans (by first|exact Le.refl _|assumption|(repeat (first|assumption|(apply Le.trans;assumption)))),e1⟩ (by dsimp only;omega)
            dsimp only at h3
            refine GO_fit QS QT (h3)
        · have e1 : o = recL (l.take (i + 1)) day:=by rw [et,recL_snoc,← ho];simp [recL,hP]
          repeat' (first|apply GO_seq|apply GO_skip|apply GO_inBlock|apply GO_block|apply GO_region|apply GOl_nil|(apply GOl_add;(iterate 3 exact rfl);omega;exact rfl;exact rfl)|(apply GOl_pv;(iterate 3 exact rfl))|(apply GOl_load;exact rfl;exact Ld_blk rfl QM rfl;exact rfl;exact rfl)|(apply GOl_ov;exact rfl;exact rfl;(first|(apply OV_idxS (j:=i);(iterate 5 exact rfl);exact a1;(with_reducible exact rfl);omega)|(apply OV_load;exact rfl;first|exact Lv_ro rfl (by assumption) rfl|exact Lv_roF rfl (by assumption) rfl|exact Lv_roF2 rfl (by assumption) rfl|exact Lv_roF3 rfl (by assumption) rfl));exact QA)|(apply GO_cond;exact rfl;all_goals (intro hc;try simp only [hcS,reduceCtorEq] at hc;try (exfalso;omega))))
          all_goals (try (exfalso;omega))
          all_goals
            have h3:=ih (i + 1,m,o,A4,c4,hh) ⟨by dsimp only;omega,hm,by dsimp only;omega,by dsimp only;exact hle,e1⟩ (by dsimp only;omega)
            dsimp only at h3
            refine GO_fit QS QT (h3)
      · rw [List.take_of_length_le (by omega)] at ho
        clear ih
        refine GO_relC (enc:=encF82) (e:=73) (sz:=82) (n:=m) (xs:=o) encF82_len hm QK ?_
        intro A9 c9 h9 hle9 e9 hnc9 hs9
        injection e9 with e91 _ e93
        subst e91;subst e93
        have hl9 : Le h h9:=hle.trans hle9
        have hout : LedOut h9 (ledV A4 m c4) (knownL (fcs l) day):=⟨A4,m,c4,o,rfl,hnc9,⟨hs9,fun p hp => (hg p (recL_sub l day p (ho ▸ hp)).1).le hl9,by omega⟩,by rw [ho];exact recL_fcs l day⟩
        repeat' (first|apply GO_seq|apply GO_region|apply GOl_nil|(apply GO_exit;exact rfl)|(apply GOl_pv;(iterate 3 exact rfl))|(apply GOl_load;exact rfl;exact Ld_blk rfl QM rfl;exact rfl;exact rfl)|(apply GOl_to;(iterate 3 exact rfl);(first|(apply OpTo_store;(iterate 3 exact rfl);exact QR;(iterate 3 exact rfl);skip)))|(apply GO_cond;exact rfl;all_goals (intro hc;try simp only [hcS,reduceCtorEq] at hc;try (exfalso;omega))))
        all_goals first
          | (exfalso;omega)
          | (exact GO_retRC2 rfl rfl rfl QM rfl rfl rfl ⟨_,rfl,hout⟩)
    · have hkn : knownE (fcs l) day = ([],1):=by unfold knownE;rw [if_neg (by rw [← he];omega),if_pos h1]
      rw [hkn]
      rw [decide_eq_false h1] at hdv
      clear he
      repeat' (first|apply GO_seq|apply GO_skip|apply GO_region|apply GOl_nil|(apply GOl_pv;(iterate 3 exact rfl))|(apply GOl_load;exact rfl;exact Ld_blk rfl QM rfl;exact rfl;exact rfl)|(apply GOl_to;(iterate 3 exact rfl);(first|(apply OpTo_store;(iterate 3 exact rfl);exact QR;(iterate 3 exact rfl);skip)|(apply OpTo_box;exact rfl;intro b;skip)|(apply OpTo_alloc;exact rfl;intro b;skip)|(apply OpTo_res;exact rfl;exact has36;exact hck _ (by first|exact Le.refl _|assumption|(repeat (first|assumption|(apply Le.trans;assumption))));rintro v1 h3 hle1 rfl;skip)|(apply OpTo_val;exact rfl;exact has86;exact hdv _;skip)))|(apply GO_cond;exact rfl;all_goals (intro hc;try simp only [hcS,reduceCtorEq] at hc;try (exfalso;omega))))
      all_goals first
        | (exfalso;omega)
        | (exact GO_retRC2 rfl rfl rfl QM rfl rfl rfl ⟨ledV none 0 0,rfl,LedOut.nil _⟩)
  · have hkn : knownE (fcs l) day = ([],e):=by unfold knownE;rw [if_pos (by rw [← he];exact h0),he]
    rw [hkn]
    clear he
    repeat' (first|apply GO_seq|apply GO_region|apply GOl_nil|(apply GOl_pv;(iterate 3 exact rfl))|(apply GOl_load;exact rfl;exact Ld_blk rfl QM rfl;exact rfl;exact rfl)|(apply GOl_to;(iterate 3 exact rfl);(first|(apply OpTo_store;(iterate 3 exact rfl);exact QR;(iterate 3 exact rfl);skip)|(apply OpTo_box;exact rfl;intro b;skip)|(apply OpTo_alloc;exact rfl;intro b;skip)|(apply OpTo_res;exact rfl;exact has36;exact hck _ (by first|exact Le.refl _|assumption|(repeat (first|assumption|(apply Le.trans;assumption))));rintro v1 h3 hle1 rfl;skip)))|(apply GO_cond;exact rfl;all_goals (intro hc;try simp only [hcS,reduceCtorEq] at hc;try (exfalso;omega))))
    all_goals first
      | (exfalso;omega)
      | (exact GO_retRC2 rfl rfl rfl QM rfl rfl rfl ⟨ledV none 0 0,rfl,LedOut.nil _⟩)
open Classical in
theorem missingR_c (h : Ro) (A : Option Addr) (n c : Nat) (l : List (Fsh × Fct)) (hx : FactsAt h A n l) (B : Option Addr) (m d : Nat) (r : List (Fsh × Fct)) (hy : FactsAt h B m r) : Res Tryz.prog 50 #[ledV A n c,ledV B m d] h (fun u h' => ∃ A' k c',u = .tuple #[.slice A' k c',.int .i64 (missE (fcs l) (fcs r)).2] ∧ SlOf voidC 32 h' A' k (missE (fcs l) (fcs r)).1 ∧ k ≤ 1000000):=by
  refine Res_intro (args:=[_,_]) ts_ok Go.Proofs.Tryz.func50 rfl rfl fun w0 X0 => ?_
  obtain ⟨e,he⟩ : ∃ e,e = ledE (fcs l):=⟨_,rfl⟩
  obtain ⟨e2,he2⟩ : ∃ e2,e2 = ledE (fcs r):=⟨_,rfl⟩
  have hck:=fun h' (hl : Le h h') => checkLR_e (c:=c) h' (hx.le hl) he.symm
  have hcm:=fun h' (hl : Le h h') => checkLR_e (c:=d) h' (hy.le hl) he2.symm
  have hlen:=hx.row.len
  have hlem:=hy.row.len
  have hm1:=hy.small
  by_cases h0 : e = 0
  · by_cases h1 : e2 = 0
    · have hms : missE (fcs l) (fcs r) = ((missL (fcs l) (fcs r)).map idF,0):=by unfold missE;rw [if_neg (by rw [← he];omega),if_neg (by rw [← he2];omega)]
      rw [hms]
      have hok:=ledE_zero.1 (he ▸ h0)
      have hok2:=ledE_zero.1 (he2 ▸ h1)
      have hg2 : ∀ p ∈ r,FGd h p:=fun p hp => ⟨(hy.fat p hp).1,(hy.fat p hp).2,hok2.2.1 _ (List.mem_map.2 ⟨p,hp,rfl⟩)⟩
      have hxl : LedAt h A n l:=ledE_led hx (he ▸ h0)
      clear he he2
      subst h0 h1
      repeat' (first|apply GO_seq|apply GO_region|apply GOl_nil|(apply GOl_pv;(iterate 3 exact rfl))|(apply GOl_load;exact rfl;exact Ld_blk rfl QM rfl;exact rfl;exact rfl)|(apply GOl_to;(iterate 3 exact rfl);(first|(apply OpTo_box;exact rfl;intro b;skip))))
      rename_i b2
      generalize b = b3
      repeat' (first|apply GO_seq|apply GO_skip|apply GO_block|apply GO_region|apply GOl_nil|(apply GOl_pv;(iterate 3 exact rfl))|(apply GOl_load;exact rfl;exact Ld_blk rfl QM rfl;exact rfl;exact rfl)|(apply GOl_to;(iterate 3 exact rfl);(first|(apply OpTo_res;exact rfl;exact has36;(first|exact hck _ (by first|exact Le.refl _|assumption|(repeat (first|assumption|(apply Le.trans;assumption))))|exact hcm _ (by first|exact Le.refl _|assumption|(repeat (first|assumption|(apply Le.trans;assumption)))));rintro v1 h3 hle1 rfl;skip)|(apply OpTo_buildSliceO (n:=0);(iterate 3 exact rfl);exact List.cons_ne_nil _ _;(iterate 6 exact rfl);intro b8;skip)))|(apply GO_cond;exact rfl;all_goals (intro hc;try simp only [hcS,reduceCtorEq] at hc;try (exfalso;omega))))
      all_goals (try (exfalso;omega))
      refine GO_loopT (X:=Nat × Nat × List Fct × Option Addr × Nat × Ro) (fun x => x.1 ≤ m ∧ x.2.2.1.length = x.2.1 ∧ x.2.1 ≤ x.1 ∧ Le h x.2.2.2.2.2 ∧ x.2.2.1 = missL (fcs l) (fcs (r.take x.1))) (fun x => m - x.1)
        (fun x => [(9,.int .i64 x.1),(8,.slice x.2.2.2.1 x.2.1 x.2.2.2.2.1),(3,.pointer (some ⟨b3,0,none⟩)),(2,.pointer (some ⟨b2,0,none⟩))])
        (fun x => [OwnS 71 32 (.slice x.2.2.2.1 x.2.1 x.2.2.2.2.1) x.2.1 ((x.2.2.1.map idF).flatMap voidC),Blk b3 47 [.slice B m d],Blk b2 47 [.slice A n c]]) (fun x => x.2.2.2.2.2) (0,0,[],some ⟨b8,0,none⟩,0,h3) ⟨by dsimp only;omega,rfl,by dsimp only;omega,(by first|exact Le.refl _|assumption|(repeat (first|assumption|(apply Le.trans;assumption)))),rfl⟩ QS QT rfl ?_
      rintro ⟨i,k,o,A4,c4,hh⟩ ⟨hi,hm,hmi,hle,ho⟩ ih
      dsimp only at hi hm hmi hle ho ih ⊢
      by_cases hin : i < m
      · have a1:=hy.row.addrD hin
        have cc : CellsAt hh ((addrD B).add (i * ty73.size)) (encF82 (r.getD i p0)):=(hy.row.cellsD p0 hin).le hle
        have et:=take7 p0 hlem hin
        have hgy:=hg2 _ (mem7 p0 (show i < r.length by omega))
        generalize r.getD i p0 = y at *
        have hto : fcs (r.take (i + 1)) = fcs (r.take i) ++ [y.2]:=by rw [et];unfold fcs;rw [List.map_append];rfl
        by_cases hP : y.2 ∈ fcs l
        · have e1 : o = missL (fcs l) (fcs (r.take (i + 1))):=by rw [hto,missL_snoc,← ho,missL_one,if_pos hP,List.append_nil]
          repeat' (first|apply GO_seq|apply GO_skip|apply GO_inBlock|apply GO_block|apply GO_region|apply GOl_nil|(apply GOl_add;(iterate 3 exact rfl);omega;exact rfl;exact rfl)|(apply GOl_pv;(iterate 3 exact rfl))|(apply GOl_load;exact rfl;exact Ld_blk rfl QM rfl;exact rfl;exact rfl)|(apply GO_drawp (n:=11) [0,1,2,3,4,5,6,7,8] [(0,0),(1,0),(2,0),(3,0),(4,0),(5,0),(6,0),(7,1),(8,0)];kernel_rfl)|(apply GP_pv;exact rfl;kernel_rfl;(iterate 3 exact rfl))|(apply GP_loadB;exact rfl;kernel_rfl;(iterate 3 exact rfl);exact QM;exact rfl;exact rfl)|(apply GP_ov;exact rfl;kernel_rfl;exact rfl;exact rfl;(first|(apply OV_idxS (j:=i);(iterate 5 exact rfl);exact a1;(with_reducible exact rfl);omega)|(apply OV_load;exact rfl;apply Lv_ro;exact rfl;(with_reducible exact (cc.le (by first|exact Le.refl _|assumption|(repeat (first|assumption|(apply Le.trans;assumption))))));exact rfl));exact QA)|(apply GP_real;exact rfl;kernel_rfl;(iterate 3 exact rfl);(first|(apply OpTo_res;exact rfl;exact has89;exact hasR_c _ A n c l (hxl.le (by first|exact Le.refl _|assumption|(repeat (first|assumption|(apply Le.trans;assumption))))) y (hgy.le (by first|exact Le.refl _|assumption|(repeat (first|assumption|(apply Le.trans;assumption)))));rintro v4 h4 hle4 ⟨b4,rfl,hb4⟩;have hb5:=hb4.2 hP;subst hb5;refine ⟨hle4,QN,?_⟩)))|(apply GP_done;kernel_rfl;exact rfl)|(apply GO_cond;exact rfl;all_goals (intro hc;try simp only [hcS,reduceCtorEq] at hc;try (exfalso;omega))))
          all_goals (try (exfalso;omega))
          all_goals
            have h3:=ih (i + 1,k,o,A4,c4,h4) ⟨by dsimp only;omega,hm,by dsimp only;omega,by dsimp only;exact hle.trans (by first|exact Le.refl _|assumption|(repeat (first|assumption|(apply Le.trans;assumption)))),e1⟩ (by dsimp only;omega)
            dsimp only at h3
            refine GO_fit QS QT (h3)
        · have e1 : o ++ [y.2] = missL (fcs l) (fcs (r.take (i + 1))):=by rw [hto,missL_snoc,← ho,missL_one,if_neg hP]
          have hid:=fun h' (hl : Le h h') => idR_c h' y.1 y.2 (hgy.le hl).1 hgy.2.1 hgy.2.2
          rw [digV_eq (idF_len _)] at hid
          repeat' (first|apply GO_seq|apply GO_skip|apply GO_inBlock|apply GO_block|apply GO_region|apply GOl_nil|(apply GOl_add;(iterate 3 exact rfl);omega;exact rfl;exact rfl)|(apply GOl_pv;(iterate 3 exact rfl))|(apply GOl_load;exact rfl;exact Ld_blk rfl QM rfl;exact rfl;exact rfl)|(apply GOl_ov;exact rfl;exact rfl;(first|(apply OV_idxS (j:=i);(iterate 5 exact rfl);exact a1;(with_reducible exact rfl);omega)|(apply OV_load;exact rfl;apply Lv_ro;exact rfl;(with_reducible exact (cc.le (by first|exact Le.refl _|assumption|(repeat (first|assumption|(apply Le.trans;assumption))))));exact rfl));exact QA)|(apply GOl_to;(iterate 3 exact rfl);(first|(apply OpTo_store;(iterate 3 exact rfl);exact QR;(iterate 3 exact rfl);skip)|(apply OpTo_alloc;exact rfl;intro b;skip)|(apply OpTo_res;exact rfl;exact has90;exact hid _ (by first|exact Le.refl _|assumption|(repeat (first|assumption|(apply Le.trans;assumption))));rintro vi hi1 hle2 rfl;skip)|(apply OpTo_buildSliceS (enc:=voidC) (n:=1) [idF y.2];(iterate 3 exact rfl);exact List.cons_ne_nil _ _;(iterate 4 exact rfl);exact voidC_len;exact rfl;exact rfl;intro b5 h5 hle5 hs5;skip)|(apply OpTo_appendS (enc:=voidC) (n:=k) (xs:=o.map idF);(iterate 7 exact rfl);exact (hs5.le (by first|exact Le.refl _|assumption|(repeat (first|assumption|(apply Le.trans;assumption)))));exact voidC_len;exact voidC_one;intro v1;exact QR;omega;exact rfl;intro A2 c2;skip)))|(apply GO_drawp (n:=11) [0,1,2,3,4,5,6,7,8] [(0,0),(1,0),(2,0),(3,0),(4,0),(5,0),(6,0),(7,1),(8,0)];kernel_rfl)|(apply GP_pv;exact rfl;kernel_rfl;(iterate 3 exact rfl))|(apply GP_loadB;exact rfl;kernel_rfl;(iterate 3 exact rfl);exact QM;exact rfl;exact rfl)|(apply GP_ov;exact rfl;kernel_rfl;exact rfl;exact rfl;(first|(apply OV_idxS (j:=i);(iterate 5 exact rfl);exact a1;(with_reducible exact rfl);omega)|(apply OV_load;exact rfl;apply Lv_ro;exact rfl;(with_reducible exact (cc.le (by first|exact Le.refl _|assumption|(repeat (first|assumption|(apply Le.trans;assumption))))));exact rfl));exact QA)|(apply GP_real;exact rfl;kernel_rfl;(iterate 3 exact rfl);(first|(apply OpTo_res;exact rfl;exact has89;exact hasR_c _ A n c l (hxl.le (by first|exact Le.refl _|assumption|(repeat (first|assumption|(apply Le.trans;assumption))))) y (hgy.le (by first|exact Le.refl _|assumption|(repeat (first|assumption|(apply Le.trans;assumption)))));rintro v4 h4 hle4 ⟨b4,rfl,hb4⟩;(have hb5 : b4 = false:=Bool.eq_false_iff.2 fun q => hP (hb4.1 q));subst hb5;refine ⟨hle4,QN,?_⟩)))|(apply GP_done;kernel_rfl;exact rfl)|(apply GO_cond;exact rfl;all_goals (intro hc;try simp only [hcS,reduceCtorEq] at hc;try (exfalso;omega))))
          all_goals (try (exfalso;omega))
          all_goals
            have h3:=ih (i + 1,k + 1,o ++ [y.2],A2,c2,h5) ⟨by dsimp only;omega,by simp [hm],by dsimp only;omega,by dsimp only;exact hle.trans (by first|exact Le.refl _|assumption|(repeat (first|assumption|(apply Le.trans;assumption)))),e1⟩ (by dsimp only;omega)
            simp only [List.map_append,List.map_cons,List.map_nil] at h3
            refine GO_fit QS QT (h3)
      · rw [List.take_of_length_le (by omega)] at ho
        clear ih
        repeat' (first|apply GO_seq|apply GO_region|apply GOl_nil|(apply GO_exit;exact rfl)|(apply GOl_pv;(iterate 3 exact rfl))|(apply GOl_load;exact rfl;exact Ld_blk rfl QM rfl;exact rfl;exact rfl)|(apply GO_cond;exact rfl;all_goals (intro hc;try simp only [hcS,reduceCtorEq] at hc;try (exfalso;omega))))
        all_goals (try (exfalso;omega))
        all_goals
          refine GO_relS (enc:=voidC) (e:=71) (sz:=32) (n:=k) (xs:=o.map idF) voidC_len (by rw [List.length_map,hm]) QK ?_
          intro A8 c8 h8 hle8 e8 hs8
          injection e8 with e81 _ e83
          subst e81;subst e83
          exact GO_retR2 rfl rfl rfl rfl ⟨A4,k,c4,rfl,by rw [← ho];exact hs8,by omega⟩
    · have hmg : missE (fcs l) (fcs r) = ([],e2):=by unfold missE;rw [if_neg (by rw [← he];omega),if_pos (by rw [← he2];exact h1),he2]
      rw [hmg]
      clear he he2
      repeat' (first|apply GO_seq|apply GO_skip|apply GO_region|apply GOl_nil|(apply GOl_pv;(iterate 3 exact rfl))|(apply GOl_load;exact rfl;exact Ld_blk rfl QM rfl;exact rfl;exact rfl)|(apply GOl_to;(iterate 3 exact rfl);(first|(apply OpTo_box;exact rfl;intro b;skip)|(apply OpTo_res;exact rfl;exact has36;(first|exact hck _ (by first|exact Le.refl _|assumption|(repeat (first|assumption|(apply Le.trans;assumption))))|exact hcm _ (by first|exact Le.refl _|assumption|(repeat (first|assumption|(apply Le.trans;assumption)))));rintro v1 h3 hle1 rfl;skip)))|(apply GO_cond;exact rfl;all_goals (intro hc;try simp only [hcS,reduceCtorEq] at hc;try (exfalso;omega))))
      all_goals first
        | (exfalso;omega)
        | (exact GO_retR2 rfl rfl rfl rfl ⟨none,0,0,rfl,SlOf.nil,by omega⟩)
  · have hmg : missE (fcs l) (fcs r) = ([],e):=by unfold missE;rw [if_pos (by rw [← he];exact h0),he]
    rw [hmg]
    clear he he2
    repeat' (first|apply GO_seq|apply GO_region|apply GOl_nil|(apply GOl_pv;(iterate 3 exact rfl))|(apply GOl_load;exact rfl;exact Ld_blk rfl QM rfl;exact rfl;exact rfl)|(apply GOl_to;(iterate 3 exact rfl);(first|(apply OpTo_box;exact rfl;intro b;skip)|(apply OpTo_res;exact rfl;exact has36;(first|exact hck _ (by first|exact Le.refl _|assumption|(repeat (first|assumption|(apply Le.trans;assumption))))|exact hcm _ (by first|exact Le.refl _|assumption|(repeat (first|assumption|(apply Le.trans;assumption)))));rintro v1 h3 hle1 rfl;skip)))|(apply GO_cond;exact rfl;all_goals (intro hc;try simp only [hcS,reduceCtorEq] at hc;try (exfalso;omega))))
    all_goals first
      | (exfalso;omega)
      | (exact GO_retR2 rfl rfl rfl rfl ⟨none,0,0,rfl,SlOf.nil,by omega⟩)
end Go.Hw

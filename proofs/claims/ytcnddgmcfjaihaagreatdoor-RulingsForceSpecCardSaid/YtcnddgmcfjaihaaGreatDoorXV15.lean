import Derived.Test.YtcnddgmcfjaihaaGreatDoorXV14
set_option linter.unusedVariables false
set_option linter.unusedSimpArgs false
set_option maxRecDepth 100000
set_option maxHeartbeats 8000000
namespace Go.Hw
open Go
attribute [local irreducible] GO GOl GDp Val Fn Res CellsAt ValE Blk OwnS MapA OwnPf Has Yl SepA forceL idF voidL
open Go.Proofs (Tryz.prog)
theorem LedIn.facts16 {h : Ro} {A : Option Addr} {n c : Nat} {l : List (Fsh × Fct)} (a : LedIn h A n c l) (hn : (n : Int) ≤ 16) : FactsAt h A n l:=⟨a.row,a.fat,by omega⟩
def banD (cl day : Int) (r : FRul) : Bool:=decide (r.kind = 5 ∧ r.club = cl ∧ r.lo ≤ day ∧ day ≤ r.hi)
theorem banD_any (cl day : Int) : ∀ rl : List FRul,rl.any (banD cl day) = inAny day (banQ cl rl)
  | [] => rfl
  | r :: rl => by
    have ih:=banD_any cl day rl
    unfold banQ inAny at *
    rw [List.any_cons,ih,List.filter_cons]
    by_cases h : r.kind = 5 ∧ r.club = cl
    · rw [decide_eq_true h]
      simp only [if_true,List.map_cons,List.any_cons]
      congr 1
      unfold banD
      rw [decide_eq_decide]
      exact ⟨fun q => q.2.2,fun q => ⟨h.1,h.2,q⟩⟩
    · rw [decide_eq_false h]
      simp only [Bool.false_eq_true,if_false]
      have : banD cl day r = false:=by unfold banD;rw [decide_eq_false_iff_not];exact fun q => h ⟨q.1,q.2.1⟩
      rw [this,Bool.false_or]
open Classical in
theorem add10_law (h : Ro) (hG : PowG h) (A : Option Addr) (n c : Nat) (l : List (Fsh × Fct)) (hx : LedIn h A n c l) (s co cl day : Int) : Res Tryz.prog 9 #[.slice A n c,.int .i64 s,.int .i64 co,.int .i64 cl,.int .i64 day] h (fun u _ => u = .bool true):=by
  refine Res_intro (args:=[_,_,_,_,_]) ts_ok Go.Proofs.Tryz.func9 rfl rfl fun w0 X0 => ?_
  have hfew:=few10_c h A n c l hx.row hx.small
  have hsane:=sane10_c h hG
  by_cases hF : (∀ p ∈ l,SmallS p.1 p.2) ∧ (n : Int) ≤ 16
  · rw [decide_eq_true hF] at hfew
    have hfa:=hx.facts16 hF.2
    have hok : ∀ f ∈ canonL (fcs l),FctOk f:=fun f hf => (((canonL_spec (fcs l) (fun f hf => by
      obtain ⟨p,hp,rfl⟩:=List.mem_map.1 hf
      exact (hx.fat p hp).1.void)).2 f).1 hf).2
    have hpt:=force_pts hok
    have hbn:=force_ban hok
    have hpe : pointsL (canonL (fcs l)) s co cl = sumQ s co cl ((forceL (canonL (fcs l))).map (·.ru)):=by unfold pointsL;rw [sumQ_map]
    have hbe : bansL (canonL (fcs l)) cl = unionR (banQ cl ((forceL (canonL (fcs l))).map (·.ru))):=by unfold bansL;rw [banQ_map]
    have hfi:=fun h' (hl : Le h h') => InForce_c h' (hG.le hl) A n c l (hfa.le hl)
    have hpo:=fun h' (hl : Le h h') => Points_c h' (hG.le hl) A n c l (hfa.le hl) s co cl
    have hba:=fun h' (hl : Le h h') => Bans_c h' (hG.le hl) A n c l (hfa.le hl) cl
    rw [hpe] at hpo
    rw [hbe] at hba
    obtain ⟨L,hL⟩ : ∃ L,L = (forceL (canonL (fcs l))).map (·.ru):=⟨_,rfl⟩
    rw [← hL] at hfi hbn hpt hpo hba
    have hin : inAny day (unionR (banQ cl L)) = inAny day (banQ cl L):=union_any (fun i hi => (banQ_ok hbn i hi).2.1) day
    clear hok hpe hbe hF hfa hx
    repeat' (first|apply GO_seq|apply GO_skip|apply GO_block|apply GO_region|apply GOl_nil|(apply GOl_pv;(iterate 3 exact rfl))|(apply GOl_to;(iterate 3 exact rfl);(first|(apply OpTo_val;exact rfl;exact has10;exact hsane;skip)|(apply OpTo_val;exact rfl;exact has11;exact hfew;skip)|(apply OpTo_res;exact rfl;exact has17;exact hfi _ (by first|exact Le.refl _|assumption|(repeat (first|assumption|(apply Le.trans;assumption))));rintro w1 h1 hle1 ⟨A3,c3,rl,rfl,hsl,rfl,hn3⟩;skip)))|(apply GO_cond;exact rfl;all_goals (intro hc;try simp only [hcS,reduceCtorEq] at hc;try (exfalso;omega))))
    all_goals (try (exfalso;(first|omega|(simp at hc;done))))
    refine GO_loopT (X:=Nat × Bool) (fun x => x.1 ≤ rl.length ∧ x.2 = (rl.take x.1).any (banD cl day)) (fun x => rl.length - x.1)
      (fun x => [(23,.int .i64 x.1),(22,.int .i64 rl.length),(21,.slice A3 rl.length c3),(11,.int .i64 (sumQ s co cl (rl.take x.1))),(12,.bool x.2),(0,.slice A n c),(1,.int .i64 s),(2,.int .i64 co),(3,.int .i64 cl),(4,.int .i64 day)])
      (fun _ => []) (fun _ => h1) (0,false) ⟨by dsimp only;omega,rfl⟩ QS QT rfl ?_
    rintro ⟨k,bn⟩ ⟨hk,hbk⟩ ih
    dsimp only at hk hbk ih ⊢
    have hb:=sumQ_bd (s:=s) (c:=co) (k:=cl) hpt k hk
    by_cases hkn : k < rl.length
    · have a1:=hsl.addrD hkn
      have c1:=hsl.cellsD rul0 hkn
      have et:=take7 rul0 (xs:=rl) rfl hkn
      have hme:=hpt _ (getD_mem rul0 hkn)
      generalize rl.getD k rul0 = r at *
      have hsn:=sumQ_snoc s co cl (rl.take k) r
      rw [← et] at hsn
      have hbs : (rl.take (k + 1)).any (banD cl day) = (bn || banD cl day r):=by rw [et,List.any_append,← hbk];simp
      generalize sumQ s co cl (rl.take k) = q at *
      have hkind : r.kind = 4 → banD cl day r = false:=fun e => by unfold banD;rw [decide_eq_false_iff_not];intro w;have:=w.1;omega
      by_cases hp : PtsOf s co cl r
      · rw [if_pos hp] at hsn
        rw [hkind hp.1,Bool.or_false] at hbs
        have h3:=ih (k + 1,bn) ⟨by dsimp only;omega,hbs.symm⟩ (by dsimp only;omega)
        dsimp only at h3
        obtain ⟨p1,p2,p3,p4⟩:=hp
        have hme2:=hme p1
        rw [hsn] at h3
        cases bn
        all_goals
          repeat' (first|apply GO_seq|apply GO_skip|apply GO_inBlock|apply GO_block|apply GO_region|apply GOl_nil|(apply GOl_unwanted;exact rfl;exact rfl)|(apply GOl_add;(iterate 3 exact rfl);omega;exact rfl;exact rfl)|(apply GOl_pv;(iterate 3 exact rfl))|(apply GOl_load;exact rfl;exact Ld_blk rfl QM rfl;exact rfl;exact rfl)|(apply GOl_ov;exact rfl;exact rfl;(first|(apply OV_idxS (j:=k);(iterate 5 exact rfl);exact a1;(with_reducible exact rfl);omega)|(apply OV_load;exact rfl;exact Lv_ro rfl c1 rfl));exact QA)|(apply GOl_to;(iterate 3 exact rfl);(first|(apply OpTo_store;(iterate 3 exact rfl);exact QR;(iterate 3 exact rfl);skip)|(apply OpTo_alloc;exact rfl;intro b;skip)))|(apply GO_cond;exact rfl;all_goals (intro hc;try simp only [hcS,reduceCtorEq] at hc;try (exfalso;omega)))|(apply GOl_split;exact rfl;exact rfl;all_goals (intro hc;try simp only [hcS,reduceCtorEq] at hc;try (exfalso;omega))))
          all_goals first
            | (exfalso;omega)
            | contradiction
            | (refine GO_fit QS QT (h3))
      · rw [if_neg hp] at hsn
        have hp2 : ¬ (r.kind = 4 ∧ r.season = s ∧ r.comp = co ∧ r.club = cl):=hp
        cases bn with
        | true =>
          rw [Bool.true_or] at hbs
          have h3:=ih (k + 1,true) ⟨by dsimp only;omega,hbs.symm⟩ (by dsimp only;omega)
          dsimp only at h3
          rw [hsn] at h3
          repeat' (first|apply GO_seq|apply GO_skip|apply GO_inBlock|apply GO_block|apply GO_region|apply GOl_nil|(apply GOl_unwanted;exact rfl;exact rfl)|(apply GOl_add;(iterate 3 exact rfl);omega;exact rfl;exact rfl)|(apply GOl_pv;(iterate 3 exact rfl))|(apply GOl_load;exact rfl;exact Ld_blk rfl QM rfl;exact rfl;exact rfl)|(apply GOl_ov;exact rfl;exact rfl;(first|(apply OV_idxS (j:=k);(iterate 5 exact rfl);exact a1;(with_reducible exact rfl);omega)|(apply OV_load;exact rfl;exact Lv_ro rfl c1 rfl));exact QA)|(apply GOl_to;(iterate 3 exact rfl);(first|(apply OpTo_store;(iterate 3 exact rfl);exact QR;(iterate 3 exact rfl);skip)|(apply OpTo_alloc;exact rfl;intro b;skip)))|(apply GO_cond;exact rfl;all_goals (intro hc;try simp only [hcS,reduceCtorEq] at hc;try (exfalso;omega)))|(apply GOl_split;exact rfl;exact rfl;all_goals (intro hc;try simp only [hcS,reduceCtorEq] at hc;try (exfalso;omega))))
          all_goals first
            | (exfalso;omega)
            | (exfalso;exact hp2 ⟨by assumption,by assumption,by assumption,by assumption⟩)
            | (refine GO_fit QS QT (h3))
        | false =>
          rw [Bool.false_or] at hbs
          by_cases hd : r.kind = 5 ∧ r.club = cl ∧ r.lo ≤ day
          · have hbe : banD cl day r = leI day r.hi:=by
              unfold banD
              rw [leI_eq,decide_eq_decide]
              exact ⟨fun q => q.2.2.2,fun q => ⟨hd.1,hd.2.1,hd.2.2,q⟩⟩
            have h3:=ih (k + 1,leI day r.hi) ⟨by dsimp only;omega,by dsimp only;rw [hbs,hbe]⟩ (by dsimp only;omega)
            dsimp only at h3
            rw [hsn] at h3
            obtain ⟨d1,d2,d3⟩:=hd
            repeat' (first|apply GO_seq|apply GO_skip|apply GO_inBlock|apply GO_block|apply GO_region|apply GOl_nil|(apply GOl_unwanted;exact rfl;exact rfl)|(apply GOl_add;(iterate 3 exact rfl);omega;exact rfl;exact rfl)|(apply GOl_pv;(iterate 3 exact rfl))|(apply GOl_load;exact rfl;exact Ld_blk rfl QM rfl;exact rfl;exact rfl)|(apply GOl_ov;exact rfl;exact rfl;(first|(apply OV_idxS (j:=k);(iterate 5 exact rfl);exact a1;(with_reducible exact rfl);omega)|(apply OV_load;exact rfl;exact Lv_ro rfl c1 rfl));exact QA)|(apply GOl_to;(iterate 3 exact rfl);(first|(apply OpTo_store;(iterate 3 exact rfl);exact QR;(iterate 3 exact rfl);skip)|(apply OpTo_alloc;exact rfl;intro b;skip)))|(apply GO_cond;exact rfl;all_goals (intro hc;try simp only [hcS,reduceCtorEq] at hc;try (exfalso;omega)))|(apply GOl_split;exact rfl;exact rfl;all_goals (intro hc;try simp only [hcS,reduceCtorEq] at hc;try (exfalso;omega))))
            all_goals first
              | (exfalso;omega)
              | contradiction
              | (refine GO_fit QS QT (h3))
          · have hbe : banD cl day r = false:=by
              unfold banD
              rw [decide_eq_false_iff_not]
              exact fun q => hd ⟨q.1,q.2.1,q.2.2.1⟩
            have h3:=ih (k + 1,false) ⟨by dsimp only;omega,by dsimp only;rw [hbs,hbe]⟩ (by dsimp only;omega)
            dsimp only at h3
            rw [hsn] at h3
            repeat' (first|apply GO_seq|apply GO_skip|apply GO_inBlock|apply GO_block|apply GO_region|apply GOl_nil|(apply GOl_unwanted;exact rfl;exact rfl)|(apply GOl_add;(iterate 3 exact rfl);omega;exact rfl;exact rfl)|(apply GOl_pv;(iterate 3 exact rfl))|(apply GOl_load;exact rfl;exact Ld_blk rfl QM rfl;exact rfl;exact rfl)|(apply GOl_ov;exact rfl;exact rfl;(first|(apply OV_idxS (j:=k);(iterate 5 exact rfl);exact a1;(with_reducible exact rfl);omega)|(apply OV_load;exact rfl;exact Lv_ro rfl c1 rfl));exact QA)|(apply GOl_to;(iterate 3 exact rfl);(first|(apply OpTo_store;(iterate 3 exact rfl);exact QR;(iterate 3 exact rfl);skip)|(apply OpTo_alloc;exact rfl;intro b;skip)))|(apply GO_cond;exact rfl;all_goals (intro hc;try simp only [hcS,reduceCtorEq] at hc;try (exfalso;omega)))|(apply GOl_split;exact rfl;exact rfl;all_goals (intro hc;try simp only [hcS,reduceCtorEq] at hc;try (exfalso;omega))))
            all_goals first
              | (exfalso;omega)
              | (exfalso;exact hp2 ⟨by assumption,by assumption,by assumption,by assumption⟩)
              | (exfalso;exact hd ⟨by assumption,by assumption,by assumption⟩)
              | (refine GO_fit QS QT (h3))
    · rw [List.take_of_length_le (by omega)] at hbk hb ⊢
      clear ih
      rw [hbk]
      have hbq : rl.any (banD cl day) = inAny day (banQ cl rl):=banD_any cl day rl
      rw [hbq]
      generalize sumQ s co cl rl = q at *
      repeat' (first|apply GO_seq|apply GO_region|apply GOl_nil|(apply GO_exit;exact rfl)|(apply GOl_pv;(iterate 3 exact rfl))|(apply GOl_to;(iterate 3 exact rfl);(first|(apply OpTo_res;exact rfl;exact has25;exact hpo _ (by first|exact Le.refl _|assumption|(repeat (first|assumption|(apply Le.trans;assumption))));rintro w4 h4 hle4 rfl;skip)|(apply OpTo_res;exact rfl;exact has28;exact hba _ (by first|exact Le.refl _|assumption|(repeat (first|assumption|(apply Le.trans;assumption))));rintro w5 h5 hle5 ⟨A7,c7,ul,rfl,hs7,hul,hun⟩;skip)|(apply OpTo_val;exact rfl;exact has31;exact in_c _ day A7 ul.length c7 ul hs7 (by omega);rw [hul,hin];skip)))|(apply GO_cond;exact rfl;all_goals (intro hc;try simp only [hcS,reduceCtorEq] at hc;try (exfalso;omega)))|(apply GOl_split;exact rfl;exact rfl;all_goals (intro hc;try simp only [hcS,reduceCtorEq] at hc;try (exfalso;omega))))
      all_goals first
        | (exfalso;omega)
        | (exact GO_retR1 rfl rfl rfl (by simp))
        | (exact GO_retR1 rfl rfl rfl (by simp [eqI_eq]))
  · rw [decide_eq_false hF] at hfew
    repeat' (first|apply GO_seq|apply GO_skip|apply GO_region|apply GOl_nil|(apply GOl_pv;(iterate 3 exact rfl))|(apply GOl_to;(iterate 3 exact rfl);(first|(apply OpTo_val;exact rfl;exact has10;exact hsane;skip)|(apply OpTo_val;exact rfl;exact has11;exact hfew;skip)))|(apply GO_cond;exact rfl;all_goals (intro hc;try simp only [hcS,reduceCtorEq] at hc;try (exfalso;omega))))
    all_goals first
      | (exact GO_retR1 rfl rfl rfl rfl)
      | (exfalso;simp at hc;done)
end Go.Hw

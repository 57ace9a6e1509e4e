import Derived.Test.YtajmniiiahhfaaaGreatDoorUR17
import Derived.Test.YtajmniiiahhfaaaGreatDoorED
set_option linter.unusedVariables false
set_option linter.unusedSimpArgs false
set_option maxRecDepth 100000
set_option maxHeartbeats 8000000
namespace Go.Hw
open Go
attribute [local irreducible] GO GOl GDp Val Fn Res CellsAt ValE Blk OwnS MapA OwnPf Has Yl idF
open Go.Proofs (Tryz.prog)
theorem voidBy_not {l : List (Fsh × Fct)} {k : Int} {f : Fct} : (¬ VoidBy idF (fcs l) k f) ↔ ∀ p ∈ l,¬ (p.2.kind = 8 ∧ p.2.known ≤ k ∧ p.2.void = idF f):=by
  constructor
  · intro h p hp q
    exact h ⟨p.2,List.mem_map.2 ⟨p,hp,rfl⟩,q⟩
  · rintro h ⟨v,hv,q⟩
    obtain ⟨p,hp,rfl⟩:=List.mem_map.1 hv
    exact h p hp q
open Classical in
theorem voidedR_c (h : Ro) (A : Option Addr) (n c : Nat) (l : List (Fsh × Fct)) (hx : FactsAt h A n l) (p : Fsh × Fct) (hp : FGd h p) (known : Int) : Res Tryz.prog 87 #[ledV A n c,factV p.1 p.2,.int .i64 known] h (fun u _ => u = .bool (decide (VoidBy idF (fcs l) known p.2))):=by
  refine Res_intro (args:=[_,_,_]) ts_ok Go.Proofs.Tryz.func87 rfl rfl fun w0 X0 => ?_
  have hlen:=hx.row.len
  have hn:=hx.small
  have hid:=fun h' (hl : Le h h') => idR_c h' p.1 p.2 (hp.le hl).1 hp.2.1 hp.2.2
  rw [digV_eq (idF_len _)] at hid
  repeat' (first|apply GO_seq|apply GO_region|apply GOl_nil|(apply GOl_pv;(iterate 3 exact rfl))|(apply GOl_load;exact rfl;exact Ld_blk rfl QM rfl;exact rfl;exact rfl)|(apply GOl_to;(iterate 3 exact rfl);(first|(apply OpTo_box;exact rfl;intro b;skip))))
  rename_i b3
  generalize b = b4
  repeat' (first|apply GO_seq|apply GO_block|apply GO_region|apply GOl_nil|(apply GOl_pv;(iterate 3 exact rfl))|(apply GOl_to;(iterate 3 exact rfl);(first|(apply OpTo_store;(iterate 3 exact rfl);exact QR;(iterate 3 exact rfl);skip)|(apply OpTo_alloc;exact rfl;intro b;skip)|(apply OpTo_res;exact rfl;exact has90;exact hid _ (by first|exact Le.refl _|assumption|(repeat (first|assumption|(apply Le.trans;assumption))));rintro vi h4 hle2 rfl;skip))))
  generalize b = b7
  have hle : Le h h4:=(by first|exact Le.refl _|assumption|(repeat (first|assumption|(apply Le.trans;assumption))))
  refine GO_loopT (X:=Nat) (fun i => i ≤ n ∧ ∀ q ∈ l.take i,¬ (q.2.kind = 8 ∧ q.2.known ≤ known ∧ q.2.void = idF p.2)) (fun i => n - i)
    (fun i => [(9,.int .i64 i),(7,.pointer (some ⟨b7,0,none⟩)),(3,.pointer (some ⟨b3,0,none⟩)),(2,.int .i64 known)])
    (fun _ => [Blk b7 71 (voidC (idF p.2)),Blk b3 47 [.slice A n c]]) (fun _ => h4) 0 ⟨by omega,by simp⟩ QS QT rfl ?_
  rintro i ⟨hi,hI⟩ ih
  by_cases hin : i < n
  · have a1:=hx.row.addrD hin
    have cc : CellsAt h4 ((addrD A).add (i * ty73.size)) (encF82 (l.getD i p0)):=(hx.row.cellsD p0 hin).le hle
    have et:=take7 p0 hlen hin
    have hmem:=mem7 p0 (show i < l.length by omega)
    have hfy:=hx.fat _ hmem
    generalize l.getD i p0 = y at *
    have hve:=void_eq y.2.void (idF p.2) hfy.1.void (idF_len _)
    have hnx : ¬ (y.2.kind = 8 ∧ y.2.known ≤ known ∧ y.2.void = idF p.2) → ∀ q ∈ l.take (i + 1),¬ (q.2.kind = 8 ∧ q.2.known ≤ known ∧ q.2.void = idF p.2):=fun hy q hq => by
      rw [et,List.mem_append,List.mem_singleton] at hq
      rcases hq with hq|rfl
      · exact hI q hq
      · exact hy
    by_cases hP : y.2.kind = 8 ∧ y.2.known ≤ known ∧ y.2.void = idF p.2
    · have hV : decide (VoidBy idF (fcs l) known p.2) = true:=decide_eq_true ⟨y.2,List.mem_map.2 ⟨y,hmem,rfl⟩,hP⟩
      rw [hV]
      obtain ⟨hP1,hP2,hP3⟩:=hP
      rw [decide_eq_true hP3] at hve
      clear hnx
      repeat' (first|apply GO_seq|apply GO_skip|apply GO_block|apply GO_region|apply GOl_nil|(apply GOl_pv;(iterate 3 exact rfl))|(apply GOl_load;exact rfl;exact Ld_blk rfl QM rfl;exact rfl;exact rfl)|(apply GOl_ov;exact rfl;exact rfl;(first|(apply OV_idxS (j:=i);(iterate 5 exact rfl);exact a1;(with_reducible exact rfl);omega)|(apply OV_load;exact rfl;apply Lv_ro;exact rfl;(with_reducible exact cc);exact rfl)|(apply OV_eqlV;exact rfl;exact rfl;exact hve;kernel_rfl;kernel_rfl));exact QA)|(apply GOl_to;(iterate 3 exact rfl);(first|(apply OpTo_store;(iterate 3 exact rfl);exact QR;(iterate 3 exact rfl);skip)|(apply OpTo_alloc;exact rfl;intro b;skip)))|(apply GO_cond;exact rfl;all_goals (intro hc;try simp only [hcS,reduceCtorEq] at hc;try (exfalso;omega)))|(apply GOl_split;exact rfl;exact rfl;all_goals (intro hc;try simp only [hcS,reduceCtorEq] at hc;try (exfalso;omega))))
      all_goals first
        | (exfalso;omega)
        | (exact GO_retR1 rfl rfl rfl rfl)
    · have h3:=ih (i + 1) ⟨by omega,hnx hP⟩ (by omega)
      clear hnx ih
      repeat' (first|apply GO_seq|apply GO_skip|apply GO_inBlock|apply GO_block|apply GO_region|apply GOl_nil|(apply GOl_unwanted;exact rfl;exact rfl)|(apply GOl_add;(iterate 3 exact rfl);omega;exact rfl;exact rfl)|(apply GOl_pv;(iterate 3 exact rfl))|(apply GOl_load;exact rfl;exact Ld_blk rfl QM rfl;exact rfl;exact rfl)|(apply GOl_ov;exact rfl;exact rfl;(first|(apply OV_idxS (j:=i);(iterate 5 exact rfl);exact a1;(with_reducible exact rfl);omega)|(apply OV_load;exact rfl;apply Lv_ro;exact rfl;(with_reducible exact cc);exact rfl)|(apply OV_eqlV;exact rfl;exact rfl;exact hve;kernel_rfl;kernel_rfl));exact QA)|(apply GOl_to;(iterate 3 exact rfl);(first|(apply OpTo_store;(iterate 3 exact rfl);exact QR;(iterate 3 exact rfl);skip)|(apply OpTo_alloc;exact rfl;intro b;skip)))|(apply GO_cond;exact rfl;all_goals (intro hc;try simp only [hcS,reduceCtorEq] at hc;try (exfalso;omega)))|(apply GOl_split;exact rfl;exact rfl;all_goals (intro hc;try simp only [hcS,reduceCtorEq] at hc;try (exfalso;omega))))
      all_goals first
        | (exfalso;omega)
        | (exfalso;refine hP ⟨?_,?_,?_⟩ <;> assumption)
        | (refine GO_fit QS QT (h3))
  · rw [List.take_of_length_le (by omega)] at hI
    have hV : decide (VoidBy idF (fcs l) known p.2) = false:=decide_eq_false (voidBy_not.2 hI)
    rw [hV]
    clear ih
    repeat' (first|apply GO_seq|apply GO_region|apply GOl_nil|(apply GO_exit;exact rfl)|(apply GOl_pv;(iterate 3 exact rfl))|(apply GOl_load;exact rfl;exact Ld_blk rfl QM rfl;exact rfl;exact rfl)|(apply GO_cond;exact rfl;all_goals (intro hc;try simp only [hcS,reduceCtorEq] at hc;try (exfalso;omega))))
    all_goals first
      | (exfalso;omega)
      | (exact GO_retR1 rfl rfl rfl rfl)
theorem viewP_all (l : List (Fsh × Fct)) (d k : Int) : fcs (viewP l d k l) = viewL idF (fcs l) d k:=by
  unfold viewP viewL fcs
  rw [List.filter_map]
  rfl
open Classical in
theorem viewR_c (h : Ro) (A : Option Addr) (n c : Nat) (l : List (Fsh × Fct)) (hx : FactsAt h A n l) (day known : Int) : Res Tryz.prog 45 #[ledV A n c,.int .i64 day,.int .i64 known] h (fun u h' => ∃ A' k c' l',u = .tuple #[.slice A' k c',.int .i64 (viewE (fcs l) day known).2] ∧ k ≤ c' ∧ FactsAt h' A' k l' ∧ fcs l' = (viewE (fcs l) day known).1):=by
  refine Res_intro (args:=[_,_,_]) ts_ok Go.Proofs.Tryz.func45 rfl rfl fun w0 X0 => ?_
  obtain ⟨e,he⟩ : ∃ e,e = ledE (fcs l):=⟨_,rfl⟩
  have hck:=fun h' (hl : Le h h') => checkLR_e (c:=c) h' (hx.le hl) he.symm
  have hlen:=hx.row.len
  have hn:=hx.small
  have hdv:=fun h' => dayR8_c h' day
  have hdk:=fun h' => dayR8_c h' known
  by_cases h0 : e = 0
  · by_cases h1 : (0 ≤ day ∧ day ≤ 1048576) ∧ (0 ≤ known ∧ known ≤ 1048576)
    · have hkn : viewE (fcs l) day known = (viewL idF (fcs l) day known,0):=by unfold viewE;rw [if_neg (by rw [← he];omega),if_neg (by omega)]
      rw [hkn]
      have hok:=ledE_zero.1 (he ▸ h0)
      have hg : ∀ p ∈ l,FGd h p:=fun p hp => ⟨(hx.fat p hp).1,(hx.fat p hp).2,hok.2.1 _ (List.mem_map.2 ⟨p,hp,rfl⟩)⟩
      rw [decide_eq_true h1.1] at hdv
      rw [decide_eq_true h1.2] at hdk
      clear he
      subst h0
      repeat' (first|apply GO_seq|apply GO_region|apply GOl_nil|(apply GOl_pv;(iterate 3 exact rfl))|(apply GOl_load;exact rfl;exact Ld_blk rfl QM rfl;exact rfl;exact rfl)|(apply GOl_to;(iterate 3 exact rfl);(first|(apply OpTo_box;exact rfl;intro b;skip))))
      generalize b = b3
      repeat' (first|apply GO_seq|apply GO_skip|apply GO_block|apply GO_region|apply GOl_nil|(apply GOl_pv;(iterate 3 exact rfl))|(apply GOl_to;(iterate 3 exact rfl);(first|(apply OpTo_res;exact rfl;exact has36;exact hck _ (by first|exact Le.refl _|assumption|(repeat (first|assumption|(apply Le.trans;assumption))));rintro v1 h3 hle1 rfl;skip)|(apply OpTo_val;exact rfl;exact has86;(first|exact hdv _|exact hdk _);skip)|(apply OpTo_buildSliceO (n:=0);(iterate 3 exact rfl);exact List.cons_ne_nil _ _;(iterate 6 exact rfl);intro b8;skip)))|(apply GO_cond;exact rfl;all_goals (intro hc;try simp only [hcS,reduceCtorEq] at hc;try (exfalso;omega))))
      all_goals (try (exfalso;omega))
      refine GO_loopT (X:=Nat × Nat × List (Fsh × Fct) × Option Addr × Nat × Ro) (fun x => x.1 ≤ n ∧ x.2.2.1.length = x.2.1 ∧ x.2.1 ≤ x.1 ∧ Le h x.2.2.2.2.2 ∧ x.2.2.1 = viewP l day known (l.take x.1)) (fun x => n - x.1)
        (fun x => [(10,.int .i64 x.1),(9,.slice x.2.2.2.1 x.2.1 x.2.2.2.2.1),(3,.pointer (some ⟨b3,0,none⟩)),(1,.int .i64 day),(2,.int .i64 known)])
        (fun x => [OwnS 73 82 (.slice x.2.2.2.1 x.2.1 x.2.2.2.2.1) x.2.1 (x.2.2.1.flatMap encF82),Blk b3 47 [.slice A n c]]) (fun x => x.2.2.2.2.2) (0,0,[],some ⟨b8,0,none⟩,0,h3) ⟨by dsimp only;omega,rfl,by dsimp only;omega,(by first|exact Le.refl _|assumption|(repeat (first|assumption|(apply Le.trans;assumption)))),by simp [viewP_0]⟩ QS QT rfl ?_
      rintro ⟨i,m,o,A4,c4,hh⟩ ⟨hi,hm,hmi,hle,ho⟩ ih
      dsimp only at hi hm hmi hle ho ih ⊢
      by_cases hin : i < n
      · have a1:=hx.row.addrD hin
        have cc : CellsAt hh ((addrD A).add (i * ty73.size)) (encF82 (l.getD i p0)):=(hx.row.cellsD p0 hin).le hle
        have et:=take7 p0 hlen hin
        have hgy:=hg _ (mem7 p0 (show i < l.length by omega))
        generalize l.getD i p0 = y at *
        have e0 : viewP l day known (l.take (i + 1)) = o ++ (if InF idF (fcs l) day known y.2 then [y] else []):=by rw [et,viewP_snoc,← ho,viewP_one]
        have hvd:=fun h' (hl : Le h h') => voidedR_c h' A n c l (hx.le hl) y (hgy.le hl) known
        by_cases hP : InF idF (fcs l) day known y.2
        · rw [if_pos hP] at e0
          obtain ⟨hP1,hP2,hP3,hP4⟩:=hP
          rw [decide_eq_false hP4] at hvd
          clear hP4
          repeat' (first|apply GO_seq|apply GO_skip|apply GO_inBlock|apply GO_block|apply GO_region|apply GOl_nil|(apply GOl_add;(iterate 3 exact rfl);omega;exact rfl;exact rfl)|(apply GOl_pv;(iterate 3 exact rfl))|(apply GOl_load;exact rfl;exact Ld_blk rfl QM rfl;exact rfl;exact rfl)|(apply GOl_ov;exact rfl;exact rfl;(first|(apply OV_idxS (j:=i);(iterate 5 exact rfl);exact a1;(with_reducible exact rfl);omega)|(apply OV_load;exact rfl;apply Lv_ro;exact rfl;(with_reducible exact (cc.le (by first|exact Le.refl _|assumption|(repeat (first|assumption|(apply Le.trans;assumption))))));exact rfl));exact QA)|(apply GOl_to;(iterate 3 exact rfl);(first|(apply OpTo_store;(iterate 3 exact rfl);exact QR;(iterate 3 exact rfl);skip)|(apply OpTo_alloc;exact rfl;intro b;skip)|(apply OpTo_res;exact rfl;exact has87;exact hvd _ (hle.trans (by first|exact Le.refl _|assumption|(repeat (first|assumption|(apply Le.trans;assumption)))));rintro vi hi1 hle2 rfl;skip)|(apply OpTo_buildSliceS (enc:=encF82) (n:=1) [y];(iterate 3 exact rfl);exact List.cons_ne_nil _ _;(iterate 4 exact rfl);exact encF82_len;exact rfl;exact rfl;intro bz2 hz2 hlez2 hs2;skip)|(apply OpTo_appendS (enc:=encF82) (n:=m) (xs:=o) (ys:=[y]);(iterate 7 exact rfl);exact (hs2.le (by first|exact Le.refl _|assumption|(repeat (first|assumption|(apply Le.trans;assumption)))));exact encF82_len;exact encF82_one;intro v1;exact QR;omega;exact rfl;intro A2 c2;skip)))|(apply GO_cond;exact rfl;all_goals (intro hc;try simp only [hcS,reduceCtorEq] at hc;try (exfalso;omega)))|(apply GOl_split;exact rfl;exact rfl;all_goals (intro hc;try simp only [hcS,reduceCtorEq] at hc;try (exfalso;omega))))
          all_goals (try (exfalso;omega))
          all_goals first
            | (have h3:=ih (i + 1,m + 1,o ++ [y],A2,c2,hz2) ⟨by dsimp only;omega,by simp [hm],by dsimp only;omega,by dsimp only;exact hle.trans (by first|exact Le.refl _|assumption|(repeat (first|assumption|(apply Le.trans;assumption)))),e0.symm⟩ (by dsimp only;omega)
               dsimp only at h3
               refine GO_fit QS QT (h3))
        · rw [if_neg hP,List.append_nil] at e0
          have hP4 : y.2.known ≤ known → y.2.kind ≠ 8 → y.2.day ≤ day → decide (VoidBy idF (fcs l) known y.2) = true:=fun a b d => by
            refine decide_eq_true (Classical.byContradiction fun q => hP ⟨a,b,d,q⟩)
          generalize decide (VoidBy idF (fcs l) known y.2) = vb at *
          cases vb
          all_goals
            repeat' (first|apply GO_seq|apply GO_skip|apply GO_inBlock|apply GO_block|apply GO_region|apply GOl_nil|(apply GOl_unwanted;exact rfl;exact rfl)|(apply GOl_add;(iterate 3 exact rfl);omega;exact rfl;exact rfl)|(apply GOl_pv;(iterate 3 exact rfl))|(apply GOl_load;exact rfl;exact Ld_blk rfl QM rfl;exact rfl;exact rfl)|(apply GOl_ov;exact rfl;exact rfl;(first|(apply OV_idxS (j:=i);(iterate 5 exact rfl);exact a1;(with_reducible exact rfl);omega)|(apply OV_load;exact rfl;apply Lv_ro;exact rfl;(with_reducible exact (cc.le (by first|exact Le.refl _|assumption|(repeat (first|assumption|(apply Le.trans;assumption))))));exact rfl));exact QA)|(apply GOl_to;(iterate 3 exact rfl);(first|(apply OpTo_store;(iterate 3 exact rfl);exact QR;(iterate 3 exact rfl);skip)|(apply OpTo_alloc;exact rfl;intro b;skip)|(apply OpTo_res;exact rfl;exact has87;exact hvd _ (hle.trans (by first|exact Le.refl _|assumption|(repeat (first|assumption|(apply Le.trans;assumption)))));rintro vi hi1 hle2 rfl;skip)))|(apply GO_cond;exact rfl;all_goals (intro hc;try simp only [hcS,reduceCtorEq] at hc;try (exfalso;omega)))|(apply GOl_split;exact rfl;exact rfl;all_goals (intro hc;try simp only [hcS,reduceCtorEq] at hc;try (exfalso;omega))))
          all_goals (try (exfalso;omega))
          all_goals first
            | (exfalso;have:=hP4 (by omega) (by omega) (by omega);cases this;done)
            | (have h3:=ih (i + 1,m,o,A4,c4,hi1) ⟨by dsimp only;omega,hm,by dsimp only;omega,by dsimp only;exact hle.trans (by first|exact Le.refl _|assumption|(repeat (first|assumption|(apply Le.trans;assumption)))),e0.symm⟩ (by dsimp only;omega)
               dsimp only at h3
               refine GO_fit QS QT (h3))
            | (have h3:=ih (i + 1,m,o,A4,c4,hh) ⟨by dsimp only;omega,hm,by dsimp only;omega,by dsimp only;exact hle,e0.symm⟩ (by dsimp only;omega)
               dsimp only at h3
               refine GO_fit QS QT (h3))
      · rw [List.take_of_length_le (by omega)] at ho
        clear ih
        repeat' (first|apply GO_seq|apply GO_region|apply GOl_nil|(apply GO_exit;exact rfl)|(apply GOl_pv;(iterate 3 exact rfl))|(apply GOl_load;exact rfl;exact Ld_blk rfl QM rfl;exact rfl;exact rfl)|(apply GO_cond;exact rfl;all_goals (intro hc;try simp only [hcS,reduceCtorEq] at hc;try (exfalso;omega))))
        all_goals (try (exfalso;omega))
        all_goals
          refine GO_relC (enc:=encF82) (e:=73) (sz:=82) (n:=m) (xs:=o) encF82_len hm QK ?_
          intro A8 c8 h8 hle8 e8 hnc8 hs8
          injection e8 with e81 _ e83
          subst e81;subst e83
          exact GO_retR2 rfl rfl rfl rfl ⟨A4,m,c4,o,rfl,hnc8,⟨hs8,fun q hq => by
            have hq':=viewP_sub l day known l q (ho ▸ hq)
            exact ⟨(hx.fat q hq').1.le (hle.trans (by first|exact Le.refl _|assumption|(repeat (first|assumption|(apply Le.trans;assumption))))),(hx.fat q hq').2⟩,by omega⟩,by rw [ho];exact viewP_all l day known⟩
    · have hkn : viewE (fcs l) day known = ([],1):=by unfold viewE;rw [if_neg (by rw [← he];omega),if_pos (by omega)]
      rw [hkn]
      clear he
      repeat' (first|apply GO_seq|apply GO_skip|apply GO_region|apply GOl_nil|(apply GOl_unwanted;exact rfl;exact rfl)|(apply GOl_pv;(iterate 3 exact rfl))|(apply GOl_load;exact rfl;exact Ld_blk rfl QM rfl;exact rfl;exact rfl)|(apply GOl_to;(iterate 3 exact rfl);(first|(apply OpTo_box;exact rfl;intro b;skip)|(apply OpTo_res;exact rfl;exact has36;exact hck _ (by first|exact Le.refl _|assumption|(repeat (first|assumption|(apply Le.trans;assumption))));rintro v1 h3 hle1 rfl;skip)|(apply OpTo_val;exact rfl;exact has86;(first|exact hdv _|exact hdk _);skip)))|(apply GO_cond;exact rfl;all_goals (intro hc;try simp only [hcS,reduceCtorEq] at hc;try (exfalso;omega)))|(apply GOl_split;exact rfl;exact rfl;all_goals (intro hc;try simp only [hcS,reduceCtorEq] at hc;try (exfalso;omega))))
      all_goals first
        | (exfalso;omega)
        | (exact GO_retR2 rfl rfl rfl rfl ⟨none,0,0,[],rfl,Nat.le_refl _,⟨SlOf.nil,by simp,by omega⟩,rfl⟩)
        | (exfalso;simp at hc;omega)
  · have hkn : viewE (fcs l) day known = ([],e):=by unfold viewE;rw [if_pos (by rw [← he];exact h0),he]
    rw [hkn]
    clear he
    repeat' (first|apply GO_seq|apply GO_region|apply GOl_nil|(apply GOl_pv;(iterate 3 exact rfl))|(apply GOl_load;exact rfl;exact Ld_blk rfl QM rfl;exact rfl;exact rfl)|(apply GOl_to;(iterate 3 exact rfl);(first|(apply OpTo_box;exact rfl;intro b;skip)|(apply OpTo_res;exact rfl;exact has36;exact hck _ (by first|exact Le.refl _|assumption|(repeat (first|assumption|(apply Le.trans;assumption))));rintro v1 h3 hle1 rfl;skip)))|(apply GO_cond;exact rfl;all_goals (intro hc;try simp only [hcS,reduceCtorEq] at hc;try (exfalso;omega))))
    all_goals first
      | (exfalso;omega)
      | (exact GO_retR2 rfl rfl rfl rfl ⟨none,0,0,[],rfl,Nat.le_refl _,⟨SlOf.nil,by simp,by omega⟩,rfl⟩)
end Go.Hw

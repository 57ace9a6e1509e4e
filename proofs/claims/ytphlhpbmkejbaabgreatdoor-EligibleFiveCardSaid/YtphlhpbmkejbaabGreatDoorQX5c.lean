import Derived.Test.YtphlhpbmkejbaabGreatDoorXA
set_option linter.unusedVariables false
set_option linter.unusedSimpArgs false
set_option maxRecDepth 100000
set_option maxHeartbeats 8000000
namespace Go.Hw
open Go
attribute [local irreducible] GO GOl GDp Val Fn Res CellsAt ValE Blk OwnS MapA OwnPf Has Yl SepA forceL decC memS suspC suspN suspOne yelC cardsF nextC regF
open Go.Proofs (Tryz.prog)
theorem CardsR_c (h : Ro) (s : Fsh) (x : FSheet) (hx : ShAt h s x) (hl : x.hc.length ≤ 1000 ∧ x.ac.length ≤ 1000) (p : Int) : Res Tryz.prog 9 #[sheetV s x,.int .i64 p] h (fun u _ => u = .tuple #[.int .i64 (cardsF x p).1,.bool (cardsF x p).2]):=by
  refine Res_intro (args:=[_,_]) ts_ok Go.Proofs.Tryz.func9 rfl rfl fun w0 X0 => ?_
  have hn1:=hx.hc.len
  have hn2:=hx.ac.len
  have hh:=hx.hc
  have ha:=hx.ac
  obtain ⟨cs,hcs⟩ : ∃ cs,cs = x.hc ++ x.ac:=⟨_,rfl⟩
  have hcl : cs.length = s.hc.n + s.ac.n:=by rw [hcs,List.length_append,hn1,hn2]
  have hcf : cardsF x p = cs.foldl (cardS p) (0,false):=by rw [hcs];unfold cardsF;rfl
  repeat' (first|apply GO_seq|apply GO_block|apply GO_region|apply GOl_nil|(apply GOl_pv;(iterate 3 exact rfl))|(apply GOl_to;(iterate 3 exact rfl);(first|(apply OpTo_box;exact rfl;intro b;skip)))|(apply GO_drawp (n:=3) [0,1,2,3,4,5,6,7] [(1,0),(2,0),(4,0),(5,0),(0,1),(3,1),(6,1),(7,0)];kernel_rfl)|(apply GP_pv;exact rfl;kernel_rfl;(iterate 3 exact rfl))|(apply GP_loadB;exact rfl;kernel_rfl;(iterate 3 exact rfl);exact QM;exact rfl;exact rfl)|(apply GP_real;exact rfl;kernel_rfl;(iterate 3 exact rfl);(first|(apply OpTo_buildSliceO (n:=0);(iterate 3 exact rfl);exact List.cons_ne_nil _ _;(iterate 6 exact rfl);intro b8;refine ⟨Le.refl _,QN,?_⟩)|(apply OpTo_appendS (enc:=encC) (n:=0) (xs:=[]) (ys:=x.hc);(iterate 7 exact rfl);exact hh.le (by first|exact Le.refl _|assumption|(repeat (first|assumption|(apply Le.trans;assumption))));exact fun _ => rfl;exact fun _ => allOne_ok rfl;intro v1;exact QR;omega;exact rfl;intro A1 c1;refine ⟨Le.refl _,QN,?_⟩)|(apply OpTo_appendS (enc:=encC) (n:=0 + s.hc.n) (xs:=[] ++ x.hc) (ys:=x.ac);(iterate 7 exact rfl);exact ha.le (by first|exact Le.refl _|assumption|(repeat (first|assumption|(apply Le.trans;assumption))));exact fun _ => rfl;exact fun _ => allOne_ok rfl;intro v1;exact QR;omega;exact rfl;intro A2 c2;refine ⟨Le.refl _,QN,?_⟩)))|(apply GP_done;kernel_rfl;exact rfl))
  all_goals (try (exfalso;omega))
  rw [List.nil_append,Nat.zero_add,← hcs]
  refine GO_relC (enc:=encC) (e:=90) (sz:=2) (n:=s.hc.n + s.ac.n) (xs:=cs) (fun _ => rfl) hcl QK ?_
  intro A7 c7 h7 hle7 e7 hnc7 hs7
  cases e7
  rw [hcf]
  refine GO_loopT (X:=Nat) (fun k => k ≤ s.hc.n + s.ac.n ∧ 0 ≤ ((cs.take k).foldl (cardS p) (0,false)).1 ∧ ((cs.take k).foldl (cardS p) (0,false)).1 ≤ 2) (fun k => s.hc.n + s.ac.n - k)
    (fun k => [(9,.int .i64 k),(8,.slice A2 (s.hc.n + s.ac.n) c2),(6,.int .i64 ((cs.take k).foldl (cardS p) (0,false)).1),(7,.bool ((cs.take k).foldl (cardS p) (0,false)).2),(1,.int .i64 p)])
    (fun _ => []) (fun _ => h7) 0 ⟨by omega,cardS_bd p (cs.take 0) (0,false) ⟨by decide,by decide⟩⟩ QS QT rfl ?_
  rintro k ⟨hk,hb⟩ ih
  by_cases hkn : k < s.hc.n + s.ac.n
  · have a1:=hs7.addrD hkn
    have cc : CellsAt h7 ((addrD A2).add (k * ty90.size)) (encC (cs.getD k card0)):=hs7.cellsD card0 hkn
    have et:=take7 card0 hcl hkn
    generalize cs.getD k card0 = q at *
    have hsn : (cs.take (k + 1)).foldl (cardS p) (0,false) = cardS p ((cs.take k).foldl (cardS p) (0,false)) q:=by rw [et,List.foldl_append];rfl
    have hb2:=cardS_bd p (cs.take (k + 1)) (0,false) ⟨by decide,by decide⟩
    have h3:=ih (k + 1) ⟨by omega,hb2⟩ (by omega)
    rw [hsn] at h3
    clear ih hb2 hsn et
    generalize (cs.take k).foldl (cardS p) (0,false) = z at *
    obtain ⟨z1,z2⟩:=z
    obtain ⟨qp,qr⟩:=q
    dsimp only at hb h3 cc
    unfold cardS at h3
    by_cases hq : qp = p
    · rw [if_pos hq] at h3
      cases qr
      · simp only [Bool.false_eq_true,if_false] at h3
        repeat' (first|apply GO_seq|apply GO_skip|apply GO_inBlock|apply GO_block|apply GO_region|apply GOl_nil|(apply GOl_min;(iterate 3 exact rfl);intro wn hwn)|(apply GOl_add;(iterate 3 exact rfl);omega;exact rfl;exact rfl)|(apply GOl_pv;(iterate 3 exact rfl))|(apply GOl_ov;exact rfl;exact rfl;(first|(apply OV_idxS (j:=k);(iterate 5 exact rfl);exact a1;(with_reducible exact rfl);omega)|(apply OV_load;exact rfl;exact Lv_ro rfl cc rfl)|(apply OV_load;exact rfl;first|exact Lv_ro rfl (by assumption) rfl|exact Lv_roF rfl (by assumption) rfl|exact Lv_roF2 rfl (by assumption) rfl|exact Lv_roF3 rfl (by assumption) rfl));exact QA)|(apply GO_cond;exact rfl;all_goals (intro hc;try simp only [hcS,reduceCtorEq] at hc;try (exfalso;omega)))|(apply GOl_split;exact rfl;exact rfl;all_goals (intro hc;try simp only [hcS,reduceCtorEq] at hc;try (exfalso;omega))))
        all_goals first
          | (exfalso;omega)
          | (exfalso;simp at hc;done)
          | (rw [hwn];refine GO_fit QS QT (h3))
      · rw [if_pos rfl] at h3
        dsimp only at h3
        repeat' (first|apply GO_seq|apply GO_skip|apply GO_inBlock|apply GO_block|apply GO_region|apply GOl_nil|(apply GOl_add;(iterate 3 exact rfl);omega;exact rfl;exact rfl)|(apply GOl_pv;(iterate 3 exact rfl))|(apply GOl_ov;exact rfl;exact rfl;(first|(apply OV_idxS (j:=k);(iterate 5 exact rfl);exact a1;(with_reducible exact rfl);omega)|(apply OV_load;exact rfl;exact Lv_ro rfl cc rfl)|(apply OV_load;exact rfl;first|exact Lv_ro rfl (by assumption) rfl|exact Lv_roF rfl (by assumption) rfl|exact Lv_roF2 rfl (by assumption) rfl|exact Lv_roF3 rfl (by assumption) rfl));exact QA)|(apply GO_cond;exact rfl;all_goals (intro hc;try simp only [hcS,reduceCtorEq] at hc;try (exfalso;omega)))|(apply GOl_split;exact rfl;exact rfl;all_goals (intro hc;try simp only [hcS,reduceCtorEq] at hc;try (exfalso;omega))))
        all_goals first
          | (exfalso;omega)
          | (exfalso;simp at hc;done)
          | (refine GO_fit QS QT (h3))
    · rw [if_neg hq] at h3
      dsimp only at h3
      repeat' (first|apply GO_seq|apply GO_skip|apply GO_inBlock|apply GO_block|apply GO_region|apply GOl_nil|(apply GOl_unwanted;exact rfl;exact rfl)|(apply GOl_add;(iterate 3 exact rfl);omega;exact rfl;exact rfl)|(apply GOl_pv;(iterate 3 exact rfl))|(apply GOl_ov;exact rfl;exact rfl;(first|(apply OV_idxS (j:=k);(iterate 5 exact rfl);exact a1;(with_reducible exact rfl);omega)|(apply OV_load;exact rfl;exact Lv_ro rfl cc rfl));exact QA)|(apply GO_cond;exact rfl;all_goals (intro hc;try simp only [hcS,reduceCtorEq] at hc;try (exfalso;omega)))|(apply GOl_split;exact rfl;exact rfl;all_goals (intro hc;try simp only [hcS,reduceCtorEq] at hc;try (exfalso;omega))))
      all_goals first
        | (exfalso;omega)
        | (exfalso;simp at hc;done)
        | (refine GO_fit QS QT (h3))
  · rw [List.take_of_length_le (by omega)]
    clear ih
    repeat' (first|apply GO_seq|apply GO_region|apply GOl_nil|(apply GO_exit;exact rfl)|(apply GOl_pv;(iterate 3 exact rfl))|(apply GO_cond;exact rfl;all_goals (intro hc;try simp only [hcS,reduceCtorEq] at hc;try (exfalso;omega))))
    all_goals first
      | (exfalso;omega)
      | (exact GO_retR2 rfl rfl rfl rfl rfl)
end Go.Hw

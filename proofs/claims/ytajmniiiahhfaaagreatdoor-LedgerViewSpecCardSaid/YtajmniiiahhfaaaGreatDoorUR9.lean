import Derived.Test.YtajmniiiahhfaaaGreatDoorUR8
import Derived.Test.YtajmniiiahhfaaaGreatDoorUE19b
set_option linter.unusedVariables false
set_option linter.unusedSimpArgs false
set_option maxRecDepth 100000
set_option maxHeartbeats 8000000
namespace Go.Hw
open Go
attribute [local irreducible] GO GOl GDp Val Fn Res CellsAt ValE Blk OwnS MapA OwnPf Has Yl idF
open Go.Proofs (Tryz.prog)
theorem insF_at {x : Fct} : ∀ {L : List Fct} {k : Nat},k ≤ L.length → (∀ i,i < k → cmpF (L.getD i fct0) x < 0) → (k < L.length → ¬ cmpF (L.getD k fct0) x < 0) → insF x L = if k < L.length ∧ L.getD k fct0 = x then L else L.take k ++ x :: L.drop k
  | [],k,hk,_,_ => by
    have : k = 0:=by simpa using hk
    subst this;simp [insF]
  | y :: r,0,_,_,h2 => by
    have h2:=h2 (by simp)
    simp only [List.getD_cons_zero] at h2
    unfold insF
    rw [if_neg h2]
    simp
  | y :: r,k + 1,hk,h1,h2 => by
    have h0:=h1 0 (by omega)
    simp only [List.getD_cons_zero] at h0
    have ih:=insF_at (x:=x) (L:=r) (k:=k) (by simpa using hk) (fun i hi => by have:=h1 (i + 1) (by omega);simpa using this) (fun hlt => by have:=h2 (by simpa using hlt);simpa using this)
    unfold insF
    rw [if_pos h0,ih]
    simp only [List.length_cons,Nat.add_lt_add_iff_right,List.getD_cons_succ,List.take_succ_cons,List.drop_succ_cons]
    split
    · rfl
    · rfl
theorem fcs_getD (l : List (Fsh × Fct)) {k : Nat} (hk : k < l.length) : (fcs l).getD k fct0 = (l.getD k p0).2:=by
  unfold fcs
  simp [List.getD,List.getElem?_eq_getElem hk]
theorem compareG_c (h : Ro) (p q : Fsh × Fct) (hp : FGd h p) (hq : FGd h q) : Res Tryz.prog 77 #[factV p.1 p.2,factV q.1 q.2] h (fun u _ => u = .int .i64 (cmpF p.2 q.2)) :=
  compareR7_c h p.1 q.1 p.2 q.2 hp.1 hp.2.1 hq.1 hq.2.1 hp.2.2 hq.2.2
open Classical in
theorem checkLR_c (h : Ro) (A : Option Addr) (n c : Nat) (l : List (Fsh × Fct)) (hx : FactsAt h A n l) : Res Tryz.prog 36 #[ledV A n c] h (fun u _ => u = .int .i64 (ledE (fcs l))):=by
  refine Res_intro (args:=[_]) ts_ok Go.Proofs.Tryz.func36 rfl rfl fun w0 X0 => ?_
  have hlen:=hx.row.len
  have hn:=hx.small
  have hml : (fcs l).length = n:=by rw [List.length_map,hlen]
  by_cases h1 : 65536 < n
  · have he : ledE (fcs l) = 2:=by unfold ledE;rw [if_pos (by omega)]
    rw [he]
    repeat' (first|apply GO_seq|apply GO_region|apply GOl_nil|(apply GOl_pv;(iterate 3 exact rfl))|(apply GOl_load;exact rfl;exact Ld_blk rfl QM rfl;exact rfl;exact rfl)|(apply GOl_to;(iterate 3 exact rfl);(first|(apply OpTo_box;exact rfl;intro b;skip)))|(apply GO_cond;exact rfl;all_goals (intro hc;try simp only [hcS,reduceCtorEq] at hc;try (exfalso;omega)))|(apply GO_retR1;(iterate 3 exact rfl)))
    all_goals first|rfl|(exfalso;omega)
  · repeat' (first|apply GO_seq|apply GO_skip|apply GO_block|apply GO_region|apply GOl_nil|(apply GOl_pv;(iterate 3 exact rfl))|(apply GOl_load;exact rfl;exact Ld_blk rfl QM rfl;exact rfl;exact rfl)|(apply GOl_to;(iterate 3 exact rfl);(first|(apply OpTo_box;exact rfl;intro b;skip)))|(apply GO_cond;exact rfl;all_goals (intro hc;try simp only [hcS,reduceCtorEq] at hc;try (exfalso;omega))))
    all_goals (try (exfalso;omega))
    generalize b = b0
    refine GO_loopT (X:=Nat) (fun k => k ≤ n ∧ ∀ p ∈ l.take k,FctOk p.2) (fun k => n - k) (fun k => [(3,.int .i64 k),(1,.pointer (some ⟨b0,0,none⟩))]) (fun _ => [Blk b0 47 [.slice A n c]]) (fun _ => h) 0 ⟨by omega,by simp⟩ QS QT rfl ?_
    rintro k ⟨hk,hI⟩ ih
    by_cases hkn : k < n
    · have a1:=hx.row.addrD hkn
      have c1:=hx.row.cellsD p0 hkn
      have et:=take7 p0 hlen hkn
      have hm:=mem7 p0 (show k < l.length by omega)
      have hfp:=hx.fat _ hm
      generalize l.getD k p0 = p at *
      have hch:=checkR_c h p.1 p.2 hfp.1 hfp.2
      by_cases hp : FctOk p.2
      · rw [if_pos hp] at hch
        repeat' (first|apply GO_seq|apply GO_skip|apply GO_inBlock|apply GO_block|apply GO_region|apply GOl_nil|(apply GOl_add;(iterate 3 exact rfl);omega;exact rfl;exact rfl)|(apply GOl_pv;(iterate 3 exact rfl))|(apply GOl_load;exact rfl;exact Ld_blk rfl QM rfl;exact rfl;exact rfl)|(apply GOl_ov;exact rfl;exact rfl;(first|(apply OV_idxS (j:=k);(iterate 5 exact rfl);exact a1;(with_reducible exact rfl);omega)|(apply OV_load;exact rfl;exact Lv_ro rfl c1 rfl));exact QA)|(apply GOl_to;(iterate 3 exact rfl);(first|(apply OpTo_val;exact rfl;exact has75;exact hch;skip)))|(apply GO_cond;exact rfl;all_goals (intro hc;try simp only [hcS,reduceCtorEq] at hc;try (exfalso;omega))))
        all_goals (try (exfalso;omega))
        all_goals
          have h3:=ih (k + 1) ⟨by omega,by
            rw [et];intro q hq
            rw [List.mem_append,List.mem_singleton] at hq
            rcases hq with hq|rfl
            · exact hI q hq
            · exact hp⟩ (by omega)
          refine GO_fit QS QT (h3)
      · rw [if_neg hp] at hch
        have he : ledE (fcs l) = 70:=by
          unfold ledE;rw [if_neg (by omega),if_pos ⟨p.2,List.mem_map.2 ⟨p,hm,rfl⟩,hp⟩]
        rw [he]
        repeat' (first|apply GO_seq|apply GO_skip|apply GO_block|apply GO_region|apply GOl_nil|(apply GOl_pv;(iterate 3 exact rfl))|(apply GOl_load;exact rfl;exact Ld_blk rfl QM rfl;exact rfl;exact rfl)|(apply GOl_ov;exact rfl;exact rfl;(first|(apply OV_idxS (j:=k);(iterate 5 exact rfl);exact a1;(with_reducible exact rfl);omega)|(apply OV_load;exact rfl;exact Lv_ro rfl c1 rfl));exact QA)|(apply GOl_to;(iterate 3 exact rfl);(first|(apply OpTo_val;exact rfl;exact has75;exact hch;skip)))|(apply GO_cond;exact rfl;all_goals (intro hc;try simp only [hcS,reduceCtorEq] at hc;try (exfalso;omega)))|(apply GO_retR1;(iterate 3 exact rfl)))
        all_goals first|rfl|(exfalso;omega)
    · rw [List.take_of_length_le (by omega)] at hI
      clear ih
      have h2 : ∀ f ∈ fcs l,FctOk f:=fun f hf => by obtain ⟨p,hp,rfl⟩:=List.mem_map.1 hf;exact hI p hp
      have hg : ∀ p ∈ l,FGd h p:=fun p hp => ⟨(hx.fat p hp).1,(hx.fat p hp).2,hI p hp⟩
      have hne : ¬ ∃ f ∈ fcs l,¬ FctOk f:=fun ⟨f,hf,hq⟩ => hq (h2 f hf)
      repeat' (first|apply GO_seq|apply GO_block|apply GO_region|apply GOl_nil|(apply GO_exit;exact rfl)|(apply GOl_pv;(iterate 3 exact rfl))|(apply GOl_load;exact rfl;exact Ld_blk rfl QM rfl;exact rfl;exact rfl)|(apply GO_cond;exact rfl;all_goals (intro hc;try simp only [hcS,reduceCtorEq] at hc;try (exfalso;omega))))
      refine GO_loopT (X:=Nat × Ro) (fun x => (1 ≤ x.1 ∧ (x.1 ≤ n ∨ x.1 = 1)) ∧ Le h x.2 ∧ ∀ (i : Nat) (hi : i + 1 < (fcs l).length),i + 1 < x.1 → cmpF (fcs l)[i] (fcs l)[i + 1] < 0) (fun x => n + 1 - x.1)
        (fun x => [(5,.int .i64 x.1),(1,.pointer (some ⟨b0,0,none⟩))]) (fun _ => [Blk b0 47 [.slice A n c]]) (fun x => x.2) (1,h) ⟨by dsimp only;omega,Le.refl _,fun i hi hq => absurd hq (by dsimp only;omega)⟩ QS QT rfl ?_
      rintro ⟨k,hh⟩ ⟨hk,hle,hI2⟩ ih
      dsimp only at hk hle hI2 ih ⊢
      by_cases hkn : k < n
      · have a1:=hx.row.addrD hkn
        have c1 : CellsAt hh ((addrD A).add (k * ty73.size)) (encF82 (l.getD k p0)):=(hx.row.cellsD p0 hkn).le hle
        have c2 : CellsAt hh ((addrD A).add ((k - 1) * ty73.size)) (encF82 (l.getD (k - 1) p0)):=(hx.row.cellsD p0 (k:=k - 1) (by omega)).le hle
        have g1:=hg _ (mem7 p0 (show k < l.length by omega))
        have g2:=hg _ (mem7 p0 (show k - 1 < l.length by omega))
        have e1:=fcs_get l (k:=k) (by omega) (by omega)
        have e2:=fcs_get l (k:=k - 1) (by omega) (by omega)
        generalize l.getD k p0 = p at *
        generalize l.getD (k - 1) p0 = q at *
        by_cases hc9 : cmpF q.2 p.2 < 0
        · repeat' (first|apply GO_seq|apply GO_skip|apply GO_inBlock|apply GO_block|apply GO_region|apply GOl_nil|(apply GOl_add;(iterate 3 exact rfl);omega;exact rfl;exact rfl)|(apply GOl_pv;(iterate 3 exact rfl))|(apply GOl_load;exact rfl;exact Ld_blk rfl QM rfl;exact rfl;exact rfl)|(apply GO_drawp (n:=12) [0,1,2,3,4,5,6,7,8,9,10,11,12] [(0,0),(1,0),(2,0),(3,0),(4,0),(5,0),(6,0),(7,0),(8,0),(9,0),(10,0),(11,1),(12,0)];kernel_rfl)|(apply GP_sub;exact rfl;kernel_rfl;(iterate 5 exact rfl);omega)|(apply GP_pv;exact rfl;kernel_rfl;(iterate 3 exact rfl))|(apply GP_loadB;exact rfl;kernel_rfl;(iterate 3 exact rfl);exact QM;exact rfl;exact rfl)|(apply GP_ov;exact rfl;kernel_rfl;exact rfl;exact rfl;(first|(apply OV_idxS (j:=k);(iterate 5 exact rfl);exact a1;(with_reducible exact rfl);omega)|(apply OV_idxS (j:=k - 1);(iterate 5 exact rfl);exact a1;omega;omega)|(apply OV_load;exact rfl;apply Lv_ro;exact rfl;(with_reducible exact c1);exact rfl)|(apply OV_load;exact rfl;apply Lv_ro;exact rfl;(with_reducible exact c2);exact rfl));exact QA)|(apply GP_real;exact rfl;kernel_rfl;(iterate 3 exact rfl);(first|(apply OpTo_res;exact rfl;exact has77;exact compareG_c _ q p (g2.le (by first|exact Le.refl _|assumption|(repeat (first|assumption|(apply Le.trans;assumption))))) (g1.le (by first|exact Le.refl _|assumption|(repeat (first|assumption|(apply Le.trans;assumption)))));rintro vr hr1 hle1 rfl;refine ⟨hle1,QN,?_⟩)))|(apply GP_done;kernel_rfl;exact rfl)|(apply GO_cond;exact rfl;all_goals (intro hc;try simp only [hcS,reduceCtorEq] at hc;try (exfalso;omega))))
          all_goals first
            | (exfalso;omega)
            | (have h3:=ih (k + 1,hr1) ⟨by dsimp only;omega,by dsimp only;exact hle.trans hle1,fun i hi hq => by
                 dsimp only at hq
                 rcases Nat.lt_or_ge (i + 1) k with w1|w1
                 · exact hI2 i hi w1
                 · have : k = i + 1:=by omega
                   subst this
                   have e3 : (fcs l)[i]'(by omega) = q.2:=e2
                   rw [e3,e1];exact hc9⟩ (by dsimp only;omega)
               dsimp only at h3
               refine GO_fit QS QT (h3))
        · have hnS : ¬ SortF (fcs l):=fun hS => by
            have:=sortF_get hS (i:=k - 1) (j:=k) (by omega) (by omega)
            rw [e1,e2] at this
            exact hc9 (cmpF_lt.2 this)
          have he : ledE (fcs l) = 80:=by unfold ledE;rw [if_neg (by omega),if_neg hne,if_neg hnS]
          rw [he]
          repeat' (first|apply GO_seq|apply GO_skip|apply GO_block|apply GO_region|apply GOl_nil|(apply GOl_pv;(iterate 3 exact rfl))|(apply GOl_load;exact rfl;exact Ld_blk rfl QM rfl;exact rfl;exact rfl)|(apply GO_drawp (n:=12) [0,1,2,3,4,5,6,7,8,9,10,11,12] [(0,0),(1,0),(2,0),(3,0),(4,0),(5,0),(6,0),(7,0),(8,0),(9,0),(10,0),(11,1),(12,0)];kernel_rfl)|(apply GP_sub;exact rfl;kernel_rfl;(iterate 5 exact rfl);omega)|(apply GP_pv;exact rfl;kernel_rfl;(iterate 3 exact rfl))|(apply GP_loadB;exact rfl;kernel_rfl;(iterate 3 exact rfl);exact QM;exact rfl;exact rfl)|(apply GP_ov;exact rfl;kernel_rfl;exact rfl;exact rfl;(first|(apply OV_idxS (j:=k);(iterate 5 exact rfl);exact a1;(with_reducible exact rfl);omega)|(apply OV_idxS (j:=k - 1);(iterate 5 exact rfl);exact a1;omega;omega)|(apply OV_load;exact rfl;apply Lv_ro;exact rfl;(with_reducible exact c1);exact rfl)|(apply OV_load;exact rfl;apply Lv_ro;exact rfl;(with_reducible exact c2);exact rfl));exact QA)|(apply GP_real;exact rfl;kernel_rfl;(iterate 3 exact rfl);(first|(apply OpTo_res;exact rfl;exact has77;exact compareG_c _ q p (g2.le (by first|exact Le.refl _|assumption|(repeat (first|assumption|(apply Le.trans;assumption))))) (g1.le (by first|exact Le.refl _|assumption|(repeat (first|assumption|(apply Le.trans;assumption)))));rintro vr hr1 hle1 rfl;refine ⟨hle1,QN,?_⟩)))|(apply GP_done;kernel_rfl;exact rfl)|(apply GO_cond;exact rfl;all_goals (intro hc;try simp only [hcS,reduceCtorEq] at hc;try (exfalso;omega)))|(apply GO_retR1;(iterate 3 exact rfl)))
          all_goals first|rfl|(exfalso;omega)
      · have hS : SortF (fcs l):=sortF_of_next fun i hi => hI2 i hi (by omega)
        have he : ledE (fcs l) = 0:=ledE_zero.2 ⟨by omega,h2,hS⟩
        rw [he]
        clear ih
        repeat' (first|apply GO_seq|apply GO_region|apply GOl_nil|(apply GO_exit;exact rfl)|(apply GOl_pv;(iterate 3 exact rfl))|(apply GOl_load;exact rfl;exact Ld_blk rfl QM rfl;exact rfl;exact rfl)|(apply GO_cond;exact rfl;all_goals (intro hc;try simp only [hcS,reduceCtorEq] at hc;try (exfalso;omega)))|(apply GO_retR1;(iterate 3 exact rfl)))
        all_goals rfl
theorem hasR_c (h : Ro) (A : Option Addr) (n c : Nat) (l : List (Fsh × Fct)) (hx : LedAt h A n l) (p : Fsh × Fct) (hp : FGd h p) : Res Tryz.prog 89 #[.slice A n c,factV p.1 p.2] h (fun u _ => ∃ b : Bool,u = .bool b ∧ (b = true ↔ p.2 ∈ fcs l)):=by
  refine Res_intro (args:=[_,_]) ts_ok Go.Proofs.Tryz.func89 rfl rfl fun w0 X0 => ?_
  have hlen:=hx.row.len
  have hn:=hx.small
  repeat' (first|apply GO_seq|apply GO_block|apply GO_region|apply GOl_nil|(apply GOl_pv;(iterate 3 exact rfl))|(apply GOl_to;(iterate 3 exact rfl);(first|(apply OpTo_box;exact rfl;intro b;skip))))
  generalize b = b0
  refine GO_loopT (X:=Nat × Ro) (fun x => x.1 ≤ n ∧ Le h x.2 ∧ ∀ q ∈ l.take x.1,q.2 ≠ p.2) (fun x => n - x.1) (fun x => [(5,.int .i64 x.1),(3,.pointer (some ⟨b0,0,none⟩)),(0,.slice A n c)]) (fun _ => [Blk b0 73 (factC p.1 p.2)]) (fun x => x.2) (0,h) ⟨by dsimp only;omega,Le.refl _,by simp⟩ QS QT rfl ?_
  rintro ⟨k,hh⟩ ⟨hk,hle,hI⟩ ih
  dsimp only at hk hle hI ih ⊢
  by_cases hkn : k < n
  · have a1:=hx.row.addrD hkn
    have c1 : CellsAt hh ((addrD A).add (k * ty73.size)) (encF82 (l.getD k p0)):=(hx.row.cellsD p0 hkn).le hle
    have et:=take7 p0 hlen hkn
    have hm:=mem7 p0 (show k < l.length by omega)
    have g1:=hx.good _ hm
    generalize l.getD k p0 = q at *
    have hz:=cmpF_zero (a:=q.2) (b:=p.2) g1.2.2 hp.2.2 (by rw [g1.1.void,hp.1.void])
    repeat' (first|apply GO_seq|apply GO_skip|apply GO_inBlock|apply GO_block|apply GO_region|apply GOl_nil|(apply GOl_add;(iterate 3 exact rfl);omega;exact rfl;exact rfl)|(apply GOl_pv;(iterate 3 exact rfl))|(apply GO_drawp (n:=4) [0,1,2,3,4,5,6] [(0,0),(1,0),(2,0),(3,0),(4,0),(5,1),(6,0)];kernel_rfl)|(apply GP_pv;exact rfl;kernel_rfl;(iterate 3 exact rfl))|(apply GP_loadB;exact rfl;kernel_rfl;(iterate 3 exact rfl);exact QM;exact rfl;exact rfl)|(apply GP_ov;exact rfl;kernel_rfl;exact rfl;exact rfl;(first|(apply OV_idxS (j:=k);(iterate 5 exact rfl);exact a1;(with_reducible exact rfl);omega)|(apply OV_load;exact rfl;apply Lv_ro;exact rfl;(with_reducible exact c1);exact rfl));exact QA)|(apply GP_real;exact rfl;kernel_rfl;(iterate 3 exact rfl);(first|(apply OpTo_res;exact rfl;exact has77;exact compareG_c _ q p (g1.le (by first|exact Le.refl _|assumption|(repeat (first|assumption|(apply Le.trans;assumption))))) (hp.le (by first|exact Le.refl _|assumption|(repeat (first|assumption|(apply Le.trans;assumption)))));rintro vr hr1 hle1 rfl;refine ⟨hle1,QN,?_⟩)))|(apply GP_done;kernel_rfl;exact rfl)|(apply GO_cond;exact rfl;all_goals (intro hc;try simp only [hcS,reduceCtorEq] at hc;try (exfalso;omega))))
    · exact GO_retR1 rfl rfl rfl ⟨true,rfl,by simp only [true_iff];exact List.mem_map.2 ⟨q,hm,hz.1 hc⟩⟩
    · have h3:=ih (k + 1,hr1) ⟨by dsimp only;omega,by dsimp only;exact hle.trans hle1,by
        dsimp only;rw [et];intro r hr
        rw [List.mem_append,List.mem_singleton] at hr
        rcases hr with hr|rfl
        · exact hI r hr
        · exact fun e => hc (hz.2 e)⟩ (by dsimp only;omega)
      dsimp only at h3
      refine GO_fit QS QT (h3)
  · rw [List.take_of_length_le (by omega)] at hI
    clear ih
    repeat' (first|apply GO_seq|apply GO_region|apply GOl_nil|(apply GO_exit;exact rfl)|(apply GOl_pv;(iterate 3 exact rfl))|(apply GO_cond;exact rfl;all_goals (intro hc;try simp only [hcS,reduceCtorEq] at hc;try (exfalso;omega))))
    all_goals exact GO_retR1 rfl rfl rfl ⟨false,rfl,by
      simp only [Bool.false_eq_true,false_iff]
      intro hm
      obtain ⟨q,hq,e⟩:=List.mem_map.1 hm
      exact hI q hq e⟩
theorem withR_c (h : Ro) (A : Option Addr) (n c : Nat) (l : List (Fsh × Fct)) (hx : LedAt h A n l) (hnc : n ≤ c) (p : Fsh × Fct) (hp : FGd h p) (hn : n ≤ 500000) : Res Tryz.prog 76 #[.slice A n c,factV p.1 p.2] h (fun u h' => ∃ A' k c' l',u = .slice A' k c' ∧ LedIs h' A' k c' l' (insF p.2 (fcs l))):=by
  refine Res_intro (args:=[_,_]) ts_ok Go.Proofs.Tryz.func76 rfl rfl fun w0 X0 => ?_
  have hlen:=hx.row.len
  have hml : (fcs l).length = n:=by rw [List.length_map,hlen]
  repeat' (first|apply GO_seq|apply GO_block|apply GO_region|apply GOl_nil|(apply GOl_pv;(iterate 3 exact rfl))|(apply GOl_to;(iterate 3 exact rfl);(first|(apply OpTo_box;exact rfl;intro b;skip))))
  generalize b = b0
  refine GO_loopT (X:=Nat × Ro) (fun x => x.1 ≤ n ∧ Le h x.2 ∧ ∀ i,i < x.1 → cmpF ((fcs l).getD i fct0) p.2 < 0) (fun x => n - x.1) (fun x => [(5,.int .i64 x.1),(3,.pointer (some ⟨b0,0,none⟩)),(0,.slice A n c)]) (fun _ => [Blk b0 73 (factC p.1 p.2)]) (fun x => x.2) (0,h) ⟨by dsimp only;omega,Le.refl _,fun i hi => absurd hi (by dsimp only;omega)⟩ QS QT rfl ?_
  rintro ⟨k,hh⟩ ⟨hk,hle,hI⟩ ih
  dsimp only at hk hle hI ih ⊢
  have hfin : ∀ (h9 : Ro) (A9 : Option Addr) (c9 : Nat),Le h h9 → insF p.2 (fcs l) = (fcs l).take k ++ p.2 :: (fcs l).drop k → SlOf encF82 82 h9 A9 (0 + k + 1 + (n - k)) ([] ++ l.take k ++ [p] ++ l.drop k) → 0 + k + 1 + (n - k) ≤ c9 → ∃ A' k' c' l',Value.slice A9 (0 + k + 1 + (n - k)) c9 = .slice A' k' c' ∧ LedIs h9 A' k' c' l' (insF p.2 (fcs l)):=fun h9 A9 c9 hl9 e9 hs9 hc9 => by
    refine ⟨_,_,_,_,rfl,hc9,⟨hs9,fun q hq => ?_,by omega⟩,?_⟩
    · rw [List.nil_append,List.mem_append,List.mem_append,List.mem_singleton] at hq
      rcases hq with (hq|rfl)|hq
      · exact (hx.good q (List.mem_of_mem_take hq)).le hl9
      · exact hp.le hl9
      · exact (hx.good q (List.mem_of_mem_drop hq)).le hl9
    · rw [e9];unfold fcs;simp [List.map_take,List.map_drop]
  by_cases hkn : k < n
  · have a1:=hx.row.addrD hkn
    have c1 : CellsAt hh ((addrD A).add (k * ty73.size)) (encF82 (l.getD k p0)):=(hx.row.cellsD p0 hkn).le hle
    have hm:=mem7 p0 (show k < l.length by omega)
    have g1:=hx.good _ hm
    have hgd:=fcs_getD l (k:=k) (by omega)
    generalize l.getD k p0 = q at *
    by_cases hc9 : cmpF q.2 p.2 < 0
    · repeat' (first|apply GO_seq|apply GO_skip|apply GO_inBlock|apply GO_block|apply GO_region|apply GOl_nil|(apply GOl_add;(iterate 3 exact rfl);omega;exact rfl;exact rfl)|(apply GOl_pv;(iterate 3 exact rfl))|(apply GO_drawp (n:=2) [0,1,2,3,4,5,6,7,8,9,10,11,12] [(0,0),(1,0),(2,0),(3,0),(4,0),(5,0),(6,0),(7,0),(8,0),(9,0),(10,1),(11,0),(12,0)];kernel_rfl)|(apply GP_pv;exact rfl;kernel_rfl;(iterate 3 exact rfl))|(apply GP_loadB;exact rfl;kernel_rfl;(iterate 3 exact rfl);exact QM;exact rfl;exact rfl)|(apply GP_ov;exact rfl;kernel_rfl;exact rfl;exact rfl;(first|(apply OV_idxS (j:=k);(iterate 5 exact rfl);exact a1;(with_reducible exact rfl);omega)|(apply OV_load;exact rfl;apply Lv_ro;exact rfl;(with_reducible exact c1);exact rfl));exact QA)|(apply GP_real;exact rfl;kernel_rfl;(iterate 3 exact rfl);(first|(apply OpTo_res;exact rfl;exact has77;exact compareG_c _ q p (g1.le (by first|exact Le.refl _|assumption|(repeat (first|assumption|(apply Le.trans;assumption))))) (hp.le (by first|exact Le.refl _|assumption|(repeat (first|assumption|(apply Le.trans;assumption)))));rintro vr hr1 hle1 rfl;refine ⟨hle1,QN,?_⟩)))|(apply GP_done;kernel_rfl;exact rfl)|(apply GP_split;(iterate 5 exact rfl);all_goals (intro hc;try simp only [hcS,reduceCtorEq] at hc;try (exfalso;omega)))|(apply GO_cond;exact rfl;all_goals (intro hc;try simp only [hcS,reduceCtorEq] at hc;try (exfalso;omega))))
      all_goals (try (exfalso;omega))
      all_goals
        have h3:=ih (k + 1,hr1) ⟨by dsimp only;omega,by dsimp only;exact hle.trans hle1,fun i hi => by
          dsimp only at hi
          rcases Nat.lt_or_ge i k with w1|w1
          · exact hI i w1
          · have : i = k:=by omega
            subst this;rw [hgd];exact hc9⟩ (by dsimp only;omega)
        dsimp only at h3
        refine GO_fit QS QT (h3)
    · clear ih
      have hat:=insF_at (x:=p.2) (L:=fcs l) (k:=k) (by omega) hI (fun _ => by rw [hgd];exact hc9)
      have hz:=cmpF_zero (a:=q.2) (b:=p.2) g1.2.2 hp.2.2 (by rw [g1.1.void,hp.1.void])
      by_cases he : cmpF q.2 p.2 = 0
      · rw [if_pos ⟨by omega,by rw [hgd];exact hz.1 he⟩] at hat
        repeat' (first|apply GO_seq|apply GO_region|apply GOl_nil|(apply GO_exit;exact rfl)|(apply GOl_pv;(iterate 3 exact rfl))|(apply GO_drawp (n:=2) [0,1,2,3,4,5,6,7,8,9,10,11,12] [(0,0),(1,0),(2,0),(3,0),(4,0),(5,0),(6,0),(7,0),(8,0),(9,0),(10,1),(11,0),(12,0)];kernel_rfl)|(apply GO_drawp (n:=4) [0,1,2,3,4,5,6,7,8,9,10,11,12] [(0,0),(1,0),(2,0),(3,0),(4,0),(5,0),(6,0),(7,0),(8,0),(9,0),(10,1),(11,0),(12,0)];kernel_rfl)|(apply GP_pv;exact rfl;kernel_rfl;(iterate 3 exact rfl))|(apply GP_loadB;exact rfl;kernel_rfl;(iterate 3 exact rfl);exact QM;exact rfl;exact rfl)|(apply GP_ov;exact rfl;kernel_rfl;exact rfl;exact rfl;(first|(apply OV_idxS (j:=k);(iterate 5 exact rfl);exact a1;(with_reducible exact rfl);omega)|(apply OV_load;exact rfl;apply Lv_ro;exact rfl;(with_reducible exact (c1.le (by first|exact Le.refl _|assumption|(repeat (first|assumption|(apply Le.trans;assumption))))));exact rfl));exact QA)|(apply GP_real;exact rfl;kernel_rfl;(iterate 3 exact rfl);(first|(apply OpTo_res;exact rfl;exact has77;exact compareG_c _ q p (g1.le (by first|exact Le.refl _|assumption|(repeat (first|assumption|(apply Le.trans;assumption))))) (hp.le (by first|exact Le.refl _|assumption|(repeat (first|assumption|(apply Le.trans;assumption)))));rintro vr hr1 hle1 rfl;refine ⟨hle1,QN,?_⟩)))|(apply GP_done;kernel_rfl;exact rfl)|(apply GP_split;(iterate 5 exact rfl);all_goals (intro hc;try simp only [hcS,reduceCtorEq] at hc;try (exfalso;omega)))|(apply GO_cond;exact rfl;all_goals (intro hc;try simp only [hcS,reduceCtorEq] at hc;try (exfalso;omega))))
        all_goals (try (exfalso;omega))
        all_goals exact GO_retR1 rfl rfl rfl ⟨A,n,c,l,rfl,hnc,hx.le (by first|exact Le.refl _|assumption|(repeat (first|assumption|(apply Le.trans;assumption)))),hat.symm⟩
      · rw [if_neg (fun w => he (hz.2 (by rw [← hgd];exact w.2)))] at hat
        repeat' (first|apply GO_seq|apply GO_skip|(apply GO_exit;exact rfl)|(apply GO_drawp (n:=2) [0,1,2,3,4,5,6,7,8,9,10,11,12] [(0,0),(1,0),(2,0),(3,0),(4,0),(5,0),(6,0),(7,0),(8,0),(9,0),(10,1),(11,0),(12,0)];kernel_rfl)|(apply GO_drawp (n:=4) [0,1,2,3,4,5,6,7,8,9,10,11,12] [(0,0),(1,0),(2,0),(3,0),(4,0),(5,0),(6,0),(7,0),(8,0),(9,0),(10,1),(11,0),(12,0)];kernel_rfl)|(apply GO_drawp (n:=6) [0,1,2,3,4,5,6,7,8,9,10,11,12] [(1,0),(2,0),(3,0),(5,0),(8,0),(9,0),(10,0),(0,2),(10,6),(4,2),(4,6),(6,1),(7,1),(11,1),(12,0),(4,1),(7,1),(11,1),(12,0),(0,1),(4,1),(7,1),(11,1),(12,0)];kernel_rfl)|(apply GP_pv;exact rfl;kernel_rfl;(iterate 3 exact rfl))|(apply GP_loadB;exact rfl;kernel_rfl;(iterate 3 exact rfl);exact QM;exact rfl;exact rfl)|(apply GP_ov;exact rfl;kernel_rfl;exact rfl;exact rfl;(first|(apply OV_idxS (j:=k);(iterate 5 exact rfl);exact a1;(with_reducible exact rfl);omega)|(apply OV_load;exact rfl;apply Lv_ro;exact rfl;(with_reducible exact (c1.le (by first|exact Le.refl _|assumption|(repeat (first|assumption|(apply Le.trans;assumption))))));exact rfl)|(apply OV_sliceLo (lo:=k) (n:=n) (c:=c);(iterate 5 exact rfl);(with_reducible exact rfl);omega)|(apply OV_sliceHi (hi:=k) (n:=n) (c:=c);(iterate 5 exact rfl);(with_reducible exact rfl);omega;exact hnc));exact QA)|(apply GP_real;exact rfl;kernel_rfl;(iterate 3 exact rfl);(first|(apply OpTo_res;exact rfl;exact has77;exact compareG_c _ q p (g1.le (by first|exact Le.refl _|assumption|(repeat (first|assumption|(apply Le.trans;assumption))))) (hp.le (by first|exact Le.refl _|assumption|(repeat (first|assumption|(apply Le.trans;assumption)))));rintro vr hr1 hle1 rfl;refine ⟨hle1,QN,?_⟩)|(apply OpTo_buildSliceO (n:=0);(iterate 3 exact rfl);exact List.cons_ne_nil _ _;(iterate 6 exact rfl);intro b8;refine ⟨Le.refl _,QN,?_⟩)|(apply OpTo_buildSliceS (enc:=encF82) (n:=1) [p];(iterate 3 exact rfl);exact List.cons_ne_nil _ _;(iterate 4 exact rfl);exact encF82_len;exact rfl;exact rfl;intro bz hz1 hlez hs1;refine ⟨hlez,QN,?_⟩)|(apply OpTo_appendS (enc:=encF82) (xs:=[]) (ys:=l.take k);(iterate 7 exact rfl);exact ((hx.row.high (hi:=k) (c:=c) (by omega) hnc).le (by first|exact Le.refl _|assumption|(repeat (first|assumption|(apply Le.trans;assumption)))));exact encF82_len;exact (fun x => allOne_ok (factC_one x.1 x.2));intro v1;exact QR;omega;exact rfl;intro A8 c8;refine ⟨Le.refl _,QN,?_⟩)|(apply OpTo_appendS (enc:=encF82) (n:=0 + k) (xs:=[] ++ l.take k) (ys:=[p]);(iterate 7 exact rfl);exact (hs1.le (by first|exact Le.refl _|assumption|(repeat (first|assumption|(apply Le.trans;assumption)))));exact encF82_len;exact (fun x => allOne_ok (factC_one x.1 x.2));intro v1;exact QR;omega;exact rfl;intro A7 c7;refine ⟨Le.refl _,QN,?_⟩)|(apply OpTo_appendSR (enc:=encF82) (n:=0 + k + 1) (xs:=[] ++ l.take k ++ [p]) (ys:=l.drop k);(iterate 7 exact rfl);exact ((hx.row.low (lo:=k) (c:=c) (by omega) hnc).le (by first|exact Le.refl _|assumption|(repeat (first|assumption|(apply Le.trans;assumption)))));exact encF82_len;exact (fun x => allOne_ok (factC_one x.1 x.2));exact QK;(rw [List.length_append,List.nil_append,List.length_take,List.length_singleton];omega);omega;exact rfl;intro A9 c9 h9 hle9 hnc9 hs9;refine ⟨hle9,QN,?_⟩)))|(apply GP_two;kernel_rfl;exact rfl;exact rfl)|(apply RealP_intro;(iterate 4 exact rfl);(first|(apply OpTo_buildSliceO (n:=0);(iterate 3 exact rfl);exact List.cons_ne_nil _ _;(iterate 6 exact rfl);intro b8;refine ⟨Le.refl _,QN,?_⟩)|(apply OpTo_buildSliceS (enc:=encF82) (n:=1) [p];(iterate 3 exact rfl);exact List.cons_ne_nil _ _;(iterate 4 exact rfl);exact encF82_len;exact rfl;exact rfl;intro bz hz1 hlez hs1;refine ⟨hlez,QN,?_⟩)|(apply OpTo_appendS (enc:=encF82) (xs:=[]) (ys:=l.take k);(iterate 7 exact rfl);exact ((hx.row.high (hi:=k) (c:=c) (by omega) hnc).le (by first|exact Le.refl _|assumption|(repeat (first|assumption|(apply Le.trans;assumption)))));exact encF82_len;exact (fun x => allOne_ok (factC_one x.1 x.2));intro v1;exact QR;omega;exact rfl;intro A8 c8;refine ⟨Le.refl _,QN,?_⟩)))|(apply GP_done;kernel_rfl;exact rfl)|(apply GP_split;(iterate 5 exact rfl);all_goals (intro hc;try simp only [hcS,reduceCtorEq] at hc;try (exfalso;omega)))|(apply GO_cond;exact rfl;all_goals (intro hc;try simp only [hcS,reduceCtorEq] at hc;try (exfalso;omega))))
        all_goals (try (exfalso;omega))
        all_goals exact GO_retR1 rfl rfl rfl (hfin _ _ _ (by first|exact Le.refl _|assumption|(repeat (first|assumption|(apply Le.trans;assumption)))) hat hs9 hnc9)
  · clear ih
    have hkn2 : k = n:=by omega
    have hat:=insF_at (x:=p.2) (L:=fcs l) (k:=k) (by omega) hI (fun w => by omega)
    rw [if_neg (fun w => by omega)] at hat
    repeat' (first|apply GO_seq|apply GO_skip|(apply GO_exit;exact rfl)|(apply GO_drawp (n:=2) [0,1,2,3,4,5,6,7,8,9,10,11,12] [(0,0),(1,0),(2,0),(3,0),(4,0),(5,0),(6,0),(7,0),(8,0),(9,0),(10,1),(11,0),(12,0)];kernel_rfl)|(apply GO_drawp (n:=4) [0,1,2,3,4,5,6,7,8,9,10,11,12] [(0,0),(1,0),(2,0),(3,0),(4,0),(5,0),(6,0),(7,0),(8,0),(9,0),(10,1),(11,0),(12,0)];kernel_rfl)|(apply GO_drawp (n:=6) [0,1,2,3,4,5,6,7,8,9,10,11,12] [(1,0),(2,0),(3,0),(5,0),(8,0),(9,0),(10,0),(0,2),(10,6),(4,2),(4,6),(6,1),(7,1),(11,1),(12,0),(4,1),(7,1),(11,1),(12,0),(0,1),(4,1),(7,1),(11,1),(12,0)];kernel_rfl)|(apply GP_un;exact rfl;kernel_rfl;exact rfl;exact rfl)|(apply GP_pv;exact rfl;kernel_rfl;(iterate 3 exact rfl))|(apply GP_loadB;exact rfl;kernel_rfl;(iterate 3 exact rfl);exact QM;exact rfl;exact rfl)|(apply GP_ov;exact rfl;kernel_rfl;exact rfl;exact rfl;(first|(apply OV_sliceLo (lo:=k) (n:=n) (c:=c);(iterate 5 exact rfl);(with_reducible exact rfl);omega)|(apply OV_sliceHi (hi:=k) (n:=n) (c:=c);(iterate 5 exact rfl);(with_reducible exact rfl);omega;exact hnc));exact QA)|(apply GP_real;exact rfl;kernel_rfl;(iterate 3 exact rfl);(first|(apply OpTo_buildSliceO (n:=0);(iterate 3 exact rfl);exact List.cons_ne_nil _ _;(iterate 6 exact rfl);intro b8;refine ⟨Le.refl _,QN,?_⟩)|(apply OpTo_buildSliceS (enc:=encF82) (n:=1) [p];(iterate 3 exact rfl);exact List.cons_ne_nil _ _;(iterate 4 exact rfl);exact encF82_len;exact rfl;exact rfl;intro bz hz1 hlez hs1;refine ⟨hlez,QN,?_⟩)|(apply OpTo_appendS (enc:=encF82) (xs:=[]) (ys:=l.take k);(iterate 7 exact rfl);exact ((hx.row.high (hi:=k) (c:=c) (by omega) hnc).le (by first|exact Le.refl _|assumption|(repeat (first|assumption|(apply Le.trans;assumption)))));exact encF82_len;exact (fun x => allOne_ok (factC_one x.1 x.2));intro v1;exact QR;omega;exact rfl;intro A8 c8;refine ⟨Le.refl _,QN,?_⟩)|(apply OpTo_appendS (enc:=encF82) (n:=0 + k) (xs:=[] ++ l.take k) (ys:=[p]);(iterate 7 exact rfl);exact (hs1.le (by first|exact Le.refl _|assumption|(repeat (first|assumption|(apply Le.trans;assumption)))));exact encF82_len;exact (fun x => allOne_ok (factC_one x.1 x.2));intro v1;exact QR;omega;exact rfl;intro A7 c7;refine ⟨Le.refl _,QN,?_⟩)|(apply OpTo_appendSR (enc:=encF82) (n:=0 + k + 1) (xs:=[] ++ l.take k ++ [p]) (ys:=l.drop k);(iterate 7 exact rfl);exact ((hx.row.low (lo:=k) (c:=c) (by omega) hnc).le (by first|exact Le.refl _|assumption|(repeat (first|assumption|(apply Le.trans;assumption)))));exact encF82_len;exact (fun x => allOne_ok (factC_one x.1 x.2));exact QK;(rw [List.length_append,List.nil_append,List.length_take,List.length_singleton];omega);omega;exact rfl;intro A9 c9 h9 hle9 hnc9 hs9;refine ⟨hle9,QN,?_⟩)))|(apply GP_two;kernel_rfl;exact rfl;exact rfl)|(apply RealP_intro;(iterate 4 exact rfl);(first|(apply OpTo_buildSliceO (n:=0);(iterate 3 exact rfl);exact List.cons_ne_nil _ _;(iterate 6 exact rfl);intro b8;refine ⟨Le.refl _,QN,?_⟩)|(apply OpTo_buildSliceS (enc:=encF82) (n:=1) [p];(iterate 3 exact rfl);exact List.cons_ne_nil _ _;(iterate 4 exact rfl);exact encF82_len;exact rfl;exact rfl;intro bz hz1 hlez hs1;refine ⟨hlez,QN,?_⟩)|(apply OpTo_appendS (enc:=encF82) (xs:=[]) (ys:=l.take k);(iterate 7 exact rfl);exact ((hx.row.high (hi:=k) (c:=c) (by omega) hnc).le (by first|exact Le.refl _|assumption|(repeat (first|assumption|(apply Le.trans;assumption)))));exact encF82_len;exact (fun x => allOne_ok (factC_one x.1 x.2));intro v1;exact QR;omega;exact rfl;intro A8 c8;refine ⟨Le.refl _,QN,?_⟩)))|(apply GP_done;kernel_rfl;exact rfl)|(apply GP_split;(iterate 5 exact rfl);all_goals (intro hc;try simp only [hcS,reduceCtorEq] at hc;try (exfalso;omega)))|(apply GO_cond;exact rfl;all_goals (intro hc;try simp only [hcS,reduceCtorEq] at hc;try (exfalso;omega)))|(apply GP_un1;exact rfl;kernel_rfl;exact rfl;exact rfl))
    all_goals (try (exfalso;omega))
    all_goals exact GO_retR1 rfl rfl rfl (hfin _ _ _ (by first|exact Le.refl _|assumption|(repeat (first|assumption|(apply Le.trans;assumption)))) hat hs9 hnc9)
end Go.Hw

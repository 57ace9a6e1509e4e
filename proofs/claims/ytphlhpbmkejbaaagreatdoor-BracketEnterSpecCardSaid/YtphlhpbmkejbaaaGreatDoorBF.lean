import Derived.Test.YtphlhpbmkejbaaaGreatDoorBE
import Derived.Test.YtphlhpbmkejbaaaGreatDoorBC
set_option linter.unusedVariables false
set_option linter.unusedSimpArgs false
set_option maxRecDepth 100000
set_option maxHeartbeats 8000000
namespace Go.Hw
open Go
attribute [local irreducible] GO GOl GDp Val Fn Res CellsAt ValE Blk OwnS MapA OwnPf Has Yl
open Go.Proofs (Tryz.prog)
theorem power21_c (h : Ro) (n : Nat) : Val Tryz.prog 41 #[.int .i64 (n : Int),.int .i64 2,.int .i64 128] h (.bool (decide (IsPow n))):=by
  refine Val_intro (args:=[_,_,_]) ts_ok Go.Proofs.Tryz.func41 rfl rfl fun w0 X0 => ?_
  repeat' (first|apply GO_seq|apply GO_skip|apply GO_inBlock|apply GO_block|apply GO_region|apply GOl_nil|(apply GO_exit;exact rfl)|(apply GO_loop)|(apply GO_inLoop)|(apply GOl_ov;exact rfl;exact rfl;(first|(apply OV_mulI;(iterate 3 exact rfl);(constructor <;> omega)));exact QA)|(apply GOl_pv;(iterate 3 exact rfl))|(apply GO_cond;exact rfl;all_goals (intro hc;try simp only [hcS,reduceCtorEq] at hc;try (exfalso;omega))))
  all_goals first
    | (exfalso;omega)
    | (refine GO_retV1 rfl rfl rfl ?_;refine dec_ofV ?_;unfold IsPow;simp only [true_iff,false_iff,Bool.false_eq_true];omega)
theorem power21d_c (h : Ro) (n : Nat) : Val Tryz.prog 41 #[.int .i64 (n : Int),.int .i64 1,.int .i64 64] h (.bool (decide (IsPow (2 * n)))):=by
  refine Val_intro (args:=[_,_,_]) ts_ok Go.Proofs.Tryz.func41 rfl rfl fun w0 X0 => ?_
  repeat' (first|apply GO_seq|apply GO_skip|apply GO_inBlock|apply GO_block|apply GO_region|apply GOl_nil|(apply GO_exit;exact rfl)|(apply GO_loop)|(apply GO_inLoop)|(apply GOl_ov;exact rfl;exact rfl;(first|(apply OV_mulI;(iterate 3 exact rfl);(constructor <;> omega)));exact QA)|(apply GOl_pv;(iterate 3 exact rfl))|(apply GO_cond;exact rfl;all_goals (intro hc;try simp only [hcS,reduceCtorEq] at hc;try (exfalso;omega))))
  all_goals first
    | (exfalso;omega)
    | (refine GO_retV1 rfl rfl rfl ?_;refine dec_ofV ?_;unfold IsPow;simp only [true_iff,false_iff,Bool.false_eq_true];omega)
theorem different21_c (h : Ro) (A : Option Addr) (n c : Nat) (l : List Int) (hx : SlOf encI 1 h A n l) (hn : n ≤ 1000000) : Val Tryz.prog 42 #[.slice A n c] h (.bool (decide (ClubsOk l))):=by
  refine Val_intro (args:=[_]) ts_ok Go.Proofs.Tryz.func42 rfl rfl fun w0 X0 => ?_
  have hlen:=hx.len
  obtain ⟨q,hqe⟩ : ∃ q : Bool,q = decide (ClubsOk l):=⟨_,rfl⟩
  rw [← hqe]
  have hF : ∀ k,k ≤ n → ¬ ClubsOk (l.take k) → q = false:=fun k _ w => by
    rw [hqe,decide_eq_false]
    intro v
    rw [← List.take_append_drop k l] at v
    exact w (clubsOk_pre v)
  have hT : ClubsOk l → q = true:=fun k => by rw [hqe,decide_eq_true k]
  clear hqe
  repeat' (first|apply GO_seq|apply GO_block|apply GO_region|apply GOl_nil|(apply GOl_pv;(iterate 3 exact rfl)))
  refine GO_loopT (X:=Nat) (fun k => k ≤ n ∧ ClubsOk (l.take k)) (fun k => n - k) (fun k => [(3,.int .i64 k),(0,.slice A n c)]) (fun _ => []) (fun _ => h) 0 ⟨by omega,by rw [List.take_zero];exact ⟨by simp,List.nodup_nil⟩⟩ QS QT rfl ?_
  rintro k ⟨hk,hI⟩ ih
  by_cases hkn : k < n
  · have a1:=hx.addrD hkn
    have c1:=hx.cellsD 0 hkn
    have htk:=clubsOk_take (l:=l) (k:=k) (by omega)
    have hcl:=club21_c h (l.getD k 0)
    have hFk:=hF (k + 1) (by omega)
    have ih1:=fun (w : ClubsOk (l.take (k + 1))) => ih (k + 1) ⟨by omega,w⟩ (by omega)
    by_cases hb : Bel (l.getD k 0) 192
    · rw [decide_eq_true hb] at hcl
      clear ih hT hF
      repeat' (first|apply GO_seq|apply GO_skip|apply GO_block|apply GO_region|apply GOl_nil|(apply GOl_pv;(iterate 3 exact rfl))|(apply GOl_ov;exact rfl;exact rfl;(first|(apply OV_idxS (j:=k) (n:=n);(iterate 5 exact rfl);exact a1;(with_reducible exact rfl);omega)|(apply OV_load;exact rfl;exact Lv_ro rfl c1 rfl));exact QA)|(apply GOl_to;(iterate 3 exact rfl);(first|(apply OpTo_val;exact rfl;exact has34;exact hcl;skip)))|(apply GO_cond;exact rfl;all_goals (intro hc;try simp only [hcS,reduceCtorEq] at hc;try (exfalso;omega))))
      all_goals (try (exfalso;simp at hc;done))
      all_goals (try (exfalso;omega))
      refine GO_loopT (X:=Nat) (fun j => j ≤ k ∧ ∀ i,i < j → l.getD k 0 ≠ l.getD i 0) (fun j => k - j) (fun j => [(4,.int .i64 j),(3,.int .i64 k),(0,.slice A n c)]) (fun _ => []) (fun _ => h) 0 ⟨by omega,fun i hi => absurd hi (by omega)⟩ QS QT rfl ?_
      rintro j ⟨hj,hJ⟩ ihj
      by_cases hjk : j < k
      · have c2:=hx.cellsD 0 (show j < n by omega)
        have ih2:=fun (w : l.getD k 0 ≠ l.getD j 0) => ihj (j + 1) ⟨by omega,fun i hi => by
          by_cases e : i = j
          · rw [e];exact w
          · exact hJ i (by omega)⟩ (by omega)
        have hFj : l.getD k 0 = l.getD j 0 → q = false:=fun e => hFk fun w => (htk.1 w).2.2 j hjk e
        clear ihj ih1 htk hFk hJ
        generalize l.getD k 0 = u at *
        generalize l.getD j 0 = v at *
        by_cases huv : u = v
        · have e:=hFj huv
          clear ih2 hFj
          repeat' (first|apply GO_seq|apply GO_skip|apply GO_block|apply GO_region|apply GOl_nil|(apply GOl_pv;(iterate 3 exact rfl))|(apply GO_drawp (n:=9) [0,1,2,3,4,5,6,7,8] [(0,0),(1,0),(2,0),(3,0),(4,0),(5,0),(6,0),(7,0),(8,0)];kernel_rfl)|(apply GP_pv;exact rfl;kernel_rfl;(iterate 3 exact rfl))|(apply GP_ov;exact rfl;kernel_rfl;exact rfl;exact rfl;(first|(apply OV_idxS (j:=k) (n:=n);(iterate 5 exact rfl);exact a1;(with_reducible exact rfl);omega)|(apply OV_idxS (j:=j) (n:=n);(iterate 5 exact rfl);exact a1;(with_reducible exact rfl);omega)|(apply OV_load;exact rfl;first|exact Lv_ro rfl c1 rfl|exact Lv_ro rfl c2 rfl));exact QA)|(apply GP_done;kernel_rfl;exact rfl)|(apply GO_cond;exact rfl;all_goals (intro hc;try simp only [hcS,reduceCtorEq] at hc;try (exfalso;omega))))
          all_goals first
            | (exfalso;omega)
            | (exact GO_retV1 rfl rfl rfl (by rw [e]))
        · have h3:=ih2 huv
          clear ih2 hFj
          repeat' (first|apply GO_seq|apply GO_skip|apply GO_inBlock|apply GO_block|apply GO_region|apply GOl_nil|(apply GOl_add;(iterate 3 exact rfl);omega;exact rfl;exact rfl)|(apply GOl_pv;(iterate 3 exact rfl))|(apply GO_drawp (n:=9) [0,1,2,3,4,5,6,7,8] [(0,0),(1,0),(2,0),(3,0),(4,0),(5,0),(6,0),(7,0),(8,0)];kernel_rfl)|(apply GP_pv;exact rfl;kernel_rfl;(iterate 3 exact rfl))|(apply GP_ov;exact rfl;kernel_rfl;exact rfl;exact rfl;(first|(apply OV_idxS (j:=k) (n:=n);(iterate 5 exact rfl);exact a1;(with_reducible exact rfl);omega)|(apply OV_idxS (j:=j) (n:=n);(iterate 5 exact rfl);exact a1;(with_reducible exact rfl);omega)|(apply OV_load;exact rfl;first|exact Lv_ro rfl c1 rfl|exact Lv_ro rfl c2 rfl));exact QA)|(apply GP_done;kernel_rfl;exact rfl)|(apply GO_cond;exact rfl;all_goals (intro hc;try simp only [hcS,reduceCtorEq] at hc;try (exfalso;omega))))
          all_goals first
            | (exfalso;omega)
            | (refine GO_fit QS QT (h3))
      · have h3:=ih1 (htk.2 ⟨hI,hb,fun i hi => hJ i (by omega)⟩)
        clear ihj ih1 htk hFk hJ
        repeat' (first|apply GO_seq|apply GO_inBlock|apply GO_region|apply GOl_nil|(apply GO_exit;exact rfl)|(apply GOl_add;(iterate 3 exact rfl);omega;exact rfl;exact rfl)|(apply GOl_pv;(iterate 3 exact rfl))|(apply GO_cond;exact rfl;all_goals (intro hc;try simp only [hcS,reduceCtorEq] at hc;try (exfalso;omega))))
        all_goals first
          | (exfalso;omega)
          | (refine GO_fit QS QT (h3))
    · rw [decide_eq_false hb] at hcl
      have e:=hFk fun w => hb (htk.1 w).2.1
      clear ih ih1 hT hF htk hFk
      repeat' (first|apply GO_seq|apply GO_skip|apply GO_block|apply GO_region|apply GOl_nil|(apply GOl_pv;(iterate 3 exact rfl))|(apply GOl_ov;exact rfl;exact rfl;(first|(apply OV_idxS (j:=k) (n:=n);(iterate 5 exact rfl);exact a1;(with_reducible exact rfl);omega)|(apply OV_load;exact rfl;exact Lv_ro rfl c1 rfl));exact QA)|(apply GOl_to;(iterate 3 exact rfl);(first|(apply OpTo_val;exact rfl;exact has34;exact hcl;skip)))|(apply GO_cond;exact rfl;all_goals (intro hc;try simp only [hcS,reduceCtorEq] at hc;try (exfalso;omega))))
      all_goals first
        | (exfalso;omega)
        | (exfalso;simp at hc;done)
        | (exact GO_retV1 rfl rfl rfl (by rw [e]))
  · rw [List.take_of_length_le (by omega)] at hI
    have e:=hT hI
    clear ih hT hF
    repeat' (first|apply GO_seq|apply GO_region|apply GOl_nil|(apply GO_exit;exact rfl)|(apply GOl_pv;(iterate 3 exact rfl))|(apply GO_cond;exact rfl;all_goals (intro hc;try simp only [hcS,reduceCtorEq] at hc;try (exfalso;omega))))
    all_goals first
      | (exfalso;omega)
      | (exact GO_retV1 rfl rfl rfl (by rw [e]))
theorem take_two {l : List Int} {k : Nat} (h : 2 * k + 1 < l.length) : l.take (2 * k + 2) = l.take (2 * k) ++ [l.getD (2 * k) 0,l.getD (2 * k + 1) 0]:=by
  rw [show 2 * k + 2 = 2 * k + 1 + 1 by omega,List.take_add_one,List.take_add_one,List.getElem?_eq_getElem h,List.getElem?_eq_getElem (show 2 * k < l.length by omega),List.getD_eq_getElem?_getD,List.getD_eq_getElem?_getD,List.getElem?_eq_getElem h,List.getElem?_eq_getElem (show 2 * k < l.length by omega),List.append_assoc]
  rfl
theorem pairD_last {l : List Int} {k : Nat} (h1 : 2 * k ≤ l.length) (h2 : l.length ≤ 2 * k + 1) : pairD (l.take (2 * k)) = pairD l:=by
  by_cases h : l.length = 2 * k
  · rw [List.take_of_length_le (by omega)]
  · have e : l = l.take (2 * k) ++ [l.getD (2 * k) 0]:=by
      have h3 : 2 * k < l.length:=by omega
      have:=List.take_add_one (l:=l) (i:=2 * k)
      rw [List.take_of_length_le (by omega),List.getElem?_eq_getElem h3] at this
      rw [List.getD_eq_getElem?_getD,List.getElem?_eq_getElem h3]
      exact this
    conv => rhs;rw [e]
    rw [pairD_odd _ _ (by rw [List.length_take];omega)]
theorem pairs21_c (h : Ro) (A : Option Addr) (n c : Nat) (l : List Int) (hx : SlOf encI 1 h A n l) (hn : n ≤ 1000000) : Res Tryz.prog 43 #[.slice A n c] h (fun u h' => RdOut h' u (pairD l)):=by
  refine Res_intro (args:=[_]) ts_ok Go.Proofs.Tryz.func43 rfl rfl fun w0 X0 => ?_
  have hlen:=hx.len
  repeat' (first|apply GO_seq|apply GO_block|apply GO_region|apply GOl_nil|(apply GOl_pv;(iterate 3 exact rfl))|(apply GOl_to;(iterate 3 exact rfl);(first|(apply OpTo_buildSliceO (n:=0);(iterate 3 exact rfl);exact List.cons_ne_nil _ _;(iterate 6 exact rfl);intro b1;skip))))
  refine GO_loopT (X:=Nat × Option Addr × Nat × Ro) (fun x => 2 * x.1 ≤ n ∧ Le h x.2.2.2) (fun x => n - 2 * x.1)
    (fun x => [(4,.int .i64 ((2 * x.1 : Nat) : Int)),(3,.slice x.2.1 (pairD (l.take (2 * x.1))).length x.2.2.1),(0,.slice A n c)])
    (fun x => [OwnS 24 3 (.slice x.2.1 (pairD (l.take (2 * x.1))).length x.2.2.1) (pairD (l.take (2 * x.1))).length ((dus0 (pairD (l.take (2 * x.1)))).flatMap encDu)]) (fun x => x.2.2.2) (0,some ⟨b1,0,none⟩,0,h) ⟨by dsimp only;omega,Le.refl _⟩ QS QT rfl ?_
  rintro ⟨k,A1,c1,h1⟩ ⟨hk,hle⟩ ih
  dsimp only at hk hle ih ⊢
  have hpl:=pairD_len (l.take (2 * k))
  rw [List.length_take] at hpl
  by_cases hkn : 2 * k + 1 < n
  · have a1:=hx.addrD (show 0 < n by omega)
    have d1:=(hx.cellsD 0 (show 2 * k < n by omega)).le hle
    have d2:=(hx.cellsD 0 hkn).le hle
    have htk:=take_two (l:=l) (k:=k) (by omega)
    have hpa:=pairD_app (l.take (2 * k)) (l.getD (2 * k) 0) (l.getD (2 * k + 1) 0) (by rw [List.length_take];omega)
    rw [← htk] at hpa
    generalize l.getD (2 * k) 0 = u at *
    generalize l.getD (2 * k + 1) 0 = v at *
    have h3:=fun A5 c5 h' (hl : Le h1 h') => ih (k + 1,A5,c5,h') ⟨by dsimp only;omega,hle.trans hl⟩ (by dsimp only;omega)
    dsimp only at h3
    rw [show 2 * (k + 1) = 2 * k + 2 by omega,hpa,dus0_app,List.length_append] at h3
    rw [show ((2 * k + 2 : Nat) : Int) = ((2 * k : Nat) : Int) + 2 by omega] at h3
    have hdl:=dus0_len (pairD (l.take (2 * k)))
    generalize pairD (l.take (2 * k)) = P at *
    clear ih htk hpa
    repeat' (first|apply GO_seq|apply GO_skip|apply GO_inBlock|apply GO_block|apply GO_region|apply GOl_nil|(apply GOl_add;(iterate 3 exact rfl);omega;exact rfl;exact rfl)|(apply GOl_pv;(iterate 3 exact rfl))|(apply GO_drawp (n:=5) [0,1,2,3,4,5,6,7,8,9,10,11,12,13] [(0,0),(1,0),(2,0),(3,0),(4,0),(5,0),(6,0),(7,0),(8,0),(9,0),(10,0),(11,1),(12,1),(13,0)];kernel_rfl)|(apply GP_add;exact rfl;kernel_rfl;(iterate 5 exact rfl);omega)|(apply GP_pv;exact rfl;kernel_rfl;(iterate 3 exact rfl))|(apply GP_ov;exact rfl;kernel_rfl;exact rfl;exact rfl;(first|(apply OV_idxS (j:=2 * k) (n:=n);(iterate 5 exact rfl);exact a1;(with_reducible exact rfl);omega)|(apply OV_idxS (j:=2 * k + 1) (n:=n);(iterate 5 exact rfl);exact a1;omega;omega)|(apply OV_load;exact rfl;first|exact Lv_ro rfl (d1.le (by first|exact Le.refl _|assumption|(repeat (first|assumption|(apply Le.trans;assumption))))) rfl|exact Lv_ro rfl (d2.le (by first|exact Le.refl _|assumption|(repeat (first|assumption|(apply Le.trans;assumption))))) rfl));exact QA)|(apply GP_real;exact rfl;kernel_rfl;(iterate 3 exact rfl);(first|(apply OpTo_buildSliceS (enc:=encDu) (n:=1) [((sli0,(⟨u,v,[]⟩ : FDuel)) : DuS)];(iterate 3 exact rfl);exact List.cons_ne_nil _ _;(iterate 4 exact rfl);exact fun _ => rfl;exact rfl;exact rfl;intro b5 h5 hle5 hs5;refine ⟨hle5,QN,?_⟩)|(apply OpTo_appendS (enc:=encDu) (xs:=dus0 P);(iterate 7 exact rfl);exact hs5;exact encDu_len;exact encDu_one;intro v1;exact QR;omega;exact rfl;intro A5 c5;refine ⟨Le.refl _,QN,?_⟩)))|(apply GP_done;kernel_rfl;exact rfl)|(apply GO_cond;exact rfl;all_goals (intro hc;try simp only [hcS,reduceCtorEq] at hc;try (exfalso;omega))))
    all_goals first
      | (exfalso;omega)
      | (have h4:=h3 A5 c5 h5 hle5
         refine GO_fit QS QT (h4))
  · have e:=pairD_last (l:=l) (k:=k) (by omega) (by omega)
    rw [e]
    clear ih hpl
    refine GO_relC (enc:=encDu) (e:=24) (sz:=3) (n:=(pairD l).length) (xs:=dus0 (pairD l)) encDu_len (dus0_len _) QK ?_
    intro A9 c9 h9 hle9 e9 hnc9 hs9
    cases e9
    repeat' (first|apply GO_seq|apply GO_region|apply GOl_nil|(apply GO_exit;exact rfl)|(apply GOl_add;(iterate 3 exact rfl);omega;exact rfl;exact rfl)|(apply GOl_pv;(iterate 3 exact rfl))|(apply GO_cond;exact rfl;all_goals (intro hc;try simp only [hcS,reduceCtorEq] at hc;try (exfalso;omega))))
    all_goals first
      | (exfalso;omega)
      | (exact GO_retR1 rfl rfl rfl ⟨⟨⟨A1,(pairD l).length,c1⟩,dus0 (pairD l)⟩,rfl,⟨dus0_at (pairD_ls l) hs9,hnc9⟩,dus0_duels _⟩)
theorem new21_c (h : Ro) (A : Option Addr) (n c : Nat) (cs : List Int) (t : FTie) (hx : SlOf encI 1 h A n cs) (hn : n ≤ 1000000) : Res Tryz.prog 15 #[.slice A n c,tieV t] h (fun u h' => BrOut h' u (newB cs t).1 (newB cs t).2):=by
  refine Res_intro (args:=[_,_]) ts_ok Go.Proofs.Tryz.func15 rfl rfl fun w0 X0 => ?_
  have hlen:=hx.len
  have hr:=rules21_c h t
  have hpo:=power21_c h n
  have hdi:=different21_c h A n c cs hx hn
  have hpa:=pairs21_c h A n c cs hx hn
  by_cases hT : IsTie t
  · rw [decide_eq_true hT] at hr
    by_cases hk : IsPow cs.length ∧ ClubsOk cs
    · rw [newB_good hT hk]
      rw [hlen] at hk
      rw [decide_eq_true hk.1] at hpo
      rw [decide_eq_true hk.2] at hdi
      dsimp only
      repeat' (first|apply GO_seq|apply GO_skip|apply GO_region|apply GOl_nil|(apply GOl_to;(iterate 3 exact rfl);apply OpTo_box (e:=26);exact rfl;intro b3)|(apply GOl_to;(iterate 3 exact rfl);apply OpTo_alloc (e:=36);exact rfl;intro b4)|(apply GOl_pv;(iterate 3 exact rfl))|(apply GOl_load;exact rfl;exact Ld_blk rfl QM rfl;exact rfl;exact rfl)|(apply GOl_to;(iterate 3 exact rfl);(first|(apply OpTo_val;exact rfl;exact has33;exact hr;skip)|(apply OpTo_val;exact rfl;exact has41;exact hpo;skip)|(apply OpTo_val;exact rfl;exact has42;exact hdi;skip)))|(apply GO_drawp (n:=5) [0,1,2,3,4,5,6] [(0,0),(1,0),(2,1),(3,1),(4,0),(5,1),(6,0)];kernel_rfl)|(apply GP_pv;exact rfl;kernel_rfl;(iterate 3 exact rfl))|(apply GP_loadB;exact rfl;kernel_rfl;(iterate 3 exact rfl);exact QM;exact rfl;exact rfl)|(apply GP_real;exact rfl;kernel_rfl;(iterate 3 exact rfl);(first|(apply OpTo_store;(iterate 3 exact rfl);exact QR;(iterate 3 exact rfl);refine ⟨Le.refl _,QN,?_⟩)|(apply OpTo_res;exact rfl;exact has43;exact hpa;rintro v3 h3 hle3 ⟨r,rfl,hr3,hd3⟩;refine ⟨hle3,QN,?_⟩)|(apply OpTo_buildSliceS (enc:=encRd) (n:=1) [r];(iterate 3 exact rfl);exact List.cons_ne_nil _ _;(iterate 4 exact rfl);exact fun _ => rfl;exact rfl;exact rfl;intro b5 h5 hle5 hs5;refine ⟨hle5,QN,?_⟩)))|(apply GP_done;kernel_rfl;exact rfl)|(apply GO_cond;exact rfl;all_goals (intro hc;try simp only [hcS,reduceCtorEq] at hc;try (exfalso;omega))))
      all_goals first
        | (exfalso;simp at hc;done)
        | (exact GO_retRC2 rfl rfl rfl QM rfl rfl rfl (brOut_one hs5 (hr3.le hle5) hd3))
    · rw [newB_bad hT hk]
      rw [hlen] at hk
      dsimp only
      clear hpa
      by_cases hp : IsPow n
      · rw [decide_eq_true hp] at hpo
        rw [decide_eq_false (fun w => hk ⟨hp,w⟩)] at hdi
        repeat' (first|apply GO_seq|apply GO_skip|apply GO_region|apply GOl_nil|(apply GOl_to;(iterate 3 exact rfl);apply OpTo_box (e:=26);exact rfl;intro b3)|(apply GOl_to;(iterate 3 exact rfl);apply OpTo_alloc (e:=36);exact rfl;intro b4)|(apply GOl_pv;(iterate 3 exact rfl))|(apply GOl_load;exact rfl;exact Ld_blk rfl QM rfl;exact rfl;exact rfl)|(apply GOl_to;(iterate 3 exact rfl);(first|(apply OpTo_store;(iterate 3 exact rfl);exact QR;(iterate 3 exact rfl);skip)|(apply OpTo_val;exact rfl;exact has33;exact hr;skip)|(apply OpTo_val;exact rfl;exact has41;exact hpo;skip)|(apply OpTo_val;exact rfl;exact has42;exact hdi;skip)))|(apply GO_cond;exact rfl;all_goals (intro hc;try simp only [hcS,reduceCtorEq] at hc;try (exfalso;omega))))
        all_goals first
          | (exfalso;simp at hc;done)
          | (exact GO_retRC2 rfl rfl rfl QM rfl rfl rfl (brOut_zero _ _))
      · rw [decide_eq_false hp] at hpo
        clear hdi
        repeat' (first|apply GO_seq|apply GO_skip|apply GO_region|apply GOl_nil|(apply GOl_to;(iterate 3 exact rfl);apply OpTo_box (e:=26);exact rfl;intro b3)|(apply GOl_to;(iterate 3 exact rfl);apply OpTo_alloc (e:=36);exact rfl;intro b4)|(apply GOl_unwanted;exact rfl;exact rfl)|(apply GOl_pv;(iterate 3 exact rfl))|(apply GOl_load;exact rfl;exact Ld_blk rfl QM rfl;exact rfl;exact rfl)|(apply GOl_to;(iterate 3 exact rfl);(first|(apply OpTo_store;(iterate 3 exact rfl);exact QR;(iterate 3 exact rfl);skip)|(apply OpTo_val;exact rfl;exact has33;exact hr;skip)|(apply OpTo_val;exact rfl;exact has41;exact hpo;skip)))|(apply GO_cond;exact rfl;all_goals (intro hc;try simp only [hcS,reduceCtorEq] at hc;try (exfalso;omega))))
        all_goals first
          | (exfalso;simp at hc;done)
          | (exact GO_retRC2 rfl rfl rfl QM rfl rfl rfl (brOut_zero _ _))
  · rw [decide_eq_false hT] at hr
    rw [newB_tie hT]
    dsimp only
    repeat' (first|apply GO_seq|apply GO_region|apply GOl_nil|(apply GOl_to;(iterate 3 exact rfl);apply OpTo_box (e:=26);exact rfl;intro b3)|(apply GOl_to;(iterate 3 exact rfl);apply OpTo_alloc (e:=36);exact rfl;intro b4)|(apply GOl_pv;(iterate 3 exact rfl))|(apply GOl_load;exact rfl;exact Ld_blk rfl QM rfl;exact rfl;exact rfl)|(apply GOl_to;(iterate 3 exact rfl);(first|(apply OpTo_store;(iterate 3 exact rfl);exact QR;(iterate 3 exact rfl);skip)|(apply OpTo_val;exact rfl;exact has33;exact hr;skip)))|(apply GO_cond;exact rfl;all_goals (intro hc;try simp only [hcS,reduceCtorEq] at hc;try (exfalso;omega))))
    all_goals first
      | (exfalso;simp at hc;done)
      | (exact GO_retRC2 rfl rfl rfl QM rfl rfl rfl (brOut_zero _ _))
end Go.Hw
set_option linter.unusedVariables false
set_option linter.unusedSimpArgs false
set_option maxRecDepth 100000
set_option maxHeartbeats 8000000
namespace Go.Hw
open Go
attribute [local irreducible] GO GOl GDp Val Fn Res CellsAt ValE Blk OwnS MapA OwnPf Has Yl
open Go.Proofs (Tryz.prog)
def WinsOut (h : Ro) (u : Value) : Option (List Int) → Prop
  | none => u = .tuple #[.slice none 0 0,.bool false]
  | some cs => ∃ A c,u = .tuple #[.slice A cs.length c,.bool true] ∧ cs.length ≤ c ∧ SlOf encI 1 h A cs.length cs
theorem winners21_c (h : Ro) (A : Option Addr) (n c : Nat) (l : List DuS) (t : FTie) (hx : DusAt h A n l) (hn : n ≤ 128) (hg : ∀ p ∈ l,DuG h p.1 p.2) : Res Tryz.prog 55 #[.slice A n c,tieV t] h (fun u h' => WinsOut h' u (winsR (duels l) t)):=by
  refine Res_intro (args:=[_,_]) ts_ok Go.Proofs.Tryz.func55 rfl rfl fun w0 X0 => ?_
  have hlen:=hx.row.len
  have hrow:=hx.row
  repeat' (first|apply GO_seq|apply GO_block|apply GO_region|apply GOl_nil|(apply GOl_to;(iterate 3 exact rfl);apply OpTo_box (e:=26);exact rfl;intro b3)|(apply GOl_pv;(iterate 3 exact rfl))|(apply GOl_to;(iterate 3 exact rfl);(first|(apply OpTo_buildSliceO (n:=0);(iterate 3 exact rfl);exact List.cons_ne_nil _ _;(iterate 6 exact rfl);intro b1;skip))))
  refine GO_loopT (X:=Nat × List Int × Option Addr × Nat × Ro) (fun x => x.1 ≤ n ∧ Le h x.2.2.2.2 ∧ winsR (duels (l.take x.1)) t = some x.2.1) (fun x => n - x.1)
    (fun x => [(7,.int .i64 x.1),(6,.slice x.2.2.1 x.2.1.length x.2.2.2.1),(0,.slice A n c),(3,ptrB b3)])
    (fun x => [Blk b3 26 (tieC t),OwnS 3 1 (.slice x.2.2.1 x.2.1.length x.2.2.2.1) x.2.1.length (x.2.1.flatMap encI)]) (fun x => x.2.2.2.2) (0,[],some ⟨b1,0,none⟩,0,h) ⟨by dsimp only;omega,Le.refl _,rfl⟩ QS QT rfl ?_
  rintro ⟨k,cs,A1,c1,h1⟩ ⟨hk,hle,hw⟩ ih
  dsimp only at hk hle hw ih ⊢
  have hwl:=winsR_len hw
  rw [duels_len,List.length_take] at hwl
  by_cases hkn : k < n
  · have a1:=hrow.addrD hkn
    have c7 : CellsAt h1 ((addrD A).add (k * ty24.size)) (encDu (l.getD k du0)):=(hrow.cellsD du0 hkn).le hle
    have hm:=mem7 du0 (show k < l.length by omega)
    have hsn:=dus_getD l (j:=k) (by omega)
    generalize l.getD k du0 = p at *
    have hgp:=(hg p hm).le hle
    obtain ⟨ps,pd⟩:=p
    dsimp only at hgp hsn
    have hde : Res Tryz.prog 27 #[duelV ps pd,tieV t] h1 (fun u _ => u = winV pd t):=(decided_c h1 ps pd t hgp.at' (by have:=hgp.few;omega)).mono fun u h' _ ⟨c,b,e,k⟩ => k hgp
    have hws:=winsR_snoc (t:=t) pd (duels (l.take k))
    rw [hw,← hsn] at hws
    have hmd : pd ∈ duels l:=List.mem_map.2 ⟨(ps,pd),hm,rfl⟩
    cases hwd : winD pd t with
    | none =>
      rw [winsR_stop hmd hwd]
      obtain ⟨q,hq⟩:=winV_none hwd
      rw [hq] at hde
      clear ih hws hq
      repeat' (first|apply GO_seq|apply GO_skip|apply GO_block|apply GO_region|apply GOl_nil|(apply GOl_pv;(iterate 3 exact rfl))|(apply GO_drawp (n:=5) [0,1,2,3,4,5,6,7,9,8,10] [(0,0),(1,0),(2,0),(3,0),(4,0),(5,1),(6,0),(7,0),(8,0),(9,0),(10,0)];kernel_rfl)|(apply GP_pv;exact rfl;kernel_rfl;(iterate 3 exact rfl))|(apply GP_loadB;exact rfl;kernel_rfl;(iterate 3 exact rfl);exact QM;exact rfl;exact rfl)|(apply GP_ov;exact rfl;kernel_rfl;exact rfl;exact rfl;(first|(apply OV_idxS (j:=k) (n:=n);(iterate 5 exact rfl);exact a1;(with_reducible exact rfl);omega)|(apply OV_load;exact rfl;exact Lv_ro rfl c7 rfl));exact QA)|(apply GP_real;exact rfl;kernel_rfl;(iterate 3 exact rfl);(first|(apply OpTo_res;exact rfl;exact has27;exact hde;rintro v2 h2 hle2 rfl;refine ⟨hle2,QN,?_⟩)))|(apply GP_done;kernel_rfl;exact rfl)|(apply GO_cond;exact rfl;all_goals (intro hc;try simp only [hcS,reduceCtorEq] at hc;try (exfalso;omega))))
      all_goals first
        | (exfalso;omega)
        | (exfalso;simp at hc;done)
        | (exact GO_retR2 rfl rfl rfl rfl rfl)
    | some w =>
      rw [winV_some hwd] at hde
      rw [hwd] at hws
      dsimp only at hws
      have h3:=fun A5 c5 h' (hl : Le h1 h') => ih (k + 1,cs ++ [w],A5,c5,h') ⟨by dsimp only;omega,hle.trans hl,hws⟩ (by dsimp only;omega)
      dsimp only at h3
      rw [List.length_append] at h3
      clear ih hws
      repeat' (first|apply GO_seq|apply GO_skip|apply GO_inBlock|apply GO_block|apply GO_region|apply GOl_nil|(apply GOl_add;(iterate 3 exact rfl);omega;exact rfl;exact rfl)|(apply GOl_pv;(iterate 3 exact rfl))|(apply GOl_to;(iterate 3 exact rfl);(first|(apply OpTo_buildSliceS (enc:=encI) (n:=1) [w];(iterate 3 exact rfl);exact List.cons_ne_nil _ _;(iterate 4 exact rfl);exact fun _ => rfl;exact rfl;exact rfl;intro b5 h5 hle5 hs5;skip)|(apply OpTo_appendS (enc:=encI) (xs:=cs);(iterate 7 exact rfl);exact hs5;exact fun _ => rfl;exact fun x => allOne_ok rfl;intro v1;exact QR;omega;exact rfl;intro A5 c5;skip)))|(apply GO_drawp (n:=5) [0,1,2,3,4,5,6,7,9,8,10] [(0,0),(1,0),(2,0),(3,0),(4,0),(5,1),(6,0),(7,0),(8,0),(9,0),(10,0)];kernel_rfl)|(apply GP_pv;exact rfl;kernel_rfl;(iterate 3 exact rfl))|(apply GP_loadB;exact rfl;kernel_rfl;(iterate 3 exact rfl);exact QM;exact rfl;exact rfl)|(apply GP_ov;exact rfl;kernel_rfl;exact rfl;exact rfl;(first|(apply OV_idxS (j:=k) (n:=n);(iterate 5 exact rfl);exact a1;(with_reducible exact rfl);omega)|(apply OV_load;exact rfl;exact Lv_ro rfl c7 rfl));exact QA)|(apply GP_real;exact rfl;kernel_rfl;(iterate 3 exact rfl);(first|(apply OpTo_res;exact rfl;exact has27;exact hde;rintro v2 h2 hle2 rfl;refine ⟨hle2,QN,?_⟩)))|(apply GP_done;kernel_rfl;exact rfl)|(apply GO_cond;exact rfl;all_goals (intro hc;try simp only [hcS,reduceCtorEq] at hc;try (exfalso;omega))))
      all_goals first
        | (exfalso;omega)
        | (exfalso;simp at hc;done)
        | (have h4:=h3 A5 c5 h5 (hle2.trans hle5)
           refine GO_fit QS QT (h4))
  · rw [List.take_of_length_le (by omega)] at hw
    rw [hw]
    clear ih
    refine GO_relC (enc:=encI) (e:=3) (sz:=1) (n:=cs.length) (xs:=cs) (fun _ => rfl) rfl QK ?_
    intro A7 c7 h7 hle7 e7 hnc7 hs7
    cases e7
    repeat' (first|apply GO_seq|apply GO_region|apply GOl_nil|(apply GO_exit;exact rfl)|(apply GOl_pv;(iterate 3 exact rfl))|(apply GO_cond;exact rfl;all_goals (intro hc;try simp only [hcS,reduceCtorEq] at hc;try (exfalso;omega))))
    all_goals first
      | (exfalso;omega)
      | (exact GO_retR2 rfl rfl rfl rfl ⟨A1,c1,rfl,hnc7,hs7⟩)
theorem legs21_c (h : Ro) (s : Sli) (l : List RdS) (t : FTie) (hb : RdsAt h s.A s.n l) (hs : BrSm s l) (hok : ∀ r ∈ rounds l,RoundOk r t) : Res Tryz.prog 54 #[brV s t] h (fun u h' => ∃ A c,u = .slice A (legsL (rounds l)).length c ∧ SlOf resC 13 h' A (legsL (rounds l)).length (legsL (rounds l))):=by
  refine Res_intro (args:=[_]) ts_ok Go.Proofs.Tryz.func54 rfl rfl fun w0 X0 => ?_
  have hrow:=hb.row
  have hlen:=hrow.len
  have hnn:=hs.few
  repeat' (first|apply GO_seq|apply GO_block|apply GO_region|apply GOl_nil|(apply GOl_to;(iterate 3 exact rfl);apply OpTo_box (e:=36);exact rfl;intro b2)|(apply GOl_pv;(iterate 3 exact rfl))|(apply GOl_to;(iterate 3 exact rfl);(first|(apply OpTo_buildSliceO (n:=0);(iterate 3 exact rfl);exact List.cons_ne_nil _ _;(iterate 6 exact rfl);intro b1;skip))))
  refine GO_loopT (X:=Nat × Option Addr × Nat) (fun x => x.1 ≤ s.n) (fun x => s.n - x.1)
    (fun x => [(4,.int .i64 x.1),(3,.slice x.2.1 (legsL ((rounds l).take x.1)).length x.2.2),(1,ptrB b2)])
    (fun x => [Blk b2 36 (brC s t),OwnS 40 13 (.slice x.2.1 (legsL ((rounds l).take x.1)).length x.2.2) (legsL ((rounds l).take x.1)).length ((legsL ((rounds l).take x.1)).flatMap resC)]) (fun _ => h) (0,some ⟨b1,0,none⟩,0) (by dsimp only;omega) QS QT rfl ?_
  rintro ⟨i,A1,c1⟩ hi ih
  dsimp only at hi ih ⊢
  have hfew:=legs_few hs hb (i:=i) fun r hr => hok r (List.mem_of_mem_take hr)
  by_cases hin : i < s.n
  · have ra:=hrow.addrD hin
    have rc : CellsAt h ((addrD s.A).add (i * ty53.size)) (encRd (l.getD i rd0)):=hrow.cellsD rd0 hin
    have hrm:=mem7 rd0 (show i < l.length by omega)
    have hri:=hb.each _ hrm
    have hrn:=hs.each _ hrm
    have htk:=take_rounds l (i:=i) (by omega)
    have hro:=hok (duels (l.getD i rd0).2) (List.mem_map.2 ⟨_,hrm,rfl⟩)
    generalize l.getD i rd0 = R at *
    have hRl:=hri.1.row.len
    have hRrow:=hri.1.row
    have ih1:=fun A5 c5 => ih (i + 1,A5,c5) (by dsimp only;omega) (by dsimp only;omega)
    dsimp only at ih1
    rw [htk,legsL_snoc] at ih1
    generalize legsL ((rounds l).take i) = P at *
    clear ih htk
    repeat' (first|apply GO_seq|apply GO_skip|apply GO_block|apply GO_region|apply GOl_nil|(apply GOl_pv;(iterate 3 exact rfl))|(apply GOl_load;exact rfl;exact Ld_blk rfl QM rfl;exact rfl;exact rfl)|(apply GO_cond;exact rfl;all_goals (intro hc;try simp only [hcS,reduceCtorEq] at hc;try (exfalso;omega))))
    all_goals (try (exfalso;omega))
    refine GO_loopT (X:=Nat × Option Addr × Nat) (fun x => x.1 ≤ R.1.n) (fun x => R.1.n - x.1)
      (fun x => [(5,.int .i64 x.1),(4,.int .i64 i),(3,.slice x.2.1 (P ++ legsR (duels (R.2.take x.1))).length x.2.2),(1,ptrB b2)])
      (fun x => [Blk b2 36 (brC s t),OwnS 40 13 (.slice x.2.1 (P ++ legsR (duels (R.2.take x.1))).length x.2.2) (P ++ legsR (duels (R.2.take x.1))).length ((P ++ legsR (duels (R.2.take x.1))).flatMap resC)]) (fun _ => h) (0,A1,c1) (by dsimp only;omega) (by rw [show legsR (duels (R.2.take 0)) = [] from rfl,List.append_nil];exact QS) (by rw [show legsR (duels (R.2.take 0)) = [] from rfl,List.append_nil];exact QT) rfl ?_
    rintro ⟨j,A2,c2⟩ hj ihj
    dsimp only at hj ihj ⊢
    have hqf:=legsR_few (t:=t) (l:=duels (R.2.take j)) (fun d hd => hro d (by rw [duels_take] at hd;exact List.mem_of_mem_take hd)) (by rw [duels_len,List.length_take];omega)
    by_cases hjn : j < R.1.n
    · have a1:=hRrow.addrD hjn
      have c7 : CellsAt h ((addrD R.1.A).add (j * ty24.size)) (encDu (R.2.getD j du0)):=hRrow.cellsD du0 hjn
      have hm:=mem7 du0 (show j < R.2.length by omega)
      have hda:=hri.1.each _ hm
      have hsn:=dus_getD R.2 (j:=j) (by omega)
      have hdd:=(hro (R.2.getD j du0).2 (List.mem_map.2 ⟨_,hm,rfl⟩)).1
      generalize R.2.getD j du0 = p at *
      obtain ⟨ps,pd⟩:=p
      have hdl:=hda.len
      have hsl:=hda.1
      dsimp only at hdl hsn hdd hsl
      have hp2:=duelOk_len hdd
      have h5:=fun A5 c5 => ihj (j + 1,A5,c5) (by dsimp only;omega) (by dsimp only;omega)
      dsimp only at h5
      rw [hsn,legsR_snoc,← List.append_assoc] at h5
      have hQ : (P ++ legsR (duels (R.2.take j))).length ≤ 30000:=by rw [List.length_append];omega
      generalize P ++ legsR (duels (R.2.take j)) = Q at *
      have e9 : (Q ++ pd.ls).length = Q.length + ps.n:=by rw [List.length_append,hdl]
      rw [e9] at h5
      have hq63 : Q.length + ps.n ≤ 1000000000:=by omega
      clear ihj ih1
      repeat' (first|apply GO_seq|apply GO_skip|apply GO_inBlock|apply GO_block|apply GO_region|apply GOl_nil|(apply GOl_add;(iterate 3 exact rfl);omega;exact rfl;exact rfl)|(apply GOl_pv;(iterate 3 exact rfl))|(apply GOl_load;exact rfl;exact Ld_blk rfl QM rfl;exact rfl;exact rfl)|(apply GOl_ov;exact rfl;exact rfl;(first|(apply OV_idxS (j:=i) (n:=s.n);(iterate 5 exact rfl);exact ra;(with_reducible exact rfl);omega)|(apply OV_idxS (j:=j) (n:=R.1.n);(iterate 5 exact rfl);exact a1;(with_reducible exact rfl);omega)|(apply OV_load;exact rfl;first|exact Lv_ro rfl rc rfl|exact Lv_roF rfl c7 rfl));exact QA)|(apply GOl_to;(iterate 3 exact rfl);(first|(apply OpTo_appendS (enc:=resC) (xs:=Q) (ys:=pd.ls);(iterate 7 exact rfl);exact hsl;exact resC_len;exact resC_one;intro v1;exact QR;exact hq63;exact rfl;intro A5 c5;skip)))|(apply GO_cond;exact rfl;all_goals (intro hc;try simp only [hcS,reduceCtorEq] at hc;try (exfalso;omega))))
      all_goals first
        | (exfalso;omega)
        | (have h9:=h5 A5 c5
           refine GO_fit QS QT (h9))
    · rw [List.take_of_length_le (by omega)]
      have h9:=ih1 A2 c2
      clear ihj ih1
      repeat' (first|apply GO_seq|apply GO_inBlock|apply GO_region|apply GOl_nil|(apply GO_exit;exact rfl)|(apply GOl_add;(iterate 3 exact rfl);omega;exact rfl;exact rfl)|(apply GOl_pv;(iterate 3 exact rfl))|(apply GOl_load;exact rfl;exact Ld_blk rfl QM rfl;exact rfl;exact rfl)|(apply GOl_ov;exact rfl;exact rfl;(first|(apply OV_idxS (j:=i) (n:=s.n);(iterate 5 exact rfl);exact ra;(with_reducible exact rfl);omega)|(apply OV_load;exact rfl;exact Lv_ro rfl rc rfl));exact QA)|(apply GO_cond;exact rfl;all_goals (intro hc;try simp only [hcS,reduceCtorEq] at hc;try (exfalso;omega))))
      all_goals first
        | (exfalso;omega)
        | (refine GO_fit QS QT (h9))
  · rw [List.take_of_length_le (by rw [rounds_len];omega)]
    clear ih
    refine GO_relC (enc:=resC) (e:=40) (sz:=13) (n:=(legsL (rounds l)).length) (xs:=legsL (rounds l)) resC_len rfl QK ?_
    intro A9 c9 h9 hle9 e9 hnc9 hs9
    cases e9
    repeat' (first|apply GO_seq|apply GO_region|apply GOl_nil|(apply GO_exit;exact rfl)|(apply GOl_pv;(iterate 3 exact rfl))|(apply GOl_load;exact rfl;exact Ld_blk rfl QM rfl;exact rfl;exact rfl)|(apply GO_cond;exact rfl;all_goals (intro hc;try simp only [hcS,reduceCtorEq] at hc;try (exfalso;omega))))
    all_goals first
      | (exfalso;omega)
      | (exact GO_retR1 rfl rfl rfl ⟨_,_,rfl,hs9⟩)
end Go.Hw
set_option linter.unusedVariables false
set_option linter.unusedSimpArgs false
set_option maxRecDepth 100000
set_option maxHeartbeats 8000000
namespace Go.Hw
open Go
attribute [local irreducible] GO GOl GDp Val Fn Res CellsAt ValE Blk OwnS MapA OwnPf Has Yl
open Go.Proofs (Tryz.prog)
theorem sameR_no {x y : List DuS} {k : Nat} (hx : k < x.length) (hy : k < y.length) (q : ¬ ((x.getD k du0).2.a = (y.getD k du0).2.a ∧ (x.getD k du0).2.b = (y.getD k du0).2.b)) : ¬ sameR (duels x) (duels y):=fun w => q (by
  unfold sameR duels at w
  rw [List.map_map,List.map_map] at w
  have : (x.map ((fun d : FDuel => (d.a,d.b)) ∘ fun p => p.2))[k]? = (y.map ((fun d : FDuel => (d.a,d.b)) ∘ fun p => p.2))[k]?:=by rw [w]
  rw [List.getElem?_map,List.getElem?_map,List.getElem?_eq_getElem hx,List.getElem?_eq_getElem hy] at this
  rw [List.getD_eq_getElem?_getD,List.getD_eq_getElem?_getD,List.getElem?_eq_getElem hx,List.getElem?_eq_getElem hy]
  simpa using this)
theorem sameR_step {x y : List DuS} {k : Nat} (hx : k < x.length) (hy : k < y.length) (hI : sameR (duels (x.take k)) (duels (y.take k))) (he : (x.getD k du0).2.a = (y.getD k du0).2.a ∧ (x.getD k du0).2.b = (y.getD k du0).2.b) : sameR (duels (x.take (k + 1))) (duels (y.take (k + 1))):=by
  rw [dus_getD x hx,dus_getD y hy]
  generalize x.getD k du0 = u at *
  generalize y.getD k du0 = v at *
  unfold sameR at hI ⊢
  rw [List.map_append,List.map_append,hI]
  simp [he.1,he.2]
open Classical in
theorem valid21_c (h : Ro) (s : Sli) (l : List RdS) (t : FTie) (hb : RdsAt h s.A s.n l) (hs : BrSm s l) : Res Tryz.prog 53 #[brV s t] h (fun u _ => u = .bool (decide (BrOk ⟨t,rounds l⟩))):=by
  refine Res_intro (args:=[_]) ts_ok Go.Proofs.Tryz.func53 rfl rfl fun w0 X0 => ?_
  have hrow:=hb.row
  have hlen:=hrow.len
  have hn:=hs.few
  have hrl : (rounds l).length = s.n:=by rw [rounds_len,hlen]
  obtain ⟨q,hqe⟩ : ∃ q : Bool,q = decide (BrOk ⟨t,rounds l⟩):=⟨_,rfl⟩
  rw [← hqe]
  have hiff:=fun (_ : Unit) => brOk_iff ⟨t,rounds l⟩
  dsimp only at hiff
  have hF : ¬ BrOk ⟨t,rounds l⟩ → q = false:=fun k => by rw [hqe,decide_eq_false k]
  have hT : BrOk ⟨t,rounds l⟩ → q = true:=fun k => by rw [hqe,decide_eq_true k]
  clear hqe
  have hr:=rules21_c h t
  by_cases ht : IsTie t
  case' neg =>
    rw [decide_eq_false ht] at hr
    have e:=hF fun k => ht ((hiff ()).1 k).1
    clear hiff hF hT
    repeat' (first|apply GO_seq|apply GO_region|apply GOl_nil|(apply GOl_unwanted;exact rfl;exact rfl)|(apply GOl_pv;(iterate 3 exact rfl))|(apply GOl_load;exact rfl;exact Ld_blk rfl QM rfl;exact rfl;exact rfl)|(apply GOl_to;(iterate 3 exact rfl);(first|(apply OpTo_box;exact rfl;intro b;skip)|(apply OpTo_val;exact rfl;exact has33;exact hr;skip)))|(apply GO_cond;exact rfl;all_goals (intro hc;try simp only [hcS,reduceCtorEq] at hc;try (exfalso;omega))))
    all_goals first
      | (exfalso;simp at hc;done)
      | (exact GO_retR1 rfl rfl rfl (by rw [e]))
  rw [decide_eq_true ht] at hr
  by_cases h0 : s.n = 0
  · have e:=hF fun k => ((hiff ()).1 k).2.1 (List.eq_nil_of_length_eq_zero (by omega))
    clear hiff hF hT
    repeat' (first|apply GO_seq|apply GO_region|apply GOl_nil|(apply GOl_unwanted;exact rfl;exact rfl)|(apply GOl_pv;(iterate 3 exact rfl))|(apply GOl_load;exact rfl;exact Ld_blk rfl QM rfl;exact rfl;exact rfl)|(apply GOl_to;(iterate 3 exact rfl);(first|(apply OpTo_box;exact rfl;intro b;skip)|(apply OpTo_val;exact rfl;exact has33;exact hr;skip)))|(apply GO_cond;exact rfl;all_goals (intro hc;try simp only [hcS,reduceCtorEq] at hc;try (exfalso;omega)))|(apply GOl_split;exact rfl;exact rfl;all_goals (intro hc;try simp only [hcS,reduceCtorEq] at hc;try (exfalso;omega))))
    all_goals first
      | (exfalso;simp at hc;done)
      | (exfalso;omega)
      | (exact GO_retR1 rfl rfl rfl (by rw [e]))
  have hh:=rounds_head l
  have ra:=hrow.addrD (show 0 < s.n by omega)
  have rc : CellsAt h ((addrD s.A).add (0 * ty53.size)) (encRd (l.getD 0 rd0)):=hrow.cellsD rd0 (show 0 < s.n by omega)
  have hrm:=mem7 rd0 (show 0 < l.length by omega)
  have hr0:=hb.each _ hrm
  have hr0n:=hs.each _ hrm
  rw [hh] at hiff
  generalize l.getD 0 rd0 = R0 at *
  have h0row:=hr0.1.row
  have h0len:=h0row.len
  have hpo:=power21d_c h R0.1.n
  have hcl0 : (clubsR (duels R0.2)).length = 2 * R0.1.n:=by rw [clubsR_len,duels_len,h0len]
  have hnz:=newB_zero (cs:=clubsR (duels R0.2)) ht
  rw [hcl0] at hnz
  by_cases hpw : IsPow (2 * R0.1.n)
  case' neg =>
    rw [decide_eq_false hpw] at hpo
    have e:=hF fun k => hpw (hnz.1 ((hiff ()).1 k).2.2.1).1
    clear hiff hF hT hnz
    repeat' (first|apply GO_seq|apply GO_region|apply GOl_nil|(apply GOl_pv;(iterate 3 exact rfl))|(apply GOl_load;exact rfl;exact Ld_blk rfl QM rfl;exact rfl;exact rfl)|(apply GOl_ov;exact rfl;exact rfl;(first|(apply OV_idxS (j:=0) (n:=s.n);(iterate 5 exact rfl);exact ra;omega;omega)|(apply OV_load;exact rfl;exact Lv_ro rfl rc rfl));exact QA)|(apply GOl_to;(iterate 3 exact rfl);(first|(apply OpTo_box;exact rfl;intro b;skip)|(apply OpTo_val;exact rfl;exact has33;exact hr;skip)|(apply OpTo_val;exact rfl;exact has41;exact hpo;skip)))|(apply GO_cond;exact rfl;all_goals (intro hc;try simp only [hcS,reduceCtorEq] at hc;try (exfalso;omega)))|(apply GOl_split;exact rfl;exact rfl;all_goals (intro hc;try simp only [hcS,reduceCtorEq] at hc;try (exfalso;omega))))
    all_goals first
      | (exfalso;simp at hc;done)
      | (exfalso;omega)
      | (exact GO_retR1 rfl rfl rfl (by rw [e]))
  rw [decide_eq_true hpw] at hpo
  have hnz2 : (newB (clubsR (duels R0.2)) t).2 = 0 ↔ ClubsOk (clubsR (duels R0.2)):=hnz.trans ⟨fun k => k.2,fun k => ⟨hpw,k⟩⟩
  clear hnz
  repeat' (first|apply GO_seq|apply GO_skip|apply GO_block|apply GO_region|apply GOl_nil|(apply GOl_to;(iterate 3 exact rfl);apply OpTo_box (e:=36);exact rfl;intro b1)|(apply GOl_pv;(iterate 3 exact rfl))|(apply GOl_load;exact rfl;exact Ld_blk rfl QM rfl;exact rfl;exact rfl)|(apply GOl_ov;exact rfl;exact rfl;(first|(apply OV_idxS (j:=0) (n:=s.n);(iterate 5 exact rfl);exact ra;omega;omega)|(apply OV_load;exact rfl;exact Lv_ro rfl rc rfl));exact QA)|(apply GOl_to;(iterate 3 exact rfl);(first|(apply OpTo_val;exact rfl;exact has33;exact hr;skip)|(apply OpTo_val;exact rfl;exact has41;exact hpo;skip)|(apply OpTo_buildSliceO (n:=0);(iterate 3 exact rfl);exact List.cons_ne_nil _ _;(iterate 6 exact rfl);intro b5;skip)))|(apply GO_cond;exact rfl;all_goals (intro hc;try simp only [hcS,reduceCtorEq] at hc;try (exfalso;omega)))|(apply GOl_split;exact rfl;exact rfl;all_goals (intro hc;try simp only [hcS,reduceCtorEq] at hc;try (exfalso;omega))))
  all_goals (try (exfalso;omega))
  all_goals (try (exfalso;simp at hc;done))
  refine GO_loopT (X:=Nat × Option Addr × Nat × Ro) (fun x => x.1 ≤ R0.1.n ∧ Le h x.2.2.2) (fun x => R0.1.n - x.1)
    (fun x => [(4,.int .i64 x.1),(3,.slice x.2.1 (2 * x.1) x.2.2.1),(1,ptrB b1)])
    (fun x => [Blk b1 36 (brC s t),OwnS 3 1 (.slice x.2.1 (2 * x.1) x.2.2.1) (2 * x.1) ((clubsR (duels (R0.2.take x.1))).flatMap encI)]) (fun x => x.2.2.2) (0,some ⟨b5,0,none⟩,0,h) ⟨by dsimp only;omega,Le.refl _⟩ QS QT rfl ?_
  rintro ⟨k,A1,c1,h1⟩ ⟨hk,hle⟩ ih
  dsimp only at hk hle ih ⊢
  have hcl : (clubsR (duels (R0.2.take k))).length = 2 * k:=by rw [clubsR_len,duels_len,List.length_take];omega
  by_cases hkn : k < R0.1.n
  · have a1:=h0row.addrD hkn
    have c7 : CellsAt h1 ((addrD R0.1.A).add (k * ty24.size)) (encDu (R0.2.getD k du0)):=(h0row.cellsD du0 hkn).le hle
    have rc1:=rc.le hle
    have hsn:=dus_getD R0.2 (j:=k) (by omega)
    generalize R0.2.getD k du0 = p at *
    have h3:=fun A5 c5 h' (hl : Le h1 h') => ih (k + 1,A5,c5,h') ⟨by dsimp only;omega,hle.trans hl⟩ (by dsimp only;omega)
    dsimp only at h3
    rw [hsn,clubsR_snoc] at h3
    rw [show 2 * (k + 1) = 2 * k + 2 by omega] at h3
    generalize clubsR (duels (R0.2.take k)) = cs at *
    clear ih hiff hF hT hsn hnz2
    repeat' (first|apply GO_seq|apply GO_skip|apply GO_inBlock|apply GO_block|apply GO_region|apply GOl_nil|(apply GOl_add;(iterate 3 exact rfl);omega;exact rfl;exact rfl)|(apply GOl_pv;(iterate 3 exact rfl))|(apply GOl_load;exact rfl;exact Ld_blk rfl QM rfl;exact rfl;exact rfl)|(apply GOl_ov;exact rfl;exact rfl;(first|(apply OV_idxS (j:=0) (n:=s.n);(iterate 5 exact rfl);exact ra;omega;omega)|(apply OV_load;exact rfl;first|exact Lv_ro rfl rc1 rfl|exact Lv_roF rfl c7 rfl));exact QA)|(apply GO_drawp (n:=7) [0,1,2,3,4,5,6,7,8,9,10,11,12,13,14,15,16,17,18,19] [(0,0),(1,0),(2,0),(3,0),(4,0),(5,0),(6,0),(7,0),(8,0),(9,0),(10,0),(11,0),(12,0),(13,0),(14,0),(15,0),(16,0),(17,1),(18,1),(19,0)];kernel_rfl)|(apply GP_pv;exact rfl;kernel_rfl;(iterate 3 exact rfl))|(apply GP_loadB;exact rfl;kernel_rfl;(iterate 3 exact rfl);exact QM;exact rfl;exact rfl)|(apply GP_ov;exact rfl;kernel_rfl;exact rfl;exact rfl;(first|(apply OV_idxS (j:=0) (n:=s.n);(iterate 5 exact rfl);exact ra;omega;omega)|(apply OV_idxS (j:=k) (n:=R0.1.n);(iterate 5 exact rfl);exact a1;(with_reducible exact rfl);omega)|(apply OV_load;exact rfl;first|exact Lv_ro rfl rc1 rfl|exact Lv_roF rfl c7 rfl));exact QA)|(apply GP_real;exact rfl;kernel_rfl;(iterate 3 exact rfl);(first|(apply OpTo_buildSliceS (enc:=encI) (n:=2) [p.2.a,p.2.b];(iterate 3 exact rfl);exact List.cons_ne_nil _ _;(iterate 4 exact rfl);exact fun _ => rfl;exact rfl;exact rfl;intro b5 h5 hle5 hs5;refine ⟨hle5,QN,?_⟩)|(apply OpTo_appendS (enc:=encI) (xs:=cs);(iterate 7 exact rfl);exact hs5;exact fun _ => rfl;exact fun x => allOne_ok rfl;intro v1;exact QR;omega;exact rfl;intro A5 c5;refine ⟨Le.refl _,QN,?_⟩)))|(apply GP_done;kernel_rfl;exact rfl)|(apply GO_cond;exact rfl;all_goals (intro hc;try simp only [hcS,reduceCtorEq] at hc;try (exfalso;omega))))
    all_goals first
      | (exfalso;omega)
      | (have h4:=h3 A5 c5 h5 hle5
         refine GO_fit QS QT (h4))
  rw [List.take_of_length_le (by omega)] at hcl ⊢
  have ek : k = R0.1.n:=by omega
  subst ek
  clear ih
  generalize clubsR (duels R0.2) = cs at *
  refine GO_relC (enc:=encI) (e:=3) (sz:=1) (n:=2 * R0.1.n) (xs:=cs) (fun _ => rfl) hcl QK ?_
  intro A7 c7 h7 hle7 e7 hnc7 hs7
  cases e7
  have hdi:=different21_c h7 A1 (2 * R0.1.n) c1 cs hs7 (by omega)
  have hle07 : Le h h7:=hle.trans hle7
  have rc7:=rc.le hle07
  by_cases hcc : ClubsOk cs
  case' neg =>
    rw [decide_eq_false hcc] at hdi
    have e:=hF fun k => hcc (hnz2.1 ((hiff ()).1 k).2.2.1)
    clear hiff hF hT hnz2
    repeat' (first|apply GO_seq|apply GO_region|apply GOl_nil|(apply GO_exit;exact rfl)|(apply GOl_pv;(iterate 3 exact rfl))|(apply GOl_load;exact rfl;exact Ld_blk rfl QM rfl;exact rfl;exact rfl)|(apply GOl_ov;exact rfl;exact rfl;(first|(apply OV_idxS (j:=0) (n:=s.n);(iterate 5 exact rfl);exact ra;omega;omega)|(apply OV_load;exact rfl;exact Lv_ro rfl rc7 rfl));exact QA)|(apply GOl_to;(iterate 3 exact rfl);(first|(apply OpTo_val;exact rfl;exact has42;exact hdi;skip)))|(apply GO_cond;exact rfl;all_goals (intro hc;try simp only [hcS,reduceCtorEq] at hc;try (exfalso;omega))))
    all_goals first
      | (exfalso;omega)
      | (exfalso;simp at hc;done)
      | (exact GO_retR1 rfl rfl rfl (by rw [e]))
  rw [decide_eq_true hcc] at hdi
  have hT2:=fun a b c => hT ((hiff ()).2 ⟨ht,fun k => h0 (by rw [k] at hrl;exact hrl.symm),hnz2.2 hcc,a,b,c⟩)
  have hF2 : ∀ i,i < s.n → ¬ RoundOk ((rounds l).getD i []) t → q = false:=fun i hi k => hF fun w => k (((hiff ()).1 w).2.2.2.1 _ (by
    rw [List.getD_eq_getElem?_getD,List.getElem?_eq_getElem (show i < (rounds l).length by omega)]
    exact List.getElem_mem _))
  have hF3 : ∀ i,i < s.n → ¬ ChainAt t (rounds l) i → q = false:=fun i hi k => hF fun w => k (((hiff ()).1 w).2.2.2.2.1 i (by omega))
  have hF4 : ∀ x ∈ legsL (rounds l),¬ SameCup x ((legsL (rounds l)).headD res0) → q = false:=fun x hx k => hF fun w => k (((hiff ()).1 w).2.2.2.2.2 x hx)
  repeat' (first|apply GO_seq|apply GO_skip|apply GO_block|apply GO_region|apply GOl_nil|(apply GO_exit;exact rfl)|(apply GOl_pv;(iterate 3 exact rfl))|(apply GOl_load;exact rfl;exact Ld_blk rfl QM rfl;exact rfl;exact rfl)|(apply GOl_ov;exact rfl;exact rfl;(first|(apply OV_idxS (j:=0) (n:=s.n);(iterate 5 exact rfl);exact ra;omega;omega)|(apply OV_load;exact rfl;exact Lv_ro rfl rc7 rfl));exact QA)|(apply GOl_to;(iterate 3 exact rfl);(first|(apply OpTo_val;exact rfl;exact has42;exact hdi;skip)))|(apply GO_cond;exact rfl;all_goals (intro hc;try simp only [hcS,reduceCtorEq] at hc;try (exfalso;omega))))
  all_goals (try (exfalso;omega))
  all_goals (try (exfalso;simp at hc;done))
  clear hiff hF hT hh hs7 hr0 h0row h0len rc rc7 ra hrm hr0n hcl hk hkn hnz2 hdi hcc hpo hpw
  refine GO_loopT (X:=Nat × Ro) (fun x => x.1 ≤ s.n ∧ Le h x.2 ∧ ChkI t l x.1) (fun x => s.n - x.1)
    (fun x => [(5,.int .i64 x.1),(1,ptrB b1)]) (fun x => [Blk b1 36 (brC s t)])
    (fun x => x.2) (0,h7) ⟨by dsimp only;omega,hle07,⟨by simp,fun j hj => absurd hj (by dsimp only;omega)⟩⟩ QS QT rfl ?_
  rintro ⟨i,h3⟩ ⟨hi,hle3,hI⟩ ih
  dsimp only at hi hle3 hI ih ⊢
  by_cases hin : i < s.n
  case' neg =>
    have ei : i = s.n:=by omega
    have e1 : ∀ r ∈ rounds l,RoundOk r t:=fun r hr => hI.rounds r (by rw [List.take_of_length_le (by omega)];exact hr)
    have e2 : ∀ j,j < (rounds l).length → ChainAt t (rounds l) j:=fun j hj => hI.chain j (by omega)
    have hT3:=hT2 e1 e2
    have hfew:=legs_few hs hb (t:=t) (i:=s.n) fun r hr => e1 r (List.mem_of_mem_take hr)
    rw [List.take_of_length_le (by omega)] at hfew
    have hlg:=legs21_c h3 s l t (hb.le hle3) hs e1
    clear ih hI hF2 hF3 hT2 e1 e2
    generalize legsL (rounds l) = L at *
    repeat' (first|apply GO_seq|apply GO_block|apply GO_region|apply GOl_nil|(apply GO_exit;exact rfl)|(apply GOl_pv;(iterate 3 exact rfl))|(apply GOl_load;exact rfl;exact Ld_blk rfl QM rfl;exact rfl;exact rfl)|(apply GOl_to;(iterate 3 exact rfl);(first|(apply OpTo_res;exact rfl;exact has54;exact hlg;rintro v4 h4 hle4 ⟨A4,c4,rfl,hs4⟩;skip)))|(apply GO_cond;exact rfl;all_goals (intro hc;try simp only [hcS,reduceCtorEq] at hc;try (exfalso;omega))))
    all_goals (try (exfalso;omega))
    refine GO_loopT (X:=Nat) (fun k => k ≤ L.length ∧ ∀ x ∈ L.take k,SameCup x (L.headD res0)) (fun k => L.length - k) (fun k => [(16,.int .i64 k),(15,.slice A4 L.length c4)]) (fun _ => []) (fun _ => h4) 0 ⟨by omega,by simp⟩ QS QT rfl ?_
    rintro k ⟨hk,hK⟩ ihk
    by_cases hkn : k < L.length
    · have a1:=hs4.addrD hkn
      have d1 : CellsAt h4 ((addrD A4).add (k * ty40.size)) (resC (L.getD k res0)):=hs4.cellsD res0 hkn
      have d0 : CellsAt h4 ((addrD A4).add (0 * ty40.size)) (resC (L.getD 0 res0)):=hs4.cellsD res0 (show 0 < L.length by omega)
      have e0 : L.getD 0 res0 = L.headD res0:=by cases L <;> rfl
      have hmk:=mem7 res0 (show k < L.length by omega)
      have et:=take7 res0 (xs:=L) rfl hkn
      rw [e0] at d0
      have hF5:=hF4 _ hmk
      have h9:=fun (w : SameCup (L.getD k res0) (L.headD res0)) => ihk (k + 1) ⟨by omega,by
        rw [et]
        intro x hx
        rcases List.mem_append.1 hx with v|v
        · exact hK x v
        · rw [List.mem_singleton.1 v];exact w⟩ (by omega)
      generalize L.getD k res0 = x at *
      generalize L.headD res0 = y at *
      unfold SameCup at h9 hF5
      clear ihk hK hT3 hF4
      by_cases hS : x.g.s = y.g.s ∧ x.g.c = y.g.c
      · have h10:=h9 hS
        obtain ⟨hS1,hS2⟩:=hS
        clear h9 hF5
        repeat' (first|apply GO_seq|apply GO_skip|apply GO_inBlock|apply GO_block|apply GO_region|apply GOl_nil|(apply GOl_add;(iterate 3 exact rfl);omega;exact rfl;exact rfl)|(apply GOl_pv;(iterate 3 exact rfl))|(apply GO_drawp (n:=37) [0,1,2,3,4,5,6,7,8,9,10,11,12,13,14,15,16,17,18,19,20,21,22,23,24,25] [(0,0),(1,0),(2,0),(3,0),(4,0),(5,0),(6,0),(7,0),(8,0),(9,0),(10,0),(11,0),(12,0),(13,0),(14,0),(15,0),(16,0),(17,0),(18,0),(19,0),(20,0),(21,0),(22,0),(23,0),(24,0),(25,0)];kernel_rfl)|(apply GP_pv;exact rfl;kernel_rfl;(iterate 3 exact rfl))|(apply GP_ov;exact rfl;kernel_rfl;exact rfl;exact rfl;(first|(apply OV_idxS (j:=k) (n:=L.length);(iterate 5 exact rfl);exact a1;(with_reducible exact rfl);omega)|(apply OV_idxS (j:=0) (n:=L.length);(iterate 5 exact rfl);exact a1;omega;omega)|(apply OV_load;exact rfl;first|exact Lv_roF2 rfl d1 rfl|exact Lv_roF2 rfl d0 rfl));exact QA)|(apply GP_done;kernel_rfl;exact rfl)|(apply GP_split;(iterate 5 exact rfl);all_goals (intro hc;try simp only [hcS,reduceCtorEq] at hc;try (exfalso;omega)))|(apply GO_cond;exact rfl;all_goals (intro hc;try simp only [hcS,reduceCtorEq] at hc;try (exfalso;omega))))
        all_goals first
          | (exfalso;omega)
          | (refine GO_fit QS QT (h10))
      · have e:=hF5 hS
        clear h9 hF5
        repeat' (first|apply GO_seq|apply GO_skip|apply GO_block|apply GO_region|apply GOl_nil|(apply GOl_pv;(iterate 3 exact rfl))|(apply GO_drawp (n:=37) [0,1,2,3,4,5,6,7,8,9,10,11,12,13,14,15,16,17,18,19,20,21,22,23,24,25] [(0,0),(1,0),(2,0),(3,0),(4,0),(5,0),(6,0),(7,0),(8,0),(9,0),(10,0),(11,0),(12,0),(13,0),(14,0),(15,0),(16,0),(17,0),(18,0),(19,0),(20,0),(21,0),(22,0),(23,0),(24,0),(25,0)];kernel_rfl)|(apply GP_un;exact rfl;kernel_rfl;exact rfl;exact rfl)|(apply GP_pv;exact rfl;kernel_rfl;(iterate 3 exact rfl))|(apply GP_ov;exact rfl;kernel_rfl;exact rfl;exact rfl;(first|(apply OV_idxS (j:=k) (n:=L.length);(iterate 5 exact rfl);exact a1;(with_reducible exact rfl);omega)|(apply OV_idxS (j:=0) (n:=L.length);(iterate 5 exact rfl);exact a1;omega;omega)|(apply OV_load;exact rfl;first|exact Lv_roF2 rfl d1 rfl|exact Lv_roF2 rfl d0 rfl));exact QA)|(apply GP_done;kernel_rfl;exact rfl)|(apply GP_split;(iterate 5 exact rfl);all_goals (intro hc;try simp only [hcS,reduceCtorEq] at hc;try (exfalso;omega)))|(apply GO_cond;exact rfl;all_goals (intro hc;try simp only [hcS,reduceCtorEq] at hc;try (exfalso;omega))))
        all_goals first
          | (exact GO_retR1 rfl rfl rfl (by rw [e]))
          | (exfalso;exact hS ⟨by assumption,by assumption⟩)
          | (exfalso;omega)
    · rw [List.take_of_length_le (by omega)] at hK
      have e:=hT3 hK
      clear ihk hF4 hT3
      repeat' (first|apply GO_seq|apply GO_region|apply GOl_nil|(apply GO_exit;exact rfl)|(apply GOl_pv;(iterate 3 exact rfl))|(apply GO_cond;exact rfl;all_goals (intro hc;try simp only [hcS,reduceCtorEq] at hc;try (exfalso;omega))))
      all_goals first
        | (exfalso;omega)
        | (exact GO_retR1 rfl rfl rfl (by rw [e]))
  have ra:=hrow.addrD hin
  have rc : CellsAt h3 ((addrD s.A).add (i * ty53.size)) (encRd (l.getD i rd0)):=(hrow.cellsD rd0 hin).le hle3
  have hrm:=mem7 rd0 (show i < l.length by omega)
  have hri:=(hb.each _ hrm).le hle3
  have hrn:=hs.each _ hrm
  have hrleg:=hs.legs _ hrm
  have hgd:=rounds_getD l i
  have hgd1:=rounds_getD l (i + 1)
  have htk:=take_rounds l (i:=i) (by omega)
  have hF2i:=hF2 i hin
  have hF3i:=hF3 i hin
  rw [hgd] at hF2i
  generalize l.getD i rd0 = R at *
  have hRl:=hri.1.row.len
  have hRrow:=hri.1.row
  have ih1:=fun h' (hl : Le h3 h') (hro : RoundOk (duels R.2) t) (hch : ChainAt t (rounds l) i) => ih (i + 1,h') ⟨by dsimp only;omega,hle3.trans hl,⟨fun r hr => by
      dsimp only at hr
      rw [htk,List.mem_append,List.mem_singleton] at hr
      rcases hr with hr|hr
      · exact hI.rounds r hr
      · rw [hr];exact hro,fun j hj => by
      dsimp only at hj
      by_cases e : j = i
      · rw [e];exact hch
      · exact hI.chain j (by omega)⟩⟩ (by dsimp only;omega)
  dsimp only at ih1
  clear ih hI hT2 hF2 hF3 hF4 htk
  repeat' (first|apply GO_seq|apply GO_skip|apply GO_block|apply GO_region|apply GOl_nil|(apply GOl_pv;(iterate 3 exact rfl))|(apply GOl_load;exact rfl;exact Ld_blk rfl QM rfl;exact rfl;exact rfl)|(apply GO_cond;exact rfl;all_goals (intro hc;try simp only [hcS,reduceCtorEq] at hc;try (exfalso;omega))))
  all_goals (try (exfalso;omega))
  refine GO_loopT (X:=Nat × Ro) (fun x => x.1 ≤ R.1.n ∧ Le h3 x.2 ∧ ∀ d ∈ duels (R.2.take x.1),DuelFit t d) (fun x => R.1.n - x.1)
    (fun x => [(6,.int .i64 x.1),(5,.int .i64 i),(1,ptrB b1)]) (fun x => [Blk b1 36 (brC s t)])
    (fun x => x.2) (0,h3) ⟨by dsimp only;omega,Le.refl _,fun d hd => absurd hd (by dsimp only;rw [List.take_zero];simp [duels])⟩ QS QT rfl ?_
  rintro ⟨j,h4⟩ ⟨hj,hle4,hD⟩ ihj
  dsimp only at hj hle4 hD ihj ⊢
  have rc4:=rc.le hle4
  by_cases hjn : j < R.1.n
  · have a1:=hRrow.addrD hjn
    have c7 : CellsAt h4 ((addrD R.1.A).add (j * ty24.size)) (encDu (R.2.getD j du0)):=(hRrow.cellsD du0 hjn).le hle4
    have hm:=mem7 du0 (show j < R.2.length by omega)
    have hda:=(hri.1.each _ hm).le hle4
    have hleg:=hrleg _ hm
    have hsn:=dus_getD R.2 (j:=j) (by omega)
    generalize R.2.getD j du0 = p at *
    obtain ⟨ps,pd⟩:=p
    have hck:=fun h' (hl : Le h4 h') => check21_c h' ps pd t (hda.le hl)
    have hde:=decided_c h4 ps pd t hda hleg
    have hz:=checkD_zero (d:=pd) (t:=t)
    have hmd : pd ∈ duels R.2:=List.mem_map.2 ⟨_,hm,rfl⟩
    have hdl:=hda.len
    dsimp only at hdl hsn
    generalize checkD pd t = E at *
    by_cases hE : E = 0
    case' neg =>
      have e:=hF2i fun k => hE (hz.2 (k pd hmd).1)
      clear ihj ih1 hz hF2i hF3i
      repeat' (first|apply GO_seq|apply GO_skip|apply GO_block|apply GO_region|apply GOl_nil|(apply GOl_to;(iterate 3 exact rfl);apply OpTo_alloc (e:=24);exact rfl;intro bX)|(apply GOl_unwanted;exact rfl;exact rfl)|(apply GOl_pv;(iterate 3 exact rfl))|(apply GOl_load;exact rfl;exact Ld_blk rfl QM rfl;exact rfl;exact rfl)|(apply GOl_ov;exact rfl;exact rfl;(first|(apply OV_idxS (j:=i) (n:=s.n);(iterate 5 exact rfl);exact ra;(with_reducible exact rfl);omega)|(apply OV_idxS (j:=j) (n:=R.1.n);(iterate 5 exact rfl);exact a1;(with_reducible exact rfl);omega)|(apply OV_load;exact rfl;first|exact Lv_ro rfl rc4 rfl|exact Lv_ro rfl c7 rfl));exact QA)|(apply GOl_to;(iterate 3 exact rfl);(first|(apply OpTo_store;(iterate 3 exact rfl);exact QR;(iterate 3 exact rfl);skip)|(apply OpTo_res;exact rfl;exact has27;exact hde;rintro v5 h5 hle5 ⟨cw,okb,rfl,hwv⟩;skip)|(apply OpTo_val;exact rfl;exact has12;exact hck _ (by first|exact Le.refl _|assumption|(repeat (first|assumption|(apply Le.trans;assumption))));skip)))|(apply GO_cond;exact rfl;all_goals (intro hc;try simp only [hcS,reduceCtorEq] at hc;try (exfalso;omega)))|(apply GOl_split;exact rfl;exact rfl;all_goals (intro hc;try simp only [hcS,reduceCtorEq] at hc;try (exfalso;omega))))
      all_goals first
        | (exact GO_retR1 rfl rfl rfl (by rw [e]))
        | (exfalso;omega)
    have ho:=hz.1 hE
    subst hE
    have hdw : Res Tryz.prog 27 #[duelV ps pd,tieV t] h4 (fun u _ => u = winV pd t):=hde.mono fun u h' _ ⟨c,b,e,k⟩ => k (DuG.of hda ho)
    have h5:=fun h' (hl : Le h4 h') (hfit : DuelFit t pd) => ihj (j + 1,h') ⟨by dsimp only;omega,hle4.trans hl,fun d hd => by
      dsimp only at hd
      rw [hsn,List.mem_append,List.mem_singleton] at hd
      rcases hd with hd|rfl
      · exact hD d hd
      · exact hfit⟩ (by dsimp only;omega)
    dsimp only at h5
    cases hwd : winD pd t with
    | none =>
      obtain ⟨w,hw⟩:=winV_none hwd
      rw [hw] at hdw
      by_cases hfu : (ps.n : Int) = t.legs
      · have e:=hF2i fun k => (k pd hmd).2 (by unfold FullD;omega) (by omega) hwd
        clear ihj ih1 hz hF2i hF3i h5 hde
        repeat' (first|apply GO_seq|apply GO_skip|apply GO_block|apply GO_region|apply GOl_nil|(apply GOl_to;(iterate 3 exact rfl);apply OpTo_alloc (e:=24);exact rfl;intro bX)|(apply GOl_pv;(iterate 3 exact rfl))|(apply GOl_load;exact rfl;exact Ld_blk rfl QM rfl;exact rfl;exact rfl)|(apply GOl_ov;exact rfl;exact rfl;(first|(apply OV_idxS (j:=i) (n:=s.n);(iterate 5 exact rfl);exact ra;(with_reducible exact rfl);omega)|(apply OV_idxS (j:=j) (n:=R.1.n);(iterate 5 exact rfl);exact a1;(with_reducible exact rfl);omega)|(apply OV_load;exact rfl;first|exact Lv_ro rfl rc4 rfl|exact Lv_ro rfl c7 rfl));exact QA)|(apply GOl_to;(iterate 3 exact rfl);(first|(apply OpTo_store;(iterate 3 exact rfl);exact QR;(iterate 3 exact rfl);skip)|(apply OpTo_res;exact rfl;exact has27;exact hdw;rintro v5 h6 hle5 rfl;skip)|(apply OpTo_val;exact rfl;exact has12;exact hck _ (by first|exact Le.refl _|assumption|(repeat (first|assumption|(apply Le.trans;assumption))));skip)))|(apply GO_cond;exact rfl;all_goals (intro hc;try simp only [hcS,reduceCtorEq] at hc;try (exfalso;omega)))|(apply GOl_split;exact rfl;exact rfl;all_goals (intro hc;try simp only [hcS,reduceCtorEq] at hc;try (exfalso;omega))))
        all_goals first
          | (exfalso;omega)
          | (exfalso;simp at hc;done)
          | (exact GO_retR1 rfl rfl rfl (by rw [e]))
      · have h7:=fun h' hl => h5 h' hl ⟨ho,fun _ k => absurd k (by omega)⟩
        clear ihj ih1 hz hF2i hF3i h5 hde
        repeat' (first|apply GO_seq|apply GO_skip|apply GO_inBlock|apply GO_block|apply GO_region|apply GOl_nil|(apply GOl_to;(iterate 3 exact rfl);apply OpTo_alloc (e:=24);exact rfl;intro bX)|(apply GOl_unwanted;exact rfl;exact rfl)|(apply GOl_add;(iterate 3 exact rfl);omega;exact rfl;exact rfl)|(apply GOl_pv;(iterate 3 exact rfl))|(apply GOl_load;exact rfl;exact Ld_blk rfl QM rfl;exact rfl;exact rfl)|(apply GOl_ov;exact rfl;exact rfl;(first|(apply OV_idxS (j:=i) (n:=s.n);(iterate 5 exact rfl);exact ra;(with_reducible exact rfl);omega)|(apply OV_idxS (j:=j) (n:=R.1.n);(iterate 5 exact rfl);exact a1;(with_reducible exact rfl);omega)|(apply OV_load;exact rfl;first|exact Lv_ro rfl rc4 rfl|exact Lv_ro rfl c7 rfl));exact QA)|(apply GOl_to;(iterate 3 exact rfl);(first|(apply OpTo_store;(iterate 3 exact rfl);exact QR;(iterate 3 exact rfl);skip)|(apply OpTo_res;exact rfl;exact has27;exact hdw;rintro v5 h6 hle5 rfl;skip)|(apply OpTo_val;exact rfl;exact has12;exact hck _ (by first|exact Le.refl _|assumption|(repeat (first|assumption|(apply Le.trans;assumption))));skip)))|(apply GO_cond;exact rfl;all_goals (intro hc;try simp only [hcS,reduceCtorEq] at hc;try (exfalso;omega)))|(apply GOl_split;exact rfl;exact rfl;all_goals (intro hc;try simp only [hcS,reduceCtorEq] at hc;try (exfalso;omega))))
        all_goals first
          | (exfalso;omega)
          | (exfalso;simp at hc;done)
          | (have h9:=h7 h6 hle5
             refine GO_fit QS QT (h9))
    | some w =>
      rw [winV_some hwd] at hdw
      have h7:=fun h' hl => h5 h' hl ⟨ho,fun _ _ k => by rw [hwd] at k;cases k⟩
      clear ihj ih1 hz hF2i hF3i h5 hde
      repeat' (first|apply GO_seq|apply GO_skip|apply GO_inBlock|apply GO_block|apply GO_region|apply GOl_nil|(apply GOl_to;(iterate 3 exact rfl);apply OpTo_alloc (e:=24);exact rfl;intro bX)|(apply GOl_unwanted;exact rfl;exact rfl)|(apply GOl_add;(iterate 3 exact rfl);omega;exact rfl;exact rfl)|(apply GOl_pv;(iterate 3 exact rfl))|(apply GOl_load;exact rfl;exact Ld_blk rfl QM rfl;exact rfl;exact rfl)|(apply GOl_ov;exact rfl;exact rfl;(first|(apply OV_idxS (j:=i) (n:=s.n);(iterate 5 exact rfl);exact ra;(with_reducible exact rfl);omega)|(apply OV_idxS (j:=j) (n:=R.1.n);(iterate 5 exact rfl);exact a1;(with_reducible exact rfl);omega)|(apply OV_load;exact rfl;first|exact Lv_ro rfl rc4 rfl|exact Lv_ro rfl c7 rfl));exact QA)|(apply GOl_to;(iterate 3 exact rfl);(first|(apply OpTo_store;(iterate 3 exact rfl);exact QR;(iterate 3 exact rfl);skip)|(apply OpTo_res;exact rfl;exact has27;exact hdw;rintro v5 h6 hle5 rfl;skip)|(apply OpTo_val;exact rfl;exact has12;exact hck _ (by first|exact Le.refl _|assumption|(repeat (first|assumption|(apply Le.trans;assumption))));skip)))|(apply GO_cond;exact rfl;all_goals (intro hc;try simp only [hcS,reduceCtorEq] at hc;try (exfalso;omega)))|(apply GOl_split;exact rfl;exact rfl;all_goals (intro hc;try simp only [hcS,reduceCtorEq] at hc;try (exfalso;omega))))
      all_goals first
        | (exfalso;omega)
        | (exfalso;simp at hc;done)
        | (have h9:=h7 h6 hle5
           refine GO_fit QS QT (h9))
  rw [List.take_of_length_le (by omega)] at hD
  clear ihj hF2i rc
  have hwi:=winners21_c h4 R.1.A R.1.n R.1.c R.2 t (hri.1.le hle4) hrn fun p hp => DuG.of ((hri.1.each p hp).le hle4) (hD p.2 (List.mem_map.2 ⟨p,hp,rfl⟩)).1
  have ih2:=fun h' (hl : Le h4 h') hch => ih1 h' (hle4.trans hl) hD hch
  clear ih1 hD
  have hca : ∀ x,nextR (duels R.2) t = x → (ChainAt t (rounds l) i ↔ if i + 1 < s.n then ∃ n,x = some n ∧ sameR n (duels (l.getD (i + 1) rd0).2) else x = none):=fun x e => by
    unfold ChainAt
    rw [hrl,hgd,hgd1,e]
  have hidA : nextR (duels R.2) t = none → i + 1 < s.n → q = false:=fun hnx hi1 => hF3i (fun k => by
      have h2:=(hca none hnx).1 k
      rw [if_pos hi1] at h2
      obtain ⟨m,h3,_⟩:=h2
      cases h3)
  have hidB:=fun (hnx : nextR (duels R.2) t = none) (hi1 : ¬ i + 1 < s.n) (h' : Ro) (hl : Le h4 h') => ih2 h' hl ((hca none hnx).2 (by rw [if_neg hi1]))
  cases hwn : winsR (duels R.2) t with
  | none =>
    rw [hwn] at hwi
    unfold WinsOut at hwi
    have q1:=hidA (nextR_no hwn)
    have q2:=hidB (nextR_no hwn)
    clear ih2 hF3i hca hidA hidB
    by_cases hi1 : i + 1 < s.n
    · have e:=q1 hi1
      have hx7 : ¬ ((false == ltI ((i : Int) + 1) (s.n : Int)) = true):=by rw [(ltI_t _ _).mpr (by omega)];simp
      clear q2
      repeat' (first|apply GO_seq|apply GO_skip|apply GO_region|apply GOl_nil|(apply GO_exit;exact rfl)|(apply GOl_unwanted;exact rfl;exact rfl)|(apply GOl_add;(iterate 3 exact rfl);omega;exact rfl;exact rfl)|(apply GOl_pv;(iterate 3 exact rfl))|(apply GOl_load;exact rfl;exact Ld_blk rfl QM rfl;exact rfl;exact rfl)|(apply GOl_ov;exact rfl;exact rfl;(first|(apply OV_idxS (j:=i) (n:=s.n);(iterate 5 exact rfl);exact ra;(with_reducible exact rfl);omega)|(apply OV_load;exact rfl;exact Lv_ro rfl rc4 rfl));exact QA)|(apply GO_drawp (n:=20) [0,1,2,3,4,5,6,7,8,9,11,10,12] [(0,0),(1,0),(2,0),(3,0),(4,0),(5,0),(6,0),(7,1),(8,0),(9,0),(10,0),(11,0),(12,0)];kernel_rfl)|(apply GP_pv;exact rfl;kernel_rfl;(iterate 3 exact rfl))|(apply GP_loadB;exact rfl;kernel_rfl;(iterate 3 exact rfl);exact QM;exact rfl;exact rfl)|(apply GP_ov;exact rfl;kernel_rfl;exact rfl;exact rfl;(first|(apply OV_idxS (j:=i) (n:=s.n);(iterate 5 exact rfl);exact ra;(with_reducible exact rfl);omega)|(apply OV_load;exact rfl;exact Lv_ro rfl rc4 rfl));exact QA)|(apply GP_real;exact rfl;kernel_rfl;(iterate 3 exact rfl);(first|(apply OpTo_res;exact rfl;exact has55;exact hwi;rintro v5 h5 hle5 rfl;refine ⟨hle5,QN,?_⟩)))|(apply GP_done;kernel_rfl;exact rfl)|(apply GO_cond;exact rfl;all_goals (intro hc;try simp only [hcS,reduceCtorEq] at hc;try (exfalso;omega))))
      all_goals first
        | (exfalso;omega)
        | (exfalso;exact hx7 (by assumption))
        | (exfalso;simp at hc;done)
        | (exact GO_retR1 rfl rfl rfl (by rw [e]))
    · have h7:=q2 hi1
      have hx7 : ¬ ((false == ltI ((i : Int) + 1) (s.n : Int)) = false):=by rw [(ltI_f _ _).mpr (by omega)];simp
      clear q2 q1
      repeat' (first|apply GO_seq|apply GO_skip|apply GO_region|apply GOl_nil|(apply GO_exit;exact rfl)|(apply GOl_unwanted;exact rfl;exact rfl)|(apply GOl_add;(iterate 3 exact rfl);omega;exact rfl;exact rfl)|(apply GOl_pv;(iterate 3 exact rfl))|(apply GOl_load;exact rfl;exact Ld_blk rfl QM rfl;exact rfl;exact rfl)|(apply GOl_ov;exact rfl;exact rfl;(first|(apply OV_idxS (j:=i) (n:=s.n);(iterate 5 exact rfl);exact ra;(with_reducible exact rfl);omega)|(apply OV_load;exact rfl;exact Lv_ro rfl rc4 rfl));exact QA)|(apply GO_drawp (n:=20) [0,1,2,3,4,5,6,7,8,9,11,10,12] [(0,0),(1,0),(2,0),(3,0),(4,0),(5,0),(6,0),(7,1),(8,0),(9,0),(10,0),(11,0),(12,0)];kernel_rfl)|(apply GP_pv;exact rfl;kernel_rfl;(iterate 3 exact rfl))|(apply GP_loadB;exact rfl;kernel_rfl;(iterate 3 exact rfl);exact QM;exact rfl;exact rfl)|(apply GP_ov;exact rfl;kernel_rfl;exact rfl;exact rfl;(first|(apply OV_idxS (j:=i) (n:=s.n);(iterate 5 exact rfl);exact ra;(with_reducible exact rfl);omega)|(apply OV_load;exact rfl;exact Lv_ro rfl rc4 rfl));exact QA)|(apply GP_real;exact rfl;kernel_rfl;(iterate 3 exact rfl);(first|(apply OpTo_res;exact rfl;exact has55;exact hwi;rintro v5 h5 hle5 rfl;refine ⟨hle5,QN,?_⟩)))|(apply GP_done;kernel_rfl;exact rfl)|(apply GO_cond;exact rfl;all_goals (intro hc;try simp only [hcS,reduceCtorEq] at hc;try (exfalso;omega))))
      all_goals first
        | (exfalso;omega)
        | (exfalso;exact hx7 (by assumption))
        | (exfalso;simp at hc;done)
        | (have h9:=h7 h5 hle5
           refine GO_fit QS QT (h9))
  | some cs =>
  rw [hwn] at hwi
  unfold WinsOut at hwi
  have hcl:=winsR_len hwn
  rw [duels_len] at hcl
  have hne:=nextR_eq hwn
  by_cases h2 : 2 ≤ cs.length
  case' neg =>
    rw [if_neg h2] at hne
    have q1:=hidA hne
    have q2:=hidB hne
    clear ih2 hF3i hca hidA hidB
    by_cases hi1 : i + 1 < s.n
    · have e:=q1 hi1
      have hx7 : ¬ ((leI 2 (cs.length : Int) == ltI ((i : Int) + 1) (s.n : Int)) = true):=by rw [(ltI_t _ _).mpr (by omega),(leI_f _ _).mpr (by omega)];simp
      clear q2
      repeat' (first|apply GO_seq|apply GO_skip|apply GO_region|apply GOl_nil|(apply GO_exit;exact rfl)|(apply GOl_add;(iterate 3 exact rfl);omega;exact rfl;exact rfl)|(apply GOl_pv;(iterate 3 exact rfl))|(apply GOl_load;exact rfl;exact Ld_blk rfl QM rfl;exact rfl;exact rfl)|(apply GOl_ov;exact rfl;exact rfl;(first|(apply OV_idxS (j:=i) (n:=s.n);(iterate 5 exact rfl);exact ra;(with_reducible exact rfl);omega)|(apply OV_load;exact rfl;exact Lv_ro rfl rc4 rfl));exact QA)|(apply GO_drawp (n:=20) [0,1,2,3,4,5,6,7,8,9,11,10,12] [(0,0),(1,0),(2,0),(3,0),(4,0),(5,0),(6,0),(7,1),(8,0),(9,0),(10,0),(11,0),(12,0)];kernel_rfl)|(apply GP_pv;exact rfl;kernel_rfl;(iterate 3 exact rfl))|(apply GP_loadB;exact rfl;kernel_rfl;(iterate 3 exact rfl);exact QM;exact rfl;exact rfl)|(apply GP_ov;exact rfl;kernel_rfl;exact rfl;exact rfl;(first|(apply OV_idxS (j:=i) (n:=s.n);(iterate 5 exact rfl);exact ra;(with_reducible exact rfl);omega)|(apply OV_load;exact rfl;exact Lv_ro rfl rc4 rfl));exact QA)|(apply GP_real;exact rfl;kernel_rfl;(iterate 3 exact rfl);(first|(apply OpTo_res;exact rfl;exact has55;exact hwi;rintro v5 h5 hle5 ⟨A5,c5,rfl,hnc5,hs5⟩;refine ⟨hle5,QN,?_⟩)))|(apply GP_done;kernel_rfl;exact rfl)|(apply GO_cond;exact rfl;all_goals (intro hc;try simp only [hcS,reduceCtorEq] at hc;try (exfalso;omega))))
      all_goals first
        | (exfalso;omega)
        | (exfalso;exact hx7 (by assumption))
        | (exfalso;simp at hc;done)
        | (exact GO_retR1 rfl rfl rfl (by rw [e]))
    · have h7:=q2 hi1
      have hx7 : ¬ ((leI 2 (cs.length : Int) == ltI ((i : Int) + 1) (s.n : Int)) = false):=by rw [(ltI_f _ _).mpr (by omega),(leI_f _ _).mpr (by omega)];simp
      clear q2 q1
      repeat' (first|apply GO_seq|apply GO_skip|apply GO_region|apply GOl_nil|(apply GO_exit;exact rfl)|(apply GOl_add;(iterate 3 exact rfl);omega;exact rfl;exact rfl)|(apply GOl_pv;(iterate 3 exact rfl))|(apply GOl_load;exact rfl;exact Ld_blk rfl QM rfl;exact rfl;exact rfl)|(apply GOl_ov;exact rfl;exact rfl;(first|(apply OV_idxS (j:=i) (n:=s.n);(iterate 5 exact rfl);exact ra;(with_reducible exact rfl);omega)|(apply OV_load;exact rfl;exact Lv_ro rfl rc4 rfl));exact QA)|(apply GO_drawp (n:=20) [0,1,2,3,4,5,6,7,8,9,11,10,12] [(0,0),(1,0),(2,0),(3,0),(4,0),(5,0),(6,0),(7,1),(8,0),(9,0),(10,0),(11,0),(12,0)];kernel_rfl)|(apply GP_pv;exact rfl;kernel_rfl;(iterate 3 exact rfl))|(apply GP_loadB;exact rfl;kernel_rfl;(iterate 3 exact rfl);exact QM;exact rfl;exact rfl)|(apply GP_ov;exact rfl;kernel_rfl;exact rfl;exact rfl;(first|(apply OV_idxS (j:=i) (n:=s.n);(iterate 5 exact rfl);exact ra;(with_reducible exact rfl);omega)|(apply OV_load;exact rfl;exact Lv_ro rfl rc4 rfl));exact QA)|(apply GP_real;exact rfl;kernel_rfl;(iterate 3 exact rfl);(first|(apply OpTo_res;exact rfl;exact has55;exact hwi;rintro v5 h5 hle5 ⟨A5,c5,rfl,hnc5,hs5⟩;refine ⟨hle5,QN,?_⟩)))|(apply GP_done;kernel_rfl;exact rfl)|(apply GO_cond;exact rfl;all_goals (intro hc;try simp only [hcS,reduceCtorEq] at hc;try (exfalso;omega))))
      all_goals first
        | (exfalso;omega)
        | (exfalso;exact hx7 (by assumption))
        | (exfalso;simp at hc;done)
        | (have h9:=h7 h5 hle5
           refine GO_fit QS QT (h9))
  rw [if_pos h2] at hne
  have hca:=hca _ hne
  clear hidA hidB
  by_cases hi1 : i + 1 < s.n
  case' neg =>
    rw [if_neg hi1] at hca
    have e:=hF3i fun k => by have:=hca.1 k;cases this
    have hx7 : ¬ ((leI 2 (cs.length : Int) == ltI ((i : Int) + 1) (s.n : Int)) = true):=by rw [(ltI_f _ _).mpr (by omega),(leI_t _ _).mpr (by omega)];simp
    clear ih2 hF3i hca
    repeat' (first|apply GO_seq|apply GO_skip|apply GO_region|apply GOl_nil|(apply GO_exit;exact rfl)|(apply GOl_add;(iterate 3 exact rfl);omega;exact rfl;exact rfl)|(apply GOl_pv;(iterate 3 exact rfl))|(apply GOl_load;exact rfl;exact Ld_blk rfl QM rfl;exact rfl;exact rfl)|(apply GOl_ov;exact rfl;exact rfl;(first|(apply OV_idxS (j:=i) (n:=s.n);(iterate 5 exact rfl);exact ra;(with_reducible exact rfl);omega)|(apply OV_load;exact rfl;exact Lv_ro rfl rc4 rfl));exact QA)|(apply GOl_to;(iterate 3 exact rfl);(first|(exfalso;exact hx7 (by assumption))))|(apply GO_drawp (n:=20) [0,1,2,3,4,5,6,7,8,9,11,10,12] [(0,0),(1,0),(2,0),(3,0),(4,0),(5,0),(6,0),(7,1),(8,0),(9,0),(10,0),(11,0),(12,0)];kernel_rfl)|(apply GP_pv;exact rfl;kernel_rfl;(iterate 3 exact rfl))|(apply GP_loadB;exact rfl;kernel_rfl;(iterate 3 exact rfl);exact QM;exact rfl;exact rfl)|(apply GP_ov;exact rfl;kernel_rfl;exact rfl;exact rfl;(first|(apply OV_idxS (j:=i) (n:=s.n);(iterate 5 exact rfl);exact ra;(with_reducible exact rfl);omega)|(apply OV_load;exact rfl;exact Lv_ro rfl rc4 rfl));exact QA)|(apply GP_real;exact rfl;kernel_rfl;(iterate 3 exact rfl);(first|(apply OpTo_res;exact rfl;exact has55;exact hwi;rintro v5 h5 hle5 ⟨A5,c5,rfl,hnc5,hs5⟩;refine ⟨hle5,QN,?_⟩)))|(apply GP_done;kernel_rfl;exact rfl)|(apply GO_cond;exact rfl;all_goals (intro hc;try simp only [hcS,reduceCtorEq] at hc;try (exfalso;omega))))
    all_goals first
      | (exfalso;omega)
      | (exfalso;exact hx7 (by assumption))
      | (exfalso;simp at hc;done)
      | (exact GO_retR1 rfl rfl rfl (by rw [e]))
  rw [if_pos hi1] at hca
  have rc1 : CellsAt h4 ((addrD s.A).add ((i + 1) * ty53.size)) (encRd (l.getD (i + 1) rd0)):=((hrow.cellsD rd0 hi1).le hle3).le hle4
  have hrm1:=mem7 rd0 (show i + 1 < l.length by omega)
  have hri1:=((hb.each _ hrm1).le hle3).le hle4
  have hrn1:=hs.each _ hrm1
  generalize l.getD (i + 1) rd0 = R1 at *
  have hpa:=fun h' A5 c5 hs5 => pairs21_c h' A5 cs.length c5 cs hs5 (by omega)
  have hx7 : ¬ ((leI 2 (cs.length : Int) == ltI ((i : Int) + 1) (s.n : Int)) = false):=by rw [(ltI_t _ _).mpr (by omega),(leI_t _ _).mpr (by omega)];simp
  have hno:=fun (k : ¬ sameR (pairD cs) (duels R1.2)) => hF3i fun w => by
    obtain ⟨m9,k1,k2⟩:=hca.1 w
    cases k1
    exact k k2
  have hyes:=fun (h' : Ro) (hl : Le h4 h') (k : sameR (pairD cs) (duels R1.2)) => ih2 h' hl (hca.2 ⟨pairD cs,rfl,k⟩)
  clear ih2 hF3i hca
  have hR1l:=hri1.1.row.len
  by_cases hlen1 : (pairD cs).length = R1.1.n
  case' neg =>
    have e:=hno fun w => hlen1 (by have:=sameR_len w;rw [duels_len] at this;omega)
    clear hno hyes
    repeat' (first|apply GO_seq|apply GO_skip|apply GO_region|apply GOl_nil|(apply GO_exit;exact rfl)|(apply GOl_add;(iterate 3 exact rfl);omega;exact rfl;exact rfl)|(apply GOl_pv;(iterate 3 exact rfl))|(apply GOl_load;exact rfl;exact Ld_blk rfl QM rfl;exact rfl;exact rfl)|(apply GOl_ov;exact rfl;exact rfl;(first|(apply OV_idxS (j:=i) (n:=s.n);(iterate 5 exact rfl);exact ra;(with_reducible exact rfl);omega)|(apply OV_idxS (j:=i + 1) (n:=s.n);(iterate 5 exact rfl);exact ra;omega;omega)|(apply OV_load;exact rfl;first|exact Lv_ro rfl (rc4.le (by first|exact Le.refl _|assumption|(repeat (first|assumption|(apply Le.trans;assumption))))) rfl|exact Lv_ro rfl (rc1.le (by first|exact Le.refl _|assumption|(repeat (first|assumption|(apply Le.trans;assumption))))) rfl));exact QA)|(apply GOl_to;(iterate 3 exact rfl);(first|(apply OpTo_res;exact rfl;exact has43;exact hpa _ A5 c5 (hs5.le (by first|exact Le.refl _|assumption|(repeat (first|assumption|(apply Le.trans;assumption)))));rintro v6 h6 hle6 ⟨r,rfl,hr6,hd6⟩;(have hrl6:=hr6.1.row.len);(have hrd6:=duels_len r.2);rw [hd6] at hrd6;skip)))|(apply GO_drawp (n:=20) [0,1,2,3,4,5,6,7,8,9,11,10,12] [(0,0),(1,0),(2,0),(3,0),(4,0),(5,0),(6,0),(7,1),(8,0),(9,0),(10,0),(11,0),(12,0)];kernel_rfl)|(apply GP_pv;exact rfl;kernel_rfl;(iterate 3 exact rfl))|(apply GP_loadB;exact rfl;kernel_rfl;(iterate 3 exact rfl);exact QM;exact rfl;exact rfl)|(apply GP_ov;exact rfl;kernel_rfl;exact rfl;exact rfl;(first|(apply OV_idxS (j:=i) (n:=s.n);(iterate 5 exact rfl);exact ra;(with_reducible exact rfl);omega)|(apply OV_load;exact rfl;first|exact Lv_ro rfl (rc4.le (by first|exact Le.refl _|assumption|(repeat (first|assumption|(apply Le.trans;assumption))))) rfl|exact Lv_ro rfl (rc1.le (by first|exact Le.refl _|assumption|(repeat (first|assumption|(apply Le.trans;assumption))))) rfl));exact QA)|(apply GP_real;exact rfl;kernel_rfl;(iterate 3 exact rfl);(first|(apply OpTo_res;exact rfl;exact has55;exact hwi;rintro v5 h5 hle5 ⟨A5,c5,rfl,hnc5,hs5⟩;refine ⟨hle5,QN,?_⟩)))|(apply GP_done;kernel_rfl;exact rfl)|(apply GO_cond;exact rfl;all_goals (intro hc;try simp only [hcS,reduceCtorEq] at hc;try (exfalso;omega))))
    all_goals first
      | (exfalso;omega)
      | (exfalso;exact hx7 (by assumption))
      | (exfalso;simp at hc;done)
      | (exact GO_retR1 rfl rfl rfl (by rw [e]))
  repeat' (first|apply GO_seq|apply GO_skip|apply GO_block|apply GO_region|apply GOl_nil|(apply GO_exit;exact rfl)|(apply GOl_add;(iterate 3 exact rfl);omega;exact rfl;exact rfl)|(apply GOl_pv;(iterate 3 exact rfl))|(apply GOl_load;exact rfl;exact Ld_blk rfl QM rfl;exact rfl;exact rfl)|(apply GOl_ov;exact rfl;exact rfl;(first|(apply OV_idxS (j:=i) (n:=s.n);(iterate 5 exact rfl);exact ra;(with_reducible exact rfl);omega)|(apply OV_idxS (j:=i + 1) (n:=s.n);(iterate 5 exact rfl);exact ra;omega;omega)|(apply OV_load;exact rfl;first|exact Lv_ro rfl (rc4.le (by first|exact Le.refl _|assumption|(repeat (first|assumption|(apply Le.trans;assumption))))) rfl|exact Lv_ro rfl (rc1.le (by first|exact Le.refl _|assumption|(repeat (first|assumption|(apply Le.trans;assumption))))) rfl));exact QA)|(apply GOl_to;(iterate 3 exact rfl);(first|(apply OpTo_res;exact rfl;exact has43;exact hpa _ A5 c5 (hs5.le (by first|exact Le.refl _|assumption|(repeat (first|assumption|(apply Le.trans;assumption)))));rintro v6 h6 hle6 ⟨r,rfl,hr6,hd6⟩;(have hrl6:=hr6.1.row.len);(have hrd6:=duels_len r.2);rw [hd6] at hrd6;skip)))|(apply GO_drawp (n:=20) [0,1,2,3,4,5,6,7,8,9,11,10,12] [(0,0),(1,0),(2,0),(3,0),(4,0),(5,0),(6,0),(7,1),(8,0),(9,0),(10,0),(11,0),(12,0)];kernel_rfl)|(apply GP_pv;exact rfl;kernel_rfl;(iterate 3 exact rfl))|(apply GP_loadB;exact rfl;kernel_rfl;(iterate 3 exact rfl);exact QM;exact rfl;exact rfl)|(apply GP_ov;exact rfl;kernel_rfl;exact rfl;exact rfl;(first|(apply OV_idxS (j:=i) (n:=s.n);(iterate 5 exact rfl);exact ra;(with_reducible exact rfl);omega)|(apply OV_load;exact rfl;first|exact Lv_ro rfl (rc4.le (by first|exact Le.refl _|assumption|(repeat (first|assumption|(apply Le.trans;assumption))))) rfl|exact Lv_ro rfl (rc1.le (by first|exact Le.refl _|assumption|(repeat (first|assumption|(apply Le.trans;assumption))))) rfl));exact QA)|(apply GP_real;exact rfl;kernel_rfl;(iterate 3 exact rfl);(first|(apply OpTo_res;exact rfl;exact has55;exact hwi;rintro v5 h5 hle5 ⟨A5,c5,rfl,hnc5,hs5⟩;refine ⟨hle5,QN,?_⟩)))|(apply GP_done;kernel_rfl;exact rfl)|(apply GO_cond;exact rfl;all_goals (intro hc;try simp only [hcS,reduceCtorEq] at hc;try (exfalso;omega))))
  all_goals (try (exfalso;omega))
  all_goals (try (exfalso;exact hx7 (by assumption)))
  all_goals (try (exfalso;simp at hc;done))
  have hl46 : Le h4 h6:=hle5.trans hle6
  have hrow6:=hr6.1.row
  have rc16:=rc1.le hl46
  have h1row:=(hri1.1.row.le hl46)
  have hno2:=fun (k : ¬ sameR (duels r.2) (duels R1.2)) => hno fun w => k (by rw [hd6];exact w)
  have hyes2:=fun (k : sameR (duels r.2) (duels R1.2)) => hyes h6 hl46 (by rw [← hd6];exact k)
  clear hno hyes hwi hpa
  refine GO_loopT (X:=Nat) (fun k => k ≤ r.1.n ∧ sameR (duels (r.2.take k)) (duels (R1.2.take k))) (fun k => r.1.n - k) (fun k => [(14,.int .i64 k),(13,.slice r.1.A r.1.n r.1.c),(5,.int .i64 i),(1,ptrB b1)]) (fun _ => [Blk b1 36 (brC s t)]) (fun _ => h6) 0 ⟨by omega,rfl⟩ QS QT rfl ?_
  rintro k ⟨hk,hK⟩ ihk
  by_cases hkn : k < r.1.n
  · have a1:=hrow6.addrD hkn
    have a2:=h1row.addrD (show k < R1.1.n by omega)
    have d1 : CellsAt h6 ((addrD r.1.A).add (k * ty24.size)) (encDu (r.2.getD k du0)):=hrow6.cellsD du0 hkn
    have d2 : CellsAt h6 ((addrD R1.1.A).add (k * ty24.size)) (encDu (R1.2.getD k du0)):=h1row.cellsD du0 (show k < R1.1.n by omega)
    have hst:=sameR_step (x:=r.2) (y:=R1.2) (k:=k) (by omega) (by omega) hK
    have hsn:=sameR_no (x:=r.2) (y:=R1.2) (k:=k) (by omega) (by omega)
    have ih9:=fun (w : (r.2.getD k du0).2.a = (R1.2.getD k du0).2.a ∧ (r.2.getD k du0).2.b = (R1.2.getD k du0).2.b) => ihk (k + 1) ⟨by omega,hst w⟩ (by omega)
    have ihn:=fun (w : ¬ ((r.2.getD k du0).2.a = (R1.2.getD k du0).2.a ∧ (r.2.getD k du0).2.b = (R1.2.getD k du0).2.b)) => hno2 (hsn w)
    generalize r.2.getD k du0 = u at *
    generalize R1.2.getD k du0 = v at *
    clear ihk hst hsn hno2 hyes2 hK
    by_cases huv : u.2.a = v.2.a ∧ u.2.b = v.2.b
    · have h9:=ih9 huv
      obtain ⟨uv1,uv2⟩:=huv
      clear ih9 ihn
      repeat' (first|apply GO_seq|apply GO_skip|apply GO_inBlock|apply GO_block|apply GO_region|apply GOl_nil|(apply GOl_add;(iterate 3 exact rfl);omega;exact rfl;exact rfl)|(apply GOl_pv;(iterate 3 exact rfl))|(apply GO_drawp (n:=31) [0,1,2,3,4,5,6,7,8,9,10,11,12,13,14,15,16,17,18,19,20,21,22,23,24,25,26,27,28,29,30,31,32,33] [(0,0),(1,0),(2,0),(3,0),(4,0),(5,0),(6,0),(7,0),(8,0),(9,0),(10,0),(11,0),(12,0),(13,0),(14,0),(15,0),(16,0),(17,0),(18,0),(19,0),(20,0),(21,0),(22,0),(23,0),(24,0),(25,0),(26,0),(27,0),(28,0),(29,0),(30,0),(31,0),(32,0),(33,0)];kernel_rfl)|(apply GP_add;exact rfl;kernel_rfl;(iterate 5 exact rfl);omega)|(apply GP_pv;exact rfl;kernel_rfl;(iterate 3 exact rfl))|(apply GP_loadB;exact rfl;kernel_rfl;(iterate 3 exact rfl);exact QM;exact rfl;exact rfl)|(apply GP_ov;exact rfl;kernel_rfl;exact rfl;exact rfl;(first|(apply OV_idxS (j:=k) (n:=r.1.n);(iterate 5 exact rfl);exact a1;(with_reducible exact rfl);omega)|(apply OV_idxS (j:=k) (n:=R1.1.n);(iterate 5 exact rfl);exact a2;(with_reducible exact rfl);omega)|(apply OV_idxS (j:=i + 1) (n:=s.n);(iterate 5 exact rfl);exact ra;omega;omega)|(apply OV_load;exact rfl;first|exact Lv_ro rfl rc16 rfl|exact Lv_roF rfl d1 rfl|exact Lv_roF rfl d2 rfl));exact QA)|(apply GP_done;kernel_rfl;exact rfl)|(apply GP_split;(iterate 5 exact rfl);all_goals (intro hc;try simp only [hcS,reduceCtorEq] at hc;try (exfalso;omega)))|(apply GO_cond;exact rfl;all_goals (intro hc;try simp only [hcS,reduceCtorEq] at hc;try (exfalso;omega))))
      all_goals first
        | (exfalso;omega)
        | (refine GO_fit QS QT (h9))
    · have e:=ihn huv
      clear ih9 ihn
      repeat' (first|apply GO_seq|apply GO_skip|apply GO_block|apply GO_region|apply GOl_nil|(apply GOl_pv;(iterate 3 exact rfl))|(apply GO_drawp (n:=31) [0,1,2,3,4,5,6,7,8,9,10,11,12,13,14,15,16,17,18,19,20,21,22,23,24,25,26,27,28,29,30,31,32,33] [(0,0),(1,0),(2,0),(3,0),(4,0),(5,0),(6,0),(7,0),(8,0),(9,0),(10,0),(11,0),(12,0),(13,0),(14,0),(15,0),(16,0),(17,0),(18,0),(19,0),(20,0),(21,0),(22,0),(23,0),(24,0),(25,0),(26,0),(27,0),(28,0),(29,0),(30,0),(31,0),(32,0),(33,0)];kernel_rfl)|(apply GP_un;exact rfl;kernel_rfl;exact rfl;exact rfl)|(apply GP_add;exact rfl;kernel_rfl;(iterate 5 exact rfl);omega)|(apply GP_pv;exact rfl;kernel_rfl;(iterate 3 exact rfl))|(apply GP_loadB;exact rfl;kernel_rfl;(iterate 3 exact rfl);exact QM;exact rfl;exact rfl)|(apply GP_ov;exact rfl;kernel_rfl;exact rfl;exact rfl;(first|(apply OV_idxS (j:=k) (n:=r.1.n);(iterate 5 exact rfl);exact a1;(with_reducible exact rfl);omega)|(apply OV_idxS (j:=k) (n:=R1.1.n);(iterate 5 exact rfl);exact a2;(with_reducible exact rfl);omega)|(apply OV_idxS (j:=i + 1) (n:=s.n);(iterate 5 exact rfl);exact ra;omega;omega)|(apply OV_load;exact rfl;first|exact Lv_ro rfl rc16 rfl|exact Lv_roF rfl d1 rfl|exact Lv_roF rfl d2 rfl));exact QA)|(apply GP_done;kernel_rfl;exact rfl)|(apply GP_split;(iterate 5 exact rfl);all_goals (intro hc;try simp only [hcS,reduceCtorEq] at hc;try (exfalso;omega)))|(apply GO_cond;exact rfl;all_goals (intro hc;try simp only [hcS,reduceCtorEq] at hc;try (exfalso;omega))))
      all_goals first
        | (exact GO_retR1 rfl rfl rfl (by rw [e]))
        | (exfalso;exact huv ⟨by assumption,by assumption⟩)
        | (exfalso;omega)
  · rw [List.take_of_length_le (by omega),List.take_of_length_le (by omega)] at hK
    have h9:=hyes2 hK
    clear ihk hno2 hyes2
    repeat' (first|apply GO_seq|apply GO_inBlock|apply GO_region|apply GOl_nil|(apply GO_exit;exact rfl)|(apply GOl_add;(iterate 3 exact rfl);omega;exact rfl;exact rfl)|(apply GOl_pv;(iterate 3 exact rfl))|(apply GO_cond;exact rfl;all_goals (intro hc;try simp only [hcS,reduceCtorEq] at hc;try (exfalso;omega))))
    all_goals first
      | (exfalso;omega)
      | (refine GO_fit QS QT (h9))
end Go.Hw

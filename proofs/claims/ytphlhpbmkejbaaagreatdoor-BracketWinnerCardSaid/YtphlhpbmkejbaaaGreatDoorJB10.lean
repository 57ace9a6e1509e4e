import Derived.Test.YtphlhpbmkejbaaaGreatDoorBD
import Derived.Test.YtphlhpbmkejbaaaGreatDoorBE
import Derived.Test.YtphlhpbmkejbaaaGreatDoorFE
import Derived.Test.YtphlhpbmkejbaaaGreatDoorHF
set_option linter.unusedVariables false
set_option linter.unusedSimpArgs false
set_option maxRecDepth 100000
set_option maxHeartbeats 8000000
namespace Go.Hw
open Go
attribute [local irreducible] GO GOl GDp Val Fn Res CellsAt ValE Blk OwnS MapA OwnPf Has Yl
open Go.Proofs (Tryz.prog)
theorem duelSpec_law (h : Ro) (s : Sli) (d : FDuel) (t : FTie) (ha : DuAt h (s,d)) : Val Tryz.prog 3 #[duelV s d,tieV t] h (.bool true):=by
  refine Val_intro (args:=[_,_]) ts_ok Go.Proofs.Tryz.func3 rfl rfl fun w0 X0 => ?_
  have hsane:=sane21_c h
  have k1:=fun h' (hl : Le h h') => winnerDu_c h' s d t (ha.le hl)
  have k2:=fun h' (hl : Le h h') => winner21_c h' s d t (ha.le hl)
  have k3:=fun h' (hl : Le h h') => checkDu_c h' s d t (ha.le hl)
  have k4:=fun h' (hl : Le h h') => check21_c h' s d t (ha.le hl)
  generalize winnerE d t = wi at *
  generalize checkD d t = e at *
  repeat' (first|apply GO_seq|apply GO_skip|apply GO_region|apply GOl_nil|(apply GOl_to;(iterate 3 exact rfl);apply OpTo_box (e:=24);exact rfl;intro b2)|(apply GOl_to;(iterate 3 exact rfl);apply OpTo_box (e:=26);exact rfl;intro b3)|(apply GOl_pv;(iterate 3 exact rfl))|(apply GOl_load;exact rfl;exact Ld_blk rfl QM rfl;exact rfl;exact rfl)|(apply GOl_to;(iterate 3 exact rfl);(first|(apply OpTo_val;exact rfl;exact has8;exact hsane;skip)|(apply OpTo_res;exact rfl;exact has9;exact k1 _ (by first|exact Le.refl _|assumption|(repeat (first|assumption|(apply Le.trans;assumption))));rintro v1 h1 hle1 rfl;skip)|(apply OpTo_res;exact rfl;exact has10;exact k2 _ (by first|exact Le.refl _|assumption|(repeat (first|assumption|(apply Le.trans;assumption))));rintro v2 h2 hle2 rfl;skip)))|(apply GO_drawp (n:=7) [0,1,2,3,4,5,6,7,8,9,10,11,12,13,14,15,16,17] [(0,0),(1,0),(3,0),(4,0),(2,1),(5,1),(6,0),(7,0),(8,0),(9,0),(10,0),(11,0),(12,0),(13,0),(14,0),(15,0),(16,0),(17,0)];kernel_rfl)|(apply GP_pv;exact rfl;kernel_rfl;(iterate 3 exact rfl))|(apply GP_loadB;exact rfl;kernel_rfl;(iterate 3 exact rfl);exact QM;exact rfl;exact rfl)|(apply GP_real;exact rfl;kernel_rfl;(iterate 3 exact rfl);(first|(apply OpTo_res;exact rfl;exact has11;exact k3 _ (by first|exact Le.refl _|assumption|(repeat (first|assumption|(apply Le.trans;assumption))));rintro v3 h3 hle3 rfl;refine ⟨hle3,QN,?_⟩)|(apply OpTo_val;exact rfl;exact has12;exact k4 _ (by first|exact Le.refl _|assumption|(repeat (first|assumption|(apply Le.trans;assumption))));refine ⟨Le.refl _,QN,?_⟩)))|(apply GP_done;kernel_rfl;exact rfl)|(apply GP_split;(iterate 5 exact rfl);all_goals (intro hc;try simp only [hcS,reduceCtorEq] at hc;try (exfalso;omega)))|(apply GO_cond;exact rfl;all_goals (intro hc;try simp only [hcS,reduceCtorEq] at hc;try (exfalso;omega))))
  all_goals first
    | (exact GO_retV1 rfl rfl rfl rfl)
    | (exact GO_retV1 rfl rfl rfl (congrArg Value.bool ((eqI_t _ _).mpr rfl)))
    | (exact GO_retV1 rfl rfl rfl (congrArg Value.bool ((eqI_t _ _).mpr rfl)).symm)
    | (exfalso;omega)
    | (exfalso;simp at hc;done)
theorem winnerOwnS (h : Ro) (A : Option Addr) (c : Nat) (d : FDuel) (t : FTie) (n : Nat) (hn : d.ls.length = n) (u : Int × Int) (hu : winnerE d t = u) :
    ValE Tryz.prog 9 #[duelV ⟨A,n,c⟩ d,tieV t] [OwnS 40 13 (.slice A n c) n (d.ls.flatMap resC)] h (.tuple #[.int .i64 u.1,.int .i64 u.2]) :=
  ValE_lend fun h1 Ds hl ho => by
    obtain ⟨A',c',e1,e2,hs⟩:=Own_row resC_len hn ho
    cases e1
    have:=winnerDu_c h1 ⟨A,n,c⟩ d t ⟨hs,e2⟩
    rw [hu] at this
    exact Val_of_res this
theorem sumW_snoc (w : Int) (l : List FRes) (x : FRes) : sumW w (l ++ [x]) = sumW w l + (if x.g.h = w then x.hg - x.ag else x.ag - x.hg):=by
  unfold sumW;rw [List.map_append,List.sum_append];simp
theorem sumW_bel (w : Int) : ∀ l : List FRes,(∀ x ∈ l,ResOk x) → -(100 * (l.length : Int)) ≤ sumW w l ∧ sumW w l ≤ 100 * (l.length : Int)
  | [],_ => by simp [sumW]
  | x :: r,h => by
    have ih:=sumW_bel w r fun y hy => h y (List.mem_cons_of_mem _ hy)
    have hx:=h x (by simp)
    unfold ResOk Bel at hx
    have e : sumW w (x :: r) = (if x.g.h = w then x.hg - x.ag else x.ag - x.hg) + sumW w r:=by simp [sumW]
    rw [e,List.length_cons]
    split <;> omega
theorem resGoals {x : FRes} (h : ResOk x) : 0 ≤ x.hg ∧ x.hg ≤ 99 ∧ 0 ≤ x.ag ∧ x.ag ≤ 99:=by unfold ResOk Bel at h;omega
theorem bare_in {day : Int} (h : 0 ≤ day ∧ day ≤ 1048576) (x : FRes) : bareD day x = { x with day:=day,hc:=0,ac:=0 }:=by unfold bareD;rw [if_pos h]
theorem bare_out {day : Int} (h : ¬ (0 ≤ day ∧ day ≤ 1048576)) (x : FRes) : bareD day x = { x with hc:=0,ac:=0 }:=by unfold bareD;rw [if_neg h]
theorem winner_law (h : Ro) (s : Sli) (d : FDuel) (t : FTie) (day : Int) (ha : DuAt h (s,d)) : Val Tryz.prog 7 #[duelV s d,tieV t,.int .i64 day] h (.bool true):=by
  refine Val_intro (args:=[_,_,_]) ts_ok Go.Proofs.Tryz.func7 rfl rfl fun w0 X0 => ?_
  have hsane:=sane21_c h
  have hx:=ha.1
  dsimp only at hx
  have hlen:=hx.len
  have k1:=fun h' (hl : Le h h') => winnerDu_c h' s d t (ha.le hl)
  have k3:=fun h' (hl : Le h h') => winnerDu_c h' s d { t with away:=!t.away } (ha.le hl)
  have hnone:=winner_none (d:=d) (t:=t)
  have hclub:=fun w => winner_club (d:=d) (t:=t) (w:=w)
  have hbare:=fun w k => winner_bare (d:=d) (t:=t) (w:=w) k day
  have hsum:=fun w => winner_sum (d:=d) (t:=t) (w:=w)
  have hsome:=fun w => (winner_some (d:=d) (t:=t) (w:=w)).1
  by_cases hn : (s.n : Int) ≤ 10
  case' neg =>
    clear k1 k3 hnone hclub hbare hsum hsome
    repeat' (first|apply GO_seq|apply GO_skip|apply GO_region|apply GOl_nil|(apply GOl_to;(iterate 3 exact rfl);apply OpTo_box (e:=24);exact rfl;intro b3)|(apply GOl_to;(iterate 3 exact rfl);apply OpTo_box (e:=26);exact rfl;intro b4)|(apply GOl_pv;(iterate 3 exact rfl))|(apply GOl_load;exact rfl;exact Ld_blk rfl QM rfl;exact rfl;exact rfl)|(apply GOl_to;(iterate 3 exact rfl);(first|(apply OpTo_val;exact rfl;exact has8;exact hsane;skip)))|(apply GO_cond;exact rfl;all_goals (intro hc;try simp only [hcS,reduceCtorEq] at hc;try (exfalso;omega))))
    all_goals first
      | (exact GO_retV1 rfl rfl rfl rfl)
      | (exfalso;omega)
      | (exfalso;simp at hc;done)
  by_cases hE : (winnerE d t).2 = 0
  case' neg =>
    have hw0:=hnone hE
    clear k3 hclub hbare hsum hsome hnone
    generalize winnerE d t = wi at *
    obtain ⟨w,e⟩:=wi
    dsimp only at hE hw0
    subst hw0
    repeat' (first|apply GO_seq|apply GO_skip|apply GO_region|apply GOl_nil|(apply GOl_to;(iterate 3 exact rfl);apply OpTo_box (e:=24);exact rfl;intro b3)|(apply GOl_to;(iterate 3 exact rfl);apply OpTo_box (e:=26);exact rfl;intro b4)|(apply GOl_pv;(iterate 3 exact rfl))|(apply GOl_load;exact rfl;exact Ld_blk rfl QM rfl;exact rfl;exact rfl)|(apply GOl_to;(iterate 3 exact rfl);(first|(apply OpTo_val;exact rfl;exact has8;exact hsane;skip)|(apply OpTo_res;exact rfl;exact has9;exact k1 _ (by first|exact Le.refl _|assumption|(repeat (first|assumption|(apply Le.trans;assumption))));rintro v1 h1 hle1 rfl;skip)))|(apply GO_cond;exact rfl;all_goals (intro hc;try simp only [hcS,reduceCtorEq] at hc;try (exfalso;omega))))
    all_goals first
      | (exact GO_retV1 rfl rfl rfl rfl)
      | (exact GO_retV1 rfl rfl rfl (congrArg Value.bool ((eqI_t _ _).mpr rfl)))
      | (exact GO_retV1 rfl rfl rfl (congrArg Value.bool ((eqI_t _ _).mpr rfl)).symm)
      | (exfalso;omega)
      | (exfalso;simp at hc;done)
  have hW : winnerE d t = ((winnerE d t).1,0):=Prod.ext rfl hE
  generalize (winnerE d t).1 = w at *
  rw [hW] at k1
  dsimp only at k1
  have hclub:=hclub w hW
  have hbare:=hbare w hW
  have hsum:=hsum w hW
  obtain ⟨hdo,hdw⟩:=hsome w hW
  clear hsome hnone hE hW
  have hl2:=duelOk_len hdo
  have hro:=hdo.res
  repeat' (first|apply GO_seq|apply GO_skip|apply GO_block|apply GO_region|apply GOl_nil|(apply GOl_to;(iterate 3 exact rfl);apply OpTo_box (e:=24);exact rfl;intro b3)|(apply GOl_to;(iterate 3 exact rfl);apply OpTo_box (e:=26);exact rfl;intro b4)|(apply GOl_to;(iterate 3 exact rfl);apply OpTo_alloc (e:=24);exact rfl;intro b9)|(apply GOl_unwanted;exact rfl;exact rfl)|(apply GOl_pv;(iterate 3 exact rfl))|(apply GOl_load;exact rfl;exact Ld_blk rfl QM rfl;exact rfl;exact rfl)|(apply GOl_to;(iterate 3 exact rfl);(first|(apply OpTo_store;(iterate 3 exact rfl);exact QR;(iterate 3 exact rfl);skip)|(apply OpTo_val;exact rfl;exact has8;exact hsane;skip)|(apply OpTo_res;exact rfl;exact has9;exact k1 _ (by first|exact Le.refl _|assumption|(repeat (first|assumption|(apply Le.trans;assumption))));rintro v1 h1 hle1 rfl;skip)))|(apply GO_cond;exact rfl;all_goals (intro hc;try simp only [hcS,reduceCtorEq] at hc;try (exfalso;omega)))|(apply GOl_split;exact rfl;exact rfl;all_goals (intro hc;try simp only [hcS,reduceCtorEq] at hc;try (exfalso;omega))))
  all_goals (try (exfalso;omega))
  all_goals (try (exfalso;simp at hc;done))
  all_goals (try (exfalso;rcases hclub with k|k <;> simp_all;done))
  all_goals
    refine GO_nilS 40 13 ?_
    refine GO_loopT (X:=Nat × Option Addr × Nat × Ro) (fun x => x.1 ≤ s.n ∧ Le h x.2.2.2) (fun x => s.n - x.1)
      (fun x => [(11,.int .i64 x.1),(10,.int .i64 (sumW w (d.ls.take x.1))),(9,ptrB b9),(7,.int .i64 w),(3,ptrB b3),(4,ptrB b4),(2,.int .i64 day)])
      (fun x => [Blk b9 24 (duelC ⟨x.2.1,x.1,x.2.2.1⟩ d),OwnS 40 13 (.slice x.2.1 x.1 x.2.2.1) x.1 (((d.ls.take x.1).map (bareD day)).flatMap resC),Blk b3 24 (duelC s d),Blk b4 26 (tieC t)]) (fun x => x.2.2.2) (0,none,0,_) ⟨by dsimp only;omega,(by first|exact Le.refl _|assumption|(repeat (first|assumption|(apply Le.trans;assumption))))⟩ QS QT rfl ?_
    rintro ⟨k,A,c,hh⟩ ⟨hk,hle⟩ ih
    dsimp only at hk hle ih ⊢
    by_cases hkn : k < s.n
    · have a1:=hx.addrD hkn
      have cc : CellsAt hh ((addrD s.A).add (k * ty40.size)) (resC (d.ls.getD k res0)):=(hx.cellsD res0 hkn).le hle
      have et:=take7 res0 (xs:=d.ls) hlen hkn
      have hm:=mem7 res0 (show k < d.ls.length by omega)
      have hb:=sumW_bel w (d.ls.take k) fun x hx => hro x (List.mem_of_mem_take hx)
      rw [List.length_take] at hb
      have hb2 : -200 ≤ sumW w (d.ls.take k) ∧ sumW w (d.ls.take k) ≤ 200:=by omega
      have hL : ((d.ls.take k).map (bareD day)).length = k:=by rw [List.length_map,List.length_take];omega
      have ih2:=fun A9 c9 hh9 (hl : Le hh hh9) => ih (k + 1,A9,c9,hh9) ⟨by dsimp only;omega,hle.trans hl⟩ (by dsimp only;omega)
      dsimp only at ih2
      rw [et] at ih2
      simp only [List.map_append,sumW_snoc,List.map_cons,List.map_nil] at ih2
      generalize d.ls.getD k res0 = x at *
      have hg:=resGoals (hro x hm)
      generalize (d.ls.take k).map (bareD day) = L at *
      generalize sumW w (d.ls.take k) = S at *
      clear ih k1 k3 hb
      by_cases hday : 0 ≤ day ∧ day ≤ 1048576
      · rw [bare_in hday] at ih2
        obtain ⟨hd1,hd2⟩:=hday
        by_cases hxw : x.g.h = w
        · rw [if_pos hxw] at ih2
          repeat' (first|apply GO_seq|apply GO_skip|apply GO_inBlock|apply GO_block|apply GO_region|apply GOl_nil|(apply GOl_add;(iterate 3 exact rfl);omega;exact rfl;exact rfl)|(apply GOl_sub;(iterate 3 exact rfl);omega;exact rfl;exact rfl)|(apply GOl_pv;(iterate 3 exact rfl))|(apply GOl_load;exact rfl;exact Ld_blk rfl QM rfl;exact rfl;exact rfl)|(apply GOl_ov;exact rfl;exact rfl;(first|(apply OV_idxS (j:=k) (n:=s.n);(iterate 5 exact rfl);exact a1;(with_reducible exact rfl);omega)|(apply OV_load;exact rfl;exact Lv_ro rfl (cc.le (by first|exact Le.refl _|assumption|(repeat (first|assumption|(apply Le.trans;assumption))))) rfl));exact QA)|(apply GOl_to;(iterate 3 exact rfl);(first|(apply OpTo_store;(iterate 3 exact rfl);exact QR;(iterate 3 exact rfl);skip)|(apply OpTo_alloc;exact rfl;intro b;skip)|(apply OpTo_buildSliceS (enc:=resC) (n:=1) [{ x with day:=day,hc:=0,ac:=0 }];(iterate 3 exact rfl);exact List.cons_ne_nil _ _;(iterate 4 exact rfl);exact resC_len;exact rfl;exact rfl;intro b6 h6 hle6 hs6;skip)|(apply OpTo_appendS (enc:=resC) (xs:=L) (ys:=[{ x with day:=day,hc:=0,ac:=0 }]);(iterate 7 exact rfl);exact hs6.le (by first|exact Le.refl _|assumption|(repeat (first|assumption|(apply Le.trans;assumption))));exact resC_len;exact resC_one;intro v1;exact QR;omega;exact rfl;intro A9 c9;skip)))|(apply GO_cond;exact rfl;all_goals (intro hc;try simp only [hcS,reduceCtorEq] at hc;try (exfalso;omega)))|(apply GOl_split;exact rfl;exact rfl;all_goals (intro hc;try simp only [hcS,reduceCtorEq] at hc;try (exfalso;omega))))
          all_goals first
            | (exfalso;omega)
            | (have h9:=ih2 A9 c9 _ hle6
               rw [show S + (x.hg - x.ag) = S + x.hg - x.ag by omega] at h9
               refine GO_fit QS QT (h9))
        · rw [if_neg hxw] at ih2
          repeat' (first|apply GO_seq|apply GO_skip|apply GO_inBlock|apply GO_block|apply GO_region|apply GOl_nil|(apply GOl_add;(iterate 3 exact rfl);omega;exact rfl;exact rfl)|(apply GOl_sub;(iterate 3 exact rfl);omega;exact rfl;exact rfl)|(apply GOl_pv;(iterate 3 exact rfl))|(apply GOl_load;exact rfl;exact Ld_blk rfl QM rfl;exact rfl;exact rfl)|(apply GOl_ov;exact rfl;exact rfl;(first|(apply OV_idxS (j:=k) (n:=s.n);(iterate 5 exact rfl);exact a1;(with_reducible exact rfl);omega)|(apply OV_load;exact rfl;exact Lv_ro rfl (cc.le (by first|exact Le.refl _|assumption|(repeat (first|assumption|(apply Le.trans;assumption))))) rfl));exact QA)|(apply GOl_to;(iterate 3 exact rfl);(first|(apply OpTo_store;(iterate 3 exact rfl);exact QR;(iterate 3 exact rfl);skip)|(apply OpTo_alloc;exact rfl;intro b;skip)|(apply OpTo_buildSliceS (enc:=resC) (n:=1) [{ x with day:=day,hc:=0,ac:=0 }];(iterate 3 exact rfl);exact List.cons_ne_nil _ _;(iterate 4 exact rfl);exact resC_len;exact rfl;exact rfl;intro b6 h6 hle6 hs6;skip)|(apply OpTo_appendS (enc:=resC) (xs:=L) (ys:=[{ x with day:=day,hc:=0,ac:=0 }]);(iterate 7 exact rfl);exact hs6.le (by first|exact Le.refl _|assumption|(repeat (first|assumption|(apply Le.trans;assumption))));exact resC_len;exact resC_one;intro v1;exact QR;omega;exact rfl;intro A9 c9;skip)))|(apply GO_cond;exact rfl;all_goals (intro hc;try simp only [hcS,reduceCtorEq] at hc;try (exfalso;omega)))|(apply GOl_split;exact rfl;exact rfl;all_goals (intro hc;try simp only [hcS,reduceCtorEq] at hc;try (exfalso;omega))))
          all_goals first
            | (exfalso;omega)
            | (have h9:=ih2 A9 c9 _ hle6
               rw [show S + (x.ag - x.hg) = S + x.ag - x.hg by omega] at h9
               refine GO_fit QS QT (h9))
      · rw [bare_out hday] at ih2
        by_cases hxw : x.g.h = w
        · rw [if_pos hxw] at ih2
          repeat' (first|apply GO_seq|apply GO_skip|apply GO_inBlock|apply GO_block|apply GO_region|apply GOl_nil|(apply GOl_unwanted;exact rfl;exact rfl)|(apply GOl_add;(iterate 3 exact rfl);omega;exact rfl;exact rfl)|(apply GOl_sub;(iterate 3 exact rfl);omega;exact rfl;exact rfl)|(apply GOl_pv;(iterate 3 exact rfl))|(apply GOl_load;exact rfl;exact Ld_blk rfl QM rfl;exact rfl;exact rfl)|(apply GOl_ov;exact rfl;exact rfl;(first|(apply OV_idxS (j:=k) (n:=s.n);(iterate 5 exact rfl);exact a1;(with_reducible exact rfl);omega)|(apply OV_load;exact rfl;exact Lv_ro rfl (cc.le (by first|exact Le.refl _|assumption|(repeat (first|assumption|(apply Le.trans;assumption))))) rfl));exact QA)|(apply GOl_to;(iterate 3 exact rfl);(first|(apply OpTo_store;(iterate 3 exact rfl);exact QR;(iterate 3 exact rfl);skip)|(apply OpTo_alloc;exact rfl;intro b;skip)|(apply OpTo_buildSliceS (enc:=resC) (n:=1) [{ x with hc:=0,ac:=0 }];(iterate 3 exact rfl);exact List.cons_ne_nil _ _;(iterate 4 exact rfl);exact resC_len;exact rfl;exact rfl;intro b6 h6 hle6 hs6;skip)|(apply OpTo_appendS (enc:=resC) (xs:=L) (ys:=[{ x with hc:=0,ac:=0 }]);(iterate 7 exact rfl);exact hs6.le (by first|exact Le.refl _|assumption|(repeat (first|assumption|(apply Le.trans;assumption))));exact resC_len;exact resC_one;intro v1;exact QR;omega;exact rfl;intro A9 c9;skip)))|(apply GO_cond;exact rfl;all_goals (intro hc;try simp only [hcS,reduceCtorEq] at hc;try (exfalso;omega)))|(apply GOl_split;exact rfl;exact rfl;all_goals (intro hc;try simp only [hcS,reduceCtorEq] at hc;try (exfalso;omega))))
          all_goals first
            | (exfalso;omega)
            | (have h9:=ih2 A9 c9 _ hle6
               rw [show S + (x.hg - x.ag) = S + x.hg - x.ag by omega] at h9
               refine GO_fit QS QT (h9))
        · rw [if_neg hxw] at ih2
          repeat' (first|apply GO_seq|apply GO_skip|apply GO_inBlock|apply GO_block|apply GO_region|apply GOl_nil|(apply GOl_unwanted;exact rfl;exact rfl)|(apply GOl_add;(iterate 3 exact rfl);omega;exact rfl;exact rfl)|(apply GOl_sub;(iterate 3 exact rfl);omega;exact rfl;exact rfl)|(apply GOl_pv;(iterate 3 exact rfl))|(apply GOl_load;exact rfl;exact Ld_blk rfl QM rfl;exact rfl;exact rfl)|(apply GOl_ov;exact rfl;exact rfl;(first|(apply OV_idxS (j:=k) (n:=s.n);(iterate 5 exact rfl);exact a1;(with_reducible exact rfl);omega)|(apply OV_load;exact rfl;exact Lv_ro rfl (cc.le (by first|exact Le.refl _|assumption|(repeat (first|assumption|(apply Le.trans;assumption))))) rfl));exact QA)|(apply GOl_to;(iterate 3 exact rfl);(first|(apply OpTo_store;(iterate 3 exact rfl);exact QR;(iterate 3 exact rfl);skip)|(apply OpTo_alloc;exact rfl;intro b;skip)|(apply OpTo_buildSliceS (enc:=resC) (n:=1) [{ x with hc:=0,ac:=0 }];(iterate 3 exact rfl);exact List.cons_ne_nil _ _;(iterate 4 exact rfl);exact resC_len;exact rfl;exact rfl;intro b6 h6 hle6 hs6;skip)|(apply OpTo_appendS (enc:=resC) (xs:=L) (ys:=[{ x with hc:=0,ac:=0 }]);(iterate 7 exact rfl);exact hs6.le (by first|exact Le.refl _|assumption|(repeat (first|assumption|(apply Le.trans;assumption))));exact resC_len;exact resC_one;intro v1;exact QR;omega;exact rfl;intro A9 c9;skip)))|(apply GO_cond;exact rfl;all_goals (intro hc;try simp only [hcS,reduceCtorEq] at hc;try (exfalso;omega)))|(apply GOl_split;exact rfl;exact rfl;all_goals (intro hc;try simp only [hcS,reduceCtorEq] at hc;try (exfalso;omega))))
          all_goals first
            | (exfalso;omega)
            | (have h9:=ih2 A9 c9 _ hle6
               rw [show S + (x.ag - x.hg) = S + x.ag - x.hg by omega] at h9
               refine GO_fit QS QT (h9))
    · rw [List.take_of_length_le (by omega)]
      obtain rfl : k = s.n:=by omega
      have w2:=fun h' => winnerOwnS h' A c ⟨d.a,d.b,d.ls.map (bareD day)⟩ t s.n (by show (d.ls.map _).length = _;rw [List.length_map];exact hlen) _ hbare
      have k4:=fun h' (hl : Le hh h') => k3 h' (hle.trans hl)
      obtain ⟨hS0,hS1⟩:=hsum
      clear ih k1 k3 hbare
      generalize sumW w d.ls = S at *
      generalize winnerE d { t with away:=!t.away } = r at *
      by_cases hSz : S = 0
      · clear hS1
        repeat' (first|apply GO_seq|apply GO_region|apply GOl_nil|(apply GO_exit;exact rfl)|(apply GOl_unwanted;exact rfl;exact rfl)|(apply GOl_pv;(iterate 3 exact rfl))|(apply GOl_load;exact rfl;exact Ld_blk rfl QM rfl;exact rfl;exact rfl)|(apply GOl_to;(iterate 3 exact rfl);(first|(apply OpTo_store;(iterate 3 exact rfl);exact QR;(iterate 3 exact rfl);skip)|(apply OpTo_valT;exact rfl;exact has9;exact w2 _;exact QT;skip)|(apply OpTo_res;exact rfl;exact has9;exact k4 _ (by first|exact Le.refl _|assumption|(repeat (first|assumption|(apply Le.trans;assumption))));rintro v5 h5 hle5 rfl;skip)))|(apply GO_cond;exact rfl;all_goals (intro hc;try simp only [hcS,reduceCtorEq] at hc;try (exfalso;omega)))|(apply GOl_split;exact rfl;exact rfl;all_goals (intro hc;try simp only [hcS,reduceCtorEq] at hc;try (exfalso;omega))))
        all_goals first
          | (exfalso;omega)
          | (exact GO_retV1 rfl rfl rfl rfl)
          | (exact GO_retV1 rfl rfl rfl (congrArg Value.bool ((eqI_t _ _).mpr rfl)))
          | (exact GO_retV1 rfl rfl rfl (congrArg Value.bool ((eqI_t _ _).mpr rfl)).symm)
      · have hr : r = (w,0):=hS1.resolve_left hSz
        subst hr
        clear hS1
        dsimp only at k4
        repeat' (first|apply GO_seq|apply GO_region|apply GOl_nil|(apply GO_exit;exact rfl)|(apply GOl_pv;(iterate 3 exact rfl))|(apply GOl_load;exact rfl;exact Ld_blk rfl QM rfl;exact rfl;exact rfl)|(apply GOl_to;(iterate 3 exact rfl);(first|(apply OpTo_store;(iterate 3 exact rfl);exact QR;(iterate 3 exact rfl);skip)|(apply OpTo_valT;exact rfl;exact has9;exact w2 _;exact QT;skip)|(apply OpTo_res;exact rfl;exact has9;exact k4 _ (by first|exact Le.refl _|assumption|(repeat (first|assumption|(apply Le.trans;assumption))));rintro v5 h5 hle5 rfl;skip)))|(apply GO_cond;exact rfl;all_goals (intro hc;try simp only [hcS,reduceCtorEq] at hc;try (exfalso;omega)))|(apply GOl_split;exact rfl;exact rfl;all_goals (intro hc;try simp only [hcS,reduceCtorEq] at hc;try (exfalso;omega))))
        all_goals first
          | (exfalso;omega)
          | (exact GO_retV1 rfl rfl rfl rfl)
          | (exact GO_retV1 rfl rfl rfl (congrArg Value.bool ((eqI_t _ _).mpr rfl)))
          | (exact GO_retV1 rfl rfl rfl (congrArg Value.bool ((eqI_t _ _).mpr rfl)).symm)
end Go.Hw

import Derived.Test.YtlnenhhbalpbpaaGreatDoorQA0
import Derived.Test.YtlnenhhbalpbpaaGreatDoorBE
import Derived.Test.YtlnenhhbalpbpaaGreatDoorFH
set_option linter.unusedVariables false
set_option linter.unusedSimpArgs false
set_option maxRecDepth 100000
set_option maxHeartbeats 8000000
namespace Go.Hw
open Go
attribute [local irreducible] GO GOl GDp Val Fn Res CellsAt ValE Blk OwnS MapA OwnPf Has Yl SepA forceL decC memS suspC offL ofGame cardP ofF
open Go.Proofs (Tryz.prog)
def topF (r : FRul) : Fct:={ fct0 with kind:=4,day:=1048576,known:=1048576,ru:=r }
theorem topF_ok {r : FRul} (h : RulOk r) : FctOk (topF r):=by
  refine ⟨⟨by show (0 : Int) ≤ 1048576;decide,by show (1048576 : Int) < 1048577;decide⟩,⟨by show (0 : Int) ≤ 1048576;decide,by show (1048576 : Int) < 1048577;decide⟩,?_,rfl⟩
  unfold ContOk
  rw [if_neg (show ¬ (topF r).kind = 1 from by show ¬ ((4 : Int) = 1);decide),if_neg (show ¬ (topF r).kind = 2 from by show ¬ ((4 : Int) = 2);decide),if_neg (show ¬ (topF r).kind = 3 from by show ¬ ((4 : Int) = 3);decide),if_pos (show (topF r).kind = 4 from rfl)]
  exact h
def rlF (g : FGame) (k : Int) : FRul:={ rul0 with case:=1,inst:=3,kind:=1,g:=g,club:=k }
def rlA (g : FGame) : FRul:={ rul0 with case:=1,inst:=3,kind:=2,g:=g }
def rlS (g : FGame) (a b : Int) : FRul:={ rul0 with case:=1,inst:=3,kind:=3,g:=g,hg:=a,ag:=b }
theorem rlF_ok {g : FGame} (hg : GameOk g) {k : Int} (hk : k = g.h ∨ k = g.a) : RulOk (rlF g k):=⟨by show (1 : Int) ≤ 1;decide,by show (1 : Int) ≤ 1048576;decide,by show (1 : Int) ≤ 3;decide,by show (3 : Int) ≤ 3;decide,⟨hg,hk⟩,rfl⟩
theorem rlA_ok {g : FGame} (hg : GameOk g) : RulOk (rlA g):=⟨by show (1 : Int) ≤ 1;decide,by show (1 : Int) ≤ 1048576;decide,by show (1 : Int) ≤ 3;decide,by show (3 : Int) ≤ 3;decide,hg,rfl⟩
theorem rlS_ok {g : FGame} (hg : GameOk g) {a b : Int} (ha : 0 ≤ a ∧ a ≤ 99) (hb : 0 ≤ b ∧ b ≤ 99) : RulOk (rlS g a b):=⟨by show (1 : Int) ≤ 1;decide,by show (1 : Int) ≤ 1048576;decide,by show (1 : Int) ≤ 3;decide,by show (3 : Int) ≤ 3;decide,⟨hg,⟨ha.1,by show a < 100;omega⟩,⟨hb.1,by show b < 100;omega⟩⟩,rfl⟩
theorem top_wins {l : List (Fsh × Fct)} (h32 : In32 (fcs l)) {r : FRul} (hr : RulOk r) (h1 : r.case = 1) (h3 : r.inst = 3) {g : FGame} (hg : GameOk g) (ha : AboutG g r)
    (hl : ∀ p ∈ l,p.2.known < 1048576 ∧ p.2.ru.case ≠ 1 ∧ p.2.aCase ≠ 1) : ofF (fcs ((fsh0,topF r) :: l)) g = ruledR g r 1048576:=by
  have h32' : In32 (topF r :: fcs l):=fun f hf => by
    rcases List.mem_cons.1 hf with rfl|w
    · rfl
    · exact h32 f w
  have:=ruling_wins (l:=fcs l) (f:=topF r) h32' (topF_ok hr) rfl h1 h3 ha (fun x hx => by
    obtain ⟨p,hp,rfl⟩:=List.mem_map.1 hx
    exact hl p hp)
  exact ofF_ruled (L:=topF r :: fcs l) hg this
theorem rlF_h {g : FGame} (hg : GameOk g) : ruledR g (rlF g g.h) 1048576 = some { res0 with g:=g,ag:=3,day:=1048576,forf:=true }:=by
  have hne : g.h ≠ g.a:=hg.2.2.2.2
  show some (against g 1048576 (decide (g.h = g.h)) (decide (g.h = g.a))) = _
  rw [decide_eq_true rfl,decide_eq_false hne];rfl
theorem rlF_a {g : FGame} (hg : GameOk g) : ruledR g (rlF g g.a) 1048576 = some { res0 with g:=g,hg:=3,day:=1048576,forf:=true }:=by
  have hne : g.h ≠ g.a:=hg.2.2.2.2
  show some (against g 1048576 (decide (g.a = g.h)) (decide (g.a = g.a))) = _
  rw [decide_eq_true rfl,decide_eq_false (fun w => hne w.symm)];rfl
theorem rlA_r {g : FGame} : ruledR g (rlA g) 1048576 = none:=rfl
theorem rlS_r {g : FGame} {a b : Int} : ruledR g (rlS g a b) 1048576 = some { res0 with g:=g,hg:=a,ag:=b,day:=1048576 }:=rfl
theorem topF_at (h : Ro) (r : FRul) : FAt h fsh0 (topF r) ∧ FSm (topF r):=⟨⟨⟨SlOf.nil,SlOf.nil,SlOf.nil,SlOf.nil⟩,SlOf.nil,SlOf.nil,rfl,Nat.le_refl _⟩,⟨Nat.zero_le _,Nat.zero_le _,Nat.zero_le _,Nat.zero_le _⟩,Nat.zero_le _,Nat.zero_le _,Nat.zero_le _⟩
def RuFit (p : Fsh × Fct) : Prop:=p.2.day < 1048576 ∧ p.2.known < 1048576 ∧ p.2.ru.case ≠ 1 ∧ p.2.aCase ≠ 1
theorem ruling12_law (h : Ro) (hG : PowG h) (A : Option Addr) (n c : Nat) (l : List (Fsh × Fct)) (hx : LedIn h A n c l) (g : FGame) (kd ho aw : Int) : Res Tryz.prog 5 #[.slice A n c,gameV g,.int .i64 kd,.int .i64 ho,.int .i64 aw] h (fun u _ => u = .bool true):=by
  refine Res_intro (args:=[_,_,_,_,_]) ts_ok Go.Proofs.Tryz.func5 rfl rfl fun w0 X0 => ?_
  have hfew:=fewF_c h A n c l hx.row hx.small 14
  have hsane:=sane12_c h hG
  have hgm:=fun h' => gameR7_c h' g
  by_cases hF : (∀ p ∈ l,SmallS p.1 p.2) ∧ (n : Int) ≤ 14
  case' neg =>
    rw [decide_eq_false hF] at hfew
    repeat' (first|apply GO_seq|apply GO_skip|apply GO_region|apply GOl_nil|(apply GOl_to;(iterate 3 exact rfl);apply OpTo_box (e:=24);exact rfl;intro bg)|(apply GOl_unwanted;exact rfl;exact rfl)|(apply GOl_pv;(iterate 3 exact rfl))|(apply GOl_to;(iterate 3 exact rfl);(first|(apply OpTo_val;exact rfl;exact has8;exact hsane;skip)|(apply OpTo_val;exact rfl;exact has9;exact hfew;skip)))|(apply GO_cond;exact rfl;all_goals (intro hc;try simp only [hcS,reduceCtorEq] at hc;try (exfalso;omega))))
    all_goals first
      | (exact GO_retR1 rfl rfl rfl rfl)
      | (exfalso;simp at hc;done)
  rw [decide_eq_true hF] at hfew
  by_cases hgo : GameOk g
  case' neg =>
    simp only [if_neg hgo] at hgm
    repeat' (first|apply GO_seq|apply GO_skip|apply GO_region|apply GOl_nil|(apply GOl_to;(iterate 3 exact rfl);apply OpTo_box (e:=24);exact rfl;intro bg)|(apply GOl_unwanted;exact rfl;exact rfl)|(apply GOl_pv;(iterate 3 exact rfl))|(apply GOl_load;exact rfl;exact Ld_blk rfl QM rfl;exact rfl;exact rfl)|(apply GOl_to;(iterate 3 exact rfl);(first|(apply OpTo_val;exact rfl;exact has8;exact hsane;skip)|(apply OpTo_val;exact rfl;exact has9;exact hfew;skip)|(apply OpTo_val;exact rfl;exact has14;exact hgm _;skip)))|(apply GO_cond;exact rfl;all_goals (intro hc;try simp only [hcS,reduceCtorEq] at hc;try (exfalso;omega)))|(apply GOl_split;exact rfl;exact rfl;all_goals (intro hc;try simp only [hcS,reduceCtorEq] at hc;try (exfalso;omega))))
    all_goals first
      | (exact GO_retR1 rfl rfl rfl rfl)
      | (exfalso;simp at hc;done)
      | (exfalso;omega)
  simp only [if_pos hgo] at hgm
  by_cases hb : (0 ≤ ho ∧ ho ≤ 99) ∧ (0 ≤ aw ∧ aw ≤ 99)
  case' neg =>
    repeat' (first|apply GO_seq|apply GO_skip|apply GO_region|apply GOl_nil|(apply GOl_to;(iterate 3 exact rfl);apply OpTo_box (e:=24);exact rfl;intro bg)|(apply GOl_unwanted;exact rfl;exact rfl)|(apply GOl_pv;(iterate 3 exact rfl))|(apply GOl_load;exact rfl;exact Ld_blk rfl QM rfl;exact rfl;exact rfl)|(apply GOl_to;(iterate 3 exact rfl);(first|(apply OpTo_val;exact rfl;exact has8;exact hsane;skip)|(apply OpTo_val;exact rfl;exact has9;exact hfew;skip)|(apply OpTo_val;exact rfl;exact has14;exact hgm _;skip)))|(apply GO_cond;exact rfl;all_goals (intro hc;try simp only [hcS,reduceCtorEq] at hc;try (exfalso;omega)))|(apply GOl_split;exact rfl;exact rfl;all_goals (intro hc;try simp only [hcS,reduceCtorEq] at hc;try (exfalso;omega))))
    all_goals first
      | (exact GO_retR1 rfl rfl rfl rfl)
      | (exfalso;simp at hc;done)
      | (exfalso;omega)
  obtain ⟨⟨hb1,hb2⟩,hb3,hb4⟩:=hb
  have hfa : FactsAt h A n l:=⟨hx.row,hx.fat,by have:=hF.2;omega⟩
  have hn14 : n ≤ 14:=by have:=hF.2;omega
  have h32 : In32 (fcs l):=In32_factsX hfa
  have hrow:=hfa.row
  have hlen:=hrow.len
  have hfat:=hfa.fat
  have hof : ∀ (r : FRul),RulOk r → r.case = 1 → r.inst = 3 → AboutG g r → (∀ p ∈ l,RuFit p) → ∀ h' (hl : Le h h') A' c',SlOf encF82 82 h' A' (1 + n) ([(fsh0,topF r)] ++ l) → Res Tryz.prog 10 #[.slice A' (1 + n) c',gameV g] h' (fun u _ => u = resO (ruledR g r 1048576)):=fun r q1 q2 q3 q4 q5 h' hl A' c' hs => by
    have hf' : FactsAt h' A' (1 + n) ((fsh0,topF r) :: l):=⟨hs,fun p hp => by
      rcases List.mem_cons.1 hp with rfl|w
      · exact topF_at h' r
      · exact ⟨(hfat p w).1.le hl,(hfat p w).2⟩,by omega⟩
    have:=Of12_c h' (hG.le hl) A' (1 + n) c' _ hf' (by omega) g
    rw [top_wins h32 q1 q2 q3 hgo q4 fun p hp => ⟨(q5 p hp).2.1,(q5 p hp).2.2.1,(q5 p hp).2.2.2⟩] at this
    exact this
  clear hF hfa hx h32 hfat
  by_cases hk0 : kd = 0
  case' pos =>
    have hof:=hof (rlF g g.h) (rlF_ok hgo (.inl rfl)) rfl rfl ⟨rfl,.inl rfl⟩
    rw [rlF_h hgo] at hof
    repeat' (first|apply GO_seq|apply GO_skip|apply GO_inBlock|apply GO_block|apply GO_region|apply GOl_nil|(apply GOl_to;(iterate 3 exact rfl);apply OpTo_box (e:=24);exact rfl;intro bg)|(apply GOl_to;(iterate 3 exact rfl);apply OpTo_alloc (e:=39);exact rfl;intro br)|(apply GOl_pv;(iterate 3 exact rfl))|(apply GOl_load;exact rfl;exact Ld_blk rfl QM rfl;exact rfl;exact rfl)|(apply GOl_to;(iterate 3 exact rfl);(first|(apply OpTo_store;(iterate 3 exact rfl);exact QR;(iterate 3 exact rfl);skip)|(apply OpTo_val;exact rfl;exact has8;exact hsane;skip)|(apply OpTo_val;exact rfl;exact has9;exact hfew;skip)|(apply OpTo_val;exact rfl;exact has14;exact hgm _;skip)))|(apply GO_cond;exact rfl;all_goals (intro hc;try simp only [hcS,reduceCtorEq] at hc;try (exfalso;omega)))|(apply GOl_split;exact rfl;exact rfl;all_goals (intro hc;try simp only [hcS,reduceCtorEq] at hc;try (exfalso;omega))))
    all_goals (try (exfalso;omega))
    all_goals (try (exfalso;simp at hc;done))
    clear hsane hfew hgm
    refine GO_loopT (X:=Nat) (fun i => i ≤ n ∧ ∀ j,j < i → RuFit (l.getD j p0)) (fun i => n - i)
      (fun i => [(12,.int .i64 i),(11,ptrV br),(6,ptrV bg),(0,.slice A n c),(2,.int .i64 kd),(3,.int .i64 ho),(4,.int .i64 aw)])
      (fun _ => [Blk br 39 (rulC (rlF g g.h)),Blk bg 24 (gameC g)]) (fun _ => h) 0 ⟨by omega,fun j hj => absurd hj (by omega)⟩ QS QT rfl ?_
    rintro i ⟨hi,hI⟩ ih
    by_cases hin : i < n
    case' pos =>
      have a1:=hrow.addrD hin
      have c1 : CellsAt h ((addrD A).add (i * ty57.size)) (encF82 (l.getD i p0)):=hrow.cellsD p0 hin
      have hnx:=fun (hr : RuFit (l.getD i p0)) => ih (i + 1) ⟨by omega,fun j hj => by
        rcases Nat.lt_or_ge j i with w|w
        · exact hI j w
        · have : j = i:=by omega
          rw [this];exact hr⟩ (by omega)
      generalize l.getD i p0 = p at *
      obtain ⟨ps,f⟩:=p
      unfold RuFit at hnx
      dsimp only at hnx
      have c1 : CellsAt h ((addrD A).add (i * ty57.size)) (factC ps f):=c1
      clear ih hI hof
      repeat' (first|apply GO_seq|apply GO_skip|apply GO_inBlock|apply GO_block|apply GO_region|apply GOl_nil|(apply GOl_add;(iterate 3 exact rfl);omega;exact rfl;exact rfl)|(apply GOl_pv;(iterate 3 exact rfl))|(apply GO_drawp (n:=16) [0,1,2,3,4,5,6,7,8,9,10,11,12,13,14,15,16,17,18,19,20,21,22,23,24,25,26,27,28,29,30,31,32,33,34,35] [(0,0),(1,0),(2,0),(3,0),(4,0),(5,0),(6,0),(7,0),(8,0),(9,0),(10,0),(11,0),(12,0),(13,0),(14,0),(15,0),(16,0),(17,0),(18,0),(19,0),(20,0),(21,0),(22,0),(23,0),(24,0),(25,0),(26,0),(27,0),(28,0),(29,0),(30,0),(31,0),(32,0),(33,0),(34,0),(35,0)];kernel_rfl)|(apply GP_un;exact rfl;kernel_rfl;exact rfl;exact rfl)|(apply GP_pv;exact rfl;kernel_rfl;(iterate 3 exact rfl))|(apply GP_loadB;exact rfl;kernel_rfl;(iterate 3 exact rfl);exact QM;exact rfl;exact rfl)|(apply GP_ov;exact rfl;kernel_rfl;exact rfl;exact rfl;(first|(apply OV_idxS (j:=i);(iterate 5 exact rfl);exact a1;(with_reducible exact rfl);omega)|(apply OV_load;exact rfl;first|exact Lv_ro rfl (by assumption) rfl|exact Lv_roF rfl (by assumption) rfl|exact Lv_roF2 rfl (by assumption) rfl|exact Lv_roF3 rfl (by assumption) rfl));exact QA)|(apply GP_done;kernel_rfl;exact rfl)|(apply GP_split;(iterate 5 exact rfl);all_goals (intro hc;try simp only [hcS,reduceCtorEq] at hc;try (exfalso;omega)))|(apply GO_cond;exact rfl;all_goals (intro hc;try simp only [hcS,reduceCtorEq] at hc;try (exfalso;omega))))
      all_goals first
        | (exact GO_retR1 rfl rfl rfl rfl)
        | (have h9:=hnx ⟨by omega,by omega,by assumption,by assumption⟩
           refine GO_fit QS QT (h9))
        | (exfalso;omega)
    have hall : ∀ p ∈ l,RuFit p:=fun p hp => by
      obtain ⟨j,hj,e⟩:=List.mem_iff_getElem.1 hp
      have:=hI j (by omega)
      rw [List.getD_eq_getElem?_getD,List.getElem?_eq_getElem hj] at this
      rw [← e];exact this
    have hof:=hof hall
    clear ih hI
    repeat' (first|apply GO_seq|apply GO_block|apply GO_region|apply GOl_nil|(apply GO_exit;exact rfl)|(apply GOl_pv;(iterate 3 exact rfl))|(apply GOl_load;exact rfl;exact Ld_blk rfl QM rfl;exact rfl;exact rfl)|(apply GOl_ov;exact rfl;exact rfl;(first|(apply OV_eqlR;(iterate 3 exact rfl);kernel_rfl;kernel_rfl));exact QA)|(apply GO_drawp (n:=18) [0,1,2,3,4,5,6,7,8,10,11,9,12] [(0,0),(1,0),(3,0),(5,0),(2,2),(23,10),(4,2),(14,10),(6,2),(6,10),(7,0),(8,0),(9,0),(10,1),(11,1),(12,0),(6,1),(7,0),(8,0),(9,0),(11,1),(12,0),(4,1),(6,1),(7,0),(8,0),(9,0),(11,1),(12,0),(2,1),(4,1),(6,1),(7,0),(8,0),(9,0),(11,1),(12,0)];kernel_rfl)|(apply GP_pv;exact rfl;kernel_rfl;(iterate 3 exact rfl))|(apply GP_loadB;exact rfl;kernel_rfl;(iterate 3 exact rfl);exact QM;exact rfl;exact rfl)|(apply GP_real;exact rfl;kernel_rfl;(iterate 3 exact rfl);(first|(apply OpTo_store;(iterate 3 exact rfl);exact QR;(iterate 3 exact rfl);refine ⟨Le.refl _,QN,?_⟩)|(apply OpTo_alloc;exact rfl;intro b;refine ⟨Le.refl _,QN,?_⟩)|(apply OpTo_buildSliceO (n:=1) (cs:=[(fsh0,topF (rlF g g.h))].flatMap encF82);(iterate 3 exact rfl);exact List.cons_ne_nil _ _;(iterate 6 exact rfl);intro b1;refine ⟨Le.refl _,QN,?_⟩)|(apply OpTo_appendSR (enc:=encF82) (n:=1) (m:=n) (xs:=[(fsh0,topF (rlF g g.h))]) (ys:=l) (v:=.slice (some ⟨b1,0,none⟩) 1 1);(iterate 7 exact rfl);exact hrow.le (by first|exact Le.refl _|assumption|(repeat (first|assumption|(apply Le.trans;assumption))));exact encF82_len;exact encF82_one;exact QK;exact rfl;omega;exact rfl;intro A8 c8 h8 hle8 hnc8 hs8;refine ⟨hle8,QN,?_⟩)|(apply OpTo_res;exact rfl;exact has10;exact hof _ (by first|exact Le.refl _|assumption|(repeat (first|assumption|(apply Le.trans;assumption)))) A8 c8 (hs8.le (by first|exact Le.refl _|assumption|(repeat (first|assumption|(apply Le.trans;assumption)))));rintro v2 h2 hle2 rfl;refine ⟨hle2,QN,?_⟩)))|(apply GP_two;kernel_rfl;exact rfl;exact rfl)|(apply RealP_intro;(iterate 4 exact rfl);(first|(apply OpTo_alloc;exact rfl;intro b;refine ⟨Le.refl _,QN,?_⟩)|(apply OpTo_buildSliceO (n:=1) (cs:=[(fsh0,topF (rlF g g.h))].flatMap encF82);(iterate 3 exact rfl);exact List.cons_ne_nil _ _;(iterate 6 exact rfl);intro b1;refine ⟨Le.refl _,QN,?_⟩)|(apply OpTo_appendSR (enc:=encF82) (n:=1) (m:=n) (xs:=[(fsh0,topF (rlF g g.h))]) (ys:=l) (v:=.slice (some ⟨b1,0,none⟩) 1 1);(iterate 7 exact rfl);exact hrow.le (by first|exact Le.refl _|assumption|(repeat (first|assumption|(apply Le.trans;assumption))));exact encF82_len;exact encF82_one;exact QK;exact rfl;omega;exact rfl;intro A8 c8 h8 hle8 hnc8 hs8;refine ⟨hle8,QN,?_⟩)|(apply OpTo_res;exact rfl;exact has10;exact hof _ (by first|exact Le.refl _|assumption|(repeat (first|assumption|(apply Le.trans;assumption)))) A8 c8 (hs8.le (by first|exact Le.refl _|assumption|(repeat (first|assumption|(apply Le.trans;assumption)))));rintro v2 h2 hle2 rfl;refine ⟨hle2,QN,?_⟩)))|(apply GP_done;kernel_rfl;exact rfl)|(apply GO_cond;exact rfl;all_goals (intro hc;try simp only [hcS,reduceCtorEq] at hc;try (exfalso;omega))))
    all_goals first
      | (exfalso;omega)
      | (exact GO_retR1 rfl rfl rfl rfl)
      | (exfalso;simp at hc;done)
  by_cases hk1 : kd = 1
  case' pos =>
    have hof:=hof (rlF g g.a) (rlF_ok hgo (.inr rfl)) rfl rfl ⟨rfl,.inl rfl⟩
    rw [rlF_a hgo] at hof
    repeat' (first|apply GO_seq|apply GO_skip|apply GO_inBlock|apply GO_block|apply GO_region|apply GOl_nil|(apply GOl_to;(iterate 3 exact rfl);apply OpTo_box (e:=24);exact rfl;intro bg)|(apply GOl_to;(iterate 3 exact rfl);apply OpTo_alloc (e:=39);exact rfl;intro br)|(apply GOl_pv;(iterate 3 exact rfl))|(apply GOl_load;exact rfl;exact Ld_blk rfl QM rfl;exact rfl;exact rfl)|(apply GOl_to;(iterate 3 exact rfl);(first|(apply OpTo_store;(iterate 3 exact rfl);exact QR;(iterate 3 exact rfl);skip)|(apply OpTo_val;exact rfl;exact has8;exact hsane;skip)|(apply OpTo_val;exact rfl;exact has9;exact hfew;skip)|(apply OpTo_val;exact rfl;exact has14;exact hgm _;skip)))|(apply GO_cond;exact rfl;all_goals (intro hc;try simp only [hcS,reduceCtorEq] at hc;try (exfalso;omega)))|(apply GOl_split;exact rfl;exact rfl;all_goals (intro hc;try simp only [hcS,reduceCtorEq] at hc;try (exfalso;omega))))
    all_goals (try (exfalso;omega))
    all_goals (try (exfalso;simp at hc;done))
    clear hsane hfew hgm
    refine GO_loopT (X:=Nat) (fun i => i ≤ n ∧ ∀ j,j < i → RuFit (l.getD j p0)) (fun i => n - i)
      (fun i => [(12,.int .i64 i),(11,ptrV br),(6,ptrV bg),(0,.slice A n c),(2,.int .i64 kd),(3,.int .i64 ho),(4,.int .i64 aw)])
      (fun _ => [Blk br 39 (rulC (rlF g g.a)),Blk bg 24 (gameC g)]) (fun _ => h) 0 ⟨by omega,fun j hj => absurd hj (by omega)⟩ QS QT rfl ?_
    rintro i ⟨hi,hI⟩ ih
    by_cases hin : i < n
    case' pos =>
      have a1:=hrow.addrD hin
      have c1 : CellsAt h ((addrD A).add (i * ty57.size)) (encF82 (l.getD i p0)):=hrow.cellsD p0 hin
      have hnx:=fun (hr : RuFit (l.getD i p0)) => ih (i + 1) ⟨by omega,fun j hj => by
        rcases Nat.lt_or_ge j i with w|w
        · exact hI j w
        · have : j = i:=by omega
          rw [this];exact hr⟩ (by omega)
      generalize l.getD i p0 = p at *
      obtain ⟨ps,f⟩:=p
      unfold RuFit at hnx
      dsimp only at hnx
      have c1 : CellsAt h ((addrD A).add (i * ty57.size)) (factC ps f):=c1
      clear ih hI hof
      repeat' (first|apply GO_seq|apply GO_skip|apply GO_inBlock|apply GO_block|apply GO_region|apply GOl_nil|(apply GOl_add;(iterate 3 exact rfl);omega;exact rfl;exact rfl)|(apply GOl_pv;(iterate 3 exact rfl))|(apply GO_drawp (n:=16) [0,1,2,3,4,5,6,7,8,9,10,11,12,13,14,15,16,17,18,19,20,21,22,23,24,25,26,27,28,29,30,31,32,33,34,35] [(0,0),(1,0),(2,0),(3,0),(4,0),(5,0),(6,0),(7,0),(8,0),(9,0),(10,0),(11,0),(12,0),(13,0),(14,0),(15,0),(16,0),(17,0),(18,0),(19,0),(20,0),(21,0),(22,0),(23,0),(24,0),(25,0),(26,0),(27,0),(28,0),(29,0),(30,0),(31,0),(32,0),(33,0),(34,0),(35,0)];kernel_rfl)|(apply GP_un;exact rfl;kernel_rfl;exact rfl;exact rfl)|(apply GP_pv;exact rfl;kernel_rfl;(iterate 3 exact rfl))|(apply GP_loadB;exact rfl;kernel_rfl;(iterate 3 exact rfl);exact QM;exact rfl;exact rfl)|(apply GP_ov;exact rfl;kernel_rfl;exact rfl;exact rfl;(first|(apply OV_idxS (j:=i);(iterate 5 exact rfl);exact a1;(with_reducible exact rfl);omega)|(apply OV_load;exact rfl;first|exact Lv_ro rfl (by assumption) rfl|exact Lv_roF rfl (by assumption) rfl|exact Lv_roF2 rfl (by assumption) rfl|exact Lv_roF3 rfl (by assumption) rfl));exact QA)|(apply GP_done;kernel_rfl;exact rfl)|(apply GP_split;(iterate 5 exact rfl);all_goals (intro hc;try simp only [hcS,reduceCtorEq] at hc;try (exfalso;omega)))|(apply GO_cond;exact rfl;all_goals (intro hc;try simp only [hcS,reduceCtorEq] at hc;try (exfalso;omega))))
      all_goals first
        | (exact GO_retR1 rfl rfl rfl rfl)
        | (have h9:=hnx ⟨by omega,by omega,by assumption,by assumption⟩
           refine GO_fit QS QT (h9))
        | (exfalso;omega)
    have hall : ∀ p ∈ l,RuFit p:=fun p hp => by
      obtain ⟨j,hj,e⟩:=List.mem_iff_getElem.1 hp
      have:=hI j (by omega)
      rw [List.getD_eq_getElem?_getD,List.getElem?_eq_getElem hj] at this
      rw [← e];exact this
    have hof:=hof hall
    clear ih hI
    repeat' (first|apply GO_seq|apply GO_block|apply GO_region|apply GOl_nil|(apply GO_exit;exact rfl)|(apply GOl_pv;(iterate 3 exact rfl))|(apply GOl_load;exact rfl;exact Ld_blk rfl QM rfl;exact rfl;exact rfl)|(apply GOl_ov;exact rfl;exact rfl;(first|(apply OV_eqlR;(iterate 3 exact rfl);kernel_rfl;kernel_rfl));exact QA)|(apply GO_drawp (n:=18) [0,1,2,3,4,5,6,7,8,10,11,9,12] [(0,0),(1,0),(3,0),(5,0),(2,2),(23,10),(4,2),(14,10),(6,2),(6,10),(7,0),(8,0),(9,0),(10,1),(11,1),(12,0),(6,1),(7,0),(8,0),(9,0),(11,1),(12,0),(4,1),(6,1),(7,0),(8,0),(9,0),(11,1),(12,0),(2,1),(4,1),(6,1),(7,0),(8,0),(9,0),(11,1),(12,0)];kernel_rfl)|(apply GP_pv;exact rfl;kernel_rfl;(iterate 3 exact rfl))|(apply GP_loadB;exact rfl;kernel_rfl;(iterate 3 exact rfl);exact QM;exact rfl;exact rfl)|(apply GP_real;exact rfl;kernel_rfl;(iterate 3 exact rfl);(first|(apply OpTo_store;(iterate 3 exact rfl);exact QR;(iterate 3 exact rfl);refine ⟨Le.refl _,QN,?_⟩)|(apply OpTo_alloc;exact rfl;intro b;refine ⟨Le.refl _,QN,?_⟩)|(apply OpTo_buildSliceO (n:=1) (cs:=[(fsh0,topF (rlF g g.a))].flatMap encF82);(iterate 3 exact rfl);exact List.cons_ne_nil _ _;(iterate 6 exact rfl);intro b1;refine ⟨Le.refl _,QN,?_⟩)|(apply OpTo_appendSR (enc:=encF82) (n:=1) (m:=n) (xs:=[(fsh0,topF (rlF g g.a))]) (ys:=l) (v:=.slice (some ⟨b1,0,none⟩) 1 1);(iterate 7 exact rfl);exact hrow.le (by first|exact Le.refl _|assumption|(repeat (first|assumption|(apply Le.trans;assumption))));exact encF82_len;exact encF82_one;exact QK;exact rfl;omega;exact rfl;intro A8 c8 h8 hle8 hnc8 hs8;refine ⟨hle8,QN,?_⟩)|(apply OpTo_res;exact rfl;exact has10;exact hof _ (by first|exact Le.refl _|assumption|(repeat (first|assumption|(apply Le.trans;assumption)))) A8 c8 (hs8.le (by first|exact Le.refl _|assumption|(repeat (first|assumption|(apply Le.trans;assumption)))));rintro v2 h2 hle2 rfl;refine ⟨hle2,QN,?_⟩)))|(apply GP_two;kernel_rfl;exact rfl;exact rfl)|(apply RealP_intro;(iterate 4 exact rfl);(first|(apply OpTo_alloc;exact rfl;intro b;refine ⟨Le.refl _,QN,?_⟩)|(apply OpTo_buildSliceO (n:=1) (cs:=[(fsh0,topF (rlF g g.a))].flatMap encF82);(iterate 3 exact rfl);exact List.cons_ne_nil _ _;(iterate 6 exact rfl);intro b1;refine ⟨Le.refl _,QN,?_⟩)|(apply OpTo_appendSR (enc:=encF82) (n:=1) (m:=n) (xs:=[(fsh0,topF (rlF g g.a))]) (ys:=l) (v:=.slice (some ⟨b1,0,none⟩) 1 1);(iterate 7 exact rfl);exact hrow.le (by first|exact Le.refl _|assumption|(repeat (first|assumption|(apply Le.trans;assumption))));exact encF82_len;exact encF82_one;exact QK;exact rfl;omega;exact rfl;intro A8 c8 h8 hle8 hnc8 hs8;refine ⟨hle8,QN,?_⟩)|(apply OpTo_res;exact rfl;exact has10;exact hof _ (by first|exact Le.refl _|assumption|(repeat (first|assumption|(apply Le.trans;assumption)))) A8 c8 (hs8.le (by first|exact Le.refl _|assumption|(repeat (first|assumption|(apply Le.trans;assumption)))));rintro v2 h2 hle2 rfl;refine ⟨hle2,QN,?_⟩)))|(apply GP_done;kernel_rfl;exact rfl)|(apply GO_cond;exact rfl;all_goals (intro hc;try simp only [hcS,reduceCtorEq] at hc;try (exfalso;omega))))
    all_goals first
      | (exfalso;omega)
      | (exact GO_retR1 rfl rfl rfl rfl)
      | (exfalso;simp at hc;done)
  by_cases hk2 : kd = 2
  case' pos =>
    have hof:=hof (rlA g) (rlA_ok hgo) rfl rfl ⟨rfl,.inr (.inl rfl)⟩
    rw [rlA_r] at hof
    repeat' (first|apply GO_seq|apply GO_skip|apply GO_inBlock|apply GO_block|apply GO_region|apply GOl_nil|(apply GOl_to;(iterate 3 exact rfl);apply OpTo_box (e:=24);exact rfl;intro bg)|(apply GOl_to;(iterate 3 exact rfl);apply OpTo_alloc (e:=39);exact rfl;intro br)|(apply GOl_pv;(iterate 3 exact rfl))|(apply GOl_load;exact rfl;exact Ld_blk rfl QM rfl;exact rfl;exact rfl)|(apply GOl_to;(iterate 3 exact rfl);(first|(apply OpTo_store;(iterate 3 exact rfl);exact QR;(iterate 3 exact rfl);skip)|(apply OpTo_val;exact rfl;exact has8;exact hsane;skip)|(apply OpTo_val;exact rfl;exact has9;exact hfew;skip)|(apply OpTo_val;exact rfl;exact has14;exact hgm _;skip)))|(apply GO_cond;exact rfl;all_goals (intro hc;try simp only [hcS,reduceCtorEq] at hc;try (exfalso;omega)))|(apply GOl_split;exact rfl;exact rfl;all_goals (intro hc;try simp only [hcS,reduceCtorEq] at hc;try (exfalso;omega))))
    all_goals (try (exfalso;omega))
    all_goals (try (exfalso;simp at hc;done))
    clear hsane hfew hgm
    refine GO_loopT (X:=Nat) (fun i => i ≤ n ∧ ∀ j,j < i → RuFit (l.getD j p0)) (fun i => n - i)
      (fun i => [(12,.int .i64 i),(11,ptrV br),(6,ptrV bg),(0,.slice A n c),(2,.int .i64 kd),(3,.int .i64 ho),(4,.int .i64 aw)])
      (fun _ => [Blk br 39 (rulC (rlA g)),Blk bg 24 (gameC g)]) (fun _ => h) 0 ⟨by omega,fun j hj => absurd hj (by omega)⟩ QS QT rfl ?_
    rintro i ⟨hi,hI⟩ ih
    by_cases hin : i < n
    case' pos =>
      have a1:=hrow.addrD hin
      have c1 : CellsAt h ((addrD A).add (i * ty57.size)) (encF82 (l.getD i p0)):=hrow.cellsD p0 hin
      have hnx:=fun (hr : RuFit (l.getD i p0)) => ih (i + 1) ⟨by omega,fun j hj => by
        rcases Nat.lt_or_ge j i with w|w
        · exact hI j w
        · have : j = i:=by omega
          rw [this];exact hr⟩ (by omega)
      generalize l.getD i p0 = p at *
      obtain ⟨ps,f⟩:=p
      unfold RuFit at hnx
      dsimp only at hnx
      have c1 : CellsAt h ((addrD A).add (i * ty57.size)) (factC ps f):=c1
      clear ih hI hof
      repeat' (first|apply GO_seq|apply GO_skip|apply GO_inBlock|apply GO_block|apply GO_region|apply GOl_nil|(apply GOl_add;(iterate 3 exact rfl);omega;exact rfl;exact rfl)|(apply GOl_pv;(iterate 3 exact rfl))|(apply GO_drawp (n:=16) [0,1,2,3,4,5,6,7,8,9,10,11,12,13,14,15,16,17,18,19,20,21,22,23,24,25,26,27,28,29,30,31,32,33,34,35] [(0,0),(1,0),(2,0),(3,0),(4,0),(5,0),(6,0),(7,0),(8,0),(9,0),(10,0),(11,0),(12,0),(13,0),(14,0),(15,0),(16,0),(17,0),(18,0),(19,0),(20,0),(21,0),(22,0),(23,0),(24,0),(25,0),(26,0),(27,0),(28,0),(29,0),(30,0),(31,0),(32,0),(33,0),(34,0),(35,0)];kernel_rfl)|(apply GP_un;exact rfl;kernel_rfl;exact rfl;exact rfl)|(apply GP_pv;exact rfl;kernel_rfl;(iterate 3 exact rfl))|(apply GP_loadB;exact rfl;kernel_rfl;(iterate 3 exact rfl);exact QM;exact rfl;exact rfl)|(apply GP_ov;exact rfl;kernel_rfl;exact rfl;exact rfl;(first|(apply OV_idxS (j:=i);(iterate 5 exact rfl);exact a1;(with_reducible exact rfl);omega)|(apply OV_load;exact rfl;first|exact Lv_ro rfl (by assumption) rfl|exact Lv_roF rfl (by assumption) rfl|exact Lv_roF2 rfl (by assumption) rfl|exact Lv_roF3 rfl (by assumption) rfl));exact QA)|(apply GP_done;kernel_rfl;exact rfl)|(apply GP_split;(iterate 5 exact rfl);all_goals (intro hc;try simp only [hcS,reduceCtorEq] at hc;try (exfalso;omega)))|(apply GO_cond;exact rfl;all_goals (intro hc;try simp only [hcS,reduceCtorEq] at hc;try (exfalso;omega))))
      all_goals first
        | (exact GO_retR1 rfl rfl rfl rfl)
        | (have h9:=hnx ⟨by omega,by omega,by assumption,by assumption⟩
           refine GO_fit QS QT (h9))
        | (exfalso;omega)
    have hall : ∀ p ∈ l,RuFit p:=fun p hp => by
      obtain ⟨j,hj,e⟩:=List.mem_iff_getElem.1 hp
      have:=hI j (by omega)
      rw [List.getD_eq_getElem?_getD,List.getElem?_eq_getElem hj] at this
      rw [← e];exact this
    have hof:=hof hall
    clear ih hI
    repeat' (first|apply GO_seq|apply GO_block|apply GO_region|apply GOl_nil|(apply GO_exit;exact rfl)|(apply GOl_pv;(iterate 3 exact rfl))|(apply GOl_load;exact rfl;exact Ld_blk rfl QM rfl;exact rfl;exact rfl)|(apply GOl_ov;exact rfl;exact rfl;(first|(apply OV_eqlR;(iterate 3 exact rfl);kernel_rfl;kernel_rfl));exact QA)|(apply GO_drawp (n:=18) [0,1,2,3,4,5,6,7,8,10,11,9,12] [(0,0),(1,0),(3,0),(5,0),(2,2),(23,10),(4,2),(14,10),(6,2),(6,10),(7,0),(8,0),(9,0),(10,1),(11,1),(12,0),(6,1),(7,0),(8,0),(9,0),(11,1),(12,0),(4,1),(6,1),(7,0),(8,0),(9,0),(11,1),(12,0),(2,1),(4,1),(6,1),(7,0),(8,0),(9,0),(11,1),(12,0)];kernel_rfl)|(apply GP_pv;exact rfl;kernel_rfl;(iterate 3 exact rfl))|(apply GP_loadB;exact rfl;kernel_rfl;(iterate 3 exact rfl);exact QM;exact rfl;exact rfl)|(apply GP_real;exact rfl;kernel_rfl;(iterate 3 exact rfl);(first|(apply OpTo_store;(iterate 3 exact rfl);exact QR;(iterate 3 exact rfl);refine ⟨Le.refl _,QN,?_⟩)|(apply OpTo_alloc;exact rfl;intro b;refine ⟨Le.refl _,QN,?_⟩)|(apply OpTo_buildSliceO (n:=1) (cs:=[(fsh0,topF (rlA g))].flatMap encF82);(iterate 3 exact rfl);exact List.cons_ne_nil _ _;(iterate 6 exact rfl);intro b1;refine ⟨Le.refl _,QN,?_⟩)|(apply OpTo_appendSR (enc:=encF82) (n:=1) (m:=n) (xs:=[(fsh0,topF (rlA g))]) (ys:=l) (v:=.slice (some ⟨b1,0,none⟩) 1 1);(iterate 7 exact rfl);exact hrow.le (by first|exact Le.refl _|assumption|(repeat (first|assumption|(apply Le.trans;assumption))));exact encF82_len;exact encF82_one;exact QK;exact rfl;omega;exact rfl;intro A8 c8 h8 hle8 hnc8 hs8;refine ⟨hle8,QN,?_⟩)|(apply OpTo_res;exact rfl;exact has10;exact hof _ (by first|exact Le.refl _|assumption|(repeat (first|assumption|(apply Le.trans;assumption)))) A8 c8 (hs8.le (by first|exact Le.refl _|assumption|(repeat (first|assumption|(apply Le.trans;assumption)))));rintro v2 h2 hle2 rfl;refine ⟨hle2,QN,?_⟩)))|(apply GP_two;kernel_rfl;exact rfl;exact rfl)|(apply RealP_intro;(iterate 4 exact rfl);(first|(apply OpTo_alloc;exact rfl;intro b;refine ⟨Le.refl _,QN,?_⟩)|(apply OpTo_buildSliceO (n:=1) (cs:=[(fsh0,topF (rlA g))].flatMap encF82);(iterate 3 exact rfl);exact List.cons_ne_nil _ _;(iterate 6 exact rfl);intro b1;refine ⟨Le.refl _,QN,?_⟩)|(apply OpTo_appendSR (enc:=encF82) (n:=1) (m:=n) (xs:=[(fsh0,topF (rlA g))]) (ys:=l) (v:=.slice (some ⟨b1,0,none⟩) 1 1);(iterate 7 exact rfl);exact hrow.le (by first|exact Le.refl _|assumption|(repeat (first|assumption|(apply Le.trans;assumption))));exact encF82_len;exact encF82_one;exact QK;exact rfl;omega;exact rfl;intro A8 c8 h8 hle8 hnc8 hs8;refine ⟨hle8,QN,?_⟩)|(apply OpTo_res;exact rfl;exact has10;exact hof _ (by first|exact Le.refl _|assumption|(repeat (first|assumption|(apply Le.trans;assumption)))) A8 c8 (hs8.le (by first|exact Le.refl _|assumption|(repeat (first|assumption|(apply Le.trans;assumption)))));rintro v2 h2 hle2 rfl;refine ⟨hle2,QN,?_⟩)))|(apply GP_done;kernel_rfl;exact rfl)|(apply GO_cond;exact rfl;all_goals (intro hc;try simp only [hcS,reduceCtorEq] at hc;try (exfalso;omega))))
    all_goals first
      | (exfalso;omega)
      | (exact GO_retR1 rfl rfl rfl rfl)
      | (exfalso;simp at hc;done)
  have hof:=hof (rlS g ho aw) (rlS_ok hgo ⟨hb1,hb2⟩ ⟨hb3,hb4⟩) rfl rfl ⟨rfl,.inr (.inr rfl)⟩
  rw [rlS_r] at hof
  repeat' (first|apply GO_seq|apply GO_skip|apply GO_inBlock|apply GO_block|apply GO_region|apply GOl_nil|(apply GOl_to;(iterate 3 exact rfl);apply OpTo_box (e:=24);exact rfl;intro bg)|(apply GOl_to;(iterate 3 exact rfl);apply OpTo_alloc (e:=39);exact rfl;intro br)|(apply GOl_pv;(iterate 3 exact rfl))|(apply GOl_load;exact rfl;exact Ld_blk rfl QM rfl;exact rfl;exact rfl)|(apply GOl_to;(iterate 3 exact rfl);(first|(apply OpTo_store;(iterate 3 exact rfl);exact QR;(iterate 3 exact rfl);skip)|(apply OpTo_val;exact rfl;exact has8;exact hsane;skip)|(apply OpTo_val;exact rfl;exact has9;exact hfew;skip)|(apply OpTo_val;exact rfl;exact has14;exact hgm _;skip)))|(apply GO_cond;exact rfl;all_goals (intro hc;try simp only [hcS,reduceCtorEq] at hc;try (exfalso;omega)))|(apply GOl_split;exact rfl;exact rfl;all_goals (intro hc;try simp only [hcS,reduceCtorEq] at hc;try (exfalso;omega))))
  all_goals (try (exfalso;omega))
  all_goals (try (exfalso;simp at hc;done))
  clear hsane hfew hgm
  refine GO_loopT (X:=Nat) (fun i => i ≤ n ∧ ∀ j,j < i → RuFit (l.getD j p0)) (fun i => n - i)
    (fun i => [(12,.int .i64 i),(11,ptrV br),(6,ptrV bg),(0,.slice A n c),(2,.int .i64 kd),(3,.int .i64 ho),(4,.int .i64 aw)])
    (fun _ => [Blk br 39 (rulC (rlS g ho aw)),Blk bg 24 (gameC g)]) (fun _ => h) 0 ⟨by omega,fun j hj => absurd hj (by omega)⟩ QS QT rfl ?_
  rintro i ⟨hi,hI⟩ ih
  by_cases hin : i < n
  case' pos =>
    have a1:=hrow.addrD hin
    have c1 : CellsAt h ((addrD A).add (i * ty57.size)) (encF82 (l.getD i p0)):=hrow.cellsD p0 hin
    have hnx:=fun (hr : RuFit (l.getD i p0)) => ih (i + 1) ⟨by omega,fun j hj => by
      rcases Nat.lt_or_ge j i with w|w
      · exact hI j w
      · have : j = i:=by omega
        rw [this];exact hr⟩ (by omega)
    generalize l.getD i p0 = p at *
    obtain ⟨ps,f⟩:=p
    unfold RuFit at hnx
    dsimp only at hnx
    have c1 : CellsAt h ((addrD A).add (i * ty57.size)) (factC ps f):=c1
    clear ih hI hof
    repeat' (first|apply GO_seq|apply GO_skip|apply GO_inBlock|apply GO_block|apply GO_region|apply GOl_nil|(apply GOl_add;(iterate 3 exact rfl);omega;exact rfl;exact rfl)|(apply GOl_pv;(iterate 3 exact rfl))|(apply GO_drawp (n:=16) [0,1,2,3,4,5,6,7,8,9,10,11,12,13,14,15,16,17,18,19,20,21,22,23,24,25,26,27,28,29,30,31,32,33,34,35] [(0,0),(1,0),(2,0),(3,0),(4,0),(5,0),(6,0),(7,0),(8,0),(9,0),(10,0),(11,0),(12,0),(13,0),(14,0),(15,0),(16,0),(17,0),(18,0),(19,0),(20,0),(21,0),(22,0),(23,0),(24,0),(25,0),(26,0),(27,0),(28,0),(29,0),(30,0),(31,0),(32,0),(33,0),(34,0),(35,0)];kernel_rfl)|(apply GP_un;exact rfl;kernel_rfl;exact rfl;exact rfl)|(apply GP_pv;exact rfl;kernel_rfl;(iterate 3 exact rfl))|(apply GP_loadB;exact rfl;kernel_rfl;(iterate 3 exact rfl);exact QM;exact rfl;exact rfl)|(apply GP_ov;exact rfl;kernel_rfl;exact rfl;exact rfl;(first|(apply OV_idxS (j:=i);(iterate 5 exact rfl);exact a1;(with_reducible exact rfl);omega)|(apply OV_load;exact rfl;first|exact Lv_ro rfl (by assumption) rfl|exact Lv_roF rfl (by assumption) rfl|exact Lv_roF2 rfl (by assumption) rfl|exact Lv_roF3 rfl (by assumption) rfl));exact QA)|(apply GP_done;kernel_rfl;exact rfl)|(apply GP_split;(iterate 5 exact rfl);all_goals (intro hc;try simp only [hcS,reduceCtorEq] at hc;try (exfalso;omega)))|(apply GO_cond;exact rfl;all_goals (intro hc;try simp only [hcS,reduceCtorEq] at hc;try (exfalso;omega))))
    all_goals first
      | (exact GO_retR1 rfl rfl rfl rfl)
      | (have h9:=hnx ⟨by omega,by omega,by assumption,by assumption⟩
         refine GO_fit QS QT (h9))
      | (exfalso;omega)
  have hall : ∀ p ∈ l,RuFit p:=fun p hp => by
    obtain ⟨j,hj,e⟩:=List.mem_iff_getElem.1 hp
    have:=hI j (by omega)
    rw [List.getD_eq_getElem?_getD,List.getElem?_eq_getElem hj] at this
    rw [← e];exact this
  have hof:=hof hall
  clear ih hI
  repeat' (first|apply GO_seq|apply GO_skip|apply GO_inBlock|apply GO_block|apply GO_region|apply GOl_nil|(apply GO_exit;exact rfl)|(apply GOl_pv;(iterate 3 exact rfl))|(apply GOl_load;exact rfl;exact Ld_blk rfl QM rfl;exact rfl;exact rfl)|(apply GOl_ov;exact rfl;exact rfl;(first|(apply OV_eqlR;(iterate 3 exact rfl);kernel_rfl;kernel_rfl));exact QA)|(apply GO_drawp (n:=18) [0,1,2,3,4,5,6,7,8,10,11,9,12] [(0,0),(1,0),(3,0),(5,0),(2,2),(23,10),(4,2),(14,10),(6,2),(6,10),(7,0),(8,0),(9,0),(10,1),(11,1),(12,0),(6,1),(7,0),(8,0),(9,0),(11,1),(12,0),(4,1),(6,1),(7,0),(8,0),(9,0),(11,1),(12,0),(2,1),(4,1),(6,1),(7,0),(8,0),(9,0),(11,1),(12,0)];kernel_rfl)|(apply GP_pv;exact rfl;kernel_rfl;(iterate 3 exact rfl))|(apply GP_loadB;exact rfl;kernel_rfl;(iterate 3 exact rfl);exact QM;exact rfl;exact rfl)|(apply GP_real;exact rfl;kernel_rfl;(iterate 3 exact rfl);(first|(apply OpTo_store;(iterate 3 exact rfl);exact QR;(iterate 3 exact rfl);refine ⟨Le.refl _,QN,?_⟩)|(apply OpTo_alloc;exact rfl;intro b;refine ⟨Le.refl _,QN,?_⟩)|(apply OpTo_buildSliceO (n:=1) (cs:=[(fsh0,topF (rlS g ho aw))].flatMap encF82);(iterate 3 exact rfl);exact List.cons_ne_nil _ _;(iterate 6 exact rfl);intro b1;refine ⟨Le.refl _,QN,?_⟩)|(apply OpTo_appendSR (enc:=encF82) (n:=1) (m:=n) (xs:=[(fsh0,topF (rlS g ho aw))]) (ys:=l) (v:=.slice (some ⟨b1,0,none⟩) 1 1);(iterate 7 exact rfl);exact hrow.le (by first|exact Le.refl _|assumption|(repeat (first|assumption|(apply Le.trans;assumption))));exact encF82_len;exact encF82_one;exact QK;exact rfl;omega;exact rfl;intro A8 c8 h8 hle8 hnc8 hs8;refine ⟨hle8,QN,?_⟩)|(apply OpTo_res;exact rfl;exact has10;exact hof _ (by first|exact Le.refl _|assumption|(repeat (first|assumption|(apply Le.trans;assumption)))) A8 c8 (hs8.le (by first|exact Le.refl _|assumption|(repeat (first|assumption|(apply Le.trans;assumption)))));rintro v2 h2 hle2 rfl;refine ⟨hle2,QN,?_⟩)))|(apply GP_two;kernel_rfl;exact rfl;exact rfl)|(apply RealP_intro;(iterate 4 exact rfl);(first|(apply OpTo_alloc;exact rfl;intro b;refine ⟨Le.refl _,QN,?_⟩)|(apply OpTo_buildSliceO (n:=1) (cs:=[(fsh0,topF (rlS g ho aw))].flatMap encF82);(iterate 3 exact rfl);exact List.cons_ne_nil _ _;(iterate 6 exact rfl);intro b1;refine ⟨Le.refl _,QN,?_⟩)|(apply OpTo_appendSR (enc:=encF82) (n:=1) (m:=n) (xs:=[(fsh0,topF (rlS g ho aw))]) (ys:=l) (v:=.slice (some ⟨b1,0,none⟩) 1 1);(iterate 7 exact rfl);exact hrow.le (by first|exact Le.refl _|assumption|(repeat (first|assumption|(apply Le.trans;assumption))));exact encF82_len;exact encF82_one;exact QK;exact rfl;omega;exact rfl;intro A8 c8 h8 hle8 hnc8 hs8;refine ⟨hle8,QN,?_⟩)|(apply OpTo_res;exact rfl;exact has10;exact hof _ (by first|exact Le.refl _|assumption|(repeat (first|assumption|(apply Le.trans;assumption)))) A8 c8 (hs8.le (by first|exact Le.refl _|assumption|(repeat (first|assumption|(apply Le.trans;assumption)))));rintro v2 h2 hle2 rfl;refine ⟨hle2,QN,?_⟩)))|(apply GP_done;kernel_rfl;exact rfl)|(apply GO_cond;exact rfl;all_goals (intro hc;try simp only [hcS,reduceCtorEq] at hc;try (exfalso;omega))))
  all_goals first
    | (exfalso;omega)
    | (exact GO_retR1 rfl rfl rfl rfl)
    | (exfalso;simp at hc;done)
end Go.Hw

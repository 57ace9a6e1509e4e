import Derived.Test.YtlnenhhbalpbpaaGreatDoorQA0
import Derived.Test.YtlnenhhbalpbpaaGreatDoorBE
set_option linter.unusedVariables false
set_option linter.unusedSimpArgs false
set_option maxRecDepth 100000
set_option maxHeartbeats 8000000
namespace Go.Hw
open Go
attribute [local irreducible] GO GOl GDp Val Fn Res CellsAt ValE Blk OwnS MapA OwnPf Has Yl SepA forceL decC memS suspC offL ofGame cardP ofF
open Go.Proofs (Tryz.prog)
structure SheI (r : FRes) (x : FScore) (n1 n2 : Nat) : Prop where
  day : r.day = x.day
  forf : r.forf = ltI 0 ((n1 : Int) + (n2 : Int))
  both1 : 0 < (n1 : Int) → r.both = ltI 0 (n2 : Int)
  both2 : ¬ 0 < (n1 : Int) → r.both = false
  hg : 0 < (n1 : Int) → r.hg = 0
  ag : 0 < (n2 : Int) → r.ag = 0
  same : r.forf = false → r.hg = x.sh.hg ∧ r.ag = x.sh.ag ∧ r.hp = x.sh.hp ∧ r.ap = x.sh.ap
theorem sheI_of (g : FGame) (x : FScore) (o1 o2 : List Int) : SheI (playedR g x (o1,o2)) x o1.length o2.length:=by
  unfold playedR
  cases o1 with
  | nil =>
    cases o2 with
    | nil => exact ⟨rfl,((ltI_f _ _).mpr (by simp)).symm,by simp,fun _ => rfl,by simp,by simp,fun _ => ⟨rfl,rfl,rfl,rfl⟩⟩
    | cons b s =>
      rw [if_neg (fun w => by cases w.2)]
      refine ⟨rfl,((ltI_t _ _).mpr (by simp only [List.length_cons,List.length_nil];omega)).symm,by simp,fun _ => ?_,by simp,fun _ => ?_,fun w => ?_⟩
      · simp [against]
      · simp [against]
      · simp [against] at w
  | cons a r =>
    rw [if_neg (fun w => by cases w.1)]
    have hp : 0 < ((a :: r).length : Int):=by simp only [List.length_cons];omega
    cases o2 with
    | nil =>
      refine ⟨rfl,((ltI_t _ _).mpr (by simp only [List.length_cons,List.length_nil];omega)).symm,fun _ => ?_,fun w => absurd hp w,fun _ => ?_,by simp,fun w => ?_⟩
      · rw [(ltI_f _ _).mpr (by simp)];simp [against]
      · simp [against]
      · simp [against] at w
    | cons b s =>
      refine ⟨rfl,((ltI_t _ _).mpr (by simp only [List.length_cons];omega)).symm,fun _ => ?_,fun w => absurd hp w,fun _ => ?_,fun _ => ?_,fun w => ?_⟩
      · rw [(ltI_t _ _).mpr (by simp only [List.length_cons];omega)];simp [against]
      · simp [against]
      · simp [against]
      · simp [against] at w
theorem sheets12_law (h : Ro) (hG : PowG h) (A : Option Addr) (n c : Nat) (l : List (Fsh × Fct)) (hx : LedIn h A n c l) (g : FGame) : Res Tryz.prog 6 #[.slice A n c,gameV g] h (fun u _ => u = .bool true):=by
  refine Res_intro (args:=[_,_]) ts_ok Go.Proofs.Tryz.func6 rfl rfl fun w0 X0 => ?_
  have hfew:=fewF_c h A n c l hx.row hx.small 14
  have hsane:=sane12_c h hG
  have hgm:=fun h' => gameR7_c h' g
  by_cases hF : (∀ p ∈ l,SmallS p.1 p.2) ∧ (n : Int) ≤ 14
  case' neg =>
    rw [decide_eq_false hF] at hfew
    repeat' (first|apply GO_seq|apply GO_skip|apply GO_region|apply GOl_nil|(apply GOl_to;(iterate 3 exact rfl);apply OpTo_box (e:=24);exact rfl;intro bg)|(apply GOl_unwanted;exact rfl;exact rfl)|(apply GOl_pv;(iterate 3 exact rfl))|(apply GOl_to;(iterate 3 exact rfl);(first|(apply OpTo_val;exact rfl;exact has8;exact hsane;skip)|(apply OpTo_val;exact rfl;exact has9;exact hfew;skip)))|(apply GO_cond;exact rfl;all_goals (intro hc;try simp only [hcS,reduceCtorEq] at hc;try (exfalso;omega))))
    all_goals first
      | (exact GO_retR1 rfl rfl rfl rfl)
      | (exfalso;simp at hc;done)
  rw [decide_eq_true hF] at hfew
  by_cases hg : GameOk g
  case' neg =>
    simp only [if_neg hg] at hgm
    repeat' (first|apply GO_seq|apply GO_skip|apply GO_region|apply GOl_nil|(apply GOl_to;(iterate 3 exact rfl);apply OpTo_box (e:=24);exact rfl;intro bg)|(apply GOl_pv;(iterate 3 exact rfl))|(apply GOl_load;exact rfl;exact Ld_blk rfl QM rfl;exact rfl;exact rfl)|(apply GOl_to;(iterate 3 exact rfl);(first|(apply OpTo_val;exact rfl;exact has8;exact hsane;skip)|(apply OpTo_val;exact rfl;exact has9;exact hfew;skip)|(apply OpTo_val;exact rfl;exact has14;exact hgm _;skip)))|(apply GO_cond;exact rfl;all_goals (intro hc;try simp only [hcS,reduceCtorEq] at hc;try (exfalso;omega))))
    all_goals first
      | (exact GO_retR1 rfl rfl rfl rfl)
      | (exfalso;simp at hc;done)
      | (exfalso;omega)
  simp only [if_pos hg] at hgm
  have hfa : FactsAt h A n l:=⟨hx.row,hx.fat,by have:=hF.2;omega⟩
  have hn6 : n ≤ 65536:=by have:=hF.2;omega
  have h32 : In32 (fcs l):=In32_factsX hfa
  have hof:=fun h' (hl : Le h h') => Of12_c h' (hG.le hl) A n c l (hfa.le hl) hn6 g
  have hog:=fun h' (hl : Le h h') => OfGame_c h' (hG.le hl) A n c l (hfa.le hl) g
  have hsc:=fun h' (hl : Le h h') => score2_c h' (hG.le hl) A n c l (hfa.le hl) g
  have hfd:=fun h' (hl : Le h h') => Offenders_c h' (hG.le hl) A n c l (hfa.le hl) hn6 g
  have hpy:=fun q => ofF_played (L:=fcs l) hg q
  have hno:=playedF_no (L:=fcs l) (g:=g)
  have hyes:=fun x o => playedF_yes (L:=fcs l) (g:=g) (x:=x) (o:=o)
  have hol:=offL_len h32 g
  rw [show cont l = fcs l from rfl] at hsc
  generalize ofGame (canonL (fcs l)) g = oo at *
  obtain ⟨r,d,ok⟩:=oo
  dsimp only at hog hpy
  cases ok
  case' true =>
    clear hsc hfd hpy hno hyes hol hx hF hfa h32
    repeat' (first|apply GO_seq|apply GO_skip|apply GO_region|apply GOl_nil|(apply GOl_to;(iterate 3 exact rfl);apply OpTo_box (e:=24);exact rfl;intro bg)|(apply GOl_to;(iterate 3 exact rfl);apply OpTo_alloc (e:=28);exact rfl;intro br)|(apply GOl_pv;(iterate 3 exact rfl))|(apply GOl_load;exact rfl;exact Ld_blk rfl QM rfl;exact rfl;exact rfl)|(apply GOl_to;(iterate 3 exact rfl);(first|(apply OpTo_store;(iterate 3 exact rfl);exact QR;(iterate 3 exact rfl);skip)|(apply OpTo_alloc;exact rfl;intro b;skip)|(apply OpTo_val;exact rfl;exact has8;exact hsane;skip)|(apply OpTo_val;exact rfl;exact has9;exact hfew;skip)|(apply OpTo_val;exact rfl;exact has14;exact hgm _;skip)|(apply OpTo_res;exact rfl;exact has15;exact hog _ (by first|exact Le.refl _|assumption|(repeat (first|assumption|(apply Le.trans;assumption))));rintro v1 h1 hle1 rfl;skip)|(apply OpTo_res;exact rfl;exact has10;exact hof _ (by first|exact Le.refl _|assumption|(repeat (first|assumption|(apply Le.trans;assumption))));rintro v2 h2 hle2 rfl;skip)))|(apply GO_cond;exact rfl;all_goals (intro hc;try simp only [hcS,reduceCtorEq] at hc;try (exfalso;omega))))
    all_goals first
      | (exact GO_retR1 rfl rfl rfl rfl)
      | (exfalso;simp at hc;done)
      | (exfalso;omega)
  have hpy:=hpy rfl
  rw [hpy] at hof
  generalize scoreF (fcs l) g = x at *
  generalize offL (fcs l) g = o at *
  clear hx hF hfa h32 hpy
  by_cases hk2 : x.kind = 2
  case' neg =>
    rw [hno hk2] at hof
    have e2 : eqI x.kind 2 = false:=(eqI_f _ _).mpr hk2
    simp only [resO,Option.getD_none,Option.isSome_none] at hof
    clear hfd hno hyes hol
    repeat' (first|apply GO_seq|apply GO_skip|apply GO_region|apply GOl_nil|(apply GOl_to;(iterate 3 exact rfl);apply OpTo_box (e:=24);exact rfl;intro bg)|((fail_if_success (have:=br));apply GOl_to;(iterate 3 exact rfl);apply OpTo_alloc (e:=28);exact rfl;intro br)|(apply GOl_to;(iterate 3 exact rfl);apply OpTo_alloc (e:=62);exact rfl;intro bs)|(apply GOl_pv;(iterate 3 exact rfl))|(apply GOl_load;exact rfl;exact Ld_blk rfl QM rfl;exact rfl;exact rfl)|(apply GOl_to;(iterate 3 exact rfl);(first|(apply OpTo_store;(iterate 3 exact rfl);exact QR;(iterate 3 exact rfl);skip)|(apply OpTo_alloc;exact rfl;intro b;skip)|(apply OpTo_val;exact rfl;exact has8;exact hsane;skip)|(apply OpTo_val;exact rfl;exact has9;exact hfew;skip)|(apply OpTo_val;exact rfl;exact has14;exact hgm _;skip)|(apply OpTo_res;exact rfl;exact has15;exact hog _ (by first|exact Le.refl _|assumption|(repeat (first|assumption|(apply Le.trans;assumption))));rintro v1 h1 hle1 rfl;skip)|(apply OpTo_res;exact rfl;exact has10;exact hof _ (by first|exact Le.refl _|assumption|(repeat (first|assumption|(apply Le.trans;assumption))));rintro v2 h2 hle2 rfl;skip)|(apply OpTo_res;exact rfl;exact has16;exact hsc _ (by first|exact Le.refl _|assumption|(repeat (first|assumption|(apply Le.trans;assumption))));rintro w3 h3 hle3 ⟨s,rfl,hs1,hs2⟩;skip)))|(apply GO_cond;exact rfl;all_goals (intro hc;try simp only [hcS,reduceCtorEq] at hc;try (exfalso;omega))))
    all_goals first
      | (exact GO_retR1 rfl rfl rfl rfl)
      | (exfalso;simp [e2] at hc;done)
      | (exfalso;simp at hc;done)
      | (exfalso;clear hof hog hsc hsane hfew hgm;grind)
      | (exfalso;omega)
  rw [hyes x o rfl rfl hk2] at hof
  obtain ⟨o1,o2⟩:=o
  unfold OffOut at hfd
  dsimp only at hfd hol
  have hpi:=sheI_of g x o1 o2
  generalize playedR g x (o1,o2) = r at *
  simp only [resO,Option.getD_some,Option.isSome_some] at hof
  have e2 : eqI x.kind 2 = true:=(eqI_t _ _).mpr hk2
  obtain ⟨p1,p2,p3,p4,p5,p6,p7⟩:=hpi
  clear hno hyes
  repeat' (first|apply GO_seq|apply GO_skip|apply GO_region|apply GOl_nil|(apply GOl_to;(iterate 3 exact rfl);apply OpTo_box (e:=24);exact rfl;intro bg)|((fail_if_success (have:=br));apply GOl_to;(iterate 3 exact rfl);apply OpTo_alloc (e:=28);exact rfl;intro br)|(apply GOl_to;(iterate 3 exact rfl);apply OpTo_alloc (e:=62);exact rfl;intro bs)|(apply GOl_unwanted;exact rfl;exact rfl)|(apply GOl_add;(iterate 3 exact rfl);omega;exact rfl;exact rfl)|(apply GOl_pv;(iterate 3 exact rfl))|(apply GOl_load;exact rfl;exact Ld_blk rfl QM rfl;exact rfl;exact rfl)|(apply GOl_to;(iterate 3 exact rfl);(first|(apply OpTo_store;(iterate 3 exact rfl);exact QR;(iterate 3 exact rfl);skip)|(apply OpTo_alloc;exact rfl;intro b;skip)|(apply OpTo_val;exact rfl;exact has8;exact hsane;skip)|(apply OpTo_val;exact rfl;exact has9;exact hfew;skip)|(apply OpTo_val;exact rfl;exact has14;exact hgm _;skip)|(apply OpTo_res;exact rfl;exact has15;exact hog _ (by first|exact Le.refl _|assumption|(repeat (first|assumption|(apply Le.trans;assumption))));rintro v1 h1 hle1 rfl;skip)|(apply OpTo_res;exact rfl;exact has10;exact hof _ (by first|exact Le.refl _|assumption|(repeat (first|assumption|(apply Le.trans;assumption))));rintro v2 h2 hle2 rfl;skip)|(apply OpTo_res;exact rfl;exact has16;exact hsc _ (by first|exact Le.refl _|assumption|(repeat (first|assumption|(apply Le.trans;assumption))));rintro w3 h3 hle3 ⟨s,rfl,hs1,hs2⟩;skip)|(apply OpTo_res;exact rfl;exact has17;exact hfd _ (by first|exact Le.refl _|assumption|(repeat (first|assumption|(apply Le.trans;assumption))));rintro v4 h4 hle4 ⟨B1,e1,B2,e2,rfl,hO1,hO2⟩;skip)))|(apply GO_cond;exact rfl;all_goals (intro hc;try simp only [hcS,reduceCtorEq] at hc;try (exfalso;omega)))|(apply GOl_split;exact rfl;exact rfl;all_goals (intro hc;try simp only [hcS,reduceCtorEq] at hc;try (exfalso;omega))))
  all_goals first
    | (exfalso;omega)
    | (exact GO_retR1 rfl rfl rfl rfl)
    | (exfalso;clear hof hog hsc hfd hsane hfew hgm;grind)
    | (exact GO_retR1 rfl rfl rfl (by rw [(eqI_t _ _).mpr (p7 (by assumption)).2.2.2]))
end Go.Hw

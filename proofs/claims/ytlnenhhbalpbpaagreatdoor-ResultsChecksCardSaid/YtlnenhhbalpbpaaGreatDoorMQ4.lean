import Derived.Test.YtlnenhhbalpbpaaGreatDoorQA0
import Derived.Test.YtlnenhhbalpbpaaGreatDoorBE
set_option linter.unusedVariables false
set_option linter.unusedSimpArgs false
set_option maxRecDepth 100000
set_option maxHeartbeats 8000000
namespace Go.Hw
open Go
attribute [local irreducible] GO GOl GDp Val Fn Res CellsAt ValE Blk OwnS MapA OwnPf Has Yl SepA forceL decC memS suspC offL ofGame cardP ofF
open Go.Proofs (Tryz.prog)
theorem checks12_law (h : Ro) (hG : PowG h) (r : FRes) (A : Option Addr) (n c : Nat) (l : List (Fsh × Fct)) (hx : LedIn h A n c l) (g : FGame) : Res Tryz.prog 4 #[resV r,.slice A n c,gameV g] h (fun u _ => u = .bool true):=by
  refine Res_intro (args:=[_,_,_]) ts_ok Go.Proofs.Tryz.func4 rfl rfl fun w0 X0 => ?_
  have hfew:=fun h' (hl : Le h h') => fewF_c h' A n c l (hx.row.le hl) hx.small 16
  have hsane:=sane12_c h hG
  have hc1:=fun h' => check12_c h' r
  have hc2:=fun h' => checkR12_c h' r
  generalize (if ResOk r then (0 : Int) else 1) = q at *
  by_cases hF : (∀ p ∈ l,SmallS p.1 p.2) ∧ (n : Int) ≤ 16
  case' neg =>
    simp only [decide_eq_false hF] at hfew
    repeat' (first|apply GO_seq|apply GO_skip|apply GO_region|apply GOl_nil|(apply GOl_to;(iterate 3 exact rfl);apply OpTo_box (e:=24);exact rfl;intro bg)|(apply GOl_pv;(iterate 3 exact rfl))|(apply GOl_to;(iterate 3 exact rfl);(first|(apply OpTo_box;exact rfl;intro b;skip)|(apply OpTo_val;exact rfl;exact has8;exact hsane;skip)|(apply OpTo_val;exact rfl;exact has9;exact hfew _ (by first|exact Le.refl _|assumption|(repeat (first|assumption|(apply Le.trans;assumption))));skip)))|(apply GO_drawp (n:=3) [0,1,2,3,4] [(0,0),(2,0),(1,1),(3,1),(4,0)];kernel_rfl)|(apply GP_pv;exact rfl;kernel_rfl;(iterate 3 exact rfl))|(apply GP_loadB;exact rfl;kernel_rfl;(iterate 3 exact rfl);exact QM;exact rfl;exact rfl)|(apply GP_real;exact rfl;kernel_rfl;(iterate 3 exact rfl);(first|(apply OpTo_res;exact rfl;exact has12;exact hc1 _;rintro v1 h1 hle1 rfl;refine ⟨hle1,QN,?_⟩)|(apply OpTo_val;exact rfl;exact has13;exact hc2 _;refine ⟨Le.refl _,QN,?_⟩)))|(apply GP_done;kernel_rfl;exact rfl)|(apply GO_cond;exact rfl;all_goals (intro hc;try simp only [hcS,reduceCtorEq] at hc;try (exfalso;omega))))
    all_goals first
      | (exact GO_retR1 rfl rfl rfl rfl)
      | (exfalso;simp at hc;done)
      | (exfalso;omega)
  simp only [decide_eq_true hF] at hfew
  have hfa : FactsAt h A n l:=⟨hx.row,hx.fat,by have:=hF.2;omega⟩
  have hn6 : n ≤ 65536:=by have:=hF.2;omega
  have h32 : In32 (fcs l):=In32_factsX hfa
  have hof:=fun h' (hl : Le h h') => Of12_c h' (hG.le hl) A n c l (hfa.le hl) hn6 g
  cases hO : ofF (fcs l) g with
  | none =>
    rw [hO] at hof
    clear hx hF hfa h32
    repeat' (first|apply GO_seq|apply GO_skip|apply GO_region|apply GOl_nil|(apply GOl_to;(iterate 3 exact rfl);apply OpTo_box (e:=24);exact rfl;intro bg)|(apply GOl_to;(iterate 3 exact rfl);apply OpTo_alloc (e:=28);exact rfl;intro br)|(apply GOl_pv;(iterate 3 exact rfl))|(apply GOl_load;exact rfl;exact Ld_blk rfl QM rfl;exact rfl;exact rfl)|(apply GOl_ov;exact rfl;exact rfl;(first|(apply OV_eqlR;(iterate 3 exact rfl);kernel_rfl;kernel_rfl));exact QA)|(apply GOl_to;(iterate 3 exact rfl);(first|(apply OpTo_store;(iterate 3 exact rfl);exact QR;(iterate 3 exact rfl);skip)|(apply OpTo_box;exact rfl;intro b;skip)|(apply OpTo_val;exact rfl;exact has8;exact hsane;skip)|(apply OpTo_val;exact rfl;exact has9;exact hfew _ (by first|exact Le.refl _|assumption|(repeat (first|assumption|(apply Le.trans;assumption))));skip)|(apply OpTo_res;exact rfl;exact has10;exact hof _ (by first|exact Le.refl _|assumption|(repeat (first|assumption|(apply Le.trans;assumption))));rintro v2 h2 hle2 rfl;skip)))|(apply GO_drawp (n:=3) [0,1,2,3,4] [(0,0),(2,0),(1,1),(3,1),(4,0)];kernel_rfl)|(apply GP_pv;exact rfl;kernel_rfl;(iterate 3 exact rfl))|(apply GP_loadB;exact rfl;kernel_rfl;(iterate 3 exact rfl);exact QM;exact rfl;exact rfl)|(apply GP_real;exact rfl;kernel_rfl;(iterate 3 exact rfl);(first|(apply OpTo_res;exact rfl;exact has12;exact hc1 _;rintro v1 h1 hle1 rfl;refine ⟨hle1,QN,?_⟩)|(apply OpTo_val;exact rfl;exact has13;exact hc2 _;refine ⟨Le.refl _,QN,?_⟩)))|(apply GP_done;kernel_rfl;exact rfl)|(apply GO_cond;exact rfl;all_goals (intro hc;try simp only [hcS,reduceCtorEq] at hc;try (exfalso;omega))))
    all_goals first
      | (exact GO_retR1 rfl rfl rfl rfl)
      | (exfalso;simp at hc;done)
      | (exfalso;omega)
  | some x =>
    rw [hO] at hof
    obtain ⟨hok,hxg⟩:=ofF_ok h32 hO
    have hc3:=fun h' => check12_c h' x
    rw [if_pos hok] at hc3
    subst hxg
    clear hx hF hfa h32 hO hok
    repeat' (first|apply GO_seq|apply GO_skip|apply GO_region|apply GOl_nil|(apply GOl_to;(iterate 3 exact rfl);apply OpTo_box (e:=24);exact rfl;intro bg)|(apply GOl_to;(iterate 3 exact rfl);apply OpTo_alloc (e:=28);exact rfl;intro br)|(apply GOl_pv;(iterate 3 exact rfl))|(apply GOl_load;exact rfl;exact Ld_blk rfl QM rfl;exact rfl;exact rfl)|(apply GOl_ov;exact rfl;exact rfl;(first|(apply OV_eqlR;(iterate 3 exact rfl);kernel_rfl;kernel_rfl));exact QA)|(apply GOl_to;(iterate 3 exact rfl);(first|(apply OpTo_store;(iterate 3 exact rfl);exact QR;(iterate 3 exact rfl);skip)|(apply OpTo_box;exact rfl;intro b;skip)|(apply OpTo_val;exact rfl;exact has8;exact hsane;skip)|(apply OpTo_val;exact rfl;exact has9;exact hfew _ (by first|exact Le.refl _|assumption|(repeat (first|assumption|(apply Le.trans;assumption))));skip)|(apply OpTo_res;exact rfl;exact has12;(first|exact hc1 _|exact hc3 _);rintro v1 h1 hle1 rfl;skip)|(apply OpTo_res;exact rfl;exact has10;exact hof _ (by first|exact Le.refl _|assumption|(repeat (first|assumption|(apply Le.trans;assumption))));rintro v2 h2 hle2 rfl;skip)))|(apply GO_drawp (n:=3) [0,1,2,3,4] [(0,0),(2,0),(1,1),(3,1),(4,0)];kernel_rfl)|(apply GP_pv;exact rfl;kernel_rfl;(iterate 3 exact rfl))|(apply GP_loadB;exact rfl;kernel_rfl;(iterate 3 exact rfl);exact QM;exact rfl;exact rfl)|(apply GP_real;exact rfl;kernel_rfl;(iterate 3 exact rfl);(first|(apply OpTo_res;exact rfl;exact has12;(first|exact hc1 _|exact hc3 _);rintro v1 h1 hle1 rfl;refine ⟨hle1,QN,?_⟩)|(apply OpTo_val;exact rfl;exact has13;exact hc2 _;refine ⟨Le.refl _,QN,?_⟩)))|(apply GP_done;kernel_rfl;exact rfl)|(apply GO_cond;exact rfl;all_goals (intro hc;try simp only [hcS,reduceCtorEq] at hc;try (exfalso;omega))))
    all_goals first
      | (exact GO_retR1 rfl rfl rfl rfl)
      | (exact GO_retR1 rfl rfl rfl (by simp [eqI_eq];done))
      | (exfalso;simp at hc;done)
      | (exfalso;omega)
end Go.Hw

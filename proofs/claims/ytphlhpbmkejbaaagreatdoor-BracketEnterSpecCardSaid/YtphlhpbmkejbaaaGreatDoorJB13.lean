import Derived.Test.YtphlhpbmkejbaaaGreatDoorBG
import Derived.Test.YtphlhpbmkejbaaaGreatDoorBH
set_option linter.unusedVariables false
set_option linter.unusedSimpArgs false
set_option maxRecDepth 100000
set_option maxHeartbeats 8000000
namespace Go.Hw
open Go
attribute [local irreducible] GO GOl GDp Val Fn Res CellsAt ValE Blk OwnS MapA OwnPf Has Yl
open Go.Proofs (Tryz.prog)
theorem enterSpec_law (h : Ro) (Ac : Option Addr) (nc cc : Nat) (cs : List Int) (hcs : SlOf encI 1 h Ac nc cs) (hcc : nc ≤ cc) (t : FTie) (s : Sli) (l : List RdS) (tb : FTie) (hb : RdsAt h s.A s.n l) (hbc : s.n ≤ s.c) (hf : BrFit l) (hsn : s.n ≤ 8796093022208) (x : FRes) : Val Tryz.prog 4 #[.slice Ac nc cc,tieV t,brV s tb,resV x] h (.bool true):=by
  refine Val_intro (args:=[_,_,_,_]) ts_ok Go.Proofs.Tryz.func4 rfl rfl fun w0 X0 => ?_
  have hsane:=sane21_c h
  have k1:=fun h' (hl : Le h h') => few21_c h' s l tb (hb.le hl) hf hsn
  have k2:=fun h' (hl : Le h h') => new_c h' Ac nc cc cs t (hcs.le hl) hcc
  have k3:=fun (hn : nc ≤ 1000000) h' (hl : Le h h') => new21_c h' Ac nc cc cs t (hcs.le hl) hn
  have k4:=fun (hs : BrSm s l) h' (hl : Le h h') => enterBr_c h' s l tb (hb.le hl) hbc hs x
  have k5:=fun (hs : BrSm s l) h' (hl : Le h h') => enter21_c h' s l tb (hb.le hl) hbc hs x
  have k6:=fun (hs : BrSm s l) h' (hl : Le h h') => champ_c h' s l tb (hb.le hl) hs
  have k7:=fun (hs : BrSm s l) h' (hl : Le h h') => champ21_c h' s l tb (hb.le hl) hs
  have o1:=newB_out cs t
  have o2:=enterB_out ⟨tb,rounds l⟩ x
  generalize newB cs t = N at *
  generalize enterB ⟨tb,rounds l⟩ x = E at *
  generalize champB ⟨tb,rounds l⟩ = P at *
  by_cases hn : nc ≤ 40
  case' neg =>
    repeat' (first|apply GO_seq|apply GO_skip|apply GO_region|apply GOl_nil|(apply GOl_to;(iterate 3 exact rfl);apply OpTo_box (e:=26);exact rfl;intro b5)|(apply GOl_to;(iterate 3 exact rfl);apply OpTo_box (e:=36);exact rfl;intro b6)|(apply GOl_to;(iterate 3 exact rfl);apply OpTo_box (e:=40);exact rfl;intro b7)|(apply GOl_unwanted;exact rfl;exact rfl)|(apply GOl_pv;(iterate 3 exact rfl))|(apply GOl_to;(iterate 3 exact rfl);(first|(apply OpTo_val;exact rfl;exact has8;exact hsane;skip)))|(apply GO_cond;exact rfl;all_goals (intro hc;try simp only [hcS,reduceCtorEq] at hc;try (exfalso;omega)))|(apply GOl_split;exact rfl;exact rfl;all_goals (intro hc;try simp only [hcS,reduceCtorEq] at hc;try (exfalso;omega))))
    all_goals first
      | (exact GO_retV1 rfl rfl rfl rfl)
      | (exfalso;omega)
  repeat' (first|apply GO_seq|apply GO_skip|apply GO_region|apply GOl_nil|(apply GOl_to;(iterate 3 exact rfl);apply OpTo_box (e:=26);exact rfl;intro b5)|(apply GOl_to;(iterate 3 exact rfl);apply OpTo_box (e:=36);exact rfl;intro b6)|(apply GOl_to;(iterate 3 exact rfl);apply OpTo_box (e:=40);exact rfl;intro b7)|(apply GOl_unwanted;exact rfl;exact rfl)|(apply GOl_pv;(iterate 3 exact rfl))|(apply GOl_load;exact rfl;exact Ld_blk rfl QM rfl;exact rfl;exact rfl)|(apply GOl_to;(iterate 3 exact rfl);(first|(apply OpTo_store;(iterate 3 exact rfl);exact QR;(iterate 3 exact rfl);skip)|(apply OpTo_alloc;exact rfl;intro b;skip)|(apply OpTo_val;exact rfl;exact has8;exact hsane;skip)|(apply OpTo_res;exact rfl;exact has13;exact k1 _ (by first|exact Le.refl _|assumption|(repeat (first|assumption|(apply Le.trans;assumption))));rintro v1 h1 hle1 ⟨q,rfl,hq⟩;cases q;all_goals skip)|(apply OpTo_res;exact rfl;exact has14;exact k2 _ (by first|exact Le.refl _|assumption|(repeat (first|assumption|(apply Le.trans;assumption))));rintro v2 h2 hle2 ⟨s2,l2,rfl,hb2⟩;skip)|(apply OpTo_res;exact rfl;exact has15;exact k3 (by omega) _ (by first|exact Le.refl _|assumption|(repeat (first|assumption|(apply Le.trans;assumption))));rintro v3 h3 hle3 ⟨s3,l3,rfl,hb3⟩;skip)|(apply OpTo_res;exact rfl;exact has16;exact k4 ((hq rfl).sm hf) _ (by first|exact Le.refl _|assumption|(repeat (first|assumption|(apply Le.trans;assumption))));rintro v4 h4 hle4 ⟨s4,l4,rfl,hb4⟩;skip)|(apply OpTo_res;exact rfl;exact has17;exact k5 ((hq rfl).sm hf) _ (by first|exact Le.refl _|assumption|(repeat (first|assumption|(apply Le.trans;assumption))));rintro v5 h5 hle5 ⟨s5,l5,rfl,hb5⟩;skip)|(apply OpTo_res;exact rfl;exact has18;exact k6 ((hq rfl).sm hf) _ (by first|exact Le.refl _|assumption|(repeat (first|assumption|(apply Le.trans;assumption))));rintro v6 h6 hle6 rfl;skip)|(apply OpTo_res;exact rfl;exact has19;exact k7 ((hq rfl).sm hf) _ (by first|exact Le.refl _|assumption|(repeat (first|assumption|(apply Le.trans;assumption))));rintro v7 h7 hle7 rfl;skip)|(apply OpTo_val;exact rfl;exact has20;(first|exact same21_c _ s2 s3 l2 l3 _ (hb2.le (by first|exact Le.refl _|assumption|(repeat (first|assumption|(apply Le.trans;assumption))))) (hb3.le (by first|exact Le.refl _|assumption|(repeat (first|assumption|(apply Le.trans;assumption))))) (brSm_out hb2 o1)|exact same21_c _ s4 s5 l4 l5 _ (hb4.le (by first|exact Le.refl _|assumption|(repeat (first|assumption|(apply Le.trans;assumption))))) (hb5.le (by first|exact Le.refl _|assumption|(repeat (first|assumption|(apply Le.trans;assumption))))) (brSm_out hb4 o2));skip)))|(apply GO_cond;exact rfl;all_goals (intro hc;try simp only [hcS,reduceCtorEq] at hc;try (exfalso;omega)))|(apply GOl_split;exact rfl;exact rfl;all_goals (intro hc;try simp only [hcS,reduceCtorEq] at hc;try (exfalso;omega))))
  all_goals first
    | (exact GO_retV1 rfl rfl rfl rfl)
    | (exact GO_retV1 rfl rfl rfl (congrArg Value.bool ((eqI_t _ _).mpr rfl)))
    | (exact GO_retV1 rfl rfl rfl (congrArg Value.bool ((eqI_t _ _).mpr rfl)).symm)
    | (exfalso;omega)
    | (exfalso;simp at hc;done)
end Go.Hw

import Derived.Test.YtcnddgmcfjaihaaGreatDoorXV15
import Derived.Test.YtcnddgmcfjaihaaGreatDoorXV13
set_option linter.unusedVariables false
set_option linter.unusedSimpArgs false
set_option maxRecDepth 100000
set_option maxHeartbeats 8000000
namespace Go.Hw
open Go
attribute [local irreducible] GO GOl GDp Val Fn Res CellsAt ValE Blk OwnS MapA OwnPf Has Yl SepA forceL idF voidL ofR
open Go.Proofs (Tryz.prog)
theorem sameRu_c (h : Ro) (A : Option Addr) (n c : Nat) (l : List FRul) (hx : SlOf rulC 17 h A n l) (hn : n ≤ 1000000) (B : Option Addr) (m d : Nat) (r : List FRul) (hy : SlOf rulC 17 h B m r) (hlr : l = r) :
    Val Tryz.prog 16 #[.slice A n c,.slice B m d] h (.bool true):=by
  refine Val_intro (args:=[_,_]) ts_ok Go.Proofs.Tryz.func16 rfl rfl fun w0 X0 => ?_
  subst hlr
  have hlen:=hx.len
  have hlen2:=hy.len
  have hnm : m = n:=by omega
  subst hnm
  repeat' (first|apply GO_seq|apply GO_skip|apply GO_block|apply GO_region|apply GOl_nil|(apply GOl_pv;(iterate 3 exact rfl))|(apply GO_cond;exact rfl;all_goals (intro hc;try simp only [hcS,reduceCtorEq] at hc;try (exfalso;omega))))
  all_goals (try (exfalso;omega))
  refine GO_loopT (X:=Nat) (fun k => k ≤ m) (fun k => m - k) (fun k => [(5,.int .i64 k),(0,.slice A m c),(1,.slice B m d)]) (fun _ => []) (fun _ => h) 0 (by omega) QS QT rfl ?_
  rintro k hk ih
  by_cases hkn : k < m
  · have a1:=hx.addrD hkn
    have c1 : CellsAt h ((addrD A).add (k * ty44.size)) (rulC (l.getD k rul0)):=hx.cellsD rul0 hkn
    have a2:=hy.addrD hkn
    have c2 : CellsAt h ((addrD B).add (k * ty44.size)) (rulC (l.getD k rul0)):=hy.cellsD rul0 hkn
    generalize l.getD k rul0 = x at *
    have h3:=ih (k + 1) (by omega) (by omega)
    have hre:=rul_eq x x
    rw [decide_eq_true rfl] at hre
    repeat' (first|apply GO_seq|apply GO_skip|apply GO_inBlock|apply GO_block|apply GO_region|apply GOl_nil|(apply GOl_add;(iterate 3 exact rfl);omega;exact rfl;exact rfl)|(apply GOl_pv;(iterate 3 exact rfl))|(apply GO_drawp (n:=6) [0,1,2,3,4,5,6,7,8] [(0,0),(1,0),(2,0),(3,0),(4,0),(5,0),(6,0),(7,0),(8,0)];kernel_rfl)|(apply GP_pv;exact rfl;kernel_rfl;(iterate 3 exact rfl))|(apply GP_ov;exact rfl;kernel_rfl;exact rfl;exact rfl;(first|(first|(apply OV_idxS (j:=k) (A:=A);(iterate 5 exact rfl);exact a1;(with_reducible exact rfl);omega)|(apply OV_idxS (j:=k) (A:=B);(iterate 5 exact rfl);exact a2;(with_reducible exact rfl);omega))|(first|(apply OV_load;exact rfl;apply Lv_ro;exact rfl;(with_reducible exact c1);exact rfl)|(apply OV_load;exact rfl;apply Lv_ro;exact rfl;(with_reducible exact c2);exact rfl))|(apply OV_neqS;exact rfl;exact rfl;exact hre;kernel_rfl;kernel_rfl));exact QA)|(apply GP_done;kernel_rfl;exact rfl)|(apply GO_cond;exact rfl;all_goals (intro hc;try simp only [hcS,reduceCtorEq] at hc;try (exfalso;omega))))
    all_goals first
      | (exfalso;omega)
      | (exfalso;simp at hc;done)
      | (refine GO_fit QS QT (h3))
  · clear ih
    repeat' (first|apply GO_seq|apply GO_region|apply GOl_nil|(apply GO_exit;exact rfl)|(apply GOl_pv;(iterate 3 exact rfl))|(apply GO_cond;exact rfl;all_goals (intro hc;try simp only [hcS,reduceCtorEq] at hc;try (exfalso;omega)))|(apply GO_retV1;(iterate 3 exact rfl)))
    all_goals rfl
open Classical in
theorem force10_law (h : Ro) (hG : PowG h) (A : Option Addr) (n c : Nat) (l : List (Fsh × Fct)) (hx : LedIn h A n c l) (num : Int) : Res Tryz.prog 5 #[.slice A n c,.int .i64 num] h (fun u _ => u = .bool true):=by
  refine Res_intro (args:=[_,_]) ts_ok Go.Proofs.Tryz.func5 rfl rfl fun w0 X0 => ?_
  have hfew:=few10_c h A n c l hx.row hx.small
  have hsane:=sane10_c h hG
  by_cases hF : (∀ p ∈ l,SmallS p.1 p.2) ∧ (n : Int) ≤ 16
  · rw [decide_eq_true hF] at hfew
    have hfa:=hx.facts16 hF.2
    have hn6 : n ≤ 65536:=by have:=hF.2;omega
    have hf1:=fun h' (hl : Le h h') => InForce_c h' (hG.le hl) A n c l (hfa.le hl)
    have hf2:=fun h' (hl : Le h h') => InForceR_c h' A n c l (hfa.le hl) hn6
    have ho1:=fun h' (hl : Le h h') => Of_c h' (hG.le hl) A n c l (hfa.le hl) num
    have ho2:=fun h' (hl : Le h h') => OfR_c h' A n c l (hfa.le hl) hn6 num
    have hs1:=fun h' (hl : Le h h') => Suspended_c h' (hG.le hl) A n c l (hfa.le hl) num
    have hs2:=fun h' (hl : Le h h') => SuspendedR_c h' A n c l (hfa.le hl) hn6 num
    clear hF hfa hx
    generalize canonL (fcs l) = C at *
    generalize hOo : ofR C num = oo at *
    generalize hRr : oo.getD rul0 = rr at *
    generalize hSs : oo.isSome = ss at *
    generalize hHh : decide (HeldI C num) = hb at *
    have hre:=rul_eq rr rr
    rw [decide_eq_true rfl] at hre
    repeat' (first|apply GO_seq|apply GO_skip|apply GO_region|apply GOl_nil|(apply GOl_unwanted;exact rfl;exact rfl)|(apply GOl_pv;(iterate 3 exact rfl))|(apply GOl_load;exact rfl;exact Ld_blk rfl QM rfl;exact rfl;exact rfl)|(apply GOl_ov;exact rfl;exact rfl;(first|(apply OV_eqlS;exact rfl;exact rfl;exact hre;kernel_rfl;kernel_rfl));exact QA)|(apply GOl_to;(iterate 3 exact rfl);(first|(apply OpTo_store;(iterate 3 exact rfl);exact QR;(iterate 3 exact rfl);skip)|(apply OpTo_alloc;exact rfl;intro b;skip)|(apply OpTo_val;exact rfl;exact has10;exact hsane;skip)|(apply OpTo_val;exact rfl;exact has11;exact hfew;skip)|(apply OpTo_res;exact rfl;exact has18;exact ho1 _ (by first|exact Le.refl _|assumption|(repeat (first|assumption|(apply Le.trans;assumption))));rintro w1 h1 hle1 rfl;skip)|(apply OpTo_res;exact rfl;exact has19;exact ho2 _ (by first|exact Le.refl _|assumption|(repeat (first|assumption|(apply Le.trans;assumption))));rintro w2 h2 hle2 rfl;skip)|(apply OpTo_res;exact rfl;exact has17;exact hf1 _ (by first|exact Le.refl _|assumption|(repeat (first|assumption|(apply Le.trans;assumption))));rintro w3 h3 hle3 ⟨A3,c3,rl,rfl,hsl,hrl,hn3⟩;skip)|(apply OpTo_res;exact rfl;exact has20;exact hf2 _ (by first|exact Le.refl _|assumption|(repeat (first|assumption|(apply Le.trans;assumption))));rintro w4 h4 hle4 ⟨A4,c4,ql,rfl,hql,hrq,hn4⟩;skip)|(apply OpTo_val;exact rfl;exact has16;exact sameRu_c _ A3 rl.length c3 rl (hsl.le (by first|exact Le.refl _|assumption|(repeat (first|assumption|(apply Le.trans;assumption))))) hn3 A4 ql.length c4 ql (hql.le (by first|exact Le.refl _|assumption|(repeat (first|assumption|(apply Le.trans;assumption))))) (hrl.trans hrq.symm);skip)|(apply OpTo_res;exact rfl;exact has21;exact hs1 _ (by first|exact Le.refl _|assumption|(repeat (first|assumption|(apply Le.trans;assumption))));rintro w5 h5 hle5 rfl;skip)|(apply OpTo_res;exact rfl;exact has22;exact hs2 _ (by first|exact Le.refl _|assumption|(repeat (first|assumption|(apply Le.trans;assumption))));rintro w6 h6 hle6 rfl;skip)))|(apply GO_cond;exact rfl;all_goals (intro hc;try simp only [hcS,reduceCtorEq] at hc;try (exfalso;omega)))|(apply GOl_split;exact rfl;exact rfl;all_goals (intro hc;try simp only [hcS,reduceCtorEq] at hc;try (exfalso;omega))))
    all_goals first
      | (exfalso;simp at hc;done)
      | (exact GO_retR1 rfl rfl rfl rfl)
      | (exact GO_retR1 rfl rfl rfl (by simp))
  · rw [decide_eq_false hF] at hfew
    repeat' (first|apply GO_seq|apply GO_skip|apply GO_region|apply GOl_nil|(apply GOl_pv;(iterate 3 exact rfl))|(apply GOl_to;(iterate 3 exact rfl);(first|(apply OpTo_val;exact rfl;exact has10;exact hsane;skip)|(apply OpTo_val;exact rfl;exact has11;exact hfew;skip)))|(apply GO_cond;exact rfl;all_goals (intro hc;try simp only [hcS,reduceCtorEq] at hc;try (exfalso;omega))))
    all_goals first
      | (exact GO_retR1 rfl rfl rfl rfl)
      | (exfalso;simp at hc;done)
end Go.Hw

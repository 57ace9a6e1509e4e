import Derived.Test.YtcnddgmcfjaihaaGreatDoorSA
import Derived.Test.YtcnddgmcfjaihaaGreatDoorRA
set_option linter.unusedVariables false
set_option linter.unusedSimpArgs false
set_option maxRecDepth 100000
set_option maxHeartbeats 4000000
namespace Go.Hw
open Go
attribute [local irreducible] GO GOl GDp Val Fn Res CellsAt ValE Blk OwnS MapA OwnPf Has Yl RngA
open Go.Proofs (Tryz.prog)
def SmallS (s : Fsh) (f : Fct) : Prop:=s.cl.n ≤ 60 ∧ f.eRules.length ≤ 100 ∧ s.hs.n ≤ 60 ∧ s.asn.n ≤ 60 ∧ s.hc.n ≤ 60 ∧ s.ac.n ≤ 60 ∧ s.lo.n ≤ 60
instance (s : Fsh) (f : Fct) : Decidable (SmallS s f):=by unfold SmallS;infer_instance
theorem small_c (h : Ro) (s : Fsh) (f : Fct) : Val Tryz.prog 61 #[factV s f] h (.bool (decide (SmallS s f))):=by
  refine Val_intro (args:=[_]) ts_ok Go.Proofs.Tryz.func61 rfl rfl fun w0 X0 => ?_
  repeat' (first|apply GO_seq|apply GO_region|apply GOl_nil|(apply GOl_unwanted;exact rfl;exact rfl)|(apply GOl_pv;(iterate 3 exact rfl))|(apply GOl_load;exact rfl;exact Ld_blk rfl QM rfl;exact rfl;exact rfl)|(apply GOl_to;(iterate 3 exact rfl);(first|(apply OpTo_box;exact rfl;intro b;skip)))|(apply GOl_split;exact rfl;exact rfl;all_goals (intro hc;try simp only [hcS,reduceCtorEq] at hc;try (exfalso;omega))))
  all_goals (first|(apply GO_retV1;(iterate 3 exact rfl)))
  all_goals (refine dec_ofV ?_;(try simp only [str_size,leI_t,leI_f] at *);unfold SmallS;first|omega|(simp only [Bool.false_eq_true,false_iff];omega))
theorem fewF_c (h : Ro) (A : Option Addr) (n c : Nat) (l : List (Fsh × Fct)) (hx : SlOf encF82 82 h A n l) (hn : n ≤ 9223372036854775807) (most : Int) : Val Tryz.prog 34 #[.slice A n c,.int .i64 most] h (.bool (decide ((∀ p ∈ l,SmallS p.1 p.2) ∧ (n : Int) ≤ most))):=by
  refine Val_intro (args:=[_,_]) ts_ok Go.Proofs.Tryz.func34 rfl rfl fun w0 X0 => ?_
  have hlen:=hx.len
  repeat' (first|apply GO_seq|apply GO_block|apply GO_region|apply GOl_nil|(apply GOl_pv;(iterate 3 exact rfl)))
  refine GO_loopT (X:=Nat) (fun k => k ≤ n ∧ ∀ p ∈ l.take k,SmallS p.1 p.2) (fun k => n - k) (fun k => [(5,.int .i64 k),(0,.slice A n c),(1,.int .i64 most)]) (fun _ => []) (fun _ => h) 0 ⟨by omega,by simp⟩ QS QT rfl ?_
  rintro k ⟨hk,hI⟩ ih
  by_cases hkn : k < n
  · have a1:=hx.addrD hkn
    have c1:=hx.cellsD p0 hkn
    have ht1:=take7 p0 hlen hkn
    have hm:=mem7 p0 (show k < l.length by omega)
    generalize l.getD k p0 = p at *
    have hs:=small_c h p.1 p.2
    by_cases hp : SmallS p.1 p.2
    · rw [decide_eq_true hp] at hs
      repeat' (first|apply GO_seq|apply GO_skip|apply GO_inBlock|apply GO_block|apply GO_region|apply GOl_nil|(apply GOl_add;(iterate 3 exact rfl);omega;exact rfl;exact rfl)|(apply GOl_pv;(iterate 3 exact rfl))|(apply GOl_ov;exact rfl;exact rfl;(first|(apply OV_idxS (j:=k);(iterate 5 exact rfl);exact a1;(with_reducible exact rfl);omega)|(apply OV_load;exact rfl;exact Lv_ro rfl c1 rfl));exact QA)|(apply GOl_to;(iterate 3 exact rfl);(first|(apply OpTo_val;exact rfl;exact has61;exact hs;skip)))|(apply GO_cond;exact rfl;all_goals (intro hc;try simp only [hcS,reduceCtorEq] at hc;try (exfalso;omega))))
      all_goals
        have h3:=ih (k + 1) ⟨by omega,by
          rw [ht1];intro q hq
          rw [List.mem_append,List.mem_singleton] at hq
          rcases hq with hq|rfl
          · exact hI q hq
          · exact hp⟩ (by omega)
        refine GO_fit QS QT (h3)
    · rw [decide_eq_false hp] at hs
      repeat' (first|apply GO_seq|apply GO_skip|apply GO_block|apply GO_region|apply GOl_nil|(apply GOl_pv;(iterate 3 exact rfl))|(apply GOl_ov;exact rfl;exact rfl;(first|(apply OV_idxS (j:=k);(iterate 5 exact rfl);exact a1;(with_reducible exact rfl);omega)|(apply OV_load;exact rfl;exact Lv_ro rfl c1 rfl));exact QA)|(apply GOl_to;(iterate 3 exact rfl);(first|(apply OpTo_val;exact rfl;exact has61;exact hs;skip)))|(apply GO_cond;exact rfl;all_goals (intro hc;try simp only [hcS,reduceCtorEq] at hc;try (exfalso;omega)))|(apply GO_retV1;(iterate 3 exact rfl)))
      all_goals (rw [decide_eq_false];rintro ⟨h1,_⟩;exact hp (h1 p hm))
  · rw [List.take_of_length_le (by omega)] at hI
    repeat' (first|apply GO_seq|apply GO_region|apply GOl_nil|(apply GO_exit;exact rfl)|(apply GOl_pv;(iterate 3 exact rfl))|(apply GO_cond;exact rfl;all_goals (intro hc;try simp only [hcS,reduceCtorEq] at hc;try (exfalso;omega)))|(apply GO_retV1;(iterate 3 exact rfl)))
    all_goals (refine dec_ofV ?_;rw [leI_t];exact ⟨fun h => ⟨hI,h⟩,fun h => h.2⟩)
end Go.Hw

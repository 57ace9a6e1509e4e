import Derived.Test.YtajmniiiahhfaaaGreatDoorUE16b
import Derived.Test.YtajmniiiahhfaaaGreatDoorF11
/-
  law08: valid; Arrival, walked.
-/
set_option linter.unusedVariables false
set_option linter.unusedSimpArgs false
set_option maxRecDepth 100000
set_option maxHeartbeats 8000000
namespace Go.Hw
open Go
attribute [local irreducible] GO GOl GDp Val Fn Res CellsAt ValE Blk OwnS MapA OwnPf Has Yl idF
open Go.Proofs (Tryz.prog)
open Classical in
theorem valid8_c (h : Ro) (A : Option Addr) (n c : Nat) (l : List (Fsh × Fct)) (hx : FactsAt h A n l) : Val Tryz.prog 40 #[.slice A n c] h (.bool (decide (∀ f ∈ fcs l, FctOk f))) := by
  refine Val_intro (args := [_]) ts_ok Go.Proofs.Tryz.func40 rfl rfl fun w0 X0 => ?_
  have hlen := hx.row.len
  have hn := hx.small
  repeat' (first | apply GO_seq | apply GO_block | apply GO_region | apply GOl_nil | (apply GOl_pv; exact rfl; exact rfl; exact rfl))
  refine GO_loopT (X := Nat) (fun k => k ≤ n ∧ ∀ p ∈ l.take k, FctOk p.2) (fun k => n - k) (fun k => [(7, .int .i64 k), (6, .int .i64 n), (5, .slice A n c)]) (fun _ => []) (fun _ => h) 0 ⟨by omega, by simp⟩ (by (repeat (first | exact trivial | refine ⟨rfl, ?_⟩)); done) (by (repeat (first | exact Takes_nil | (apply Takes_cons; exact (by (repeat (first | exact Take.here | apply Take.there)); done)))); done) rfl ?_
  rintro k ⟨hk, hI⟩ ih
  by_cases hkn : k < n
  · have a1 := hx.row.addrD hkn
    have c1 := hx.row.cellsD p0 hkn
    have et := take7 p0 hlen hkn
    have hm := mem7 p0 (show k < l.length by omega)
    have hfp := hx.fat _ hm
    generalize l.getD k p0 = p at *
    have hch := check7_c h p.1 p.2 hfp.1 hfp.2
    by_cases hp : FctOk p.2
    · rw [if_pos hp] at hch
      repeat' (first | apply GO_seq | apply GO_skip | apply GO_inBlock | apply GO_block | apply GO_region | apply GOl_nil | (apply GOl_add; exact rfl; exact rfl; exact rfl; omega; exact rfl; exact rfl) | (apply GOl_pv; exact rfl; exact rfl; exact rfl) | (apply GOl_load; exact rfl; exact Ld_blk rfl (by (repeat (first | exact List.Mem.head _ | apply List.Mem.tail)); done) rfl; exact rfl; exact rfl) | (apply GOl_ov; exact rfl; exact rfl; (first | (apply OV_idxS (j := k); exact rfl; exact rfl; exact rfl; exact rfl; exact rfl; exact a1; (with_reducible exact rfl); omega) | (apply OV_load; exact rfl; exact Lv_ro rfl c1 rfl)); exact (by repeat' (first | exact trivial | apply And.intro | exact List.Mem.head _ | apply List.Mem.tail))) | (apply GOl_to; exact rfl; exact rfl; exact rfl; (first | (apply OpTo_store; exact rfl; exact rfl; exact rfl; exact (by (repeat (first | exact Repl.here | apply Repl.there)); done); exact rfl; exact rfl; exact rfl; skip) | (apply OpTo_alloc; exact rfl; intro b; skip) | (apply OpTo_val; exact rfl; exact has82; exact hch; skip))) | (apply GO_cond; exact rfl; all_goals intro hc; all_goals try simp only [ltI_t, ltI_f, leI_t, leI_f, eqI_t, eqI_f, Bool.not_eq_true', Bool.not_eq_false', decide_eq_true_eq, decide_eq_false_iff_not, reduceCtorEq] at hc; all_goals try (exfalso; omega)))
      all_goals
        have h3 := ih (k + 1) ⟨by omega, by
          rw [et]; intro q hq
          rw [List.mem_append, List.mem_singleton] at hq
          rcases hq with hq | rfl
          · exact hI q hq
          · exact hp⟩ (by omega)
        refine GO_fit (by (repeat (first | exact trivial | refine ⟨rfl, ?_⟩)); done) (by (repeat (first | exact Takes_nil | (apply Takes_cons; exact (by (repeat (first | exact Take.here | apply Take.there)); done)))); done) (h3)
    · rw [if_neg hp] at hch
      repeat' (first | apply GO_seq | apply GO_skip | apply GO_block | apply GO_region | apply GOl_nil | (apply GOl_pv; exact rfl; exact rfl; exact rfl) | (apply GOl_load; exact rfl; exact Ld_blk rfl (by (repeat (first | exact List.Mem.head _ | apply List.Mem.tail)); done) rfl; exact rfl; exact rfl) | (apply GOl_ov; exact rfl; exact rfl; (first | (apply OV_idxS (j := k); exact rfl; exact rfl; exact rfl; exact rfl; exact rfl; exact a1; (with_reducible exact rfl); omega) | (apply OV_load; exact rfl; exact Lv_ro rfl c1 rfl)); exact (by repeat' (first | exact trivial | apply And.intro | exact List.Mem.head _ | apply List.Mem.tail))) | (apply GOl_to; exact rfl; exact rfl; exact rfl; (first | (apply OpTo_store; exact rfl; exact rfl; exact rfl; exact (by (repeat (first | exact Repl.here | apply Repl.there)); done); exact rfl; exact rfl; exact rfl; skip) | (apply OpTo_alloc; exact rfl; intro b; skip) | (apply OpTo_val; exact rfl; exact has82; exact hch; skip))) | (apply GO_cond; exact rfl; all_goals intro hc; all_goals try simp only [ltI_t, ltI_f, leI_t, leI_f, eqI_t, eqI_f, Bool.not_eq_true', Bool.not_eq_false', decide_eq_true_eq, decide_eq_false_iff_not, reduceCtorEq] at hc; all_goals try (exfalso; omega)) | (apply GO_retV1; exact rfl; exact rfl; exact rfl))
      all_goals (rw [decide_eq_false]; intro w; exact hp (w p.2 (List.mem_map.2 ⟨p, hm, rfl⟩)))
  · rw [List.take_of_length_le (by omega)] at hI
    repeat' (first | apply GO_seq | apply GO_region | apply GOl_nil | (apply GO_exit; exact rfl) | (apply GOl_pv; exact rfl; exact rfl; exact rfl) | (apply GO_cond; exact rfl; all_goals intro hc; all_goals try simp only [ltI_t, ltI_f, leI_t, leI_f, eqI_t, eqI_f, Bool.not_eq_true', Bool.not_eq_false', decide_eq_true_eq, decide_eq_false_iff_not, reduceCtorEq] at hc; all_goals try (exfalso; omega)) | (apply GO_retV1; exact rfl; exact rfl; exact rfl))
    all_goals
      rw [decide_eq_true]
      intro f hf
      obtain ⟨p, hp, rfl⟩ := List.mem_map.1 hf
      exact hI p hp
end Go.Hw

import Derived.Test.YtbgjcjhodlmgjabDoorDN9
import Derived.Test.YtbgjcjhodlmgjabDoorHB
set_option linter.unusedVariables false
set_option linter.unusedSimpArgs false
set_option maxRecDepth 100000
set_option maxHeartbeats 8000000
namespace Go.Hw
open Go
attribute [local irreducible] Has GO GOl GDp Val Fn Res CellsAt ValE Blk OwnS MapA Yl
open Go.Proofs (Tryd.prog)


theorem larger_w (hS : SortSaid) (hC : CompactSaid) (h : Ro) (hG : LenG h) (q : Quo) (A : Option Addr) (c : Nat) (hx : SlOf encV 2 h A q.wins.length q.wins) (B : Option Addr) (n d : Nat) (l : List Per) (hl : SlOf encP 4 h B n l) (inn out day which : Int) :
    Val Tryd.prog 6 #[quoV q A c, .slice B n d, .int .i64 inn, .int .i64 out, .int .i64 day, .int .i64 which] h (.bool true) := by
  refine Val_intro (args := [_, _, _, _, _, _]) ts_ok Go.Proofs.Tryd.func6 rfl rfl fun w0 X0 => ?_
  have hfew := fewQ2_c h q A B none c n 0 d 0
  by_cases hF : q.wins.length ≤ 20 ∧ n ≤ 20
  · obtain ⟨F1, F2⟩ := hF
    rw [decide_eq_true ⟨F1, F2, by omega⟩] at hfew
    have hx : SlOf encV 2 h A q.wins.length q.wins := hx
    have g1 := squad_c h hG q A c hx (by omega) B n d l hl (by omega) inn out day
    by_cases h0 : squadE q l inn out day = 0
    · rw [h0] at g1
      have hQ : QuoOk q := Decidable.byContradiction fun hh => by rw [squadE_1 hh] at h0; cases h0
      have hO : SquadOk l inn out day := Classical.byContradiction fun hh => by rw [squadE_2 hQ hh] at h0; cases h0
      have hM : ∀ p ∈ l, ¬ day < p.born := fun p hp hh => by rw [squadE_3 hQ hO ⟨p, hp, hh⟩] at h0; cases h0
      rw [squadE_4 hQ hO hM] at h0
      have hbd := nums_bd l day
      have hcond : ¬ (inn > q.inn ∨ out > q.out ∨ youngN l day > q.young ∨ oldN l day > q.size ∨ (oldN l day = q.size ∧ homeN l day < q.grown)) := fun hh => by rw [if_pos hh] at h0; cases h0
      have hO2 : SquadOk l 0 0 day := ⟨hO.1, hO.2.1, hO.2.2.1, hO.2.2.2.1, by omega, by omega⟩
      have hQ' := hQ
      obtain ⟨q1, q2, q3, q4, q5, q6, q7, q8, q9, q10, q11, q12, q13, q14⟩ := hQ'
      have g2 : Val Tryd.prog 16 #[quoV q A c, .slice B n d, .int .i64 0, .int .i64 0, .int .i64 day] h (.int .i64 0) := by
        have := squad_c h hG q A c hx (by omega) B n d l hl (by omega) 0 0 day
        rwa [squadE_4 hQ hO2 hM, if_neg (by omega)] at this
      have g3 : ∀ q' : Quo, q'.size = q.size → q'.cap = q.cap → q'.wins = q.wins → 0 ≤ q'.grown → q'.grown ≤ q.grown → q.young ≤ q'.young → q'.young ≤ 40 → q.inn ≤ q'.inn → q'.inn ≤ 40 → q.out ≤ q'.out → q'.out ≤ 40 →
          Val Tryd.prog 16 #[quoV q' A c, .slice B n d, .int .i64 inn, .int .i64 out, .int .i64 day] h (.int .i64 0) := by
        intro q' e1 e2 e3 k1 k2 k3 k4 k5 k6 k7 k8
        have hQ2 : QuoOk q' := ⟨by omega, by omega, by omega, by omega, by omega, by omega, by omega, by omega, by omega, by omega, by omega, by omega, by rw [e3]; exact q13, by rw [e3]; exact q14⟩
        have := squad_c h hG q' A c (by rw [e3]; exact hx) (by rw [e3]; omega) B n d l hl (by omega) inn out day
        rwa [squadE_4 hQ2 hO hM, if_neg (by omega)] at this
      clear h0 hcond hO hM hO2 hQ hbd
      have gY := fun (w : Int) (hw1 : q.young ≤ w) (hw2 : w ≤ 40) => g3 ⟨q.size, q.grown, w, q.inn, q.out, q.cap, q.wins⟩ rfl rfl rfl (by dsimp only; omega) (by dsimp only; omega) (by dsimp only; omega) (by dsimp only; omega) (by dsimp only; omega) (by dsimp only; omega) (by dsimp only; omega) (by dsimp only; omega)
      have gI := fun (w : Int) (hw1 : q.inn ≤ w) (hw2 : w ≤ 40) => g3 ⟨q.size, q.grown, q.young, w, q.out, q.cap, q.wins⟩ rfl rfl rfl (by dsimp only; omega) (by dsimp only; omega) (by dsimp only; omega) (by dsimp only; omega) (by dsimp only; omega) (by dsimp only; omega) (by dsimp only; omega) (by dsimp only; omega)
      have gO := fun (w : Int) (hw1 : q.out ≤ w) (hw2 : w ≤ 40) => g3 ⟨q.size, q.grown, q.young, q.inn, w, q.cap, q.wins⟩ rfl rfl rfl (by dsimp only; omega) (by dsimp only; omega) (by dsimp only; omega) (by dsimp only; omega) (by dsimp only; omega) (by dsimp only; omega) (by dsimp only; omega) (by dsimp only; omega)
      have gG := fun (w : Int) (hw1 : 0 ≤ w) (hw2 : w ≤ q.grown) => g3 ⟨q.size, w, q.young, q.inn, q.out, q.cap, q.wins⟩ rfl rfl rfl (by dsimp only; omega) (by dsimp only; omega) (by dsimp only; omega) (by dsimp only; omega) (by dsimp only; omega) (by dsimp only; omega) (by dsimp only; omega) (by dsimp only; omega)
      clear g3
      repeat' (first | apply GO_seq | apply GO_skip | apply GO_inBlock | apply GO_block | apply GO_region | apply GOl_nil | (apply GOl_mask; exact rfl; exact rfl; exact rfl; decide; exact rfl; exact rfl; intro wm hw0 hw3) | (apply GOl_min; exact rfl; exact rfl; exact rfl; intro wn hwn) | (apply GOl_max; exact rfl; exact rfl; exact rfl; intro wn hwn) | (apply GOl_add; exact rfl; exact rfl; exact rfl; omega; exact rfl; exact rfl) | (apply GOl_sub; exact rfl; exact rfl; exact rfl; omega; exact rfl; exact rfl) | (apply GOl_pv; exact rfl; exact rfl; exact rfl) | (apply GOl_load; exact rfl; exact Ld_blk rfl (by (repeat (first | exact List.Mem.head _ | apply List.Mem.tail)); done) rfl; exact rfl; exact rfl) | (apply GOl_to; exact rfl; exact rfl; exact rfl; (first | (apply OpTo_store; exact rfl; exact rfl; exact rfl; exact (by (repeat (first | exact Repl.here | apply Repl.there)); done); exact rfl; exact rfl; exact rfl; skip) | (apply OpTo_box; exact rfl; intro b; skip) | (apply OpTo_alloc; exact rfl; intro b; skip) | (apply OpTo_val; exact rfl; exact has8; exact sane37_c hS hC _ hG; skip) | (apply OpTo_val; exact rfl; exact has9; exact hfew; skip) | (apply OpTo_val; exact rfl; exact has16; (first | exact g1 | exact g2 | exact gY wn (by omega) (by omega) | exact gI wn (by omega) (by omega) | exact gO wn (by omega) (by omega) | exact gG wn (by omega) (by omega)); skip))) | (apply GO_cond; exact rfl; all_goals intro hc; all_goals try simp only [ltI_t, ltI_f, leI_t, leI_f, eqI_t, eqI_f, Bool.not_eq_true', Bool.not_eq_false', decide_eq_true_eq, decide_eq_false_iff_not, reduceCtorEq] at hc; all_goals try (exfalso; omega)) | (apply GOl_split; exact rfl; exact rfl; all_goals intro hc; all_goals try simp only [ltI_t, ltI_f, leI_t, leI_f, eqI_t, eqI_f, Bool.not_eq_true', Bool.not_eq_false', decide_eq_true_eq, decide_eq_false_iff_not, reduceCtorEq] at hc; all_goals try (exfalso; omega)) | (apply GO_retV1; exact rfl; exact rfl; exact rfl))
      all_goals first | rfl | (simp [eqI_eq]; done) | (simp at hc; done) | (exfalso; omega)
    · generalize squadE q l inn out day = sE at *
      repeat' (first | apply GO_seq | apply GO_skip | apply GO_region | apply GOl_nil | (apply GOl_pv; exact rfl; exact rfl; exact rfl) | (apply GOl_load; exact rfl; exact Ld_blk rfl (by (repeat (first | exact List.Mem.head _ | apply List.Mem.tail)); done) rfl; exact rfl; exact rfl) | (apply GOl_to; exact rfl; exact rfl; exact rfl; (first | (apply OpTo_box; exact rfl; intro b; skip) | (apply OpTo_val; exact rfl; exact has8; exact sane37_c hS hC _ hG; skip) | (apply OpTo_val; exact rfl; exact has9; exact hfew; skip) | (apply OpTo_val; exact rfl; exact has16; exact g1; skip))) | (apply GO_cond; exact rfl; all_goals intro hc; all_goals try simp only [ltI_t, ltI_f, leI_t, leI_f, eqI_t, eqI_f, Bool.not_eq_true', Bool.not_eq_false', decide_eq_true_eq, decide_eq_false_iff_not, reduceCtorEq] at hc; all_goals try (exfalso; omega)) | (apply GO_retV1; exact rfl; exact rfl; exact rfl))
      all_goals first | rfl | (simp [eqI_eq]; done) | (simp at hc; done) | (exfalso; omega)
  · rw [decide_eq_false (fun hh => hF ⟨hh.1, hh.2.1⟩)] at hfew
    repeat' (first | apply GO_seq | apply GO_skip | apply GO_region | apply GOl_nil | (apply GOl_unwanted; exact rfl; exact rfl) | (apply GOl_pv; exact rfl; exact rfl; exact rfl) | (apply GOl_load; exact rfl; exact Ld_blk rfl (by (repeat (first | exact List.Mem.head _ | apply List.Mem.tail)); done) rfl; exact rfl; exact rfl) | (apply GOl_to; exact rfl; exact rfl; exact rfl; (first | (apply OpTo_box; exact rfl; intro b; skip) | (apply OpTo_val; exact rfl; exact has8; exact sane37_c hS hC _ hG; skip) | (apply OpTo_val; exact rfl; exact has9; exact hfew; skip))) | (apply GO_cond; exact rfl; all_goals intro hc; all_goals try simp only [ltI_t, ltI_f, leI_t, leI_f, eqI_t, eqI_f, Bool.not_eq_true', Bool.not_eq_false', decide_eq_true_eq, decide_eq_false_iff_not, reduceCtorEq] at hc; all_goals try (exfalso; omega)) | (apply GO_retV1; exact rfl; exact rfl; exact rfl))
    all_goals first | rfl
end Go.Hw

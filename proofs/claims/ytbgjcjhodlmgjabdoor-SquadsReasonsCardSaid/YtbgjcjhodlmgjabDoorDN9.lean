import Derived.Test.YtbgjcjhodlmgjabDoorNB
set_option linter.unusedVariables false
set_option linter.unusedSimpArgs false
set_option maxRecDepth 100000
set_option maxHeartbeats 8000000
namespace Go.Hw
open Go
attribute [local irreducible] GO GOl GDp Val Fn Res CellsAt ValE Blk OwnS MapA Yl
open Go.Proofs (Tryd.prog)


theorem fewQ2_c (h : Ro) (q : Quo) (A B D : Option Addr) (c n m d e : Nat) : Val Tryd.prog 9 #[quoV q A c, .slice B n d, .slice D m e] h (.bool (decide (q.wins.length ≤ 20 ∧ n ≤ 20 ∧ m ≤ 20))) := by
  refine Val_intro (args := [_, _, _]) ts_ok Go.Proofs.Tryd.func9 rfl rfl fun w0 X0 => ?_
  repeat' (first | apply GO_seq | apply GO_region | apply GOl_nil | (apply GOl_unwanted; exact rfl; exact rfl) | (apply GOl_pv; exact rfl; exact rfl; exact rfl) | (apply GOl_load; exact rfl; exact Ld_blk rfl (by (repeat (first | exact List.Mem.head _ | apply List.Mem.tail)); done) rfl; exact rfl; exact rfl) | (apply GOl_to; exact rfl; exact rfl; exact rfl; (first | (apply OpTo_box; exact rfl; intro b; skip))) | (apply GOl_split; exact rfl; exact rfl; all_goals intro hc; all_goals try simp only [ltI_t, ltI_f, leI_t, leI_f, eqI_t, eqI_f, Bool.not_eq_true', Bool.not_eq_false', decide_eq_true_eq, decide_eq_false_iff_not, reduceCtorEq] at hc; all_goals try (exfalso; omega)) | (apply GO_retV1; exact rfl; exact rfl; exact rfl))
  all_goals (simp only [ltI_eq, leI_eq, eqI_eq, Value.bool.injEq]; first | rfl | (rw [decide_eq_decide]; omega) | (symm; rw [decide_eq_false_iff_not]; omega) | (symm; rw [decide_eq_true_eq]; omega))


theorem checkSpec_w (hS : SortSaid) (hC : CompactSaid) (h : Ro) (hG : LenG h) (q : Quo) (A : Option Addr) (c : Nat) (hx : SlOf encV 2 h A q.wins.length q.wins) (p : Per) (day : Int) :
    Val Tryd.prog 3 #[quoV q A c, perV p, .int .i64 day] h (.bool true) := by
  refine Val_intro (args := [_, _, _]) ts_ok Go.Proofs.Tryd.func3 rfl rfl fun w0 X0 => ?_
  have hfew := fewQ2_c h q A none none c 0 0 0 0
  by_cases hF : q.wins.length ≤ 20
  · rw [decide_eq_true ⟨hF, by omega, by omega⟩] at hfew
    repeat' (first | apply GO_seq | apply GO_skip | apply GO_block | apply GO_region | apply GOl_nil | (apply GOl_pv; exact rfl; exact rfl; exact rfl) | (apply GOl_load; exact rfl; exact Ld_blk rfl (by (repeat (first | exact List.Mem.head _ | apply List.Mem.tail)); done) rfl; exact rfl; exact rfl) | (apply GOl_to; exact rfl; exact rfl; exact rfl; (first | (apply OpTo_box; exact rfl; intro b; skip) | (apply OpTo_val; exact rfl; exact has8; exact sane37_c hS hC _ hG; skip) | (apply OpTo_val; exact rfl; exact has9; exact hfew; skip) | (apply OpTo_buildSliceS (enc := encI) (n := 3) [_, _, _]; exact rfl; exact rfl; exact rfl; exact List.cons_ne_nil _ _; exact rfl; exact rfl; exact rfl; exact rfl; exact fun _ => rfl; exact rfl; exact rfl; intro b1 h1 hle1 hs1; skip))) | (apply GO_cond; exact rfl; all_goals intro hc; all_goals try simp only [ltI_t, ltI_f, leI_t, leI_f, eqI_t, eqI_f, Bool.not_eq_true', Bool.not_eq_false', decide_eq_true_eq, decide_eq_false_iff_not, reduceCtorEq] at hc; all_goals try (exfalso; omega)))
    rename_i bq x1
    obtain ⟨ys, hs1⟩ : ∃ ys : List Int, SlOf encI 1 h1 (some ⟨b1, 0, none⟩) 3 ys := ⟨_, hs1⟩
    refine GO_loopT (X := Nat) (fun k => k ≤ 3) (fun k => 3 - k) (fun k => [(28, .int .i64 k), (27, .int .i64 3), (26, .slice (some ⟨b1, 0, none⟩) 3 3), (3, .pointer (some ⟨bq, 0, none⟩)), (4, .pointer (some ⟨b, 0, none⟩))]) (fun _ => [Blk bq 24 (partL (quoV q A c)), Blk b 26 (partL (perV p))]) (fun _ => h1) 0 (by omega) (by (repeat (first | exact trivial | refine ⟨rfl, ?_⟩)); done) (by (repeat (first | exact Takes_nil | (apply Takes_cons; exact (by (repeat (first | exact Take.here | apply Take.there)); done)))); done) rfl ?_
    intro k hk ih
    by_cases hkn : k < 3
    · have c1 := hs1.cellsD 0 hkn
      generalize ys.getD k 0 = y at c1
      obtain ⟨a, e, hage⟩ : ∃ a e : Int, ageR p y = .tuple #[.int .i64 a, .int .i64 e] := by
        unfold ageR; split
        · exact ⟨_, _, rfl⟩
        · exact ⟨_, _, rfl⟩
      have f1 := age_c h1 (hG.le hle1) p y
      have f2 := ageR_c h1 p y
      rw [hage] at f1 f2
      repeat' (first | apply GO_seq | apply GO_skip | apply GO_inBlock | apply GO_block | apply GO_region | apply GOl_nil | (apply GOl_add; exact rfl; exact rfl; exact rfl; omega; exact rfl; exact rfl) | (apply GOl_pv; exact rfl; exact rfl; exact rfl) | (apply GOl_load; exact rfl; exact Ld_blk rfl (by (repeat (first | exact List.Mem.head _ | apply List.Mem.tail)); done) rfl; exact rfl; exact rfl) | (apply GOl_ov; exact rfl; exact rfl; (first | (apply OV_idxS (j := k); exact rfl; exact rfl; exact rfl; exact rfl; exact rfl; exact rfl; (with_reducible exact rfl); omega) | (apply OV_load; exact rfl; exact Lv_ro rfl c1 rfl)); exact (by repeat' (first | exact trivial | apply And.intro | exact List.Mem.head _ | apply List.Mem.tail))) | (apply GOl_to; exact rfl; exact rfl; exact rfl; (first | (apply OpTo_val; exact rfl; exact has10; exact f1; skip) | (apply OpTo_val; exact rfl; exact has11; exact f2; skip))) | (apply GO_cond; exact rfl; all_goals intro hc; all_goals try simp only [ltI_t, ltI_f, leI_t, leI_f, eqI_t, eqI_f, Bool.not_eq_true', Bool.not_eq_false', decide_eq_true_eq, decide_eq_false_iff_not, reduceCtorEq] at hc; all_goals try (exfalso; omega)) | (apply GOl_split; exact rfl; exact rfl; all_goals intro hc; all_goals try simp only [ltI_t, ltI_f, leI_t, leI_f, eqI_t, eqI_f, Bool.not_eq_true', Bool.not_eq_false', decide_eq_true_eq, decide_eq_false_iff_not, reduceCtorEq] at hc; all_goals try (exfalso; omega)))
      have h3 := ih (k + 1) (by omega) (by omega)
      refine GO_fit (by (repeat (first | exact trivial | refine ⟨rfl, ?_⟩)); done) (by (repeat (first | exact Takes_nil | (apply Takes_cons; exact (by (repeat (first | exact Take.here | apply Take.there)); done)))); done) (h3)
    · have f1 := checkQ_c h1 q A c (hx.le hle1) (by omega)
      have f2 := checkQR_c h1 q A c (hx.le hle1) (by omega)
      generalize (if QuoOk q then (0 : Int) else 370) = e at *
      repeat' (first | apply GO_seq | apply GO_region | apply GOl_nil | (apply GO_exit; exact rfl) | (apply GOl_pv; exact rfl; exact rfl; exact rfl) | (apply GO_drawp (n := 13) [0, 1, 2, 3, 4, 5] [(0, 0), (2, 0), (1, 1), (3, 1), (4, 0), (5, 0)]; kernel_rfl) | (apply GP_pv; exact rfl; kernel_rfl; exact rfl; exact rfl; exact rfl) | (apply GP_loadB; exact rfl; kernel_rfl; exact rfl; exact rfl; exact rfl; exact (by (repeat (first | exact List.Mem.head _ | apply List.Mem.tail)); done); exact rfl; exact rfl) | (apply GP_real; exact rfl; kernel_rfl; exact rfl; exact rfl; exact rfl; (first | (apply OpTo_val; exact rfl; exact has12; exact f1; refine ⟨Le.refl _, by (first | exact NdOk_no rfl | (apply NdOk_all; (repeat' (first | exact trivial | apply And.intro | exact List.Mem.head _ | apply List.Mem.tail)); done) | (apply NdOk_need; (repeat' (first | exact trivial | apply And.intro | exact List.Mem.head _ | apply List.Mem.tail)); done)), ?_⟩) | (apply OpTo_val; exact rfl; exact has13; exact f2; refine ⟨Le.refl _, by (first | exact NdOk_no rfl | (apply NdOk_all; (repeat' (first | exact trivial | apply And.intro | exact List.Mem.head _ | apply List.Mem.tail)); done) | (apply NdOk_need; (repeat' (first | exact trivial | apply And.intro | exact List.Mem.head _ | apply List.Mem.tail)); done)), ?_⟩))) | (apply GP_done; kernel_rfl; exact rfl) | (apply GO_cond; exact rfl; all_goals intro hc; all_goals try simp only [ltI_t, ltI_f, leI_t, leI_f, eqI_t, eqI_f, Bool.not_eq_true', Bool.not_eq_false', decide_eq_true_eq, decide_eq_false_iff_not, reduceCtorEq] at hc; all_goals try (exfalso; omega)) | (apply GO_retV1; exact rfl; exact rfl; exact rfl))
      all_goals first | (simp [eqI_eq]; done)
  · rw [decide_eq_false (fun hh => hF hh.1)] at hfew
    repeat' (first | apply GO_seq | apply GO_skip | apply GO_region | apply GOl_nil | (apply GOl_pv; exact rfl; exact rfl; exact rfl) | (apply GOl_load; exact rfl; exact Ld_blk rfl (by (repeat (first | exact List.Mem.head _ | apply List.Mem.tail)); done) rfl; exact rfl; exact rfl) | (apply GOl_to; exact rfl; exact rfl; exact rfl; (first | (apply OpTo_box; exact rfl; intro b; skip) | (apply OpTo_val; exact rfl; exact has8; exact sane37_c hS hC _ hG; skip) | (apply OpTo_val; exact rfl; exact has9; exact hfew; skip))) | (apply GO_cond; exact rfl; all_goals intro hc; all_goals try simp only [ltI_t, ltI_f, leI_t, leI_f, eqI_t, eqI_f, Bool.not_eq_true', Bool.not_eq_false', decide_eq_true_eq, decide_eq_false_iff_not, reduceCtorEq] at hc; all_goals try (exfalso; omega)) | (apply GO_retV1; exact rfl; exact rfl; exact rfl))
    all_goals first | rfl

end Go.Hw

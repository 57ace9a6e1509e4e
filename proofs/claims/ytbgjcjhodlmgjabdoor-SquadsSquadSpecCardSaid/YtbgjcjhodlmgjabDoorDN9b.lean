import Derived.Test.YtbgjcjhodlmgjabDoorDN9
set_option linter.unusedVariables false
set_option linter.unusedSimpArgs false
set_option maxRecDepth 100000
set_option maxHeartbeats 8000000
namespace Go.Hw
open Go
attribute [local irreducible] GO GOl GDp Val Fn Res CellsAt ValE Blk OwnS MapA Yl
open Go.Proofs (Tryd.prog)


theorem squadSpec_w (hS : SortSaid) (hC : CompactSaid) (h : Ro) (hG : LenG h) (q : Quo) (A : Option Addr) (c : Nat) (hx : SlOf encV 2 h A q.wins.length q.wins) (B : Option Addr) (n d : Nat) (l : List Per) (hl : SlOf encP 4 h B n l) (inn out day : Int)
    (W : Option Addr) (m e : Nat) (ws : List Int) (hw : SlOf encI 1 h W m ws) (hme : m ≤ e) :
    Val Tryd.prog 4 #[quoV q A c, .slice B n d, .int .i64 inn, .int .i64 out, .int .i64 day, .slice W m e] h (.bool true) := by
  refine Val_intro (args := [_, _, _, _, _, _]) ts_ok Go.Proofs.Tryd.func4 rfl rfl fun w0 X0 => ?_
  have hfew := fewQ2_c h q A B none c n 0 d 0
  by_cases hF : (q.wins.length ≤ 20 ∧ n ≤ 20) ∧ m ≤ 80
  · obtain ⟨⟨F1, F2⟩, F3⟩ := hF
    rw [decide_eq_true ⟨F1, F2, by omega⟩] at hfew
    have f1 := cap_c h q A c hx (by omega) W m e ws hw (by omega) hme
    have f2 := capR_c h q A c hx (by omega) W m e ws hw (by omega)
    obtain ⟨a1, a2, a3, hcap⟩ : ∃ (a1 : Int) (a2 : Bool) (a3 : Int), capR q ws = .tuple #[.int .i64 a1, .bool a2, .int .i64 a3] := by
      unfold capR; split
      · exact ⟨_, _, _, rfl⟩
      · split
        · exact ⟨_, _, _, rfl⟩
        · exact ⟨_, _, _, rfl⟩
    rw [hcap] at f1 f2
    have g1 := squad_c h hG q A c hx (by omega) B n d l hl (by omega) inn out day
    have g2 := squadRf_c h q A c hx (by omega) B n d l hl (by omega) inn out day
    generalize squadE q l inn out day = sE at *
    repeat' (first | apply GO_seq | apply GO_skip | apply GO_region | apply GOl_nil | (apply GOl_pv; exact rfl; exact rfl; exact rfl) | (apply GOl_load; exact rfl; exact Ld_blk rfl (by (repeat (first | exact List.Mem.head _ | apply List.Mem.tail)); done) rfl; exact rfl; exact rfl) | (apply GOl_to; exact rfl; exact rfl; exact rfl; (first | (apply OpTo_box; exact rfl; intro b; skip) | (apply OpTo_val; exact rfl; exact has8; exact sane37_c hS hC _ hG; skip) | (apply OpTo_val; exact rfl; exact has9; exact hfew; skip) | (apply OpTo_val; exact rfl; exact has14; exact f1; skip) | (apply OpTo_val; exact rfl; exact has15; exact f2; skip))) | (apply GO_drawp (n := 7) [0, 1, 2, 3, 4, 5, 6, 7, 8, 9, 10, 11, 12, 13, 14, 15, 16, 17, 18, 19, 20, 21, 22, 23, 24, 25, 26, 27, 28] [(0, 0), (1, 0), (2, 0), (3, 0), (4, 0), (6, 0), (7, 0), (8, 0), (9, 0), (10, 0), (5, 1), (11, 1), (12, 0), (13, 0), (14, 0), (15, 0), (16, 0), (17, 0), (18, 0), (19, 0), (20, 0), (21, 0), (22, 0), (23, 0), (24, 0), (25, 0), (26, 0), (27, 0), (28, 0)]; kernel_rfl) | (apply GP_un; exact rfl; kernel_rfl; exact rfl; exact rfl) | (apply GP_pv; exact rfl; kernel_rfl; exact rfl; exact rfl; exact rfl) | (apply GP_loadB; exact rfl; kernel_rfl; exact rfl; exact rfl; exact rfl; exact (by (repeat (first | exact List.Mem.head _ | apply List.Mem.tail)); done); exact rfl; exact rfl) | (apply GP_real; exact rfl; kernel_rfl; exact rfl; exact rfl; exact rfl; (first | (apply OpTo_val; exact rfl; exact has16; exact g1; refine ⟨Le.refl _, by (first | exact NdOk_no rfl | (apply NdOk_all; (repeat' (first | exact trivial | apply And.intro | exact List.Mem.head _ | apply List.Mem.tail)); done) | (apply NdOk_need; (repeat' (first | exact trivial | apply And.intro | exact List.Mem.head _ | apply List.Mem.tail)); done)), ?_⟩) | (apply OpTo_val; exact rfl; exact has17; exact g2; refine ⟨Le.refl _, by (first | exact NdOk_no rfl | (apply NdOk_all; (repeat' (first | exact trivial | apply And.intro | exact List.Mem.head _ | apply List.Mem.tail)); done) | (apply NdOk_need; (repeat' (first | exact trivial | apply And.intro | exact List.Mem.head _ | apply List.Mem.tail)); done)), ?_⟩))) | (apply GP_done; kernel_rfl; exact rfl) | (apply GP_split; exact rfl; exact rfl; exact rfl; exact rfl; exact rfl; all_goals intro hc; all_goals try simp only [ltI_t, ltI_f, leI_t, leI_f, eqI_t, eqI_f, Bool.not_eq_true', Bool.not_eq_false', decide_eq_true_eq, decide_eq_false_iff_not, reduceCtorEq] at hc; all_goals try (exfalso; omega)) | (apply GO_cond; exact rfl; all_goals intro hc; all_goals try simp only [ltI_t, ltI_f, leI_t, leI_f, eqI_t, eqI_f, Bool.not_eq_true', Bool.not_eq_false', decide_eq_true_eq, decide_eq_false_iff_not, reduceCtorEq] at hc; all_goals try (exfalso; omega)) | (apply GO_retV1; exact rfl; exact rfl; exact rfl))
    all_goals first | rfl | (simp [eqI_eq]; done) | (simp at hc; done) | (exfalso; omega)
  · generalize hfd : decide (q.wins.length ≤ 20 ∧ n ≤ 20 ∧ 0 ≤ 20) = fd at hfew
    repeat' (first | apply GO_seq | apply GO_skip | apply GO_region | apply GOl_nil | (apply GOl_unwanted; exact rfl; exact rfl) | (apply GOl_pv; exact rfl; exact rfl; exact rfl) | (apply GOl_load; exact rfl; exact Ld_blk rfl (by (repeat (first | exact List.Mem.head _ | apply List.Mem.tail)); done) rfl; exact rfl; exact rfl) | (apply GOl_to; exact rfl; exact rfl; exact rfl; (first | (apply OpTo_box; exact rfl; intro b; skip) | (apply OpTo_val; exact rfl; exact has8; exact sane37_c hS hC _ hG; skip) | (apply OpTo_val; exact rfl; exact has9; exact hfew; skip))) | (apply GO_cond; exact rfl; all_goals intro hc; all_goals try simp only [ltI_t, ltI_f, leI_t, leI_f, eqI_t, eqI_f, Bool.not_eq_true', Bool.not_eq_false', decide_eq_true_eq, decide_eq_false_iff_not, reduceCtorEq] at hc; all_goals try (exfalso; omega)) | (apply GOl_split; exact rfl; exact rfl; all_goals intro hc; all_goals try simp only [ltI_t, ltI_f, leI_t, leI_f, eqI_t, eqI_f, Bool.not_eq_true', Bool.not_eq_false', decide_eq_true_eq, decide_eq_false_iff_not, reduceCtorEq] at hc; all_goals try (exfalso; omega)) | (apply GO_retV1; exact rfl; exact rfl; exact rfl))
    all_goals first | rfl | (exfalso; have := of_decide_eq_true (hfd.trans (by assumption)); omega)

end Go.Hw

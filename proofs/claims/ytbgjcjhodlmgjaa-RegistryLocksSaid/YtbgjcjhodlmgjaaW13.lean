import Derived.Test.YtbgjcjhodlmgjaaW12
import Derived.Test.YtbgjcjhodlmgjaaHwT
set_option linter.unusedVariables false
set_option linter.unusedSimpArgs false
set_option maxRecDepth 100000
set_option maxHeartbeats 1600000
namespace Go.Hw
open Go
attribute [local irreducible] GO GOl GDp Val Fn Res CellsAt ValE Blk OwnS MapA
open Go.Proofs (Try.prog)


theorem sameInts7_c (h : Ro) (A B : Option Addr) (n c n' c' : Nat) (xs ys : List Int) (hx : SlOf encI 1 h A n xs) (hy : SlOf encI 1 h B n' ys) (hn : n ≤ 1000000000) (hn' : n' ≤ 1000000000) :
    Val Try.prog 51 #[.slice A n c, .slice B n' c'] h (.bool (decide (xs = ys))) := by
  refine Val_intro (args := [_, _]) ts_ok Go.Proofs.Try.func51 rfl rfl fun w0 X0 => ?_
  have hlx := hx.len
  have hly := hy.len
  repeat' (first | apply GO_seq | apply GO_skip | apply GO_block | apply GO_region | apply GOl_nil | (apply GOl_pv; exact rfl; exact rfl; exact rfl) | (apply GO_cond; exact rfl; all_goals intro hc; all_goals try simp only [ltI_t, ltI_f, leI_t, leI_f, eqI_t, eqI_f, Bool.not_eq_true', Bool.not_eq_false', decide_eq_true_eq, decide_eq_false_iff_not, reduceCtorEq] at hc; all_goals try (exfalso; omega)) | (apply GO_retV1; exact rfl; exact rfl; exact rfl))
  · rw [decide_eq_false]; intro e; rw [e] at hlx; omega
  refine GO_loopT (X := Nat) (fun k => k ≤ n ∧ xs.take k = ys.take k) (fun k => n - k) (fun k => [(5, .int .i64 k), (0, .slice A n c), (1, .slice B n' c')]) (fun k => []) (fun _ => h) 0 ⟨by omega, rfl⟩ (by (repeat (first | exact trivial | refine ⟨rfl, ?_⟩)); done) (by (repeat (first | exact Takes_nil | (apply Takes_cons; exact (by (repeat (first | exact Take.here | apply Take.there)); done)))); done) rfl ?_
  rintro k ⟨hk, hI⟩ ih
  repeat' (first | apply GO_seq | apply GO_skip | apply GO_block | apply GO_region | apply GOl_nil | (apply GO_exit; exact rfl) | (apply GOl_pv; exact rfl; exact rfl; exact rfl) | (apply GO_drawp (n := 6) [0, 1, 2, 3, 4, 5, 6, 7, 8] [(0, 0), (1, 0), (2, 0), (3, 0), (4, 0), (5, 0), (6, 0), (7, 0), (8, 0)]; kernel_rfl) | (apply GP_pv; exact rfl; kernel_rfl; exact rfl; exact rfl; exact rfl) | (apply GO_cond; exact rfl; all_goals intro hc; all_goals try simp only [ltI_t, ltI_f, leI_t, leI_f, eqI_t, eqI_f, Bool.not_eq_true', Bool.not_eq_false', decide_eq_true_eq, decide_eq_false_iff_not, reduceCtorEq] at hc; all_goals try (exfalso; omega)) | (apply GO_retV1; exact rfl; exact rfl; exact rfl))
  · have hkn : k < n := by omega
    have hkn' : k < n' := by omega
    have a1 := hx.addrD hkn
    have a2 := hy.addrD hkn'
    have c1 := hx.cellsD 0 hkn
    have c2 := hy.cellsD 0 hkn'
    repeat' (first | apply GO_seq | apply GO_skip | apply GO_inBlock | apply GO_region | apply GOl_nil | (apply GOl_add; exact rfl; exact rfl; exact rfl; omega; exact rfl; exact rfl) | (apply GOl_pv; exact rfl; exact rfl; exact rfl) | (apply GP_pv; exact rfl; kernel_rfl; exact rfl; exact rfl; exact rfl) | (apply GP_ov; exact rfl; kernel_rfl; exact rfl; exact rfl; (first | (apply OV_load; exact rfl; first | exact Lv_ro rfl (by assumption) rfl | exact Lv_roF rfl (by assumption) rfl | exact Lv_roF2 rfl (by assumption) rfl | exact Lv_roF3 rfl (by assumption) rfl) | (apply OV_idxS; exact rfl; exact rfl; exact rfl; exact rfl; exact rfl; assumption; exact rfl; first | assumption | omega)); exact (by repeat' (first | exact trivial | apply And.intro | exact List.Mem.head _ | apply List.Mem.tail))) | (apply GP_done; kernel_rfl; exact rfl) | (apply GO_cond; exact rfl; all_goals intro hc; all_goals try simp only [ltI_t, ltI_f, leI_t, leI_f, eqI_t, eqI_f, Bool.not_eq_true', Bool.not_eq_false', decide_eq_true_eq, decide_eq_false_iff_not, reduceCtorEq] at hc; all_goals try (exfalso; omega)) | (apply GO_retV1; exact rfl; exact rfl; exact rfl))
    · rw [decide_eq_false]; exact ne_of_getD 0 k (by omega)
    · have hc2 : xs.getD k 0 = ys.getD k 0 := by omega
      have h2 := ih (k + 1) ⟨by omega, by rw [take_snocD 0 hlx hkn, take_snocD 0 hly hkn', hI, hc2]⟩ (by omega)
      refine GO_fit (by (repeat (first | exact trivial | refine ⟨rfl, ?_⟩)); done) (by (repeat (first | exact Takes_nil | (apply Takes_cons; exact (by (repeat (first | exact Take.here | apply Take.there)); done)))); done) (h2)
  · rw [decide_eq_true]; rw [List.take_of_length_le (by omega), List.take_of_length_le (by omega)] at hI; exact hI


theorem sameCards0_c (h : Ro) : Val Try.prog 71 #[.slice none 0 0, .slice none 0 0] h (.bool true) := by
  refine Val_intro (args := [_, _]) ts_ok Go.Proofs.Try.func71 rfl rfl fun w0 X0 => ?_
  repeat' (first | apply GO_seq | apply GO_skip | apply GO_block | apply GO_region | apply GOl_nil | (apply GOl_pv; exact rfl; exact rfl; exact rfl) | (apply GO_cond; exact rfl; all_goals intro hc; all_goals try simp only [ltI_t, ltI_f, leI_t, leI_f, eqI_t, eqI_f, Bool.not_eq_true', Bool.not_eq_false', decide_eq_true_eq, decide_eq_false_iff_not, reduceCtorEq] at hc; all_goals try (exfalso; omega)))
  refine GO_loopT (X := Unit) (fun k => True) (fun k => 0) (fun k => [(5, .int .i64 0), (0, .slice none 0 0), (1, .slice none 0 0)]) (fun k => []) (fun _ => h) () trivial (by (repeat (first | exact trivial | refine ⟨rfl, ?_⟩)); done) (by (repeat (first | exact Takes_nil | (apply Takes_cons; exact (by (repeat (first | exact Take.here | apply Take.there)); done)))); done) rfl ?_
  rintro _ _ ih
  repeat' (first | apply GO_seq | apply GO_region | apply GOl_nil | (apply GO_exit; exact rfl) | (apply GOl_pv; exact rfl; exact rfl; exact rfl) | (apply GO_cond; exact rfl; all_goals intro hc; all_goals try simp only [ltI_t, ltI_f, leI_t, leI_f, eqI_t, eqI_f, Bool.not_eq_true', Bool.not_eq_false', decide_eq_true_eq, decide_eq_false_iff_not, reduceCtorEq] at hc; all_goals try (exfalso; omega)) | (apply GO_retV1; exact rfl; exact rfl; exact rfl))
  rfl

def sheet0 : Value := .agg #[.int .i64 0, .int .i64 0, .int .i64 0, .int .i64 0, .int .i64 0, .int .i64 0, .int .i64 0, .int .i64 0, .int .i64 0, .slice none 0 0, .slice none 0 0, .slice none 0 0, .slice none 0 0]

theorem sameSheet0_c (h : Ro) : Val Try.prog 52 #[sheet0, sheet0] h (.bool true) := by
  refine Val_intro (args := [_, _]) ts_ok Go.Proofs.Try.func52 rfl rfl fun w0 X0 => ?_
  repeat' (first | apply GO_seq | apply GO_region | apply GOl_nil | (apply GOl_pv; exact rfl; exact rfl; exact rfl) | (apply GOl_load; exact rfl; exact Ld_blk rfl (by (repeat (first | exact List.Mem.head _ | apply List.Mem.tail)); done) rfl; exact rfl; exact rfl) | (apply GOl_ov; exact rfl; exact rfl; (first | (apply OV_eqlR; exact rfl; exact rfl; exact rfl; kernel_rfl; kernel_rfl)); exact (by repeat' (first | exact trivial | apply And.intro | exact List.Mem.head _ | apply List.Mem.tail))) | (apply GOl_to; exact rfl; exact rfl; exact rfl; (first | (apply OpTo_box; exact rfl; intro b; skip) | (apply OpTo_val; exact rfl; exact has51; exact sameInts7_c _ none none 0 0 0 0 [] [] SlOf.nil SlOf.nil (by omega) (by omega); skip) | (apply OpTo_val; exact rfl; exact has71; exact sameCards0_c _; skip))) | (apply GOl_split; exact rfl; exact rfl; all_goals intro hc; all_goals try simp only [ltI_t, ltI_f, leI_t, leI_f, eqI_t, eqI_f, Bool.not_eq_true', Bool.not_eq_false', decide_eq_true_eq, decide_eq_false_iff_not, reduceCtorEq] at hc; all_goals try (exfalso; omega)) | (apply GO_retV1; exact rfl; exact rfl; exact rfl))
  rfl

/-- The fact of a move. -/
structure Mv where
  day : Int
  player : Int
  to : Int
deriving DecidableEq
def encM (m : Mv) : List Value := [.int .i64 6, .int .i64 m.day, .int .i64 m.day, .int .i64 0, .int .i64 0, .slice none 0 0, .string ByteArray.empty, .int .i64 0, .int .i64 0, .int .i64 0, .int .i64 0, .int .i64 0,
  .int .i64 0, .int .i64 0, .int .i64 0, .int .i64 0, .int .i64 0, .int .i64 0, .int .i64 0, .int .i64 0, .int .i64 0, .slice none 0 0, .slice none 0 0, .slice none 0 0, .slice none 0 0,
  .int .i64 0, .int .i64 0, .int .i64 0, .int .i64 0, .int .i64 0, .int .i64 0, .int .i64 0, .int .i64 0, .int .i64 0, .int .i64 0, .int .i64 0, .int .i64 0, .int .i64 0, .int .i64 0, .int .i64 0, .int .i64 0, .int .i64 0,
  .int .i64 0, .int .i64 0, .bool false, .int .i64 m.player, .int .i64 m.to, .int .i64 0, .int .i64 0, .slice none 0 0,
  .int .u8 0, .int .u8 0, .int .u8 0, .int .u8 0, .int .u8 0, .int .u8 0, .int .u8 0, .int .u8 0, .int .u8 0, .int .u8 0, .int .u8 0, .int .u8 0, .int .u8 0, .int .u8 0, .int .u8 0, .int .u8 0,
  .int .u8 0, .int .u8 0, .int .u8 0, .int .u8 0, .int .u8 0, .int .u8 0, .int .u8 0, .int .u8 0, .int .u8 0, .int .u8 0, .int .u8 0, .int .u8 0, .int .u8 0, .int .u8 0, .int .u8 0, .int .u8 0]
theorem encM_len (m : Mv) : (encM m).length = 82 := rfl


theorem sameMv_c (h : Ro) (x y : Mv) : Val Try.prog 41 #[.agg (encM x).toArray, .agg (encM y).toArray] h (.bool (decide (x = y))) := by
  refine Val_intro (args := [_, _]) ts_ok Go.Proofs.Try.func41 rfl rfl fun w0 X0 => ?_
  repeat' (first | apply GO_seq | apply GO_skip | apply GO_region | apply GOl_nil | (apply GOl_unwanted; exact rfl; exact rfl) | (apply GOl_pv; exact rfl; exact rfl; exact rfl) | (apply GOl_load; exact rfl; exact Ld_blk rfl (by (repeat (first | exact List.Mem.head _ | apply List.Mem.tail)); done) rfl; exact rfl; exact rfl) | (apply GOl_ov; exact rfl; exact rfl; (first | (apply OV_neqR; exact rfl; exact rfl; exact rfl; kernel_rfl; kernel_rfl) | (apply OV_neqV; exact rfl; exact rfl; exact rfl; kernel_rfl; kernel_rfl)); exact (by repeat' (first | exact trivial | apply And.intro | exact List.Mem.head _ | apply List.Mem.tail))) | (apply GOl_to; exact rfl; exact rfl; exact rfl; (first | (apply OpTo_store; exact rfl; exact rfl; exact rfl; exact (by (repeat (first | exact Repl.here | apply Repl.there)); done); exact rfl; exact rfl; exact rfl; skip) | (apply OpTo_box; exact rfl; intro b; skip) | (apply OpTo_alloc; exact rfl; intro b; skip) | (apply OpTo_val; exact rfl; exact has51; exact sameInts7_c _ none none 0 0 0 0 [] [] SlOf.nil SlOf.nil (by omega) (by omega); skip) | (apply OpTo_val; exact rfl; exact has52; exact sameSheet0_c _; skip))) | (apply GO_cond; exact rfl; all_goals intro hc; all_goals try simp only [ltI_t, ltI_f, leI_t, leI_f, eqI_t, eqI_f, Bool.not_eq_true', Bool.not_eq_false', decide_eq_true_eq, decide_eq_false_iff_not, reduceCtorEq] at hc; all_goals try (exfalso; omega)) | (apply GOl_split; exact rfl; exact rfl; all_goals intro hc; all_goals try simp only [ltI_t, ltI_f, leI_t, leI_f, eqI_t, eqI_f, Bool.not_eq_true', Bool.not_eq_false', decide_eq_true_eq, decide_eq_false_iff_not, reduceCtorEq] at hc; all_goals try (exfalso; omega)) | (apply GO_retV1; exact rfl; exact rfl; exact rfl))
  · rw [decide_eq_false]; rintro rfl; contradiction
  · rw [decide_eq_false]; rintro rfl; simp [eqI_eq] at *
  · rw [decide_eq_true]
    have q1 : (eqI x.player y.player && (eqI x.to y.to && true)) = true := by assumption
    have q2 : x.day = y.day := by assumption
    simp [eqI_eq] at q1
    cases x; cases y; simp at *; simp [*]
  · simp at hc


theorem sameMvs_c (h : Ro) (A B : Option Addr) (n c n' c' : Nat) (xs ys : List Mv) (hx : SlOf encM 82 h A n xs) (hy : SlOf encM 82 h B n' ys) (hn : n ≤ 1000000000) (hn' : n' ≤ 1000000000) :
    Val Try.prog 27 #[.slice A n c, .slice B n' c'] h (.bool (decide (xs = ys))) := by
  refine Val_intro (args := [_, _]) ts_ok Go.Proofs.Try.func27 rfl rfl fun w0 X0 => ?_
  have hlx := hx.len
  have hly := hy.len
  repeat' (first | apply GO_seq | apply GO_skip | apply GO_block | apply GO_region | apply GOl_nil | (apply GOl_pv; exact rfl; exact rfl; exact rfl) | (apply GO_cond; exact rfl; all_goals intro hc; all_goals try simp only [ltI_t, ltI_f, leI_t, leI_f, eqI_t, eqI_f, Bool.not_eq_true', Bool.not_eq_false', decide_eq_true_eq, decide_eq_false_iff_not, reduceCtorEq] at hc; all_goals try (exfalso; omega)) | (apply GO_retV1; exact rfl; exact rfl; exact rfl))
  · rw [decide_eq_false]; intro e; rw [e] at hlx; omega
  refine GO_loopT (X := Nat) (fun k => k ≤ n ∧ xs.take k = ys.take k) (fun k => n - k) (fun k => [(5, .int .i64 k), (0, .slice A n c), (1, .slice B n' c')]) (fun k => []) (fun _ => h) 0 ⟨by omega, rfl⟩ (by (repeat (first | exact trivial | refine ⟨rfl, ?_⟩)); done) (by (repeat (first | exact Takes_nil | (apply Takes_cons; exact (by (repeat (first | exact Take.here | apply Take.there)); done)))); done) rfl ?_
  rintro k ⟨hk, hI⟩ ih
  repeat' (first | apply GO_seq | apply GO_skip | apply GO_block | apply GO_region | apply GOl_nil | (apply GO_exit; exact rfl) | (apply GOl_pv; exact rfl; exact rfl; exact rfl) | (apply GO_drawp (n := 6) [0, 1, 2, 3, 4, 5, 6, 7, 8, 9] [(0, 0), (1, 0), (2, 0), (3, 0), (4, 0), (5, 0), (6, 0), (7, 0), (8, 1), (9, 0)]; kernel_rfl) | (apply GP_pv; exact rfl; kernel_rfl; exact rfl; exact rfl; exact rfl) | (apply GO_cond; exact rfl; all_goals intro hc; all_goals try simp only [ltI_t, ltI_f, leI_t, leI_f, eqI_t, eqI_f, Bool.not_eq_true', Bool.not_eq_false', decide_eq_true_eq, decide_eq_false_iff_not, reduceCtorEq] at hc; all_goals try (exfalso; omega)) | (apply GO_retV1; exact rfl; exact rfl; exact rfl))
  · have hkn : k < n := by omega
    have hkn' : k < n' := by omega
    have a1 := hx.addrD hkn
    have a2 := hy.addrD hkn'
    have c1 := hx.cellsD ⟨0,0,0⟩ hkn
    have c2 := hy.cellsD ⟨0,0,0⟩ hkn'
    repeat' (first | apply GO_seq | apply GO_skip | apply GO_inBlock | apply GO_region | apply GOl_nil | (apply GOl_add; exact rfl; exact rfl; exact rfl; omega; exact rfl; exact rfl) | (apply GOl_pv; exact rfl; exact rfl; exact rfl) | (apply GP_pv; exact rfl; kernel_rfl; exact rfl; exact rfl; exact rfl) | (apply GP_ov; exact rfl; kernel_rfl; exact rfl; exact rfl; (first | (apply OV_load; exact rfl; first | exact Lv_ro rfl (by assumption) rfl | exact Lv_roF rfl (by assumption) rfl | exact Lv_roF2 rfl (by assumption) rfl | exact Lv_roF3 rfl (by assumption) rfl) | (apply OV_idxS; exact rfl; exact rfl; exact rfl; exact rfl; exact rfl; assumption; exact rfl; first | assumption | omega)); exact (by repeat' (first | exact trivial | apply And.intro | exact List.Mem.head _ | apply List.Mem.tail))) | (apply GP_real; exact rfl; kernel_rfl; exact rfl; exact rfl; exact rfl; (first | (apply OpTo_val; exact rfl; exact has41; exact sameMv_c _ (xs.getD k ⟨0,0,0⟩) (ys.getD k ⟨0,0,0⟩); refine ⟨Le.refl _, by (first | exact NdOk_no rfl | (apply NdOk_all; (repeat' (first | exact trivial | apply And.intro | exact List.Mem.head _ | apply List.Mem.tail)); done) | (apply NdOk_need; (repeat' (first | exact trivial | apply And.intro | exact List.Mem.head _ | apply List.Mem.tail)); done)), ?_⟩))) | (apply GP_done; kernel_rfl; exact rfl) | (apply GO_cond; exact rfl; all_goals intro hc; all_goals try simp only [ltI_t, ltI_f, leI_t, leI_f, eqI_t, eqI_f, Bool.not_eq_true', Bool.not_eq_false', decide_eq_true_eq, decide_eq_false_iff_not, reduceCtorEq] at hc; all_goals try (exfalso; omega)) | (apply GO_retV1; exact rfl; exact rfl; exact rfl))
    · rw [decide_eq_false]; exact ne_of_getD ⟨0,0,0⟩ k (by assumption)
    · have hc2 : xs.getD k ⟨0,0,0⟩ = ys.getD k ⟨0,0,0⟩ := by assumption
      have h2 := ih (k + 1) ⟨by omega, by rw [take_snocD ⟨0,0,0⟩ hlx hkn, take_snocD ⟨0,0,0⟩ hly hkn', hI, hc2]⟩ (by omega)
      refine GO_fit (by (repeat (first | exact trivial | refine ⟨rfl, ?_⟩)); done) (by (repeat (first | exact Takes_nil | (apply Takes_cons; exact (by (repeat (first | exact Take.here | apply Take.there)); done)))); done) (h2)
  · rw [decide_eq_true]; rw [List.take_of_length_le (by omega), List.take_of_length_le (by omega)] at hI; exact hI

end Go.Hw


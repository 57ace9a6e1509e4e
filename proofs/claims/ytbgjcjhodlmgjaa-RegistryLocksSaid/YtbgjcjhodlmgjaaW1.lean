import Derived.Test.YtbgjcjhodlmgjaaAaT
import Derived.Test.YtbgjcjhodlmgjaaW0
set_option linter.unusedVariables false
set_option linter.unusedSimpArgs false
set_option maxRecDepth 100000
namespace Go.Hw
open Go
attribute [local irreducible] GO GOl GDp Val Fn CellsAt
open Go.Proofs (Try.prog)


set_option maxHeartbeats 400000 in
open Classical in
theorem clubs_c (h : Ro) (A : Option Addr) (n c : Nat) (xs : List Int) (hx : SlOf encI 1 h A n xs) (hn : n ≤ 1000000000) :
    Val Try.prog 30 #[.slice A n c] h (.bool (decide (FieldOk xs))) := by
  refine Val_intro (args := [.slice A n c]) ts_ok Go.Proofs.Try.func30 rfl rfl fun w0 X0 => ?_
  have hlen := hx.len
  repeat' (first | apply GO_seq | apply GO_block | apply GO_region | apply GOl_nil | (apply GOl_pv; exact rfl; exact rfl; exact rfl))
  refine GO_while (fun k => k ≤ n ∧ (∀ i, i < k → 0 ≤ xs.getD i 0 ∧ xs.getD i 0 < 192 ∧ (0 < i → xs.getD (i-1) 0 < xs.getD i 0))) (fun k => n - k) (fun k => [(3, .int .i64 k), (0, .slice A n c)]) (fun _ => []) (fun _ => h) 0 ?_ ⟨rfl, rfl, trivial⟩ rfl rfl ?_
  · exact ⟨by omega, by intro i hi; omega⟩
  rintro k ⟨hk, hI⟩ ih
  repeat' (first | apply GO_seq | apply GO_skip | apply GO_block | apply GO_region | apply GOl_nil | (apply GO_exit; exact rfl) | (apply GOl_unwanted; exact rfl; exact rfl) | (apply GOl_pv; exact rfl; exact rfl; exact rfl) | (apply GO_drawp (n := 4) [0, 1, 2, 3, 4, 5, 6, 7, 8, 9, 10, 11, 12, 13, 14, 15, 16, 17, 18, 19, 20, 21, 22, 23, 24, 25, 26, 27] [(0, 0), (1, 0), (2, 0), (3, 0), (4, 0), (5, 0), (6, 0), (7, 0), (8, 0), (9, 0), (10, 0), (11, 0), (12, 0), (13, 0), (14, 0), (15, 0), (16, 0), (17, 0), (18, 0), (19, 0), (20, 0), (21, 0), (22, 0), (23, 0), (24, 0), (25, 0), (26, 0), (27, 0)]; kernel_rfl) | (apply GP_pv; exact rfl; kernel_rfl; exact rfl; exact rfl; exact rfl) | (apply GO_cond; exact rfl; all_goals intro hc; all_goals try simp only [ltI_t, ltI_f, leI_t, leI_f, eqI_t, eqI_f, Bool.not_eq_true', Bool.not_eq_false', decide_eq_true_eq, decide_eq_false_iff_not, reduceCtorEq] at hc; all_goals try (exfalso; omega)) | (apply GOl_split; exact rfl; exact rfl; all_goals intro hc; all_goals try simp only [ltI_t, ltI_f, leI_t, leI_f, eqI_t, eqI_f, Bool.not_eq_true', Bool.not_eq_false', decide_eq_true_eq, decide_eq_false_iff_not, reduceCtorEq] at hc; all_goals try (exfalso; omega)) | (apply GO_retV1; exact rfl; exact rfl; exact rfl))
  · obtain ⟨ad, rfl⟩ := hx.addr (by omega)
    have hkn : k < n := by omega
    have c1 := hx.cells 0 hkn
    have c2 := hx.cells 0 (show k - 1 < n by omega)
    repeat' (first | apply GO_seq | apply GO_skip | apply GO_inBlock | apply GO_region | apply GOl_nil | (apply GOl_add; exact rfl; exact rfl; exact rfl; omega; exact rfl; exact rfl) | (apply GOl_pv; exact rfl; exact rfl; exact rfl) | (apply GP_un; exact rfl; kernel_rfl; exact rfl; exact rfl) | (apply GP_sub; exact rfl; kernel_rfl; exact rfl; exact rfl; exact rfl; exact rfl; exact rfl; omega) | (apply GP_pv; exact rfl; kernel_rfl; exact rfl; exact rfl; exact rfl) | (apply GP_ov; exact rfl; kernel_rfl; exact rfl; exact rfl; (first | (apply OV_idx; exact rfl; exact rfl; exact rfl; exact rfl; exact rfl; exact rfl; exact hkn) | (apply OV_idx (j := k - 1); exact rfl; exact rfl; exact rfl; exact rfl; exact rfl; omega; omega) | (apply OV_load; exact rfl; exact Lv_ro rfl c1 rfl) | (apply OV_load; exact rfl; exact Lv_ro rfl c2 rfl)); exact (by repeat' (first | exact trivial | apply And.intro | exact List.Mem.head _ | apply List.Mem.tail))) | (apply GP_done; kernel_rfl; exact rfl) | (apply GP_split; exact rfl; exact rfl; exact rfl; exact rfl; exact rfl; all_goals intro hc; all_goals try simp only [ltI_t, ltI_f, leI_t, leI_f, eqI_t, eqI_f, Bool.not_eq_true', Bool.not_eq_false', decide_eq_true_eq, decide_eq_false_iff_not, reduceCtorEq] at hc; all_goals try (exfalso; omega)) | (apply GO_cond; exact rfl; all_goals intro hc; all_goals try simp only [ltI_t, ltI_f, leI_t, leI_f, eqI_t, eqI_f, Bool.not_eq_true', Bool.not_eq_false', decide_eq_true_eq, decide_eq_false_iff_not, reduceCtorEq] at hc; all_goals try (exfalso; omega)) | (apply GO_retV1; exact rfl; exact rfl; exact rfl))
    all_goals first
      | (refine GO_keep ?_ (ih (k + 1) ⟨by omega, fun i hi => ?_⟩ (by omega)); exact ⟨rfl, rfl, trivial⟩
         by_cases hik : i = k
         · subst hik; refine ⟨by assumption, by assumption, fun h0 => ?_⟩; first | assumption | (exfalso; omega)
         · exact hI i (by omega))
      | (rw [decide_eq_false]; rintro ⟨h1, h2, h3⟩; have := h1 k (by omega); omega)
  · rw [leI_eq]; congr 1; apply decide_eq_decide.2
    exact ⟨fun h => ⟨fun i hi => hI i (by omega), by omega, by omega⟩, fun ⟨_, _, h⟩ => by omega⟩
  · rw [decide_eq_false]; rintro ⟨h1, h2, h3⟩; omega


set_option maxHeartbeats 400000 in
open Classical in
theorem isField_c (h : Ro) (A : Option Addr) (n c : Nat) (xs : List Int) (hx : SlOf encI 1 h A n xs) (hn : n ≤ 1000000000) :
    Val Try.prog 29 #[.slice A n c] h (.bool (decide (FieldOk xs))) := by
  refine Val_intro (args := [.slice A n c]) ts_ok Go.Proofs.Try.func29 rfl rfl fun w0 X0 => ?_
  have hlen := hx.len
  repeat' (first | apply GO_seq | apply GO_block | apply GO_region | apply GOl_nil | (apply GOl_pv; exact rfl; exact rfl; exact rfl))
  refine GO_while (fun k => k ≤ n ∧ (∀ i, i < k → 0 ≤ xs.getD i 0 ∧ xs.getD i 0 < 192 ∧ (0 < i → xs.getD (i-1) 0 < xs.getD i 0))) (fun k => n - k) (fun k => [(7, .int .i64 k), (6, .int .i64 n), (5, .slice A n c), (0, .slice A n c)]) (fun _ => []) (fun _ => h) 0 ?_ ⟨rfl, rfl, rfl, rfl, trivial⟩ rfl rfl ?_
  · exact ⟨by omega, by intro i hi; omega⟩
  rintro k ⟨hk, hI⟩ ih
  repeat' (first | apply GO_seq | apply GO_skip | apply GO_block | apply GO_region | apply GOl_nil | (apply GO_exit; exact rfl) | (apply GOl_unwanted; exact rfl; exact rfl) | (apply GOl_pv; exact rfl; exact rfl; exact rfl) | (apply GO_cond; exact rfl; all_goals intro hc; all_goals try simp only [ltI_t, ltI_f, leI_t, leI_f, eqI_t, eqI_f, Bool.not_eq_true', Bool.not_eq_false', decide_eq_true_eq, decide_eq_false_iff_not, reduceCtorEq] at hc; all_goals try (exfalso; omega)) | (apply GOl_split; exact rfl; exact rfl; all_goals intro hc; all_goals try simp only [ltI_t, ltI_f, leI_t, leI_f, eqI_t, eqI_f, Bool.not_eq_true', Bool.not_eq_false', decide_eq_true_eq, decide_eq_false_iff_not, reduceCtorEq] at hc; all_goals try (exfalso; omega)) | (apply GO_retV1; exact rfl; exact rfl; exact rfl))
  · obtain ⟨ad, rfl⟩ := hx.addr (by omega)
    have hkn : k < n := by omega
    have c1 := hx.cells 0 hkn
    have c2 := hx.cells 0 (show k - 1 < n by omega)
    repeat' (first | apply GO_seq | apply GO_skip | apply GO_inBlock | apply GO_region | apply GOl_nil | (apply GOl_unwanted; exact rfl; exact rfl) | (apply GOl_add; exact rfl; exact rfl; exact rfl; omega; exact rfl; exact rfl) | (apply GOl_sub; exact rfl; exact rfl; exact rfl; omega; exact rfl; exact rfl) | (apply GOl_pv; exact rfl; exact rfl; exact rfl) | (apply GOl_ov; exact rfl; exact rfl; (first | (apply OV_idx; exact rfl; exact rfl; exact rfl; exact rfl; exact rfl; exact rfl; exact hkn) | (apply OV_idx (j := k - 1); exact rfl; exact rfl; exact rfl; exact rfl; exact rfl; omega; omega) | (apply OV_load; exact rfl; exact Lv_ro rfl c1 rfl) | (apply OV_load; exact rfl; exact Lv_ro rfl c2 rfl)); exact (by repeat' (first | exact trivial | apply And.intro | exact List.Mem.head _ | apply List.Mem.tail))) | (apply GO_cond; exact rfl; all_goals intro hc; all_goals try simp only [ltI_t, ltI_f, leI_t, leI_f, eqI_t, eqI_f, Bool.not_eq_true', Bool.not_eq_false', decide_eq_true_eq, decide_eq_false_iff_not, reduceCtorEq] at hc; all_goals try (exfalso; omega)) | (apply GOl_split; exact rfl; exact rfl; all_goals intro hc; all_goals try simp only [ltI_t, ltI_f, leI_t, leI_f, eqI_t, eqI_f, Bool.not_eq_true', Bool.not_eq_false', decide_eq_true_eq, decide_eq_false_iff_not, reduceCtorEq] at hc; all_goals try (exfalso; omega)) | (apply GO_retV1; exact rfl; exact rfl; exact rfl))
    all_goals first
      | (refine GO_keep ?_ (ih (k + 1) ⟨by omega, fun i hi => ?_⟩ (by omega)); exact ⟨rfl, rfl, rfl, rfl, trivial⟩
         by_cases hik : i = k
         · subst hik; refine ⟨by assumption, by assumption, fun h0 => ?_⟩; first | assumption | (exfalso; omega)
         · exact hI i (by omega))
      | (rw [decide_eq_false]; rintro ⟨h1, h2, h3⟩; have := h1 k (by omega); omega)
  · rw [leI_eq]; congr 1; apply decide_eq_decide.2
    exact ⟨fun h => ⟨fun i hi => hI i (by omega), by omega, by omega⟩, fun ⟨_, _, h⟩ => by omega⟩
  · rw [decide_eq_false]; rintro ⟨h1, h2, h3⟩; omega
end Go.Hw


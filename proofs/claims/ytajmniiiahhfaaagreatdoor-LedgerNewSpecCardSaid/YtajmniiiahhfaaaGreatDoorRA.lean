import Derived.Test.YtajmniiiahhfaaaGreatDoorGB
import Derived.Test.YtajmniiiahhfaaaGreatDoorUR2s
/-
  The reference's facts: the small functions, walked.
-/
set_option linter.unusedVariables false
set_option linter.unusedSimpArgs false
set_option maxRecDepth 100000
set_option maxHeartbeats 4000000
namespace Go.Hw
open Go
attribute [local irreducible] GO GOl GDp Val Fn Res CellsAt ValE Blk OwnS MapA OwnPf Has
open Go.Proofs (Tryz.prog)
theorem inR_c (h : Ro) (n a b : Int) : Val Tryz.prog 133 #[.int .i64 n, .int .i64 a, .int .i64 b] h (.bool (decide (a ≤ n ∧ n ≤ b))) := by
  refine Val_intro (args := [_, _, _]) ts_ok Go.Proofs.Tryz.func133 rfl rfl fun w0 X0 => ?_
  repeat' (first | apply GO_seq | apply GO_region | apply GOl_nil | (apply GOl_unwanted; exact rfl; exact rfl) | (apply GOl_pv; (iterate 3 exact rfl)) | (apply GOl_split; exact rfl; exact rfl; all_goals intro hc; all_goals try simp only [hcS, reduceCtorEq] at hc; all_goals try (exfalso; omega)) | (apply GO_retV1; (iterate 3 exact rfl)))
  all_goals (refine dec_ofV ?_; (try rw [leI_t]); grind)
theorem clubR_c (h : Ro) (n : Int) : Val Tryz.prog 200 #[.int .i64 n] h (.bool (decide (Bel n 192))) := by
  refine Val_intro (args := [_]) ts_ok Go.Proofs.Tryz.func200 rfl rfl fun w0 X0 => ?_
  repeat' (first | apply GO_seq | apply GO_region | apply GOl_nil | (apply GOl_pv; (iterate 3 exact rfl)) | (apply GOl_to; (iterate 3 exact rfl); (first | (apply OpTo_val; exact rfl; exact has133; exact inR_c _ _ _ _; skip))) | (apply GO_retV1; (iterate 3 exact rfl)))
  all_goals (refine dec_ofV ?_; rw [decide_eq_true_eq]; unfold Bel; omega)
theorem playerR_c (h : Ro) (n : Int) : Val Tryz.prog 138 #[.int .i64 n] h (.bool (decide (Bel n 8192))) := by
  refine Val_intro (args := [_]) ts_ok Go.Proofs.Tryz.func138 rfl rfl fun w0 X0 => ?_
  repeat' (first | apply GO_seq | apply GO_region | apply GOl_nil | (apply GOl_pv; (iterate 3 exact rfl)) | (apply GOl_to; (iterate 3 exact rfl); (first | (apply OpTo_val; exact rfl; exact has133; exact inR_c _ _ _ _; skip))) | (apply GO_retV1; (iterate 3 exact rfl)))
  all_goals (refine dec_ofV ?_; rw [decide_eq_true_eq]; unfold Bel; omega)
theorem seasonR_c (h : Ro) (n : Int) : Val Tryz.prog 194 #[.int .i64 n] h (.bool (decide (Bel n 64))) := by
  refine Val_intro (args := [_]) ts_ok Go.Proofs.Tryz.func194 rfl rfl fun w0 X0 => ?_
  repeat' (first | apply GO_seq | apply GO_region | apply GOl_nil | (apply GOl_pv; (iterate 3 exact rfl)) | (apply GOl_to; (iterate 3 exact rfl); (first | (apply OpTo_val; exact rfl; exact has133; exact inR_c _ _ _ _; skip))) | (apply GO_retV1; (iterate 3 exact rfl)))
  all_goals (refine dec_ofV ?_; rw [decide_eq_true_eq]; unfold Bel; omega)
theorem compR_c (h : Ro) (n : Int) : Val Tryz.prog 195 #[.int .i64 n] h (.bool (decide (Bel n 16))) := by
  refine Val_intro (args := [_]) ts_ok Go.Proofs.Tryz.func195 rfl rfl fun w0 X0 => ?_
  repeat' (first | apply GO_seq | apply GO_region | apply GOl_nil | (apply GOl_pv; (iterate 3 exact rfl)) | (apply GOl_to; (iterate 3 exact rfl); (first | (apply OpTo_val; exact rfl; exact has133; exact inR_c _ _ _ _; skip))) | (apply GO_retV1; (iterate 3 exact rfl)))
  all_goals (refine dec_ofV ?_; rw [decide_eq_true_eq]; unfold Bel; omega)
theorem goalsR_c (h : Ro) (n : Int) : Val Tryz.prog 201 #[.int .i64 n] h (.bool (decide (Bel n 100))) := by
  refine Val_intro (args := [_]) ts_ok Go.Proofs.Tryz.func201 rfl rfl fun w0 X0 => ?_
  repeat' (first | apply GO_seq | apply GO_region | apply GOl_nil | (apply GOl_pv; (iterate 3 exact rfl)) | (apply GOl_to; (iterate 3 exact rfl); (first | (apply OpTo_val; exact rfl; exact has133; exact inR_c _ _ _ _; skip))) | (apply GO_retV1; (iterate 3 exact rfl)))
  all_goals (refine dec_ofV ?_; rw [decide_eq_true_eq]; unfold Bel; omega)
theorem dayR_c (h : Ro) (n : Int) : Val Tryz.prog 100 #[.int .i64 n] h (.bool (decide (Bel n 1048577))) := by
  refine Val_intro (args := [_]) ts_ok Go.Proofs.Tryz.func100 rfl rfl fun w0 X0 => ?_
  repeat' (first | apply GO_seq | apply GO_region | apply GOl_nil | (apply GOl_pv; (iterate 3 exact rfl)) | (apply GOl_to; (iterate 3 exact rfl); (first | (apply OpTo_val; exact rfl; exact has133; exact inR_c _ _ _ _; skip))) | (apply GO_retV1; (iterate 3 exact rfl)))
  all_goals (refine dec_ofV ?_; rw [decide_eq_true_eq]; unfold Bel; omega)
theorem leagueR_c (h : Ro) (n : Int) : Val Tryz.prog 198 #[.int .i64 n] h (.bool (decide (0 ≤ n ∧ n ≤ 7))) := by
  refine Val_intro (args := [_]) ts_ok Go.Proofs.Tryz.func198 rfl rfl fun w0 X0 => ?_
  repeat' (first | apply GO_seq | apply GO_region | apply GOl_nil | (apply GOl_pv; (iterate 3 exact rfl)) | (apply GOl_to; (iterate 3 exact rfl); (first | (apply OpTo_val; exact rfl; exact has133; exact inR_c _ _ _ _; skip))) | (apply GO_retV1; (iterate 3 exact rfl)))
  all_goals rfl
theorem daysR_c (h : Ro) (a b : Int) : Val Tryz.prog 205 #[.agg (ivlC a b).toArray] h (.bool (decide (DaysOk a b))) := by
  refine Val_intro (args := [_]) ts_ok Go.Proofs.Tryz.func205 rfl rfl fun w0 X0 => ?_
  repeat' (first | apply GO_seq | apply GO_region | apply GOl_nil | (apply GOl_unwanted; exact rfl; exact rfl) | (apply GOl_pv; (iterate 3 exact rfl)) | (apply GOl_load; exact rfl; exact Ld_blk rfl (by (repeat (first|exact List.Mem.head _|apply List.Mem.tail));done) rfl; exact rfl; exact rfl) | (apply GOl_to; (iterate 3 exact rfl); (first | (apply OpTo_box; exact rfl; intro b; skip) | (apply OpTo_val; exact rfl; exact has100; exact dayR_c _ _; skip))) | (apply GOl_split; exact rfl; exact rfl; all_goals intro hc; all_goals try simp only [hcS, reduceCtorEq] at hc; all_goals try (exfalso; omega)) | (apply GO_retV1; (iterate 3 exact rfl)))
  all_goals (refine dec_ofV ?_; (try rw [leI_t]); unfold DaysOk Bel at *; grind)
theorem validR7_c (h : Ro) (g : FGame) : Val Tryz.prog 135 #[gameV g] h (.bool (decide (GameOk g))) := by
  refine Val_intro (args := [_]) ts_ok Go.Proofs.Tryz.func135 rfl rfl fun w0 X0 => ?_
  repeat' (first | apply GO_seq | apply GO_region | apply GOl_nil | (apply GOl_unwanted; exact rfl; exact rfl) | (apply GOl_pv; (iterate 3 exact rfl)) | (apply GOl_load; exact rfl; exact Ld_blk rfl (by (repeat (first|exact List.Mem.head _|apply List.Mem.tail));done) rfl; exact rfl; exact rfl) | (apply GOl_to; (iterate 3 exact rfl); (first | (apply OpTo_box; exact rfl; intro b; skip) | (apply OpTo_val; exact rfl; exact has194; exact seasonR_c _ _; skip) | (apply OpTo_val; exact rfl; exact has195; exact compR_c _ _; skip) | (apply OpTo_val; exact rfl; exact has200; exact clubR_c _ _; skip))) | (apply GOl_split; exact rfl; exact rfl; all_goals intro hc; all_goals try simp only [hcS, reduceCtorEq] at hc; all_goals try (exfalso; omega)) | (apply GO_retV1; (iterate 3 exact rfl)))
  all_goals (refine dec_ofV ?_; (try simp only [Bool.not_eq_true', eqI_f]); unfold GameOk; grind)
open Classical in
theorem incrR_c (h : Ro) (A : Option Addr) (n c : Nat) (xs : List Int) (hx : SlOf encI 1 h A n xs) (hn : n ≤ 9223372036854775807) :
    Val Tryz.prog 197 #[.slice A n c] h (.bool (decide (IncrL xs))) := by
  refine Val_intro (args := [_]) ts_ok Go.Proofs.Tryz.func197 rfl rfl fun w0 X0 => ?_
  have hlen := hx.len
  repeat' (first | apply GO_seq | apply GO_block | apply GO_region | apply GOl_nil | (apply GOl_pv; (iterate 3 exact rfl)))
  refine GO_loopT (X := Nat) (fun k => 1 ≤ k ∧ (k ≤ n ∨ k = 1) ∧ ∀ i, 0 < i → i < k → i < xs.length → xs.getD (i - 1) 0 < xs.getD i 0) (fun k => n + 1 - k) (fun k => [(3, .int .i64 k), (0, .slice A n c)]) (fun _ => []) (fun _ => h) 1 ⟨by omega, by omega, fun i h0 h1 => by omega⟩ (by (repeat (first|exact trivial|refine ⟨rfl, ?_⟩));done) (by (repeat (first | exact Takes_nil | (apply Takes_cons; exact (by (repeat (first|exact Take.here|apply Take.there));done)))); done) rfl ?_
  rintro k ⟨hk1, hk, hI⟩ ih
  by_cases hkn : k < n
  · have a1 := hx.addrD hkn
    have c1 := hx.cellsD 0 hkn
    have c2 := hx.cellsD 0 (show k - 1 < n by omega)
    have hs := hI k
    generalize hg1 : xs.getD k 0 = u at *
    generalize hg2 : xs.getD (k - 1) 0 = v at *
    repeat' (first | apply GO_seq | apply GO_skip | apply GO_inBlock | apply GO_block | apply GO_region | apply GOl_nil | (apply GOl_add; (iterate 3 exact rfl); omega; exact rfl; exact rfl) | (apply GOl_pv; (iterate 3 exact rfl)) | (apply GO_drawp (n := 4) [0, 1, 2, 3, 4, 5, 6, 7, 8, 9] [(0, 0), (1, 0), (2, 0), (3, 0), (4, 0), (5, 0), (6, 0), (7, 0), (8, 0), (9, 0)]; kernel_rfl) | (apply GP_sub; exact rfl; kernel_rfl; (iterate 5 exact rfl); omega) | (apply GP_pv; exact rfl; kernel_rfl; (iterate 3 exact rfl)) | (apply GP_ov; exact rfl; kernel_rfl; exact rfl; exact rfl; (first | (apply OV_idxS (j := k); (iterate 5 exact rfl); exact a1; (with_reducible exact rfl); omega) | (apply OV_idxS (j := k - 1); (iterate 5 exact rfl); exact a1; omega; omega) | (apply OV_load; exact rfl; exact Lv_ro rfl c1 rfl) | (apply OV_load; exact rfl; exact Lv_ro rfl c2 rfl)); exact (by repeat' (first|exact trivial|apply And.intro|exact List.Mem.head _|apply List.Mem.tail))) | (apply GP_done; kernel_rfl; exact rfl) | (apply GO_cond; exact rfl; all_goals intro hc; all_goals try simp only [hcS, reduceCtorEq] at hc; all_goals try (exfalso; omega)))
    · (first | (apply GO_retV1; (iterate 3 exact rfl)))
      rw [decide_eq_false]; intro hh; have := getD_ge.1 hh k (by omega) (by omega); omega
    · have h3 := ih (k + 1) ⟨by omega, by omega, fun i h0 h1 h2 => by
        by_cases e : i = k
        · subst e; rw [hg1, hg2]; assumption
        · exact hI i h0 (by omega) h2⟩ (by omega)
      refine GO_fit (by (repeat (first|exact trivial|refine ⟨rfl, ?_⟩));done) (by (repeat (first | exact Takes_nil | (apply Takes_cons; exact (by (repeat (first|exact Take.here|apply Take.there));done)))); done) (h3)
  · repeat' (first | apply GO_seq | apply GO_region | apply GOl_nil | (apply GO_exit; exact rfl) | (apply GOl_pv; (iterate 3 exact rfl)) | (apply GO_cond; exact rfl; all_goals intro hc; all_goals try simp only [hcS, reduceCtorEq] at hc; all_goals try (exfalso; omega)) | (apply GO_retV1; (iterate 3 exact rfl)))
    rw [decide_eq_true]; exact getD_ge.2 fun i h0 h1 => hI i h0 (by omega) h1
theorem memR_c (h : Ro) (A : Option Addr) (n c : Nat) (xs : List Int) (hx : SlOf encI 1 h A n xs) (hn : n ≤ 9223372036854775807) (v : Int) :
    Val Tryz.prog 204 #[.slice A n c, .int .i64 v] h (.bool (decide (v ∈ xs))) := by
  refine Val_intro (args := [_, _]) ts_ok Go.Proofs.Tryz.func204 rfl rfl fun w0 X0 => ?_
  have hlen := hx.len
  repeat' (first | apply GO_seq | apply GO_block | apply GO_region | apply GOl_nil | (apply GOl_pv; (iterate 3 exact rfl)))
  refine GO_loopT (X := Nat) (fun k => k ≤ n ∧ v ∉ xs.take k) (fun k => n - k) (fun k => [(5, .int .i64 k), (0, .slice A n c), (1, .int .i64 v)]) (fun _ => []) (fun _ => h) 0 ⟨by omega, by simp⟩ (by (repeat (first|exact trivial|refine ⟨rfl, ?_⟩));done) (by (repeat (first | exact Takes_nil | (apply Takes_cons; exact (by (repeat (first|exact Take.here|apply Take.there));done)))); done) rfl ?_
  rintro k ⟨hk, hI⟩ ih
  by_cases hkn : k < n
  · have a1 := hx.addrD hkn
    have c1 := hx.cellsD 0 hkn
    have ht := take7 0 hlen hkn
    have hm := mem7 0 (show k < xs.length by omega)
    generalize xs.getD k 0 = u at *
    repeat' (first | apply GO_seq | apply GO_skip | apply GO_inBlock | apply GO_block | apply GO_region | apply GOl_nil | (apply GOl_add; (iterate 3 exact rfl); omega; exact rfl; exact rfl) | (apply GOl_pv; (iterate 3 exact rfl)) | (apply GOl_ov; exact rfl; exact rfl; (first | (apply OV_idxS (j := k); (iterate 5 exact rfl); exact a1; (with_reducible exact rfl); omega) | (apply OV_load; exact rfl; exact Lv_ro rfl c1 rfl)); exact (by repeat' (first|exact trivial|apply And.intro|exact List.Mem.head _|apply List.Mem.tail))) | (apply GO_cond; exact rfl; all_goals intro hc; all_goals try simp only [hcS, reduceCtorEq] at hc; all_goals try (exfalso; omega)))
    all_goals first
      | ((first | (apply GO_retV1; (iterate 3 exact rfl))); rw [decide_eq_true]; (have e5 : v = u := by omega); rw [e5]; exact hm)
      | (have h3 := ih (k + 1) ⟨by omega, by rw [ht, List.mem_append, List.mem_singleton]; rintro (h4 | h4); exact hI h4; omega⟩ (by omega)
         refine GO_fit (by (repeat (first|exact trivial|refine ⟨rfl, ?_⟩));done) (by (repeat (first | exact Takes_nil | (apply Takes_cons; exact (by (repeat (first|exact Take.here|apply Take.there));done)))); done) (h3))
  · repeat' (first | apply GO_seq | apply GO_region | apply GOl_nil | (apply GO_exit; exact rfl) | (apply GOl_pv; (iterate 3 exact rfl)) | (apply GO_cond; exact rfl; all_goals intro hc; all_goals try simp only [hcS, reduceCtorEq] at hc; all_goals try (exfalso; omega)) | (apply GO_retV1; (iterate 3 exact rfl)))
    rw [List.take_of_length_le (by omega)] at hI
    rw [decide_eq_false hI]
open Classical in
theorem clubsR_c (h : Ro) (A : Option Addr) (n c : Nat) (xs : List Int) (hx : SlOf encI 1 h A n xs) (hn : n ≤ 9223372036854775807) (lo hi : Int) :
    Val Tryz.prog 196 #[.slice A n c, .int .i64 lo, .int .i64 hi] h (.bool (decide (lo ≤ (xs.length : Int) ∧ (xs.length : Int) ≤ hi ∧ ∀ x ∈ xs, Bel x 192))) := by
  refine Val_intro (args := [_, _, _]) ts_ok Go.Proofs.Tryz.func196 rfl rfl fun w0 X0 => ?_
  have hlen := hx.len
  repeat' (first | apply GO_seq | apply GO_block | apply GO_region | apply GOl_nil | (apply GOl_pv; (iterate 3 exact rfl)))
  refine GO_loopT (X := Nat) (fun k => k ≤ n ∧ ∀ x ∈ xs.take k, Bel x 192) (fun k => n - k) (fun k => [(7, .int .i64 k), (0, .slice A n c), (1, .int .i64 lo), (2, .int .i64 hi)]) (fun _ => []) (fun _ => h) 0 ⟨by omega, by simp⟩ (by (repeat (first|exact trivial|refine ⟨rfl, ?_⟩));done) (by (repeat (first | exact Takes_nil | (apply Takes_cons; exact (by (repeat (first|exact Take.here|apply Take.there));done)))); done) rfl ?_
  rintro k ⟨hk, hI⟩ ih
  by_cases hkn : k < n
  · have a1 := hx.addrD hkn
    have c1 := hx.cellsD 0 hkn
    have ht := take7 0 hlen hkn
    have hm := mem7 0 (show k < xs.length by omega)
    generalize xs.getD k 0 = u at *
    repeat' (first | apply GO_seq | apply GO_skip | apply GO_inBlock | apply GO_block | apply GO_region | apply GOl_nil | (apply GOl_add; (iterate 3 exact rfl); omega; exact rfl; exact rfl) | (apply GOl_pv; (iterate 3 exact rfl)) | (apply GOl_ov; exact rfl; exact rfl; (first | (apply OV_idxS (j := k); (iterate 5 exact rfl); exact a1; (with_reducible exact rfl); omega) | (apply OV_load; exact rfl; exact Lv_ro rfl c1 rfl)); exact (by repeat' (first|exact trivial|apply And.intro|exact List.Mem.head _|apply List.Mem.tail))) | (apply GOl_to; (iterate 3 exact rfl); (first | (apply OpTo_val; exact rfl; exact has200; exact clubR_c _ _; skip))) | (apply GO_cond; exact rfl; all_goals intro hc; all_goals try simp only [hcS, reduceCtorEq] at hc; all_goals try (exfalso; omega)))
    all_goals first
      | ((first | (apply GO_retV1; (iterate 3 exact rfl))); rw [decide_eq_false]; skip; grind)
      | (have h3 := ih (k + 1) ⟨by omega, by rw [ht]; intro x hx2; rw [List.mem_append, List.mem_singleton] at hx2; grind⟩ (by omega)
         refine GO_fit (by (repeat (first|exact trivial|refine ⟨rfl, ?_⟩));done) (by (repeat (first | exact Takes_nil | (apply Takes_cons; exact (by (repeat (first|exact Take.here|apply Take.there));done)))); done) (h3))
  · rw [List.take_of_length_le (by omega)] at hI
    clear ih
    repeat' (first | apply GO_seq | apply GO_region | apply GOl_nil | (apply GO_exit; exact rfl) | (apply GOl_pv; (iterate 3 exact rfl)) | (apply GOl_to; (iterate 3 exact rfl); (first | (apply OpTo_val; exact rfl; exact has133; exact inR_c _ _ _ _; skip))) | (apply GO_cond; exact rfl; all_goals intro hc; all_goals try simp only [hcS, reduceCtorEq] at hc; all_goals try (exfalso; omega)))
    all_goals (first | (apply GO_retV1; (iterate 3 exact rfl)))
    all_goals (refine dec_ofV ?_; skip; grind)
open Classical in
theorem squadR_c (h : Ro) (A : Option Addr) (n c : Nat) (xs : List Int) (hx : SlOf encI 1 h A n xs) (hn : n ≤ 9223372036854775807) :
    Val Tryz.prog 202 #[.slice A n c] h (.bool (decide (SquadOk xs))) := by
  refine Val_intro (args := [_]) ts_ok Go.Proofs.Tryz.func202 rfl rfl fun w0 X0 => ?_
  have hlen := hx.len
  repeat' (first | apply GO_seq | apply GO_block | apply GO_region | apply GOl_nil | (apply GOl_pv; (iterate 3 exact rfl)))
  refine GO_loopT (X := Nat) (fun k => k ≤ n ∧ ∀ x ∈ xs.take k, Bel x 8192) (fun k => n - k) (fun k => [(3, .int .i64 k), (0, .slice A n c)]) (fun _ => []) (fun _ => h) 0 ⟨by omega, by simp⟩ (by (repeat (first|exact trivial|refine ⟨rfl, ?_⟩));done) (by (repeat (first | exact Takes_nil | (apply Takes_cons; exact (by (repeat (first|exact Take.here|apply Take.there));done)))); done) rfl ?_
  rintro k ⟨hk, hI⟩ ih
  by_cases hkn : k < n
  · have a1 := hx.addrD hkn
    have c1 := hx.cellsD 0 hkn
    have ht := take7 0 hlen hkn
    have hm := mem7 0 (show k < xs.length by omega)
    generalize xs.getD k 0 = u at *
    repeat' (first | apply GO_seq | apply GO_skip | apply GO_inBlock | apply GO_block | apply GO_region | apply GOl_nil | (apply GOl_add; (iterate 3 exact rfl); omega; exact rfl; exact rfl) | (apply GOl_pv; (iterate 3 exact rfl)) | (apply GOl_ov; exact rfl; exact rfl; (first | (apply OV_idxS (j := k); (iterate 5 exact rfl); exact a1; (with_reducible exact rfl); omega) | (apply OV_load; exact rfl; exact Lv_ro rfl c1 rfl)); exact (by repeat' (first|exact trivial|apply And.intro|exact List.Mem.head _|apply List.Mem.tail))) | (apply GOl_to; (iterate 3 exact rfl); (first | (apply OpTo_val; exact rfl; exact has138; exact playerR_c _ _; skip))) | (apply GO_cond; exact rfl; all_goals intro hc; all_goals try simp only [hcS, reduceCtorEq] at hc; all_goals try (exfalso; omega)))
    all_goals first
      | ((first | (apply GO_retV1; (iterate 3 exact rfl))); rw [decide_eq_false]; unfold SquadOk; grind)
      | (have h3 := ih (k + 1) ⟨by omega, by rw [ht]; intro x hx2; rw [List.mem_append, List.mem_singleton] at hx2; grind⟩ (by omega)
         refine GO_fit (by (repeat (first|exact trivial|refine ⟨rfl, ?_⟩));done) (by (repeat (first | exact Takes_nil | (apply Takes_cons; exact (by (repeat (first|exact Take.here|apply Take.there));done)))); done) (h3))
  · rw [List.take_of_length_le (by omega)] at hI
    clear ih
    repeat' (first | apply GO_seq | apply GO_region | apply GOl_nil | (apply GO_exit; exact rfl) | (apply GOl_unwanted; exact rfl; exact rfl) | (apply GOl_pv; (iterate 3 exact rfl)) | (apply GOl_to; (iterate 3 exact rfl); (first | (apply OpTo_val; exact rfl; exact has197; exact incrR_c _ _ _ _ xs hx hn; skip))) | (apply GO_cond; exact rfl; all_goals intro hc; all_goals try simp only [hcS, reduceCtorEq] at hc; all_goals try (exfalso; omega)) | (apply GOl_split; exact rfl; exact rfl; all_goals intro hc; all_goals try simp only [hcS, reduceCtorEq] at hc; all_goals try (exfalso; omega)))
    all_goals (first | (apply GO_retV1; (iterate 3 exact rfl)))
    all_goals (refine dec_ofV ?_; unfold SquadOk; grind)
open Classical in
theorem cardsR_c (h : Ro) (A : Option Addr) (n c : Nat) (l : List FCard) (hx : SlOf encC 2 h A n l) (hn : n ≤ 9223372036854775807) (B : Option Addr) (m d : Nat) (sq : List Int) (hy : SlOf encI 1 h B m sq) (hm : m ≤ 9223372036854775807) :
    Val Tryz.prog 203 #[.slice A n c, .slice B m d] h (.bool (decide (CardsOk l sq))) := by
  refine Val_intro (args := [_, _]) ts_ok Go.Proofs.Tryz.func203 rfl rfl fun w0 X0 => ?_
  have hlen := hx.len
  repeat' (first | apply GO_seq | apply GO_block | apply GO_region | apply GOl_nil | (apply GOl_pv; (iterate 3 exact rfl)))
  refine GO_loopT (X := Nat) (fun k => k ≤ n ∧ ∀ x ∈ l.take k, x.p ∈ sq) (fun k => n - k) (fun k => [(5, .int .i64 k), (0, .slice A n c), (1, .slice B m d)]) (fun _ => []) (fun _ => h) 0 ⟨by omega, by simp⟩ (by (repeat (first|exact trivial|refine ⟨rfl, ?_⟩));done) (by (repeat (first | exact Takes_nil | (apply Takes_cons; exact (by (repeat (first|exact Take.here|apply Take.there));done)))); done) rfl ?_
  rintro k ⟨hk, hI⟩ ih
  by_cases hkn : k < n
  · have a1 := hx.addrD hkn
    have c1 := hx.cellsD card0 hkn
    have ht := take7 card0 hlen hkn
    have hm2 := mem7 card0 (show k < l.length by omega)
    generalize l.getD k card0 = u at *
    repeat' (first | apply GO_seq | apply GO_skip | apply GO_inBlock | apply GO_block | apply GO_region | apply GOl_nil | (apply GOl_add; (iterate 3 exact rfl); omega; exact rfl; exact rfl) | (apply GOl_pv; (iterate 3 exact rfl)) | (apply GOl_ov; exact rfl; exact rfl; (first | (apply OV_idxS (j := k); (iterate 5 exact rfl); exact a1; (with_reducible exact rfl); omega) | (apply OV_load; exact rfl; first | exact Lv_ro rfl (by assumption) rfl | exact Lv_roF rfl (by assumption) rfl | exact Lv_roF2 rfl (by assumption) rfl | exact Lv_roF3 rfl (by assumption) rfl)); exact (by repeat' (first|exact trivial|apply And.intro|exact List.Mem.head _|apply List.Mem.tail))) | (apply GOl_to; (iterate 3 exact rfl); (first | (apply OpTo_val; exact rfl; exact has204; exact memR_c _ _ _ _ sq hy hm _; skip))) | (apply GO_cond; exact rfl; all_goals intro hc; all_goals try simp only [hcS, reduceCtorEq] at hc; all_goals try (exfalso; omega)))
    all_goals first
      | ((first | (apply GO_retV1; (iterate 3 exact rfl))); rw [decide_eq_false]; unfold CardsOk; grind)
      | (have h3 := ih (k + 1) ⟨by omega, by rw [ht]; intro x hx2; rw [List.mem_append, List.mem_singleton] at hx2; grind⟩ (by omega)
         refine GO_fit (by (repeat (first|exact trivial|refine ⟨rfl, ?_⟩));done) (by (repeat (first | exact Takes_nil | (apply Takes_cons; exact (by (repeat (first|exact Take.here|apply Take.there));done)))); done) (h3))
  · rw [List.take_of_length_le (by omega)] at hI
    clear ih
    repeat' (first | apply GO_seq | apply GO_region | apply GOl_nil | (apply GO_exit; exact rfl) | (apply GOl_pv; (iterate 3 exact rfl)) | (apply GO_cond; exact rfl; all_goals intro hc; all_goals try simp only [hcS, reduceCtorEq] at hc; all_goals try (exfalso; omega)))
    all_goals (first | (apply GO_retV1; (iterate 3 exact rfl)))
    all_goals (refine dec_ofV ?_; (try rw [leI_t]); unfold CardsOk; grind)
open Classical in
theorem nameR_c (h : Ro) (s : List UInt8) (hs : s.length ≤ 9223372036854775807) : Val Tryz.prog 199 #[.string (str s)] h (.bool (decide (NameOk s))) := by
  refine Val_intro (args := [_]) ts_ok Go.Proofs.Tryz.func199 rfl rfl fun w0 X0 => ?_
  have hz := str_size s
  by_cases h0 : s.length = 0
  · repeat' (first | apply GO_seq | apply GO_region | apply GOl_nil | (apply GOl_unwanted; exact rfl; exact rfl) | (apply GOl_pv; (iterate 3 exact rfl)) | (apply GO_cond; exact rfl; all_goals intro hc; all_goals try simp only [hcS, reduceCtorEq] at hc; all_goals try (exfalso; omega)) | (apply GOl_split; exact rfl; exact rfl; all_goals intro hc; all_goals try simp only [hcS, reduceCtorEq] at hc; all_goals try (exfalso; omega)))
    all_goals (try (exfalso; rw [hz] at *; omega))
    (first | (apply GO_retV1; (iterate 3 exact rfl)))
    rw [decide_eq_false]; rw [nameOk_iff]; intro hh; omega
  by_cases h1 : 24 < s.length
  · repeat' (first | apply GO_seq | apply GO_region | apply GOl_nil | (apply GOl_unwanted; exact rfl; exact rfl) | (apply GOl_pv; (iterate 3 exact rfl)) | (apply GO_cond; exact rfl; all_goals intro hc; all_goals try simp only [hcS, reduceCtorEq] at hc; all_goals try (exfalso; omega)) | (apply GOl_split; exact rfl; exact rfl; all_goals intro hc; all_goals try simp only [hcS, reduceCtorEq] at hc; all_goals try (exfalso; omega)))
    all_goals (try (exfalso; rw [hz] at *; omega))
    (first | (apply GO_retV1; (iterate 3 exact rfl)))
    rw [decide_eq_false]; rw [nameOk_iff]; intro hh; omega
  repeat' (first | apply GO_seq | apply GO_skip | apply GO_block | apply GO_region | apply GOl_nil | (apply GOl_unwanted; exact rfl; exact rfl) | (apply GOl_pv; (iterate 3 exact rfl)) | (apply GOl_ov; exact rfl; exact rfl; (first | (apply OV_strIdx (s := s) (j := 0); (iterate 5 exact rfl); omega)); exact (by repeat' (first|exact trivial|apply And.intro|exact List.Mem.head _|apply List.Mem.tail))) | (apply GO_cond; exact rfl; all_goals intro hc; all_goals try simp only [hcS, reduceCtorEq] at hc; all_goals try (exfalso; omega)) | (apply GOl_split; exact rfl; exact rfl; all_goals intro hc; all_goals try simp only [hcS, reduceCtorEq] at hc; all_goals try (exfalso; omega)))
  · (first | (apply GO_retV1; (iterate 3 exact rfl)))
    rw [decide_eq_false]; rw [nameOk_iff]; intro hh; omega
  · (first | (apply GO_retV1; (iterate 3 exact rfl)))
    rw [decide_eq_false]; rw [nameOk_iff]; intro hh; omega
  · have hw := nameOk_iff s
    refine GO_loopT (X := Nat) (fun k => k ≤ s.length ∧ ∀ c ∈ s.take k, NameC c) (fun k => s.length - k) (fun k => [(3, .int .i64 k), (0, .string (str s))]) (fun _ => []) (fun _ => h) 0 ⟨by omega, by simp⟩ (by (repeat (first|exact trivial|refine ⟨rfl, ?_⟩));done) (by (repeat (first | exact Takes_nil | (apply Takes_cons; exact (by (repeat (first|exact Take.here|apply Take.there));done)))); done) rfl ?_
    rintro k ⟨hk, hI⟩ ih
    by_cases hkn : k < s.length
    · have ht := take7 0 rfl hkn
      have hm := mem7 0 hkn
      have oi : ∀ {C : Ctx} {l : Sl} {h : Ro} {t : TypeId} {x y : Operand} {T : Ty} {ty : TypeId} {pos : String} {aft : Array Edge} {gd : Option (Nat × Bool)} {dst : Option Tmp}, tyOf t C.ts = some T → T.desc = .string → evl l x = some (.string (str s)) → evl l y = some (.int .i64 (k : Int)) → OV C l [] h ⟨dst, .index t x y, ty, pos, aft, gd⟩ (.int .u8 ((s.getD k 0).toNat : Int)) := fun hT hTd hx hy => OV_strIdx hT hTd hx hy rfl hkn
      generalize s.getD k 0 = u at *
      have hno : ¬ NameC u → ¬ NameOk s := fun h3 h4 => h3 ((hw.1 h4).2.2.2 u hm)
      have hyes : NameC u → ∀ c ∈ s.take (k + 1), NameC c := fun h3 c h4 => by
        rw [ht, List.mem_append, List.mem_singleton] at h4
        rcases h4 with h4 | h4
        · exact hI c h4
        · rw [h4]; exact h3
      unfold NameC at hno hyes
      repeat' (first | apply GO_seq | apply GO_skip | apply GO_inBlock | apply GO_block | apply GO_region | apply GOl_nil | (apply GOl_unwanted; exact rfl; exact rfl) | (apply GOl_add; (iterate 3 exact rfl); omega; exact rfl; exact rfl) | (apply GOl_pv; (iterate 3 exact rfl)) | (apply GOl_ov; exact rfl; exact rfl; (first | (apply oi; (iterate 4 exact rfl))); exact (by repeat' (first|exact trivial|apply And.intro|exact List.Mem.head _|apply List.Mem.tail))) | (apply GO_cond; exact rfl; all_goals intro hc; all_goals try simp only [hcS, reduceCtorEq] at hc; all_goals try (exfalso; omega)) | (apply GOl_split; exact rfl; exact rfl; all_goals intro hc; all_goals try simp only [hcS, reduceCtorEq] at hc; all_goals try (exfalso; omega)))
      all_goals first
        | (exfalso; rw [hz] at *; omega)
        | ((first | (apply GO_retV1; (iterate 3 exact rfl))); rw [decide_eq_false]; apply hno; omega)
        | (have h3 := ih (k + 1) ⟨by omega, hyes (by omega)⟩ (by omega)
           refine GO_fit (by (repeat (first|exact trivial|refine ⟨rfl, ?_⟩));done) (by (repeat (first | exact Takes_nil | (apply Takes_cons; exact (by (repeat (first|exact Take.here|apply Take.there));done)))); done) (h3))
    · rw [List.take_of_length_le (by omega)] at hI
      repeat' (first | apply GO_seq | apply GO_region | apply GOl_nil | (apply GO_exit; exact rfl) | (apply GOl_pv; (iterate 3 exact rfl)) | (apply GO_cond; exact rfl; all_goals intro hc; all_goals try simp only [hcS, reduceCtorEq] at hc; all_goals try (exfalso; omega)))
      all_goals (try (exfalso; rw [hz] at *; omega))
      (first | (apply GO_retV1; (iterate 3 exact rfl)))
      rw [decide_eq_true]; exact hw.2 ⟨by omega, by omega, ⟨by omega, by omega⟩, hI⟩
open Classical in
theorem entrantsR_c (h : Ro) (s : Fsh) (x : Fct) (hx : SlOf encI 1 h s.cl.A s.cl.n x.eClubs) (hn : s.cl.n ≤ 9223372036854775807) (hr : x.eRules.length ≤ 9223372036854775807) : Val Tryz.prog 134 #[entV7 s x] h (.bool (decide (EntOk x))) := by
  refine Val_intro (args := [_]) ts_ok Go.Proofs.Tryz.func134 rfl rfl fun w0 X0 => ?_
  have hlen := hx.len
  repeat' (first | apply GO_seq | apply GO_skip | apply GO_region | apply GOl_nil | (apply GOl_unwanted; exact rfl; exact rfl) | (apply GOl_pv; (iterate 3 exact rfl)) | (apply GOl_load; exact rfl; exact Ld_blk rfl (by (repeat (first|exact List.Mem.head _|apply List.Mem.tail));done) rfl; exact rfl; exact rfl) | (apply GOl_to; (iterate 3 exact rfl); (first | (apply OpTo_box; exact rfl; intro b; skip) | (apply OpTo_val; exact rfl; exact has196; exact clubsR_c _ _ _ _ x.eClubs hx hn 2 24; skip) | (apply OpTo_val; exact rfl; exact has197; exact incrR_c _ _ _ _ x.eClubs hx hn; skip) | (apply OpTo_val; exact rfl; exact has199; exact nameR_c _ x.eRules hr; skip) | (apply OpTo_val; exact rfl; exact has194; exact seasonR_c _ _; skip) | (apply OpTo_val; exact rfl; exact has195; exact compR_c _ _; skip) | (apply OpTo_val; exact rfl; exact has198; exact leagueR_c _ _; skip))) | (apply GO_cond; exact rfl; all_goals intro hc; all_goals try simp only [hcS, reduceCtorEq] at hc; all_goals try (exfalso; omega)) | (apply GOl_split; exact rfl; exact rfl; all_goals intro hc; all_goals try simp only [hcS, reduceCtorEq] at hc; all_goals try (exfalso; omega)))
  all_goals (first | (apply GO_retV1; (iterate 3 exact rfl)))
  all_goals (clear hx hn hr; refine dec_ofV ?_)
  all_goals (try rw [str_toList, show (⟨#[]⟩ : ByteArray).toList = [] from str_toList [], beq_iff_eq])
  all_goals (unfold EntOk; unfold Bel at *; grind)
open Classical in
theorem sheetR_c (h : Ro) (s : Fsh) (x : FSheet) (hx : ShAt h s x) (hs : ShSm x) : Val Tryz.prog 136 #[sheetV s x] h (.bool (decide (SheetOk x))) := by
  refine Val_intro (args := [_]) ts_ok Go.Proofs.Tryz.func136 rfl rfl fun w0 X0 => ?_
  obtain ⟨n1, n2, n3, n4⟩ := hx.small hs
  have hgc : GameOk x.g → 0 ≤ x.g.c := fun hh => hh.2.1.1
  repeat' (first | apply GO_seq | apply GO_skip | apply GO_block | apply GO_region | apply GOl_nil | (apply GOl_unwanted; exact rfl; exact rfl) | (apply GOl_pv; (iterate 3 exact rfl)) | (apply GOl_load; exact rfl; exact Ld_blk rfl (by (repeat (first|exact List.Mem.head _|apply List.Mem.tail));done) rfl; exact rfl; exact rfl) | (apply GOl_to; (iterate 3 exact rfl); (first | (apply OpTo_box; exact rfl; intro b; skip) | (apply OpTo_val; exact rfl; exact has135; exact validR7_c _ x.g; skip) | (apply OpTo_val; exact rfl; exact has202; first | exact squadR_c _ _ _ _ x.hs (hx.hs.le (by first|exact Le.refl _|assumption|(repeat (first|assumption|(apply Le.trans;assumption))))) (by omega) | exact squadR_c _ _ _ _ x.asn (hx.asn.le (by first|exact Le.refl _|assumption|(repeat (first|assumption|(apply Le.trans;assumption))))) (by omega); skip) | (apply OpTo_val; exact rfl; exact has203; first | exact cardsR_c _ _ _ _ x.hc (hx.hc.le (by first|exact Le.refl _|assumption|(repeat (first|assumption|(apply Le.trans;assumption))))) (by omega) _ _ _ x.hs (hx.hs.le (by first|exact Le.refl _|assumption|(repeat (first|assumption|(apply Le.trans;assumption))))) (by omega) | exact cardsR_c _ _ _ _ x.ac (hx.ac.le (by first|exact Le.refl _|assumption|(repeat (first|assumption|(apply Le.trans;assumption))))) (by omega) _ _ _ x.asn (hx.asn.le (by first|exact Le.refl _|assumption|(repeat (first|assumption|(apply Le.trans;assumption))))) (by omega); skip) | (apply OpTo_val; exact rfl; exact has133; exact inR_c _ _ _ _; skip) | (apply OpTo_val; exact rfl; exact has201; exact goalsR_c _ _; skip) | (apply OpTo_val; exact rfl; exact has198; exact leagueR_c _ _; skip))) | (apply GO_cond; exact rfl; all_goals intro hc; all_goals try simp only [hcS, reduceCtorEq] at hc; all_goals try (exfalso; omega)) | (apply GOl_split; exact rfl; exact rfl; all_goals intro hc; all_goals try simp only [hcS, reduceCtorEq] at hc; all_goals try (exfalso; omega)))
  all_goals first
    | ((first | (apply GO_retV1; (iterate 3 exact rfl))); clear hx hs; refine dec_ofV ?_; unfold SheetOk; unfold Bel at *; grind)
    | (refine GO_loopT (X := Nat) (fun k => k ≤ s.hs.n ∧ ∀ p ∈ x.hs.take k, p ∉ x.asn) (fun k => s.hs.n - k) (fun k => [(4, .int .i64 k), (1, .pointer (some ⟨b, 0, none⟩))]) (fun _ => [Blk b 28 (sheetC s x)]) (fun _ => h) 0 ⟨by omega, by simp⟩ (by (repeat (first|exact trivial|refine ⟨rfl, ?_⟩));done) (by (repeat (first | exact Takes_nil | (apply Takes_cons; exact (by (repeat (first|exact Take.here|apply Take.there));done)))); done) rfl ?_
       rintro k ⟨hk, hI⟩ ih
       have hlen := hx.hs.len
       by_cases hkn : k < s.hs.n
       · have a1 := hx.hs.addrD hkn
         have c1 := hx.hs.cellsD 0 hkn
         have ht := take7 0 hlen hkn
         have hm := mem7 0 (show k < x.hs.length by omega)
         generalize x.hs.getD k 0 = u at *
         repeat' (first | apply GO_seq | apply GO_skip | apply GO_inBlock | apply GO_block | apply GO_region | apply GOl_nil | (apply GOl_add; (iterate 3 exact rfl); omega; exact rfl; exact rfl) | (apply GOl_pv; (iterate 3 exact rfl)) | (apply GOl_load; exact rfl; exact Ld_blk rfl (by (repeat (first|exact List.Mem.head _|apply List.Mem.tail));done) rfl; exact rfl; exact rfl) | (apply GO_drawp (n := 11) [0, 1, 2, 3, 4, 5, 6, 7] [(0, 0), (1, 0), (2, 0), (3, 0), (4, 0), (5, 0), (6, 0), (7, 1)]; kernel_rfl) | (apply GP_pv; exact rfl; kernel_rfl; (iterate 3 exact rfl)) | (apply GP_loadB; exact rfl; kernel_rfl; (iterate 3 exact rfl); exact (by (repeat (first|exact List.Mem.head _|apply List.Mem.tail));done); exact rfl; exact rfl) | (apply GP_ov; exact rfl; kernel_rfl; exact rfl; exact rfl; (first | (apply OV_idxS (j := k); (iterate 5 exact rfl); exact a1; (with_reducible exact rfl); omega) | (apply OV_load; exact rfl; exact Lv_ro rfl c1 rfl)); exact (by repeat' (first|exact trivial|apply And.intro|exact List.Mem.head _|apply List.Mem.tail))) | (apply GP_real; exact rfl; kernel_rfl; (iterate 3 exact rfl); (first | (apply OpTo_val; exact rfl; exact has204; exact memR_c _ _ _ _ x.asn hx.asn (by omega) _; refine ⟨Le.refl _, by (first | exact NdOk_no rfl | (apply NdOk_all; (repeat' (first|exact trivial|apply And.intro|exact List.Mem.head _|apply List.Mem.tail)); done) | (apply NdOk_need; (repeat' (first|exact trivial|apply And.intro|exact List.Mem.head _|apply List.Mem.tail)); done)), ?_⟩))) | (apply GP_done; kernel_rfl; exact rfl) | (apply GO_cond; exact rfl; all_goals intro hc; all_goals try simp only [hcS, reduceCtorEq] at hc; all_goals try (exfalso; omega)))
         all_goals first
           | ((first | (apply GO_retV1; (iterate 3 exact rfl))); clear hx hs; rw [decide_eq_false]; unfold SheetOk; grind)
           | (have h3 := ih (k + 1) ⟨by omega, by rw [ht]; intro z hz2; rw [List.mem_append, List.mem_singleton] at hz2; grind⟩ (by omega)
              refine GO_fit (by (repeat (first|exact trivial|refine ⟨rfl, ?_⟩));done) (by (repeat (first | exact Takes_nil | (apply Takes_cons; exact (by (repeat (first|exact Take.here|apply Take.there));done)))); done) (h3))
       · rw [List.take_of_length_le (by omega)] at hI
         clear ih
         repeat' (first | apply GO_seq | apply GO_region | apply GOl_nil | (apply GO_exit; exact rfl) | (apply GOl_pv; (iterate 3 exact rfl)) | (apply GOl_load; exact rfl; exact Ld_blk rfl (by (repeat (first|exact List.Mem.head _|apply List.Mem.tail));done) rfl; exact rfl; exact rfl) | (apply GO_cond; exact rfl; all_goals intro hc; all_goals try simp only [hcS, reduceCtorEq] at hc; all_goals try (exfalso; omega)))
         (first | (apply GO_retV1; (iterate 3 exact rfl)))
         clear hx hs
         rw [decide_eq_true]
         unfold SheetOk; unfold Bel at *; grind)
theorem FAt.smallN {h : Ro} {s : Fsh} {x : Fct} (a : FAt h s x) (b : FSm x) : s.cl.n ≤ 9223372036854775807 ∧ s.lo.n ≤ 9223372036854775807 ∧ x.eRules.length ≤ 9223372036854775807 := by
  obtain ⟨_, _, _, _, h5, h6⟩ := a.small b
  have := b.2.2.2
  omega
open Classical in
theorem lotR_c (h : Ro) (s : Fsh) (x : Fct) (hx : SlOf encI 1 h s.lo.A s.lo.n x.lO) (hn : s.lo.n ≤ 9223372036854775807) (hcap : s.lo.n ≤ s.lo.c) : Val Tryz.prog 139 #[lotV s x] h (.bool (decide (LotOk x))) := by
  refine Val_intro (args := [_]) ts_ok Go.Proofs.Tryz.func139 rfl rfl fun w0 X0 => ?_
  have hlen := hx.len
  repeat' (first | apply GO_seq | apply GO_block | apply GO_region | apply GOl_nil | (apply GOl_pv; (iterate 3 exact rfl)) | (apply GOl_to; (iterate 3 exact rfl); (first | (apply OpTo_box; exact rfl; intro b; skip))))
  refine GO_loopT (X := Nat) (fun k => k ≤ s.lo.n ∧ (x.lO.take k).Nodup) (fun k => s.lo.n - k) (fun k => [(3, .int .i64 k), (1, .pointer (some ⟨b, 0, none⟩))]) (fun _ => [Blk b 69 (partL (lotV s x))]) (fun _ => h) 0 ⟨by omega, by simp⟩ (by (repeat (first|exact trivial|refine ⟨rfl, ?_⟩));done) (by (repeat (first | exact Takes_nil | (apply Takes_cons; exact (by (repeat (first|exact Take.here|apply Take.there));done)))); done) rfl ?_
  rintro k ⟨hk, hI⟩ ih
  by_cases hkn : k < s.lo.n
  · have a1 := hx.addrD hkn
    have c1 := hx.cellsD 0 hkn
    have ht := take7 0 hlen hkn
    have hxh := hx.high (c := s.lo.c) (show k ≤ s.lo.n by omega) hcap
    have hnd : x.lO.Nodup → (x.lO.take (k + 1)).Nodup := fun hh => hh.sublist (List.take_sublist _ _)
    rw [ht, List.nodup_append] at hnd
    generalize x.lO.getD k 0 = u at *
    repeat' (first | apply GO_seq | apply GO_skip | apply GO_inBlock | apply GO_block | apply GO_region | apply GOl_nil | (apply GOl_add; (iterate 3 exact rfl); omega; exact rfl; exact rfl) | (apply GOl_pv; (iterate 3 exact rfl)) | (apply GOl_load; exact rfl; exact Ld_blk rfl (by (repeat (first|exact List.Mem.head _|apply List.Mem.tail));done) rfl; exact rfl; exact rfl) | (apply GO_drawp (n := 4) [0, 1, 2, 3, 4, 5, 6, 7, 8, 9] [(0, 0), (1, 0), (2, 0), (3, 0), (4, 0), (5, 0), (6, 0), (7, 0), (8, 0), (9, 1)]; kernel_rfl) | (apply GP_pv; exact rfl; kernel_rfl; (iterate 3 exact rfl)) | (apply GP_loadB; exact rfl; kernel_rfl; (iterate 3 exact rfl); exact (by (repeat (first|exact List.Mem.head _|apply List.Mem.tail));done); exact rfl; exact rfl) | (apply GP_ov; exact rfl; kernel_rfl; exact rfl; exact rfl; (first | (apply OV_idxS (j := k); (iterate 5 exact rfl); exact a1; (with_reducible exact rfl); omega) | (apply OV_load; exact rfl; exact Lv_ro rfl c1 rfl) | (apply OV_sliceHi; (iterate 6 exact rfl); exact hk; exact hcap)); exact (by repeat' (first|exact trivial|apply And.intro|exact List.Mem.head _|apply List.Mem.tail))) | (apply GP_real; exact rfl; kernel_rfl; (iterate 3 exact rfl); (first | (apply OpTo_val; exact rfl; exact has204; exact memR_c _ _ _ _ (x.lO.take k) hxh (by omega) _; refine ⟨Le.refl _, by (first | exact NdOk_no rfl | (apply NdOk_all; (repeat' (first|exact trivial|apply And.intro|exact List.Mem.head _|apply List.Mem.tail)); done) | (apply NdOk_need; (repeat' (first|exact trivial|apply And.intro|exact List.Mem.head _|apply List.Mem.tail)); done)), ?_⟩))) | (apply GP_done; kernel_rfl; exact rfl) | (apply GO_cond; exact rfl; all_goals intro hc; all_goals try simp only [hcS, reduceCtorEq] at hc; all_goals try (exfalso; omega)))
    all_goals first
      | ((first | (apply GO_retV1; (iterate 3 exact rfl))); rw [decide_eq_false]; exact fun hh => (hnd hh.2.2.2).2.2 _ hc _ (List.mem_singleton.2 rfl) rfl)
      | (have h3 := ih (k + 1) ⟨by omega, by rw [ht, List.nodup_append]; exact ⟨hI, by simp, fun a ha b' hb e6 => by rw [List.mem_singleton] at hb; exact hc (by rw [← hb, ← e6]; exact ha)⟩⟩ (by omega)
         refine GO_fit (by (repeat (first|exact trivial|refine ⟨rfl, ?_⟩));done) (by (repeat (first | exact Takes_nil | (apply Takes_cons; exact (by (repeat (first|exact Take.here|apply Take.there));done)))); done) (h3))
  · rw [List.take_of_length_le (by omega)] at hI
    clear ih
    repeat' (first | apply GO_seq | apply GO_region | apply GOl_nil | (apply GO_exit; exact rfl) | (apply GOl_unwanted; exact rfl; exact rfl) | (apply GOl_pv; (iterate 3 exact rfl)) | (apply GOl_load; exact rfl; exact Ld_blk rfl (by (repeat (first|exact List.Mem.head _|apply List.Mem.tail));done) rfl; exact rfl; exact rfl) | (apply GOl_to; (iterate 3 exact rfl); (first | (apply OpTo_val; exact rfl; exact has196; exact clubsR_c _ _ _ _ x.lO hx hn 2 24; skip) | (apply OpTo_val; exact rfl; exact has194; exact seasonR_c _ _; skip) | (apply OpTo_val; exact rfl; exact has195; exact compR_c _ _; skip))) | (apply GO_cond; exact rfl; all_goals intro hc; all_goals try simp only [hcS, reduceCtorEq] at hc; all_goals try (exfalso; omega)) | (apply GOl_split; exact rfl; exact rfl; all_goals intro hc; all_goals try simp only [hcS, reduceCtorEq] at hc; all_goals try (exfalso; omega)))
    all_goals (first | (apply GO_retV1; (iterate 3 exact rfl)))
    all_goals (clear hx; refine dec_ofV ?_; unfold LotOk; grind)
end Go.Hw
/-
  The reference's facts: ruling, content, only, Same, Check, walked.
-/
set_option linter.unusedVariables false
set_option linter.unusedSimpArgs false
set_option maxRecDepth 100000
set_option maxHeartbeats 4000000
namespace Go.Hw
open Go
attribute [local irreducible] GO GOl GDp Val Fn Res CellsAt ValE Blk OwnS MapA OwnPf Has
open Go.Proofs (Tryz.prog)
open Classical in
theorem rulR1_c (h : Ro) (r : FRul) (e : r.kind = 1) : Val Tryz.prog 137 #[rulV r] h (.bool (decide (RulOk r))) := by
  refine Val_intro (args := [_]) ts_ok Go.Proofs.Tryz.func137 rfl rfl fun w0 X0 => ?_
  have ho : onlyR r = { baseR r with g := r.g, club := r.club } := by simp [onlyR, baseR, rul0, e]
  have hg := RulGood.eq_1 r
  rw [e] at hg
  repeat' (first | apply GO_seq | apply GO_skip | apply GO_inBlock | apply GO_block | apply GO_region | apply GOl_nil | (apply GOl_unwanted; exact rfl; exact rfl) | (apply GOl_pv; (iterate 3 exact rfl)) | (apply GOl_load; exact rfl; exact Ld_blk rfl (by (repeat (first|exact List.Mem.head _|apply List.Mem.tail));done) rfl; exact rfl; exact rfl) | (apply GOl_ov; exact rfl; exact rfl; (first | (apply OV_eqlS; exact rfl; exact rfl; exact rul_eq { baseR r with g := r.g, club := r.club } r; kernel_rfl; kernel_rfl)); exact (by repeat' (first|exact trivial|apply And.intro|exact List.Mem.head _|apply List.Mem.tail))) | (apply GOl_to; (iterate 3 exact rfl); (first | (apply OpTo_store; (iterate 3 exact rfl); exact (by (repeat (first|exact Repl.here|apply Repl.there));done); (iterate 3 exact rfl); skip) | (apply OpTo_box; exact rfl; intro b; skip) | (apply OpTo_alloc; exact rfl; intro b; skip) | (apply OpTo_val; exact rfl; exact has135; exact validR7_c _ r.g; skip) | (apply OpTo_val; exact rfl; exact has133; exact inR_c _ _ _ _; skip))) | (apply GO_cond; exact rfl; all_goals intro hc; all_goals try simp only [hcS, reduceCtorEq] at hc; all_goals try (exfalso; omega)) | (apply GOl_split; exact rfl; exact rfl; all_goals intro hc; all_goals try simp only [hcS, reduceCtorEq] at hc; all_goals try (exfalso; omega)))
  all_goals (first | (apply GO_retV1; (iterate 3 exact rfl)))
  all_goals (refine dec_ofV ?_; unfold RulOk; rw [ho, hg]; clear ho hg; (try simp only [eqI_t, leI_t]); unfold Bel at *; grind)
open Classical in
theorem rulR2_c (h : Ro) (r : FRul) (e : r.kind = 2) : Val Tryz.prog 137 #[rulV r] h (.bool (decide (RulOk r))) := by
  refine Val_intro (args := [_]) ts_ok Go.Proofs.Tryz.func137 rfl rfl fun w0 X0 => ?_
  have ho : onlyR r = { baseR r with g := r.g } := by simp [onlyR, baseR, rul0, e]
  have hg := RulGood.eq_1 r
  rw [e] at hg
  repeat' (first | apply GO_seq | apply GO_skip | apply GO_inBlock | apply GO_block | apply GO_region | apply GOl_nil | (apply GOl_unwanted; exact rfl; exact rfl) | (apply GOl_pv; (iterate 3 exact rfl)) | (apply GOl_load; exact rfl; exact Ld_blk rfl (by (repeat (first|exact List.Mem.head _|apply List.Mem.tail));done) rfl; exact rfl; exact rfl) | (apply GOl_ov; exact rfl; exact rfl; (first | (apply OV_eqlS; exact rfl; exact rfl; exact rul_eq { baseR r with g := r.g } r; kernel_rfl; kernel_rfl)); exact (by repeat' (first|exact trivial|apply And.intro|exact List.Mem.head _|apply List.Mem.tail))) | (apply GOl_to; (iterate 3 exact rfl); (first | (apply OpTo_store; (iterate 3 exact rfl); exact (by (repeat (first|exact Repl.here|apply Repl.there));done); (iterate 3 exact rfl); skip) | (apply OpTo_box; exact rfl; intro b; skip) | (apply OpTo_alloc; exact rfl; intro b; skip) | (apply OpTo_val; exact rfl; exact has135; exact validR7_c _ r.g; skip) | (apply OpTo_val; exact rfl; exact has133; exact inR_c _ _ _ _; skip))) | (apply GO_cond; exact rfl; all_goals intro hc; all_goals try simp only [hcS, reduceCtorEq] at hc; all_goals try (exfalso; omega)) | (apply GOl_split; exact rfl; exact rfl; all_goals intro hc; all_goals try simp only [hcS, reduceCtorEq] at hc; all_goals try (exfalso; omega)))
  all_goals (first | (apply GO_retV1; (iterate 3 exact rfl)))
  all_goals (refine dec_ofV ?_; unfold RulOk; rw [ho, hg]; clear ho hg; (try simp only [eqI_t, leI_t]); unfold Bel at *; grind)
open Classical in
theorem rulR3_c (h : Ro) (r : FRul) (e : r.kind = 3) : Val Tryz.prog 137 #[rulV r] h (.bool (decide (RulOk r))) := by
  refine Val_intro (args := [_]) ts_ok Go.Proofs.Tryz.func137 rfl rfl fun w0 X0 => ?_
  have ho : onlyR r = { baseR r with g := r.g, hg := r.hg, ag := r.ag } := by simp [onlyR, baseR, rul0, e]
  have hg := RulGood.eq_1 r
  rw [e] at hg
  repeat' (first | apply GO_seq | apply GO_skip | apply GO_inBlock | apply GO_block | apply GO_region | apply GOl_nil | (apply GOl_unwanted; exact rfl; exact rfl) | (apply GOl_pv; (iterate 3 exact rfl)) | (apply GOl_load; exact rfl; exact Ld_blk rfl (by (repeat (first|exact List.Mem.head _|apply List.Mem.tail));done) rfl; exact rfl; exact rfl) | (apply GOl_ov; exact rfl; exact rfl; (first | (apply OV_eqlS; exact rfl; exact rfl; exact rul_eq { baseR r with g := r.g, hg := r.hg, ag := r.ag } r; kernel_rfl; kernel_rfl)); exact (by repeat' (first|exact trivial|apply And.intro|exact List.Mem.head _|apply List.Mem.tail))) | (apply GOl_to; (iterate 3 exact rfl); (first | (apply OpTo_store; (iterate 3 exact rfl); exact (by (repeat (first|exact Repl.here|apply Repl.there));done); (iterate 3 exact rfl); skip) | (apply OpTo_box; exact rfl; intro b; skip) | (apply OpTo_alloc; exact rfl; intro b; skip) | (apply OpTo_val; exact rfl; exact has135; exact validR7_c _ r.g; skip) | (apply OpTo_val; exact rfl; exact has133; exact inR_c _ _ _ _; skip) | (apply OpTo_val; exact rfl; exact has201; exact goalsR_c _ _; skip))) | (apply GO_cond; exact rfl; all_goals intro hc; all_goals try simp only [hcS, reduceCtorEq] at hc; all_goals try (exfalso; omega)) | (apply GOl_split; exact rfl; exact rfl; all_goals intro hc; all_goals try simp only [hcS, reduceCtorEq] at hc; all_goals try (exfalso; omega)))
  all_goals (first | (apply GO_retV1; (iterate 3 exact rfl)))
  all_goals (refine dec_ofV ?_; unfold RulOk; rw [ho, hg]; clear ho hg; (try simp only [eqI_t, leI_t]); unfold Bel at *; grind)
open Classical in
theorem rulR4_c (h : Ro) (r : FRul) (e : r.kind = 4) : Val Tryz.prog 137 #[rulV r] h (.bool (decide (RulOk r))) := by
  refine Val_intro (args := [_]) ts_ok Go.Proofs.Tryz.func137 rfl rfl fun w0 X0 => ?_
  have ho : onlyR r = { baseR r with club := r.club, season := r.season, comp := r.comp, points := r.points } := by simp [onlyR, baseR, rul0, e]
  have hg := RulGood.eq_1 r
  rw [e] at hg
  repeat' (first | apply GO_seq | apply GO_skip | apply GO_inBlock | apply GO_block | apply GO_region | apply GOl_nil | (apply GOl_unwanted; exact rfl; exact rfl) | (apply GOl_pv; (iterate 3 exact rfl)) | (apply GOl_load; exact rfl; exact Ld_blk rfl (by (repeat (first|exact List.Mem.head _|apply List.Mem.tail));done) rfl; exact rfl; exact rfl) | (apply GOl_ov; exact rfl; exact rfl; (first | (apply OV_eqlS; exact rfl; exact rfl; exact rul_eq { baseR r with club := r.club, season := r.season, comp := r.comp, points := r.points } r; kernel_rfl; kernel_rfl)); exact (by repeat' (first|exact trivial|apply And.intro|exact List.Mem.head _|apply List.Mem.tail))) | (apply GOl_to; (iterate 3 exact rfl); (first | (apply OpTo_store; (iterate 3 exact rfl); exact (by (repeat (first|exact Repl.here|apply Repl.there));done); (iterate 3 exact rfl); skip) | (apply OpTo_box; exact rfl; intro b; skip) | (apply OpTo_alloc; exact rfl; intro b; skip) | (apply OpTo_val; exact rfl; exact has133; exact inR_c _ _ _ _; skip) | (apply OpTo_val; exact rfl; exact has200; exact clubR_c _ _; skip) | (apply OpTo_val; exact rfl; exact has194; exact seasonR_c _ _; skip) | (apply OpTo_val; exact rfl; exact has195; exact compR_c _ _; skip))) | (apply GO_cond; exact rfl; all_goals intro hc; all_goals try simp only [hcS, reduceCtorEq] at hc; all_goals try (exfalso; omega)) | (apply GOl_split; exact rfl; exact rfl; all_goals intro hc; all_goals try simp only [hcS, reduceCtorEq] at hc; all_goals try (exfalso; omega)))
  all_goals (first | (apply GO_retV1; (iterate 3 exact rfl)))
  all_goals (refine dec_ofV ?_; unfold RulOk; rw [ho, hg]; clear ho hg; (try simp only [eqI_t, leI_t]); unfold Bel at *; grind)
open Classical in
theorem rulR5_c (h : Ro) (r : FRul) (e : r.kind = 5) : Val Tryz.prog 137 #[rulV r] h (.bool (decide (RulOk r))) := by
  refine Val_intro (args := [_]) ts_ok Go.Proofs.Tryz.func137 rfl rfl fun w0 X0 => ?_
  have ho : onlyR r = { baseR r with club := r.club, lo := r.lo, hi := r.hi } := by simp [onlyR, baseR, rul0, e]
  have hg := RulGood.eq_1 r
  rw [e] at hg
  repeat' (first | apply GO_seq | apply GO_skip | apply GO_inBlock | apply GO_block | apply GO_region | apply GOl_nil | (apply GOl_unwanted; exact rfl; exact rfl) | (apply GOl_pv; (iterate 3 exact rfl)) | (apply GOl_load; exact rfl; exact Ld_blk rfl (by (repeat (first|exact List.Mem.head _|apply List.Mem.tail));done) rfl; exact rfl; exact rfl) | (apply GOl_ov; exact rfl; exact rfl; (first | (apply OV_eqlS; exact rfl; exact rfl; exact rul_eq { baseR r with club := r.club, lo := r.lo, hi := r.hi } r; kernel_rfl; kernel_rfl)); exact (by repeat' (first|exact trivial|apply And.intro|exact List.Mem.head _|apply List.Mem.tail))) | (apply GOl_to; (iterate 3 exact rfl); (first | (apply OpTo_store; (iterate 3 exact rfl); exact (by (repeat (first|exact Repl.here|apply Repl.there));done); (iterate 3 exact rfl); skip) | (apply OpTo_box; exact rfl; intro b; skip) | (apply OpTo_alloc; exact rfl; intro b; skip) | (apply OpTo_val; exact rfl; exact has205; exact daysR_c _ r.lo r.hi; skip) | (apply OpTo_val; exact rfl; exact has133; exact inR_c _ _ _ _; skip) | (apply OpTo_val; exact rfl; exact has200; exact clubR_c _ _; skip))) | (apply GO_cond; exact rfl; all_goals intro hc; all_goals try simp only [hcS, reduceCtorEq] at hc; all_goals try (exfalso; omega)) | (apply GOl_split; exact rfl; exact rfl; all_goals intro hc; all_goals try simp only [hcS, reduceCtorEq] at hc; all_goals try (exfalso; omega)))
  all_goals (first | (apply GO_retV1; (iterate 3 exact rfl)))
  all_goals (refine dec_ofV ?_; unfold RulOk; rw [ho, hg]; clear ho hg; (try simp only [eqI_t, leI_t]); unfold Bel at *; grind)
open Classical in
theorem rulR6_c (h : Ro) (r : FRul) (e : r.kind = 6) : Val Tryz.prog 137 #[rulV r] h (.bool (decide (RulOk r))) := by
  refine Val_intro (args := [_]) ts_ok Go.Proofs.Tryz.func137 rfl rfl fun w0 X0 => ?_
  have ho : onlyR r = { baseR r with player := r.player, lo := r.lo, hi := r.hi } := by simp [onlyR, baseR, rul0, e]
  have hg := RulGood.eq_1 r
  rw [e] at hg
  repeat' (first | apply GO_seq | apply GO_skip | apply GO_inBlock | apply GO_block | apply GO_region | apply GOl_nil | (apply GOl_unwanted; exact rfl; exact rfl) | (apply GOl_pv; (iterate 3 exact rfl)) | (apply GOl_load; exact rfl; exact Ld_blk rfl (by (repeat (first|exact List.Mem.head _|apply List.Mem.tail));done) rfl; exact rfl; exact rfl) | (apply GOl_ov; exact rfl; exact rfl; (first | (apply OV_eqlS; exact rfl; exact rfl; exact rul_eq { baseR r with player := r.player, lo := r.lo, hi := r.hi } r; kernel_rfl; kernel_rfl)); exact (by repeat' (first|exact trivial|apply And.intro|exact List.Mem.head _|apply List.Mem.tail))) | (apply GOl_to; (iterate 3 exact rfl); (first | (apply OpTo_store; (iterate 3 exact rfl); exact (by (repeat (first|exact Repl.here|apply Repl.there));done); (iterate 3 exact rfl); skip) | (apply OpTo_box; exact rfl; intro b; skip) | (apply OpTo_alloc; exact rfl; intro b; skip) | (apply OpTo_val; exact rfl; exact has205; exact daysR_c _ r.lo r.hi; skip) | (apply OpTo_val; exact rfl; exact has133; exact inR_c _ _ _ _; skip) | (apply OpTo_val; exact rfl; exact has138; exact playerR_c _ _; skip))) | (apply GO_cond; exact rfl; all_goals intro hc; all_goals try simp only [hcS, reduceCtorEq] at hc; all_goals try (exfalso; omega)) | (apply GOl_split; exact rfl; exact rfl; all_goals intro hc; all_goals try simp only [hcS, reduceCtorEq] at hc; all_goals try (exfalso; omega)))
  all_goals (first | (apply GO_retV1; (iterate 3 exact rfl)))
  all_goals (refine dec_ofV ?_; unfold RulOk; rw [ho, hg]; clear ho hg; (try simp only [eqI_t, leI_t]); unfold Bel at *; grind)
open Classical in
theorem rulR7_c (h : Ro) (r : FRul) (e : r.kind = 7) : Val Tryz.prog 137 #[rulV r] h (.bool (decide (RulOk r))) := by
  refine Val_intro (args := [_]) ts_ok Go.Proofs.Tryz.func137 rfl rfl fun w0 X0 => ?_
  have ho : onlyR r = { baseR r with club := r.club, amount := r.amount } := by simp [onlyR, baseR, rul0, e]
  have hg := RulGood.eq_1 r
  rw [e] at hg
  repeat' (first | apply GO_seq | apply GO_skip | apply GO_inBlock | apply GO_block | apply GO_region | apply GOl_nil | (apply GOl_unwanted; exact rfl; exact rfl) | (apply GOl_pv; (iterate 3 exact rfl)) | (apply GOl_load; exact rfl; exact Ld_blk rfl (by (repeat (first|exact List.Mem.head _|apply List.Mem.tail));done) rfl; exact rfl; exact rfl) | (apply GOl_ov; exact rfl; exact rfl; (first | (apply OV_eqlS; exact rfl; exact rfl; exact rul_eq { baseR r with club := r.club, amount := r.amount } r; kernel_rfl; kernel_rfl)); exact (by repeat' (first|exact trivial|apply And.intro|exact List.Mem.head _|apply List.Mem.tail))) | (apply GOl_to; (iterate 3 exact rfl); (first | (apply OpTo_store; (iterate 3 exact rfl); exact (by (repeat (first|exact Repl.here|apply Repl.there));done); (iterate 3 exact rfl); skip) | (apply OpTo_box; exact rfl; intro b; skip) | (apply OpTo_alloc; exact rfl; intro b; skip) | (apply OpTo_val; exact rfl; exact has133; exact inR_c _ _ _ _; skip) | (apply OpTo_val; exact rfl; exact has200; exact clubR_c _ _; skip))) | (apply GO_cond; exact rfl; all_goals intro hc; all_goals try simp only [hcS, reduceCtorEq] at hc; all_goals try (exfalso; omega)) | (apply GOl_split; exact rfl; exact rfl; all_goals intro hc; all_goals try simp only [hcS, reduceCtorEq] at hc; all_goals try (exfalso; omega)))
  all_goals (first | (apply GO_retV1; (iterate 3 exact rfl)))
  all_goals (refine dec_ofV ?_; unfold RulOk; rw [ho, hg]; clear ho hg; (try simp only [eqI_t, leI_t]); unfold Bel at *; grind)
open Classical in
theorem rulR8_c (h : Ro) (r : FRul) (e : r.kind = 8) : Val Tryz.prog 137 #[rulV r] h (.bool (decide (RulOk r))) := by
  refine Val_intro (args := [_]) ts_ok Go.Proofs.Tryz.func137 rfl rfl fun w0 X0 => ?_
  have ho : onlyR r = (baseR r) := by simp [onlyR, baseR, rul0, e]
  have hg := RulGood.eq_1 r
  rw [e] at hg
  repeat' (first | apply GO_seq | apply GO_skip | apply GO_inBlock | apply GO_block | apply GO_region | apply GOl_nil | (apply GOl_unwanted; exact rfl; exact rfl) | (apply GOl_pv; (iterate 3 exact rfl)) | (apply GOl_load; exact rfl; exact Ld_blk rfl (by (repeat (first|exact List.Mem.head _|apply List.Mem.tail));done) rfl; exact rfl; exact rfl) | (apply GOl_ov; exact rfl; exact rfl; (first | (apply OV_eqlS; exact rfl; exact rfl; exact rul_eq (baseR r) r; kernel_rfl; kernel_rfl)); exact (by repeat' (first|exact trivial|apply And.intro|exact List.Mem.head _|apply List.Mem.tail))) | (apply GOl_to; (iterate 3 exact rfl); (first | (apply OpTo_store; (iterate 3 exact rfl); exact (by (repeat (first|exact Repl.here|apply Repl.there));done); (iterate 3 exact rfl); skip) | (apply OpTo_box; exact rfl; intro b; skip) | (apply OpTo_alloc; exact rfl; intro b; skip) | (apply OpTo_val; exact rfl; exact has133; exact inR_c _ _ _ _; skip))) | (apply GO_cond; exact rfl; all_goals intro hc; all_goals try simp only [hcS, reduceCtorEq] at hc; all_goals try (exfalso; omega)) | (apply GOl_split; exact rfl; exact rfl; all_goals intro hc; all_goals try simp only [hcS, reduceCtorEq] at hc; all_goals try (exfalso; omega)))
  all_goals (first | (apply GO_retV1; (iterate 3 exact rfl)))
  all_goals (refine dec_ofV ?_; unfold RulOk; rw [ho, hg]; clear ho hg; (try simp only [eqI_t, leI_t]); unfold Bel at *; grind)
open Classical in
theorem rulRn_c (h : Ro) (r : FRul) (hk : ¬ (1 ≤ r.kind ∧ r.kind ≤ 8)) : Val Tryz.prog 137 #[rulV r] h (.bool (decide (RulOk r))) := by
  refine Val_intro (args := [_]) ts_ok Go.Proofs.Tryz.func137 rfl rfl fun w0 X0 => ?_
  have hg := (rul_none r 0 0 hk).2
  repeat' (first | apply GO_seq | apply GO_skip | apply GO_inBlock | apply GO_block | apply GO_region | apply GOl_nil | (apply GOl_unwanted; exact rfl; exact rfl) | (apply GOl_pv; (iterate 3 exact rfl)) | (apply GOl_load; exact rfl; exact Ld_blk rfl (by (repeat (first|exact List.Mem.head _|apply List.Mem.tail));done) rfl; exact rfl; exact rfl) | (apply GOl_to; (iterate 3 exact rfl); (first | (apply OpTo_store; (iterate 3 exact rfl); exact (by (repeat (first|exact Repl.here|apply Repl.there));done); (iterate 3 exact rfl); skip) | (apply OpTo_box; exact rfl; intro b; skip) | (apply OpTo_alloc; exact rfl; intro b; skip) | (apply OpTo_val; exact rfl; exact has133; exact inR_c _ _ _ _; skip))) | (apply GO_cond; exact rfl; all_goals intro hc; all_goals try simp only [hcS, reduceCtorEq] at hc; all_goals try (exfalso; omega)) | (apply GOl_split; exact rfl; exact rfl; all_goals intro hc; all_goals try simp only [hcS, reduceCtorEq] at hc; all_goals try (exfalso; omega)))
  all_goals (first | (apply GO_retV1; (iterate 3 exact rfl)))
  all_goals (rw [decide_eq_false]; exact fun hh => hg hh.2.2.2.2.1)
open Classical in
theorem rulingR_c (h : Ro) (r : FRul) : Val Tryz.prog 137 #[rulV r] h (.bool (decide (RulOk r))) := by
  by_cases hk : 1 ≤ r.kind ∧ r.kind ≤ 8
  · have : r.kind = 1 ∨ r.kind = 2 ∨ r.kind = 3 ∨ r.kind = 4 ∨ r.kind = 5 ∨ r.kind = 6 ∨ r.kind = 7 ∨ r.kind = 8 := by omega
    rcases this with e | e | e | e | e | e | e | e
    · exact rulR1_c h r e
    · exact rulR2_c h r e
    · exact rulR3_c h r e
    · exact rulR4_c h r e
    · exact rulR5_c h r e
    · exact rulR6_c h r e
    · exact rulR7_c h r e
    · exact rulR8_c h r e
  · exact rulRn_c h r hk
open Classical in
theorem contentR_c (h : Ro) (s : Fsh) (f : Fct) (hf : FAt h s f) (hs : FSm f) : Val Tryz.prog 101 #[factV s f] h (.bool (decide (ContOk f))) := by
  refine Val_intro (args := [_]) ts_ok Go.Proofs.Tryz.func101 rfl rfl fun w0 X0 => ?_
  obtain ⟨q1, q2, q3⟩ := hf.smallN hs
  have hcap := hf.lc
  have hg := ContOk.eq_1 f
  repeat' (first | apply GO_seq | apply GO_skip | apply GO_inBlock | apply GO_block | apply GO_region | apply GOl_nil | (apply GOl_unwanted; exact rfl; exact rfl) | (apply GOl_pv; (iterate 3 exact rfl)) | (apply GOl_load; exact rfl; exact Ld_blk rfl (by (repeat (first|exact List.Mem.head _|apply List.Mem.tail));done) rfl; exact rfl; exact rfl) | (apply GOl_to; (iterate 3 exact rfl); (first | (apply OpTo_box; exact rfl; intro b; skip) | (apply OpTo_val; exact rfl; exact has135; exact validR7_c _ f.fg; skip) | (apply OpTo_val; exact rfl; exact has134; exact entrantsR_c _ s f hf.cl q1 q3; skip) | (apply OpTo_val; exact rfl; exact has136; exact sheetR_c _ s f.sh hf.sh hs.1; skip) | (apply OpTo_val; exact rfl; exact has137; exact rulingR_c _ f.ru; skip) | (apply OpTo_val; exact rfl; exact has139; exact lotR_c _ s f hf.lo q2 hcap; skip) | (apply OpTo_val; exact rfl; exact has133; exact inR_c _ _ _ _; skip) | (apply OpTo_val; exact rfl; exact has138; exact playerR_c _ _; skip))) | (apply GO_cond; exact rfl; all_goals intro hc; all_goals try simp only [hcS, reduceCtorEq] at hc; all_goals try (exfalso; omega)) | (apply GOl_split; exact rfl; exact rfl; all_goals intro hc; all_goals try simp only [hcS, reduceCtorEq] at hc; all_goals try (exfalso; omega)))
  all_goals (first | (apply GO_retV1; (iterate 3 exact rfl)))
  all_goals (clear hf hs; refine dec_ofV ?_; rw [hg]; clear hg; (try simp only [eqI_t]); unfold Bel at *; grind)
theorem onlyR1_c (h : Ro) (s : Fsh) (f : Fct) (e : f.kind = 1) : Val Tryz.prog 102 #[factV s f] h (factV { fsh0 with cl := s.cl } { baseF f with eS := f.eS, eC := f.eC, eClubs := f.eClubs, eRules := f.eRules }) := by
  refine Val_intro (args := [_]) ts_ok Go.Proofs.Tryz.func102 rfl rfl fun w0 X0 => ?_
  repeat' (first | apply GO_seq | apply GO_inBlock | apply GO_block | apply GO_region | apply GOl_nil | (apply GOl_pv; (iterate 3 exact rfl)) | (apply GOl_load; exact rfl; exact Ld_blk rfl (by (repeat (first|exact List.Mem.head _|apply List.Mem.tail));done) rfl; exact rfl; exact rfl) | (apply GOl_to; (iterate 3 exact rfl); (first | (apply OpTo_store; (iterate 3 exact rfl); exact (by (repeat (first|exact Repl.here|apply Repl.there));done); (iterate 3 exact rfl); skip) | (apply OpTo_box; exact rfl; intro b; skip) | (apply OpTo_alloc; exact rfl; intro b; skip))) | (apply GO_cond; exact rfl; all_goals intro hc; all_goals try simp only [hcS, reduceCtorEq] at hc; all_goals try (exfalso; omega)))
  exact GO_retC1 rfl rfl rfl (by (repeat (first|exact List.Mem.head _|apply List.Mem.tail));done) rfl rfl rfl
theorem onlyR2_c (h : Ro) (s : Fsh) (f : Fct) (e : f.kind = 2) : Val Tryz.prog 102 #[factV s f] h (factV fsh0 { baseF f with fg := f.fg, venue := f.venue }) := by
  refine Val_intro (args := [_]) ts_ok Go.Proofs.Tryz.func102 rfl rfl fun w0 X0 => ?_
  repeat' (first | apply GO_seq | apply GO_inBlock | apply GO_block | apply GO_region | apply GOl_nil | (apply GOl_pv; (iterate 3 exact rfl)) | (apply GOl_load; exact rfl; exact Ld_blk rfl (by (repeat (first|exact List.Mem.head _|apply List.Mem.tail));done) rfl; exact rfl; exact rfl) | (apply GOl_to; (iterate 3 exact rfl); (first | (apply OpTo_store; (iterate 3 exact rfl); exact (by (repeat (first|exact Repl.here|apply Repl.there));done); (iterate 3 exact rfl); skip) | (apply OpTo_box; exact rfl; intro b; skip) | (apply OpTo_alloc; exact rfl; intro b; skip))) | (apply GO_cond; exact rfl; all_goals intro hc; all_goals try simp only [hcS, reduceCtorEq] at hc; all_goals try (exfalso; omega)))
  exact GO_retC1 rfl rfl rfl (by (repeat (first|exact List.Mem.head _|apply List.Mem.tail));done) rfl rfl rfl
theorem onlyR3_c (h : Ro) (s : Fsh) (f : Fct) (e : f.kind = 3) : Val Tryz.prog 102 #[factV s f] h (factV { fsh0 with hs := s.hs, asn := s.asn, hc := s.hc, ac := s.ac } { baseF f with sh := f.sh }) := by
  refine Val_intro (args := [_]) ts_ok Go.Proofs.Tryz.func102 rfl rfl fun w0 X0 => ?_
  repeat' (first | apply GO_seq | apply GO_inBlock | apply GO_block | apply GO_region | apply GOl_nil | (apply GOl_pv; (iterate 3 exact rfl)) | (apply GOl_load; exact rfl; exact Ld_blk rfl (by (repeat (first|exact List.Mem.head _|apply List.Mem.tail));done) rfl; exact rfl; exact rfl) | (apply GOl_to; (iterate 3 exact rfl); (first | (apply OpTo_store; (iterate 3 exact rfl); exact (by (repeat (first|exact Repl.here|apply Repl.there));done); (iterate 3 exact rfl); skip) | (apply OpTo_box; exact rfl; intro b; skip) | (apply OpTo_alloc; exact rfl; intro b; skip))) | (apply GO_cond; exact rfl; all_goals intro hc; all_goals try simp only [hcS, reduceCtorEq] at hc; all_goals try (exfalso; omega)))
  exact GO_retC1 rfl rfl rfl (by (repeat (first|exact List.Mem.head _|apply List.Mem.tail));done) rfl rfl rfl
theorem onlyR4_c (h : Ro) (s : Fsh) (f : Fct) (e : f.kind = 4) : Val Tryz.prog 102 #[factV s f] h (factV fsh0 { baseF f with ru := f.ru }) := by
  refine Val_intro (args := [_]) ts_ok Go.Proofs.Tryz.func102 rfl rfl fun w0 X0 => ?_
  repeat' (first | apply GO_seq | apply GO_inBlock | apply GO_block | apply GO_region | apply GOl_nil | (apply GOl_pv; (iterate 3 exact rfl)) | (apply GOl_load; exact rfl; exact Ld_blk rfl (by (repeat (first|exact List.Mem.head _|apply List.Mem.tail));done) rfl; exact rfl; exact rfl) | (apply GOl_to; (iterate 3 exact rfl); (first | (apply OpTo_store; (iterate 3 exact rfl); exact (by (repeat (first|exact Repl.here|apply Repl.there));done); (iterate 3 exact rfl); skip) | (apply OpTo_box; exact rfl; intro b; skip) | (apply OpTo_alloc; exact rfl; intro b; skip))) | (apply GO_cond; exact rfl; all_goals intro hc; all_goals try simp only [hcS, reduceCtorEq] at hc; all_goals try (exfalso; omega)))
  exact GO_retC1 rfl rfl rfl (by (repeat (first|exact List.Mem.head _|apply List.Mem.tail));done) rfl rfl rfl
theorem onlyR5_c (h : Ro) (s : Fsh) (f : Fct) (e : f.kind = 5) : Val Tryz.prog 102 #[factV s f] h (factV fsh0 { baseF f with aCase := f.aCase, aInst := f.aInst, aSusp := f.aSusp }) := by
  refine Val_intro (args := [_]) ts_ok Go.Proofs.Tryz.func102 rfl rfl fun w0 X0 => ?_
  repeat' (first | apply GO_seq | apply GO_inBlock | apply GO_block | apply GO_region | apply GOl_nil | (apply GOl_pv; (iterate 3 exact rfl)) | (apply GOl_load; exact rfl; exact Ld_blk rfl (by (repeat (first|exact List.Mem.head _|apply List.Mem.tail));done) rfl; exact rfl; exact rfl) | (apply GOl_to; (iterate 3 exact rfl); (first | (apply OpTo_store; (iterate 3 exact rfl); exact (by (repeat (first|exact Repl.here|apply Repl.there));done); (iterate 3 exact rfl); skip) | (apply OpTo_box; exact rfl; intro b; skip) | (apply OpTo_alloc; exact rfl; intro b; skip))) | (apply GO_cond; exact rfl; all_goals intro hc; all_goals try simp only [hcS, reduceCtorEq] at hc; all_goals try (exfalso; omega)))
  exact GO_retC1 rfl rfl rfl (by (repeat (first|exact List.Mem.head _|apply List.Mem.tail));done) rfl rfl rfl
theorem onlyR6_c (h : Ro) (s : Fsh) (f : Fct) (e : f.kind = 6) : Val Tryz.prog 102 #[factV s f] h (factV fsh0 { baseF f with mP := f.mP, mTo := f.mTo }) := by
  refine Val_intro (args := [_]) ts_ok Go.Proofs.Tryz.func102 rfl rfl fun w0 X0 => ?_
  repeat' (first | apply GO_seq | apply GO_inBlock | apply GO_block | apply GO_region | apply GOl_nil | (apply GOl_pv; (iterate 3 exact rfl)) | (apply GOl_load; exact rfl; exact Ld_blk rfl (by (repeat (first|exact List.Mem.head _|apply List.Mem.tail));done) rfl; exact rfl; exact rfl) | (apply GOl_to; (iterate 3 exact rfl); (first | (apply OpTo_store; (iterate 3 exact rfl); exact (by (repeat (first|exact Repl.here|apply Repl.there));done); (iterate 3 exact rfl); skip) | (apply OpTo_box; exact rfl; intro b; skip) | (apply OpTo_alloc; exact rfl; intro b; skip))) | (apply GO_cond; exact rfl; all_goals intro hc; all_goals try simp only [hcS, reduceCtorEq] at hc; all_goals try (exfalso; omega)))
  exact GO_retC1 rfl rfl rfl (by (repeat (first|exact List.Mem.head _|apply List.Mem.tail));done) rfl rfl rfl
theorem onlyR7_c (h : Ro) (s : Fsh) (f : Fct) (e : f.kind = 7) : Val Tryz.prog 102 #[factV s f] h (factV { fsh0 with lo := s.lo } { baseF f with lS := f.lS, lC := f.lC, lO := f.lO }) := by
  refine Val_intro (args := [_]) ts_ok Go.Proofs.Tryz.func102 rfl rfl fun w0 X0 => ?_
  repeat' (first | apply GO_seq | apply GO_inBlock | apply GO_block | apply GO_region | apply GOl_nil | (apply GOl_pv; (iterate 3 exact rfl)) | (apply GOl_load; exact rfl; exact Ld_blk rfl (by (repeat (first|exact List.Mem.head _|apply List.Mem.tail));done) rfl; exact rfl; exact rfl) | (apply GOl_to; (iterate 3 exact rfl); (first | (apply OpTo_store; (iterate 3 exact rfl); exact (by (repeat (first|exact Repl.here|apply Repl.there));done); (iterate 3 exact rfl); skip) | (apply OpTo_box; exact rfl; intro b; skip) | (apply OpTo_alloc; exact rfl; intro b; skip))) | (apply GO_cond; exact rfl; all_goals intro hc; all_goals try simp only [hcS, reduceCtorEq] at hc; all_goals try (exfalso; omega)))
  exact GO_retC1 rfl rfl rfl (by (repeat (first|exact List.Mem.head _|apply List.Mem.tail));done) rfl rfl rfl
theorem onlyR8_c (h : Ro) (s : Fsh) (f : Fct) (e : f.kind = 8) : Val Tryz.prog 102 #[factV s f] h (factV fsh0 { baseF f with void := f.void }) := by
  refine Val_intro (args := [_]) ts_ok Go.Proofs.Tryz.func102 rfl rfl fun w0 X0 => ?_
  repeat' (first | apply GO_seq | apply GO_inBlock | apply GO_block | apply GO_region | apply GOl_nil | (apply GOl_pv; (iterate 3 exact rfl)) | (apply GOl_load; exact rfl; exact Ld_blk rfl (by (repeat (first|exact List.Mem.head _|apply List.Mem.tail));done) rfl; exact rfl; exact rfl) | (apply GOl_to; (iterate 3 exact rfl); (first | (apply OpTo_store; (iterate 3 exact rfl); exact (by (repeat (first|exact Repl.here|apply Repl.there));done); (iterate 3 exact rfl); skip) | (apply OpTo_box; exact rfl; intro b; skip) | (apply OpTo_alloc; exact rfl; intro b; skip))) | (apply GO_cond; exact rfl; all_goals intro hc; all_goals try simp only [hcS, reduceCtorEq] at hc; all_goals try (exfalso; omega)))
  exact GO_retC1 rfl rfl rfl (by (repeat (first|exact List.Mem.head _|apply List.Mem.tail));done) rfl rfl rfl
theorem onlyR_c (s : Fsh) (f : Fct) (hs : FSm f) (hk : 1 ≤ f.kind ∧ f.kind ≤ 8) : ∃ s', ((∀ h', FAt h' s f → FAt h' s' (onlyF f)) ∧ FSm (onlyF f)) ∧ ∀ h, Val Tryz.prog 102 #[factV s f] h (factV s' (onlyF f)) := by
  have mk : ∀ {s' : Fsh} {x : Fct}, x = onlyF f → ((∀ h', FAt h' s f → FAt h' s' x) ∧ FSm x) → (∀ h, Val Tryz.prog 102 #[factV s f] h (factV s' x)) → ∃ s', ((∀ h', FAt h' s f → FAt h' s' (onlyF f)) ∧ FSm (onlyF f)) ∧ ∀ h, Val Tryz.prog 102 #[factV s f] h (factV s' (onlyF f)) := fun e a b => ⟨_, e ▸ a, e ▸ b⟩
  have : f.kind = 1 ∨ f.kind = 2 ∨ f.kind = 3 ∨ f.kind = 4 ∨ f.kind = 5 ∨ f.kind = 6 ∨ f.kind = 7 ∨ f.kind = 8 := by omega
  rcases this with e | e | e | e | e | e | e | e
  · exact mk (s' := { fsh0 with cl := s.cl }) (x := { baseF f with eS := f.eS, eC := f.eC, eClubs := f.eClubs, eRules := f.eRules }) (by simp [onlyF, baseF, fct0, e]) (⟨fun h' a => ⟨⟨SlOf.nil, SlOf.nil, SlOf.nil, SlOf.nil⟩, a.cl, SlOf.nil, rfl, Nat.le_refl _⟩, shSm0, hs.2.1, by simp [baseF, fct0], hs.2.2.2⟩) (fun h => onlyR1_c h s f e)
  · exact mk (s' := fsh0) (x := { baseF f with fg := f.fg, venue := f.venue }) (by simp [onlyF, baseF, fct0, e]) (⟨fun h' a => ⟨ShAt.nil h', SlOf.nil, SlOf.nil, rfl, Nat.le_refl _⟩, shSm0, by simp [baseF, fct0], by simp [baseF, fct0], by simp [baseF, fct0]⟩) (fun h => onlyR2_c h s f e)
  · exact mk (s' := { fsh0 with hs := s.hs, asn := s.asn, hc := s.hc, ac := s.ac }) (x := { baseF f with sh := f.sh }) (by simp [onlyF, baseF, fct0, e]) (⟨fun h' a => ⟨⟨a.sh.hs, a.sh.asn, a.sh.hc, a.sh.ac⟩, SlOf.nil, SlOf.nil, rfl, Nat.le_refl _⟩, hs.1, by simp [baseF, fct0], by simp [baseF, fct0], by simp [baseF, fct0]⟩) (fun h => onlyR3_c h s f e)
  · exact mk (s' := fsh0) (x := { baseF f with ru := f.ru }) (by simp [onlyF, baseF, fct0, e]) (⟨fun h' a => ⟨ShAt.nil h', SlOf.nil, SlOf.nil, rfl, Nat.le_refl _⟩, shSm0, by simp [baseF, fct0], by simp [baseF, fct0], by simp [baseF, fct0]⟩) (fun h => onlyR4_c h s f e)
  · exact mk (s' := fsh0) (x := { baseF f with aCase := f.aCase, aInst := f.aInst, aSusp := f.aSusp }) (by simp [onlyF, baseF, fct0, e]) (⟨fun h' a => ⟨ShAt.nil h', SlOf.nil, SlOf.nil, rfl, Nat.le_refl _⟩, shSm0, by simp [baseF, fct0], by simp [baseF, fct0], by simp [baseF, fct0]⟩) (fun h => onlyR5_c h s f e)
  · exact mk (s' := fsh0) (x := { baseF f with mP := f.mP, mTo := f.mTo }) (by simp [onlyF, baseF, fct0, e]) (⟨fun h' a => ⟨ShAt.nil h', SlOf.nil, SlOf.nil, rfl, Nat.le_refl _⟩, shSm0, by simp [baseF, fct0], by simp [baseF, fct0], by simp [baseF, fct0]⟩) (fun h => onlyR6_c h s f e)
  · exact mk (s' := { fsh0 with lo := s.lo }) (x := { baseF f with lS := f.lS, lC := f.lC, lO := f.lO }) (by simp [onlyF, baseF, fct0, e]) (⟨fun h' a => ⟨⟨SlOf.nil, SlOf.nil, SlOf.nil, SlOf.nil⟩, SlOf.nil, a.lo, rfl, a.lc⟩, shSm0, by simp [baseF, fct0], hs.2.2.1, by simp [baseF, fct0]⟩) (fun h => onlyR7_c h s f e)
  · exact mk (s' := fsh0) (x := { baseF f with void := f.void }) (by simp [onlyF, baseF, fct0, e]) (⟨fun h' a => ⟨ShAt.nil h', SlOf.nil, SlOf.nil, a.void, Nat.le_refl _⟩, shSm0, by simp [baseF, fct0], by simp [baseF, fct0], by simp [baseF, fct0]⟩) (fun h => onlyR8_c h s f e)
open Classical in
theorem checkR_c (h : Ro) (s : Fsh) (f : Fct) (hf : FAt h s f) (hs : FSm f) : Val Tryz.prog 75 #[factV s f] h (.int .i64 (if FctOk f then 0 else 70)) := by
  refine Val_intro (args := [_]) ts_ok Go.Proofs.Tryz.func75 rfl rfl fun w0 X0 => ?_
  have hco := fun h' (hle : Le h h') => contentR_c h' s f (hf.le hle) hs
  by_cases hk : 1 ≤ f.kind ∧ f.kind ≤ 8
  · obtain ⟨s', ⟨hat, hsm⟩, hfn⟩ := onlyR_c s f hs hk
    repeat' (first | apply GO_seq | apply GO_skip | apply GO_region | apply GOl_nil | (apply GOl_pv; (iterate 3 exact rfl)) | (apply GOl_to; (iterate 3 exact rfl); (first | (apply OpTo_box; exact rfl; intro b; skip))) | (apply GO_drawp (n := 1) [0, 1, 2, 3, 4, 5, 6, 7, 8, 9, 10, 11, 12, 13, 14, 15, 16, 17, 18, 19, 20, 21] [(0, 0), (1, 0), (2, 1), (3, 0), (4, 0), (5, 0), (6, 0), (7, 1), (8, 0), (9, 0), (10, 0), (11, 0), (12, 1), (13, 0), (14, 0), (15, 0), (16, 0), (18, 0), (17, 1), (19, 1), (20, 0), (21, 0)]; kernel_rfl) | (apply GP_un; exact rfl; kernel_rfl; exact rfl; exact rfl) | (apply GP_pv; exact rfl; kernel_rfl; (iterate 3 exact rfl)) | (apply GP_loadB; exact rfl; kernel_rfl; (iterate 3 exact rfl); exact (by (repeat (first|exact List.Mem.head _|apply List.Mem.tail));done); exact rfl; exact rfl) | (apply GP_real; exact rfl; kernel_rfl; (iterate 3 exact rfl); (first | (apply OpTo_val; exact rfl; exact has101; exact hco _ (by first|exact Le.refl _|assumption|(repeat (first|assumption|(apply Le.trans;assumption)))); refine ⟨Le.refl _, by (first | exact NdOk_no rfl | (apply NdOk_all; (repeat' (first|exact trivial|apply And.intro|exact List.Mem.head _|apply List.Mem.tail)); done) | (apply NdOk_need; (repeat' (first|exact trivial|apply And.intro|exact List.Mem.head _|apply List.Mem.tail)); done)), ?_⟩) | (apply OpTo_val; exact rfl; exact has102; exact hfn _; refine ⟨Le.refl _, by (first | exact NdOk_no rfl | (apply NdOk_all; (repeat' (first|exact trivial|apply And.intro|exact List.Mem.head _|apply List.Mem.tail)); done) | (apply NdOk_need; (repeat' (first|exact trivial|apply And.intro|exact List.Mem.head _|apply List.Mem.tail)); done)), ?_⟩) | (apply OpTo_val; exact rfl; exact has88; exact sameR_c _ s' (onlyF f) (hat _ (hf.le (by first|exact Le.refl _|assumption|(repeat (first|assumption|(apply Le.trans;assumption)))))) hsm s f (hf.le (by first|exact Le.refl _|assumption|(repeat (first|assumption|(apply Le.trans;assumption))))) hs; refine ⟨Le.refl _, by (first | exact NdOk_no rfl | (apply NdOk_all; (repeat' (first|exact trivial|apply And.intro|exact List.Mem.head _|apply List.Mem.tail)); done) | (apply NdOk_need; (repeat' (first|exact trivial|apply And.intro|exact List.Mem.head _|apply List.Mem.tail)); done)), ?_⟩) | (apply OpTo_val; exact rfl; exact has100; exact dayR_c _ _; refine ⟨Le.refl _, by (first | exact NdOk_no rfl | (apply NdOk_all; (repeat' (first|exact trivial|apply And.intro|exact List.Mem.head _|apply List.Mem.tail)); done) | (apply NdOk_need; (repeat' (first|exact trivial|apply And.intro|exact List.Mem.head _|apply List.Mem.tail)); done)), ?_⟩))) | (apply GP_done; kernel_rfl; exact rfl) | (apply GP_split; (iterate 5 exact rfl); all_goals intro hc; all_goals try simp only [hcS, reduceCtorEq] at hc; all_goals try (exfalso; omega)) | (apply GO_cond; exact rfl; all_goals intro hc; all_goals try simp only [hcS, reduceCtorEq] at hc; all_goals try (exfalso; omega)) | (apply GP_un1; exact rfl; kernel_rfl; exact rfl; exact rfl))
    all_goals (first | (apply GO_retV1; (iterate 3 exact rfl)))
    all_goals (first | (rw [if_pos (show FctOk f from by unfold FctOk; grind)]; done) | (rw [if_neg (show ¬ FctOk f from by unfold FctOk; grind)]; done))
  · have hn := (fct_none f hk).2
    have hco2 : ∀ h', Le h h' → Val Tryz.prog 101 #[factV s f] h' (.bool false) := fun h' hle => by
      have := hco h' hle; rwa [decide_eq_false hn] at this
    repeat' (first | apply GO_seq | apply GO_region | apply GOl_nil | (apply GOl_pv; (iterate 3 exact rfl)) | (apply GOl_to; (iterate 3 exact rfl); (first | (apply OpTo_box; exact rfl; intro b; skip))) | (apply GO_drawp (n := 1) [0, 1, 2, 3, 4, 5, 6, 7, 8, 9, 10, 11, 12, 13, 14, 15, 16, 17, 18, 19, 20, 21] [(0, 0), (1, 0), (2, 1), (3, 0), (4, 0), (5, 0), (6, 0), (7, 1), (8, 0), (9, 0), (10, 0), (11, 0), (12, 1), (13, 0), (14, 0), (15, 0), (16, 0), (18, 0), (17, 1), (19, 1), (20, 0), (21, 0)]; kernel_rfl) | (apply GP_un; exact rfl; kernel_rfl; exact rfl; exact rfl) | (apply GP_pv; exact rfl; kernel_rfl; (iterate 3 exact rfl)) | (apply GP_loadB; exact rfl; kernel_rfl; (iterate 3 exact rfl); exact (by (repeat (first|exact List.Mem.head _|apply List.Mem.tail));done); exact rfl; exact rfl) | (apply GP_real; exact rfl; kernel_rfl; (iterate 3 exact rfl); (first | (apply OpTo_val; exact rfl; exact has101; exact hco2 _ (by first|exact Le.refl _|assumption|(repeat (first|assumption|(apply Le.trans;assumption)))); refine ⟨Le.refl _, by (first | exact NdOk_no rfl | (apply NdOk_all; (repeat' (first|exact trivial|apply And.intro|exact List.Mem.head _|apply List.Mem.tail)); done) | (apply NdOk_need; (repeat' (first|exact trivial|apply And.intro|exact List.Mem.head _|apply List.Mem.tail)); done)), ?_⟩) | (apply OpTo_val; exact rfl; exact has100; exact dayR_c _ _; refine ⟨Le.refl _, by (first | exact NdOk_no rfl | (apply NdOk_all; (repeat' (first|exact trivial|apply And.intro|exact List.Mem.head _|apply List.Mem.tail)); done) | (apply NdOk_need; (repeat' (first|exact trivial|apply And.intro|exact List.Mem.head _|apply List.Mem.tail)); done)), ?_⟩))) | (apply GP_done; kernel_rfl; exact rfl) | (apply GP_split; (iterate 5 exact rfl); all_goals intro hc; all_goals try simp only [hcS, reduceCtorEq] at hc; all_goals try (exfalso; omega)) | (apply GO_cond; exact rfl; all_goals intro hc; all_goals try simp only [hcS, reduceCtorEq] at hc; all_goals try (exfalso; omega)) | (apply GP_un1; exact rfl; kernel_rfl; exact rfl; exact rfl))
    all_goals (first | (apply GO_retV1; (iterate 3 exact rfl)))
    all_goals (rw [if_neg (show ¬ FctOk f from fun hh => hn hh.2.2.1)])
end Go.Hw

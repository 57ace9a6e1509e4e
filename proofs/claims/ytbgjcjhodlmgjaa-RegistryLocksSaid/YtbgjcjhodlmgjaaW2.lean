import Derived.Test.YtbgjcjhodlmgjaaAaT
import Derived.Test.YtbgjcjhodlmgjaaW0
set_option linter.unusedVariables false
set_option linter.unusedSimpArgs false
set_option maxRecDepth 100000
set_option maxHeartbeats 400000
namespace Go.Hw
open Go
attribute [local irreducible] GO GOl GDp Val Fn CellsAt
open Go.Proofs (Try.prog)

theorem busy_c (h : Ro) (b : Bool) : Val Try.prog 73 #[.bool b] h (.int .i64 (if b then 362 else 0)) := by
  refine Val_intro (args := [_]) ts_ok Go.Proofs.Try.func73 rfl rfl fun w0 X0 => ?_
  repeat' (first | apply GO_seq | apply GO_skip | apply GO_region | apply GOl_nil | (apply GOl_pv; exact rfl; exact rfl; exact rfl) | (apply GO_cond; exact rfl; all_goals intro hc; all_goals try simp only [ltI_t, ltI_f, leI_t, leI_f, eqI_t, eqI_f, Bool.not_eq_true', Bool.not_eq_false', decide_eq_true_eq, decide_eq_false_iff_not, reduceCtorEq] at hc; all_goals try (exfalso; omega)) | (apply GO_retV1; exact rfl; exact rfl; exact rfl))
  all_goals (subst hc; rfl)

theorem wrong_c (h : Ro) (b : Bool) : Val Try.prog 76 #[.bool b] h (.int .i64 (if b then 360 else 0)) := by
  refine Val_intro (args := [_]) ts_ok Go.Proofs.Try.func76 rfl rfl fun w0 X0 => ?_
  repeat' (first | apply GO_seq | apply GO_skip | apply GO_region | apply GOl_nil | (apply GOl_pv; exact rfl; exact rfl; exact rfl) | (apply GO_cond; exact rfl; all_goals intro hc; all_goals try simp only [ltI_t, ltI_f, leI_t, leI_f, eqI_t, eqI_f, Bool.not_eq_true', Bool.not_eq_false', decide_eq_true_eq, decide_eq_false_iff_not, reduceCtorEq] at hc; all_goals try (exfalso; omega)) | (apply GO_retV1; exact rfl; exact rfl; exact rfl))
  all_goals (subst hc; rfl)

theorem plays_c (h : Ro) (s : Sta) : Val Try.prog 36 #[staV s] h (.int .i64 (if s.borrower ≠ -1 then s.borrower else s.owner)) := by
  refine Val_intro (args := [_]) ts_ok Go.Proofs.Try.func36 rfl rfl fun w0 X0 => ?_
  repeat' (first | apply GO_seq | apply GO_skip | apply GO_region | apply GOl_nil | (apply GOl_pv; exact rfl; exact rfl; exact rfl) | (apply GOl_load; exact rfl; exact Ld_blk rfl (by (repeat (first | exact List.Mem.head _ | apply List.Mem.tail)); done) rfl; exact rfl; exact rfl) | (apply GOl_to; exact rfl; exact rfl; exact rfl; (first | (apply OpTo_box; exact rfl; intro b; skip))) | (apply GO_cond; exact rfl; all_goals intro hc; all_goals try simp only [ltI_t, ltI_f, leI_t, leI_f, eqI_t, eqI_f, Bool.not_eq_true', Bool.not_eq_false', decide_eq_true_eq, decide_eq_false_iff_not, reduceCtorEq] at hc; all_goals try (exfalso; omega)) | (apply GO_retV1; exact rfl; exact rfl; exact rfl))
  · rw [if_pos hc]
  · rw [if_neg (by omega)]

theorem unknown_c (h : Ro) : Val Try.prog 35 #[] h (staV st0) := by
  refine Val_intro (args := []) ts_ok Go.Proofs.Try.func35 rfl rfl fun w0 X0 => ?_
  repeat' (first | apply GO_seq | apply GO_region | apply GOl_nil | (apply GOl_pv; exact rfl; exact rfl; exact rfl) | (apply GOl_to; exact rfl; exact rfl; exact rfl; (first | (apply OpTo_store; exact rfl; exact rfl; exact rfl; exact (by (repeat (first | exact Repl.here | apply Repl.there)); done); exact rfl; exact rfl; exact rfl; skip) | (apply OpTo_alloc; exact rfl; intro b; skip))) | (apply GO_retC1; exact rfl; exact rfl; exact rfl; exact (by (repeat (first | exact List.Mem.head _ | apply List.Mem.tail)); done); exact rfl; exact rfl))
  rfl

theorem moves_c (h : Ro) (x : Ent) : Val Try.prog 50 #[entV x] h (.bool (decide (x.kind ≤ 4))) := by
  refine Val_intro (args := [_]) ts_ok Go.Proofs.Try.func50 rfl rfl fun w0 X0 => ?_
  repeat' (first | apply GO_seq | apply GO_region | apply GOl_nil | (apply GOl_pv; exact rfl; exact rfl; exact rfl) | (apply GOl_load; exact rfl; exact Ld_blk rfl (by (repeat (first | exact List.Mem.head _ | apply List.Mem.tail)); done) rfl; exact rfl; exact rfl) | (apply GOl_to; exact rfl; exact rfl; exact rfl; (first | (apply OpTo_box; exact rfl; intro b; skip))) | (apply GO_retV1; exact rfl; exact rfl; exact rfl))
  rw [leI_eq]

theorem owned_c (h : Ro) (s : Sta) (x : Ent) : Val Try.prog 75 #[staV s, entV x] h (.int .i64 (if s.owner = -1 then 360 else if s.owner ≠ x.club then 361 else 0)) := by
  refine Val_intro (args := [_, _]) ts_ok Go.Proofs.Try.func75 rfl rfl fun w0 X0 => ?_
  repeat' (first | apply GO_seq | apply GO_skip | apply GO_inBlock | apply GO_block | apply GO_region | apply GOl_nil | (apply GOl_pv; exact rfl; exact rfl; exact rfl) | (apply GOl_load; exact rfl; exact Ld_blk rfl (by (repeat (first | exact List.Mem.head _ | apply List.Mem.tail)); done) rfl; exact rfl; exact rfl) | (apply GOl_to; exact rfl; exact rfl; exact rfl; (first | (apply OpTo_box; exact rfl; intro b; skip))) | (apply GO_cond; exact rfl; all_goals intro hc; all_goals try simp only [ltI_t, ltI_f, leI_t, leI_f, eqI_t, eqI_f, Bool.not_eq_true', Bool.not_eq_false', decide_eq_true_eq, decide_eq_false_iff_not, reduceCtorEq] at hc; all_goals try (exfalso; omega)) | (apply GO_retV1; exact rfl; exact rfl; exact rfl))
  all_goals (first | (rw [if_pos (by omega)]; done) | (rw [if_neg (by omega), if_pos (by omega)]) | (rw [if_neg (by omega), if_neg (by omega)]))

theorem after_c (h : Ro) (s : Sta) (x : Ent) : Val Try.prog 46 #[staV s, entV x] h (staV (after s x)) := by
  refine Val_intro (args := [_, _]) ts_ok Go.Proofs.Try.func46 rfl rfl fun w0 X0 => ?_
  repeat' (first | apply GO_seq | apply GO_skip | apply GO_inBlock | apply GO_block | apply GO_region | apply GOl_nil | (apply GOl_pv; exact rfl; exact rfl; exact rfl) | (apply GOl_load; exact rfl; exact Ld_blk rfl (by (repeat (first | exact List.Mem.head _ | apply List.Mem.tail)); done) rfl; exact rfl; exact rfl) | (apply GOl_to; exact rfl; exact rfl; exact rfl; (first | (apply OpTo_store; exact rfl; exact rfl; exact rfl; exact (by (repeat (first | exact Repl.here | apply Repl.there)); done); exact rfl; exact rfl; exact rfl; skip) | (apply OpTo_box; exact rfl; intro b; skip) | (apply OpTo_alloc; exact rfl; intro b; skip))) | (apply GO_cond; exact rfl; all_goals intro hc; all_goals try simp only [ltI_t, ltI_f, leI_t, leI_f, eqI_t, eqI_f, Bool.not_eq_true', Bool.not_eq_false', decide_eq_true_eq, decide_eq_false_iff_not, reduceCtorEq] at hc; all_goals try (exfalso; omega)) | (apply GO_retC1; exact rfl; exact rfl; exact rfl; exact (by (repeat (first | exact List.Mem.head _ | apply List.Mem.tail)); done); exact rfl; exact rfl))
  all_goals (unfold after; simp [staV, eqI_eq, *])
  all_goals (rw [if_neg (by omega)]; simp)

theorem fits_c (h : Ro) (s : Sta) (x : Ent) : Val Try.prog 45 #[staV s, entV x] h (.int .i64 (fits s x)) := by
  refine Val_intro (args := [_, _]) ts_ok Go.Proofs.Try.func45 rfl rfl fun w0 X0 => ?_
  repeat' (first | apply GO_seq | apply GO_skip | apply GO_region | apply GOl_nil | (apply GOl_unwanted; exact rfl; exact rfl) | (apply GOl_pv; exact rfl; exact rfl; exact rfl) | (apply GOl_load; exact rfl; exact Ld_blk rfl (by (repeat (first | exact List.Mem.head _ | apply List.Mem.tail)); done) rfl; exact rfl; exact rfl) | (apply GOl_to; exact rfl; exact rfl; exact rfl; (first | (apply OpTo_box; exact rfl; intro b; skip))) | (apply GO_cond; exact rfl; all_goals intro hc; all_goals try simp only [ltI_t, ltI_f, leI_t, leI_f, eqI_t, eqI_f, Bool.not_eq_true', Bool.not_eq_false', decide_eq_true_eq, decide_eq_false_iff_not, reduceCtorEq] at hc; all_goals try (exfalso; omega)) | (apply GOl_split; exact rfl; exact rfl; all_goals intro hc; all_goals try simp only [ltI_t, ltI_f, leI_t, leI_f, eqI_t, eqI_f, Bool.not_eq_true', Bool.not_eq_false', decide_eq_true_eq, decide_eq_false_iff_not, reduceCtorEq] at hc; all_goals try (exfalso; omega)) | (apply GO_retV1; exact rfl; exact rfl; exact rfl))
  all_goals congr 1
  all_goals unfold fits
  all_goals (repeat (first | (rw [if_neg (by omega)]; done) | (rw [if_pos (by omega)]; done) | rw [if_neg (by omega)] | rw [if_pos (by omega)]))
  all_goals simp [*]

def firstNZ : List Int → Int
  | [] => 0
  | a :: r => if a ≠ 0 then a else firstNZ r

theorem first_c (h : Ro) (A : Option Addr) (n c : Nat) (xs : List Int) (hx : SlOf encI 1 h A n xs) (hn : n ≤ 1000000000) :
    Val Try.prog 74 #[.slice A n c] h (.int .i64 (firstNZ xs)) := by
  refine Val_intro (args := [_]) ts_ok Go.Proofs.Try.func74 rfl rfl fun w0 X0 => ?_
  have hlen := hx.len
  repeat' (first | apply GO_seq | apply GO_block | apply GO_region | apply GOl_nil | (apply GOl_pv; exact rfl; exact rfl; exact rfl))
  refine GO_while (fun k => k ≤ n ∧ firstNZ (xs.drop k) = firstNZ xs) (fun k => n - k) (fun k => [(7, .int .i64 k), (6, .int .i64 n), (5, .slice A n c)]) (fun _ => []) (fun _ => h) 0 ?_ ⟨rfl, rfl, rfl, trivial⟩ rfl rfl ?_
  · exact ⟨by omega, rfl⟩
  rintro k ⟨hk, hI⟩ ih
  repeat' (first | apply GO_seq | apply GO_skip | apply GO_block | apply GO_region | apply GOl_nil | (apply GO_exit; exact rfl) | (apply GOl_pv; exact rfl; exact rfl; exact rfl) | (apply GO_cond; exact rfl; all_goals intro hc; all_goals try simp only [ltI_t, ltI_f, leI_t, leI_f, eqI_t, eqI_f, Bool.not_eq_true', Bool.not_eq_false', decide_eq_true_eq, decide_eq_false_iff_not, reduceCtorEq] at hc; all_goals try (exfalso; omega)) | (apply GO_retV1; exact rfl; exact rfl; exact rfl))
  · obtain ⟨ad, rfl⟩ := hx.addr (by omega)
    have hkn : k < n := by omega
    have c1 := hx.cells 0 hkn
    have hd : xs.drop k = xs.getD k 0 :: xs.drop (k + 1) := by
      rw [List.drop_eq_getElem_cons (by omega)]; simp [List.getD, List.getElem?_eq_getElem (show k < xs.length by omega)]
    repeat' (first | apply GO_seq | apply GO_skip | apply GO_inBlock | apply GO_region | apply GOl_nil | (apply GOl_add; exact rfl; exact rfl; exact rfl; omega; exact rfl; exact rfl) | (apply GOl_pv; exact rfl; exact rfl; exact rfl) | (apply GOl_ov; exact rfl; exact rfl; (first | (apply OV_idx; exact rfl; exact rfl; exact rfl; exact rfl; exact rfl; exact rfl; exact hkn) | (apply OV_load; exact rfl; exact Lv_ro rfl c1 rfl)); exact (by repeat' (first | exact trivial | apply And.intro | exact List.Mem.head _ | apply List.Mem.tail))) | (apply GO_cond; exact rfl; all_goals intro hc; all_goals try simp only [ltI_t, ltI_f, leI_t, leI_f, eqI_t, eqI_f, Bool.not_eq_true', Bool.not_eq_false', decide_eq_true_eq, decide_eq_false_iff_not, reduceCtorEq] at hc; all_goals try (exfalso; omega)) | (apply GO_retV1; exact rfl; exact rfl; exact rfl))
    · rw [← hI, hd, firstNZ, if_pos hc]
    · refine GO_keep ?_ (ih (k + 1) ⟨by omega, ?_⟩ (by omega))
      · exact ⟨rfl, rfl, rfl, trivial⟩
      · rw [← hI, hd, firstNZ, if_neg (by omega)]
  · rw [← hI, show k = xs.length by omega, List.drop_length]; rfl

theorem first4_c (h : Ro) (ad : Addr) (a b c d : Int) (hc : CellsAt h ad [.int .i64 a, .int .i64 b, .int .i64 c, .int .i64 d]) : Val Try.prog 74 #[.slice (some ad) 4 4] h (.int .i64 (firstNZ [a, b, c, d])) :=
  first_c h _ 4 4 [a, b, c, d] (SlOf_ints (l := [a, b, c, d]) hc) (by omega)
theorem first3_c (h : Ro) (ad : Addr) (a b c : Int) (hc : CellsAt h ad [.int .i64 a, .int .i64 b, .int .i64 c]) : Val Try.prog 74 #[.slice (some ad) 3 3] h (.int .i64 (firstNZ [a, b, c])) :=
  first_c h _ 3 3 [a, b, c] (SlOf_ints (l := [a, b, c]) hc) (by omega)
theorem first2_c (h : Ro) (ad : Addr) (a b : Int) (hc : CellsAt h ad [.int .i64 a, .int .i64 b]) : Val Try.prog 74 #[.slice (some ad) 2 2] h (.int .i64 (firstNZ [a, b])) :=
  first_c h _ 2 2 [a, b] (SlOf_ints (l := [a, b]) hc) (by omega)

theorem fits_leave {s : Sta} {x : Ent} (hk : x.kind = 2) : fits s x = firstNZ [if s.owner = -1 then 360 else if s.owner ≠ x.club then 361 else 0, if (!eqI s.borrower (-1)) = true then 360 else 0, if (!eqI (max s.lock 0) x.transfer) = true then 362 else 0, if eqI s.day x.day = true then 362 else 0] := by
  simp only [fits, firstNZ, eqI_eq, hk, Bool.not_eq_true', decide_eq_false_iff_not, decide_eq_true_eq]; grind
theorem fits_lend {s : Sta} {x : Ent} (hk : x.kind = 3) : fits s x = firstNZ [if s.owner = -1 then 360 else if s.owner ≠ x.club then 361 else 0, if (!eqI s.borrower (-1)) = true then 360 else 0, if (!eqI s.lock (-1)) = true then 362 else 0, if eqI s.day x.day = true then 362 else 0] := by
  simp only [fits, firstNZ, eqI_eq, hk, Bool.not_eq_true', decide_eq_false_iff_not, decide_eq_true_eq]; grind
theorem fits_back {s : Sta} {x : Ent} (hk : x.kind = 4) : fits s x = firstNZ [if s.owner = -1 then 360 else if s.owner ≠ x.club then 361 else 0, if (!eqI s.borrower x.other) = true then 360 else 0, if eqI s.day x.day = true then 362 else 0] := by
  simp only [fits, firstNZ, eqI_eq, hk, Bool.not_eq_true', decide_eq_false_iff_not, decide_eq_true_eq]; grind
theorem fits_secure {s : Sta} {x : Ent} (hk : x.kind = 5) : fits s x = firstNZ [if s.owner = -1 then 360 else if s.owner ≠ x.club then 361 else 0, if (!eqI s.borrower (-1)) = true then 360 else 0, if (!eqI s.lock (-1)) = true then 362 else 0, if eqI s.day x.day = true then 362 else 0] := by
  simp only [fits, firstNZ, eqI_eq, hk, Bool.not_eq_true', decide_eq_false_iff_not, decide_eq_true_eq]; grind
theorem fits_free {s : Sta} {x : Ent} (hk : x.kind = 6) : fits s x = firstNZ [if s.owner = -1 then 360 else if s.owner ≠ x.club then 361 else 0, if (!eqI s.lock x.transfer) = true then 362 else 0] := by
  simp only [fits, firstNZ, eqI_eq, hk, Bool.not_eq_true', decide_eq_false_iff_not, decide_eq_true_eq]; grind

theorem enter_c (h : Ro) (s : Sta) (x : Ent) (hk : x.kind = 1) : ∃ t, (fits s x = 0 → t = { s with owner := x.club }) ∧ Val Try.prog 54 #[staV s, entV x] h (.tuple #[staV t, .int .i64 (fits s x)]) := by
  refine ⟨if s.owner = -1 then { s with owner := x.club } else s, fun hf => ?_, ?_⟩
  · unfold fits at hf; split <;> simp_all
  refine Val_intro (args := [_, _]) ts_ok Go.Proofs.Try.func54 rfl rfl fun w0 X0 => ?_
  repeat' (first | apply GO_seq | apply GO_skip | apply GO_region | apply GOl_nil | (apply GOl_unwanted; exact rfl; exact rfl) | (apply GOl_pv; exact rfl; exact rfl; exact rfl) | (apply GOl_load; exact rfl; exact Ld_blk rfl (by (repeat (first | exact List.Mem.head _ | apply List.Mem.tail)); done) rfl; exact rfl; exact rfl) | (apply GOl_to; exact rfl; exact rfl; exact rfl; (first | (apply OpTo_store; exact rfl; exact rfl; exact rfl; exact (by (repeat (first | exact Repl.here | apply Repl.there)); done); exact rfl; exact rfl; exact rfl; skip) | (apply OpTo_box; exact rfl; intro b; skip) | (apply OpTo_alloc; exact rfl; intro b; skip) | (apply OpTo_val; exact rfl; exact has73; exact busy_c _ _; skip))) | (apply GO_cond; exact rfl; all_goals intro hc; all_goals try simp only [ltI_t, ltI_f, leI_t, leI_f, eqI_t, eqI_f, Bool.not_eq_true', Bool.not_eq_false', decide_eq_true_eq, decide_eq_false_iff_not, reduceCtorEq] at hc; all_goals try (exfalso; omega)) | (apply GOl_split; exact rfl; exact rfl; all_goals intro hc; all_goals try simp only [ltI_t, ltI_f, leI_t, leI_f, eqI_t, eqI_f, Bool.not_eq_true', Bool.not_eq_false', decide_eq_true_eq, decide_eq_false_iff_not, reduceCtorEq] at hc; all_goals try (exfalso; omega)) | (apply GO_retC2; exact rfl; exact rfl; exact rfl; exact (by (repeat (first | exact List.Mem.head _ | apply List.Mem.tail)); done); exact rfl; exact rfl; exact rfl))
  all_goals try rw [fits_leave hk]
  all_goals try rw [fits_lend hk]
  all_goals try rw [fits_back hk]
  all_goals try rw [fits_secure hk]
  all_goals try rw [fits_free hk]
  all_goals (first | rfl | skip)
  all_goals try (simp only [fits, hk, eqI_eq, staV]; simp [*]; try grind)


theorem leave_c (h : Ro) (s : Sta) (x : Ent) (hk : x.kind = 2) : ∃ t, (fits s x = 0 → t = { s with owner := -1, lock := -1 }) ∧ Val Try.prog 55 #[staV s, entV x] h (.tuple #[staV t, .int .i64 (fits s x)]) := by
  refine ⟨{ s with owner := -1, lock := -1 }, fun hf => ?_, ?_⟩
  · rfl
  refine Val_intro (args := [_, _]) ts_ok Go.Proofs.Try.func55 rfl rfl fun w0 X0 => ?_
  repeat' (first | apply GO_seq | apply GO_region | apply GOl_nil | (apply GOl_pv; exact rfl; exact rfl; exact rfl) | (apply GOl_load; exact rfl; exact Ld_blk rfl (by (repeat (first | exact List.Mem.head _ | apply List.Mem.tail)); done) rfl; exact rfl; exact rfl) | (apply GOl_to; exact rfl; exact rfl; exact rfl; (first | (apply OpTo_store; exact rfl; exact rfl; exact rfl; exact (by (repeat (first | exact Repl.here | apply Repl.there)); done); exact rfl; exact rfl; exact rfl; skip) | (apply OpTo_box; exact rfl; intro b; skip) | (apply OpTo_alloc; exact rfl; intro b; skip))) | (apply GO_drawp (n := 1) [0, 1, 2, 3, 4, 5, 6, 7, 8, 9, 10, 11, 12, 13, 14, 15, 16, 17, 18, 19, 20, 21, 22] [(0, 0), (1, 0), (3, 0), (4, 0), (5, 0), (7, 0), (8, 0), (9, 0), (10, 0), (11, 0), (12, 0), (14, 0), (15, 0), (16, 0), (17, 0), (18, 0), (2, 1), (6, 1), (13, 1), (19, 1), (20, 1), (21, 1), (22, 0)]; kernel_rfl) | (apply GP_pv; exact rfl; kernel_rfl; exact rfl; exact rfl; exact rfl) | (apply GP_loadB; exact rfl; kernel_rfl; exact rfl; exact rfl; exact rfl; exact (by (repeat (first | exact List.Mem.head _ | apply List.Mem.tail)); done); exact rfl; exact rfl) | (apply GP_real; exact rfl; kernel_rfl; exact rfl; exact rfl; exact rfl; (first | (apply OpTo_val; exact rfl; exact has75; exact owned_c _ _ _; refine ⟨Le.refl _, by (first | exact NdOk_no rfl | (apply NdOk_all; (repeat' (first | exact trivial | apply And.intro | exact List.Mem.head _ | apply List.Mem.tail)); done) | (apply NdOk_need; (repeat' (first | exact trivial | apply And.intro | exact List.Mem.head _ | apply List.Mem.tail)); done)), ?_⟩) | (apply OpTo_val; exact rfl; exact has76; exact wrong_c _ _; refine ⟨Le.refl _, by (first | exact NdOk_no rfl | (apply NdOk_all; (repeat' (first | exact trivial | apply And.intro | exact List.Mem.head _ | apply List.Mem.tail)); done) | (apply NdOk_need; (repeat' (first | exact trivial | apply And.intro | exact List.Mem.head _ | apply List.Mem.tail)); done)), ?_⟩) | (apply OpTo_val; exact rfl; exact has73; exact busy_c _ _; refine ⟨Le.refl _, by (first | exact NdOk_no rfl | (apply NdOk_all; (repeat' (first | exact trivial | apply And.intro | exact List.Mem.head _ | apply List.Mem.tail)); done) | (apply NdOk_need; (repeat' (first | exact trivial | apply And.intro | exact List.Mem.head _ | apply List.Mem.tail)); done)), ?_⟩) | (apply OpTo_buildSliceR; exact rfl; exact rfl; exact rfl; exact List.cons_ne_nil _ _; exact rfl; exact rfl; exact rfl; exact rfl; intro b1 h1 hle1 hcs1; refine ⟨hle1, by (first | exact NdOk_no rfl | (apply NdOk_all; (repeat' (first | exact trivial | apply And.intro | exact List.Mem.head _ | apply List.Mem.tail)); done) | (apply NdOk_need; (repeat' (first | exact trivial | apply And.intro | exact List.Mem.head _ | apply List.Mem.tail)); done)), ?_⟩) | (apply OpTo_val; exact rfl; exact has74; (first | exact first4_c _ _ _ _ _ _ hcs1 | exact first3_c _ _ _ _ _ hcs1 | exact first2_c _ _ _ _ hcs1); refine ⟨Le.refl _, by (first | exact NdOk_no rfl | (apply NdOk_all; (repeat' (first | exact trivial | apply And.intro | exact List.Mem.head _ | apply List.Mem.tail)); done) | (apply NdOk_need; (repeat' (first | exact trivial | apply And.intro | exact List.Mem.head _ | apply List.Mem.tail)); done)), ?_⟩))) | (apply GP_done; kernel_rfl; exact rfl) | (apply GO_retC2; exact rfl; exact rfl; exact rfl; exact (by (repeat (first | exact List.Mem.head _ | apply List.Mem.tail)); done); exact rfl; exact rfl; exact rfl))
  all_goals try rw [fits_leave hk]
  all_goals try rw [fits_lend hk]
  all_goals try rw [fits_back hk]
  all_goals try rw [fits_secure hk]
  all_goals try rw [fits_free hk]
  all_goals (first | rfl | skip)
  all_goals try (simp only [fits, hk, eqI_eq, staV]; simp [*]; try grind)


theorem lend_c (h : Ro) (s : Sta) (x : Ent) (hk : x.kind = 3) : ∃ t, (fits s x = 0 → t = { s with borrower := x.other }) ∧ Val Try.prog 56 #[staV s, entV x] h (.tuple #[staV t, .int .i64 (fits s x)]) := by
  refine ⟨{ s with borrower := x.other }, fun hf => ?_, ?_⟩
  · rfl
  refine Val_intro (args := [_, _]) ts_ok Go.Proofs.Try.func56 rfl rfl fun w0 X0 => ?_
  repeat' (first | apply GO_seq | apply GO_region | apply GOl_nil | (apply GOl_pv; exact rfl; exact rfl; exact rfl) | (apply GOl_load; exact rfl; exact Ld_blk rfl (by (repeat (first | exact List.Mem.head _ | apply List.Mem.tail)); done) rfl; exact rfl; exact rfl) | (apply GOl_to; exact rfl; exact rfl; exact rfl; (first | (apply OpTo_store; exact rfl; exact rfl; exact rfl; exact (by (repeat (first | exact Repl.here | apply Repl.there)); done); exact rfl; exact rfl; exact rfl; skip) | (apply OpTo_box; exact rfl; intro b; skip) | (apply OpTo_alloc; exact rfl; intro b; skip))) | (apply GO_drawp (n := 1) [0, 1, 2, 3, 4, 5, 6, 7, 8, 9, 10, 11, 12, 13, 14, 15, 16, 17, 18, 19] [(0, 0), (1, 0), (3, 0), (4, 0), (5, 0), (7, 0), (8, 0), (9, 0), (11, 0), (12, 0), (13, 0), (14, 0), (15, 0), (2, 1), (6, 1), (10, 1), (16, 1), (17, 1), (18, 1), (19, 0)]; kernel_rfl) | (apply GP_pv; exact rfl; kernel_rfl; exact rfl; exact rfl; exact rfl) | (apply GP_loadB; exact rfl; kernel_rfl; exact rfl; exact rfl; exact rfl; exact (by (repeat (first | exact List.Mem.head _ | apply List.Mem.tail)); done); exact rfl; exact rfl) | (apply GP_real; exact rfl; kernel_rfl; exact rfl; exact rfl; exact rfl; (first | (apply OpTo_val; exact rfl; exact has75; exact owned_c _ _ _; refine ⟨Le.refl _, by (first | exact NdOk_no rfl | (apply NdOk_all; (repeat' (first | exact trivial | apply And.intro | exact List.Mem.head _ | apply List.Mem.tail)); done) | (apply NdOk_need; (repeat' (first | exact trivial | apply And.intro | exact List.Mem.head _ | apply List.Mem.tail)); done)), ?_⟩) | (apply OpTo_val; exact rfl; exact has76; exact wrong_c _ _; refine ⟨Le.refl _, by (first | exact NdOk_no rfl | (apply NdOk_all; (repeat' (first | exact trivial | apply And.intro | exact List.Mem.head _ | apply List.Mem.tail)); done) | (apply NdOk_need; (repeat' (first | exact trivial | apply And.intro | exact List.Mem.head _ | apply List.Mem.tail)); done)), ?_⟩) | (apply OpTo_val; exact rfl; exact has73; exact busy_c _ _; refine ⟨Le.refl _, by (first | exact NdOk_no rfl | (apply NdOk_all; (repeat' (first | exact trivial | apply And.intro | exact List.Mem.head _ | apply List.Mem.tail)); done) | (apply NdOk_need; (repeat' (first | exact trivial | apply And.intro | exact List.Mem.head _ | apply List.Mem.tail)); done)), ?_⟩) | (apply OpTo_buildSliceR; exact rfl; exact rfl; exact rfl; exact List.cons_ne_nil _ _; exact rfl; exact rfl; exact rfl; exact rfl; intro b1 h1 hle1 hcs1; refine ⟨hle1, by (first | exact NdOk_no rfl | (apply NdOk_all; (repeat' (first | exact trivial | apply And.intro | exact List.Mem.head _ | apply List.Mem.tail)); done) | (apply NdOk_need; (repeat' (first | exact trivial | apply And.intro | exact List.Mem.head _ | apply List.Mem.tail)); done)), ?_⟩) | (apply OpTo_val; exact rfl; exact has74; (first | exact first4_c _ _ _ _ _ _ hcs1 | exact first3_c _ _ _ _ _ hcs1 | exact first2_c _ _ _ _ hcs1); refine ⟨Le.refl _, by (first | exact NdOk_no rfl | (apply NdOk_all; (repeat' (first | exact trivial | apply And.intro | exact List.Mem.head _ | apply List.Mem.tail)); done) | (apply NdOk_need; (repeat' (first | exact trivial | apply And.intro | exact List.Mem.head _ | apply List.Mem.tail)); done)), ?_⟩))) | (apply GP_done; kernel_rfl; exact rfl) | (apply GO_retC2; exact rfl; exact rfl; exact rfl; exact (by (repeat (first | exact List.Mem.head _ | apply List.Mem.tail)); done); exact rfl; exact rfl; exact rfl))
  all_goals try rw [fits_leave hk]
  all_goals try rw [fits_lend hk]
  all_goals try rw [fits_back hk]
  all_goals try rw [fits_secure hk]
  all_goals try rw [fits_free hk]
  all_goals (first | rfl | skip)
  all_goals try (simp only [fits, hk, eqI_eq, staV]; simp [*]; try grind)


theorem back_c (h : Ro) (s : Sta) (x : Ent) (hk : x.kind = 4) : ∃ t, (fits s x = 0 → t = { s with borrower := -1 }) ∧ Val Try.prog 57 #[staV s, entV x] h (.tuple #[staV t, .int .i64 (fits s x)]) := by
  refine ⟨{ s with borrower := -1 }, fun hf => ?_, ?_⟩
  · rfl
  refine Val_intro (args := [_, _]) ts_ok Go.Proofs.Try.func57 rfl rfl fun w0 X0 => ?_
  repeat' (first | apply GO_seq | apply GO_region | apply GOl_nil | (apply GOl_pv; exact rfl; exact rfl; exact rfl) | (apply GOl_load; exact rfl; exact Ld_blk rfl (by (repeat (first | exact List.Mem.head _ | apply List.Mem.tail)); done) rfl; exact rfl; exact rfl) | (apply GOl_to; exact rfl; exact rfl; exact rfl; (first | (apply OpTo_store; exact rfl; exact rfl; exact rfl; exact (by (repeat (first | exact Repl.here | apply Repl.there)); done); exact rfl; exact rfl; exact rfl; skip) | (apply OpTo_box; exact rfl; intro b; skip) | (apply OpTo_alloc; exact rfl; intro b; skip))) | (apply GO_drawp (n := 1) [0, 1, 2, 3, 4, 5, 6, 7, 8, 9, 10, 11, 12, 13, 14, 15, 16, 17] [(0, 0), (1, 0), (3, 0), (4, 0), (5, 0), (6, 0), (7, 0), (9, 0), (10, 0), (11, 0), (12, 0), (13, 0), (2, 1), (8, 1), (14, 1), (15, 1), (16, 1), (17, 0)]; kernel_rfl) | (apply GP_pv; exact rfl; kernel_rfl; exact rfl; exact rfl; exact rfl) | (apply GP_loadB; exact rfl; kernel_rfl; exact rfl; exact rfl; exact rfl; exact (by (repeat (first | exact List.Mem.head _ | apply List.Mem.tail)); done); exact rfl; exact rfl) | (apply GP_real; exact rfl; kernel_rfl; exact rfl; exact rfl; exact rfl; (first | (apply OpTo_val; exact rfl; exact has75; exact owned_c _ _ _; refine ⟨Le.refl _, by (first | exact NdOk_no rfl | (apply NdOk_all; (repeat' (first | exact trivial | apply And.intro | exact List.Mem.head _ | apply List.Mem.tail)); done) | (apply NdOk_need; (repeat' (first | exact trivial | apply And.intro | exact List.Mem.head _ | apply List.Mem.tail)); done)), ?_⟩) | (apply OpTo_val; exact rfl; exact has76; exact wrong_c _ _; refine ⟨Le.refl _, by (first | exact NdOk_no rfl | (apply NdOk_all; (repeat' (first | exact trivial | apply And.intro | exact List.Mem.head _ | apply List.Mem.tail)); done) | (apply NdOk_need; (repeat' (first | exact trivial | apply And.intro | exact List.Mem.head _ | apply List.Mem.tail)); done)), ?_⟩) | (apply OpTo_val; exact rfl; exact has73; exact busy_c _ _; refine ⟨Le.refl _, by (first | exact NdOk_no rfl | (apply NdOk_all; (repeat' (first | exact trivial | apply And.intro | exact List.Mem.head _ | apply List.Mem.tail)); done) | (apply NdOk_need; (repeat' (first | exact trivial | apply And.intro | exact List.Mem.head _ | apply List.Mem.tail)); done)), ?_⟩) | (apply OpTo_buildSliceR; exact rfl; exact rfl; exact rfl; exact List.cons_ne_nil _ _; exact rfl; exact rfl; exact rfl; exact rfl; intro b1 h1 hle1 hcs1; refine ⟨hle1, by (first | exact NdOk_no rfl | (apply NdOk_all; (repeat' (first | exact trivial | apply And.intro | exact List.Mem.head _ | apply List.Mem.tail)); done) | (apply NdOk_need; (repeat' (first | exact trivial | apply And.intro | exact List.Mem.head _ | apply List.Mem.tail)); done)), ?_⟩) | (apply OpTo_val; exact rfl; exact has74; (first | exact first4_c _ _ _ _ _ _ hcs1 | exact first3_c _ _ _ _ _ hcs1 | exact first2_c _ _ _ _ hcs1); refine ⟨Le.refl _, by (first | exact NdOk_no rfl | (apply NdOk_all; (repeat' (first | exact trivial | apply And.intro | exact List.Mem.head _ | apply List.Mem.tail)); done) | (apply NdOk_need; (repeat' (first | exact trivial | apply And.intro | exact List.Mem.head _ | apply List.Mem.tail)); done)), ?_⟩))) | (apply GP_done; kernel_rfl; exact rfl) | (apply GO_retC2; exact rfl; exact rfl; exact rfl; exact (by (repeat (first | exact List.Mem.head _ | apply List.Mem.tail)); done); exact rfl; exact rfl; exact rfl))
  all_goals try rw [fits_leave hk]
  all_goals try rw [fits_lend hk]
  all_goals try rw [fits_back hk]
  all_goals try rw [fits_secure hk]
  all_goals try rw [fits_free hk]
  all_goals (first | rfl | skip)
  all_goals try (simp only [fits, hk, eqI_eq, staV]; simp [*]; try grind)


theorem secure_c (h : Ro) (s : Sta) (x : Ent) (hk : x.kind = 5) : ∃ t, (fits s x = 0 → t = { s with lock := x.transfer }) ∧ Val Try.prog 58 #[staV s, entV x] h (.tuple #[staV t, .int .i64 (fits s x)]) := by
  refine ⟨{ s with lock := x.transfer }, fun hf => ?_, ?_⟩
  · rfl
  refine Val_intro (args := [_, _]) ts_ok Go.Proofs.Try.func58 rfl rfl fun w0 X0 => ?_
  repeat' (first | apply GO_seq | apply GO_region | apply GOl_nil | (apply GOl_pv; exact rfl; exact rfl; exact rfl) | (apply GOl_load; exact rfl; exact Ld_blk rfl (by (repeat (first | exact List.Mem.head _ | apply List.Mem.tail)); done) rfl; exact rfl; exact rfl) | (apply GOl_to; exact rfl; exact rfl; exact rfl; (first | (apply OpTo_store; exact rfl; exact rfl; exact rfl; exact (by (repeat (first | exact Repl.here | apply Repl.there)); done); exact rfl; exact rfl; exact rfl; skip) | (apply OpTo_box; exact rfl; intro b; skip) | (apply OpTo_alloc; exact rfl; intro b; skip))) | (apply GO_drawp (n := 1) [0, 1, 2, 3, 4, 5, 6, 7, 8, 9, 10, 11, 12, 13, 14, 15, 16, 17, 18, 19] [(0, 0), (1, 0), (3, 0), (4, 0), (5, 0), (7, 0), (8, 0), (9, 0), (11, 0), (12, 0), (13, 0), (14, 0), (15, 0), (2, 1), (6, 1), (10, 1), (16, 1), (17, 1), (18, 1), (19, 0)]; kernel_rfl) | (apply GP_pv; exact rfl; kernel_rfl; exact rfl; exact rfl; exact rfl) | (apply GP_loadB; exact rfl; kernel_rfl; exact rfl; exact rfl; exact rfl; exact (by (repeat (first | exact List.Mem.head _ | apply List.Mem.tail)); done); exact rfl; exact rfl) | (apply GP_real; exact rfl; kernel_rfl; exact rfl; exact rfl; exact rfl; (first | (apply OpTo_val; exact rfl; exact has75; exact owned_c _ _ _; refine ⟨Le.refl _, by (first | exact NdOk_no rfl | (apply NdOk_all; (repeat' (first | exact trivial | apply And.intro | exact List.Mem.head _ | apply List.Mem.tail)); done) | (apply NdOk_need; (repeat' (first | exact trivial | apply And.intro | exact List.Mem.head _ | apply List.Mem.tail)); done)), ?_⟩) | (apply OpTo_val; exact rfl; exact has76; exact wrong_c _ _; refine ⟨Le.refl _, by (first | exact NdOk_no rfl | (apply NdOk_all; (repeat' (first | exact trivial | apply And.intro | exact List.Mem.head _ | apply List.Mem.tail)); done) | (apply NdOk_need; (repeat' (first | exact trivial | apply And.intro | exact List.Mem.head _ | apply List.Mem.tail)); done)), ?_⟩) | (apply OpTo_val; exact rfl; exact has73; exact busy_c _ _; refine ⟨Le.refl _, by (first | exact NdOk_no rfl | (apply NdOk_all; (repeat' (first | exact trivial | apply And.intro | exact List.Mem.head _ | apply List.Mem.tail)); done) | (apply NdOk_need; (repeat' (first | exact trivial | apply And.intro | exact List.Mem.head _ | apply List.Mem.tail)); done)), ?_⟩) | (apply OpTo_buildSliceR; exact rfl; exact rfl; exact rfl; exact List.cons_ne_nil _ _; exact rfl; exact rfl; exact rfl; exact rfl; intro b1 h1 hle1 hcs1; refine ⟨hle1, by (first | exact NdOk_no rfl | (apply NdOk_all; (repeat' (first | exact trivial | apply And.intro | exact List.Mem.head _ | apply List.Mem.tail)); done) | (apply NdOk_need; (repeat' (first | exact trivial | apply And.intro | exact List.Mem.head _ | apply List.Mem.tail)); done)), ?_⟩) | (apply OpTo_val; exact rfl; exact has74; (first | exact first4_c _ _ _ _ _ _ hcs1 | exact first3_c _ _ _ _ _ hcs1 | exact first2_c _ _ _ _ hcs1); refine ⟨Le.refl _, by (first | exact NdOk_no rfl | (apply NdOk_all; (repeat' (first | exact trivial | apply And.intro | exact List.Mem.head _ | apply List.Mem.tail)); done) | (apply NdOk_need; (repeat' (first | exact trivial | apply And.intro | exact List.Mem.head _ | apply List.Mem.tail)); done)), ?_⟩))) | (apply GP_done; kernel_rfl; exact rfl) | (apply GO_retC2; exact rfl; exact rfl; exact rfl; exact (by (repeat (first | exact List.Mem.head _ | apply List.Mem.tail)); done); exact rfl; exact rfl; exact rfl))
  all_goals try rw [fits_leave hk]
  all_goals try rw [fits_lend hk]
  all_goals try rw [fits_back hk]
  all_goals try rw [fits_secure hk]
  all_goals try rw [fits_free hk]
  all_goals (first | rfl | skip)
  all_goals try (simp only [fits, hk, eqI_eq, staV]; simp [*]; try grind)


theorem free_c (h : Ro) (s : Sta) (x : Ent) (hk : x.kind = 6) : ∃ t, (fits s x = 0 → t = { s with lock := -1 }) ∧ Val Try.prog 59 #[staV s, entV x] h (.tuple #[staV t, .int .i64 (fits s x)]) := by
  refine ⟨{ s with lock := -1 }, fun hf => ?_, ?_⟩
  · rfl
  refine Val_intro (args := [_, _]) ts_ok Go.Proofs.Try.func59 rfl rfl fun w0 X0 => ?_
  repeat' (first | apply GO_seq | apply GO_region | apply GOl_nil | (apply GOl_pv; exact rfl; exact rfl; exact rfl) | (apply GOl_load; exact rfl; exact Ld_blk rfl (by (repeat (first | exact List.Mem.head _ | apply List.Mem.tail)); done) rfl; exact rfl; exact rfl) | (apply GOl_to; exact rfl; exact rfl; exact rfl; (first | (apply OpTo_store; exact rfl; exact rfl; exact rfl; exact (by (repeat (first | exact Repl.here | apply Repl.there)); done); exact rfl; exact rfl; exact rfl; skip) | (apply OpTo_box; exact rfl; intro b; skip) | (apply OpTo_alloc; exact rfl; intro b; skip))) | (apply GO_drawp (n := 1) [0, 1, 2, 3, 4, 5, 6, 7, 8, 9, 10, 11] [(0, 0), (1, 0), (3, 0), (4, 0), (5, 0), (6, 0), (7, 0), (2, 1), (8, 1), (9, 1), (10, 1), (11, 0)]; kernel_rfl) | (apply GP_pv; exact rfl; kernel_rfl; exact rfl; exact rfl; exact rfl) | (apply GP_loadB; exact rfl; kernel_rfl; exact rfl; exact rfl; exact rfl; exact (by (repeat (first | exact List.Mem.head _ | apply List.Mem.tail)); done); exact rfl; exact rfl) | (apply GP_real; exact rfl; kernel_rfl; exact rfl; exact rfl; exact rfl; (first | (apply OpTo_val; exact rfl; exact has75; exact owned_c _ _ _; refine ⟨Le.refl _, by (first | exact NdOk_no rfl | (apply NdOk_all; (repeat' (first | exact trivial | apply And.intro | exact List.Mem.head _ | apply List.Mem.tail)); done) | (apply NdOk_need; (repeat' (first | exact trivial | apply And.intro | exact List.Mem.head _ | apply List.Mem.tail)); done)), ?_⟩) | (apply OpTo_val; exact rfl; exact has73; exact busy_c _ _; refine ⟨Le.refl _, by (first | exact NdOk_no rfl | (apply NdOk_all; (repeat' (first | exact trivial | apply And.intro | exact List.Mem.head _ | apply List.Mem.tail)); done) | (apply NdOk_need; (repeat' (first | exact trivial | apply And.intro | exact List.Mem.head _ | apply List.Mem.tail)); done)), ?_⟩) | (apply OpTo_buildSliceR; exact rfl; exact rfl; exact rfl; exact List.cons_ne_nil _ _; exact rfl; exact rfl; exact rfl; exact rfl; intro b1 h1 hle1 hcs1; refine ⟨hle1, by (first | exact NdOk_no rfl | (apply NdOk_all; (repeat' (first | exact trivial | apply And.intro | exact List.Mem.head _ | apply List.Mem.tail)); done) | (apply NdOk_need; (repeat' (first | exact trivial | apply And.intro | exact List.Mem.head _ | apply List.Mem.tail)); done)), ?_⟩) | (apply OpTo_val; exact rfl; exact has74; (first | exact first4_c _ _ _ _ _ _ hcs1 | exact first3_c _ _ _ _ _ hcs1 | exact first2_c _ _ _ _ hcs1); refine ⟨Le.refl _, by (first | exact NdOk_no rfl | (apply NdOk_all; (repeat' (first | exact trivial | apply And.intro | exact List.Mem.head _ | apply List.Mem.tail)); done) | (apply NdOk_need; (repeat' (first | exact trivial | apply And.intro | exact List.Mem.head _ | apply List.Mem.tail)); done)), ?_⟩))) | (apply GP_done; kernel_rfl; exact rfl) | (apply GO_retC2; exact rfl; exact rfl; exact rfl; exact (by (repeat (first | exact List.Mem.head _ | apply List.Mem.tail)); done); exact rfl; exact rfl; exact rfl))
  all_goals try rw [fits_leave hk]
  all_goals try rw [fits_lend hk]
  all_goals try rw [fits_back hk]
  all_goals try rw [fits_secure hk]
  all_goals try rw [fits_free hk]
  all_goals (first | rfl | skip)
  all_goals try (simp only [fits, hk, eqI_eq, staV]; simp [*]; try grind)








end Go.Hw


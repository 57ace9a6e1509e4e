import Derived.Test.YtbgjcjhodlmgjaaW2
set_option linter.unusedVariables false
set_option linter.unusedSimpArgs false
set_option maxRecDepth 100000
set_option maxHeartbeats 400000
namespace Go.Hw
open Go
attribute [local irreducible] GO GOl GDp Val Fn CellsAt
open Go.Proofs (Try.prog)

def idxI (x : Int) : List Int → Nat → Int
  | [], _ => -1
  | a :: r, k => if a = x then k else idxI x r (k + 1)
theorem idxI_nonneg (x : Int) : ∀ (l : List Int) (k : Nat), 0 ≤ idxI x l k ↔ x ∈ l
  | [], k => by simp [idxI]
  | a :: r, k => by
    have := idxI_nonneg x r (k + 1)
    by_cases h : a = x
    · subst h; simp [idxI]
    · simp [idxI, h, this, Ne.symm h]
theorem drop_cons {xs : List Int} {k n : Nat} (hlen : xs.length = n) (hk : k < n) : xs.drop k = xs.getD k 0 :: xs.drop (k + 1) := by
  rw [List.drop_eq_getElem_cons (by omega)]; simp [List.getD, List.getElem?_eq_getElem (show k < xs.length by omega)]

theorem index_c (h : Ro) (A : Option Addr) (n c : Nat) (xs : List Int) (x : Int) (hx : SlOf encI 1 h A n xs) (hn : n ≤ 1000000000) :
    Val Try.prog 72 #[.slice A n c, .int .i64 x] h (.int .i64 (idxI x xs 0)) := by
  refine Val_intro (args := [_, _]) ts_ok Go.Proofs.Try.func72 rfl rfl fun w0 X0 => ?_
  have hlen := hx.len
  repeat' (first | apply GO_seq | apply GO_block | apply GO_region | apply GOl_nil | (apply GOl_pv; exact rfl; exact rfl; exact rfl))
  refine GO_while (fun k => k ≤ n ∧ idxI x (xs.drop k) k = idxI x xs 0) (fun k => n - k) (fun k => [(8, .int .i64 k), (7, .int .i64 n), (0, .slice A n c), (1, .int .i64 x)]) (fun _ => []) (fun _ => h) 0 ?_ ⟨rfl, rfl, rfl, rfl, trivial⟩ rfl rfl ?_
  · exact ⟨by omega, rfl⟩
  rintro k ⟨hk, hI⟩ ih
  repeat' (first | apply GO_seq | apply GO_skip | apply GO_block | apply GO_region | apply GOl_nil | (apply GO_exit; exact rfl) | (apply GOl_pv; exact rfl; exact rfl; exact rfl) | (apply GO_cond; exact rfl; all_goals intro hc; all_goals try simp only [ltI_t, ltI_f, leI_t, leI_f, eqI_t, eqI_f, Bool.not_eq_true', Bool.not_eq_false', decide_eq_true_eq, decide_eq_false_iff_not, reduceCtorEq] at hc; all_goals try (exfalso; omega)) | (apply GO_retV1; exact rfl; exact rfl; exact rfl))
  · obtain ⟨ad, rfl⟩ := hx.addr (by omega)
    have hkn : k < n := by omega
    have c1 := hx.cells 0 hkn
    have hd := drop_cons hlen hkn
    repeat' (first | apply GO_seq | apply GO_skip | apply GO_inBlock | apply GO_region | apply GOl_nil | (apply GOl_add; exact rfl; exact rfl; exact rfl; omega; exact rfl; exact rfl) | (apply GOl_pv; exact rfl; exact rfl; exact rfl) | (apply GOl_ov; exact rfl; exact rfl; (first | (apply OV_idx; exact rfl; exact rfl; exact rfl; exact rfl; exact rfl; exact rfl; exact hkn) | (apply OV_load; exact rfl; exact Lv_ro rfl c1 rfl)); exact (by repeat' (first | exact trivial | apply And.intro | exact List.Mem.head _ | apply List.Mem.tail))) | (apply GO_cond; exact rfl; all_goals intro hc; all_goals try simp only [ltI_t, ltI_f, leI_t, leI_f, eqI_t, eqI_f, Bool.not_eq_true', Bool.not_eq_false', decide_eq_true_eq, decide_eq_false_iff_not, reduceCtorEq] at hc; all_goals try (exfalso; omega)) | (apply GO_retV1; exact rfl; exact rfl; exact rfl))
    · rw [← hI, hd, idxI, if_pos hc.symm]
    · refine GO_keep ?_ (ih (k + 1) ⟨by omega, ?_⟩ (by omega))
      · exact ⟨rfl, rfl, rfl, rfl, trivial⟩
      · rw [← hI, hd, idxI, if_neg (by omega)]
  · rw [← hI, show k = xs.length by omega, List.drop_length]; rfl

theorem contains_c (h : Ro) (A : Option Addr) (n c : Nat) (xs : List Int) (x : Int) (hx : SlOf encI 1 h A n xs) (hn : n ≤ 1000000000) :
    Val Try.prog 53 #[.slice A n c, .int .i64 x] h (.bool (decide (x ∈ xs))) := by
  refine Val_intro (args := [_, _]) ts_ok Go.Proofs.Try.func53 rfl rfl fun w0 X0 => ?_
  repeat' (first | apply GO_seq | apply GO_region | apply GOl_nil | (apply GOl_pv; exact rfl; exact rfl; exact rfl) | (apply GOl_to; exact rfl; exact rfl; exact rfl; (first | (apply OpTo_val; exact rfl; exact has72; exact index_c _ _ _ _ xs _ hx hn; skip))) | (apply GO_retV1; exact rfl; exact rfl; exact rfl))
  rw [leI_eq]; congr 1; exact decide_eq_decide.2 (idxI_nonneg _ _ _)

theorem member_c (h : Ro) (A : Option Addr) (n c : Nat) (xs : List Int) (x : Int) (hx : SlOf encI 1 h A n xs) (hn : n ≤ 1000000000) :
    Val Try.prog 39 #[.slice A n c, .int .i64 x] h (.bool (decide (x ∈ xs))) := by
  refine Val_intro (args := [_, _]) ts_ok Go.Proofs.Try.func39 rfl rfl fun w0 X0 => ?_
  have hlen := hx.len
  repeat' (first | apply GO_seq | apply GO_block | apply GO_region | apply GOl_nil | (apply GOl_pv; exact rfl; exact rfl; exact rfl))
  refine GO_while (fun k => k ≤ n ∧ (x ∈ xs.drop k ↔ x ∈ xs)) (fun k => n - k) (fun k => [(5, .int .i64 k), (0, .slice A n c), (1, .int .i64 x)]) (fun _ => []) (fun _ => h) 0 ?_ ⟨rfl, rfl, rfl, trivial⟩ rfl rfl ?_
  · exact ⟨by omega, by simp⟩
  rintro k ⟨hk, hI⟩ ih
  repeat' (first | apply GO_seq | apply GO_skip | apply GO_block | apply GO_region | apply GOl_nil | (apply GO_exit; exact rfl) | (apply GOl_pv; exact rfl; exact rfl; exact rfl) | (apply GO_cond; exact rfl; all_goals intro hc; all_goals try simp only [ltI_t, ltI_f, leI_t, leI_f, eqI_t, eqI_f, Bool.not_eq_true', Bool.not_eq_false', decide_eq_true_eq, decide_eq_false_iff_not, reduceCtorEq] at hc; all_goals try (exfalso; omega)) | (apply GO_retV1; exact rfl; exact rfl; exact rfl))
  · obtain ⟨ad, rfl⟩ := hx.addr (by omega)
    have hkn : k < n := by omega
    have c1 := hx.cells 0 hkn
    have hd := drop_cons hlen hkn
    repeat' (first | apply GO_seq | apply GO_skip | apply GO_inBlock | apply GO_region | apply GOl_nil | (apply GOl_add; exact rfl; exact rfl; exact rfl; omega; exact rfl; exact rfl) | (apply GOl_pv; exact rfl; exact rfl; exact rfl) | (apply GOl_ov; exact rfl; exact rfl; (first | (apply OV_idx; exact rfl; exact rfl; exact rfl; exact rfl; exact rfl; exact rfl; exact hkn) | (apply OV_load; exact rfl; exact Lv_ro rfl c1 rfl)); exact (by repeat' (first | exact trivial | apply And.intro | exact List.Mem.head _ | apply List.Mem.tail))) | (apply GO_cond; exact rfl; all_goals intro hc; all_goals try simp only [ltI_t, ltI_f, leI_t, leI_f, eqI_t, eqI_f, Bool.not_eq_true', Bool.not_eq_false', decide_eq_true_eq, decide_eq_false_iff_not, reduceCtorEq] at hc; all_goals try (exfalso; omega)) | (apply GO_retV1; exact rfl; exact rfl; exact rfl))
    · rw [decide_eq_true]; rw [← hI, hd, hc]; exact .head _
    · refine GO_keep ?_ (ih (k + 1) ⟨by omega, ?_⟩ (by omega))
      · exact ⟨rfl, rfl, rfl, trivial⟩
      · rw [← hI, hd, List.mem_cons]; exact ⟨.inr, fun h1 => h1.resolve_left (fun e => hc e.symm)⟩
  · rw [decide_eq_false]; rw [← hI, show k = xs.length by omega, List.drop_length]; simp

theorem valid_c (h : Ro) (s : Rsh) (r : Reg) (hr : SlOf encI 1 h s.ac s.nc r.clubs) (hn : s.nc ≤ 1000000000) (lg d : Int) (x : Ent) :
    Val Try.prog 44 #[regV lg d s, entV x] h (.bool (decide (ValidX r.clubs d x))) := by
  refine Val_intro (args := [_, _]) ts_ok Go.Proofs.Try.func44 rfl rfl fun w0 X0 => ?_
  repeat' (first | apply GO_seq | apply GO_skip | apply GO_inBlock | apply GO_block | apply GO_region | apply GOl_nil | (apply GOl_unwanted; exact rfl; exact rfl) | (apply GOl_pv; exact rfl; exact rfl; exact rfl) | (apply GOl_load; exact rfl; exact Ld_blk rfl (by (repeat (first | exact List.Mem.head _ | apply List.Mem.tail)); done) rfl; exact rfl; exact rfl) | (apply GOl_to; exact rfl; exact rfl; exact rfl; (first | (apply OpTo_box; exact rfl; intro b; skip) | (apply OpTo_val; exact rfl; exact has39; exact member_c _ _ _ _ r.clubs _ hr hn; skip))) | (apply GO_cond; exact rfl; all_goals intro hc; all_goals try simp only [ltI_t, ltI_f, leI_t, leI_f, eqI_t, eqI_f, Bool.not_eq_true', Bool.not_eq_false', decide_eq_true_eq, decide_eq_false_iff_not, reduceCtorEq] at hc; all_goals try (exfalso; omega)) | (apply GOl_split; exact rfl; exact rfl; all_goals intro hc; all_goals try simp only [ltI_t, ltI_f, leI_t, leI_f, eqI_t, eqI_f, Bool.not_eq_true', Bool.not_eq_false', decide_eq_true_eq, decide_eq_false_iff_not, reduceCtorEq] at hc; all_goals try (exfalso; omega)) | (apply GO_retV1; exact rfl; exact rfl; exact rfl))
  all_goals simp only [ltI_eq, leI_eq, eqI_eq, Value.bool.injEq]
  all_goals first
    | (symm; rw [decide_eq_false_iff_not]; unfold ValidX; grind)
    | (symm; rw [decide_eq_true_eq]; unfold ValidX; grind)
    | (rw [decide_eq_decide]; unfold ValidX; grind)
    | skip

theorem validB_c (h : Ro) (s : Rsh) (r : Reg) (hr : SlOf encI 1 h s.ac s.nc r.clubs) (hn : s.nc ≤ 1000000000) (lg d : Int) (m : Value) (x : Ent) :
    Val Try.prog 42 #[.agg #[.int .i64 lg, .slice s.ac s.nc s.cc, .int .i64 d, .slice s.ae s.ne s.ce, m], entV x] h (.bool (decide (ValidX r.clubs d x))) := by
  refine Val_intro (args := [_, _]) ts_ok Go.Proofs.Try.func42 rfl rfl fun w0 X0 => ?_
  repeat' (first | apply GO_seq | apply GO_skip | apply GO_inBlock | apply GO_block | apply GO_region | apply GOl_nil | (apply GOl_unwanted; exact rfl; exact rfl) | (apply GOl_pv; exact rfl; exact rfl; exact rfl) | (apply GOl_load; exact rfl; exact Ld_blk rfl (by (repeat (first | exact List.Mem.head _ | apply List.Mem.tail)); done) rfl; exact rfl; exact rfl) | (apply GOl_to; exact rfl; exact rfl; exact rfl; (first | (apply OpTo_box; exact rfl; intro b; skip) | (apply OpTo_val; exact rfl; exact has53; exact contains_c _ _ _ _ r.clubs _ hr hn; skip))) | (apply GO_cond; exact rfl; all_goals intro hc; all_goals try simp only [ltI_t, ltI_f, leI_t, leI_f, eqI_t, eqI_f, Bool.not_eq_true', Bool.not_eq_false', decide_eq_true_eq, decide_eq_false_iff_not, reduceCtorEq] at hc; all_goals try (exfalso; omega)) | (apply GOl_split; exact rfl; exact rfl; all_goals intro hc; all_goals try simp only [ltI_t, ltI_f, leI_t, leI_f, eqI_t, eqI_f, Bool.not_eq_true', Bool.not_eq_false', decide_eq_true_eq, decide_eq_false_iff_not, reduceCtorEq] at hc; all_goals try (exfalso; omega)) | (apply GO_retV1; exact rfl; exact rfl; exact rfl))
  all_goals simp only [ltI_eq, leI_eq, eqI_eq, Value.bool.injEq]
  all_goals first
    | (symm; rw [decide_eq_false_iff_not]; unfold ValidX; grind)
    | (symm; rw [decide_eq_true_eq]; unfold ValidX; grind)
    | (rw [decide_eq_decide]; unfold ValidX; grind)
    | skip
end Go.Hw


import Derived.Test.YtbgjcjhodlmgjaaW4
set_option linter.unusedVariables false
set_option linter.unusedSimpArgs false
set_option maxRecDepth 100000
set_option maxHeartbeats 800000
namespace Go.Hw
open Go
attribute [local irreducible] GO GOl GDp Val Fn CellsAt
open Go.Proofs (Try.prog)

theorem eff_c (h : Ro) (s : Sta) (x : Ent) (hk : 1 ≤ x.kind ∧ x.kind ≤ 6) : ∃ (f : Nat) (t : Sta), (fits s x = 0 → t = if x.kind = 1 then { s with owner := x.club } else if x.kind = 2 then { s with owner := -1, lock := -1 } else if x.kind = 3 then { s with borrower := x.other } else if x.kind = 4 then { s with borrower := -1 } else if x.kind = 5 then { s with lock := x.transfer } else { s with lock := -1 }) ∧
    f = (if x.kind = 1 then 54 else if x.kind = 2 then 55 else if x.kind = 3 then 56 else if x.kind = 4 then 57 else if x.kind = 5 then 58 else 59) ∧ Has Try.prog f ∧ Val Try.prog f #[staV s, entV x] h (.tuple #[staV t, .int .i64 (fits s x)]) := by
  have h6 : x.kind = 1 ∨ x.kind = 2 ∨ x.kind = 3 ∨ x.kind = 4 ∨ x.kind = 5 ∨ x.kind = 6 := by omega
  rcases h6 with hk | hk | hk | hk | hk | hk
  · obtain ⟨t, h1, h2⟩ := enter_c h s x hk; exact ⟨54, t, by simpa [hk] using h1, by simp [hk], has54, h2⟩
  · obtain ⟨t, h1, h2⟩ := leave_c h s x hk; exact ⟨55, t, by simpa [hk] using h1, by simp [hk], has55, h2⟩
  · obtain ⟨t, h1, h2⟩ := lend_c h s x hk; exact ⟨56, t, by simpa [hk] using h1, by simp [hk], has56, h2⟩
  · obtain ⟨t, h1, h2⟩ := back_c h s x hk; exact ⟨57, t, by simpa [hk] using h1, by simp [hk], has57, h2⟩
  · obtain ⟨t, h1, h2⟩ := secure_c h s x hk; exact ⟨58, t, by simpa [hk] using h1, by simp [hk], has58, h2⟩
  · obtain ⟨t, h1, h2⟩ := free_c h s x hk; exact ⟨59, t, by simpa [hk] using h1, by simp [hk], has59, h2⟩


theorem next_c (h : Ro) (s : Sta) (x : Ent) (hk : 1 ≤ x.kind ∧ x.kind ≤ 6) : ∃ t, (fits s x = 0 → t = after s x) ∧ Val Try.prog 43 #[staV s, entV x] h (.tuple #[staV t, .int .i64 (fits s x)]) := by
  obtain ⟨f, t, h1, h2, h3, h4⟩ := eff_c h s x hk
  refine ⟨if x.kind ≤ 4 then { t with day := x.day, left := decide (x.kind = 2) } else t, fun hf => ?_, ?_⟩
  · rw [h1 hf]; unfold after; grind
  refine Val_intro (args := [_, _]) ts_ok Go.Proofs.Try.func43 rfl rfl fun w0 X0 => ?_
  have hl : lookA x.kind [((1 : Int), Value.func (.func 54) #[staV s] #[]), (2, Value.func (.func 55) #[staV s] #[]), (3, Value.func (.func 56) #[staV s] #[]), (4, Value.func (.func 57) #[staV s] #[]), (5, Value.func (.func 58) #[staV s] #[]), (6, Value.func (.func 59) #[staV s] #[])] = some (Value.func (.func f) #[staV s] #[]) := by
    have h6 : x.kind = 1 ∨ x.kind = 2 ∨ x.kind = 3 ∨ x.kind = 4 ∨ x.kind = 5 ∨ x.kind = 6 := by omega
    rcases h6 with hk | hk | hk | hk | hk | hk <;> simp [hk, lookA, h2]
  repeat' (first | apply GO_seq | apply GO_skip | apply GO_region | apply GOl_nil | (apply GOl_pv; exact rfl; exact rfl; exact rfl) | (apply GOl_load; exact rfl; exact Ld_blk rfl (by (repeat (first | exact List.Mem.head _ | apply List.Mem.tail)); done) rfl; exact rfl; exact rfl) | (apply GOl_ov; exact rfl; exact rfl; (first | (apply OV_lookup (ek := fun i : Int => .int .i64 i) (ev := fun v : Value => v) K3; exact rfl; exact rfl; exact rfl; exact rfl; exact rfl; exact hl)); exact (by repeat' (first | exact trivial | apply And.intro | exact List.Mem.head _ | apply List.Mem.tail))) | (apply GOl_to; exact rfl; exact rfl; exact rfl; (first | (apply OpTo_store; exact rfl; exact rfl; exact rfl; exact (by (repeat (first | exact Repl.here | apply Repl.there)); done); exact rfl; exact rfl; exact rfl; skip) | (apply OpTo_box; exact rfl; intro b; skip) | (apply OpTo_alloc; exact rfl; intro b; skip) | (apply OpTo_makeMap (fun i : Int => .int .i64 i) (fun v : Value => v); intro b1; skip) | (apply OpTo_insert (ek := fun i : Int => .int .i64 i) (ev := fun v : Value => v) K3; exact rfl; exact rfl; exact rfl; exact rfl; exact rfl; exact rfl; exact (by (repeat (first | exact Repl.here | apply Repl.there)); done); skip) | (apply OpTo_valF (f := f) (fs := [staV s]) (cs := []); exact rfl; exact rfl; exact h3; exact h4; skip) | (apply OpTo_val; exact rfl; exact has50; exact moves_c _ x; skip))) | (apply GO_drawp (n := 4) [0, 1, 5, 6, 2, 3, 4, 7, 8] [(0, 0), (1, 0), (2, 0), (3, 0), (4, 0), (5, 0), (6, 1), (7, 0), (8, 1)]; kernel_rfl) | (apply GP_pv; exact rfl; kernel_rfl; exact rfl; exact rfl; exact rfl) | (apply GP_loadB; exact rfl; kernel_rfl; exact rfl; exact rfl; exact rfl; exact (by (repeat (first | exact List.Mem.head _ | apply List.Mem.tail)); done); exact rfl; exact rfl) | (apply GP_real; exact rfl; kernel_rfl; exact rfl; exact rfl; exact rfl; (first | (apply OpTo_store; exact rfl; exact rfl; exact rfl; exact (by (repeat (first | exact Repl.here | apply Repl.there)); done); exact rfl; exact rfl; exact rfl; refine ⟨Le.refl _, by (first | exact NdOk_no rfl | (apply NdOk_all; (repeat' (first | exact trivial | apply And.intro | exact List.Mem.head _ | apply List.Mem.tail)); done) | (apply NdOk_need; (repeat' (first | exact trivial | apply And.intro | exact List.Mem.head _ | apply List.Mem.tail)); done)), ?_⟩))) | (apply GP_done; kernel_rfl; exact rfl) | (apply GO_cond; exact rfl; all_goals intro hc; all_goals try simp only [ltI_t, ltI_f, leI_t, leI_f, eqI_t, eqI_f, Bool.not_eq_true', Bool.not_eq_false', decide_eq_true_eq, decide_eq_false_iff_not, reduceCtorEq] at hc; all_goals try (exfalso; omega)) | (apply GO_retC2; exact rfl; exact rfl; exact rfl; exact (by (repeat (first | exact List.Mem.head _ | apply List.Mem.tail)); done); exact rfl; exact rfl; exact rfl))
  · rw [if_pos hc, eqI_eq]; rfl
  · rw [if_neg (by omega)]; rfl

end Go.Hw


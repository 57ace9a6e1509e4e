import Derived.Test.YtbgjcjhodlmgjaaW13
set_option linter.unusedVariables false
set_option linter.unusedSimpArgs false
set_option maxRecDepth 100000
set_option maxHeartbeats 1600000
namespace Go.Hw
open Go
attribute [local irreducible] GO GOl GDp Val Fn Res CellsAt ValE Blk OwnS MapA
open Go.Proofs (Try.prog)

def toOf (x : Ent) : Int := if x.kind = 2 then -1 else if x.kind = 3 then x.other else x.club
def mvOf (x : Ent) : Mv := ⟨x.day, x.player, toOf x⟩
def movesL (l : List Ent) : List Mv := (l.filter fun x => decide (x.kind ≤ 4)).map mvOf
theorem movesL_snoc (l : List Ent) (x : Ent) : movesL (l ++ [x]) = if x.kind ≤ 4 then movesL l ++ [mvOf x] else movesL l := by
  unfold movesL; rw [List.filter_append, List.map_append]; split <;> simp [*]
theorem movesL_len (l : List Ent) : (movesL l).length ≤ l.length := by
  unfold movesL; rw [List.length_map]; exact List.length_filter_le _ _


open Classical in
theorem movesR_c (h : Ro) (s : Rsh) (r : Reg) (hr : RegAt h s r) : Res Try.prog 26 #[regV r.league r.day s] h (fun v h' => if RegGood r then ∃ A c, v = .tuple #[.slice A (movesL r.ents).length c, .int .i64 0] ∧ SlOf encM 82 h' A (movesL r.ents).length (movesL r.ents) else v = .tuple #[.slice none 0 0, .int .i64 360]) := by
  refine Res_intro (args := [_]) ts_ok Go.Proofs.Try.func26 rfl rfl fun w0 X0 => ?_
  have hlen := hr.ents.len
  have hne := hr.ne
  by_cases hg : RegGood r
  · repeat' (first | apply GO_seq | apply GO_skip | apply GO_block | apply GO_region | apply GOl_nil | (apply GOl_pv; exact rfl; exact rfl; exact rfl) | (apply GOl_load; exact rfl; exact Ld_blk rfl (by (repeat (first | exact List.Mem.head _ | apply List.Mem.tail)); done) rfl; exact rfl; exact rfl) | (apply GOl_to; exact rfl; exact rfl; exact rfl; (first | (apply OpTo_box; exact rfl; intro b; skip) | (apply OpTo_val; exact rfl; exact has17; (have := checkR_c h s r hr; rw [if_pos hg] at this; exact this); skip) | (apply OpTo_buildSliceO (n := 0); exact rfl; exact rfl; exact rfl; exact List.cons_ne_nil _ _; exact rfl; exact rfl; exact rfl; exact rfl; exact rfl; exact rfl; intro b1; skip))) | (apply GO_cond; exact rfl; all_goals intro hc; all_goals try simp only [ltI_t, ltI_f, leI_t, leI_f, eqI_t, eqI_f, Bool.not_eq_true', Bool.not_eq_false', decide_eq_true_eq, decide_eq_false_iff_not, reduceCtorEq] at hc; all_goals try (exfalso; omega)))
    refine GO_loopT (X := Nat × Option Addr × Nat × Ro) (fun x => x.1 ≤ s.ne ∧ Le h x.2.2.2) (fun x => s.ne - x.1)
      (fun x => [(5, .int .i64 x.1), (4, .slice x.2.1 (movesL (r.ents.take x.1)).length x.2.2.1), (1, .pointer (some ⟨b, 0, none⟩))])
      (fun x => [OwnS 95 82 (.slice x.2.1 (movesL (r.ents.take x.1)).length x.2.2.1) (movesL (r.ents.take x.1)).length ((movesL (r.ents.take x.1)).flatMap encM), Blk b 25 (partL (regV r.league r.day s))]) (fun x => x.2.2.2) (0, some ⟨b1, 0, none⟩, 0, h) ⟨by omega, Le.refl _⟩ (by (repeat (first | exact trivial | refine ⟨rfl, ?_⟩)); done) (by (repeat (first | exact Takes_nil | (apply Takes_cons; exact (by (repeat (first | exact Take.here | apply Take.there)); done)))); done) rfl ?_
    rintro ⟨k, A, c, hk⟩ ⟨hkn, hlk⟩ ih
    dsimp only at hkn hlk ih ⊢
    repeat' (first | apply GO_seq | apply GO_skip | apply GO_block | apply GO_region | apply GOl_nil | (apply GO_exit; exact rfl) | (apply GOl_pv; exact rfl; exact rfl; exact rfl) | (apply GOl_load; exact rfl; exact Ld_blk rfl (by (repeat (first | exact List.Mem.head _ | apply List.Mem.tail)); done) rfl; exact rfl; exact rfl) | (apply GO_cond; exact rfl; all_goals intro hc; all_goals try simp only [ltI_t, ltI_f, leI_t, leI_f, eqI_t, eqI_f, Bool.not_eq_true', Bool.not_eq_false', decide_eq_true_eq, decide_eq_false_iff_not, reduceCtorEq] at hc; all_goals try (exfalso; omega)))
    · have hkn2 : k < s.ne := by omega
      have a1 := hr.ents.addrD hkn2
      have c1 := (hr.ents.cellsD e0 hkn2).le hlk
      have et := take_snocE hlen hkn2
      have hml := movesL_len (r.ents.take k)
      have hml2 : (r.ents.take k).length ≤ k := List.length_take_le _ _
      repeat' (first | apply GO_seq | apply GO_skip | apply GO_inBlock | apply GO_block | apply GO_region | apply GOl_nil | (apply GOl_add; exact rfl; exact rfl; exact rfl; omega; exact rfl; exact rfl) | (apply GOl_pv; exact rfl; exact rfl; exact rfl) | (apply GOl_load; exact rfl; exact Ld_blk rfl (by (repeat (first | exact List.Mem.head _ | apply List.Mem.tail)); done) rfl; exact rfl; exact rfl) | (apply GOl_ov; exact rfl; exact rfl; (first | (apply OV_load; exact rfl; first | exact Lv_ro rfl (by assumption) rfl | exact Lv_roF rfl (by assumption) rfl | exact Lv_roF2 rfl (by assumption) rfl | exact Lv_roF3 rfl (by assumption) rfl) | (apply OV_idxS; exact rfl; exact rfl; exact rfl; exact rfl; exact rfl; assumption; exact rfl; first | assumption | omega)); exact (by repeat' (first | exact trivial | apply And.intro | exact List.Mem.head _ | apply List.Mem.tail))) | (apply GOl_to; exact rfl; exact rfl; exact rfl; (first | (apply OpTo_store; exact rfl; exact rfl; exact rfl; exact (by (repeat (first | exact Repl.here | apply Repl.there)); done); exact rfl; exact rfl; exact rfl; skip) | (apply OpTo_alloc; exact rfl; intro b; skip) | (apply OpTo_buildSliceS (enc := encM) (n := 1) [⟨_, _, _⟩]; exact rfl; exact rfl; exact rfl; exact List.cons_ne_nil _ _; exact rfl; exact rfl; exact rfl; exact rfl; exact encM_len; exact rfl; exact rfl; intro b1 h1 hle1 hs1; skip) | (apply OpTo_appendS (enc := encM) (xs := movesL (r.ents.take k)); exact rfl; exact rfl; exact rfl; exact rfl; exact rfl; exact rfl; exact rfl; exact hs1; exact encM_len; exact fun _ => allOne_ok rfl; intro v1; exact (by (repeat (first | exact Repl.here | apply Repl.there)); done); omega; exact rfl; intro A1 c1; skip))) | (apply GO_cond; exact rfl; all_goals intro hc; all_goals try simp only [ltI_t, ltI_f, leI_t, leI_f, eqI_t, eqI_f, Bool.not_eq_true', Bool.not_eq_false', decide_eq_true_eq, decide_eq_false_iff_not, reduceCtorEq] at hc; all_goals try (exfalso; omega)))
      all_goals first
        | (have q4 : (r.ents.getD k e0).kind ≤ 4 := by omega
           have q2 : (r.ents.getD k e0).kind = 2 := by omega
           have ht : toOf (r.ents.getD k e0) = -1 := by rw [toOf, if_pos q2]
           have hm : mvOf (r.ents.getD k e0) = ⟨(r.ents.getD k e0).day, (r.ents.getD k e0).player, -1⟩ := by rw [mvOf, ht]
           have h2 := ih (k + 1, A1, c1, h1) ⟨by show k + 1 ≤ s.ne; omega, hlk.trans hle1⟩ (by show s.ne - (k + 1) < s.ne - k; omega)
           dsimp only at h2
           rw [et, movesL_snoc, if_pos q4, List.length_append, hm] at h2
           refine GO_fit (by (repeat (first | exact trivial | refine ⟨rfl, ?_⟩)); done) (by (repeat (first | exact Takes_nil | (apply Takes_cons; exact (by (repeat (first | exact Take.here | apply Take.there)); done)))); done) (h2))
        | (have q4 : (r.ents.getD k e0).kind ≤ 4 := by omega
           have q2 : (r.ents.getD k e0).kind = 3 := by omega
           have ht : toOf (r.ents.getD k e0) = (r.ents.getD k e0).other := by rw [toOf, if_neg (by omega), if_pos q2]
           have hm : mvOf (r.ents.getD k e0) = ⟨(r.ents.getD k e0).day, (r.ents.getD k e0).player, (r.ents.getD k e0).other⟩ := by rw [mvOf, ht]
           have h2 := ih (k + 1, A1, c1, h1) ⟨by show k + 1 ≤ s.ne; omega, hlk.trans hle1⟩ (by show s.ne - (k + 1) < s.ne - k; omega)
           dsimp only at h2
           rw [et, movesL_snoc, if_pos q4, List.length_append, hm] at h2
           refine GO_fit (by (repeat (first | exact trivial | refine ⟨rfl, ?_⟩)); done) (by (repeat (first | exact Takes_nil | (apply Takes_cons; exact (by (repeat (first | exact Take.here | apply Take.there)); done)))); done) (h2))
        | (have q4 : (r.ents.getD k e0).kind ≤ 4 := by omega
           have q2 : (r.ents.getD k e0).kind ≠ 2 ∧ (r.ents.getD k e0).kind ≠ 3 := by omega
           have ht : toOf (r.ents.getD k e0) = (r.ents.getD k e0).club := by rw [toOf, if_neg q2.1, if_neg q2.2]
           have hm : mvOf (r.ents.getD k e0) = ⟨(r.ents.getD k e0).day, (r.ents.getD k e0).player, (r.ents.getD k e0).club⟩ := by rw [mvOf, ht]
           have h2 := ih (k + 1, A1, c1, h1) ⟨by show k + 1 ≤ s.ne; omega, hlk.trans hle1⟩ (by show s.ne - (k + 1) < s.ne - k; omega)
           dsimp only at h2
           rw [et, movesL_snoc, if_pos q4, List.length_append, hm] at h2
           refine GO_fit (by (repeat (first | exact trivial | refine ⟨rfl, ?_⟩)); done) (by (repeat (first | exact Takes_nil | (apply Takes_cons; exact (by (repeat (first | exact Take.here | apply Take.there)); done)))); done) (h2))
        | (have q4 : ¬ (r.ents.getD k e0).kind ≤ 4 := by omega
           have h2 := ih (k + 1, A, c, hk) ⟨by show k + 1 ≤ s.ne; omega, hlk⟩ (by show s.ne - (k + 1) < s.ne - k; omega)
           dsimp only at h2
           rw [et, movesL_snoc, if_neg q4] at h2
           refine GO_fit (by (repeat (first | exact trivial | refine ⟨rfl, ?_⟩)); done) (by (repeat (first | exact Takes_nil | (apply Takes_cons; exact (by (repeat (first | exact Take.here | apply Take.there)); done)))); done) (h2))
    · have ht : r.ents.take k = r.ents := List.take_of_length_le (by omega)
      rw [ht]
      refine GO_relC (enc := encM) (e := 95) (sz := 82) encM_len rfl (by (repeat (first | exact Take.here | apply Take.there)); done) ?_
      intro A2 c2 h2 hle2 e2 hnc2 hs2
      injection e2 with e21 _ e23
      subst e21; subst e23
      (first | (apply GO_retR2; exact rfl; exact rfl; exact rfl; exact rfl))
      rw [if_pos hg]
      exact ⟨A, c, rfl, hs2⟩
  · repeat' (first | apply GO_seq | apply GO_region | apply GOl_nil | (apply GOl_pv; exact rfl; exact rfl; exact rfl) | (apply GOl_load; exact rfl; exact Ld_blk rfl (by (repeat (first | exact List.Mem.head _ | apply List.Mem.tail)); done) rfl; exact rfl; exact rfl) | (apply GOl_to; exact rfl; exact rfl; exact rfl; (first | (apply OpTo_box; exact rfl; intro b; skip) | (apply OpTo_val; exact rfl; exact has17; (have := checkR_c h s r hr; rw [if_neg hg] at this; exact this); skip))) | (apply GO_cond; exact rfl; all_goals intro hc; all_goals try simp only [ltI_t, ltI_f, leI_t, leI_f, eqI_t, eqI_f, Bool.not_eq_true', Bool.not_eq_false', decide_eq_true_eq, decide_eq_false_iff_not, reduceCtorEq] at hc; all_goals try (exfalso; omega)) | (apply GO_retR2; exact rfl; exact rfl; exact rfl; exact rfl))
    rw [if_neg hg]
end Go.Hw


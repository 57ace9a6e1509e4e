import Derived.Test.YtbgjcjhodlmgjaaW14
set_option linter.unusedVariables false
set_option linter.unusedSimpArgs false
set_option maxRecDepth 100000
set_option maxHeartbeats 400000
namespace Go.Hw
open Go
attribute [local irreducible] GO GOl GDp Val Fn Res CellsAt ValE Blk OwnS MapA Yl
open Go.Proofs (Try.prog)


theorem steps_c (h : Ro) (v : Value) (A : Option Addr) (n c : Nat) (hv : v = .slice A n c) : Res Try.prog 40 #[v] h (fun u h' => ∃ bx, u = .func (.func 49) #[] #[.pointer (some ⟨bx, 0, none⟩)] ∧ CellsAt h' ⟨bx, 0, none⟩ [.slice A n c]) := by
  subst hv
  refine Res_intro (args := [_]) ts_ok Go.Proofs.Try.func40 rfl rfl fun w0 X0 => ?_
  repeat' (first | apply GO_seq | apply GO_region | apply GOl_nil | (apply GOl_pv; exact rfl; exact rfl; exact rfl) | (apply GOl_to; exact rfl; exact rfl; exact rfl; (first | (apply OpTo_box; exact rfl; intro b; skip))))
  refine GO_relB (by (repeat (first | exact Take.here | apply Take.there)); done) ?_
  intro h1 hle1 hc1
  (first | (apply GO_retR1; exact rfl; exact rfl; exact rfl))
  exact ⟨b, rfl, hc1⟩

theorem movesL_app (a b : List Ent) : movesL (a ++ b) = movesL a ++ movesL b := by simp [movesL, List.filter_append, List.map_append]
theorem take_drop_cons {l : List Ent} {k n : Nat} (hlen : l.length = n) (hk : k < n) : l = l.take k ++ l.getD k e0 :: l.drop (k + 1) := by
  rw [← drop_consE hlen hk, List.take_append_drop]

theorem movesL_cons (x : Ent) (r : List Ent) : movesL (x :: r) = if x.kind ≤ 4 then mvOf x :: movesL r else movesL r := by
  unfold movesL; rw [List.filter_cons]; split <;> simp_all
def encM1 (m : Mv) : List Value := [.agg (encM m).toArray]

theorem stepsSeq (h : Ro) (bx : Nat) (A : Option Addr) (n c : Nat) (l : List Ent) (hb : CellsAt h ⟨bx, 0, none⟩ [.slice A n c]) (hl : SlOf encE 7 h A n l) (hn : n ≤ 1000000000) :
    SeqFn Try.prog 49 [.pointer (some ⟨bx, 0, none⟩)] encM1 (movesL l) h := by
  intro lid I Ix mI mIx hround Es h1 hle h0
  refine Fn_intro (args := [_, _]) ts_ok Go.Proofs.Try.func49 rfl rfl fun w0 X0 => ?_
  have hlen := hl.len
  have hb1 := hb.le hle
  repeat' (first | apply GO_seq | apply GO_block | apply GO_region | apply GOl_nil | (apply GOl_pv; exact rfl; exact rfl; exact rfl) | (apply GOl_ov; exact rfl; exact rfl; (first | (apply OV_load; exact rfl; first | exact Lv_ro rfl (by assumption) rfl | exact Lv_roF rfl (by assumption) rfl | exact Lv_roF2 rfl (by assumption) rfl | exact Lv_roF3 rfl (by assumption) rfl)); exact (by repeat' (first | exact trivial | apply And.intro | exact List.Mem.head _ | apply List.Mem.tail))))
  refine GO_while (X := Nat × List Asn × Ro) (fun x => x.1 ≤ n ∧ Le h x.2.2 ∧ I (movesL (l.take x.1)) x.2.1 x.2.2) (fun x => n - x.1) (fun x => [(8, .int .i64 x.1), (7, .int .i64 n), (6, .slice A n c), (0, .func (.yield lid) #[] #[])])
    (fun x => x.2.1) (fun x => x.2.2) (0, Es, h1) ⟨by omega, hle, h0⟩ (by (repeat (first | exact trivial | refine ⟨rfl, ?_⟩)); done) rfl rfl ?_
  rintro ⟨k, Es1, hk⟩ ⟨hkn, hlk, hI⟩ ih
  dsimp only at hkn hlk hI ih ⊢
  repeat' (first | apply GO_seq | apply GO_skip | apply GO_block | apply GO_region | apply GOl_nil | (apply GO_exit; exact rfl) | (apply GOl_pv; exact rfl; exact rfl; exact rfl) | (apply GO_cond; exact rfl; all_goals intro hc; all_goals try simp only [ltI_t, ltI_f, leI_t, leI_f, eqI_t, eqI_f, Bool.not_eq_true', Bool.not_eq_false', decide_eq_true_eq, decide_eq_false_iff_not, reduceCtorEq] at hc; all_goals try (exfalso; omega)))
  · have hkn2 : k < n := by omega
    have a1 := hl.addrD hkn2
    have c1 := (hl.cellsD e0 hkn2).le hlk
    have et := take_snocE hlen hkn2
    have hsplit := take_drop_cons hlen hkn2
    have hyA : (l.getD k e0).kind ≤ 4 → movesL l = movesL (l.take k) ++ mvOf (l.getD k e0) :: movesL (l.drop (k + 1)) ∧ ∀ T, toOf (l.getD k e0) = T → Yl Try.prog lid [.agg (encM ⟨(l.getD k e0).day, (l.getD k e0).player, T⟩).toArray] Es1 hk fun v Es' h' => (v = .bool true ∧ I (movesL (l.take (k + 1))) Es' h') ∨ (v = .bool false ∧ Ix (movesL (l.take (k + 1))) Es' h') := by
      intro h4
      have hmv : movesL l = movesL (l.take k) ++ mvOf (l.getD k e0) :: movesL (l.drop (k + 1)) := by
        conv => lhs; rw [hsplit]
        rw [movesL_app, movesL_cons, if_pos h4]
      refine ⟨hmv, ?_⟩
      rintro T rfl
      have hy := hround _ _ _ Es1 hk hmv hlk hI
      rw [et, movesL_snoc, if_pos h4]
      exact hy
    repeat' (first | apply GO_seq | apply GO_skip | apply GO_inBlock | apply GO_block | apply GO_region | apply GOl_nil | (apply GOl_unwanted; exact rfl; exact rfl) | (apply GOl_add; exact rfl; exact rfl; exact rfl; omega; exact rfl; exact rfl) | (apply GOl_pv; exact rfl; exact rfl; exact rfl) | (apply GOl_load; exact rfl; exact Ld_blk rfl (by (repeat (first | exact List.Mem.head _ | apply List.Mem.tail)); done) rfl; exact rfl; exact rfl) | (apply GOl_ov; exact rfl; exact rfl; (first | (apply OV_load; exact rfl; first | exact Lv_ro rfl (by assumption) rfl | exact Lv_roF rfl (by assumption) rfl | exact Lv_roF2 rfl (by assumption) rfl | exact Lv_roF3 rfl (by assumption) rfl) | (apply OV_idxS; exact rfl; exact rfl; exact rfl; exact rfl; exact rfl; assumption; exact rfl; first | assumption | omega)); exact (by repeat' (first | exact trivial | apply And.intro | exact List.Mem.head _ | apply List.Mem.tail))) | (apply GOl_to; exact rfl; exact rfl; exact rfl; (first | (apply OpTo_store; exact rfl; exact rfl; exact rfl; exact (by (repeat (first | exact Repl.here | apply Repl.there)); done); exact rfl; exact rfl; exact rfl; skip) | (apply OpTo_alloc; exact rfl; intro b; skip) | (refine OpTo_perm (List.perm_append_comm (l₁ := [_])) ?_; apply OpTo_yield (Es0 := Es1) (Fs := [_]); exact rfl; exact rfl; exact rfl; exact (hyA (by omega)).2 _ (by unfold toOf; split <;> (try split) <;> first | rfl | (exfalso; omega)); rintro v E2 h2 hle2 (⟨rfl, hP⟩ | ⟨rfl, hP⟩); all_goals skip) | (apply OpTo_val; exact rfl; exact has50; exact moves_c _ _; skip))) | (apply GO_cond; exact rfl; all_goals intro hc; all_goals try simp only [ltI_t, ltI_f, leI_t, leI_f, eqI_t, eqI_f, Bool.not_eq_true', Bool.not_eq_false', decide_eq_true_eq, decide_eq_false_iff_not, reduceCtorEq] at hc; all_goals try (exfalso; omega)) | (apply GOl_split; exact rfl; exact rfl; all_goals intro hc; all_goals try simp only [ltI_t, ltI_f, leI_t, leI_f, eqI_t, eqI_f, Bool.not_eq_true', Bool.not_eq_false', decide_eq_true_eq, decide_eq_false_iff_not, reduceCtorEq] at hc; all_goals try (exfalso; omega)))
    all_goals first
      | (have h3 := ih (k + 1, E2, h2) ⟨by show k + 1 ≤ n; omega, hlk.trans hle2, hP⟩ (by show n - (k + 1) < n - k; omega)
         refine GO_perm (List.perm_append_comm (l₁ := E2) (l₂ := [_])) (GO_drop .here ?_)
         exact GO_keep (by (repeat (first | exact trivial | refine ⟨rfl, ?_⟩)); done) h3)
      | (have h4 : (l.getD k e0).kind ≤ 4 := by omega
         refine GO_retS (rs := []) (vs := []) (Fs := E2) rfl rfl trivial (List.sublist_append_left _ _) (.inr ⟨movesL (l.take (k + 1)), movesL (l.drop (k + 1)), ?_, hP⟩)
         rw [et, movesL_snoc, if_pos h4, (hyA h4).1]; simp)
      | (have h4 : ¬ (l.getD k e0).kind ≤ 4 := by omega
         have h3 := ih (k + 1, Es1, hk) ⟨by show k + 1 ≤ n; omega, hlk, by show I (movesL (l.take (k + 1))) _ _; rw [et, movesL_snoc, if_neg h4]; exact hI⟩ (by show n - (k + 1) < n - k; omega)
         refine GO_drop .here ?_
         exact GO_keep (by (repeat (first | exact trivial | refine ⟨rfl, ?_⟩)); done) h3)
  · have ht : l.take k = l := List.take_of_length_le (by omega)
    rw [ht] at hI
    exact GO_end (rs := []) (vs := []) rfl rfl trivial (.inl hI)


open Classical in
theorem regMoves_n (h : Ro) (s : Rsh) (r : Reg) (hr : RegAt h s r) : Res Try.prog 25 #[regV r.league r.day s] h (fun v h' => if RegGood r then ∃ A c, v = .tuple #[.slice A (movesL r.ents).length c, .int .i64 0] ∧ (movesL r.ents).length ≤ c ∧ SlOf encM 82 h' A (movesL r.ents).length (movesL r.ents) else v = .tuple #[.slice none 0 0, .int .i64 360]) := by
  refine Res_intro (args := [_]) ts_ok Go.Proofs.Try.func25 rfl rfl fun w0 X0 => ?_
  have hlen := hr.ents.len
  have hne := hr.ne
  have hml := movesL_len r.ents
  by_cases hg : RegGood r
  · repeat' (first | apply GO_seq | apply GO_skip | apply GO_block | apply GO_region | apply GOl_nil | (apply GOl_pv; exact rfl; exact rfl; exact rfl) | (apply GOl_load; exact rfl; exact Ld_blk rfl (by (repeat (first | exact List.Mem.head _ | apply List.Mem.tail)); done) rfl; exact rfl; exact rfl) | (apply GOl_to; exact rfl; exact rfl; exact rfl; (first | (apply OpTo_box; exact rfl; intro b; skip) | (apply OpTo_alloc; exact rfl; intro b; skip) | (apply OpTo_val; exact rfl; exact has16; (have := check_c h s r hr; rw [if_pos hg] at this; exact this); skip) | (apply OpTo_res; exact rfl; exact has40; exact steps_c _ _ s.ae s.ne s.ce rfl; rintro vr hs1 hle1 ⟨bx, rfl, hcb⟩; skip))) | (apply GO_cond; exact rfl; all_goals intro hc; all_goals try simp only [ltI_t, ltI_f, leI_t, leI_f, eqI_t, eqI_f, Bool.not_eq_true', Bool.not_eq_false', decide_eq_true_eq, decide_eq_false_iff_not, reduceCtorEq] at hc; all_goals try (exfalso; omega)))
    rename_i b0
    generalize b = bT
    refine GO_nilS 95 82 ?_
    refine GO_take (Es' := [Blk bT 44 [.slice none 0 0], OwnS 95 82 (.slice none 0 0) 0 [], Blk b0 25 (partL (regV r.league r.day s))]) (by (repeat (first | exact Takes_nil | (apply Takes_cons; exact (by (repeat (first | exact Take.here | apply Take.there)); done)))); done) ?_
    refine GO_rangeFunc (enc := encM1) (xs := movesL r.ents) (gf := 49) (lb := [.pointer (some ⟨bx, 0, none⟩)]) rfl rfl has49 (stepsSeq _ bx _ _ _ _ hcb (hr.ents.le hle1) hr.ne) (fun _ => rfl) rfl
      (fun pre Es _ => ∃ A c, Es = [Blk bT 44 [.slice A pre.length c], OwnS 95 82 (.slice A pre.length c) pre.length (pre.flatMap encM), Blk b0 25 (partL (regV r.league r.day s))]) (fun _ _ _ _ => False)
      (fun _ _ _ _ _ h => h) (fun _ _ _ _ _ _ h => h.elim) ⟨none, 0, rfl⟩ ?_ ?_ (fun _ _ _ _ _ _ _ _ h => h.elim)
    · rintro lid r0 w1 X1 pre x post Es1 h1 hx ⟨A, c, rfl⟩ hle hst
      have hpl : pre.length + 1 ≤ (movesL r.ents).length := by rw [hx]; simp
      repeat' (first | apply GO_inBlock | apply GO_block | apply GO_region | apply GOl_nil | (apply GO_begin; exact rfl; exact (by (repeat (first | exact Take.here | apply Take.there)); done); exact hst) | (apply GOl_load; exact rfl; exact Ld_blk rfl (by (repeat (first | exact List.Mem.head _ | apply List.Mem.tail)); done) rfl; exact rfl; exact rfl) | (apply GOl_to; exact rfl; exact rfl; exact rfl; (first | (apply OpTo_store; exact rfl; exact rfl; exact rfl; exact (by (repeat (first | exact Repl.here | apply Repl.there)); done); exact rfl; exact rfl; exact rfl; skip) | (apply OpTo_alloc; exact rfl; intro b; skip) | (apply OpTo_buildSliceS (enc := encM) (n := 1) [x]; exact rfl; exact rfl; exact rfl; exact List.cons_ne_nil _ _; exact rfl; exact rfl; exact rfl; exact rfl; exact encM_len; exact rfl; exact rfl; intro b1 h1 hle1 hs1; skip) | (apply OpTo_appendS (enc := encM) (xs := pre); exact rfl; exact rfl; exact rfl; exact rfl; exact rfl; exact rfl; exact rfl; exact hs1; exact encM_len; exact fun _ => allOne_ok rfl; intro v1; exact (by (repeat (first | exact Repl.here | apply Repl.there)); done); omega; exact rfl; intro A1 c1; skip))))
      refine GO_take (Es' := [LoopA lid { r0 with state := .busy }, Blk bT 44 [.slice A1 (pre.length + 1) c1], OwnS 95 82 (.slice A1 (pre.length + 1) c1) (pre.length + 1) ((pre ++ [x]).flatMap encM), Blk b0 25 (partL (regV r.league r.day s))]) (by (repeat (first | exact Takes_nil | (apply Takes_cons; exact (by (repeat (first | exact Take.here | apply Take.there)); done)))); done) (GO_rEnd (r0 := r0) rfl .here ⟨A1, c1, ?_⟩)
      rw [List.length_append]; rfl
    · rintro D h1 Es1 hle ⟨A, c, rfl⟩
      repeat' (first | apply GO_seq | apply GO_inBlock | apply GO_region | apply GOl_nil | (apply GOl_pv; exact rfl; exact rfl; exact rfl) | (apply GOl_load; exact rfl; exact Ld_blk rfl (by (repeat (first | exact List.Mem.head _ | apply List.Mem.tail)); done) rfl; exact rfl; exact rfl) | (apply GOl_to; exact rfl; exact rfl; exact rfl; (first | (apply OpTo_store; exact rfl; exact rfl; exact rfl; exact (by (repeat (first | exact Repl.here | apply Repl.there)); done); exact rfl; exact rfl; exact rfl; skip))))
      refine GO_relC (enc := encM) (e := 95) (sz := 82) encM_len rfl (by (repeat (first | exact Take.here | apply Take.there)); done) ?_
      intro A2 c2 h2 hle2 e2 hnc2 hs2
      injection e2 with e21 _ e23
      subst e21; subst e23
      refine GO_rt (Rt_mark rfl (by (repeat (first | exact Take.here | apply Take.there)); done) (Rt_S (rs := [.cell 2 44, .tmp 3]) (vs := [.slice A (movesL r.ents).length c, .int .i64 0]) rfl rfl ⟨⟨_, rfl, Ld_blk rfl (by (repeat (first | exact List.Mem.head _ | apply List.Mem.tail)); done) rfl⟩, rfl, trivial⟩ (List.nil_sublist _) ⟨rfl, ?_⟩))
      show if RegGood r then _ else _
      rw [if_pos hg]
      exact ⟨A, c, rfl, hnc2, hs2⟩
  · repeat' (first | apply GO_seq | apply GO_region | apply GOl_nil | (apply GOl_pv; exact rfl; exact rfl; exact rfl) | (apply GOl_load; exact rfl; exact Ld_blk rfl (by (repeat (first | exact List.Mem.head _ | apply List.Mem.tail)); done) rfl; exact rfl; exact rfl) | (apply GOl_to; exact rfl; exact rfl; exact rfl; (first | (apply OpTo_store; exact rfl; exact rfl; exact rfl; exact (by (repeat (first | exact Repl.here | apply Repl.there)); done); exact rfl; exact rfl; exact rfl; skip) | (apply OpTo_box; exact rfl; intro b; skip) | (apply OpTo_alloc; exact rfl; intro b; skip) | (apply OpTo_val; exact rfl; exact has16; (have := check_c h s r hr; rw [if_neg hg] at this; exact this); skip))) | (apply GO_cond; exact rfl; all_goals intro hc; all_goals try simp only [ltI_t, ltI_f, leI_t, leI_f, eqI_t, eqI_f, Bool.not_eq_true', Bool.not_eq_false', decide_eq_true_eq, decide_eq_false_iff_not, reduceCtorEq] at hc; all_goals try (exfalso; omega)) | (apply GO_retRC2; exact rfl; exact rfl; exact rfl; exact (by (repeat (first | exact List.Mem.head _ | apply List.Mem.tail)); done); exact rfl; exact rfl; exact rfl))
    rw [if_neg hg]
open Classical in
theorem regMoves_c (h : Ro) (s : Rsh) (r : Reg) (hr : RegAt h s r) : Res Try.prog 25 #[regV r.league r.day s] h (fun v h' => if RegGood r then ∃ A c, v = .tuple #[.slice A (movesL r.ents).length c, .int .i64 0] ∧ SlOf encM 82 h' A (movesL r.ents).length (movesL r.ents) else v = .tuple #[.slice none 0 0, .int .i64 360]) :=
  Res.mono (regMoves_n h s r hr) fun v h' _ hp => by
    split
    · rename_i hg
      rw [if_pos hg] at hp
      obtain ⟨A, c, h1, _, h2⟩ := hp
      exact ⟨A, c, h1, h2⟩
    · rename_i hg
      rw [if_neg hg] at hp; exact hp
end Go.Hw


import Derived.Test.YtbgjcjhodlmgjaaW9
set_option linter.unusedVariables false
set_option linter.unusedSimpArgs false
set_option maxRecDepth 100000
set_option maxHeartbeats 1600000
namespace Go.Hw
open Go
attribute [local irreducible] GO GOl GDp Val Fn Res CellsAt ValE Blk OwnS MapA
open Go.Proofs (Try.prog)

theorem bookOf_len {clubs : List Int} : ∀ {l acc : List Ent} {d d' : Int}, bookOf clubs d acc l = some d' → l = [] ∨ acc.length + l.length ≤ 65536
  | [], _, _, _, _ => .inl rfl
  | x :: r, acc, d, d', h => by
    right
    unfold bookOf at h
    split at h
    · rename_i h0
      have h1 := addE_lt h0
      rcases bookOf_len h with h2 | h2
      · subst h2; simp; omega
      · simp at h2 ⊢; omega
    · cases h


open Classical in
theorem checkR_c (h : Ro) (s : Rsh) (r : Reg) (hr : RegAt h s r) : Val Try.prog 17 #[regV r.league r.day s] h (.int .i64 (if RegGood r then 0 else 360)) := by
  refine Val_intro (args := [_]) ts_ok Go.Proofs.Try.func17 rfl rfl fun w0 X0 => ?_
  have hlen := hr.ents.len
  have hne := hr.ne
  by_cases hO : OpenOk r.league r.clubs
  · repeat' (first | apply GO_seq | apply GO_skip | apply GO_block | apply GO_region | apply GOl_nil | (apply GOl_pv; exact rfl; exact rfl; exact rfl) | (apply GOl_load; exact rfl; exact Ld_blk rfl (by (repeat (first | exact List.Mem.head _ | apply List.Mem.tail)); done) rfl; exact rfl; exact rfl) | (apply GOl_to; exact rfl; exact rfl; exact rfl; (first | (apply OpTo_store; exact rfl; exact rfl; exact rfl; exact (by (repeat (first | exact Repl.here | apply Repl.there)); done); exact rfl; exact rfl; exact rfl; skip) | (apply OpTo_box; exact rfl; intro b; skip) | (apply OpTo_alloc; exact rfl; intro b; skip) | (apply OpTo_val; exact rfl; exact has12; (have := newR_c h r.league _ _ s.cc r.clubs hr.clubs hr.nc; rw [if_pos hO] at this; exact this); skip))) | (apply GO_cond; exact rfl; all_goals intro hc; all_goals try simp only [ltI_t, ltI_f, leI_t, leI_f, eqI_t, eqI_f, Bool.not_eq_true', Bool.not_eq_false', decide_eq_true_eq, decide_eq_false_iff_not, reduceCtorEq] at hc; all_goals try (exfalso; omega)) | (apply GOl_split; exact rfl; exact rfl; all_goals intro hc; all_goals try simp only [ltI_t, ltI_f, leI_t, leI_f, eqI_t, eqI_f, Bool.not_eq_true', Bool.not_eq_false', decide_eq_true_eq, decide_eq_false_iff_not, reduceCtorEq] at hc; all_goals try (exfalso; omega)) | (apply GO_retV1; exact rfl; exact rfl; exact rfl))
    · rw [if_neg]
      rintro ⟨_, hg⟩
      rcases bookOf_len hg with h1 | h1
      · rw [h1] at hlen; simp at hlen; omega
      · simp at h1; omega
    rename_i b1 _
    rename Nat => b3
    refine GO_loopT (X := Nat × Int × Rsh × Ro) (fun x => x.1 ≤ s.ne ∧ Le h x.2.2.2 ∧ RegAt x.2.2.2 x.2.2.1 ⟨r.league, r.clubs, x.2.1, r.ents.take x.1⟩ ∧ bookOf r.clubs 0 [] r.ents = bookOf r.clubs x.2.1 (r.ents.take x.1) (r.ents.drop x.1)) (fun x => s.ne - x.1)
      (fun x => [(5, .int .i64 x.1), (1, .pointer (some ⟨b1, 0, none⟩)), (3, .pointer (some ⟨b3, 0, none⟩))])
      (fun x => [Blk b3 25 (partL (regV r.league x.2.1 x.2.2.1)), Blk b1 25 (partL (regV r.league r.day s))]) (fun x => x.2.2.2) (0, 0, ⟨s.ac, s.nc, s.cc, none, 0, 0⟩, h) ?_ (by (repeat (first | exact trivial | refine ⟨rfl, ?_⟩)); done) (by (repeat (first | exact Takes_nil | (apply Takes_cons; exact (by (repeat (first | exact Take.here | apply Take.there)); done)))); done) rfl ?_
    · exact ⟨by omega, Le.refl _, ⟨hr.clubs, SlOf.nil, hr.nc, by simp⟩, rfl⟩
    rintro ⟨k, d, sk, hk⟩ ⟨hkn, hlk, hat, hI⟩ ih
    dsimp only at hkn hlk hat hI ih ⊢
    repeat' (first | apply GO_seq | apply GO_skip | apply GO_block | apply GO_region | apply GOl_nil | (apply GO_exit; exact rfl) | (apply GOl_pv; exact rfl; exact rfl; exact rfl) | (apply GOl_load; exact rfl; exact Ld_blk rfl (by (repeat (first | exact List.Mem.head _ | apply List.Mem.tail)); done) rfl; exact rfl; exact rfl) | (apply GO_drawp (n := 7) [0, 1, 2, 3, 4, 5, 6, 7, 8, 10, 9, 11] [(0, 0), (1, 0), (2, 0), (3, 0), (4, 0), (5, 0), (6, 1), (7, 0), (8, 0), (9, 0), (10, 1), (11, 0)]; kernel_rfl) | (apply GP_pv; exact rfl; kernel_rfl; exact rfl; exact rfl; exact rfl) | (apply GP_loadB; exact rfl; kernel_rfl; exact rfl; exact rfl; exact rfl; exact (by (repeat (first | exact List.Mem.head _ | apply List.Mem.tail)); done); exact rfl; exact rfl) | (apply GO_cond; exact rfl; all_goals intro hc; all_goals try simp only [ltI_t, ltI_f, leI_t, leI_f, eqI_t, eqI_f, Bool.not_eq_true', Bool.not_eq_false', decide_eq_true_eq, decide_eq_false_iff_not, reduceCtorEq] at hc; all_goals try (exfalso; omega)) | (apply GO_retV1; exact rfl; exact rfl; exact rfl))
    · have hkn2 : k < s.ne := by omega
      obtain ⟨ad, had⟩ := hr.ents.addr (by omega)
      have hents := hr.ents
      rw [had] at hents ⊢
      have c1 := (hents.cells e0 hkn2).le hlk
      by_cases h0 : addE r.clubs d (r.ents.take k) (r.ents.getD k e0) = 0
      · have hadd : Res Try.prog 33 #[regV r.league d sk, entV (r.ents.getD k e0)] hk (regR (⟨r.league, r.clubs, (r.ents.getD k e0).day, r.ents.take k ++ [r.ents.getD k e0]⟩, 0)) := by
          have := addR_c hk sk _ hat (r.ents.getD k e0)
          rw [addR, if_pos h0] at this; exact this
        repeat' (first | apply GO_seq | apply GO_skip | apply GO_inBlock | apply GO_region | apply GOl_nil | (apply GOl_add; exact rfl; exact rfl; exact rfl; omega; exact rfl; exact rfl) | (apply GOl_pv; exact rfl; exact rfl; exact rfl) | (apply GP_pv; exact rfl; kernel_rfl; exact rfl; exact rfl; exact rfl) | (apply GP_ov; exact rfl; kernel_rfl; exact rfl; exact rfl; (first | (apply OV_load; exact rfl; first | exact Lv_ro rfl (by assumption) rfl | exact Lv_roF rfl (by assumption) rfl | exact Lv_roF2 rfl (by assumption) rfl | exact Lv_roF3 rfl (by assumption) rfl) | (apply OV_idx; exact rfl; exact rfl; exact rfl; exact rfl; exact rfl; exact rfl; first | assumption | omega)); exact (by repeat' (first | exact trivial | apply And.intro | exact List.Mem.head _ | apply List.Mem.tail))) | (apply GP_real; exact rfl; kernel_rfl; exact rfl; exact rfl; exact rfl; (first | (apply OpTo_store; exact rfl; exact rfl; exact rfl; exact (by (repeat (first | exact Repl.here | apply Repl.there)); done); exact rfl; exact rfl; exact rfl; refine ⟨Le.refl _, by (first | exact NdOk_no rfl | (apply NdOk_all; (repeat' (first | exact trivial | apply And.intro | exact List.Mem.head _ | apply List.Mem.tail)); done) | (apply NdOk_need; (repeat' (first | exact trivial | apply And.intro | exact List.Mem.head _ | apply List.Mem.tail)); done)), ?_⟩) | (apply OpTo_res; exact rfl; exact has33; exact hadd; rintro vr h1 hle1 ⟨s1, rfl, hat1⟩; refine ⟨hle1, by (first | exact NdOk_no rfl | (apply NdOk_all; (repeat' (first | exact trivial | apply And.intro | exact List.Mem.head _ | apply List.Mem.tail)); done) | (apply NdOk_need; (repeat' (first | exact trivial | apply And.intro | exact List.Mem.head _ | apply List.Mem.tail)); done)), ?_⟩))) | (apply GP_done; kernel_rfl; exact rfl) | (apply GO_cond; exact rfl; all_goals intro hc; all_goals try simp only [ltI_t, ltI_f, leI_t, leI_f, eqI_t, eqI_f, Bool.not_eq_true', Bool.not_eq_false', decide_eq_true_eq, decide_eq_false_iff_not, reduceCtorEq] at hc; all_goals try (exfalso; omega)))
        have h2 := ih (k + 1, (r.ents.getD k e0).day, s1, h1) ⟨by show k + 1 ≤ s.ne; omega, hlk.trans hle1, ?_, ?_⟩ (by show s.ne - (k + 1) < s.ne - k; omega)
        · refine GO_fit (by (repeat (first | exact trivial | refine ⟨rfl, ?_⟩)); done) (by (repeat (first | exact Takes_nil | (apply Takes_cons; exact (by (repeat (first | exact Take.here | apply Take.there)); done)))); done) (h2)
        · show RegAt h1 s1 ⟨_, _, _, r.ents.take (k + 1)⟩
          rw [take_snocE hlen hkn2]; exact hat1
        · show _ = bookOf r.clubs (r.ents.getD k e0).day (r.ents.take (k + 1)) (r.ents.drop (k + 1))
          rw [hI, drop_consE hlen hkn2, bookOf, if_pos h0, take_snocE hlen hkn2]
      · have hadd : Res Try.prog 33 #[regV r.league d sk, entV (r.ents.getD k e0)] hk (regR (reg0, addE r.clubs d (r.ents.take k) (r.ents.getD k e0))) := by
          have := addR_c hk sk _ hat (r.ents.getD k e0)
          rw [addR, if_neg h0] at this; exact this
        repeat' (first | apply GO_seq | apply GO_region | apply GOl_nil | (apply GOl_pv; exact rfl; exact rfl; exact rfl) | (apply GP_pv; exact rfl; kernel_rfl; exact rfl; exact rfl; exact rfl) | (apply GP_ov; exact rfl; kernel_rfl; exact rfl; exact rfl; (first | (apply OV_load; exact rfl; first | exact Lv_ro rfl (by assumption) rfl | exact Lv_roF rfl (by assumption) rfl | exact Lv_roF2 rfl (by assumption) rfl | exact Lv_roF3 rfl (by assumption) rfl) | (apply OV_idx; exact rfl; exact rfl; exact rfl; exact rfl; exact rfl; exact rfl; first | assumption | omega)); exact (by repeat' (first | exact trivial | apply And.intro | exact List.Mem.head _ | apply List.Mem.tail))) | (apply GP_real; exact rfl; kernel_rfl; exact rfl; exact rfl; exact rfl; (first | (apply OpTo_store; exact rfl; exact rfl; exact rfl; exact (by (repeat (first | exact Repl.here | apply Repl.there)); done); exact rfl; exact rfl; exact rfl; refine ⟨Le.refl _, by (first | exact NdOk_no rfl | (apply NdOk_all; (repeat' (first | exact trivial | apply And.intro | exact List.Mem.head _ | apply List.Mem.tail)); done) | (apply NdOk_need; (repeat' (first | exact trivial | apply And.intro | exact List.Mem.head _ | apply List.Mem.tail)); done)), ?_⟩) | (apply OpTo_res; exact rfl; exact has33; exact hadd; rintro vr h1 hle1 ⟨s1, rfl, hat1⟩; refine ⟨hle1, by (first | exact NdOk_no rfl | (apply NdOk_all; (repeat' (first | exact trivial | apply And.intro | exact List.Mem.head _ | apply List.Mem.tail)); done) | (apply NdOk_need; (repeat' (first | exact trivial | apply And.intro | exact List.Mem.head _ | apply List.Mem.tail)); done)), ?_⟩))) | (apply GP_done; kernel_rfl; exact rfl) | (apply GO_cond; exact rfl; all_goals intro hc; all_goals try simp only [ltI_t, ltI_f, leI_t, leI_f, eqI_t, eqI_f, Bool.not_eq_true', Bool.not_eq_false', decide_eq_true_eq, decide_eq_false_iff_not, reduceCtorEq] at hc; all_goals try (exfalso; omega)) | (apply GO_retV1; exact rfl; exact rfl; exact rfl))
        rw [if_neg]
        rintro ⟨_, hg⟩
        rw [hI, drop_consE hlen hkn2, bookOf, if_neg h0] at hg
        cases hg
    · have hke : k = s.ne := by omega
      have ht : r.ents.take k = r.ents := List.take_of_length_le (by omega)
      have hd : r.ents.drop k = [] := List.drop_eq_nil_of_le (by omega)
      rw [ht, hd, bookOf] at hI
      rw [if_neg]; rintro ⟨_, hg⟩; rw [hI] at hg; injection hg with hg; omega
    · have hke : k = s.ne := by omega
      have ht : r.ents.take k = r.ents := List.take_of_length_le (by omega)
      have hd : r.ents.drop k = [] := List.drop_eq_nil_of_le (by omega)
      rw [ht, hd, bookOf] at hI
      have hdd : d = r.day := by omega
      exact if_pos (⟨hO, by rw [hI, hdd]⟩ : RegGood r) ▸ rfl
  · repeat' (first | apply GO_seq | apply GO_region | apply GOl_nil | (apply GOl_unwanted; exact rfl; exact rfl) | (apply GOl_pv; exact rfl; exact rfl; exact rfl) | (apply GOl_load; exact rfl; exact Ld_blk rfl (by (repeat (first | exact List.Mem.head _ | apply List.Mem.tail)); done) rfl; exact rfl; exact rfl) | (apply GOl_to; exact rfl; exact rfl; exact rfl; (first | (apply OpTo_store; exact rfl; exact rfl; exact rfl; exact (by (repeat (first | exact Repl.here | apply Repl.there)); done); exact rfl; exact rfl; exact rfl; skip) | (apply OpTo_box; exact rfl; intro b; skip) | (apply OpTo_alloc; exact rfl; intro b; skip) | (apply OpTo_val; exact rfl; exact has12; (have := newR_c h r.league _ _ s.cc r.clubs hr.clubs hr.nc; rw [if_neg hO] at this; exact this); skip))) | (apply GO_cond; exact rfl; all_goals intro hc; all_goals try simp only [ltI_t, ltI_f, leI_t, leI_f, eqI_t, eqI_f, Bool.not_eq_true', Bool.not_eq_false', decide_eq_true_eq, decide_eq_false_iff_not, reduceCtorEq] at hc; all_goals try (exfalso; omega)) | (apply GOl_split; exact rfl; exact rfl; all_goals intro hc; all_goals try simp only [ltI_t, ltI_f, leI_t, leI_f, eqI_t, eqI_f, Bool.not_eq_true', Bool.not_eq_false', decide_eq_true_eq, decide_eq_false_iff_not, reduceCtorEq] at hc; all_goals try (exfalso; omega)) | (apply GO_retV1; exact rfl; exact rfl; exact rfl))
    rw [if_neg (fun hg => hO hg.1)]



theorem regEnter_eq (r : Reg) (x : Ent) : (RegGood r → regEnter r x = addR r x) ∧ (¬ RegGood r → regEnter r x = (reg0, 360)) :=
  ⟨fun h => by rw [regEnter, if_pos h]; rfl, fun h => by rw [regEnter, if_neg h]⟩

theorem enterR_c (h : Ro) (s : Rsh) (r : Reg) (hr : RegAt h s r) (x : Ent) : Res Try.prog 14 #[regV r.league r.day s, entV x] h (regR (regEnter r x)) := by
  refine Res_intro (args := [_, _]) ts_ok Go.Proofs.Try.func14 rfl rfl fun w0 X0 => ?_
  by_cases hg : RegGood r
  · rw [(regEnter_eq r x).1 hg]
    repeat' (first | apply GO_seq | apply GO_skip | apply GO_region | apply GOl_nil | (apply GOl_pv; exact rfl; exact rfl; exact rfl) | (apply GOl_load; exact rfl; exact Ld_blk rfl (by (repeat (first | exact List.Mem.head _ | apply List.Mem.tail)); done) rfl; exact rfl; exact rfl) | (apply GOl_to; exact rfl; exact rfl; exact rfl; (first | (apply OpTo_store; exact rfl; exact rfl; exact rfl; exact (by (repeat (first | exact Repl.here | apply Repl.there)); done); exact rfl; exact rfl; exact rfl; skip) | (apply OpTo_box; exact rfl; intro b; skip) | (apply OpTo_alloc; exact rfl; intro b; skip) | (apply OpTo_val; exact rfl; exact has17; (have := checkR_c h s r hr; rw [if_pos hg] at this; exact this); skip) | (apply OpTo_res; exact rfl; exact has33; exact addR_c h s r hr x; rintro vr h1 hle1 ⟨s1, rfl, hat1⟩; skip))) | (apply GO_cond; exact rfl; all_goals intro hc; all_goals try simp only [ltI_t, ltI_f, leI_t, leI_f, eqI_t, eqI_f, Bool.not_eq_true', Bool.not_eq_false', decide_eq_true_eq, decide_eq_false_iff_not, reduceCtorEq] at hc; all_goals try (exfalso; omega)) | (apply GO_retRC2; exact rfl; exact rfl; exact rfl; exact (by (repeat (first | exact List.Mem.head _ | apply List.Mem.tail)); done); exact rfl; exact rfl; exact rfl))
    exact ⟨s1, rfl, hat1⟩
  · rw [(regEnter_eq r x).2 hg]
    repeat' (first | apply GO_seq | apply GO_region | apply GOl_nil | (apply GOl_pv; exact rfl; exact rfl; exact rfl) | (apply GOl_load; exact rfl; exact Ld_blk rfl (by (repeat (first | exact List.Mem.head _ | apply List.Mem.tail)); done) rfl; exact rfl; exact rfl) | (apply GOl_to; exact rfl; exact rfl; exact rfl; (first | (apply OpTo_store; exact rfl; exact rfl; exact rfl; exact (by (repeat (first | exact Repl.here | apply Repl.there)); done); exact rfl; exact rfl; exact rfl; skip) | (apply OpTo_box; exact rfl; intro b; skip) | (apply OpTo_alloc; exact rfl; intro b; skip) | (apply OpTo_val; exact rfl; exact has17; (have := checkR_c h s r hr; rw [if_neg hg] at this; exact this); skip))) | (apply GO_cond; exact rfl; all_goals intro hc; all_goals try simp only [ltI_t, ltI_f, leI_t, leI_f, eqI_t, eqI_f, Bool.not_eq_true', Bool.not_eq_false', decide_eq_true_eq, decide_eq_false_iff_not, reduceCtorEq] at hc; all_goals try (exfalso; omega)) | (apply GO_retRC2; exact rfl; exact rfl; exact rfl; exact (by (repeat (first | exact List.Mem.head _ | apply List.Mem.tail)); done); exact rfl; exact rfl; exact rfl))
    exact ⟨shNil, rfl, RegAt_nil _⟩


theorem clubR_c (h : Ro) (s : Rsh) (r : Reg) (hr : RegAt h s r) (p : Int) : Val Try.prog 19 #[regV r.league r.day s, .int .i64 p] h (.tuple #[.int .i64 (regClub r p).1, .int .i64 (regClub r p).2.1, .bool (regClub r p).2.2]) := by
  refine Val_intro (args := [_, _]) ts_ok Go.Proofs.Try.func19 rfl rfl fun w0 X0 => ?_
  have hne := hr.ne
  have hents := hr.ents
  repeat' (first | apply GO_seq | apply GO_skip | apply GO_region | apply GOl_nil | (apply GOl_pv; exact rfl; exact rfl; exact rfl) | (apply GOl_load; exact rfl; exact Ld_blk rfl (by (repeat (first | exact List.Mem.head _ | apply List.Mem.tail)); done) rfl; exact rfl; exact rfl) | (apply GOl_to; exact rfl; exact rfl; exact rfl; (first | (apply OpTo_store; exact rfl; exact rfl; exact rfl; exact (by (repeat (first | exact Repl.here | apply Repl.there)); done); exact rfl; exact rfl; exact rfl; skip) | (apply OpTo_box; exact rfl; intro b; skip) | (apply OpTo_alloc; exact rfl; intro b; skip) | (apply OpTo_val; exact rfl; exact has17; exact checkR_c _ _ _ (by assumption); skip) | (apply OpTo_val; exact rfl; exact has37; exact of_c _ _ _ _ _ _ (by assumption) (by assumption); skip))) | (apply GO_drawp (n := 7) [0, 1, 4, 2, 3, 5, 6] [(0, 0), (1, 0), (2, 0), (3, 0), (4, 0), (5, 0), (6, 0)]; kernel_rfl) | (apply GO_drawp (n := 8) [0, 1, 4, 2, 3, 5, 6] [(0, 0), (1, 0), (2, 0), (3, 0), (4, 0), (5, 0), (6, 0)]; kernel_rfl) | (apply GP_pv; exact rfl; kernel_rfl; exact rfl; exact rfl; exact rfl) | (apply GP_loadB; exact rfl; kernel_rfl; exact rfl; exact rfl; exact rfl; exact (by (repeat (first | exact List.Mem.head _ | apply List.Mem.tail)); done); exact rfl; exact rfl) | (apply GP_done; kernel_rfl; exact rfl) | (apply GO_cond; exact rfl; all_goals intro hc; all_goals try simp only [ltI_t, ltI_f, leI_t, leI_f, eqI_t, eqI_f, Bool.not_eq_true', Bool.not_eq_false', decide_eq_true_eq, decide_eq_false_iff_not, reduceCtorEq] at hc; all_goals try (exfalso; omega)) | (apply GO_retV3; exact rfl; exact rfl; exact rfl; exact rfl; exact rfl))
  all_goals (unfold regClub; by_cases hg : RegGood r <;> simp_all)

theorem lockedR_c (h : Ro) (s : Rsh) (r : Reg) (hr : RegAt h s r) (p : Int) : Val Try.prog 21 #[regV r.league r.day s, .int .i64 p] h (.tuple #[.int .i64 (regLocked r p).1, .bool (regLocked r p).2]) := by
  refine Val_intro (args := [_, _]) ts_ok Go.Proofs.Try.func21 rfl rfl fun w0 X0 => ?_
  have hne := hr.ne
  have hents := hr.ents
  repeat' (first | apply GO_seq | apply GO_skip | apply GO_region | apply GOl_nil | (apply GOl_pv; exact rfl; exact rfl; exact rfl) | (apply GOl_load; exact rfl; exact Ld_blk rfl (by (repeat (first | exact List.Mem.head _ | apply List.Mem.tail)); done) rfl; exact rfl; exact rfl) | (apply GOl_to; exact rfl; exact rfl; exact rfl; (first | (apply OpTo_store; exact rfl; exact rfl; exact rfl; exact (by (repeat (first | exact Repl.here | apply Repl.there)); done); exact rfl; exact rfl; exact rfl; skip) | (apply OpTo_box; exact rfl; intro b; skip) | (apply OpTo_alloc; exact rfl; intro b; skip) | (apply OpTo_val; exact rfl; exact has17; exact checkR_c _ _ _ (by assumption); skip) | (apply OpTo_val; exact rfl; exact has37; exact of_c _ _ _ _ _ _ (by assumption) (by assumption); skip))) | (apply GO_cond; exact rfl; all_goals intro hc; all_goals try simp only [ltI_t, ltI_f, leI_t, leI_f, eqI_t, eqI_f, Bool.not_eq_true', Bool.not_eq_false', decide_eq_true_eq, decide_eq_false_iff_not, reduceCtorEq] at hc; all_goals try (exfalso; omega)) | (apply GO_retV2; exact rfl; exact rfl; exact rfl; exact rfl))
  all_goals (unfold regLocked; by_cases hg : RegGood r <;> simp_all)


end Go.Hw


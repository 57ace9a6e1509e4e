import Derived.Test.YtbgjcjhodlmgjaaW24
set_option linter.unusedVariables false
set_option linter.unusedSimpArgs false
set_option maxRecDepth 100000
set_option maxHeartbeats 4000000
namespace Go.Hw
open Go
attribute [local irreducible] GO GOl GDp Val Fn Res CellsAt ValE Blk OwnS MapA RngA
open Go.Proofs (Try.prog)

/-- What is so of a player who is locked. -/
theorem lock_facts {r : Reg} {p : Int} (hg : RegGood r) (hl : (ofL r.ents p).lock ≠ -1) : (ofL r.ents p).owner ≠ -1 ∧ (ofL r.ents p).owner ∈ r.clubs ∧ 0 ≤ p ∧ p < 8192 ∧ (ofL r.ents p).borrower = -1 ∧ 1 ≤ (ofL r.ents p).lock ∧ (ofL r.ents p).lock ≤ 1048576 ∧ (ofL r.ents p).day < r.day := by
  obtain ⟨o, b, y, k⟩ := (good_inv hg).2.2 p
  rcases k with k | ⟨k1, k2, k3, k4, k5⟩
  · exact absurd k hl
  · rcases o with o | ⟨o1, o2, o3⟩
    · exact absurd o k3
    · exact ⟨k3, o1, o2, o3, k4, k1, k2, k5⟩

/-- A player who is locked can leave in this transfer. -/
theorem lock_leave {r : Reg} {p later : Int} (hg : RegGood r) (hl : (ofL r.ents p).lock ≠ -1) (hn : r.ents.length < 65536) (h0 : 0 ≤ later) (hd : r.day + later ≤ 1048576) :
    addE r.clubs r.day r.ents ⟨2, r.day + later, p, (ofL r.ents p).owner, 0, 0, (ofL r.ents p).lock⟩ = 0 ∧ (ofL (r.ents ++ [⟨2, r.day + later, p, (ofL r.ents p).owner, 0, 0, (ofL r.ents p).lock⟩]) p).owner = -1 := by
  obtain ⟨f1, f2, f3, f4, f5, f6, f7, f8⟩ := lock_facts hg hl
  have hd0 := (good_inv hg).1
  constructor
  · unfold addE
    rw [if_neg (by omega), if_neg]
    · simp only [fits]
      generalize ofL r.ents p = s at *
      rw [if_neg (by simp), if_neg (by simp [f1]), if_neg (by simp), if_neg (by simp), if_neg (by simp [f5]), if_neg (by simp), if_neg (by simp), if_neg (by simp; omega), if_neg (by simp; omega)]
    · intro h; apply h
      unfold ValidX
      refine ⟨?_, ?_, ?_, ?_, ?_, ?_, .inl ⟨.inr rfl, .inl ⟨?_, ?_⟩, rfl, rfl⟩⟩ <;> first | exact f2 | (dsimp only; omega)
  · rw [ofL_snoc, if_pos rfl]; rfl

theorem lock_next {r : Reg} {x : Ent} {p : Int} (hg : RegGood r) (hl : (ofL r.ents p).lock ≠ -1) (ha : addE r.clubs r.day r.ents x = 0) :
    if x.player = p ∧ (x.kind = 6 ∨ x.kind = 2) then x.transfer = (ofL r.ents p).lock ∧ (ofL (r.ents ++ [x]) p).lock = -1 ∧ ((ofL (r.ents ++ [x]) p).owner ≠ -1 ↔ x.kind = 6)
    else (ofL (r.ents ++ [x]) p).owner = (ofL r.ents p).owner ∧ (ofL (r.ents ++ [x]) p).lock = (ofL r.ents p).lock := by
  obtain ⟨f1, f2, f3, f4, f5, f6, f7, f8⟩ := lock_facts hg hl
  obtain ⟨_, hV, hf⟩ := addE_zero ha
  rw [ofL_snoc]
  by_cases hp : x.player = p
  · subst hp
    rw [if_pos rfl]
    have hcl := hg.1.2.2.nonneg
    have hk := kinds hV
    obtain ⟨v1, v2, v3, v4, v5, v6, v7⟩ := hV
    generalize ofL r.ents x.player = s at *
    unfold fits at hf
    rcases hk with hk | hk | hk | hk | hk | hk
    all_goals
      simp only [hk] at hf v7
      unfold after
      simp only [hk]
    all_goals simp
    all_goals grind
  · rw [if_neg hp, if_neg (fun h => hp h.1)]; exact ⟨rfl, rfl⟩


open Classical in
theorem locks_w (hS : SortSaid) (h : Ro) (s : Rsh) (r : Reg) (hcl : SlOf encI 1 h s.ac s.nc r.clubs) (hen : SlOf encE 7 h s.ae s.ne r.ents) (x : Ent) (p later : Int) :
    Val Try.prog 8 #[regV r.league r.day s, entV x, .int .i64 p, .int .i64 later] h (.bool true) := by
  refine Val_intro (args := [_, _, _, _]) ts_ok Go.Proofs.Try.func8 rfl rfl fun w0 X0 => ?_
  by_cases hF : (s.nc ≤ 30 ∧ s.ne ≤ 16) ∧ 0 ≤ later ∧ later ≤ 1000
  · obtain ⟨hF, hl0, hl1⟩ := hF
    have hr : RegAt h s r := ⟨hcl, hen, by omega, by omega⟩
    have hlc := hcl.len
    have hle := hen.len
    by_cases hgl : RegGood r ∧ (ofL r.ents p).lock ≠ -1
    · obtain ⟨hg, hl⟩ := hgl
      obtain ⟨f1, f2, f3, f4, f5, f6, f7, f8⟩ := lock_facts hg hl
      have hdd := good_inv hg
      have hd0 := hdd.1
      have hd1 := hdd.2.1
      generalize ho : (ofL r.ents p).owner = o at *
      generalize hk : (ofL r.ents p).lock = lk at *
      have hC1 : ∀ h', Le h h' → Val Try.prog 18 #[regV r.league r.day s, .int .i64 p] h' (.tuple #[.int .i64 o, .int .i64 o, .bool true]) := fun h' hl => by
        have := regClub_c h' s r (hr.le hl) p
        unfold regClub at this
        rw [if_pos ⟨hg, by rw [ho]; exact f1⟩, if_neg (by rw [f5]; simp), ho] at this; exact this
      have hL1 : ∀ h', Le h h' → Val Try.prog 20 #[regV r.league r.day s, .int .i64 p] h' (.tuple #[.int .i64 lk, .bool true]) := fun h' hle => by
        have := regLocked_c h' s r (hr.le hle) p
        unfold regLocked at this
        rw [if_pos ⟨hg, by rw [hk]; exact hl⟩, hk] at this; exact this
      have hE1 : ∀ h', Le h h' → r.day + later ≤ 1048576 → Res Try.prog 13 #[regV r.league r.day s, entV ⟨2, r.day + later, p, o, 0, 0, lk⟩] h' (fun v h'' => ∃ s1 z, v = .tuple #[regV r.league (r.day + later) s1, .int .i64 0] ∧ RegAt h'' s1 z ∧ z.league = r.league ∧ z.day = r.day + later ∧ regClub z p = (0, 0, false)) := fun h' hle hd => Res.mono (regEnter_c h' s r (hr.le hle) ⟨2, r.day + later, p, o, 0, 0, lk⟩) fun v h'' _ hp => by
        have hh := lock_leave hg (by rw [hk]; exact hl) (show r.ents.length < 65536 by omega) hl0 hd
        rw [ho, hk] at hh
        unfold regEnter at hp
        rw [if_pos hg, if_pos hh.1] at hp
        obtain ⟨s1, h1, h2⟩ := hp
        exact ⟨s1, _, h1, h2, rfl, rfl, by unfold regClub; rw [if_neg (fun h => h.2 hh.2)]⟩
      have hC2 : ∀ h' s1 z, RegAt h' s1 z → z.league = r.league → z.day = r.day + later → regClub z p = (0, 0, false) → Val Try.prog 18 #[regV r.league (r.day + later) s1, .int .i64 p] h' (.tuple #[.int .i64 0, .int .i64 0, .bool false]) := fun h' s1 z hz e1 e2 e3 => by
        have := regClub_c h' s1 z hz p
        rw [e1, e2, e3] at this; exact this
      by_cases ha : addE r.clubs r.day r.ents x = 0
      · have hgy := good_snoc hg ha
        have hnx := lock_next hg (by rw [hk]; exact hl) ha
        rw [ho, hk] at hnx
        generalize hry : (⟨r.league, r.clubs, x.day, r.ents ++ [x]⟩ : Reg) = ry at hgy
        have hye : ry.ents = r.ents ++ [x] := by rw [← hry]
        rw [← hye] at hnx
        have hE2 : ∀ h', Le h h' → Res Try.prog 13 #[regV r.league r.day s, entV x] h' (fun v h'' => ∃ s1, v = .tuple #[regV r.league x.day s1, .int .i64 0] ∧ RegAt h'' s1 ry) := fun h' hl => Res.mono (regEnter_c h' s r (hr.le hl) x) fun v h'' _ hp => by
          unfold regEnter at hp
          rw [if_pos hg, if_pos ha, hry] at hp
          obtain ⟨s1, h1, h2⟩ := hp
          subst hry
          exact ⟨s1, h1, h2⟩
        have hrc : (if (ofL ry.ents p).owner ≠ -1 then (regClub ry p).1 = (ofL ry.ents p).owner ∧ (regClub ry p).2.2 = true else (regClub ry p).2.2 = false) ∧ (if (ofL ry.ents p).lock ≠ -1 then regLocked ry p = ((ofL ry.ents p).lock, true) else (regLocked ry p).2 = false) := by
          unfold regClub regLocked
          constructor <;> split <;> rename_i hh <;> simp [hgy, hh]
        generalize hrc1 : regClub ry p = rc at *
        generalize hrl1 : regLocked ry p = rl at *
        have hC3 : ∀ h' s1, RegAt h' s1 ry → Val Try.prog 18 #[regV r.league x.day s1, .int .i64 p] h' (.tuple #[.int .i64 rc.1, .int .i64 rc.2.1, .bool rc.2.2]) := fun h' s1 hz => by
          have := regClub_c h' s1 ry hz p
          rw [hrc1] at this; subst hry; exact this
        have hL3 : ∀ h' s1, RegAt h' s1 ry → Val Try.prog 20 #[regV r.league x.day s1, .int .i64 p] h' (.tuple #[.int .i64 rl.1, .bool rl.2]) := fun h' s1 hz => by
          have := regLocked_c h' s1 ry hz p
          rw [hrl1] at this; subst hry; exact this
        generalize (ofL ry.ents p).owner = oy at *
        generalize (ofL ry.ents p).lock = ly at *
        clear hg hdd hgy hye hry hrc1 hrl1 hk ho
        repeat' (first | apply GO_seq | apply GO_skip | apply GO_region | apply GOl_nil | (apply GOl_unwanted; exact rfl; exact rfl) | (apply GOl_add; exact rfl; exact rfl; exact rfl; omega; exact rfl; exact rfl) | (apply GOl_pv; exact rfl; exact rfl; exact rfl) | (apply GOl_load; exact rfl; exact Ld_blk rfl (by (repeat (first | exact List.Mem.head _ | apply List.Mem.tail)); done) rfl; exact rfl; exact rfl) | (apply GOl_to; exact rfl; exact rfl; exact rfl; (first | (apply OpTo_store; exact rfl; exact rfl; exact rfl; exact (by (repeat (first | exact Repl.here | apply Repl.there)); done); exact rfl; exact rfl; exact rfl; skip) | (apply OpTo_box; exact rfl; intro b; skip) | (apply OpTo_alloc; exact rfl; intro b; skip) | (apply OpTo_val; exact rfl; exact has9; exact sane_c hS _; skip) | (apply OpTo_val; exact rfl; exact has20; exact hL1 _ (by first | exact Le.refl _ | assumption | (repeat (first | assumption | (apply Le.trans; assumption)))); skip) | (apply OpTo_val; exact rfl; exact has18; exact hC1 _ (by first | exact Le.refl _ | assumption | (repeat (first | assumption | (apply Le.trans; assumption)))); skip) | (apply OpTo_res; exact rfl; exact has13; exact hE1 _ (by first | exact Le.refl _ | assumption | (repeat (first | assumption | (apply Le.trans; assumption)))) (by omega); rintro vr hr1 hle1 ⟨s1, z, rfl, hat1, hz1, hz2, hz3⟩; skip) | (apply OpTo_val; exact rfl; exact has18; exact hC2 _ _ _ (hat1.le (by first | exact Le.refl _ | assumption | (repeat (first | assumption | (apply Le.trans; assumption))))) hz1 hz2 hz3; skip) | (apply OpTo_res; exact rfl; exact has13; exact hE2 _ (by first | exact Le.refl _ | assumption | (repeat (first | assumption | (apply Le.trans; assumption)))); rintro vr hr2 hle2 ⟨s2, rfl, hat2⟩; skip) | (apply OpTo_val; exact rfl; exact has18; exact hC3 _ _ (hat2.le (by first | exact Le.refl _ | assumption | (repeat (first | assumption | (apply Le.trans; assumption))))); skip) | (apply OpTo_val; exact rfl; exact has20; exact hL3 _ _ (hat2.le (by first | exact Le.refl _ | assumption | (repeat (first | assumption | (apply Le.trans; assumption))))); skip) | (apply OpTo_val; exact rfl; exact has10; exact few_c _ _ _ _; skip))) | (apply GO_cond; exact rfl; all_goals intro hc; all_goals try simp only [ltI_t, ltI_f, leI_t, leI_f, eqI_t, eqI_f, Bool.not_eq_true', Bool.not_eq_false', decide_eq_true_eq, decide_eq_false_iff_not, reduceCtorEq] at hc; all_goals try (exfalso; omega)) | (apply GOl_split; exact rfl; exact rfl; all_goals intro hc; all_goals try simp only [ltI_t, ltI_f, leI_t, leI_f, eqI_t, eqI_f, Bool.not_eq_true', Bool.not_eq_false', decide_eq_true_eq, decide_eq_false_iff_not, reduceCtorEq] at hc; all_goals try (exfalso; omega)) | (apply GO_retV1; exact rfl; exact rfl; exact rfl))
        all_goals first | rfl | (exfalso; omega) | (simp only [eqI_eq, Value.bool.injEq] at *; grind)
      · have hE2 : ∀ h', Le h h' → Res Try.prog 13 #[regV r.league r.day s, entV x] h' (fun v h'' => ∃ s1 e, v = .tuple #[regV 0 0 s1, .int .i64 e] ∧ e ≠ 0) := fun h' hl => Res.mono (regEnter_c h' s r (hr.le hl) x) fun v h'' _ hp => by
          obtain ⟨s1, h1, h2⟩ := hp
          unfold regEnter at h1
          rw [if_pos hg, if_neg ha] at h1
          exact ⟨s1, _, h1, ha⟩
        clear hg hdd hk ho
        repeat' (first | apply GO_seq | apply GO_skip | apply GO_region | apply GOl_nil | (apply GOl_add; exact rfl; exact rfl; exact rfl; omega; exact rfl; exact rfl) | (apply GOl_pv; exact rfl; exact rfl; exact rfl) | (apply GOl_load; exact rfl; exact Ld_blk rfl (by (repeat (first | exact List.Mem.head _ | apply List.Mem.tail)); done) rfl; exact rfl; exact rfl) | (apply GOl_to; exact rfl; exact rfl; exact rfl; (first | (apply OpTo_store; exact rfl; exact rfl; exact rfl; exact (by (repeat (first | exact Repl.here | apply Repl.there)); done); exact rfl; exact rfl; exact rfl; skip) | (apply OpTo_box; exact rfl; intro b; skip) | (apply OpTo_alloc; exact rfl; intro b; skip) | (apply OpTo_val; exact rfl; exact has9; exact sane_c hS _; skip) | (apply OpTo_val; exact rfl; exact has20; exact hL1 _ (by first | exact Le.refl _ | assumption | (repeat (first | assumption | (apply Le.trans; assumption)))); skip) | (apply OpTo_val; exact rfl; exact has18; exact hC1 _ (by first | exact Le.refl _ | assumption | (repeat (first | assumption | (apply Le.trans; assumption)))); skip) | (apply OpTo_res; exact rfl; exact has13; exact hE1 _ (by first | exact Le.refl _ | assumption | (repeat (first | assumption | (apply Le.trans; assumption)))) (by omega); rintro vr hr1 hle1 ⟨s1, z, rfl, hat1, hz1, hz2, hz3⟩; skip) | (apply OpTo_val; exact rfl; exact has18; exact hC2 _ _ _ (hat1.le (by first | exact Le.refl _ | assumption | (repeat (first | assumption | (apply Le.trans; assumption))))) hz1 hz2 hz3; skip) | (apply OpTo_res; exact rfl; exact has13; exact hE2 _ (by first | exact Le.refl _ | assumption | (repeat (first | assumption | (apply Le.trans; assumption)))); rintro vr hr2 hle2 ⟨s2, e2, rfl, he2⟩; skip) | (apply OpTo_val; exact rfl; exact has10; exact few_c _ _ _ _; skip))) | (apply GO_cond; exact rfl; all_goals intro hc; all_goals try simp only [ltI_t, ltI_f, leI_t, leI_f, eqI_t, eqI_f, Bool.not_eq_true', Bool.not_eq_false', decide_eq_true_eq, decide_eq_false_iff_not, reduceCtorEq] at hc; all_goals try (exfalso; omega)) | (apply GOl_split; exact rfl; exact rfl; all_goals intro hc; all_goals try simp only [ltI_t, ltI_f, leI_t, leI_f, eqI_t, eqI_f, Bool.not_eq_true', Bool.not_eq_false', decide_eq_true_eq, decide_eq_false_iff_not, reduceCtorEq] at hc; all_goals try (exfalso; omega)) | (apply GO_retV1; exact rfl; exact rfl; exact rfl))
        all_goals first | rfl | (exfalso; omega) | (simp at hc; done)
    · have hL1 : ∀ h', Le h h' → Val Try.prog 20 #[regV r.league r.day s, .int .i64 p] h' (.tuple #[.int .i64 0, .bool false]) := fun h' hle => by
        have := regLocked_c h' s r (hr.le hle) p
        unfold regLocked at this
        rw [if_neg hgl] at this; exact this
      repeat' (first | apply GO_seq | apply GO_skip | apply GO_region | apply GOl_nil | (apply GOl_pv; exact rfl; exact rfl; exact rfl) | (apply GOl_load; exact rfl; exact Ld_blk rfl (by (repeat (first | exact List.Mem.head _ | apply List.Mem.tail)); done) rfl; exact rfl; exact rfl) | (apply GOl_to; exact rfl; exact rfl; exact rfl; (first | (apply OpTo_box; exact rfl; intro b; skip) | (apply OpTo_val; exact rfl; exact has9; exact sane_c hS _; skip) | (apply OpTo_val; exact rfl; exact has20; exact hL1 _ (by first | exact Le.refl _ | assumption | (repeat (first | assumption | (apply Le.trans; assumption)))); skip) | (apply OpTo_val; exact rfl; exact has10; exact few_c _ _ _ _; skip))) | (apply GO_cond; exact rfl; all_goals intro hc; all_goals try simp only [ltI_t, ltI_f, leI_t, leI_f, eqI_t, eqI_f, Bool.not_eq_true', Bool.not_eq_false', decide_eq_true_eq, decide_eq_false_iff_not, reduceCtorEq] at hc; all_goals try (exfalso; omega)) | (apply GOl_split; exact rfl; exact rfl; all_goals intro hc; all_goals try simp only [ltI_t, ltI_f, leI_t, leI_f, eqI_t, eqI_f, Bool.not_eq_true', Bool.not_eq_false', decide_eq_true_eq, decide_eq_false_iff_not, reduceCtorEq] at hc; all_goals try (exfalso; omega)) | (apply GO_retV1; exact rfl; exact rfl; exact rfl))
      all_goals first | rfl | (simp at hc; done) | (simp [eqI_eq]; done) | (exfalso; omega)
  · repeat' (first | apply GO_seq | apply GO_skip | apply GO_region | apply GOl_nil | (apply GOl_unwanted; exact rfl; exact rfl) | (apply GOl_pv; exact rfl; exact rfl; exact rfl) | (apply GOl_load; exact rfl; exact Ld_blk rfl (by (repeat (first | exact List.Mem.head _ | apply List.Mem.tail)); done) rfl; exact rfl; exact rfl) | (apply GOl_to; exact rfl; exact rfl; exact rfl; (first | (apply OpTo_box; exact rfl; intro b; skip) | (apply OpTo_val; exact rfl; exact has9; exact sane_c hS _; skip) | (apply OpTo_val; exact rfl; exact has10; exact few_c _ _ _ _; skip))) | (apply GO_cond; exact rfl; all_goals intro hc; all_goals try simp only [ltI_t, ltI_f, leI_t, leI_f, eqI_t, eqI_f, Bool.not_eq_true', Bool.not_eq_false', decide_eq_true_eq, decide_eq_false_iff_not, reduceCtorEq] at hc; all_goals try (exfalso; omega)) | (apply GOl_split; exact rfl; exact rfl; all_goals intro hc; all_goals try simp only [ltI_t, ltI_f, leI_t, leI_f, eqI_t, eqI_f, Bool.not_eq_true', Bool.not_eq_false', decide_eq_true_eq, decide_eq_false_iff_not, reduceCtorEq] at hc; all_goals try (exfalso; omega)) | (apply GO_retV1; exact rfl; exact rfl; exact rfl))
    all_goals first | rfl | (simp at hc; done) | (simp [eqI_eq]; done) | (exfalso; omega) | (exfalso; simp at *; omega)
end Go.Hw


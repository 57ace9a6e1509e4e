import Derived.Test.YtbgjcjhodlmgjaaW7
set_option linter.unusedVariables false
set_option linter.unusedSimpArgs false
set_option maxRecDepth 100000
set_option maxHeartbeats 1600000
namespace Go.Hw
open Go
attribute [local irreducible] GO GOl GDp Val Fn Res CellsAt ValE Blk OwnS MapA
open Go.Proofs (Try.prog)

def reg0 : Reg := ⟨0, [], 0, []⟩
open Classical in
noncomputable def regEnter (r : Reg) (x : Ent) : Reg × Int :=
  if RegGood r then if addE r.clubs r.day r.ents x = 0 then (⟨r.league, r.clubs, x.day, r.ents ++ [x]⟩, 0) else (reg0, addE r.clubs r.day r.ents x) else (reg0, 360)
def regR (q : Reg × Int) : Value → Ro → Prop := fun v h' => ∃ s', v = .tuple #[regV q.1.league q.1.day s', .int .i64 q.2] ∧ RegAt h' s' q.1
theorem RegAt_nil (h : Ro) : RegAt h shNil reg0 := ⟨SlOf.nil, SlOf.nil, by simp [shNil], by simp [shNil]⟩
theorem addE_lt {clubs : List Int} {d : Int} {l : List Ent} {x : Ent} (h : addE clubs d l x = 0) : l.length < 65536 := by
  unfold addE at h; split at h
  · cases h
  · omega
theorem RegAt.le {h h' : Ro} {s : Rsh} {r : Reg} (a : RegAt h s r) (hl : Le h h') : RegAt h' s r := ⟨a.clubs.le hl, a.ents.le hl, a.nc, a.ne⟩


theorem regEnter_c (h : Ro) (s : Rsh) (r : Reg) (hr : RegAt h s r) (x : Ent) : Res Try.prog 13 #[regV r.league r.day s, entV x] h (regR (regEnter r x)) := by
  refine Res_intro (args := [_, _]) ts_ok Go.Proofs.Try.func13 rfl rfl fun w0 X0 => ?_
  have hlen := hr.ents.len
  have eS := addS_eq r.clubs r.day r.ents x
  have hcl : ∀ h', Le h h' → SlOf encI 1 h' s.ac s.nc r.clubs := fun h' hl => hr.clubs.le hl
  repeat' (first | apply GO_seq | apply GO_skip | apply GO_region | apply GOl_nil | (apply GOl_pv; exact rfl; exact rfl; exact rfl) | (apply GOl_load; exact rfl; exact Ld_blk rfl (by (repeat (first | exact List.Mem.head _ | apply List.Mem.tail)); done) rfl; exact rfl; exact rfl) | (apply GOl_to; exact rfl; exact rfl; exact rfl; (first | (apply OpTo_store; exact rfl; exact rfl; exact rfl; exact (by (repeat (first | exact Repl.here | apply Repl.there)); done); exact rfl; exact rfl; exact rfl; skip) | (apply OpTo_box; exact rfl; intro b; skip) | (apply OpTo_alloc; exact rfl; intro b; skip) | (apply OpTo_callP; exact rfl; exact has31; exact open_c h s r hr; exact (by (repeat (first | exact Takes_nil | (apply Takes_cons; exact (by (repeat (first | exact Take.here | apply Take.there)); done)))); done); rintro va Ea ha hla (⟨hg, bb, mb, A, c, rfl, rfl⟩ | ⟨hg, p, rfl, rfl⟩); all_goals skip) | (apply OpTo_callP; exact rfl; exact has32; exact addB_c ha bb mb r.league r.day s (.slice A r.ents.length c) (mapOf r.ents) r.ents x r.clubs (hcl _ hla) hr.nc; exact (by (repeat (first | exact Takes_nil | (apply Takes_cons; exact (by (repeat (first | exact Take.here | apply Take.there)); done)))); done); rintro va2 Ea2 ha2 hla2 ⟨rfl, (⟨h0, A', c', rfl⟩ | ⟨h0, rfl⟩)⟩; all_goals skip))) | (apply GO_cond; exact rfl; all_goals intro hc; all_goals try simp only [ltI_t, ltI_f, leI_t, leI_f, eqI_t, eqI_f, Bool.not_eq_true', Bool.not_eq_false', decide_eq_true_eq, decide_eq_false_iff_not, reduceCtorEq] at hc; all_goals try (exfalso; omega)))
  · have hlt := addE_lt (eS ▸ h0)
    refine GO_relS (enc := encE) (xs := r.ents ++ [x]) (fun _ => rfl) rfl (by (repeat (first | exact Take.here | apply Take.there)); done) ?_
    intro A2 c2 h2 hle2 e2 hs2
    injection e2 with e21 _ e23
    subst e21; subst e23
    have e : regEnter r x = (⟨r.league, r.clubs, x.day, r.ents ++ [x]⟩, 0) := by rw [regEnter, if_pos hg, if_pos (eS ▸ h0)]
    (first | (apply GO_retRC2; exact rfl; exact rfl; exact rfl; exact (by (repeat (first | exact List.Mem.head _ | apply List.Mem.tail)); done); exact rfl; exact rfl; exact rfl))
    rw [e]
    exact ⟨⟨s.ac, s.nc, s.cc, A', r.ents.length + 1, c'⟩, rfl, hcl _ (hla.trans (hla2.trans hle2)), by simpa using hs2, hr.nc, by show r.ents.length + 1 ≤ _; omega⟩
  · have e : regEnter r x = (reg0, addE r.clubs r.day r.ents x) := by rw [regEnter, if_pos hg, if_neg (eS ▸ h0)]
    (first | (apply GO_retRC2; exact rfl; exact rfl; exact rfl; exact (by (repeat (first | exact List.Mem.head _ | apply List.Mem.tail)); done); exact rfl; exact rfl; exact rfl))
    rw [e, ← eS]; exact ⟨shNil, rfl, RegAt_nil _⟩
  · have e : regEnter r x = (reg0, 360) := by rw [regEnter, if_neg hg]
    (first | (apply GO_retRC2; exact rfl; exact rfl; exact rfl; exact (by (repeat (first | exact List.Mem.head _ | apply List.Mem.tail)); done); exact rfl; exact rfl; exact rfl))
    rw [e]; exact ⟨shNil, rfl, RegAt_nil _⟩
open Classical in
noncomputable def regClub (r : Reg) (p : Int) : Int × Int × Bool :=
  if RegGood r ∧ (ofL r.ents p).owner ≠ -1 then ((ofL r.ents p).owner, if (ofL r.ents p).borrower ≠ -1 then (ofL r.ents p).borrower else (ofL r.ents p).owner, true) else (0, 0, false)
open Classical in
noncomputable def regLocked (r : Reg) (p : Int) : Int × Bool :=
  if RegGood r ∧ (ofL r.ents p).lock ≠ -1 then ((ofL r.ents p).lock, true) else (0, false)


theorem regClub_c (h : Ro) (s : Rsh) (r : Reg) (hr : RegAt h s r) (p : Int) : Val Try.prog 18 #[regV r.league r.day s, .int .i64 p] h (.tuple #[.int .i64 (regClub r p).1, .int .i64 (regClub r p).2.1, .bool (regClub r p).2.2]) := by
  refine Val_intro (args := [_, _]) ts_ok Go.Proofs.Try.func18 rfl rfl fun w0 X0 => ?_
  have hst : ∀ mb A c h', ValE Try.prog 34 #[.agg #[.int .i64 r.league, .slice s.ac s.nc s.cc, .int .i64 r.day, .slice A r.ents.length c, .map (some mb)], .int .i64 p] [PlA mb (mapOf r.ents)] h' (staV (ofL r.ents p)) := fun mb A c h' => by
    have := status_c h' r.league r.day ⟨s.ac, s.nc, s.cc, none, 0, 0⟩ (.slice A r.ents.length c) mb (mapOf r.ents) p; rwa [mapOf_look] at this
  repeat' (first | apply GO_seq | apply GO_skip | apply GO_region | apply GOl_nil | (apply GOl_pv; exact rfl; exact rfl; exact rfl) | (apply GOl_load; exact rfl; exact Ld_blk rfl (by (repeat (first | exact List.Mem.head _ | apply List.Mem.tail)); done) rfl; exact rfl; exact rfl) | (apply GOl_to; exact rfl; exact rfl; exact rfl; (first | (apply OpTo_store; exact rfl; exact rfl; exact rfl; exact (by (repeat (first | exact Repl.here | apply Repl.there)); done); exact rfl; exact rfl; exact rfl; skip) | (apply OpTo_box; exact rfl; intro b; skip) | (apply OpTo_alloc; exact rfl; intro b; skip) | (apply OpTo_callP; exact rfl; exact has31; exact open_c h s r hr; exact (by (repeat (first | exact Takes_nil | (apply Takes_cons; exact (by (repeat (first | exact Take.here | apply Take.there)); done)))); done); rintro va Ea ha hla (⟨hg, bb, mb, A, c, rfl, rfl⟩ | ⟨hg, p', rfl, rfl⟩); all_goals skip) | (apply OpTo_valP; exact rfl; exact has34; exact hst mb A c _; exact (by (repeat (first | exact Takes_nil | (apply Takes_cons; exact (by (repeat (first | exact Take.here | apply Take.there)); done)))); done); skip))) | (apply GO_drawp (n := 5) [0, 1, 2, 3, 4, 5, 6, 7] [(0, 0), (1, 1), (2, 0), (3, 0), (4, 0), (5, 0), (6, 0), (7, 0)]; kernel_rfl) | (apply GO_drawp (n := 7) [0, 1, 2, 3, 4, 5, 6] [(0, 0), (1, 0), (2, 0), (3, 1), (4, 0), (5, 0), (6, 0)]; kernel_rfl) | (apply GP_un; exact rfl; kernel_rfl; exact rfl; exact rfl) | (apply GP_pv; exact rfl; kernel_rfl; exact rfl; exact rfl; exact rfl) | (apply GP_loadB; exact rfl; kernel_rfl; exact rfl; exact rfl; exact rfl; exact (by (repeat (first | exact List.Mem.head _ | apply List.Mem.tail)); done); exact rfl; exact rfl) | (apply GP_ov; exact rfl; kernel_rfl; exact rfl; exact rfl; (first | (apply OV_eqlS; exact rfl; exact rfl; exact rfl; kernel_rfl; kernel_rfl)); exact (by repeat' (first | exact trivial | apply And.intro | exact List.Mem.head _ | apply List.Mem.tail))) | (apply GP_real; exact rfl; kernel_rfl; exact rfl; exact rfl; exact rfl; (first | (apply OpTo_val; exact rfl; exact has35; exact unknown_c _; refine ⟨Le.refl _, by (first | exact NdOk_no rfl | (apply NdOk_all; (repeat' (first | exact trivial | apply And.intro | exact List.Mem.head _ | apply List.Mem.tail)); done) | (apply NdOk_need; (repeat' (first | exact trivial | apply And.intro | exact List.Mem.head _ | apply List.Mem.tail)); done)), ?_⟩) | (apply OpTo_val; exact rfl; exact has36; exact plays_c _ _; refine ⟨Le.refl _, by (first | exact NdOk_no rfl | (apply NdOk_all; (repeat' (first | exact trivial | apply And.intro | exact List.Mem.head _ | apply List.Mem.tail)); done) | (apply NdOk_need; (repeat' (first | exact trivial | apply And.intro | exact List.Mem.head _ | apply List.Mem.tail)); done)), ?_⟩))) | (apply GP_done; kernel_rfl; exact rfl) | (apply GP_split; exact rfl; exact rfl; exact rfl; exact rfl; exact rfl; all_goals intro hc; all_goals try simp only [ltI_t, ltI_f, leI_t, leI_f, eqI_t, eqI_f, Bool.not_eq_true', Bool.not_eq_false', decide_eq_true_eq, decide_eq_false_iff_not, reduceCtorEq] at hc; all_goals try (exfalso; omega)) | (apply GO_cond; exact rfl; all_goals intro hc; all_goals try simp only [ltI_t, ltI_f, leI_t, leI_f, eqI_t, eqI_f, Bool.not_eq_true', Bool.not_eq_false', decide_eq_true_eq, decide_eq_false_iff_not, reduceCtorEq] at hc; all_goals try (exfalso; omega)) | (apply GO_retV3; exact rfl; exact rfl; exact rfl; exact rfl; exact rfl))
  all_goals (unfold regClub; (try simp only [eqI_eq, st0, Bool.and_eq_true, decide_eq_true_eq] at *); first | (have ho : (ofL r.ents p).owner ≠ -1 := (by omega); rw [if_pos (And.intro hg ho)] <;> rfl) | (rw [if_neg (fun h => hg h.1)] <;> rfl) | (have ho : (ofL r.ents p).owner = -1 := (by omega); rw [if_neg (fun h => h.2 ho)] <;> rfl))


theorem regLocked_c (h : Ro) (s : Rsh) (r : Reg) (hr : RegAt h s r) (p : Int) : Val Try.prog 20 #[regV r.league r.day s, .int .i64 p] h (.tuple #[.int .i64 (regLocked r p).1, .bool (regLocked r p).2]) := by
  refine Val_intro (args := [_, _]) ts_ok Go.Proofs.Try.func20 rfl rfl fun w0 X0 => ?_
  have hst : ∀ mb A c h', ValE Try.prog 34 #[.agg #[.int .i64 r.league, .slice s.ac s.nc s.cc, .int .i64 r.day, .slice A r.ents.length c, .map (some mb)], .int .i64 p] [PlA mb (mapOf r.ents)] h' (staV (ofL r.ents p)) := fun mb A c h' => by
    have := status_c h' r.league r.day ⟨s.ac, s.nc, s.cc, none, 0, 0⟩ (.slice A r.ents.length c) mb (mapOf r.ents) p; rwa [mapOf_look] at this
  repeat' (first | apply GO_seq | apply GO_skip | apply GO_region | apply GOl_nil | (apply GOl_pv; exact rfl; exact rfl; exact rfl) | (apply GOl_load; exact rfl; exact Ld_blk rfl (by (repeat (first | exact List.Mem.head _ | apply List.Mem.tail)); done) rfl; exact rfl; exact rfl) | (apply GOl_to; exact rfl; exact rfl; exact rfl; (first | (apply OpTo_store; exact rfl; exact rfl; exact rfl; exact (by (repeat (first | exact Repl.here | apply Repl.there)); done); exact rfl; exact rfl; exact rfl; skip) | (apply OpTo_box; exact rfl; intro b; skip) | (apply OpTo_alloc; exact rfl; intro b; skip) | (apply OpTo_callP; exact rfl; exact has31; exact open_c h s r hr; exact (by (repeat (first | exact Takes_nil | (apply Takes_cons; exact (by (repeat (first | exact Take.here | apply Take.there)); done)))); done); rintro va Ea ha hla (⟨hg, bb, mb, A, c, rfl, rfl⟩ | ⟨hg, p', rfl, rfl⟩); all_goals skip) | (apply OpTo_valP; exact rfl; exact has34; exact hst mb A c _; exact (by (repeat (first | exact Takes_nil | (apply Takes_cons; exact (by (repeat (first | exact Take.here | apply Take.there)); done)))); done); skip))) | (apply GO_cond; exact rfl; all_goals intro hc; all_goals try simp only [ltI_t, ltI_f, leI_t, leI_f, eqI_t, eqI_f, Bool.not_eq_true', Bool.not_eq_false', decide_eq_true_eq, decide_eq_false_iff_not, reduceCtorEq] at hc; all_goals try (exfalso; omega)) | (apply GO_retV2; exact rfl; exact rfl; exact rfl; exact rfl))
  all_goals (unfold regLocked; first | (rw [if_pos (by grind)]; done) | (rw [if_neg (by grind)]; done) | skip)




end Go.Hw


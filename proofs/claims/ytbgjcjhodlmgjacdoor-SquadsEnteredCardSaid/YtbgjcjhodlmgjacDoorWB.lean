import Derived.Test.YtbgjcjhodlmgjacDoorWA
import Derived.Test.YtbgjcjhodlmgjacDoorHB
set_option linter.unusedVariables false
set_option linter.unusedSimpArgs false
set_option maxRecDepth 100000
set_option maxHeartbeats 1600000
namespace Go.Hw
open Go
attribute [local irreducible] GO GOl GDp Val Fn Res CellsAt ValE Blk OwnS MapA
open Go.Proofs (Tryd.prog)

abbrev e0 : Ent := ⟨0, 0, 0, 0, 0, 0, 0⟩


theorem of_c (h : Ro) (A : Option Addr) (n c : Nat) (l : List Ent) (p : Int) (hl : SlOf encE 7 h A n l) (hn : n ≤ 1000000000) : Val Tryd.prog 54 #[.slice A n c, .int .i64 p] h (staV (ofL l p)) := by
  refine Val_intro (args := [_, _]) ts_ok Go.Proofs.Tryd.func54 rfl rfl fun w0 X0 => ?_
  have hlen := hl.len
  repeat' (first | apply GO_seq | apply GO_block | apply GO_region | apply GOl_nil | (apply GOl_pv; exact rfl; exact rfl; exact rfl) | (apply GOl_to; exact rfl; exact rfl; exact rfl; (first | (apply OpTo_store; exact rfl; exact rfl; exact rfl; exact (by (repeat (first | exact Repl.here | apply Repl.there)); done); exact rfl; exact rfl; exact rfl; skip) | (apply OpTo_alloc; exact rfl; intro b; skip))))
  rename_i b4 
  rename Nat => b5
  refine GO_loopT (X := Nat) (fun k => k ≤ n) (fun k => n - k) (fun k => [(6, .int .i64 k), (5, .pointer (some ⟨b5, 0, none⟩)), (4, .pointer (some ⟨b4, 0, none⟩)), (0, .slice A n c), (1, .int .i64 p)])
    (fun k => [Blk b5 105 (encS (ofL (l.take k) p)), Blk b4 105 (encS ⟨0,0,0,0,false⟩)]) (fun _ => h) 0 (by omega) (by (repeat (first | exact trivial | refine ⟨rfl, ?_⟩)); done) (by (repeat (first | exact Takes_nil | (apply Takes_cons; exact (by (repeat (first | exact Take.here | apply Take.there)); done)))); done) rfl ?_
  intro k hk ih
  repeat' (first | apply GO_seq | apply GO_skip | apply GO_block | apply GO_region | apply GOl_nil | (apply GO_exit; exact rfl) | (apply GOl_pv; exact rfl; exact rfl; exact rfl) | (apply GOl_load; exact rfl; exact Ld_blk rfl (by (repeat (first | exact List.Mem.head _ | apply List.Mem.tail)); done) rfl; exact rfl; exact rfl) | (apply GOl_to; exact rfl; exact rfl; exact rfl; (first | (apply OpTo_store; exact rfl; exact rfl; exact rfl; exact (by (repeat (first | exact Repl.here | apply Repl.there)); done); exact rfl; exact rfl; exact rfl; skip))) | (apply GO_cond; exact rfl; all_goals intro hc; all_goals try simp only [ltI_t, ltI_f, leI_t, leI_f, eqI_t, eqI_f, Bool.not_eq_true', Bool.not_eq_false', decide_eq_true_eq, decide_eq_false_iff_not, reduceCtorEq] at hc; all_goals try (exfalso; omega)) | (apply GO_retC1; exact rfl; exact rfl; exact rfl; exact (by (repeat (first | exact List.Mem.head _ | apply List.Mem.tail)); done); exact rfl; exact rfl))
  · have hkn : k < n := by omega
    obtain ⟨ad, rfl⟩ := hl.addr (by omega)
    have c1 := hl.cells e0 hkn
    have et := take_snocE hlen hkn
    repeat' (first | apply GO_skip | apply GO_inBlock | apply GO_region | apply GOl_nil | (apply GOl_add; exact rfl; exact rfl; exact rfl; omega; exact rfl; exact rfl) | (apply GOl_pv; exact rfl; exact rfl; exact rfl) | (apply GOl_ov; exact rfl; exact rfl; (first | (apply OV_load; exact rfl; first | exact Lv_ro rfl (by assumption) rfl | exact Lv_roF rfl (by assumption) rfl | exact Lv_roF2 rfl (by assumption) rfl | exact Lv_roF3 rfl (by assumption) rfl) | (apply OV_idx; exact rfl; exact rfl; exact rfl; exact rfl; exact rfl; exact rfl; first | assumption | omega)); exact (by repeat' (first | exact trivial | apply And.intro | exact List.Mem.head _ | apply List.Mem.tail))) | (apply GO_drawp (n := 6) [0, 1, 2, 3, 4, 5, 6] [(0, 0), (1, 0), (2, 0), (3, 0), (4, 0), (5, 1), (6, 1)]; kernel_rfl) | (apply GP_pv; exact rfl; kernel_rfl; exact rfl; exact rfl; exact rfl) | (apply GP_loadB; exact rfl; kernel_rfl; exact rfl; exact rfl; exact rfl; exact (by (repeat (first | exact List.Mem.head _ | apply List.Mem.tail)); done); exact rfl; exact rfl) | (apply GP_ov; exact rfl; kernel_rfl; exact rfl; exact rfl; (first | (apply OV_load; exact rfl; first | exact Lv_ro rfl (by assumption) rfl | exact Lv_roF rfl (by assumption) rfl | exact Lv_roF2 rfl (by assumption) rfl | exact Lv_roF3 rfl (by assumption) rfl) | (apply OV_idx; exact rfl; exact rfl; exact rfl; exact rfl; exact rfl; exact rfl; first | assumption | omega)); exact (by repeat' (first | exact trivial | apply And.intro | exact List.Mem.head _ | apply List.Mem.tail))) | (apply GP_real; exact rfl; kernel_rfl; exact rfl; exact rfl; exact rfl; (first | (apply OpTo_store; exact rfl; exact rfl; exact rfl; exact (by (repeat (first | exact Repl.here | apply Repl.there)); done); exact rfl; exact rfl; exact rfl; refine ⟨Le.refl _, by (first | exact NdOk_no rfl | (apply NdOk_all; (repeat' (first | exact trivial | apply And.intro | exact List.Mem.head _ | apply List.Mem.tail)); done) | (apply NdOk_need; (repeat' (first | exact trivial | apply And.intro | exact List.Mem.head _ | apply List.Mem.tail)); done)), ?_⟩) | (apply OpTo_val; exact rfl; exact has80; exact after_c _ _ _; refine ⟨Le.refl _, by (first | exact NdOk_no rfl | (apply NdOk_all; (repeat' (first | exact trivial | apply And.intro | exact List.Mem.head _ | apply List.Mem.tail)); done) | (apply NdOk_need; (repeat' (first | exact trivial | apply And.intro | exact List.Mem.head _ | apply List.Mem.tail)); done)), ?_⟩))) | (apply GP_done; kernel_rfl; exact rfl) | (apply GO_cond; exact rfl; all_goals intro hc; all_goals try simp only [ltI_t, ltI_f, leI_t, leI_f, eqI_t, eqI_f, Bool.not_eq_true', Bool.not_eq_false', decide_eq_true_eq, decide_eq_false_iff_not, reduceCtorEq] at hc; all_goals try (exfalso; omega)))
    all_goals (
      have h2 := ih (k + 1) (by omega) (by omega)
      rw [et, ofL_snoc] at h2
      first
      | (have hp : (l.getD k e0).player = p := (by omega); rw [if_pos hp] at h2; refine GO_fit (by (repeat (first | exact trivial | refine ⟨rfl, ?_⟩)); done) (by (repeat (first | exact Takes_nil | (apply Takes_cons; exact (by (repeat (first | exact Take.here | apply Take.there)); done)))); done) (h2))
      | (have hp : (l.getD k e0).player ≠ p := (by omega); rw [if_neg hp] at h2; refine GO_fit (by (repeat (first | exact trivial | refine ⟨rfl, ?_⟩)); done) (by (repeat (first | exact Takes_nil | (apply Takes_cons; exact (by (repeat (first | exact Take.here | apply Take.there)); done)))); done) (h2)))
  · rw [List.take_of_length_le (by omega)]; rfl



noncomputable def addR (r : Reg) (x : Ent) : Reg × Int := if addE r.clubs r.day r.ents x = 0 then (⟨r.league, r.clubs, x.day, r.ents ++ [x]⟩, 0) else (reg0, addE r.clubs r.day r.ents x)


theorem addR_c (h : Ro) (s : Rsh) (r : Reg) (hr : RegAt h s r) (x : Ent) : Res Tryd.prog 79 #[regV r.league r.day s, entV x] h (regR (addR r x)) := by
  refine Res_intro (args := [_, _]) ts_ok Go.Proofs.Tryd.func79 rfl rfl fun w0 X0 => ?_
  have hlen := hr.ents.len
  have hents := hr.ents
  have hne := hr.ne
  repeat' (first | apply GO_seq | apply GO_skip | apply GO_region | apply GOl_nil | (apply GOl_pv; exact rfl; exact rfl; exact rfl) | (apply GOl_load; exact rfl; exact Ld_blk rfl (by (repeat (first | exact List.Mem.head _ | apply List.Mem.tail)); done) rfl; exact rfl; exact rfl) | (apply GOl_to; exact rfl; exact rfl; exact rfl; (first | (apply OpTo_store; exact rfl; exact rfl; exact rfl; exact (by (repeat (first | exact Repl.here | apply Repl.there)); done); exact rfl; exact rfl; exact rfl; skip) | (apply OpTo_box; exact rfl; intro b; skip) | (apply OpTo_alloc; exact rfl; intro b; skip) | (apply OpTo_val; exact rfl; exact has94; exact valid_c h s r hr.clubs hr.nc r.league r.day x; skip))) | (apply GO_drawp (n := 5) [0, 1, 2, 3, 4, 5, 6, 7] [(0, 0), (1, 0), (2, 0), (3, 0), (5, 0), (4, 1), (6, 1), (7, 0)]; kernel_rfl) | (apply GO_drawp (n := 8) [0, 1, 2, 3, 4, 5, 6, 7, 8] [(1, 0), (2, 0), (4, 0), (0, 2), (10, 5), (3, 2), (4, 5), (5, 1), (6, 1), (7, 0), (8, 1), (3, 1), (6, 1), (7, 0), (8, 1), (0, 1), (3, 1), (6, 1), (7, 0), (8, 1)]; kernel_rfl) | (apply GP_pv; exact rfl; kernel_rfl; exact rfl; exact rfl; exact rfl) | (apply GP_loadB; exact rfl; kernel_rfl; exact rfl; exact rfl; exact rfl; exact (by (repeat (first | exact List.Mem.head _ | apply List.Mem.tail)); done); exact rfl; exact rfl) | (apply GP_real; exact rfl; kernel_rfl; exact rfl; exact rfl; exact rfl; (first | (apply OpTo_store; exact rfl; exact rfl; exact rfl; exact (by (repeat (first | exact Repl.here | apply Repl.there)); done); exact rfl; exact rfl; exact rfl; refine ⟨Le.refl _, by (first | exact NdOk_no rfl | (apply NdOk_all; (repeat' (first | exact trivial | apply And.intro | exact List.Mem.head _ | apply List.Mem.tail)); done) | (apply NdOk_need; (repeat' (first | exact trivial | apply And.intro | exact List.Mem.head _ | apply List.Mem.tail)); done)), ?_⟩) | (apply OpTo_buildSliceO (n := 0); exact rfl; exact rfl; exact rfl; exact List.cons_ne_nil _ _; exact rfl; exact rfl; exact rfl; exact rfl; exact rfl; exact rfl; intro b1; refine ⟨Le.refl _, by (first | exact NdOk_no rfl | (apply NdOk_all; (repeat' (first | exact trivial | apply And.intro | exact List.Mem.head _ | apply List.Mem.tail)); done) | (apply NdOk_need; (repeat' (first | exact trivial | apply And.intro | exact List.Mem.head _ | apply List.Mem.tail)); done)), ?_⟩) | (apply OpTo_buildSliceR; exact rfl; exact rfl; exact rfl; exact List.cons_ne_nil _ _; exact rfl; exact rfl; exact rfl; exact rfl; intro b1 h1 hle1 hcs1; refine ⟨hle1, by (first | exact NdOk_no rfl | (apply NdOk_all; (repeat' (first | exact trivial | apply And.intro | exact List.Mem.head _ | apply List.Mem.tail)); done) | (apply NdOk_need; (repeat' (first | exact trivial | apply And.intro | exact List.Mem.head _ | apply List.Mem.tail)); done)), ?_⟩) | (apply OpTo_appendS (enc := encE) (xs := []) (ys := r.ents); exact rfl; exact rfl; exact rfl; exact rfl; exact rfl; exact rfl; exact rfl; (first | exact hr.ents | exact hr.ents.le (by assumption)); exact fun _ => rfl; exact fun _ => allOne_ok rfl; intro v1; exact (by (repeat (first | exact Repl.here | apply Repl.there)); done); omega; exact rfl; intro A1 c1; refine ⟨Le.refl _, by (first | exact NdOk_no rfl | (apply NdOk_all; (repeat' (first | exact trivial | apply And.intro | exact List.Mem.head _ | apply List.Mem.tail)); done) | (apply NdOk_need; (repeat' (first | exact trivial | apply And.intro | exact List.Mem.head _ | apply List.Mem.tail)); done)), ?_⟩) | (apply OpTo_appendQ; exact rfl; exact rfl; exact rfl; exact rfl; exact rfl; exact rfl; exact rfl; exact hcs1; intro v1; exact (by (repeat (first | exact Repl.here | apply Repl.there)); done); exact rfl; exact allOne_ok rfl; omega; exact rfl; intro A1 c1; refine ⟨Le.refl _, by (first | exact NdOk_no rfl | (apply NdOk_all; (repeat' (first | exact trivial | apply And.intro | exact List.Mem.head _ | apply List.Mem.tail)); done) | (apply NdOk_need; (repeat' (first | exact trivial | apply And.intro | exact List.Mem.head _ | apply List.Mem.tail)); done)), ?_⟩) | (apply OpTo_val; exact rfl; exact has54; exact of_c _ _ _ _ _ _ (by assumption) (by assumption); refine ⟨Le.refl _, by (first | exact NdOk_no rfl | (apply NdOk_all; (repeat' (first | exact trivial | apply And.intro | exact List.Mem.head _ | apply List.Mem.tail)); done) | (apply NdOk_need; (repeat' (first | exact trivial | apply And.intro | exact List.Mem.head _ | apply List.Mem.tail)); done)), ?_⟩) | (apply OpTo_val; exact rfl; exact has95; exact fits_c _ _ _; refine ⟨Le.refl _, by (first | exact NdOk_no rfl | (apply NdOk_all; (repeat' (first | exact trivial | apply And.intro | exact List.Mem.head _ | apply List.Mem.tail)); done) | (apply NdOk_need; (repeat' (first | exact trivial | apply And.intro | exact List.Mem.head _ | apply List.Mem.tail)); done)), ?_⟩))) | (apply GP_two; kernel_rfl; exact rfl; exact rfl) | (apply RealP_intro; exact rfl; exact rfl; exact rfl; exact rfl; (first | (apply OpTo_buildSliceO (n := 0); exact rfl; exact rfl; exact rfl; exact List.cons_ne_nil _ _; exact rfl; exact rfl; exact rfl; exact rfl; exact rfl; exact rfl; intro b1; refine ⟨Le.refl _, by (first | exact NdOk_no rfl | (apply NdOk_all; (repeat' (first | exact trivial | apply And.intro | exact List.Mem.head _ | apply List.Mem.tail)); done) | (apply NdOk_need; (repeat' (first | exact trivial | apply And.intro | exact List.Mem.head _ | apply List.Mem.tail)); done)), ?_⟩) | (apply OpTo_buildSliceR; exact rfl; exact rfl; exact rfl; exact List.cons_ne_nil _ _; exact rfl; exact rfl; exact rfl; exact rfl; intro b1 h1 hle1 hcs1; refine ⟨hle1, by (first | exact NdOk_no rfl | (apply NdOk_all; (repeat' (first | exact trivial | apply And.intro | exact List.Mem.head _ | apply List.Mem.tail)); done) | (apply NdOk_need; (repeat' (first | exact trivial | apply And.intro | exact List.Mem.head _ | apply List.Mem.tail)); done)), ?_⟩) | (apply OpTo_appendS (enc := encE) (xs := []) (ys := r.ents); exact rfl; exact rfl; exact rfl; exact rfl; exact rfl; exact rfl; exact rfl; (first | exact hr.ents | exact hr.ents.le (by assumption)); exact fun _ => rfl; exact fun _ => allOne_ok rfl; intro v1; exact (by (repeat (first | exact Repl.here | apply Repl.there)); done); omega; exact rfl; intro A1 c1; refine ⟨Le.refl _, by (first | exact NdOk_no rfl | (apply NdOk_all; (repeat' (first | exact trivial | apply And.intro | exact List.Mem.head _ | apply List.Mem.tail)); done) | (apply NdOk_need; (repeat' (first | exact trivial | apply And.intro | exact List.Mem.head _ | apply List.Mem.tail)); done)), ?_⟩))) | (apply GP_done; kernel_rfl; exact rfl) | (apply GO_cond; exact rfl; all_goals intro hc; all_goals try simp only [ltI_t, ltI_f, leI_t, leI_f, eqI_t, eqI_f, Bool.not_eq_true', Bool.not_eq_false', decide_eq_true_eq, decide_eq_false_iff_not, reduceCtorEq] at hc; all_goals try (exfalso; omega)))
  all_goals
    first
    | (have hcl : 65536 ≤ r.ents.length := by omega
       have e : addE r.clubs r.day r.ents x = 2 := by rw [addE, if_pos hcl]
       (first | (apply GO_retRC2; exact rfl; exact rfl; exact rfl; exact (by (repeat (first | exact List.Mem.head _ | apply List.Mem.tail)); done); exact rfl; exact rfl; exact rfl))
       rw [addR, if_neg (by omega), e]; exact ⟨shNil, rfl, RegAt_nil _⟩)
    | (have hcl : r.ents.length < 65536 := by omega
       have hcv : ¬ ValidX r.clubs r.day x := by assumption
       have e : addE r.clubs r.day r.ents x = 360 := by rw [addE, if_neg (by omega), if_pos hcv]
       (first | (apply GO_retRC2; exact rfl; exact rfl; exact rfl; exact (by (repeat (first | exact List.Mem.head _ | apply List.Mem.tail)); done); exact rfl; exact rfl; exact rfl))
       rw [addR, if_neg (by omega), e]; exact ⟨shNil, rfl, RegAt_nil _⟩)
    | (have hcl : r.ents.length < 65536 := by omega
       have hcv : ValidX r.clubs r.day x := by assumption
       have hcf : fits (ofL r.ents x.player) x ≠ 0 := by omega
       have e : addE r.clubs r.day r.ents x = fits (ofL r.ents x.player) x := by rw [addE, if_neg (by omega), if_neg (by simpa using hcv)]
       (first | (apply GO_retRC2; exact rfl; exact rfl; exact rfl; exact (by (repeat (first | exact List.Mem.head _ | apply List.Mem.tail)); done); exact rfl; exact rfl; exact rfl))
       rw [addR, if_neg (by omega), e]; exact ⟨shNil, rfl, RegAt_nil _⟩)
    | (have hcl : r.ents.length < 65536 := by omega
       have hcv : ValidX r.clubs r.day x := by assumption
       have hcf : fits (ofL r.ents x.player) x = 0 := by omega
       have e : addE r.clubs r.day r.ents x = 0 := by rw [addE, if_neg (by omega), if_neg (by simpa using hcv), hcf]
       have eF : (r.ents ++ [x]).flatMap encE = r.ents.flatMap encE ++ encE x := by simp
       refine GO_relC (enc := encE) (e := 40) (sz := 7) (n := 0 + s.ne + 1) (xs := r.ents ++ [x]) (fun _ => rfl) (by simp; omega) (by rw [eF]; exact (by (repeat (first | exact Take.here | apply Take.there)); done)) ?_
       intro A2 c2 h2 hle2 e2 hnc2 hs2
       injection e2 with e21 _ e23
       subst e21; subst e23
       (first | (apply GO_retRC2; exact rfl; exact rfl; exact rfl; exact (by (repeat (first | exact List.Mem.head _ | apply List.Mem.tail)); done); exact rfl; exact rfl; exact rfl))
       rw [addR, if_pos e]
       refine ⟨⟨s.ac, s.nc, s.cc, _, 0 + s.ne + 1, _⟩, rfl, hr.clubs.le (Le.trans (by assumption) hle2), hs2, hr.nc, ?_⟩
       show 0 + s.ne + 1 ≤ _
       omega)
end Go.Hw
set_option linter.unusedVariables false
set_option linter.unusedSimpArgs false
set_option maxRecDepth 100000
set_option maxHeartbeats 1600000
namespace Go.Hw
open Go
attribute [local irreducible] GO GOl GDp Val Fn Res CellsAt ValE Blk OwnS MapA
open Go.Proofs (Tryd.prog)

theorem bookOf_len {clubs : List Int} : ∀ {l acc : List Ent} {d d' : Int}, bookOf clubs d acc l = some d' → l = [] ∨ acc.length + l.length ≤ 65536
  | [], _, _, _, _ => .inl rfl
  | x :: r, acc, d, d', h => by
    right
    unfold bookOf at h
    split at h
    · rename_i h0
      have h1 := addE_lt h0
      rcases bookOf_len h with h2 | h2
      · subst h2; simp; omega
      · simp at h2 ⊢; omega
    · cases h


open Classical in
theorem checkR_c (h : Ro) (s : Rsh) (r : Reg) (hr : RegAt h s r) : Val Tryd.prog 53 #[regV r.league r.day s] h (.int .i64 (if RegGood r then 0 else 360)) := by
  refine Val_intro (args := [_]) ts_ok Go.Proofs.Tryd.func53 rfl rfl fun w0 X0 => ?_
  have hlen := hr.ents.len
  have hne := hr.ne
  by_cases hO : OpenOk r.league r.clubs
  · repeat' (first | apply GO_seq | apply GO_skip | apply GO_block | apply GO_region | apply GOl_nil | (apply GOl_pv; exact rfl; exact rfl; exact rfl) | (apply GOl_load; exact rfl; exact Ld_blk rfl (by (repeat (first | exact List.Mem.head _ | apply List.Mem.tail)); done) rfl; exact rfl; exact rfl) | (apply GOl_to; exact rfl; exact rfl; exact rfl; (first | (apply OpTo_store; exact rfl; exact rfl; exact rfl; exact (by (repeat (first | exact Repl.here | apply Repl.there)); done); exact rfl; exact rfl; exact rfl; skip) | (apply OpTo_box; exact rfl; intro b; skip) | (apply OpTo_alloc; exact rfl; intro b; skip) | (apply OpTo_val; exact rfl; exact has78; (have := newR_c h r.league _ _ s.cc r.clubs hr.clubs hr.nc; rw [if_pos hO] at this; exact this); skip))) | (apply GO_cond; exact rfl; all_goals intro hc; all_goals try simp only [ltI_t, ltI_f, leI_t, leI_f, eqI_t, eqI_f, Bool.not_eq_true', Bool.not_eq_false', decide_eq_true_eq, decide_eq_false_iff_not, reduceCtorEq] at hc; all_goals try (exfalso; omega)) | (apply GOl_split; exact rfl; exact rfl; all_goals intro hc; all_goals try simp only [ltI_t, ltI_f, leI_t, leI_f, eqI_t, eqI_f, Bool.not_eq_true', Bool.not_eq_false', decide_eq_true_eq, decide_eq_false_iff_not, reduceCtorEq] at hc; all_goals try (exfalso; omega)) | (apply GO_retV1; exact rfl; exact rfl; exact rfl))
    · rw [if_neg]
      rintro ⟨_, hg⟩
      rcases bookOf_len hg with h1 | h1
      · rw [h1] at hlen; simp at hlen; omega
      · simp at h1; omega
    rename_i b1 _
    rename Nat => b3
    refine GO_loopT (X := Nat × Int × Rsh × Ro) (fun x => x.1 ≤ s.ne ∧ Le h x.2.2.2 ∧ RegAt x.2.2.2 x.2.2.1 ⟨r.league, r.clubs, x.2.1, r.ents.take x.1⟩ ∧ bookOf r.clubs 0 [] r.ents = bookOf r.clubs x.2.1 (r.ents.take x.1) (r.ents.drop x.1)) (fun x => s.ne - x.1)
      (fun x => [(5, .int .i64 x.1), (1, .pointer (some ⟨b1, 0, none⟩)), (3, .pointer (some ⟨b3, 0, none⟩))])
      (fun x => [Blk b3 28 (partL (regV r.league x.2.1 x.2.2.1)), Blk b1 28 (partL (regV r.league r.day s))]) (fun x => x.2.2.2) (0, 0, ⟨s.ac, s.nc, s.cc, none, 0, 0⟩, h) ?_ (by (repeat (first | exact trivial | refine ⟨rfl, ?_⟩)); done) (by (repeat (first | exact Takes_nil | (apply Takes_cons; exact (by (repeat (first | exact Take.here | apply Take.there)); done)))); done) rfl ?_
    · exact ⟨by omega, Le.refl _, ⟨hr.clubs, SlOf.nil, hr.nc, by simp⟩, rfl⟩
    rintro ⟨k, d, sk, hk⟩ ⟨hkn, hlk, hat, hI⟩ ih
    dsimp only at hkn hlk hat hI ih ⊢
    repeat' (first | apply GO_seq | apply GO_skip | apply GO_block | apply GO_region | apply GOl_nil | (apply GO_exit; exact rfl) | (apply GOl_pv; exact rfl; exact rfl; exact rfl) | (apply GOl_load; exact rfl; exact Ld_blk rfl (by (repeat (first | exact List.Mem.head _ | apply List.Mem.tail)); done) rfl; exact rfl; exact rfl) | (apply GO_drawp (n := 7) [0, 1, 2, 3, 4, 5, 6, 7, 8, 10, 9, 11] [(0, 0), (1, 0), (2, 0), (3, 0), (4, 0), (5, 0), (6, 1), (7, 0), (8, 0), (9, 0), (10, 1), (11, 0)]; kernel_rfl) | (apply GP_pv; exact rfl; kernel_rfl; exact rfl; exact rfl; exact rfl) | (apply GP_loadB; exact rfl; kernel_rfl; exact rfl; exact rfl; exact rfl; exact (by (repeat (first | exact List.Mem.head _ | apply List.Mem.tail)); done); exact rfl; exact rfl) | (apply GO_cond; exact rfl; all_goals intro hc; all_goals try simp only [ltI_t, ltI_f, leI_t, leI_f, eqI_t, eqI_f, Bool.not_eq_true', Bool.not_eq_false', decide_eq_true_eq, decide_eq_false_iff_not, reduceCtorEq] at hc; all_goals try (exfalso; omega)) | (apply GO_retV1; exact rfl; exact rfl; exact rfl))
    · have hkn2 : k < s.ne := by omega
      obtain ⟨ad, had⟩ := hr.ents.addr (by omega)
      have hents := hr.ents
      rw [had] at hents ⊢
      have c1 := (hents.cells e0 hkn2).le hlk
      by_cases h0 : addE r.clubs d (r.ents.take k) (r.ents.getD k e0) = 0
      · have hadd : Res Tryd.prog 79 #[regV r.league d sk, entV (r.ents.getD k e0)] hk (regR (⟨r.league, r.clubs, (r.ents.getD k e0).day, r.ents.take k ++ [r.ents.getD k e0]⟩, 0)) := by
          have := addR_c hk sk _ hat (r.ents.getD k e0)
          rw [addR, if_pos h0] at this; exact this
        repeat' (first | apply GO_seq | apply GO_skip | apply GO_inBlock | apply GO_region | apply GOl_nil | (apply GOl_add; exact rfl; exact rfl; exact rfl; omega; exact rfl; exact rfl) | (apply GOl_pv; exact rfl; exact rfl; exact rfl) | (apply GP_pv; exact rfl; kernel_rfl; exact rfl; exact rfl; exact rfl) | (apply GP_ov; exact rfl; kernel_rfl; exact rfl; exact rfl; (first | (apply OV_load; exact rfl; first | exact Lv_ro rfl (by assumption) rfl | exact Lv_roF rfl (by assumption) rfl | exact Lv_roF2 rfl (by assumption) rfl | exact Lv_roF3 rfl (by assumption) rfl) | (apply OV_idx; exact rfl; exact rfl; exact rfl; exact rfl; exact rfl; exact rfl; first | assumption | omega)); exact (by repeat' (first | exact trivial | apply And.intro | exact List.Mem.head _ | apply List.Mem.tail))) | (apply GP_real; exact rfl; kernel_rfl; exact rfl; exact rfl; exact rfl; (first | (apply OpTo_store; exact rfl; exact rfl; exact rfl; exact (by (repeat (first | exact Repl.here | apply Repl.there)); done); exact rfl; exact rfl; exact rfl; refine ⟨Le.refl _, by (first | exact NdOk_no rfl | (apply NdOk_all; (repeat' (first | exact trivial | apply And.intro | exact List.Mem.head _ | apply List.Mem.tail)); done) | (apply NdOk_need; (repeat' (first | exact trivial | apply And.intro | exact List.Mem.head _ | apply List.Mem.tail)); done)), ?_⟩) | (apply OpTo_res; exact rfl; exact has79; exact hadd; rintro vr h1 hle1 ⟨s1, rfl, hat1⟩; refine ⟨hle1, by (first | exact NdOk_no rfl | (apply NdOk_all; (repeat' (first | exact trivial | apply And.intro | exact List.Mem.head _ | apply List.Mem.tail)); done) | (apply NdOk_need; (repeat' (first | exact trivial | apply And.intro | exact List.Mem.head _ | apply List.Mem.tail)); done)), ?_⟩))) | (apply GP_done; kernel_rfl; exact rfl) | (apply GO_cond; exact rfl; all_goals intro hc; all_goals try simp only [ltI_t, ltI_f, leI_t, leI_f, eqI_t, eqI_f, Bool.not_eq_true', Bool.not_eq_false', decide_eq_true_eq, decide_eq_false_iff_not, reduceCtorEq] at hc; all_goals try (exfalso; omega)))
        have h2 := ih (k + 1, (r.ents.getD k e0).day, s1, h1) ⟨by show k + 1 ≤ s.ne; omega, hlk.trans hle1, ?_, ?_⟩ (by show s.ne - (k + 1) < s.ne - k; omega)
        · refine GO_fit (by (repeat (first | exact trivial | refine ⟨rfl, ?_⟩)); done) (by (repeat (first | exact Takes_nil | (apply Takes_cons; exact (by (repeat (first | exact Take.here | apply Take.there)); done)))); done) (h2)
        · show RegAt h1 s1 ⟨_, _, _, r.ents.take (k + 1)⟩
          rw [take_snocE hlen hkn2]; exact hat1
        · show _ = bookOf r.clubs (r.ents.getD k e0).day (r.ents.take (k + 1)) (r.ents.drop (k + 1))
          rw [hI, drop_consE hlen hkn2, bookOf, if_pos h0, take_snocE hlen hkn2]
      · have hadd : Res Tryd.prog 79 #[regV r.league d sk, entV (r.ents.getD k e0)] hk (regR (reg0, addE r.clubs d (r.ents.take k) (r.ents.getD k e0))) := by
          have := addR_c hk sk _ hat (r.ents.getD k e0)
          rw [addR, if_neg h0] at this; exact this
        repeat' (first | apply GO_seq | apply GO_region | apply GOl_nil | (apply GOl_pv; exact rfl; exact rfl; exact rfl) | (apply GP_pv; exact rfl; kernel_rfl; exact rfl; exact rfl; exact rfl) | (apply GP_ov; exact rfl; kernel_rfl; exact rfl; exact rfl; (first | (apply OV_load; exact rfl; first | exact Lv_ro rfl (by assumption) rfl | exact Lv_roF rfl (by assumption) rfl | exact Lv_roF2 rfl (by assumption) rfl | exact Lv_roF3 rfl (by assumption) rfl) | (apply OV_idx; exact rfl; exact rfl; exact rfl; exact rfl; exact rfl; exact rfl; first | assumption | omega)); exact (by repeat' (first | exact trivial | apply And.intro | exact List.Mem.head _ | apply List.Mem.tail))) | (apply GP_real; exact rfl; kernel_rfl; exact rfl; exact rfl; exact rfl; (first | (apply OpTo_store; exact rfl; exact rfl; exact rfl; exact (by (repeat (first | exact Repl.here | apply Repl.there)); done); exact rfl; exact rfl; exact rfl; refine ⟨Le.refl _, by (first | exact NdOk_no rfl | (apply NdOk_all; (repeat' (first | exact trivial | apply And.intro | exact List.Mem.head _ | apply List.Mem.tail)); done) | (apply NdOk_need; (repeat' (first | exact trivial | apply And.intro | exact List.Mem.head _ | apply List.Mem.tail)); done)), ?_⟩) | (apply OpTo_res; exact rfl; exact has79; exact hadd; rintro vr h1 hle1 ⟨s1, rfl, hat1⟩; refine ⟨hle1, by (first | exact NdOk_no rfl | (apply NdOk_all; (repeat' (first | exact trivial | apply And.intro | exact List.Mem.head _ | apply List.Mem.tail)); done) | (apply NdOk_need; (repeat' (first | exact trivial | apply And.intro | exact List.Mem.head _ | apply List.Mem.tail)); done)), ?_⟩))) | (apply GP_done; kernel_rfl; exact rfl) | (apply GO_cond; exact rfl; all_goals intro hc; all_goals try simp only [ltI_t, ltI_f, leI_t, leI_f, eqI_t, eqI_f, Bool.not_eq_true', Bool.not_eq_false', decide_eq_true_eq, decide_eq_false_iff_not, reduceCtorEq] at hc; all_goals try (exfalso; omega)) | (apply GO_retV1; exact rfl; exact rfl; exact rfl))
        rw [if_neg]
        rintro ⟨_, hg⟩
        rw [hI, drop_consE hlen hkn2, bookOf, if_neg h0] at hg
        cases hg
    · have hke : k = s.ne := by omega
      have ht : r.ents.take k = r.ents := List.take_of_length_le (by omega)
      have hd : r.ents.drop k = [] := List.drop_eq_nil_of_le (by omega)
      rw [ht, hd, bookOf] at hI
      rw [if_neg]; rintro ⟨_, hg⟩; rw [hI] at hg; injection hg with hg; omega
    · have hke : k = s.ne := by omega
      have ht : r.ents.take k = r.ents := List.take_of_length_le (by omega)
      have hd : r.ents.drop k = [] := List.drop_eq_nil_of_le (by omega)
      rw [ht, hd, bookOf] at hI
      have hdd : d = r.day := by omega
      exact if_pos (⟨hO, by rw [hI, hdd]⟩ : RegGood r) ▸ rfl
  · repeat' (first | apply GO_seq | apply GO_region | apply GOl_nil | (apply GOl_unwanted; exact rfl; exact rfl) | (apply GOl_pv; exact rfl; exact rfl; exact rfl) | (apply GOl_load; exact rfl; exact Ld_blk rfl (by (repeat (first | exact List.Mem.head _ | apply List.Mem.tail)); done) rfl; exact rfl; exact rfl) | (apply GOl_to; exact rfl; exact rfl; exact rfl; (first | (apply OpTo_store; exact rfl; exact rfl; exact rfl; exact (by (repeat (first | exact Repl.here | apply Repl.there)); done); exact rfl; exact rfl; exact rfl; skip) | (apply OpTo_box; exact rfl; intro b; skip) | (apply OpTo_alloc; exact rfl; intro b; skip) | (apply OpTo_val; exact rfl; exact has78; (have := newR_c h r.league _ _ s.cc r.clubs hr.clubs hr.nc; rw [if_neg hO] at this; exact this); skip))) | (apply GO_cond; exact rfl; all_goals intro hc; all_goals try simp only [ltI_t, ltI_f, leI_t, leI_f, eqI_t, eqI_f, Bool.not_eq_true', Bool.not_eq_false', decide_eq_true_eq, decide_eq_false_iff_not, reduceCtorEq] at hc; all_goals try (exfalso; omega)) | (apply GOl_split; exact rfl; exact rfl; all_goals intro hc; all_goals try simp only [ltI_t, ltI_f, leI_t, leI_f, eqI_t, eqI_f, Bool.not_eq_true', Bool.not_eq_false', decide_eq_true_eq, decide_eq_false_iff_not, reduceCtorEq] at hc; all_goals try (exfalso; omega)) | (apply GO_retV1; exact rfl; exact rfl; exact rfl))
    rw [if_neg (fun hg => hO hg.1)]



theorem regEnter_eq (r : Reg) (x : Ent) : (RegGood r → regEnter r x = addR r x) ∧ (¬ RegGood r → regEnter r x = (reg0, 360)) :=
  ⟨fun h => by rw [regEnter, if_pos h]; rfl, fun h => by rw [regEnter, if_neg h]⟩


theorem clubR_c (h : Ro) (s : Rsh) (r : Reg) (hr : RegAt h s r) (p : Int) : Val Tryd.prog 36 #[regV r.league r.day s, .int .i64 p] h (.tuple #[.int .i64 (regClub r p).1, .int .i64 (regClub r p).2.1, .bool (regClub r p).2.2]) := by
  refine Val_intro (args := [_, _]) ts_ok Go.Proofs.Tryd.func36 rfl rfl fun w0 X0 => ?_
  have hne := hr.ne
  have hents := hr.ents
  repeat' (first | apply GO_seq | apply GO_skip | apply GO_region | apply GOl_nil | (apply GOl_pv; exact rfl; exact rfl; exact rfl) | (apply GOl_load; exact rfl; exact Ld_blk rfl (by (repeat (first | exact List.Mem.head _ | apply List.Mem.tail)); done) rfl; exact rfl; exact rfl) | (apply GOl_to; exact rfl; exact rfl; exact rfl; (first | (apply OpTo_store; exact rfl; exact rfl; exact rfl; exact (by (repeat (first | exact Repl.here | apply Repl.there)); done); exact rfl; exact rfl; exact rfl; skip) | (apply OpTo_box; exact rfl; intro b; skip) | (apply OpTo_alloc; exact rfl; intro b; skip) | (apply OpTo_val; exact rfl; exact has53; exact checkR_c _ _ _ (by assumption); skip) | (apply OpTo_val; exact rfl; exact has54; exact of_c _ _ _ _ _ _ (by assumption) (by assumption); skip))) | (apply GO_drawp (n := 7) [0, 1, 4, 2, 3, 5, 6] [(0, 0), (1, 0), (2, 0), (3, 0), (4, 0), (5, 0), (6, 0)]; kernel_rfl) | (apply GO_drawp (n := 8) [0, 1, 4, 2, 3, 5, 6] [(0, 0), (1, 0), (2, 0), (3, 0), (4, 0), (5, 0), (6, 0)]; kernel_rfl) | (apply GP_pv; exact rfl; kernel_rfl; exact rfl; exact rfl; exact rfl) | (apply GP_loadB; exact rfl; kernel_rfl; exact rfl; exact rfl; exact rfl; exact (by (repeat (first | exact List.Mem.head _ | apply List.Mem.tail)); done); exact rfl; exact rfl) | (apply GP_done; kernel_rfl; exact rfl) | (apply GO_cond; exact rfl; all_goals intro hc; all_goals try simp only [ltI_t, ltI_f, leI_t, leI_f, eqI_t, eqI_f, Bool.not_eq_true', Bool.not_eq_false', decide_eq_true_eq, decide_eq_false_iff_not, reduceCtorEq] at hc; all_goals try (exfalso; omega)) | (apply GO_retV3; exact rfl; exact rfl; exact rfl; exact rfl; exact rfl))
  all_goals (unfold regClub; by_cases hg : RegGood r <;> simp_all)



end Go.Hw
set_option linter.unusedVariables false
set_option linter.unusedSimpArgs false
set_option maxRecDepth 100000
set_option maxHeartbeats 1600000
namespace Go.Hw
open Go
attribute [local irreducible] GO GOl GDp Val Fn Res CellsAt ValE Blk OwnS MapA
open Go.Proofs (Tryd.prog)

theorem take_snocD {α : Type} (d : α) {xs : List α} {k n : Nat} (hlen : xs.length = n) (hk : k < n) : xs.take (k + 1) = xs.take k ++ [xs.getD k d] := by
  rw [List.take_succ_eq_append_getElem (by omega)]; simp [List.getD, List.getElem?_eq_getElem (show k < xs.length by omega)]
theorem ne_of_getD {α : Type} (d : α) {xs ys : List α} (k : Nat) (h : xs.getD k d ≠ ys.getD k d) : xs ≠ ys := fun e => h (by rw [e])

theorem entEq (a b : Ent) : (eqI a.kind b.kind && (eqI a.day b.day && (eqI a.player b.player && (eqI a.club b.club && (eqI a.other b.other && (eqI a.upto b.upto && (eqI a.transfer b.transfer && true))))))) = decide (a = b) := by
  cases a; cases b; rw [Bool.eq_iff_iff]; simp [eqI_eq]




theorem few_c (h : Ro) (lg d : Int) (s : Rsh) : Val Tryd.prog 6 #[regV lg d s] h (.bool (decide (s.nc ≤ 30 ∧ s.ne ≤ 16))) := by
  refine Val_intro (args := [_]) ts_ok Go.Proofs.Tryd.func6 rfl rfl fun w0 X0 => ?_
  repeat' (first | apply GO_seq | apply GO_region | apply GOl_nil | (apply GOl_unwanted; exact rfl; exact rfl) | (apply GOl_pv; exact rfl; exact rfl; exact rfl) | (apply GOl_load; exact rfl; exact Ld_blk rfl (by (repeat (first | exact List.Mem.head _ | apply List.Mem.tail)); done) rfl; exact rfl; exact rfl) | (apply GOl_to; exact rfl; exact rfl; exact rfl; (first | (apply OpTo_box; exact rfl; intro b; skip))) | (apply GOl_split; exact rfl; exact rfl; all_goals intro hc; all_goals try simp only [ltI_t, ltI_f, leI_t, leI_f, eqI_t, eqI_f, Bool.not_eq_true', Bool.not_eq_false', decide_eq_true_eq, decide_eq_false_iff_not, reduceCtorEq] at hc; all_goals try (exfalso; omega)) | (apply GO_retV1; exact rfl; exact rfl; exact rfl))
  all_goals (simp only [ltI_eq, leI_eq, eqI_eq, Value.bool.injEq]; first | rfl | (rw [decide_eq_decide]; omega) | (symm; rw [decide_eq_false_iff_not]; omega) | (symm; rw [decide_eq_true_eq]; omega))





end Go.Hw
set_option linter.unusedVariables false
set_option linter.unusedSimpArgs false
set_option maxRecDepth 100000
set_option maxHeartbeats 1600000
namespace Go.Hw
open Go
attribute [local irreducible] GO GOl GDp Val Fn Res CellsAt ValE Blk OwnS MapA
open Go.Proofs (Tryd.prog)

def insL (p : Int) : List Int → List Int
  | [] => [p]
  | a :: r => if a < p then a :: insL p r else p :: a :: r
noncomputable def sqStep (r : Reg) (club : Int) (out : List Int) (x : Ent) : List Int :=
  if (regClub r x.player).2.2 = true ∧ (regClub r x.player).2.1 = club ∧ x.player ∉ out then insL x.player out else out
noncomputable def squadL (r : Reg) (club : Int) : List Int := r.ents.foldl (sqStep r club) []
theorem insL_at (p : Int) : ∀ (out : List Int) (k : Nat), k ≤ out.length → (∀ i, i < k → out.getD i 0 < p) → (k < out.length → p ≤ out.getD k 0) → out.take k ++ (p :: out.drop k) = insL p out
  | [], 0, _, _, _ => rfl
  | [], k + 1, h, _, _ => absurd h (by simp)
  | a :: r, 0, _, _, h2 => by
    have := h2 (by simp)
    simp at this
    simp [insL]; omega
  | a :: r, k + 1, h, h1, h2 => by
    have h0 := h1 0 (by omega)
    simp at h0
    have := insL_at p r k (by simpa using h) (fun i hi => by simpa using h1 (i + 1) (by omega)) (fun hk => by simpa using h2 (by simpa using hk))
    simp [insL, h0, this]
theorem insL_len (p : Int) : ∀ (out : List Int), (insL p out).length = out.length + 1
  | [] => rfl
  | a :: r => by simp only [insL]; split <;> simp [insL_len p r]

end Go.Hw
set_option linter.unusedVariables false
set_option linter.unusedSimpArgs false
set_option maxRecDepth 100000
set_option maxHeartbeats 1600000
namespace Go.Hw
open Go
attribute [local irreducible] GO GOl GDp Val Fn Res CellsAt ValE Blk OwnS MapA
open Go.Proofs (Tryd.prog)

def sheet0 : Value := .agg #[.int .i64 0, .int .i64 0, .int .i64 0, .int .i64 0, .int .i64 0, .int .i64 0, .int .i64 0, .int .i64 0, .int .i64 0, .slice none 0 0, .slice none 0 0, .slice none 0 0, .slice none 0 0]

/-- The fact of a move. -/
structure Mv where
  day : Int
  player : Int
  to : Int
deriving DecidableEq
def encM (m : Mv) : List Value := [.int .i64 6, .int .i64 m.day, .int .i64 m.day, .int .i64 0, .int .i64 0, .slice none 0 0, .string ByteArray.empty, .int .i64 0, .int .i64 0, .int .i64 0, .int .i64 0, .int .i64 0,
  .int .i64 0, .int .i64 0, .int .i64 0, .int .i64 0, .int .i64 0, .int .i64 0, .int .i64 0, .int .i64 0, .int .i64 0, .slice none 0 0, .slice none 0 0, .slice none 0 0, .slice none 0 0,
  .int .i64 0, .int .i64 0, .int .i64 0, .int .i64 0, .int .i64 0, .int .i64 0, .int .i64 0, .int .i64 0, .int .i64 0, .int .i64 0, .int .i64 0, .int .i64 0, .int .i64 0, .int .i64 0, .int .i64 0, .int .i64 0, .int .i64 0,
  .int .i64 0, .int .i64 0, .bool false, .int .i64 m.player, .int .i64 m.to, .int .i64 0, .int .i64 0, .slice none 0 0,
  .int .u8 0, .int .u8 0, .int .u8 0, .int .u8 0, .int .u8 0, .int .u8 0, .int .u8 0, .int .u8 0, .int .u8 0, .int .u8 0, .int .u8 0, .int .u8 0, .int .u8 0, .int .u8 0, .int .u8 0, .int .u8 0,
  .int .u8 0, .int .u8 0, .int .u8 0, .int .u8 0, .int .u8 0, .int .u8 0, .int .u8 0, .int .u8 0, .int .u8 0, .int .u8 0, .int .u8 0, .int .u8 0, .int .u8 0, .int .u8 0, .int .u8 0, .int .u8 0]
theorem encM_len (m : Mv) : (encM m).length = 82 := rfl

end Go.Hw
set_option linter.unusedVariables false
set_option linter.unusedSimpArgs false
set_option maxRecDepth 100000
set_option maxHeartbeats 1600000
namespace Go.Hw
open Go
attribute [local irreducible] GO GOl GDp Val Fn Res CellsAt ValE Blk OwnS MapA
open Go.Proofs (Tryd.prog)

def toOf (x : Ent) : Int := if x.kind = 2 then -1 else if x.kind = 3 then x.other else x.club
def mvOf (x : Ent) : Mv := ⟨x.day, x.player, toOf x⟩
def movesL (l : List Ent) : List Mv := (l.filter fun x => decide (x.kind ≤ 4)).map mvOf
theorem movesL_snoc (l : List Ent) (x : Ent) : movesL (l ++ [x]) = if x.kind ≤ 4 then movesL l ++ [mvOf x] else movesL l := by
  unfold movesL; rw [List.filter_append, List.map_append]; split <;> simp [*]
theorem movesL_len (l : List Ent) : (movesL l).length ≤ l.length := by
  unfold movesL; rw [List.length_map]; exact List.length_filter_le _ _

end Go.Hw
set_option linter.unusedVariables false
set_option linter.unusedSimpArgs false
set_option maxRecDepth 100000
set_option maxHeartbeats 400000
namespace Go.Hw
open Go
attribute [local irreducible] GO GOl GDp Val Fn Res CellsAt ValE Blk OwnS MapA Yl
open Go.Proofs (Tryd.prog)

theorem movesL_app (a b : List Ent) : movesL (a ++ b) = movesL a ++ movesL b := by simp [movesL, List.filter_append, List.map_append]
theorem take_drop_cons {l : List Ent} {k n : Nat} (hlen : l.length = n) (hk : k < n) : l = l.take k ++ l.getD k e0 :: l.drop (k + 1) := by
  rw [← drop_consE hlen hk, List.take_append_drop]

theorem movesL_cons (x : Ent) (r : List Ent) : movesL (x :: r) = if x.kind ≤ 4 then mvOf x :: movesL r else movesL r := by
  unfold movesL; rw [List.filter_cons]; split <;> simp_all
def encM1 (m : Mv) : List Value := [.agg (encM m).toArray]

end Go.Hw
set_option linter.unusedVariables false
set_option linter.unusedSimpArgs false
set_option maxRecDepth 100000
set_option maxHeartbeats 1600000
namespace Go.Hw
open Go
attribute [local irreducible] GO GOl GDp Val Fn Res CellsAt ValE Blk OwnS MapA RngA
open Go.Proofs (Tryd.prog)

theorem insA_len {κ α : Type} [DecidableEq κ] (x : κ) (a : α) : ∀ (m : List (κ × α)), (insA x a m).length ≤ m.length + 1
  | [] => by simp [insA]
  | (y, b) :: r => by
    simp only [insA]; split
    · simp
    · simp only [List.length_cons]; have := insA_len x a r; omega
theorem mapOf_len (l : List Ent) : (mapOf l).length ≤ l.length := by
  induction l using rev_ind with
  | h0 => simp [mapOf]
  | h1 l x ih => rw [mapOf_snoc, List.length_append]; have := insA_len x.player (after ((lookA x.player (mapOf l)).getD st0) x) (mapOf l); simp; omega
theorem insA_keys {κ α : Type} [DecidableEq κ] (x : κ) (a : α) : ∀ (m : List (κ × α)), (insA x a m).map (·.1) = if x ∈ m.map (·.1) then m.map (·.1) else m.map (·.1) ++ [x]
  | [] => by simp [insA]
  | (y, b) :: r => by
    by_cases h : y = x
    · simp [insA, h]
    · have := insA_keys x a r
      have h' : ¬ x = y := fun e => h e.symm
      simp only [insA, if_neg h, List.map_cons, this, List.mem_cons, h', false_or]
      split <;> simp
theorem mapOf_keys (l : List Ent) : ((mapOf l).map (·.1)).Nodup ∧ ∀ p, p ∈ (mapOf l).map (·.1) ↔ ∃ x ∈ l, x.player = p := by
  induction l using rev_ind with
  | h0 => simp [mapOf]
  | h1 l x ih =>
    obtain ⟨h1, h2⟩ := ih
    rw [mapOf_snoc, insA_keys]
    split
    · rename_i hx
      refine ⟨h1, fun p => ?_⟩
      rw [h2 p]
      constructor
      · rintro ⟨y, hy, e⟩; exact ⟨y, by simp [hy], e⟩
      · rintro ⟨y, hy, e⟩
        rcases List.mem_append.1 hy with hy | hy
        · exact ⟨y, hy, e⟩
        · have : y = x := by simpa using hy
          subst this; subst e; exact (h2 _).1 hx
    · rename_i hx
      refine ⟨?_, fun p => ?_⟩
      · rw [List.nodup_append]
        exact ⟨h1, by simp, fun a ha b hb e => by simp at hb; subst hb; subst e; exact hx ha⟩
      · rw [List.mem_append, h2 p]
        constructor
        · rintro (⟨y, hy, e⟩ | hp)
          · exact ⟨y, by simp [hy], e⟩
          · have : p = x.player := by simpa using hp
            exact ⟨x, by simp, this.symm⟩
        · rintro ⟨y, hy, e⟩
          rcases List.mem_append.1 hy with hy | hy
          · exact .inl ⟨y, hy, e⟩
          · have : y = x := by simpa using hy
            subst this; exact .inr (by simp [e])
theorem lookA_of_mem {κ α : Type} [DecidableEq κ] : ∀ {m : List (κ × α)}, (m.map (·.1)).Nodup → ∀ {q : κ × α}, q ∈ m → lookA q.1 m = some q.2
  | (y, b) :: r, hn, q, hq => by
    rw [List.map_cons, List.nodup_cons] at hn
    rcases List.mem_cons.1 hq with rfl | hq
    · simp [lookA]
    · have hne : y ≠ q.1 := fun e => hn.1 (by rw [e]; exact List.mem_map.2 ⟨q, hq, rfl⟩)
      rw [lookA, if_neg hne]; exact lookA_of_mem hn.2 hq
theorem mapOf_mem {l : List Ent} {q : Int × Sta} (h : q ∈ mapOf l) : q.2 = ofL l q.1 := by
  rw [← mapOf_look, lookA_of_mem (mapOf_keys l).1 h]; rfl

def okS (club : Int) (q : Int × Sta) : Bool := decide (q.2.owner ≠ -1 ∧ (if q.2.borrower ≠ -1 then q.2.borrower else q.2.owner) = club)

/-- Two strictly increasing lists with the same elements are one. -/
theorem incr_ext : ∀ {a b : List Int}, a.Pairwise (· < ·) → b.Pairwise (· < ·) → (∀ x, x ∈ a ↔ x ∈ b) → a = b
  | [], [], _, _, _ => rfl
  | [], y :: b, _, _, h => by have := (h y).2 (.head _); cases this
  | x :: a, [], _, _, h => by have := (h x).1 (.head _); cases this
  | x :: a, y :: b, ha, hb, h => by
    rw [List.pairwise_cons] at ha hb
    have hxy : x = y := by
      rcases List.mem_cons.1 ((h x).1 (.head _)) with e | e
      · exact e
      · have h1 := hb.1 x e
        rcases List.mem_cons.1 ((h y).2 (.head _)) with e2 | e2
        · exact e2.symm
        · have h2 := ha.1 y e2; omega
    subst hxy
    congr 1
    refine incr_ext ha.2 hb.2 fun z => ⟨fun hz => ?_, fun hz => ?_⟩
    · rcases List.mem_cons.1 ((h z).1 (.tail _ hz)) with e | e
      · have := ha.1 z hz; omega
      · exact e
    · rcases List.mem_cons.1 ((h z).2 (.tail _ hz)) with e | e
      · have := hb.1 z hz; omega
      · exact e
theorem insL_mem (p : Int) : ∀ (l : List Int) (x : Int), x ∈ insL p l ↔ x = p ∨ x ∈ l
  | [], x => by simp [insL]
  | a :: r, x => by
    simp only [insL]; split
    · rw [List.mem_cons, insL_mem p r x, List.mem_cons]
      constructor
      · rintro (h | h | h)
        · exact .inr (.inl h)
        · exact .inl h
        · exact .inr (.inr h)
      · rintro (h | h | h)
        · exact .inr (.inl h)
        · exact .inl h
        · exact .inr (.inr h)
    · simp
theorem insL_incr (p : Int) : ∀ {l : List Int}, l.Pairwise (· < ·) → p ∉ l → (insL p l).Pairwise (· < ·)
  | [], _, _ => by simp [insL]
  | a :: r, h, hp => by
    have h' := List.pairwise_cons.1 h
    simp only [List.mem_cons, not_or] at hp
    simp only [insL]; split
    · rename_i hlt
      refine List.pairwise_cons.2 ⟨fun x hx => ?_, insL_incr p h'.2 hp.2⟩
      rcases (insL_mem p r x).1 hx with rfl | hx
      · exact hlt
      · exact h'.1 x hx
    · refine List.pairwise_cons.2 ⟨fun x hx => ?_, h⟩
      rcases List.mem_cons.1 hx with rfl | hx
      · omega
      · have := h'.1 x hx; omega
theorem squadL_spec (r : Reg) (club : Int) (l : List Ent) : (l.foldl (sqStep r club) []).Pairwise (· < ·) ∧ ∀ p, p ∈ l.foldl (sqStep r club) [] ↔ (∃ x ∈ l, x.player = p) ∧ (regClub r p).2.2 = true ∧ (regClub r p).2.1 = club := by
  induction l using rev_ind with
  | h0 => simp
  | h1 l x ih =>
    obtain ⟨h1, h2⟩ := ih
    rw [List.foldl_append, List.foldl_cons, List.foldl_nil, sqStep]
    split
    · rename_i hc
      obtain ⟨c1, c2, c3⟩ := hc
      refine ⟨insL_incr _ h1 c3, fun p => ?_⟩
      rw [insL_mem, h2 p]
      constructor
      · rintro (rfl | ⟨⟨y, hy, e⟩, hp⟩)
        · exact ⟨⟨x, by simp, rfl⟩, c1, c2⟩
        · exact ⟨⟨y, by simp [hy], e⟩, hp⟩
      · rintro ⟨⟨y, hy, e⟩, hp⟩
        rcases List.mem_append.1 hy with hy | hy
        · exact .inr ⟨⟨y, hy, e⟩, hp⟩
        · have : y = x := by simpa using hy
          subst this; exact .inl e.symm
    · rename_i hc
      refine ⟨h1, fun p => ?_⟩
      rw [h2 p]
      constructor
      · rintro ⟨⟨y, hy, e⟩, hp⟩; exact ⟨⟨y, by simp [hy], e⟩, hp⟩
      · rintro ⟨⟨y, hy, e⟩, hp⟩
        refine ⟨?_, hp⟩
        rcases List.mem_append.1 hy with hy | hy
        · exact ⟨y, hy, e⟩
        · have : y = x := by simpa using hy
          subst this; subst e
          by_cases hm : y.player ∈ l.foldl (sqStep r club) []
          · exact ((h2 _).1 hm).1
          · exact absurd ⟨hp.1, hp.2, hm⟩ hc
theorem regClub_good {r : Reg} (hg : RegGood r) (p : Int) (club : Int) : (regClub r p).2.2 = true ∧ (regClub r p).2.1 = club ↔ okS club (p, ofL r.ents p) = true := by
  unfold regClub okS
  by_cases h : (ofL r.ents p).owner ≠ -1
  · rw [if_pos ⟨hg, h⟩]; simp [h]
  · rw [if_neg (fun e => h e.2)]; simp only [ne_eq, Decidable.not_not] at h; simp [h]
theorem squad_sorted {r : Reg} (hg : RegGood r) (club : Int) {L : List Int} (hp : L.Perm (((mapOf r.ents).filter (okS club)).map (·.1))) : sortI L = squadL r club := by
  obtain ⟨hk1, hk2⟩ := mapOf_keys r.ents
  obtain ⟨hs1, hs2⟩ := squadL_spec r club r.ents
  have hpm : (sortI L).Perm L := List.mergeSort_perm L _
  have hnd : (((mapOf r.ents).filter (okS club)).map (·.1)).Nodup := by
    refine List.Pairwise.map _ (fun a b h => h) ?_
    have := List.pairwise_map.1 hk1
    exact this.filter _
  have hsn : (sortI L).Nodup := (hpm.trans hp).nodup_iff.2 hnd
  have hle : (sortI L).Pairwise (fun a b => decide (a ≤ b) = true) := List.pairwise_mergeSort (fun a b c h1 h2 => by simp at *; omega) (fun a b => by simp; omega) L
  have hlt : (sortI L).Pairwise (· < ·) := by
    have h2 := hle.and hsn
    exact h2.imp fun {a b} ⟨q1, q2⟩ => by simp at q1; omega
  refine incr_ext hlt hs1 fun p => ?_
  rw [(hpm.trans hp).mem_iff]
  show _ ↔ p ∈ r.ents.foldl (sqStep r club) []
  rw [hs2 p, regClub_good hg, List.mem_map, ← hk2 p]
  constructor
  · rintro ⟨q, hq, rfl⟩
    rw [List.mem_filter] at hq
    refine ⟨List.mem_map.2 ⟨q, hq.1, rfl⟩, ?_⟩
    rw [← mapOf_mem hq.1]; exact hq.2
  · rintro ⟨hm, ho⟩
    obtain ⟨q, hq, rfl⟩ := List.mem_map.1 hm
    refine ⟨q, List.mem_filter.2 ⟨hq, ?_⟩, rfl⟩
    have := mapOf_mem hq
    rw [← this] at ho; exact ho
theorem squad_bad {r : Reg} (hg : ¬ RegGood r) (club : Int) : squadL r club = [] := by
  obtain ⟨_, hs2⟩ := squadL_spec r club r.ents
  refine List.eq_nil_iff_forall_not_mem.2 fun p hp => ?_
  have := ((hs2 p).1 hp).2.1
  rw [regClub, if_neg (fun h => hg h.1)] at this; cases this
end Go.Hw
set_option linter.unusedVariables false
set_option linter.unusedSimpArgs false
set_option maxRecDepth 100000
set_option maxHeartbeats 1600000
namespace Go.Hw
open Go
attribute [local irreducible] GO GOl GDp Val Fn Res CellsAt ValE Blk OwnS MapA RngA
open Go.Proofs (Tryd.prog)

/-- The library's sort. -/
def SortSaid : Prop := ∀ (e : TypeId) (v : Value) (xs : List Int) (n : Nat) (h : Ro), n ≤ 1000000000 → xs.length = n → Fn Tryd.prog 22 #[v] [OwnS e 1 v n (xs.flatMap encI)] h fun u Es _ => u = .tuple #[] ∧ Es = [OwnS e 1 v n ((sortI xs).flatMap encI)]

theorem perm_yes {club : Int} {out : List Int} {r1 r2 : List (Int × Sta)} {q : Int × Sta} {T : List Int} (h : (out ++ ((r1 ++ q :: r2).filter (okS club)).map (·.1)).Perm T) (ho : okS club q = true) : ((out ++ [q.1]) ++ ((r1 ++ r2).filter (okS club)).map (·.1)).Perm T := by
  refine List.Perm.trans ?_ h
  simp only [List.filter_append, List.filter_cons, ho, if_true, List.map_append, List.map_cons, List.append_assoc, List.singleton_append]
  exact List.Perm.append_left _ List.perm_middle.symm
theorem perm_no {club : Int} {out : List Int} {r1 r2 : List (Int × Sta)} {q : Int × Sta} {T : List Int} (h : (out ++ ((r1 ++ q :: r2).filter (okS club)).map (·.1)).Perm T) (ho : okS club q = false) : (out ++ ((r1 ++ r2).filter (okS club)).map (·.1)).Perm T := by
  simpa only [List.filter_append, List.filter_cons, ho, Bool.false_eq_true, if_false, List.map_append] using h


theorem regSquad_c (hS : SortSaid) (h : Ro) (s : Rsh) (r : Reg) (hr : RegAt h s r) (club : Int) : Res Tryd.prog 9 #[regV r.league r.day s, .int .i64 club] h (fun v h' => ∃ A c, v = .slice A (squadL r club).length c ∧ SlOf encI 1 h' A (squadL r club).length (squadL r club)) := by
  refine Res_intro (args := [_, _]) ts_ok Go.Proofs.Tryd.func9 rfl rfl fun w0 X0 => ?_
  have hlen := hr.ents.len
  have hne := hr.ne
  have hml := mapOf_len r.ents
  by_cases hg : RegGood r
  · have hopen : Fn Tryd.prog 33 #[regV r.league r.day s] [] h (fun v Es h' => ∃ bb mb A c, v = .tuple #[.pointer (some ⟨bb, 0, none⟩), .bool true] ∧ Es = Book bb mb r.league r.day s (.slice A r.ents.length c) (mapOf r.ents) r.ents) :=
      Fn.mono (open_c h s r hr) fun v Es h' hl hp => by
        rcases hp with ⟨_, q⟩ | ⟨hn, _⟩
        · exact q
        · exact absurd hg hn
    repeat' (first | apply GO_seq | apply GO_skip | apply GO_block | apply GO_region | apply GOl_nil | (apply GOl_pv; exact rfl; exact rfl; exact rfl) | (apply GOl_load; exact rfl; exact Ld_blk rfl (by (repeat (first | exact List.Mem.head _ | apply List.Mem.tail)); done) rfl; exact rfl; exact rfl) | (apply GOl_to; exact rfl; exact rfl; exact rfl; (first | (apply OpTo_box; exact rfl; intro b; skip) | (apply OpTo_callP; exact rfl; exact has33; exact hopen; exact (by (repeat (first | exact Takes_nil | (apply Takes_cons; exact (by (repeat (first | exact Take.here | apply Take.there)); done)))); done); rintro va Ea ha hla ⟨bb, mb, A, c, rfl, rfl⟩; skip) | (apply OpTo_range (ek := fun i : Int => .int .i64 i) (ev := staV); exact rfl; exact rfl; exact rfl; intro rr; exact (by (repeat (first | exact Repl.here | apply Repl.there)); done); intro rr; skip))) | (apply GO_cond; exact rfl; all_goals intro hc; all_goals try simp only [ltI_t, ltI_f, leI_t, leI_f, eqI_t, eqI_f, Bool.not_eq_true', Bool.not_eq_false', decide_eq_true_eq, decide_eq_false_iff_not, reduceCtorEq] at hc; all_goals try (exfalso; omega)))
    generalize b = bP
    refine GO_nilS 3 1 ?_
    refine GO_loopT (X := List Int × List (Int × Sta) × Option (Int × Sta) × Option Addr × Nat × Ro) (fun x => Le h x.2.2.2.2.2 ∧ (x.1 ++ (x.2.1.filter (okS club)).map (·.1)).Perm (((mapOf r.ents).filter (okS club)).map (·.1)) ∧ x.1.length + x.2.1.length ≤ (mapOf r.ents).length) (fun x => x.2.1.length)
      (fun x => [(20, .pointer (some ⟨rr, 0, none⟩)), (4, .slice x.2.2.2.1 x.1.length x.2.2.2.2.1), (1, .int .i64 club)])
      (fun x => [RngA (fun i => Value.int IntKind.i64 i) staV mb rr (mapOf r.ents) x.2.1 x.2.2.1, OwnS 3 1 (.slice x.2.2.2.1 x.1.length x.2.2.2.2.1) x.1.length (x.1.flatMap encI)]) (fun x => x.2.2.2.2.2) ([], mapOf r.ents, none, none, 0, ha) ⟨hla, .refl _, by simp⟩ (by (repeat (first | exact trivial | refine ⟨rfl, ?_⟩)); done) (by (repeat (first | exact Takes_nil | (apply Takes_cons; exact (by (repeat (first | exact Take.here | apply Take.there)); done)))); done) rfl ?_
    rintro ⟨out, rem, cur, A9, c9, hk⟩ ⟨hlk, hI, hln⟩ ih
    dsimp only at hlk hI hln ih ⊢
    repeat' (first | apply GO_seq | apply GO_skip | apply GO_inBlock | apply GO_block | apply GO_region | apply GOl_nil | (apply GO_exit; exact rfl) | (apply GOl_unwanted; exact rfl; exact rfl) | (apply GOl_pv; exact rfl; exact rfl; exact rfl) | (apply GOl_load; exact rfl; exact Ld_blk rfl (by (repeat (first | exact List.Mem.head _ | apply List.Mem.tail)); done) rfl; exact rfl; exact rfl) | (apply GOl_ov; exact rfl; exact rfl; (first | (apply OV_entry (ek := fun i : Int => .int .i64 i) (ev := staV) (b := mb) (m := mapOf r.ents) (rem := r1 ++ r2) (p := q); exact rfl)); exact (by repeat' (first | exact trivial | apply And.intro | exact List.Mem.head _ | apply List.Mem.tail))) | (apply GOl_to; exact rfl; exact rfl; exact rfl; (first | (apply OpTo_store; exact rfl; exact rfl; exact rfl; exact (by (repeat (first | exact Repl.here | apply Repl.there)); done); exact rfl; exact rfl; exact rfl; skip) | (apply OpTo_alloc; exact rfl; intro b; skip) | (apply OpTo_next; exact rfl; intro rem' cur'; exact (by (repeat (first | exact Repl.here | apply Repl.there)); done); intro hrem; rotate_left; intro q r1 r2 hrem; rotate_left; all_goals skip) | (apply OpTo_callP; exact rfl; exact has22; exact hS 3 _ out out.length hk (by omega) rfl; exact (by (repeat (first | exact Takes_nil | (apply Takes_cons; exact (by (repeat (first | exact Take.here | apply Take.there)); done)))); done); rintro vs Ea2 ha2 hla2 ⟨rfl, rfl⟩; skip) | (apply OpTo_buildSliceS (enc := encI) (n := 1) [_]; exact rfl; exact rfl; exact rfl; exact List.cons_ne_nil _ _; exact rfl; exact rfl; exact rfl; exact rfl; exact fun _ => rfl; exact rfl; exact rfl; intro b1 h1 hle1 hs1; skip) | (apply OpTo_appendS (enc := encI) (xs := out); exact rfl; exact rfl; exact rfl; exact rfl; exact rfl; exact rfl; exact rfl; exact hs1; exact fun _ => rfl; exact fun _ => allOne_ok rfl; intro v1; exact (by (repeat (first | exact Repl.here | apply Repl.there)); done); (have hq9 := congrArg List.length hrem; simp at hq9; omega); exact rfl; intro A1 c1; skip) | (apply OpTo_val; exact rfl; exact has35; exact plays_c _ _; skip))) | (apply GO_cond; exact rfl; all_goals intro hc; all_goals try simp only [ltI_t, ltI_f, leI_t, leI_f, eqI_t, eqI_f, Bool.not_eq_true', Bool.not_eq_false', decide_eq_true_eq, decide_eq_false_iff_not, reduceCtorEq] at hc; all_goals try (exfalso; omega)) | (apply GOl_split; exact rfl; exact rfl; all_goals intro hc; all_goals try simp only [ltI_t, ltI_f, leI_t, leI_f, eqI_t, eqI_f, Bool.not_eq_true', Bool.not_eq_false', decide_eq_true_eq, decide_eq_false_iff_not, reduceCtorEq] at hc; all_goals try (exfalso; omega)))
    · have hf := hI
      rw [hrem] at hf
      simp only [List.filter_nil, List.map_nil, List.append_nil] at hf
      have e := squad_sorted hg club hf
      have el := sortI_len out
      rw [e] at el ⊢
      refine GO_relC (enc := encI) (e := 3) (sz := 1) (n := out.length) (xs := squadL r club) (fun _ => rfl) el (by (repeat (first | exact Take.here | apply Take.there)); done) ?_
      intro A2 c2 h2 hle2 e2 hnc2 hs2
      injection e2 with e21 _ e23
      subst e21; subst e23
      (first | (apply GO_retR1; exact rfl; exact rfl; exact rfl))
      rw [el]
      exact ⟨A9, c9, rfl, hs2⟩
    all_goals
      have hq9 := congrArg List.length hrem
      simp only [List.length_append, List.length_cons] at hq9
      rw [hrem] at hI
    all_goals first
      | (have ho : okS club q = true := by unfold okS; simp only [ne_eq, decide_eq_true_eq]; exact ⟨by assumption, by assumption⟩
         have h2 := ih (out ++ [q.1], r1 ++ r2, some q, A1, c1, h1) ⟨hlk.trans hle1, perm_yes hI ho, by simp; omega⟩ (by simp; omega)
         dsimp only at h2
         rw [List.length_append] at h2
         refine GO_fit (by (repeat (first | exact trivial | refine ⟨rfl, ?_⟩)); done) (by (repeat (first | exact Takes_nil | (apply Takes_cons; exact (by (repeat (first | exact Take.here | apply Take.there)); done)))); done) (h2))
      | (have ho : okS club q = false := by unfold okS; simp only [ne_eq, decide_eq_false_iff_not]; rintro ⟨z1, z2⟩; contradiction
         have h2 := ih (out, r1 ++ r2, some q, A9, c9, hk) ⟨hlk, perm_no hI ho, by simp; omega⟩ (by simp; omega)
         refine GO_fit (by (repeat (first | exact trivial | refine ⟨rfl, ?_⟩)); done) (by (repeat (first | exact Takes_nil | (apply Takes_cons; exact (by (repeat (first | exact Take.here | apply Take.there)); done)))); done) (h2))
  · have hopen : Fn Tryd.prog 33 #[regV r.league r.day s] [] h (fun v Es h' => ∃ p, v = .tuple #[.pointer p, .bool false] ∧ Es = []) :=
      Fn.mono (open_c h s r hr) fun v Es h' hl hp => by
        rcases hp with ⟨hn, _⟩ | ⟨_, q⟩
        · exact absurd hn hg
        · exact q
    repeat' (first | apply GO_seq | apply GO_region | apply GOl_nil | (apply GOl_pv; exact rfl; exact rfl; exact rfl) | (apply GOl_load; exact rfl; exact Ld_blk rfl (by (repeat (first | exact List.Mem.head _ | apply List.Mem.tail)); done) rfl; exact rfl; exact rfl) | (apply GOl_to; exact rfl; exact rfl; exact rfl; (first | (apply OpTo_box; exact rfl; intro b; skip) | (apply OpTo_callP; exact rfl; exact has33; exact hopen; exact (by (repeat (first | exact Takes_nil | (apply Takes_cons; exact (by (repeat (first | exact Take.here | apply Take.there)); done)))); done); rintro va Ea ha hla ⟨p, rfl, rfl⟩; skip))) | (apply GO_cond; exact rfl; all_goals intro hc; all_goals try simp only [ltI_t, ltI_f, leI_t, leI_f, eqI_t, eqI_f, Bool.not_eq_true', Bool.not_eq_false', decide_eq_true_eq, decide_eq_false_iff_not, reduceCtorEq] at hc; all_goals try (exfalso; omega)) | (apply GO_retR1; exact rfl; exact rfl; exact rfl))
    rw [squad_bad hg]
    exact ⟨none, 0, rfl, SlOf.nil⟩
end Go.Hw
set_option linter.unusedVariables false
set_option linter.unusedSimpArgs false
set_option maxRecDepth 100000
set_option maxHeartbeats 1600000
namespace Go.Hw
open Go
attribute [local irreducible] GO GOl GDp Val Fn Res CellsAt ValE Blk OwnS MapA RngA
open Go.Proofs (Tryd.prog)

end Go.Hw

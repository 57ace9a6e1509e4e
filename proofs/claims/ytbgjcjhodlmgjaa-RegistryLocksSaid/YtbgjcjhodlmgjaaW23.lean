import Derived.Test.YtbgjcjhodlmgjaaW21
import Derived.Test.YtbgjcjhodlmgjaaW22
set_option linter.unusedVariables false
set_option linter.unusedSimpArgs false
set_option maxRecDepth 100000
set_option maxHeartbeats 4000000
namespace Go.Hw
open Go
attribute [local irreducible] GO GOl GDp Val Fn Res CellsAt ValE Blk OwnS MapA RngA
open Go.Proofs (Try.prog)

theorem manyL_snoc (r : Reg) (p c : Int) (l : List Int) : manyL r p (l ++ [c]) = manyL r p l + if p ∈ squadL r c then 1 else 0 := by
  unfold manyL; rw [List.filter_append, List.length_append]; congr 1
  rw [List.filter_cons]; split <;> rename_i h <;> simp at h <;> simp [h]


theorem squads_w (hS : SortSaid) (h : Ro) (s : Rsh) (r : Reg) (hcl : SlOf encI 1 h s.ac s.nc r.clubs) (hen : SlOf encE 7 h s.ae s.ne r.ents) (p : Int) :
    Val Try.prog 6 #[regV r.league r.day s, .int .i64 p] h (.bool true) := by
  refine Val_intro (args := [_, _]) ts_ok Go.Proofs.Try.func6 rfl rfl fun w0 X0 => ?_
  by_cases hF : s.nc ≤ 30 ∧ s.ne ≤ 16
  · have hr : RegAt h s r := ⟨hcl, hen, by omega, by omega⟩
    have hlc := hcl.len
    have hle := hen.len
    generalize hrc : regClub r p = rc
    have hC1 : ∀ h', Le h h' → Val Try.prog 18 #[regV r.league r.day s, .int .i64 p] h' (.tuple #[.int .i64 rc.1, .int .i64 rc.2.1, .bool rc.2.2]) := fun h' hl => hrc ▸ regClub_c h' s r (hr.le hl) p
    obtain ⟨ck, hck, hk0⟩ : ∃ ck : Int, (∀ h', Le h h' → Val Try.prog 16 #[regV r.league r.day s] h' (.int .i64 ck)) ∧ (ck = 0 ↔ RegGood r) := by
      by_cases hg : RegGood r
      · refine ⟨0, fun h' hl => ?_, by simp [hg]⟩
        have := check_c h' s r (hr.le hl); rwa [if_pos hg] at this
      · refine ⟨360, fun h' hl => ?_, by simp [hg]⟩
        have := check_c h' s r (hr.le hl); rwa [if_neg hg] at this
    repeat' (first | apply GO_seq | apply GO_skip | apply GO_block | apply GO_region | apply GOl_nil | (apply GOl_pv; exact rfl; exact rfl; exact rfl) | (apply GOl_load; exact rfl; exact Ld_blk rfl (by (repeat (first | exact List.Mem.head _ | apply List.Mem.tail)); done) rfl; exact rfl; exact rfl) | (apply GOl_to; exact rfl; exact rfl; exact rfl; (first | (apply OpTo_box; exact rfl; intro b; skip) | (apply OpTo_val; exact rfl; exact has9; exact sane_c hS _; skip) | (apply OpTo_val; exact rfl; exact has18; exact hC1 _ (by first | exact Le.refl _ | assumption | (repeat (first | assumption | (apply Le.trans; assumption)))); skip) | (apply OpTo_val; exact rfl; exact has10; exact few_c _ _ _ _; skip))) | (apply GO_cond; exact rfl; all_goals intro hc; all_goals try simp only [ltI_t, ltI_f, leI_t, leI_f, eqI_t, eqI_f, Bool.not_eq_true', Bool.not_eq_false', decide_eq_true_eq, decide_eq_false_iff_not, reduceCtorEq] at hc; all_goals try (exfalso; omega)))
    refine GO_loopT (X := Nat × Nat × Bool × Ro) (fun x => x.1 ≤ s.nc ∧ Le h x.2.2.2 ∧ x.2.1 = manyL r p (r.clubs.take x.1) ∧ x.2.2.1 = decide (rc.1 ∈ r.clubs.take x.1)) (fun x => s.nc - x.1)
      (fun x => [(10, .int .i64 x.1), (9, .bool x.2.2.1), (8, .int .i64 x.2.1), (7, .bool rc.2.2), (6, .int .i64 rc.2.1), (5, .int .i64 rc.1), (2, .pointer (some ⟨b, 0, none⟩)), (1, .int .i64 p)])
      (fun x => [Blk b 25 (partL (regV r.league r.day s))]) (fun x => x.2.2.2) (0, 0, false, h) ⟨by omega, Le.refl _, by simp [manyL], by simp⟩ (by (repeat (first | exact trivial | refine ⟨rfl, ?_⟩)); done) (by (repeat (first | exact Takes_nil | (apply Takes_cons; exact (by (repeat (first | exact Take.here | apply Take.there)); done)))); done) rfl ?_
    rintro ⟨k, many, known, hk⟩ ⟨hkn, hlk, hm, hkw⟩ ih
    dsimp only at hkn hlk hm hkw ih ⊢
    by_cases hkn2 : k < s.nc
    · have a1 := hcl.addrD hkn2
      have c1 := (hcl.cellsD 0 hkn2).le hlk
      have hreg := hr.le hlk
      have hts := take_snocD 0 hlc hkn2
      have hmb : many ≤ 30 := by
        have h1 := List.length_filter_le (fun c => decide (p ∈ squadL r c)) (r.clubs.take k)
        rw [List.length_take] at h1; unfold manyL at hm; omega
      have hql := squadL_len r (r.clubs.getD k 0)
      generalize hcb : r.clubs.getD k 0 = cb at *
      have hQ : ∀ h', Le hk h' → Res Try.prog 23 #[regV r.league r.day s, .int .i64 cb] h' (fun v h'' => ∃ A c, v = .slice A (squadL r cb).length c ∧ SlOf encI 1 h'' A (squadL r cb).length (squadL r cb)) := fun h' hl => regSquad_c hS h' s r (hreg.le hl) cb
      generalize hq : squadL r cb = q at *
      repeat' (first | apply GO_seq | apply GO_skip | apply GO_block | apply GO_region | apply GOl_nil | (apply GOl_unwanted; exact rfl; exact rfl) | (apply GOl_pv; exact rfl; exact rfl; exact rfl) | (apply GOl_load; exact rfl; exact Ld_blk rfl (by (repeat (first | exact List.Mem.head _ | apply List.Mem.tail)); done) rfl; exact rfl; exact rfl) | (apply GOl_ov; exact rfl; exact rfl; (first | (apply OV_load; exact rfl; first | exact Lv_ro rfl (by assumption) rfl | exact Lv_roF rfl (by assumption) rfl | exact Lv_roF2 rfl (by assumption) rfl | exact Lv_roF3 rfl (by assumption) rfl) | (apply OV_idxS; exact rfl; exact rfl; exact rfl; exact rfl; exact rfl; assumption; exact rfl; first | assumption | omega)); exact (by repeat' (first | exact trivial | apply And.intro | exact List.Mem.head _ | apply List.Mem.tail))) | (apply GO_drawp (n := 12) [0, 1, 2, 3, 4, 5, 6, 7] [(0, 0), (1, 0), (2, 0), (3, 0), (4, 0), (5, 0), (6, 1), (7, 0)]; kernel_rfl) | (apply GP_pv; exact rfl; kernel_rfl; exact rfl; exact rfl; exact rfl) | (apply GP_loadB; exact rfl; kernel_rfl; exact rfl; exact rfl; exact rfl; exact (by (repeat (first | exact List.Mem.head _ | apply List.Mem.tail)); done); exact rfl; exact rfl) | (apply GP_ov; exact rfl; kernel_rfl; exact rfl; exact rfl; (first | (apply OV_load; exact rfl; first | exact Lv_ro rfl (by assumption) rfl | exact Lv_roF rfl (by assumption) rfl | exact Lv_roF2 rfl (by assumption) rfl | exact Lv_roF3 rfl (by assumption) rfl) | (apply OV_idxS; exact rfl; exact rfl; exact rfl; exact rfl; exact rfl; assumption; exact rfl; first | assumption | omega)); exact (by repeat' (first | exact trivial | apply And.intro | exact List.Mem.head _ | apply List.Mem.tail))) | (apply GP_real; exact rfl; kernel_rfl; exact rfl; exact rfl; exact rfl; (first | (apply OpTo_res; exact rfl; exact has23; exact hQ _ (by first | exact Le.refl _ | assumption | (repeat (first | assumption | (apply Le.trans; assumption)))); rintro vq hq1 hle1 ⟨A1, c1', rfl, hat1⟩; refine ⟨hle1, by (first | exact NdOk_no rfl | (apply NdOk_all; (repeat' (first | exact trivial | apply And.intro | exact List.Mem.head _ | apply List.Mem.tail)); done) | (apply NdOk_need; (repeat' (first | exact trivial | apply And.intro | exact List.Mem.head _ | apply List.Mem.tail)); done)), ?_⟩))) | (apply GP_done; kernel_rfl; exact rfl) | (apply GO_cond; exact rfl; all_goals intro hc; all_goals try simp only [ltI_t, ltI_f, leI_t, leI_f, eqI_t, eqI_f, Bool.not_eq_true', Bool.not_eq_false', decide_eq_true_eq, decide_eq_false_iff_not, reduceCtorEq] at hc; all_goals try (exfalso; omega)) | (apply GOl_split; exact rfl; exact rfl; all_goals intro hc; all_goals try simp only [ltI_t, ltI_f, leI_t, leI_f, eqI_t, eqI_f, Bool.not_eq_true', Bool.not_eq_false', decide_eq_true_eq, decide_eq_false_iff_not, reduceCtorEq] at hc; all_goals try (exfalso; omega)))
      · have hkw2 : true = decide (rc.1 ∈ r.clubs.take (k + 1)) := by
          rw [hts, Bool.eq_iff_iff]; simp only [decide_eq_true_eq, List.mem_append, List.mem_singleton, eqI_eq]
          grind
        refine GO_loopT (X := Nat × Nat) (fun x => x.1 ≤ q.length ∧ x.2 = many + if p ∈ q.take x.1 then 1 else 0) (fun x => q.length - x.1)
          (fun x => [(12, .int .i64 x.1), (11, .slice A1 q.length c1'), (10, .int .i64 k), (9, .bool (true)), (8, .int .i64 x.2), (7, .bool rc.2.2), (6, .int .i64 rc.2.1), (5, .int .i64 rc.1), (2, .pointer (some ⟨b, 0, none⟩)), (1, .int .i64 p)])
          (fun x => [Blk b 25 (partL (regV r.league r.day s))]) (fun x => hq1) (0, many) ⟨by omega, by simp⟩ (by (repeat (first | exact trivial | refine ⟨rfl, ?_⟩)); done) (by (repeat (first | exact Takes_nil | (apply Takes_cons; exact (by (repeat (first | exact Take.here | apply Take.there)); done)))); done) rfl ?_
        rintro ⟨k2, many2⟩ ⟨hk2, hm2⟩ ih2
        dsimp only at hk2 hm2 ih2 ⊢
        by_cases hk3 : k2 < q.length
        · have a2 := hat1.addrD hk3
          have c2 := hat1.cellsD 0 hk3
          have c3 := hat1.cellsD 0 (show k2 - 1 < q.length by omega)
          have c1b := c1.le hle1
          have hm3 : many2 ≤ 31 := by rw [hm2]; split <;> omega
          have hI : 0 < k2 → q.getD (k2 - 1) 0 < q.getD k2 0 := fun h0 => by
            have hp := hq ▸ squad_incr r cb
            have := List.pairwise_iff_getElem.1 hp (k2 - 1) k2 (by omega) hk3 (by omega)
            simpa [List.getD, List.getElem?_eq_getElem hk3, List.getElem?_eq_getElem (show k2 - 1 < q.length by omega)] using this
          have hP : q.getD k2 0 = p → rc.2.1 = cb ∧ p ∉ q.take k2 := fun h0 => by
            have hp := hq ▸ squad_incr r cb
            have hge : q.getD k2 0 = q[k2] := by simp [List.getD, List.getElem?_eq_getElem hk3]
            have hmem : p ∈ squadL r cb := by rw [hq, ← h0, hge]; exact List.getElem_mem hk3
            refine ⟨by have := ((mem_squad r cb p).1 hmem).2.2; rwa [hrc] at this, fun hin => ?_⟩
            obtain ⟨i, hi, hi2⟩ := List.getElem_of_mem hin
            rw [List.length_take] at hi
            rw [List.getElem_take] at hi2
            have := List.pairwise_iff_getElem.1 hp i k2 (by omega) hk3 (by omega)
            rw [hi2] at this; omega
          have hts2 := take_snocD 0 (rfl : q.length = q.length) hk3
          repeat' (first | apply GO_seq | apply GO_skip | apply GO_inBlock | apply GO_block | apply GO_region | apply GOl_nil | (apply GO_exit; exact rfl) | (apply GOl_add; exact rfl; exact rfl; exact rfl; omega; exact rfl; exact rfl) | (apply GOl_pv; exact rfl; exact rfl; exact rfl) | (apply GOl_load; exact rfl; exact Ld_blk rfl (by (repeat (first | exact List.Mem.head _ | apply List.Mem.tail)); done) rfl; exact rfl; exact rfl) | (apply GOl_ov; exact rfl; exact rfl; (first | (apply OV_idxS (j := k2); exact rfl; exact rfl; exact rfl; exact rfl; exact rfl; assumption; (with_reducible exact rfl); omega) | (apply OV_idxS (j := k); exact rfl; exact rfl; exact rfl; exact rfl; exact rfl; assumption; (with_reducible exact rfl); omega) | (apply OV_load; exact rfl; first | exact Lv_ro rfl (by assumption) rfl | exact Lv_roF rfl (by assumption) rfl | exact Lv_roF2 rfl (by assumption) rfl | exact Lv_roF3 rfl (by assumption) rfl)); exact (by repeat' (first | exact trivial | apply And.intro | exact List.Mem.head _ | apply List.Mem.tail))) | (apply GO_drawp (n := 16) [0, 1, 2, 3, 4, 5, 6, 7, 8, 9, 10, 11, 12, 13] [(0, 0), (1, 0), (2, 0), (3, 0), (4, 0), (5, 0), (6, 0), (7, 0), (8, 0), (9, 0), (10, 0), (11, 0), (12, 0), (13, 0)]; kernel_rfl) | (apply GP_un; exact rfl; kernel_rfl; exact rfl; exact rfl) | (apply GP_sub; exact rfl; kernel_rfl; exact rfl; exact rfl; exact rfl; exact rfl; exact rfl; omega) | (apply GP_pv; exact rfl; kernel_rfl; exact rfl; exact rfl; exact rfl) | (apply GP_ov; exact rfl; kernel_rfl; exact rfl; exact rfl; (first | (apply OV_idxS (j := k2); exact rfl; exact rfl; exact rfl; exact rfl; exact rfl; assumption; (with_reducible exact rfl); omega) | (apply OV_idxS (j := k2 - 1); exact rfl; exact rfl; exact rfl; exact rfl; exact rfl; assumption; omega; omega) | (apply OV_load; exact rfl; first | exact Lv_ro rfl (by assumption) rfl | exact Lv_roF rfl (by assumption) rfl | exact Lv_roF2 rfl (by assumption) rfl | exact Lv_roF3 rfl (by assumption) rfl)); exact (by repeat' (first | exact trivial | apply And.intro | exact List.Mem.head _ | apply List.Mem.tail))) | (apply GP_done; kernel_rfl; exact rfl) | (apply GP_split; exact rfl; exact rfl; exact rfl; exact rfl; exact rfl; all_goals intro hc; all_goals try simp only [ltI_t, ltI_f, leI_t, leI_f, eqI_t, eqI_f, Bool.not_eq_true', Bool.not_eq_false', decide_eq_true_eq, decide_eq_false_iff_not, reduceCtorEq] at hc; all_goals try (exfalso; omega)) | (apply GO_cond; exact rfl; all_goals intro hc; all_goals try simp only [ltI_t, ltI_f, leI_t, leI_f, eqI_t, eqI_f, Bool.not_eq_true', Bool.not_eq_false', decide_eq_true_eq, decide_eq_false_iff_not, reduceCtorEq] at hc; all_goals try (exfalso; omega)))
          all_goals first
            | (exfalso; have := hI (by omega); omega)
            | (exfalso; have := (hP (by omega)).1; omega)
            | (have e := hP (by omega); have h2 := ih2 (k2 + 1, many2 + 1) ⟨(by omega), (by dsimp only; rw [hts2, if_pos (show p ∈ q.take k2 ++ [q.getD k2 0] from (by rw [List.mem_append]; right; rw [List.mem_singleton]; omega)), hm2, if_neg e.2])⟩ (by dsimp only; omega); refine GO_fit (by (repeat (first | exact trivial | refine ⟨rfl, ?_⟩)); done) (by (repeat (first | exact Takes_nil | (apply Takes_cons; exact (by (repeat (first | exact Take.here | apply Take.there)); done)))); done) (h2))
            | (have e := hP (by omega); have h2 := ih2 (k2 + 1, many2 + 1) ⟨(by omega), (by dsimp only; rw [hts2, if_pos (show p ∈ q.take k2 ++ [q.getD k2 0] from (by rw [List.mem_append]; right; rw [List.mem_singleton]; omega)), hm2, if_neg e.2]; omega)⟩ (by dsimp only; omega); refine GO_fit (by (repeat (first | exact trivial | refine ⟨rfl, ?_⟩)); done) (by (repeat (first | exact Takes_nil | (apply Takes_cons; exact (by (repeat (first | exact Take.here | apply Take.there)); done)))); done) (h2))
            | (have h2 := ih2 (k2 + 1, many2) ⟨(by omega), (by dsimp only; rw [hts2, hm2]; congr 1; have hne : ¬ (p = q.getD k2 0) := (by omega); simp only [List.mem_append, List.mem_singleton, hne, or_false])⟩ (by dsimp only; omega); refine GO_fit (by (repeat (first | exact trivial | refine ⟨rfl, ?_⟩)); done) (by (repeat (first | exact Takes_nil | (apply Takes_cons; exact (by (repeat (first | exact Take.here | apply Take.there)); done)))); done) (h2))
            | (have e := hP (by omega); have h2 := ih2 (k2 + 1, many2 + 1) ⟨(by omega), (by dsimp only; rw [hts2, if_pos (show p ∈ q.take k2 ++ [q.getD k2 0] from (by rw [List.mem_append]; right; rw [List.mem_singleton]; omega)), hm2, if_neg e.2]; omega)⟩ (by dsimp only; omega); refine GO_fit (by (repeat (first | exact trivial | refine ⟨rfl, ?_⟩)); done) (by (repeat (first | exact Takes_nil | (apply Takes_cons; exact (by (repeat (first | exact Take.here | apply Take.there)); done)))); done) (h2))
        · have hk4 : k2 = q.length := by omega
          subst hk4
          rw [List.take_length] at hm2
          have hM : many2 = manyL r p (r.clubs.take (k + 1)) := by
            rw [hts, manyL_snoc, hm2, hm, hq]
          have h2 := ih (k + 1, many2, true, hq1) ⟨by omega, hlk.trans hle1, hM, hkw2⟩ (by omega)
          repeat' (first | apply GO_seq | apply GO_inBlock | apply GO_region | apply GOl_nil | (apply GO_exit; exact rfl) | (apply GOl_add; exact rfl; exact rfl; exact rfl; omega; exact rfl; exact rfl) | (apply GOl_pv; exact rfl; exact rfl; exact rfl) | (apply GO_cond; exact rfl; all_goals intro hc; all_goals try simp only [ltI_t, ltI_f, leI_t, leI_f, eqI_t, eqI_f, Bool.not_eq_true', Bool.not_eq_false', decide_eq_true_eq, decide_eq_false_iff_not, reduceCtorEq] at hc; all_goals try (exfalso; omega)))
          refine GO_fit (by (repeat (first | exact trivial | refine ⟨rfl, ?_⟩)); done) (by (repeat (first | exact Takes_nil | (apply Takes_cons; exact (by (repeat (first | exact Take.here | apply Take.there)); done)))); done) (h2)
      · have hkw2 : eqI cb rc.1 = decide (rc.1 ∈ r.clubs.take (k + 1)) := by
          rw [hts, Bool.eq_iff_iff]; simp only [decide_eq_true_eq, List.mem_append, List.mem_singleton, eqI_eq]
          grind
        refine GO_loopT (X := Nat × Nat) (fun x => x.1 ≤ q.length ∧ x.2 = many + if p ∈ q.take x.1 then 1 else 0) (fun x => q.length - x.1)
          (fun x => [(12, .int .i64 x.1), (11, .slice A1 q.length c1'), (10, .int .i64 k), (9, .bool (eqI cb rc.1)), (8, .int .i64 x.2), (7, .bool rc.2.2), (6, .int .i64 rc.2.1), (5, .int .i64 rc.1), (2, .pointer (some ⟨b, 0, none⟩)), (1, .int .i64 p)])
          (fun x => [Blk b 25 (partL (regV r.league r.day s))]) (fun x => hq1) (0, many) ⟨by omega, by simp⟩ (by (repeat (first | exact trivial | refine ⟨rfl, ?_⟩)); done) (by (repeat (first | exact Takes_nil | (apply Takes_cons; exact (by (repeat (first | exact Take.here | apply Take.there)); done)))); done) rfl ?_
        rintro ⟨k2, many2⟩ ⟨hk2, hm2⟩ ih2
        dsimp only at hk2 hm2 ih2 ⊢
        by_cases hk3 : k2 < q.length
        · have a2 := hat1.addrD hk3
          have c2 := hat1.cellsD 0 hk3
          have c3 := hat1.cellsD 0 (show k2 - 1 < q.length by omega)
          have c1b := c1.le hle1
          have hm3 : many2 ≤ 31 := by rw [hm2]; split <;> omega
          have hI : 0 < k2 → q.getD (k2 - 1) 0 < q.getD k2 0 := fun h0 => by
            have hp := hq ▸ squad_incr r cb
            have := List.pairwise_iff_getElem.1 hp (k2 - 1) k2 (by omega) hk3 (by omega)
            simpa [List.getD, List.getElem?_eq_getElem hk3, List.getElem?_eq_getElem (show k2 - 1 < q.length by omega)] using this
          have hP : q.getD k2 0 = p → rc.2.1 = cb ∧ p ∉ q.take k2 := fun h0 => by
            have hp := hq ▸ squad_incr r cb
            have hge : q.getD k2 0 = q[k2] := by simp [List.getD, List.getElem?_eq_getElem hk3]
            have hmem : p ∈ squadL r cb := by rw [hq, ← h0, hge]; exact List.getElem_mem hk3
            refine ⟨by have := ((mem_squad r cb p).1 hmem).2.2; rwa [hrc] at this, fun hin => ?_⟩
            obtain ⟨i, hi, hi2⟩ := List.getElem_of_mem hin
            rw [List.length_take] at hi
            rw [List.getElem_take] at hi2
            have := List.pairwise_iff_getElem.1 hp i k2 (by omega) hk3 (by omega)
            rw [hi2] at this; omega
          have hts2 := take_snocD 0 (rfl : q.length = q.length) hk3
          repeat' (first | apply GO_seq | apply GO_skip | apply GO_inBlock | apply GO_block | apply GO_region | apply GOl_nil | (apply GO_exit; exact rfl) | (apply GOl_add; exact rfl; exact rfl; exact rfl; omega; exact rfl; exact rfl) | (apply GOl_pv; exact rfl; exact rfl; exact rfl) | (apply GOl_load; exact rfl; exact Ld_blk rfl (by (repeat (first | exact List.Mem.head _ | apply List.Mem.tail)); done) rfl; exact rfl; exact rfl) | (apply GOl_ov; exact rfl; exact rfl; (first | (apply OV_idxS (j := k2); exact rfl; exact rfl; exact rfl; exact rfl; exact rfl; assumption; (with_reducible exact rfl); omega) | (apply OV_idxS (j := k); exact rfl; exact rfl; exact rfl; exact rfl; exact rfl; assumption; (with_reducible exact rfl); omega) | (apply OV_load; exact rfl; first | exact Lv_ro rfl (by assumption) rfl | exact Lv_roF rfl (by assumption) rfl | exact Lv_roF2 rfl (by assumption) rfl | exact Lv_roF3 rfl (by assumption) rfl)); exact (by repeat' (first | exact trivial | apply And.intro | exact List.Mem.head _ | apply List.Mem.tail))) | (apply GO_drawp (n := 16) [0, 1, 2, 3, 4, 5, 6, 7, 8, 9, 10, 11, 12, 13] [(0, 0), (1, 0), (2, 0), (3, 0), (4, 0), (5, 0), (6, 0), (7, 0), (8, 0), (9, 0), (10, 0), (11, 0), (12, 0), (13, 0)]; kernel_rfl) | (apply GP_un; exact rfl; kernel_rfl; exact rfl; exact rfl) | (apply GP_sub; exact rfl; kernel_rfl; exact rfl; exact rfl; exact rfl; exact rfl; exact rfl; omega) | (apply GP_pv; exact rfl; kernel_rfl; exact rfl; exact rfl; exact rfl) | (apply GP_ov; exact rfl; kernel_rfl; exact rfl; exact rfl; (first | (apply OV_idxS (j := k2); exact rfl; exact rfl; exact rfl; exact rfl; exact rfl; assumption; (with_reducible exact rfl); omega) | (apply OV_idxS (j := k2 - 1); exact rfl; exact rfl; exact rfl; exact rfl; exact rfl; assumption; omega; omega) | (apply OV_load; exact rfl; first | exact Lv_ro rfl (by assumption) rfl | exact Lv_roF rfl (by assumption) rfl | exact Lv_roF2 rfl (by assumption) rfl | exact Lv_roF3 rfl (by assumption) rfl)); exact (by repeat' (first | exact trivial | apply And.intro | exact List.Mem.head _ | apply List.Mem.tail))) | (apply GP_done; kernel_rfl; exact rfl) | (apply GP_split; exact rfl; exact rfl; exact rfl; exact rfl; exact rfl; all_goals intro hc; all_goals try simp only [ltI_t, ltI_f, leI_t, leI_f, eqI_t, eqI_f, Bool.not_eq_true', Bool.not_eq_false', decide_eq_true_eq, decide_eq_false_iff_not, reduceCtorEq] at hc; all_goals try (exfalso; omega)) | (apply GO_cond; exact rfl; all_goals intro hc; all_goals try simp only [ltI_t, ltI_f, leI_t, leI_f, eqI_t, eqI_f, Bool.not_eq_true', Bool.not_eq_false', decide_eq_true_eq, decide_eq_false_iff_not, reduceCtorEq] at hc; all_goals try (exfalso; omega)))
          all_goals first
            | (exfalso; have := hI (by omega); omega)
            | (exfalso; have := (hP (by omega)).1; omega)
            | (have e := hP (by omega); have h2 := ih2 (k2 + 1, many2 + 1) ⟨(by omega), (by dsimp only; rw [hts2, if_pos (show p ∈ q.take k2 ++ [q.getD k2 0] from (by rw [List.mem_append]; right; rw [List.mem_singleton]; omega)), hm2, if_neg e.2])⟩ (by dsimp only; omega); refine GO_fit (by (repeat (first | exact trivial | refine ⟨rfl, ?_⟩)); done) (by (repeat (first | exact Takes_nil | (apply Takes_cons; exact (by (repeat (first | exact Take.here | apply Take.there)); done)))); done) (h2))
            | (have e := hP (by omega); have h2 := ih2 (k2 + 1, many2 + 1) ⟨(by omega), (by dsimp only; rw [hts2, if_pos (show p ∈ q.take k2 ++ [q.getD k2 0] from (by rw [List.mem_append]; right; rw [List.mem_singleton]; omega)), hm2, if_neg e.2]; omega)⟩ (by dsimp only; omega); refine GO_fit (by (repeat (first | exact trivial | refine ⟨rfl, ?_⟩)); done) (by (repeat (first | exact Takes_nil | (apply Takes_cons; exact (by (repeat (first | exact Take.here | apply Take.there)); done)))); done) (h2))
            | (have h2 := ih2 (k2 + 1, many2) ⟨(by omega), (by dsimp only; rw [hts2, hm2]; congr 1; have hne : ¬ (p = q.getD k2 0) := (by omega); simp only [List.mem_append, List.mem_singleton, hne, or_false])⟩ (by dsimp only; omega); refine GO_fit (by (repeat (first | exact trivial | refine ⟨rfl, ?_⟩)); done) (by (repeat (first | exact Takes_nil | (apply Takes_cons; exact (by (repeat (first | exact Take.here | apply Take.there)); done)))); done) (h2))
            | (have e := hP (by omega); have h2 := ih2 (k2 + 1, many2 + 1) ⟨(by omega), (by dsimp only; rw [hts2, if_pos (show p ∈ q.take k2 ++ [q.getD k2 0] from (by rw [List.mem_append]; right; rw [List.mem_singleton]; omega)), hm2, if_neg e.2]; omega)⟩ (by dsimp only; omega); refine GO_fit (by (repeat (first | exact trivial | refine ⟨rfl, ?_⟩)); done) (by (repeat (first | exact Takes_nil | (apply Takes_cons; exact (by (repeat (first | exact Take.here | apply Take.there)); done)))); done) (h2))
        · have hk4 : k2 = q.length := by omega
          subst hk4
          rw [List.take_length] at hm2
          have hM : many2 = manyL r p (r.clubs.take (k + 1)) := by
            rw [hts, manyL_snoc, hm2, hm, hq]
          have h2 := ih (k + 1, many2, eqI cb rc.1, hq1) ⟨by omega, hlk.trans hle1, hM, hkw2⟩ (by omega)
          repeat' (first | apply GO_seq | apply GO_inBlock | apply GO_region | apply GOl_nil | (apply GO_exit; exact rfl) | (apply GOl_add; exact rfl; exact rfl; exact rfl; omega; exact rfl; exact rfl) | (apply GOl_pv; exact rfl; exact rfl; exact rfl) | (apply GO_cond; exact rfl; all_goals intro hc; all_goals try simp only [ltI_t, ltI_f, leI_t, leI_f, eqI_t, eqI_f, Bool.not_eq_true', Bool.not_eq_false', decide_eq_true_eq, decide_eq_false_iff_not, reduceCtorEq] at hc; all_goals try (exfalso; omega)))
          refine GO_fit (by (repeat (first | exact trivial | refine ⟨rfl, ?_⟩)); done) (by (repeat (first | exact Takes_nil | (apply Takes_cons; exact (by (repeat (first | exact Take.here | apply Take.there)); done)))); done) (h2)
    · have hkk : k = s.nc := by omega
      have hta : r.clubs.take k = r.clubs := List.take_of_length_le (by omega)
      rw [hta] at hm hkw
      have F1 : ck ≠ 0 → rc.2.2 = false ∧ many = 0 := fun h0 => by
        have := squads_bad (fun g => h0 (hk0.2 g)) p r.clubs
        rw [hrc] at this; exact ⟨this.1, hm.trans this.2⟩
      have F2 : ck = 0 → rc.2.2 = true → many = 1 ∧ known = true := fun h0 h1 => by
        have := squads_good (hk0.1 h0) p
        rw [hrc, if_pos h1] at this; exact ⟨hm.trans this.1, by rw [hkw]; simp [this.2]⟩
      have F3 : ck = 0 → rc.2.2 = false → many = 0 := fun h0 h1 => by
        have := squads_good (hk0.1 h0) p
        rw [hrc, if_neg (by simp [h1])] at this; exact hm.trans this
      repeat' (first | apply GO_seq | apply GO_skip | apply GO_region | apply GOl_nil | (apply GO_exit; exact rfl) | (apply GOl_unwanted; exact rfl; exact rfl) | (apply GOl_pv; exact rfl; exact rfl; exact rfl) | (apply GOl_load; exact rfl; exact Ld_blk rfl (by (repeat (first | exact List.Mem.head _ | apply List.Mem.tail)); done) rfl; exact rfl; exact rfl) | (apply GOl_to; exact rfl; exact rfl; exact rfl; (first | (apply OpTo_val; exact rfl; exact has16; exact hck _ (by first | exact Le.refl _ | assumption | (repeat (first | assumption | (apply Le.trans; assumption)))); skip))) | (apply GO_cond; exact rfl; all_goals intro hc; all_goals try simp only [ltI_t, ltI_f, leI_t, leI_f, eqI_t, eqI_f, Bool.not_eq_true', Bool.not_eq_false', decide_eq_true_eq, decide_eq_false_iff_not, reduceCtorEq] at hc; all_goals try (exfalso; omega)) | (apply GOl_split; exact rfl; exact rfl; all_goals intro hc; all_goals try simp only [ltI_t, ltI_f, leI_t, leI_f, eqI_t, eqI_f, Bool.not_eq_true', Bool.not_eq_false', decide_eq_true_eq, decide_eq_false_iff_not, reduceCtorEq] at hc; all_goals try (exfalso; omega)) | (apply GO_retV1; exact rfl; exact rfl; exact rfl))
      all_goals first
        | (rw [(F1 (by assumption)).2]; simp [eqI_eq]; done)
        | exact absurd ((F1 (by assumption)).1.symm.trans (by assumption)) (by simp)
        | (rw [(F2 (by assumption) (by assumption)).2]; done)
        | (exfalso; have := (F2 (by assumption) (by assumption)).1; omega)
        | (rw [F3 (by assumption) (by assumption)]; simp [eqI_eq]; done)
       
  · repeat' (first | apply GO_seq | apply GO_skip | apply GO_region | apply GOl_nil | (apply GOl_pv; exact rfl; exact rfl; exact rfl) | (apply GOl_load; exact rfl; exact Ld_blk rfl (by (repeat (first | exact List.Mem.head _ | apply List.Mem.tail)); done) rfl; exact rfl; exact rfl) | (apply GOl_to; exact rfl; exact rfl; exact rfl; (first | (apply OpTo_box; exact rfl; intro b; skip) | (apply OpTo_val; exact rfl; exact has9; exact sane_c hS _; skip) | (apply OpTo_val; exact rfl; exact has10; exact few_c _ _ _ _; skip))) | (apply GO_cond; exact rfl; all_goals intro hc; all_goals try simp only [ltI_t, ltI_f, leI_t, leI_f, eqI_t, eqI_f, Bool.not_eq_true', Bool.not_eq_false', decide_eq_true_eq, decide_eq_false_iff_not, reduceCtorEq] at hc; all_goals try (exfalso; omega)) | (apply GO_retV1; exact rfl; exact rfl; exact rfl))
    all_goals first | rfl | (simp at hc; done) | (simp [eqI_eq]; done)
end Go.Hw


import Derived.Test.YtekcphgpmihmlabGreatDoorVL2
import Derived.Test.YtekcphgpmihmlabGreatDoorVW19
/-
  The law RegistryEligible, walked.
-/
set_option linter.unusedVariables false
set_option linter.unusedSimpArgs false
set_option maxRecDepth 100000
set_option maxHeartbeats 4000000
namespace Go.Hw
open Go
attribute [local irreducible] GO GOl GDp Val Fn Res CellsAt ValE Blk OwnS MapA OwnPf Has Yl RngA
open Go.Proofs (Tryz.prog)


open Classical in
theorem eligible36_c (hS : SortSaid) (h : Ro) (hG : PowG h) (s : Rsh) (r : Reg) (hcl : SlOf encI 1 h s.ac s.nc r.clubs) (hen : SlOf encE 7 h s.ae s.ne r.ents) (player later : Int) :
    Val Tryz.prog 4 #[regV r.league r.day s, .int .i64 player, .int .i64 later] h (.bool true) := by
  refine Val_intro (args := [_, _, _]) ts_ok Go.Proofs.Tryz.func4 rfl rfl fun w0 X0 => ?_
  by_cases hF : s.nc ≤ 30 ∧ s.ne ≤ 16
  · by_cases hlt : 0 ≤ later ∧ later ≤ 1000
    · have hr : RegAt h s r := ⟨hcl, hen, by omega, by omega⟩
      have hle0 := movesL_len r.ents
      have hlen := hen.len
      by_cases hg : RegGood r
      · have hM1 : ∀ h', Le h h' → Res Tryz.prog 14 #[regV r.league r.day s] h' (fun v h'' => ∃ A c, v = .tuple #[.slice A (mvL r.ents).length c, .int .i64 0] ∧ SlOf encF82 82 h'' A (mvL r.ents).length (mvL r.ents)) := fun h' hle => by
          have := regMoves_c h' s r (hr.le hle); simp only [if_pos hg] at this
          refine this.mono ?_
          rintro v h'' _ ⟨A, c, rfl, hs⟩
          have hl : (mvL r.ents).length = (movesL r.ents).length := by unfold mvL; rw [List.length_map]
          rw [hl]
          exact ⟨A, c, rfl, hs.ofM⟩
        have hC1 : ∀ h', Le h h' → Val Tryz.prog 15 #[regV r.league r.day s, .int .i64 player] h' (.tuple #[.int .i64 (regClub r player).1, .int .i64 (regClub r player).2.1, .bool (regClub r player).2.2]) := fun h' hle => regClub_c h' s r (hr.le hle) player
        have hdy := good_day hg
        obtain ⟨g1, g2, g3⟩ := good_reg hg (D := min (r.day + later) 1048576) (by omega) player
        have hml : (mvL r.ents).length ≤ 16 := by unfold mvL; rw [List.length_map]; omega
        have hm6 : ∀ m ∈ mvL r.ents, m.2.kind = 6 ∧ ∀ h, FAt h m.1 m.2 ∧ FSm m.2 := fun m hm => by
          unfold mvL at hm
          obtain ⟨q, _, rfl⟩ := List.mem_map.1 hm
          exact ⟨rfl, fun h => ⟨mvF_at h q, mvF_sm q⟩⟩
        obtain ⟨D, hD⟩ : ∃ D, D = min (r.day + later) 1048576 := ⟨_, rfl⟩
        rw [← hD] at g1
        obtain ⟨o, w, ok, hC2, hR2⟩ : ∃ (o w : Int) (ok : Bool), (∀ h', Le h h' → Val Tryz.prog 15 #[regV r.league r.day s, .int .i64 player] h' (.tuple #[.int .i64 o, .int .i64 w, .bool ok])) ∧
            (∀ h' A c, Le h h' → FactsAt h' A (mvL r.ents).length (mvL r.ents) → Res Tryz.prog 16 #[.slice A (mvL r.ents).length c, .int .i64 player, .int .i64 D] h' (fun u _ => u = .tuple #[.int .i64 w, .bool ok])) := by
          unfold regClub at hC1
          by_cases ho : (ofL r.ents player).owner = -1
          · refine ⟨0, 0, false, fun h' hle => ?_, fun h' A c hle hfa => ?_⟩
            · have := hC1 h' hle
              rw [if_neg (fun q => q.2 ho)] at this
              exact this
            · refine (registered_c h' (hG.le hle) A _ c _ hfa player D).mono ?_
              rintro v _ _ rfl
              rw [g1, if_pos ho]
              rfl
          · refine ⟨(ofL r.ents player).owner, if (ofL r.ents player).borrower ≠ -1 then (ofL r.ents player).borrower else (ofL r.ents player).owner, true, fun h' hle => ?_, fun h' A c hle hfa => ?_⟩
            · have := hC1 h' hle
              rw [if_pos ⟨hg, ho⟩] at this
              exact this
            · refine (registered_c h' (hG.le hle) A _ c _ hfa player D).mono ?_
              rintro v _ _ rfl
              have := g2 ho
              rw [g1, if_neg ho]
              generalize (if (ofL r.ents player).borrower ≠ -1 then (ofL r.ents player).borrower else (ofL r.ents player).owner) = z at *
              rw [if_neg (by omega), decide_eq_true this]
        clear g1 g2 hC1 hle0
        generalize mvL r.ents = ml at *
        repeat' (first | apply GO_seq | apply GO_skip | apply GO_block | apply GO_region | apply GOl_nil | (apply GOl_pv; exact rfl; exact rfl; exact rfl) | (apply GOl_load; exact rfl; exact Ld_blk rfl (by (repeat (first | exact List.Mem.head _ | apply List.Mem.tail)); done) rfl; exact rfl; exact rfl) | (apply GOl_to; exact rfl; exact rfl; exact rfl; (first | (apply OpTo_box; exact rfl; intro b; skip) | (apply OpTo_val; exact rfl; exact has12; exact sane_c hS _; skip) | (apply OpTo_res; exact rfl; exact has14; exact hM1 _ (by first | exact Le.refl _ | assumption | (repeat (first | assumption | (apply Le.trans; assumption)))); rintro vq hq1 hle1 ⟨A1, c1, rfl, hat1⟩; skip) | (apply OpTo_val; exact rfl; exact has13; exact few_c _ _ _ _; skip))) | (apply GO_cond; exact rfl; all_goals intro hc; all_goals try simp only [ltI_t, ltI_f, leI_t, leI_f, eqI_t, eqI_f, Bool.not_eq_true', Bool.not_eq_false', decide_eq_true_eq, decide_eq_false_iff_not, reduceCtorEq] at hc; all_goals try (exfalso; omega)) | (apply GOl_split; exact rfl; exact rfl; all_goals intro hc; all_goals try simp only [ltI_t, ltI_f, leI_t, leI_f, eqI_t, eqI_f, Bool.not_eq_true', Bool.not_eq_false', decide_eq_true_eq, decide_eq_false_iff_not, reduceCtorEq] at hc; all_goals try (exfalso; omega)))
        generalize b = bR
        have hfa : FactsAt hq1 A1 ml.length ml := ⟨hat1, fun m hm => (hm6 m hm).2 hq1, by omega⟩
        refine GO_loopT (X := Nat) (fun k => k ≤ ml.length) (fun k => ml.length - k)
          (fun k => [(9, .int .i64 k), (7, .slice A1 ml.length c1), (3, .pointer (some ⟨bR, 0, none⟩)), (1, .int .i64 player), (2, .int .i64 later)])
          (fun _ => [Blk bR 61 (partL (regV r.league r.day s))]) (fun _ => hq1) 0 (by omega) (by (repeat (first | exact trivial | refine ⟨rfl, ?_⟩)); done) (by (repeat (first | exact Takes_nil | (apply Takes_cons; exact (by (repeat (first | exact Take.here | apply Take.there)); done)))); done) rfl ?_
        rintro k hk ih
        try dsimp only at hk
        try dsimp only at ih
        try dsimp only
        by_cases hkn : k < ml.length
        · have a1 := hat1.addrD hkn
          have e1 := hat1.cellsD p0 hkn
          have hmem := mem7 p0 hkn
          have q1 := g3 _ hmem
          have q2 := hm6 _ hmem
          have h3 := ih (k + 1) (by omega) (by omega)
          generalize ml.getD k p0 = p at *
          obtain ⟨u, f⟩ := p
          have e2 : CellsAt hq1 ((addrD A1).add (k * 82)) (factC u f) := e1
          clear e1
          dsimp only at q1 q2
          have hch := check7_c hq1 u f (q2.2 hq1).1 (q2.2 hq1).2
          rw [if_pos q1] at hch
          have hk6 := q2.1
          repeat' (first | apply GO_seq | apply GO_skip | apply GO_inBlock | apply GO_block | apply GO_region | apply GOl_nil | (apply GOl_add; exact rfl; exact rfl; exact rfl; omega; exact rfl; exact rfl) | (apply GOl_pv; exact rfl; exact rfl; exact rfl) | (apply GOl_ov; exact rfl; exact rfl; (first | (apply OV_idxS (j := k); exact rfl; exact rfl; exact rfl; exact rfl; exact rfl; exact a1; omega; omega) | (apply OV_load; exact rfl; exact Lv_ro rfl e2 rfl)); exact (by repeat' (first | exact trivial | apply And.intro | exact List.Mem.head _ | apply List.Mem.tail))) | (apply GOl_to; exact rfl; exact rfl; exact rfl; (first | (apply OpTo_val; exact rfl; exact has11; exact hch; skip))) | (apply GO_cond; exact rfl; all_goals intro hc; all_goals try simp only [ltI_t, ltI_f, leI_t, leI_f, eqI_t, eqI_f, Bool.not_eq_true', Bool.not_eq_false', decide_eq_true_eq, decide_eq_false_iff_not, reduceCtorEq] at hc; all_goals try (exfalso; omega)) | (apply GOl_split; exact rfl; exact rfl; all_goals intro hc; all_goals try simp only [ltI_t, ltI_f, leI_t, leI_f, eqI_t, eqI_f, Bool.not_eq_true', Bool.not_eq_false', decide_eq_true_eq, decide_eq_false_iff_not, reduceCtorEq] at hc; all_goals try (exfalso; omega)))
          all_goals first
            | refine GO_fit (by (repeat (first | exact trivial | refine ⟨rfl, ?_⟩)); done) (by (repeat (first | exact Takes_nil | (apply Takes_cons; exact (by (repeat (first | exact Take.here | apply Take.there)); done)))); done) (h3)
           
        · repeat' (first | apply GO_seq | apply GO_region | apply GOl_nil | (apply GO_exit; exact rfl) | (apply GOl_unwanted; exact rfl; exact rfl) | (apply GOl_add; exact rfl; exact rfl; exact rfl; omega; exact rfl; exact rfl) | (apply GOl_pv; exact rfl; exact rfl; exact rfl) | (apply GOl_load; exact rfl; exact Ld_blk rfl (by (repeat (first | exact List.Mem.head _ | apply List.Mem.tail)); done) rfl; exact rfl; exact rfl) | (apply GOl_to; exact rfl; exact rfl; exact rfl; (first | (apply OpTo_val; exact rfl; exact has15; exact hC2 _ hle1; skip) | (apply OpTo_res; exact rfl; exact has16; (have hR3 := hR2 hq1 A1 c1 hle1 hfa; rw [hD] at hR3; exact hR3); rintro vz hz1 hlez rfl; skip))) | (apply GO_cond; exact rfl; all_goals intro hc; all_goals try simp only [ltI_t, ltI_f, leI_t, leI_f, eqI_t, eqI_f, Bool.not_eq_true', Bool.not_eq_false', decide_eq_true_eq, decide_eq_false_iff_not, reduceCtorEq] at hc; all_goals try (exfalso; omega)) | (apply GOl_split; exact rfl; exact rfl; all_goals intro hc; all_goals try simp only [ltI_t, ltI_f, leI_t, leI_f, eqI_t, eqI_f, Bool.not_eq_true', Bool.not_eq_false', decide_eq_true_eq, decide_eq_false_iff_not, reduceCtorEq] at hc; all_goals try (exfalso; omega)))
          all_goals first
            | (exfalso; simp at hc; done)
            | ((first | (apply GO_retV1; exact rfl; exact rfl; exact rfl)); first | rfl | (simp [eqI_eq]; done))
           
      · have hM1 : ∀ h', Le h h' → Res Tryz.prog 14 #[regV r.league r.day s] h' (fun v h'' => v = .tuple #[.slice none 0 0, .int .i64 360]) := fun h' hle => by
          have := regMoves_c h' s r (hr.le hle); simp only [if_neg hg] at this; exact this
        repeat' (first | apply GO_seq | apply GO_skip | apply GO_region | apply GOl_nil | (apply GOl_pv; exact rfl; exact rfl; exact rfl) | (apply GOl_load; exact rfl; exact Ld_blk rfl (by (repeat (first | exact List.Mem.head _ | apply List.Mem.tail)); done) rfl; exact rfl; exact rfl) | (apply GOl_to; exact rfl; exact rfl; exact rfl; (first | (apply OpTo_box; exact rfl; intro b; skip) | (apply OpTo_val; exact rfl; exact has12; exact sane_c hS _; skip) | (apply OpTo_res; exact rfl; exact has14; exact hM1 _ (by first | exact Le.refl _ | assumption | (repeat (first | assumption | (apply Le.trans; assumption)))); rintro vq hq1 hle1 rfl; skip) | (apply OpTo_val; exact rfl; exact has13; exact few_c _ _ _ _; skip))) | (apply GO_cond; exact rfl; all_goals intro hc; all_goals try simp only [ltI_t, ltI_f, leI_t, leI_f, eqI_t, eqI_f, Bool.not_eq_true', Bool.not_eq_false', decide_eq_true_eq, decide_eq_false_iff_not, reduceCtorEq] at hc; all_goals try (exfalso; omega)) | (apply GOl_split; exact rfl; exact rfl; all_goals intro hc; all_goals try simp only [ltI_t, ltI_f, leI_t, leI_f, eqI_t, eqI_f, Bool.not_eq_true', Bool.not_eq_false', decide_eq_true_eq, decide_eq_false_iff_not, reduceCtorEq] at hc; all_goals try (exfalso; omega)) | (apply GO_retV1; exact rfl; exact rfl; exact rfl))
        all_goals first | rfl | (simp at hc; done) | (simp [eqI_eq]; done)
    · repeat' (first | apply GO_seq | apply GO_skip | apply GO_region | apply GOl_nil | (apply GOl_unwanted; exact rfl; exact rfl) | (apply GOl_pv; exact rfl; exact rfl; exact rfl) | (apply GOl_load; exact rfl; exact Ld_blk rfl (by (repeat (first | exact List.Mem.head _ | apply List.Mem.tail)); done) rfl; exact rfl; exact rfl) | (apply GOl_to; exact rfl; exact rfl; exact rfl; (first | (apply OpTo_box; exact rfl; intro b; skip) | (apply OpTo_val; exact rfl; exact has12; exact sane_c hS _; skip) | (apply OpTo_val; exact rfl; exact has13; exact few_c _ _ _ _; skip))) | (apply GO_cond; exact rfl; all_goals intro hc; all_goals try simp only [ltI_t, ltI_f, leI_t, leI_f, eqI_t, eqI_f, Bool.not_eq_true', Bool.not_eq_false', decide_eq_true_eq, decide_eq_false_iff_not, reduceCtorEq] at hc; all_goals try (exfalso; omega)) | (apply GOl_split; exact rfl; exact rfl; all_goals intro hc; all_goals try simp only [ltI_t, ltI_f, leI_t, leI_f, eqI_t, eqI_f, Bool.not_eq_true', Bool.not_eq_false', decide_eq_true_eq, decide_eq_false_iff_not, reduceCtorEq] at hc; all_goals try (exfalso; omega)) | (apply GO_retV1; exact rfl; exact rfl; exact rfl))
      all_goals first | rfl | (simp at hc; done) | (simp [eqI_eq]; done) | (exfalso; omega)
  · repeat' (first | apply GO_seq | apply GO_skip | apply GO_region | apply GOl_nil | (apply GOl_unwanted; exact rfl; exact rfl) | (apply GOl_pv; exact rfl; exact rfl; exact rfl) | (apply GOl_load; exact rfl; exact Ld_blk rfl (by (repeat (first | exact List.Mem.head _ | apply List.Mem.tail)); done) rfl; exact rfl; exact rfl) | (apply GOl_to; exact rfl; exact rfl; exact rfl; (first | (apply OpTo_box; exact rfl; intro b; skip) | (apply OpTo_val; exact rfl; exact has12; exact sane_c hS _; skip) | (apply OpTo_val; exact rfl; exact has13; exact few_c _ _ _ _; skip))) | (apply GO_cond; exact rfl; all_goals intro hc; all_goals try simp only [ltI_t, ltI_f, leI_t, leI_f, eqI_t, eqI_f, Bool.not_eq_true', Bool.not_eq_false', decide_eq_true_eq, decide_eq_false_iff_not, reduceCtorEq] at hc; all_goals try (exfalso; omega)) | (apply GOl_split; exact rfl; exact rfl; all_goals intro hc; all_goals try simp only [ltI_t, ltI_f, leI_t, leI_f, eqI_t, eqI_f, Bool.not_eq_true', Bool.not_eq_false', decide_eq_true_eq, decide_eq_false_iff_not, reduceCtorEq] at hc; all_goals try (exfalso; omega)) | (apply GO_retV1; exact rfl; exact rfl; exact rfl))
    all_goals first | rfl | (simp at hc; done) | (simp [eqI_eq]; done)
end Go.Hw

import Derived.Test.YtbgjcjhodlmgjacDoorCM1
import Derived.Test.YtbgjcjhodlmgjacDoorCN9
set_option linter.unusedVariables false
set_option linter.unusedSimpArgs false
set_option maxRecDepth 100000
set_option maxHeartbeats 8000000
namespace Go.Hw
open Go
attribute [local irreducible] Has GO GOl GDp Val Fn Res CellsAt ValE Blk OwnS MapA Yl
open Go.Proofs (Tryd.prog)

theorem decide_all_snoc {l : List Ent} {x : Ent} {p : Int} : decide (∀ y ∈ l ++ [x], y.player ≠ p) = (decide (∀ y ∈ l, y.player ≠ p) && !eqI x.player p) := by
  rw [eqI_eq, Bool.eq_iff_iff]
  simp only [decide_eq_true_eq, Bool.and_eq_true, Bool.not_eq_true', decide_eq_false_iff_not]
  constructor
  · intro h; exact ⟨fun y hy => h y (by simp [hy]), h x (by simp)⟩
  · rintro ⟨h1, h2⟩ y hy
    rw [List.mem_append, List.mem_singleton] at hy
    rcases hy with hy | rfl
    · exact h1 y hy
    · exact h2


theorem loans_c (h : Ro) (s : Rsh) (r : Reg) (hr : RegAt h s r) (hne : s.ne ≤ 100000) (club : Int)
    (hclub : ∀ p, Val Tryd.prog 36 #[regV r.league r.day s, .int .i64 p] h (.tuple #[.int .i64 (regClub r p).1, .int .i64 (regClub r p).2.1, .bool (regClub r p).2.2])) :
    Val Tryd.prog 10 #[regV r.league r.day s, .int .i64 club] h (.tuple #[.int .i64 (loanIn club (playersL r (firsts r.ents))), .int .i64 (loanOut club (playersL r (firsts r.ents)))]) := by
  refine Val_intro (args := [_, _]) ts_ok Go.Proofs.Tryd.func10 rfl rfl fun w0 X0 => ?_
  have hlen := hr.ents.len
  repeat' (first | apply GO_seq | apply GO_block | apply GO_region | apply GOl_nil | (apply GOl_pv; exact rfl; exact rfl; exact rfl) | (apply GOl_to; exact rfl; exact rfl; exact rfl; (first | (apply OpTo_box; exact rfl; intro b; skip))))
  refine GO_loopT (X := Nat × Int × Int) (fun x => x.1 ≤ s.ne ∧ x.2.1 = loanIn club (playersL r (firsts (r.ents.take x.1))) ∧ x.2.2 = loanOut club (playersL r (firsts (r.ents.take x.1)))) (fun x => s.ne - x.1)
    (fun x => [(8, .int .i64 x.1), (6, .int .i64 x.2.1), (7, .int .i64 x.2.2), (2, .pointer (some ⟨b, 0, none⟩)), (1, .int .i64 club)]) (fun _ => [Blk b 28 (partL (regV r.league r.day s))]) (fun _ => h) (0, 0, 0) ⟨by dsimp only; omega, rfl, rfl⟩ (by (repeat (first | exact trivial | refine ⟨rfl, ?_⟩)); done) (by (repeat (first | exact Takes_nil | (apply Takes_cons; exact (by (repeat (first | exact Take.here | apply Take.there)); done)))); done) rfl ?_
  rintro ⟨k, a, o⟩ ⟨hk, ha, ho⟩ ih
  dsimp only at hk ha ho ih ⊢
  have hbd := loan_bd club (playersL r (firsts (r.ents.take k)))
  have hpl := playersL_len r (firsts (r.ents.take k))
  have hfl := firsts_len (r.ents.take k)
  rw [List.length_take] at hfl
  rw [← ha, ← ho] at hbd
  by_cases hkn : k < s.ne
  · have a1 := hr.ents.addrD hkn
    have c1 := hr.ents.cellsD e0 hkn
    have et := take_snocQ e0 hlen hkn
    have hfs := firsts_snoc (r.ents.take k) (r.ents.getD k e0)
    rw [← et] at hfs
    have hfm := firsts_mem (r.ents.take k) (r.ents.getD k e0).player
    have hone := playersL_one r (r.ents.getD k e0).player
    have hcl := hclub (r.ents.getD k e0).player
    generalize hx : r.ents.getD k e0 = x at *
    repeat' (first | apply GO_seq | apply GO_skip | apply GO_block | apply GO_region | apply GOl_nil | (apply GOl_pv; exact rfl; exact rfl; exact rfl) | (apply GOl_load; exact rfl; exact Ld_blk rfl (by (repeat (first | exact List.Mem.head _ | apply List.Mem.tail)); done) rfl; exact rfl; exact rfl) | (apply GOl_ov; exact rfl; exact rfl; (first | (apply OV_idxS (j := k); exact rfl; exact rfl; exact rfl; exact rfl; exact rfl; exact a1; (with_reducible exact rfl); omega) | (apply OV_load; exact rfl; exact Lv_roF rfl c1 rfl)); exact (by repeat' (first | exact trivial | apply And.intro | exact List.Mem.head _ | apply List.Mem.tail))) | (apply GO_cond; exact rfl; all_goals intro hc; all_goals try simp only [ltI_t, ltI_f, leI_t, leI_f, eqI_t, eqI_f, Bool.not_eq_true', Bool.not_eq_false', decide_eq_true_eq, decide_eq_false_iff_not, reduceCtorEq] at hc; all_goals try (exfalso; omega)))
    refine GO_loopT (X := Nat × Bool) (fun y => y.1 ≤ k ∧ y.2 = decide (∀ z ∈ r.ents.take y.1, z.player ≠ x.player)) (fun y => k - y.1)
      (fun y => [(11, .int .i64 y.1), (10, .bool y.2), (9, .int .i64 x.player), (8, .int .i64 k), (6, .int .i64 a), (7, .int .i64 o), (2, .pointer (some ⟨b, 0, none⟩)), (1, .int .i64 club)]) (fun _ => [Blk b 28 (partL (regV r.league r.day s))]) (fun _ => h) (0, true) ⟨by dsimp only; omega, by simp⟩ (by (repeat (first | exact trivial | refine ⟨rfl, ?_⟩)); done) (by (repeat (first | exact Takes_nil | (apply Takes_cons; exact (by (repeat (first | exact Take.here | apply Take.there)); done)))); done) rfl ?_
    rintro ⟨j, fl⟩ ⟨hj, hfl2⟩ ih2
    dsimp only at hj hfl2 ih2 ⊢
    by_cases hjk : j < k
    · have hjn : j < s.ne := by omega
      have a2 := hr.ents.addrD hjn
      have c2 := hr.ents.cellsD e0 hjn
      have et2 := take_snocQ e0 hlen hjn
      have hd := decide_all_snoc (l := r.ents.take j) (x := r.ents.getD j e0) (p := x.player)
      rw [← et2, ← hfl2] at hd
      generalize r.ents.getD j e0 = y at *
      repeat' (first | apply GO_seq | apply GO_skip | apply GO_inBlock | apply GO_block | apply GO_region | apply GOl_nil | (apply GOl_unwanted; exact rfl; exact rfl) | (apply GOl_add; exact rfl; exact rfl; exact rfl; omega; exact rfl; exact rfl) | (apply GOl_pv; exact rfl; exact rfl; exact rfl) | (apply GOl_load; exact rfl; exact Ld_blk rfl (by (repeat (first | exact List.Mem.head _ | apply List.Mem.tail)); done) rfl; exact rfl; exact rfl) | (apply GOl_ov; exact rfl; exact rfl; (first | (apply OV_idxS (j := j); exact rfl; exact rfl; exact rfl; exact rfl; exact rfl; exact a2; (with_reducible exact rfl); omega) | (apply OV_load; exact rfl; exact Lv_roF rfl c2 rfl)); exact (by repeat' (first | exact trivial | apply And.intro | exact List.Mem.head _ | apply List.Mem.tail))) | (apply GO_cond; exact rfl; all_goals intro hc; all_goals try simp only [ltI_t, ltI_f, leI_t, leI_f, eqI_t, eqI_f, Bool.not_eq_true', Bool.not_eq_false', decide_eq_true_eq, decide_eq_false_iff_not, reduceCtorEq] at hc; all_goals try (exfalso; omega)) | (apply GOl_split; exact rfl; exact rfl; all_goals intro hc; all_goals try simp only [ltI_t, ltI_f, leI_t, leI_f, eqI_t, eqI_f, Bool.not_eq_true', Bool.not_eq_false', decide_eq_true_eq, decide_eq_false_iff_not, reduceCtorEq] at hc; all_goals try (exfalso; omega)))
      all_goals first
        | (have hfl3 : fl = true := (by assumption); have h3 := ih2 (j + 1, (!eqI y.player x.player)) ⟨(by dsimp only; omega), (by dsimp only; rw [hd, hfl3]; rfl)⟩ (by dsimp only; omega); refine GO_fit (by (repeat (first | exact trivial | refine ⟨rfl, ?_⟩)); done) (by (repeat (first | exact Takes_nil | (apply Takes_cons; exact (by (repeat (first | exact Take.here | apply Take.there)); done)))); done) (h3))
        | (have hfl3 : fl = false := (by assumption); have h3 := ih2 (j + 1, false) ⟨(by dsimp only; omega), (by dsimp only; rw [hd, hfl3]; rfl)⟩ (by dsimp only; omega); refine GO_fit (by (repeat (first | exact trivial | refine ⟨rfl, ?_⟩)); done) (by (repeat (first | exact Takes_nil | (apply Takes_cons; exact (by (repeat (first | exact Take.here | apply Take.there)); done)))); done) (h3))
       
    · have hjk2 : j = k := by omega
      subst hjk2
      clear ih2
      have hfx : fl = decide (x.player ∉ firsts (r.ents.take j)) := by
        rw [hfl2, decide_eq_decide, hfm]
        constructor
        · rintro h1 ⟨z, hz, e⟩; exact h1 z hz e
        · intro h1 z hz e; exact h1 ⟨z, hz, e⟩
      have hnext : playersL r (firsts (r.ents.take (j + 1))) = playersL r (firsts (r.ents.take j)) ++ if fl = true ∧ (regClub r x.player).2.2 = true then [((regClub r x.player).1, (regClub r x.player).2.1)] else [] := by
        rw [hfs]
        by_cases hm : x.player ∈ firsts (r.ents.take j)
        · rw [if_pos hm, if_neg (by rintro ⟨h1, _⟩; rw [h1] at hfx; simp [hm] at hfx), List.append_nil]
        · rw [if_neg hm, playersL_app, hone]
          have : fl = true := by rw [hfx]; simp [hm]
          simp [this]
      generalize regClub r x.player = rc at *
      obtain ⟨ow, pl, ok⟩ := rc
      dsimp only at hcl hnext
      have hA : loanIn club (playersL r (firsts (r.ents.take (j + 1)))) = a + if (fl = true ∧ ok = true) ∧ pl = club ∧ ow ≠ club then 1 else 0 := by
        rw [hnext]
        by_cases hc1 : fl = true ∧ ok = true
        · rw [if_pos hc1, loanIn_snoc, ← ha]
          congr 1
          by_cases hc2 : pl = club ∧ ow ≠ club
          · rw [if_pos (show (ow, pl).1 ≠ (ow, pl).2 ∧ (ow, pl).2 = club by dsimp only; omega), if_pos ⟨hc1, hc2⟩]
          · rw [if_neg (show ¬ ((ow, pl).1 ≠ (ow, pl).2 ∧ (ow, pl).2 = club) by dsimp only; omega), if_neg (fun hh => hc2 hh.2)]
        · rw [if_neg hc1, List.append_nil, if_neg (fun hh => hc1 hh.1), ← ha]; simp
      have hB : loanOut club (playersL r (firsts (r.ents.take (j + 1)))) = o + if (fl = true ∧ ok = true) ∧ ow = club ∧ pl ≠ club then 1 else 0 := by
        rw [hnext]
        by_cases hc1 : fl = true ∧ ok = true
        · rw [if_pos hc1, loanOut_snoc, ← ho]
          congr 1
          by_cases hc2 : ow = club ∧ pl ≠ club
          · rw [if_pos (show (ow, pl).1 ≠ (ow, pl).2 ∧ (ow, pl).2 ≠ club ∧ (ow, pl).1 = club by dsimp only; omega), if_pos ⟨hc1, hc2⟩]
          · rw [if_neg (show ¬ ((ow, pl).1 ≠ (ow, pl).2 ∧ (ow, pl).2 ≠ club ∧ (ow, pl).1 = club) by dsimp only; omega), if_neg (fun hh => hc2 hh.2)]
        · rw [if_neg hc1, List.append_nil, if_neg (fun hh => hc1 hh.1), ← ho]; simp
      clear hnext hfx hfl2 hfs hfm hone
      repeat' (first | apply GO_seq | apply GO_skip | apply GO_inBlock | apply GO_region | apply GOl_nil | (apply GO_exit; exact rfl) | (apply GOl_unwanted; exact rfl; exact rfl) | (apply GOl_add; exact rfl; exact rfl; exact rfl; omega; exact rfl; exact rfl) | (apply GOl_pv; exact rfl; exact rfl; exact rfl) | (apply GOl_load; exact rfl; exact Ld_blk rfl (by (repeat (first | exact List.Mem.head _ | apply List.Mem.tail)); done) rfl; exact rfl; exact rfl) | (apply GOl_to; exact rfl; exact rfl; exact rfl; (first | (apply OpTo_val; exact rfl; exact has36; exact hcl; skip))) | (apply GO_cond; exact rfl; all_goals intro hc; all_goals try simp only [ltI_t, ltI_f, leI_t, leI_f, eqI_t, eqI_f, Bool.not_eq_true', Bool.not_eq_false', decide_eq_true_eq, decide_eq_false_iff_not, reduceCtorEq] at hc; all_goals try (exfalso; omega)) | (apply GOl_split; exact rfl; exact rfl; all_goals intro hc; all_goals try simp only [ltI_t, ltI_f, leI_t, leI_f, eqI_t, eqI_f, Bool.not_eq_true', Bool.not_eq_false', decide_eq_true_eq, decide_eq_false_iff_not, reduceCtorEq] at hc; all_goals try (exfalso; omega)))
      all_goals first
        | (exfalso; have u1 : fl = true := (by assumption); have u2 : fl = false := (by assumption); rw [u1] at u2; cases u2)
        | (exfalso; have u1 : ok = true := (by assumption); have u2 : ok = false := (by assumption); rw [u1] at u2; cases u2)
        | (have h3 := ih (j + 1, a + 1, o) ⟨by dsimp only; omega, by dsimp only; rw [hA, if_pos ⟨⟨by assumption, by assumption⟩, by omega⟩], by dsimp only; rw [hB, if_neg (fun hh => by omega)]; simp⟩ (by dsimp only; omega); refine GO_fit (by (repeat (first | exact trivial | refine ⟨rfl, ?_⟩)); done) (by (repeat (first | exact Takes_nil | (apply Takes_cons; exact (by (repeat (first | exact Take.here | apply Take.there)); done)))); done) (h3))
        | (have h3 := ih (j + 1, a, o + 1) ⟨by dsimp only; omega, by dsimp only; rw [hA, if_neg (fun hh => by omega)]; simp, by dsimp only; rw [hB, if_pos ⟨⟨by assumption, by assumption⟩, by omega⟩]⟩ (by dsimp only; omega); refine GO_fit (by (repeat (first | exact trivial | refine ⟨rfl, ?_⟩)); done) (by (repeat (first | exact Takes_nil | (apply Takes_cons; exact (by (repeat (first | exact Take.here | apply Take.there)); done)))); done) (h3))
        | (have h3 := ih (j + 1, a, o) ⟨by dsimp only; omega, by dsimp only; rw [hA, if_neg (fun hh => (by obtain ⟨⟨u1, u2⟩, u3, u4⟩ := hh; first | omega | exact absurd (u1.symm.trans (show fl = false by assumption)) (by decide) | exact absurd (u2.symm.trans (show ok = false by assumption)) (by decide)))]; simp, by dsimp only; rw [hB, if_neg (fun hh => (by obtain ⟨⟨u1, u2⟩, u3, u4⟩ := hh; first | omega | exact absurd (u1.symm.trans (show fl = false by assumption)) (by decide) | exact absurd (u2.symm.trans (show ok = false by assumption)) (by decide)))]; simp⟩ (by dsimp only; omega); refine GO_fit (by (repeat (first | exact trivial | refine ⟨rfl, ?_⟩)); done) (by (repeat (first | exact Takes_nil | (apply Takes_cons; exact (by (repeat (first | exact Take.here | apply Take.there)); done)))); done) (h3))
       
  · rw [List.take_of_length_le (by omega)] at ha ho
    subst ha; subst ho
    repeat' (first | apply GO_seq | apply GO_region | apply GOl_nil | (apply GO_exit; exact rfl) | (apply GOl_pv; exact rfl; exact rfl; exact rfl) | (apply GOl_load; exact rfl; exact Ld_blk rfl (by (repeat (first | exact List.Mem.head _ | apply List.Mem.tail)); done) rfl; exact rfl; exact rfl) | (apply GO_cond; exact rfl; all_goals intro hc; all_goals try simp only [ltI_t, ltI_f, leI_t, leI_f, eqI_t, eqI_f, Bool.not_eq_true', Bool.not_eq_false', decide_eq_true_eq, decide_eq_false_iff_not, reduceCtorEq] at hc; all_goals try (exfalso; omega)) | (apply GO_retV2; exact rfl; exact rfl; exact rfl; exact rfl))
    all_goals rfl

end Go.Hw

import Derived.Test.YtbgjcjhodlmgjabGreatDoorZM1
import Derived.Test.YtbgjcjhodlmgjabGreatDoorZN9
set_option linter.unusedVariables false
set_option linter.unusedSimpArgs false
set_option maxRecDepth 100000
set_option maxHeartbeats 8000000
namespace Go.Hw
open Go
attribute [local irreducible] Has GO GOl GDp Val Fn Res CellsAt ValE Blk OwnS MapA Yl
open Go.Proofs (Tryz.prog)

theorem decide_all_snoc {l : List Ent} {x : Ent} {p : Int} : decide (∀ y ∈ l ++ [x], y.player ≠ p) = (decide (∀ y ∈ l, y.player ≠ p) && !eqI x.player p) := by
  rw [eqI_eq, Bool.eq_iff_iff]
  simp only [decide_eq_true_eq, Bool.and_eq_true, Bool.not_eq_true', decide_eq_false_iff_not]
  constructor
  · intro h; exact ⟨fun y hy => h y (by simp [hy]), h x (by simp)⟩
  · rintro ⟨h1, h2⟩ y hy
    rw [List.mem_append, List.mem_singleton] at hy
    rcases hy with hy | rfl
    · exact h1 y hy
    · exact h2


theorem loans_c (h : Ro) (s : Rsh) (r : Reg) (hr : RegAt h s r) (hne : s.ne ≤ 100000) (club : Int)
    (hclub : ∀ p, Val Tryz.prog 39 #[regV r.league r.day s, .int .i64 p] h (.tuple #[.int .i64 (regClub r p).1, .int .i64 (regClub r p).2.1, .bool (regClub r p).2.2])) :
    Val Tryz.prog 40 #[regV r.league r.day s, .int .i64 club] h (.tuple #[.int .i64 (loanIn club (playersL r (firsts r.ents))), .int .i64 (loanOut club (playersL r (firsts r.ents)))]) := by
  refine Val_intro (args := [_, _]) ts_ok Go.Proofs.Tryz.func40 rfl rfl fun w0 X0 => ?_
  have hlen := hr.ents.len
  repeat' (first | apply GO_seq | apply GO_block | apply GO_region | apply GOl_nil | (apply GOl_pv; exact rfl; exact rfl; exact rfl) | (apply GOl_to; exact rfl; exact rfl; exact rfl; (first | (apply OpTo_box; exact rfl; intro b; skip))))
  refine GO_loopT (X := Nat × Int × Int) (fun x => x.1 ≤ s.ne ∧ x.2.1 = loanIn club (playersL r (firsts (r.ents.take x.1))) ∧ x.2.2 = loanOut club (playersL r (firsts (r.ents.take x.1)))) (fun x => s.ne - x.1)
    (fun x => [(8, .int .i64 x.1), (6, .int .i64 x.2.1), (7, .int .i64 x.2.2), (2, .pointer (some ⟨b, 0, none⟩)), (1, .int .i64 club)]) (fun _ => [Blk b 28 (partL (regV r.league r.day s))]) (fun _ => h) (0, 0, 0) ⟨by dsimp only; omega, rfl, rfl⟩ (by (repeat (first | exact trivial | refine ⟨rfl, ?_⟩)); done) (by (repeat (first | exact Takes_nil | (apply Takes_cons; exact (by (repeat (first | exact Take.here | apply Take.there)); done)))); done) rfl ?_
  rintro ⟨k, a, o⟩ ⟨hk, ha, ho⟩ ih
  dsimp only at hk ha ho ih ⊢
  have hbd := loan_bd club (playersL r (firsts (r.ents.take k)))
  have hpl := playersL_len r (firsts (r.ents.take k))
  have hfl := firsts_len (r.ents.take k)
  rw [List.length_take] at hfl
  rw [← ha, ← ho] at hbd
  by_cases hkn : k < s.ne
  · have a1 := hr.ents.addrD hkn
    have c1 := hr.ents.cellsD e0 hkn
    have et := take_snocQ e0 hlen hkn
    have hfs := firsts_snoc (r.ents.take k) (r.ents.getD k e0)
    rw [← et] at hfs
    have hfm := firsts_mem (r.ents.take k) (r.ents.getD k e0).player
    have hone := playersL_one r (r.ents.getD k e0).player
    have hcl := hclub (r.ents.getD k e0).player
    generalize hx : r.ents.getD k e0 = x at *
    repeat' (first | apply GO_seq | apply GO_skip | apply GO_block | apply GO_region | apply GOl_nil | (apply GOl_pv; exact rfl; exact rfl; exact rfl) | (apply GOl_load; exact rfl; exact Ld_blk rfl (by (repeat (first | exact List.Mem.head _ | apply List.Mem.tail)); done) rfl; exact rfl; exact rfl) | (apply GOl_ov; exact rfl; exact rfl; (first | (apply OV_idxS (j := k); exact rfl; exact rfl; exact rfl; exact rfl; exact rfl; exact a1; (with_reducible exact rfl); omega) | (apply OV_load; exact rfl; exact Lv_roF rfl c1 rfl)); exact (by repeat' (first | exact trivial | apply And.intro | exact List.Mem.head _ | apply List.Mem.tail))) | (apply GO_cond; exact rfl; all_goals intro hc; all_goals try simp only [ltI_t, ltI_f, leI_t, leI_f, eqI_t, eqI_f, Bool.not_eq_true', Bool.not_eq_false', decide_eq_true_eq, decide_eq_false_iff_not, reduceCtorEq] at hc; all_goals try (exfalso; omega)))
    refine GO_loopT (X := Nat × Bool) (fun y => y.1 ≤ k ∧ y.2 = decide (∀ z ∈ r.ents.take y.1, z.player ≠ x.player)) (fun y => k - y.1)
      (fun y => [(11, .int .i64 y.1), (10, .bool y.2), (9, .int .i64 x.player), (8, .int .i64 k), (6, .int .i64 a), (7, .int .i64 o), (2, .pointer (some ⟨b, 0, none⟩)), (1, .int .i64 club)]) (fun _ => [Blk b 28 (partL (regV r.league r.day s))]) (fun _ => h) (0, true) ⟨by dsimp only; omega, by simp⟩ (by (repeat (first | exact trivial | refine ⟨rfl, ?_⟩)); done) (by (repeat (first | exact Takes_nil | (apply Takes_cons; exact (by (repeat (first | exact Take.here | apply Take.there)); done)))); done) rfl ?_
    rintro ⟨j, fl⟩ ⟨hj, hfl2⟩ ih2
    dsimp only at hj hfl2 ih2 ⊢
    by_cases hjk : j < k
    · have hjn : j < s.ne := by omega
      have a2 := hr.ents.addrD hjn
      have c2 := hr.ents.cellsD e0 hjn
      have et2 := take_snocQ e0 hlen hjn
      have hd := decide_all_snoc (l := r.ents.take j) (x := r.ents.getD j e0) (p := x.player)
      rw [← et2, ← hfl2] at hd
      generalize r.ents.getD j e0 = y at *
      repeat' (first | apply GO_seq | apply GO_skip | apply GO_inBlock | apply GO_block | apply GO_region | apply GOl_nil | (apply GOl_unwanted; exact rfl; exact rfl) | (apply GOl_add; exact rfl; exact rfl; exact rfl; omega; exact rfl; exact rfl) | (apply GOl_pv; exact rfl; exact rfl; exact rfl) | (apply GOl_load; exact rfl; exact Ld_blk rfl (by (repeat (first | exact List.Mem.head _ | apply List.Mem.tail)); done) rfl; exact rfl; exact rfl) | (apply GOl_ov; exact rfl; exact rfl; (first | (apply OV_idxS (j := j); exact rfl; exact rfl; exact rfl; exact rfl; exact rfl; exact a2; (with_reducible exact rfl); omega) | (apply OV_load; exact rfl; exact Lv_roF rfl c2 rfl)); exact (by repeat' (first | exact trivial | apply And.intro | exact List.Mem.head _ | apply List.Mem.tail))) | (apply GO_cond; exact rfl; all_goals intro hc; all_goals try simp only [ltI_t, ltI_f, leI_t, leI_f, eqI_t, eqI_f, Bool.not_eq_true', Bool.not_eq_false', decide_eq_true_eq, decide_eq_false_iff_not, reduceCtorEq] at hc; all_goals try (exfalso; omega)) | (apply GOl_split; exact rfl; exact rfl; all_goals intro hc; all_goals try simp only [ltI_t, ltI_f, leI_t, leI_f, eqI_t, eqI_f, Bool.not_eq_true', Bool.not_eq_false', decide_eq_true_eq, decide_eq_false_iff_not, reduceCtorEq] at hc; all_goals try (exfalso; omega)))
      all_goals first
        | (have hfl3 : fl = true := (by assumption); have h3 := ih2 (j + 1, (!eqI y.player x.player)) ⟨(by dsimp only; omega), (by dsimp only; rw [hd, hfl3]; rfl)⟩ (by dsimp only; omega); refine GO_fit (by (repeat (first | exact trivial | refine ⟨rfl, ?_⟩)); done) (by (repeat (first | exact Takes_nil | (apply Takes_cons; exact (by (repeat (first | exact Take.here | apply Take.there)); done)))); done) (h3))
        | (have hfl3 : fl = false := (by assumption); have h3 := ih2 (j + 1, false) ⟨(by dsimp only; omega), (by dsimp only; rw [hd, hfl3]; rfl)⟩ (by dsimp only; omega); refine GO_fit (by (repeat (first | exact trivial | refine ⟨rfl, ?_⟩)); done) (by (repeat (first | exact Takes_nil | (apply Takes_cons; exact (by (repeat (first | exact Take.here | apply Take.there)); done)))); done) (h3))
       
    · have hjk2 : j = k := by omega
      subst hjk2
      clear ih2
      have hfx : fl = decide (x.player ∉ firsts (r.ents.take j)) := by
        rw [hfl2, decide_eq_decide, hfm]
        constructor
        · rintro h1 ⟨z, hz, e⟩; exact h1 z hz e
        · intro h1 z hz e; exact h1 ⟨z, hz, e⟩
      have hnext : playersL r (firsts (r.ents.take (j + 1))) = playersL r (firsts (r.ents.take j)) ++ if fl = true ∧ (regClub r x.player).2.2 = true then [((regClub r x.player).1, (regClub r x.player).2.1)] else [] := by
        rw [hfs]
        by_cases hm : x.player ∈ firsts (r.ents.take j)
        · rw [if_pos hm, if_neg (by rintro ⟨h1, _⟩; rw [h1] at hfx; simp [hm] at hfx), List.append_nil]
        · rw [if_neg hm, playersL_app, hone]
          have : fl = true := by rw [hfx]; simp [hm]
          simp [this]
      generalize regClub r x.player = rc at *
      obtain ⟨ow, pl, ok⟩ := rc
      dsimp only at hcl hnext
      have hA : loanIn club (playersL r (firsts (r.ents.take (j + 1)))) = a + if (fl = true ∧ ok = true) ∧ pl = club ∧ ow ≠ club then 1 else 0 := by
        rw [hnext]
        by_cases hc1 : fl = true ∧ ok = true
        · rw [if_pos hc1, loanIn_snoc, ← ha]
          congr 1
          by_cases hc2 : pl = club ∧ ow ≠ club
          · rw [if_pos (show (ow, pl).1 ≠ (ow, pl).2 ∧ (ow, pl).2 = club by dsimp only; omega), if_pos ⟨hc1, hc2⟩]
          · rw [if_neg (show ¬ ((ow, pl).1 ≠ (ow, pl).2 ∧ (ow, pl).2 = club) by dsimp only; omega), if_neg (fun hh => hc2 hh.2)]
        · rw [if_neg hc1, List.append_nil, if_neg (fun hh => hc1 hh.1), ← ha]; simp
      have hB : loanOut club (playersL r (firsts (r.ents.take (j + 1)))) = o + if (fl = true ∧ ok = true) ∧ ow = club ∧ pl ≠ club then 1 else 0 := by
        rw [hnext]
        by_cases hc1 : fl = true ∧ ok = true
        · rw [if_pos hc1, loanOut_snoc, ← ho]
          congr 1
          by_cases hc2 : ow = club ∧ pl ≠ club
          · rw [if_pos (show (ow, pl).1 ≠ (ow, pl).2 ∧ (ow, pl).2 ≠ club ∧ (ow, pl).1 = club by dsimp only; omega), if_pos ⟨hc1, hc2⟩]
          · rw [if_neg (show ¬ ((ow, pl).1 ≠ (ow, pl).2 ∧ (ow, pl).2 ≠ club ∧ (ow, pl).1 = club) by dsimp only; omega), if_neg (fun hh => hc2 hh.2)]
        · rw [if_neg hc1, List.append_nil, if_neg (fun hh => hc1 hh.1), ← ho]; simp
      clear hnext hfx hfl2 hfs hfm hone
      repeat' (first | apply GO_seq | apply GO_skip | apply GO_inBlock | apply GO_region | apply GOl_nil | (apply GO_exit; exact rfl) | (apply GOl_unwanted; exact rfl; exact rfl) | (apply GOl_add; exact rfl; exact rfl; exact rfl; omega; exact rfl; exact rfl) | (apply GOl_pv; exact rfl; exact rfl; exact rfl) | (apply GOl_load; exact rfl; exact Ld_blk rfl (by (repeat (first | exact List.Mem.head _ | apply List.Mem.tail)); done) rfl; exact rfl; exact rfl) | (apply GOl_to; exact rfl; exact rfl; exact rfl; (first | (apply OpTo_val; exact rfl; exact has39; exact hcl; skip))) | (apply GO_cond; exact rfl; all_goals intro hc; all_goals try simp only [ltI_t, ltI_f, leI_t, leI_f, eqI_t, eqI_f, Bool.not_eq_true', Bool.not_eq_false', decide_eq_true_eq, decide_eq_false_iff_not, reduceCtorEq] at hc; all_goals try (exfalso; omega)) | (apply GOl_split; exact rfl; exact rfl; all_goals intro hc; all_goals try simp only [ltI_t, ltI_f, leI_t, leI_f, eqI_t, eqI_f, Bool.not_eq_true', Bool.not_eq_false', decide_eq_true_eq, decide_eq_false_iff_not, reduceCtorEq] at hc; all_goals try (exfalso; omega)))
      all_goals first
        | (exfalso; have u1 : fl = true := (by assumption); have u2 : fl = false := (by assumption); rw [u1] at u2; cases u2)
        | (exfalso; have u1 : ok = true := (by assumption); have u2 : ok = false := (by assumption); rw [u1] at u2; cases u2)
        | (have h3 := ih (j + 1, a + 1, o) ⟨by dsimp only; omega, by dsimp only; rw [hA, if_pos ⟨⟨by assumption, by assumption⟩, by omega⟩], by dsimp only; rw [hB, if_neg (fun hh => by omega)]; simp⟩ (by dsimp only; omega); refine GO_fit (by (repeat (first | exact trivial | refine ⟨rfl, ?_⟩)); done) (by (repeat (first | exact Takes_nil | (apply Takes_cons; exact (by (repeat (first | exact Take.here | apply Take.there)); done)))); done) (h3))
        | (have h3 := ih (j + 1, a, o + 1) ⟨by dsimp only; omega, by dsimp only; rw [hA, if_neg (fun hh => by omega)]; simp, by dsimp only; rw [hB, if_pos ⟨⟨by assumption, by assumption⟩, by omega⟩]⟩ (by dsimp only; omega); refine GO_fit (by (repeat (first | exact trivial | refine ⟨rfl, ?_⟩)); done) (by (repeat (first | exact Takes_nil | (apply Takes_cons; exact (by (repeat (first | exact Take.here | apply Take.there)); done)))); done) (h3))
        | (have h3 := ih (j + 1, a, o) ⟨by dsimp only; omega, by dsimp only; rw [hA, if_neg (fun hh => (by obtain ⟨⟨u1, u2⟩, u3, u4⟩ := hh; first | omega | exact absurd (u1.symm.trans (show fl = false by assumption)) (by decide) | exact absurd (u2.symm.trans (show ok = false by assumption)) (by decide)))]; simp, by dsimp only; rw [hB, if_neg (fun hh => (by obtain ⟨⟨u1, u2⟩, u3, u4⟩ := hh; first | omega | exact absurd (u1.symm.trans (show fl = false by assumption)) (by decide) | exact absurd (u2.symm.trans (show ok = false by assumption)) (by decide)))]; simp⟩ (by dsimp only; omega); refine GO_fit (by (repeat (first | exact trivial | refine ⟨rfl, ?_⟩)); done) (by (repeat (first | exact Takes_nil | (apply Takes_cons; exact (by (repeat (first | exact Take.here | apply Take.there)); done)))); done) (h3))
       
  · rw [List.take_of_length_le (by omega)] at ha ho
    subst ha; subst ho
    repeat' (first | apply GO_seq | apply GO_region | apply GOl_nil | (apply GO_exit; exact rfl) | (apply GOl_pv; exact rfl; exact rfl; exact rfl) | (apply GOl_load; exact rfl; exact Ld_blk rfl (by (repeat (first | exact List.Mem.head _ | apply List.Mem.tail)); done) rfl; exact rfl; exact rfl) | (apply GO_cond; exact rfl; all_goals intro hc; all_goals try simp only [ltI_t, ltI_f, leI_t, leI_f, eqI_t, eqI_f, Bool.not_eq_true', Bool.not_eq_false', decide_eq_true_eq, decide_eq_false_iff_not, reduceCtorEq] at hc; all_goals try (exfalso; omega)) | (apply GO_retV2; exact rfl; exact rfl; exact rfl; exact rfl))
    all_goals rfl


open Classical in
theorem mayR_c (h : Ro) (hG : LenG h) (q : Quo) (A : Option Addr) (c : Nat) (hx : SlOf encV 2 h A q.wins.length q.wins) (hn : q.wins.length ≤ 1000000000) (s : Rsh) (r : Reg) (hr : RegAt h s r) (hne : s.ne ≤ 100000)
    (B : Option Addr) (n d : Nat) (l : List Per) (hl : SlOf encP 4 h B n l) (hl2 : n ≤ 1000000) (D : Option Addr) (m e : Nat) (bans : List Ivl) (hb : SlOf encV 2 h D m bans) (hm : m ≤ 1000000000) (club player day : Int) :
    Val Tryz.prog 8 #[quoV q A c, regV r.league r.day s, .slice B n d, .slice D m e, .int .i64 club, .int .i64 player, .int .i64 day] h (.int .i64 (mayE q r l bans club player day)) := by
  refine Val_intro (args := [_, _, _, _, _, _, _]) ts_ok Go.Proofs.Tryz.func8 rfl rfl fun w0 X0 => ?_
  have hlen := hl.len
  have hcq := checkQR_c h q A c hx hn
  have hcr := checkR_c h s r hr
  have hp := persons_c h B n d l hl (by omega)
  have hcc := inRf_c h s.ac s.nc s.cc r.clubs hr.clubs hr.nc club
  by_cases hQ : QuoOk q
  · rw [if_pos hQ] at hcq
    by_cases hg : RegGood r
    · rw [if_pos hg] at hcr
      by_cases hA : PersOk l ∧ l.length ≤ 8192 ∧ 0 ≤ day ∧ day ≤ 1048576 ∧ club ∈ r.clubs
      · obtain ⟨a1, a2, a3, a4, a5⟩ := hA
        rw [decide_eq_true a1] at hp
        rw [decide_eq_true a5] at hcc
        have hE : mayE q r l bans club player day = if ¬ AllKnown l (membersL r club player) day then 1
            else if ¬ inAny day q.wins = true then 371 else if inAny day bans = true then 372
            else if (regClub r player).2.2 = true then 361
            else if squadE q (ofNums l (membersL r club player)) (loanIn club (playersL r (firsts r.ents))) (loanOut club (playersL r (firsts r.ents))) day ≠ 0 then 370
            else if 3 * (wagesL (ofNums l (membersL r club player))).sum > q.cap then 373 else 0 := by
          unfold mayE; rw [if_neg (fun hh => hh hQ), if_neg (fun hh => hh hg), if_neg (fun hh => hh ⟨a1, a2, a3, a4, a5⟩)]
        rw [hE]
        clear hE
        obtain ⟨q1, q2⟩ := sqOut_ok (r := r) (club := club) (player := player) (day := day) a1
        have hsq := squadIn_c h s r hr B n d l hl hl2 club player day
        have hol : (sqOut r l club player day).length ≤ l.length := List.length_filter_le _ _
        have hok : ∀ p ∈ sqOut r l club player day, PerOk p := fun p hp => a1.1 p (List.mem_filter.1 hp).1
        by_cases hK : AllKnown l (membersL r club player) day
        · rw [if_neg (fun hh => hh hK)]
          rw [decide_eq_true (q1.2 hK)] at hsq
          rw [← q2 hK]
          clear q1 q2 hK
          generalize sqOut r l club player day = ps at *
          have hi1 : ∀ h', Le h h' → Val Tryz.prog 38 #[.int .i64 day, .slice A q.wins.length c] h' (.bool (inAny day q.wins)) := fun h' hle => inR_c h' day A _ c q.wins (hx.le hle) hn
          have hi2 : ∀ h', Le h h' → Val Tryz.prog 38 #[.int .i64 day, .slice D m e] h' (.bool (inAny day bans)) := fun h' hle => inR_c h' day D m e bans (hb.le hle) hm
          have hclb : ∀ h', Le h h' → ∀ p, Val Tryz.prog 39 #[regV r.league r.day s, .int .i64 p] h' (.tuple #[.int .i64 (regClub r p).1, .int .i64 (regClub r p).2.1, .bool (regClub r p).2.2]) := fun h' hle p => clubR_c h' s r (hr.le hle) p
          have hln : ∀ h', Le h h' → _ := fun h' hle => loans_c h' s r (hr.le hle) hne club (hclb h' hle)
          have hsqd : ∀ h', Le h h' → ∀ (A' : Option Addr) (c' : Nat), SlOf encP 4 h' A' ps.length ps → ∀ (x y : Int), Val Tryz.prog 41 #[quoV q A c, .slice A' ps.length c', .int .i64 x, .int .i64 y, .int .i64 day] h' (.int .i64 (squadE q ps x y day)) := fun h' hle A' c' hps x y => squadRf_c h' q A c (hx.le hle) hn A' _ c' ps hps (by omega) x y day
          have hclp := fun h' hle => hclb h' hle player
          generalize loanIn club (playersL r (firsts r.ents)) = lI at *
          generalize loanOut club (playersL r (firsts r.ents)) = lO at *
          generalize regClub r player = rc at *
          obtain ⟨o1, o2, o3⟩ := rc
          dsimp only at hclp ⊢
          generalize inAny day q.wins = i1 at *
          generalize inAny day bans = i2 at *
          repeat' (first | apply GO_seq | apply GO_skip | apply GO_region | apply GOl_nil | (apply GOl_pv; exact rfl; exact rfl; exact rfl) | (apply GOl_load; exact rfl; exact Ld_blk rfl (by (repeat (first | exact List.Mem.head _ | apply List.Mem.tail)); done) rfl; exact rfl; exact rfl) | (apply GOl_to; exact rfl; exact rfl; exact rfl; (first | (apply OpTo_box; exact rfl; intro b; skip) | (apply OpTo_val; exact rfl; exact has32; exact hcq; skip) | (apply OpTo_val; exact rfl; exact has33; exact hcr; skip))) | (apply GO_cond; exact rfl; all_goals intro hc; all_goals try simp only [ltI_t, ltI_f, leI_t, leI_f, eqI_t, eqI_f, Bool.not_eq_true', Bool.not_eq_false', decide_eq_true_eq, decide_eq_false_iff_not, reduceCtorEq] at hc; all_goals try (exfalso; omega)))
          rename_i bq x1
          generalize b = br
          clear hc
          repeat' (first | apply GO_seq | apply GO_skip | apply GO_block | apply GO_region | apply GOl_nil | (apply GOl_pv; exact rfl; exact rfl; exact rfl) | (apply GOl_load; exact rfl; exact Ld_blk rfl (by (repeat (first | exact List.Mem.head _ | apply List.Mem.tail)); done) rfl; exact rfl; exact rfl) | (apply GOl_to; exact rfl; exact rfl; exact rfl; (first | (apply OpTo_val; exact rfl; exact has34; exact hp; skip) | (apply OpTo_val; exact rfl; exact has35; exact withinR_c _ _ _ _; skip) | (apply OpTo_val; exact rfl; exact has36; exact hcc; skip) | (apply OpTo_res; exact rfl; exact has37; exact hsq; rintro vr h1 hle1 ⟨As, cs, rfl, hps⟩; skip) | (apply OpTo_val; exact rfl; exact has38; (first | exact hi1 _ (by first | exact Le.refl _ | assumption | (repeat (first | assumption | (apply Le.trans; assumption)))) | exact hi2 _ (by first | exact Le.refl _ | assumption | (repeat (first | assumption | (apply Le.trans; assumption))))); skip) | (apply OpTo_val; exact rfl; exact has39; exact hclp _ (by first | exact Le.refl _ | assumption | (repeat (first | assumption | (apply Le.trans; assumption)))); skip) | (apply OpTo_val; exact rfl; exact has40; exact hln _ (by first | exact Le.refl _ | assumption | (repeat (first | assumption | (apply Le.trans; assumption)))); skip) | (apply OpTo_val; exact rfl; exact has41; exact hsqd _ (by first | exact Le.refl _ | assumption | (repeat (first | assumption | (apply Le.trans; assumption)))) _ _ hps _ _; skip))) | (apply GO_cond; exact rfl; all_goals intro hc; all_goals try simp only [ltI_t, ltI_f, leI_t, leI_f, eqI_t, eqI_f, Bool.not_eq_true', Bool.not_eq_false', decide_eq_true_eq, decide_eq_false_iff_not, reduceCtorEq] at hc; all_goals try (exfalso; omega)) | (apply GOl_split; exact rfl; exact rfl; all_goals intro hc; all_goals try simp only [ltI_t, ltI_f, leI_t, leI_f, eqI_t, eqI_f, Bool.not_eq_true', Bool.not_eq_false', decide_eq_true_eq, decide_eq_false_iff_not, reduceCtorEq] at hc; all_goals try (exfalso; omega)) | (apply GO_retV1; exact rfl; exact rfl; exact rfl))
          all_goals first
            | (rw [if_pos (by rw [show i1 = false by assumption]; decide)]; done)
            | (rw [if_neg (fun hh => hh (by assumption)), if_pos (by assumption)]; done)
            | (rw [if_neg (fun hh => hh (by assumption)), if_neg (by rw [show i2 = false by assumption]; decide), if_pos (by assumption)]; done)
            | (rw [if_neg (fun hh => hh (by assumption)), if_neg (by rw [show i2 = false by assumption]; decide), if_neg (by rw [show o3 = false by assumption]; decide), if_pos (by omega)]; done)
            | skip
          rw [if_neg (fun hh => hh (show i1 = true by assumption)), if_neg (by rw [show i2 = false by assumption]; decide), if_neg (by rw [show o3 = false by assumption]; decide), if_neg (by omega)]
          clear hi1 hi2 hclb hln hsqd hclp hsq
          refine GO_loopT (X := Nat × Int) (fun x => x.1 ≤ ps.length ∧ x.2 = (wagesL (ps.take x.1)).sum) (fun x => ps.length - x.1) (fun x => [(24, .int .i64 x.1), (23, .int .i64 x.2), (16, .slice As ps.length cs), (7, .pointer (some ⟨bq, 0, none⟩))]) (fun _ => [Blk bq 24 (partL (quoV q A c))]) (fun _ => h1) (0, 0) ⟨by dsimp only; omega, by simp [wagesL]⟩ (by (repeat (first | exact trivial | refine ⟨rfl, ?_⟩)); done) (by (repeat (first | exact Takes_nil | (apply Takes_cons; exact (by (repeat (first | exact Take.here | apply Take.there)); done)))); done) rfl ?_
          rintro ⟨k, w⟩ ⟨hk, hw⟩ ih
          dsimp only at hk hw ih ⊢
          have hbd := wages_bd (l := ps.take k) fun p hp => hok p (List.mem_of_mem_take hp)
          rw [← hw, List.length_take] at hbd
          by_cases hkn : k < ps.length
          · have b1 := hps.addrD hkn
            have c1 := hps.cellsD p0 hkn
            have hm2 := hok _ (getD_mem p0 hkn)
            have ht := take_snocQ p0 (rfl : ps.length = ps.length) hkn
            generalize ps.getD k p0 = x at *
            have hs : (wagesL (ps.take (k + 1))).sum = w + x.wage := by rw [ht, hw]; simp [wagesL]
            have hm5 := hm2.2.2.2.2
            repeat' (first | apply GO_seq | apply GO_skip | apply GO_inBlock | apply GO_block | apply GO_region | apply GOl_nil | (apply GOl_add; exact rfl; exact rfl; exact rfl; omega; exact rfl; exact rfl) | (apply GOl_pv; exact rfl; exact rfl; exact rfl) | (apply GOl_ov; exact rfl; exact rfl; (first | (apply OV_idxS (j := k); exact rfl; exact rfl; exact rfl; exact rfl; exact rfl; exact b1; (with_reducible exact rfl); omega) | (apply OV_load; exact rfl; exact Lv_roF rfl c1 rfl)); exact (by repeat' (first | exact trivial | apply And.intro | exact List.Mem.head _ | apply List.Mem.tail))) | (apply GO_cond; exact rfl; all_goals intro hc; all_goals try simp only [ltI_t, ltI_f, leI_t, leI_f, eqI_t, eqI_f, Bool.not_eq_true', Bool.not_eq_false', decide_eq_true_eq, decide_eq_false_iff_not, reduceCtorEq] at hc; all_goals try (exfalso; omega)))
            have h3 := ih (k + 1, w + x.wage) ⟨by dsimp only; omega, by dsimp only; rw [hs]⟩ (by dsimp only; omega)
            refine GO_fit (by (repeat (first | exact trivial | refine ⟨rfl, ?_⟩)); done) (by (repeat (first | exact Takes_nil | (apply Takes_cons; exact (by (repeat (first | exact Take.here | apply Take.there)); done)))); done) (h3)
          · rw [List.take_of_length_le (by omega)] at hw
            subst hw
            repeat' (first | apply GO_seq | apply GO_skip | apply GO_region | apply GOl_nil | (apply GO_exit; exact rfl) | (apply GOl_mul; exact rfl; exact rfl; exact rfl; omega; exact rfl; exact rfl) | (apply GOl_pv; exact rfl; exact rfl; exact rfl) | (apply GOl_load; exact rfl; exact Ld_blk rfl (by (repeat (first | exact List.Mem.head _ | apply List.Mem.tail)); done) rfl; exact rfl; exact rfl) | (apply GO_cond; exact rfl; all_goals intro hc; all_goals try simp only [ltI_t, ltI_f, leI_t, leI_f, eqI_t, eqI_f, Bool.not_eq_true', Bool.not_eq_false', decide_eq_true_eq, decide_eq_false_iff_not, reduceCtorEq] at hc; all_goals try (exfalso; omega)) | (apply GO_retV1; exact rfl; exact rfl; exact rfl))
            all_goals first | (rw [if_pos (by omega)]; done) | (rw [if_neg (by omega)]; done)
        · rw [if_pos hK]
          rw [decide_eq_false (fun hh => hK (q1.1 hh))] at hsq
          repeat' (first | apply GO_seq | apply GO_skip | apply GO_region | apply GOl_nil | (apply GOl_pv; exact rfl; exact rfl; exact rfl) | (apply GOl_load; exact rfl; exact Ld_blk rfl (by (repeat (first | exact List.Mem.head _ | apply List.Mem.tail)); done) rfl; exact rfl; exact rfl) | (apply GOl_to; exact rfl; exact rfl; exact rfl; (first | (apply OpTo_box; exact rfl; intro b; skip) | (apply OpTo_val; exact rfl; exact has32; exact hcq; skip) | (apply OpTo_val; exact rfl; exact has33; exact hcr; skip) | (apply OpTo_val; exact rfl; exact has34; exact hp; skip) | (apply OpTo_val; exact rfl; exact has35; exact withinR_c _ _ _ _; skip) | (apply OpTo_val; exact rfl; exact has36; exact hcc; skip) | (apply OpTo_res; exact rfl; exact has37; exact hsq; rintro vr h1 hle1 ⟨As, cs, rfl, hps⟩; skip))) | (apply GO_cond; exact rfl; all_goals intro hc; all_goals try simp only [ltI_t, ltI_f, leI_t, leI_f, eqI_t, eqI_f, Bool.not_eq_true', Bool.not_eq_false', decide_eq_true_eq, decide_eq_false_iff_not, reduceCtorEq] at hc; all_goals try (exfalso; omega)) | (apply GOl_split; exact rfl; exact rfl; all_goals intro hc; all_goals try simp only [ltI_t, ltI_f, leI_t, leI_f, eqI_t, eqI_f, Bool.not_eq_true', Bool.not_eq_false', decide_eq_true_eq, decide_eq_false_iff_not, reduceCtorEq] at hc; all_goals try (exfalso; omega)) | (apply GO_retV1; exact rfl; exact rfl; exact rfl))
          all_goals first | rfl
      · have hE : mayE q r l bans club player day = 1 := by
          unfold mayE; rw [if_neg (fun hh => hh hQ), if_neg (fun hh => hh hg), if_pos hA]
        rw [hE]
        generalize hP : decide (PersOk l) = P at hp
        generalize hC2 : decide (club ∈ r.clubs) = C2 at hcc
        repeat' (first | apply GO_seq | apply GO_skip | apply GO_region | apply GOl_nil | (apply GOl_unwanted; exact rfl; exact rfl) | (apply GOl_pv; exact rfl; exact rfl; exact rfl) | (apply GOl_load; exact rfl; exact Ld_blk rfl (by (repeat (first | exact List.Mem.head _ | apply List.Mem.tail)); done) rfl; exact rfl; exact rfl) | (apply GOl_to; exact rfl; exact rfl; exact rfl; (first | (apply OpTo_box; exact rfl; intro b; skip) | (apply OpTo_val; exact rfl; exact has32; exact hcq; skip) | (apply OpTo_val; exact rfl; exact has33; exact hcr; skip) | (apply OpTo_val; exact rfl; exact has34; exact hp; skip) | (apply OpTo_val; exact rfl; exact has35; exact withinR_c _ _ _ _; skip) | (apply OpTo_val; exact rfl; exact has36; exact hcc; skip))) | (apply GO_cond; exact rfl; all_goals intro hc; all_goals try simp only [ltI_t, ltI_f, leI_t, leI_f, eqI_t, eqI_f, Bool.not_eq_true', Bool.not_eq_false', decide_eq_true_eq, decide_eq_false_iff_not, reduceCtorEq] at hc; all_goals try (exfalso; omega)) | (apply GOl_split; exact rfl; exact rfl; all_goals intro hc; all_goals try simp only [ltI_t, ltI_f, leI_t, leI_f, eqI_t, eqI_f, Bool.not_eq_true', Bool.not_eq_false', decide_eq_true_eq, decide_eq_false_iff_not, reduceCtorEq] at hc; all_goals try (exfalso; omega)) | (apply GO_retV1; exact rfl; exact rfl; exact rfl))
        all_goals first | rfl | (exfalso; apply hA; exact ⟨of_decide_eq_true (hP.trans (by assumption)), by omega, by omega, by omega, of_decide_eq_true (hC2.trans (by assumption))⟩)
    · rw [if_neg hg] at hcr
      have hE : mayE q r l bans club player day = 360 := by
        unfold mayE; rw [if_neg (fun hh => hh hQ), if_pos hg]
      rw [hE]
      repeat' (first | apply GO_seq | apply GO_skip | apply GO_region | apply GOl_nil | (apply GOl_pv; exact rfl; exact rfl; exact rfl) | (apply GOl_load; exact rfl; exact Ld_blk rfl (by (repeat (first | exact List.Mem.head _ | apply List.Mem.tail)); done) rfl; exact rfl; exact rfl) | (apply GOl_to; exact rfl; exact rfl; exact rfl; (first | (apply OpTo_box; exact rfl; intro b; skip) | (apply OpTo_val; exact rfl; exact has32; exact hcq; skip) | (apply OpTo_val; exact rfl; exact has33; exact hcr; skip))) | (apply GO_cond; exact rfl; all_goals intro hc; all_goals try simp only [ltI_t, ltI_f, leI_t, leI_f, eqI_t, eqI_f, Bool.not_eq_true', Bool.not_eq_false', decide_eq_true_eq, decide_eq_false_iff_not, reduceCtorEq] at hc; all_goals try (exfalso; omega)) | (apply GO_retV1; exact rfl; exact rfl; exact rfl))
      all_goals first | rfl
  · rw [if_neg hQ] at hcq
    have hE : mayE q r l bans club player day = 370 := by
      unfold mayE; rw [if_pos hQ]
    rw [hE]
    repeat' (first | apply GO_seq | apply GO_region | apply GOl_nil | (apply GOl_pv; exact rfl; exact rfl; exact rfl) | (apply GOl_load; exact rfl; exact Ld_blk rfl (by (repeat (first | exact List.Mem.head _ | apply List.Mem.tail)); done) rfl; exact rfl; exact rfl) | (apply GOl_to; exact rfl; exact rfl; exact rfl; (first | (apply OpTo_box; exact rfl; intro b; skip) | (apply OpTo_val; exact rfl; exact has32; exact hcq; skip))) | (apply GO_cond; exact rfl; all_goals intro hc; all_goals try simp only [ltI_t, ltI_f, leI_t, leI_f, eqI_t, eqI_f, Bool.not_eq_true', Bool.not_eq_false', decide_eq_true_eq, decide_eq_false_iff_not, reduceCtorEq] at hc; all_goals try (exfalso; omega)) | (apply GO_retV1; exact rfl; exact rfl; exact rfl))
    all_goals first | rfl


theorem maySpec_w (hS : SortSaid) (hC : CompactSaid) (h : Ro) (hG : LenG h) (q : Quo) (A : Option Addr) (c : Nat) (hx : SlOf encV 2 h A q.wins.length q.wins) (s : Rsh) (r : Reg) (hcl : SlOf encI 1 h s.ac s.nc r.clubs) (hen : SlOf encE 7 h s.ae s.ne r.ents)
    (B : Option Addr) (n d : Nat) (l : List Per) (hl : SlOf encP 4 h B n l) (D : Option Addr) (m e : Nat) (bans : List Ivl) (hb : SlOf encV 2 h D m bans) (club player day : Int) :
    Val Tryz.prog 3 #[quoV q A c, regV r.league r.day s, .slice B n d, .slice D m e, .int .i64 club, .int .i64 player, .int .i64 day] h (.bool true) := by
  refine Val_intro (args := [_, _, _, _, _, _, _]) ts_ok Go.Proofs.Tryz.func3 rfl rfl fun w0 X0 => ?_
  have hfew := fewQ2_c h q A B D c n m d e
  have hfr := few_c h r.league r.day s
  by_cases hF : (q.wins.length ≤ 20 ∧ n ≤ 20 ∧ m ≤ 20) ∧ s.nc ≤ 30 ∧ s.ne ≤ 16
  · obtain ⟨F1, F2⟩ := hF
    obtain ⟨F3, F4, F5⟩ := F1
    rw [decide_eq_true ⟨F3, F4, F5⟩] at hfew
    rw [decide_eq_true F2] at hfr
    have hr : RegAt h s r := ⟨hcl, hen, by omega, by omega⟩
    have g1 := may_c hS hC h hG q A c hx (by omega) s r hr B n d l hl (by omega) D m e bans hb (by omega) club player day
    have g2 := mayR_c h hG q A c hx (by omega) s r hr (by omega) B n d l hl (by omega) D m e bans hb (by omega) club player day
    generalize mayE q r l bans club player day = E at *
    repeat' (first | apply GO_seq | apply GO_skip | apply GO_region | apply GOl_nil | (apply GOl_pv; exact rfl; exact rfl; exact rfl) | (apply GOl_load; exact rfl; exact Ld_blk rfl (by (repeat (first | exact List.Mem.head _ | apply List.Mem.tail)); done) rfl; exact rfl; exact rfl) | (apply GOl_to; exact rfl; exact rfl; exact rfl; (first | (apply OpTo_box; exact rfl; intro b; skip) | (apply OpTo_val; exact rfl; exact has4; exact sane37_c hS hC _ hG; skip) | (apply OpTo_val; exact rfl; exact has5; exact hfew; skip) | (apply OpTo_val; exact rfl; exact has6; exact hfr; skip))) | (apply GO_drawp (n := 5) [0, 1, 2, 3, 4, 5, 6, 7, 8, 9, 10, 11, 12, 13, 14, 15, 16, 17] [(0, 0), (1, 0), (2, 0), (3, 0), (4, 0), (5, 0), (6, 0), (8, 0), (9, 0), (10, 0), (11, 0), (12, 0), (13, 0), (14, 0), (7, 1), (15, 1), (16, 0), (17, 0)]; kernel_rfl) | (apply GP_pv; exact rfl; kernel_rfl; exact rfl; exact rfl; exact rfl) | (apply GP_loadB; exact rfl; kernel_rfl; exact rfl; exact rfl; exact rfl; exact (by (repeat (first | exact List.Mem.head _ | apply List.Mem.tail)); done); exact rfl; exact rfl) | (apply GP_real; exact rfl; kernel_rfl; exact rfl; exact rfl; exact rfl; (first | (apply OpTo_val; exact rfl; exact has7; exact g1; refine ⟨Le.refl _, by (first | exact NdOk_no rfl | (apply NdOk_all; (repeat' (first | exact trivial | apply And.intro | exact List.Mem.head _ | apply List.Mem.tail)); done) | (apply NdOk_need; (repeat' (first | exact trivial | apply And.intro | exact List.Mem.head _ | apply List.Mem.tail)); done)), ?_⟩) | (apply OpTo_val; exact rfl; exact has8; exact g2; refine ⟨Le.refl _, by (first | exact NdOk_no rfl | (apply NdOk_all; (repeat' (first | exact trivial | apply And.intro | exact List.Mem.head _ | apply List.Mem.tail)); done) | (apply NdOk_need; (repeat' (first | exact trivial | apply And.intro | exact List.Mem.head _ | apply List.Mem.tail)); done)), ?_⟩))) | (apply GP_done; kernel_rfl; exact rfl) | (apply GO_cond; exact rfl; all_goals intro hc; all_goals try simp only [ltI_t, ltI_f, leI_t, leI_f, eqI_t, eqI_f, Bool.not_eq_true', Bool.not_eq_false', decide_eq_true_eq, decide_eq_false_iff_not, reduceCtorEq] at hc; all_goals try (exfalso; omega)) | (apply GO_retV1; exact rfl; exact rfl; exact rfl))
    all_goals first | rfl | (simp [eqI_eq]; done) | (simp at hc; done)
  · by_cases hF1 : q.wins.length ≤ 20 ∧ n ≤ 20 ∧ m ≤ 20
    · rw [decide_eq_true hF1] at hfew
      rw [decide_eq_false (fun hh => hF ⟨hF1, hh⟩)] at hfr
      repeat' (first | apply GO_seq | apply GO_skip | apply GO_region | apply GOl_nil | (apply GOl_pv; exact rfl; exact rfl; exact rfl) | (apply GOl_load; exact rfl; exact Ld_blk rfl (by (repeat (first | exact List.Mem.head _ | apply List.Mem.tail)); done) rfl; exact rfl; exact rfl) | (apply GOl_to; exact rfl; exact rfl; exact rfl; (first | (apply OpTo_box; exact rfl; intro b; skip) | (apply OpTo_val; exact rfl; exact has4; exact sane37_c hS hC _ hG; skip) | (apply OpTo_val; exact rfl; exact has5; exact hfew; skip) | (apply OpTo_val; exact rfl; exact has6; exact hfr; skip))) | (apply GO_cond; exact rfl; all_goals intro hc; all_goals try simp only [ltI_t, ltI_f, leI_t, leI_f, eqI_t, eqI_f, Bool.not_eq_true', Bool.not_eq_false', decide_eq_true_eq, decide_eq_false_iff_not, reduceCtorEq] at hc; all_goals try (exfalso; omega)) | (apply GO_retV1; exact rfl; exact rfl; exact rfl))
      all_goals first | rfl | (simp at hc; done)
    · rw [decide_eq_false hF1] at hfew
      repeat' (first | apply GO_seq | apply GO_skip | apply GO_region | apply GOl_nil | (apply GOl_unwanted; exact rfl; exact rfl) | (apply GOl_pv; exact rfl; exact rfl; exact rfl) | (apply GOl_load; exact rfl; exact Ld_blk rfl (by (repeat (first | exact List.Mem.head _ | apply List.Mem.tail)); done) rfl; exact rfl; exact rfl) | (apply GOl_to; exact rfl; exact rfl; exact rfl; (first | (apply OpTo_box; exact rfl; intro b; skip) | (apply OpTo_val; exact rfl; exact has4; exact sane37_c hS hC _ hG; skip) | (apply OpTo_val; exact rfl; exact has5; exact hfew; skip))) | (apply GO_cond; exact rfl; all_goals intro hc; all_goals try simp only [ltI_t, ltI_f, leI_t, leI_f, eqI_t, eqI_f, Bool.not_eq_true', Bool.not_eq_false', decide_eq_true_eq, decide_eq_false_iff_not, reduceCtorEq] at hc; all_goals try (exfalso; omega)) | (apply GO_retV1; exact rfl; exact rfl; exact rfl))
      all_goals first | rfl | (simp at hc; done)
end Go.Hw

import Derived.Test.YtbgjcjhodlmgjacDoorCE1
import Derived.Test.YtbgjcjhodlmgjacDoorCM2
set_option linter.unusedVariables false
set_option linter.unusedSimpArgs false
set_option maxRecDepth 100000
set_option maxHeartbeats 8000000
namespace Go.Hw
open Go
attribute [local irreducible] Has GO GOl GDp Val Fn Res CellsAt ValE Blk OwnS MapA Yl
open Go.Proofs (Tryd.prog)

def ofNum (l : List Per) (n : Int) : List Per := l.filter fun p => decide (p.player = n)
theorem ofNum_snoc (l : List Per) (x : Per) (n : Int) : ofNum (l ++ [x]) n = ofNum l n ++ if x.player = n then [x] else [] := by
  unfold ofNum; rw [List.filter_append, List.filter_cons]
  by_cases h : x.player = n
  · rw [if_pos (decide_eq_true h), if_pos h]; rfl
  · rw [if_neg (by simpa using h), if_neg h]; rfl
theorem ofNum_one : ∀ {l : List Per} {p : Per}, l.Pairwise (fun a b => a.player < b.player) → p ∈ l → ofNum l p.player = [p]
  | [], _, _, h => by cases h
  | a :: r, p, hl, hp => by
    rw [List.pairwise_cons] at hl
    unfold ofNum
    rw [List.filter_cons]
    by_cases e : a = p
    · subst e
      have : r.filter (fun q => decide (q.player = a.player)) = [] := by
        rw [List.filter_eq_nil_iff]; intro q hq; have := hl.1 q hq; simp; omega
      simp [this]
    · have hpr : p ∈ r := by rcases List.mem_cons.1 hp with h | h; exact absurd h.symm e; exact h
      have hlt := hl.1 p hpr
      have ih := ofNum_one hl.2 hpr
      unfold ofNum at ih
      rw [if_neg (by simp; omega), ih]
theorem wages_app (a b : List Per) : (wagesL (a ++ b)).sum = (wagesL a).sum + (wagesL b).sum := by simp [wagesL]


theorem entered_w (hS : SortSaid) (hC : CompactSaid) (h : Ro) (hG : LenG h) (q : Quo) (A : Option Addr) (c : Nat) (hx : SlOf encV 2 h A q.wins.length q.wins) (s : Rsh) (r : Reg) (hcl : SlOf encI 1 h s.ac s.nc r.clubs) (hen : SlOf encE 7 h s.ae s.ne r.ents)
    (B : Option Addr) (n d : Nat) (l : List Per) (hl : SlOf encP 4 h B n l) (D : Option Addr) (m e : Nat) (bans : List Ivl) (hb : SlOf encV 2 h D m bans) (club player day : Int) :
    Val Tryd.prog 3 #[quoV q A c, regV r.league r.day s, .slice B n d, .slice D m e, .int .i64 club, .int .i64 player, .int .i64 day] h (.bool true) := by
  refine Val_intro (args := [_, _, _, _, _, _, _]) ts_ok Go.Proofs.Tryd.func3 rfl rfl fun w0 X0 => ?_
  have hfew := fewQ2_c h q A B D c n m d e
  have hfr := few_c h r.league r.day s
  have hbl := hb.len
  have hlen := hl.len
  by_cases hF : (q.wins.length ≤ 20 ∧ n ≤ 20 ∧ m ≤ 20) ∧ s.nc ≤ 30 ∧ s.ne ≤ 16
  · obtain ⟨F1, F2⟩ := hF
    obtain ⟨F3, F4, F5⟩ := F1
    rw [decide_eq_true ⟨F3, F4, F5⟩] at hfew
    rw [decide_eq_true F2] at hfr
    have hr : RegAt h s r := ⟨hcl, hen, by omega, by omega⟩
    have g1 := may_c hS hC h hG q A c hx (by omega) s r hr B n d l hl (by omega) D m e bans hb (by omega) club player day
    by_cases hE0 : mayE q r l bans club player day = 0
    · rw [hE0] at g1
      have hz := mayE_zero hE0
      obtain ⟨z1, z2, z3, z4, z5, z6, z7, z8, z9⟩ := hz
      have hent : ∀ h', Le h h' → Res Tryd.prog 8 #[regV r.league r.day s, entV (enX day player club)] h' (regR (regEnter r (enX day player club))) := fun h' hle => regEnter_c h' s r (hr.le hle) (enX day player club)
      repeat' (first | apply GO_seq | apply GO_skip | apply GO_region | apply GOl_nil | (apply GOl_pv; exact rfl; exact rfl; exact rfl) | (apply GOl_load; exact rfl; exact Ld_blk rfl (by (repeat (first | exact List.Mem.head _ | apply List.Mem.tail)); done) rfl; exact rfl; exact rfl) | (apply GOl_to; exact rfl; exact rfl; exact rfl; (first | (apply OpTo_box; exact rfl; intro b; skip) | (apply OpTo_val; exact rfl; exact has4; exact sane37_c hS hC _ hG; skip))) | (apply GO_cond; exact rfl; all_goals intro hc; all_goals try simp only [ltI_t, ltI_f, leI_t, leI_f, eqI_t, eqI_f, Bool.not_eq_true', Bool.not_eq_false', decide_eq_true_eq, decide_eq_false_iff_not, reduceCtorEq] at hc; all_goals try (exfalso; omega)))
      rename_i bq
      generalize b = br
      clear hc
      repeat' (first | apply GO_seq | apply GO_skip | apply GO_block | apply GO_region | apply GOl_nil | (apply GOl_pv; exact rfl; exact rfl; exact rfl) | (apply GOl_load; exact rfl; exact Ld_blk rfl (by (repeat (first | exact List.Mem.head _ | apply List.Mem.tail)); done) rfl; exact rfl; exact rfl) | (apply GOl_to; exact rfl; exact rfl; exact rfl; (first | (apply OpTo_val; exact rfl; exact has5; exact hfew; skip) | (apply OpTo_val; exact rfl; exact has6; exact hfr; skip) | (apply OpTo_val; exact rfl; exact has7; exact g1; skip))) | (apply GO_cond; exact rfl; all_goals intro hc; all_goals try simp only [ltI_t, ltI_f, leI_t, leI_f, eqI_t, eqI_f, Bool.not_eq_true', Bool.not_eq_false', decide_eq_true_eq, decide_eq_false_iff_not, reduceCtorEq] at hc; all_goals try (exfalso; omega)))
      refine GO_loopT (X := Nat) (fun k => k ≤ m) (fun k => m - k)
        (fun k => [(59, .int .i64 k), (58, .int .i64 m), (57, .slice D m e), (7, .pointer (some ⟨bq, 0, none⟩)), (8, .pointer (some ⟨br, 0, none⟩)), (2, .slice B n d), (3, .slice D m e), (4, .int .i64 club), (5, .int .i64 player), (6, .int .i64 day)])
        (fun k => [Blk bq 24 (partL (quoV q A c)), Blk br 28 (partL (regV r.league r.day s))]) (fun _ => h) 0 (by omega) (by (repeat (first | exact trivial | refine ⟨rfl, ?_⟩)); done) (by (repeat (first | exact Takes_nil | (apply Takes_cons; exact (by (repeat (first | exact Take.here | apply Take.there)); done)))); done) rfl ?_
      intro k hk ih
      by_cases hkn : k < m
      · have a1 := hb.addrD hkn
        have c1 := hb.cellsD v0 hkn
        have hnot : ¬ ((bans.getD k v0).lo ≤ day ∧ day ≤ (bans.getD k v0).hi) := by
          have hm := getD_mem v0 (show k < bans.length by omega)
          unfold inAny at z6
          rw [List.any_eq_false] at z6
          have := z6 _ hm
          simpa using this
        generalize bans.getD k v0 = x at *
        repeat' (first | apply GO_seq | apply GO_skip | apply GO_inBlock | apply GO_block | apply GO_region | apply GOl_nil | (apply GOl_unwanted; exact rfl; exact rfl) | (apply GOl_add; exact rfl; exact rfl; exact rfl; omega; exact rfl; exact rfl) | (apply GOl_pv; exact rfl; exact rfl; exact rfl) | (apply GOl_load; exact rfl; exact Ld_blk rfl (by (repeat (first | exact List.Mem.head _ | apply List.Mem.tail)); done) rfl; exact rfl; exact rfl) | (apply GOl_ov; exact rfl; exact rfl; (first | (apply OV_idxS (j := k); exact rfl; exact rfl; exact rfl; exact rfl; exact rfl; exact a1; (with_reducible exact rfl); omega) | (apply OV_load; exact rfl; exact Lv_ro rfl c1 rfl)); exact (by repeat' (first | exact trivial | apply And.intro | exact List.Mem.head _ | apply List.Mem.tail))) | (apply GOl_to; exact rfl; exact rfl; exact rfl; (first | (apply OpTo_store; exact rfl; exact rfl; exact rfl; exact (by (repeat (first | exact Repl.here | apply Repl.there)); done); exact rfl; exact rfl; exact rfl; skip) | (apply OpTo_alloc; exact rfl; intro b; skip))) | (apply GO_cond; exact rfl; all_goals intro hc; all_goals try simp only [ltI_t, ltI_f, leI_t, leI_f, eqI_t, eqI_f, Bool.not_eq_true', Bool.not_eq_false', decide_eq_true_eq, decide_eq_false_iff_not, reduceCtorEq] at hc; all_goals try (exfalso; omega)) | (apply GOl_split; exact rfl; exact rfl; all_goals intro hc; all_goals try simp only [ltI_t, ltI_f, leI_t, leI_f, eqI_t, eqI_f, Bool.not_eq_true', Bool.not_eq_false', decide_eq_true_eq, decide_eq_false_iff_not, reduceCtorEq] at hc; all_goals try (exfalso; omega)))
        all_goals first | (exfalso; omega) | (have h3 := ih (k + 1) (by omega) (by omega); refine GO_fit (by (repeat (first | exact trivial | refine ⟨rfl, ?_⟩)); done) (by (repeat (first | exact Takes_nil | (apply Takes_cons; exact (by (repeat (first | exact Take.here | apply Take.there)); done)))); done) (h3))
      clear ih
      repeat' (first | apply GO_seq | apply GO_block | apply GO_region | apply GOl_nil | (apply GO_exit; exact rfl) | (apply GOl_pv; exact rfl; exact rfl; exact rfl) | (apply GOl_load; exact rfl; exact Ld_blk rfl (by (repeat (first | exact List.Mem.head _ | apply List.Mem.tail)); done) rfl; exact rfl; exact rfl) | (apply GO_cond; exact rfl; all_goals intro hc; all_goals try simp only [ltI_t, ltI_f, leI_t, leI_f, eqI_t, eqI_f, Bool.not_eq_true', Bool.not_eq_false', decide_eq_true_eq, decide_eq_false_iff_not, reduceCtorEq] at hc; all_goals try (exfalso; omega)))
      refine GO_loopT (X := Nat) (fun k => k ≤ q.wins.length) (fun k => q.wins.length - k)
        (fun k => [(77, .int .i64 k), (76, .int .i64 q.wins.length), (75, .slice A q.wins.length c), (17, .bool (inAny day (q.wins.take k))), (7, .pointer (some ⟨bq, 0, none⟩)), (8, .pointer (some ⟨br, 0, none⟩)), (2, .slice B n d), (3, .slice D m e), (4, .int .i64 club), (5, .int .i64 player), (6, .int .i64 day)])
        (fun k => [Blk bq 24 (partL (quoV q A c)), Blk br 28 (partL (regV r.league r.day s))]) (fun _ => h) 0 (by omega) (by (repeat (first | exact trivial | refine ⟨rfl, ?_⟩)); done) (by (repeat (first | exact Takes_nil | (apply Takes_cons; exact (by (repeat (first | exact Take.here | apply Take.there)); done)))); done) rfl ?_
      intro k hk ih
      by_cases hkn : k < q.wins.length
      · have a1 := hx.addrD hkn
        have c1 := hx.cellsD v0 hkn
        have ht := take_snocQ v0 (rfl : q.wins.length = q.wins.length) hkn
        have hin : inAny day (q.wins.take (k + 1)) = (inAny day (q.wins.take k) || decide ((q.wins.getD k v0).lo ≤ day ∧ day ≤ (q.wins.getD k v0).hi)) := by rw [ht, inAny_app]; simp [inAny]
        have h3 := ih (k + 1) (by omega) (by omega)
        rw [hin] at h3
        generalize q.wins.getD k v0 = x at *
        generalize inAny day (q.wins.take k) = fl at *
        repeat' (first | apply GO_seq | apply GO_skip | apply GO_inBlock | apply GO_block | apply GO_region | apply GOl_nil | (apply GOl_unwanted; exact rfl; exact rfl) | (apply GOl_add; exact rfl; exact rfl; exact rfl; omega; exact rfl; exact rfl) | (apply GOl_pv; exact rfl; exact rfl; exact rfl) | (apply GOl_load; exact rfl; exact Ld_blk rfl (by (repeat (first | exact List.Mem.head _ | apply List.Mem.tail)); done) rfl; exact rfl; exact rfl) | (apply GOl_ov; exact rfl; exact rfl; (first | (apply OV_idxS (j := k); exact rfl; exact rfl; exact rfl; exact rfl; exact rfl; exact a1; (with_reducible exact rfl); omega) | (apply OV_load; exact rfl; exact Lv_ro rfl c1 rfl)); exact (by repeat' (first | exact trivial | apply And.intro | exact List.Mem.head _ | apply List.Mem.tail))) | (apply GOl_to; exact rfl; exact rfl; exact rfl; (first | (apply OpTo_store; exact rfl; exact rfl; exact rfl; exact (by (repeat (first | exact Repl.here | apply Repl.there)); done); exact rfl; exact rfl; exact rfl; skip) | (apply OpTo_alloc; exact rfl; intro b; skip))) | (apply GO_cond; exact rfl; all_goals intro hc; all_goals try simp only [ltI_t, ltI_f, leI_t, leI_f, eqI_t, eqI_f, Bool.not_eq_true', Bool.not_eq_false', decide_eq_true_eq, decide_eq_false_iff_not, reduceCtorEq] at hc; all_goals try (exfalso; omega)) | (apply GOl_split; exact rfl; exact rfl; all_goals intro hc; all_goals try simp only [ltI_t, ltI_f, leI_t, leI_f, eqI_t, eqI_f, Bool.not_eq_true', Bool.not_eq_false', decide_eq_true_eq, decide_eq_false_iff_not, reduceCtorEq] at hc; all_goals try (exfalso; omega)))
        all_goals first
          | (have e1 : (fl || decide (x.lo ≤ day ∧ day ≤ x.hi)) = true := (by rw [show fl = true by assumption]; rfl); rw [e1] at h3; refine GO_fit (by (repeat (first | exact trivial | refine ⟨rfl, ?_⟩)); done) (by (repeat (first | exact Takes_nil | (apply Takes_cons; exact (by (repeat (first | exact Take.here | apply Take.there)); done)))); done) (h3))
          | (have e1 : (fl || decide (x.lo ≤ day ∧ day ≤ x.hi)) = leI day x.hi := (by rw [show fl = false by assumption, leI_eq, Bool.false_or, decide_eq_decide]; omega); rw [e1] at h3; refine GO_fit (by (repeat (first | exact trivial | refine ⟨rfl, ?_⟩)); done) (by (repeat (first | exact Takes_nil | (apply Takes_cons; exact (by (repeat (first | exact Take.here | apply Take.there)); done)))); done) (h3))
          | (have e1 : (fl || decide (x.lo ≤ day ∧ day ≤ x.hi)) = false := (by rw [show fl = false by assumption, Bool.false_or, decide_eq_false_iff_not]; omega); rw [e1] at h3; refine GO_fit (by (repeat (first | exact trivial | refine ⟨rfl, ?_⟩)); done) (by (repeat (first | exact Takes_nil | (apply Takes_cons; exact (by (repeat (first | exact Take.here | apply Take.there)); done)))); done) (h3))
         
      rw [List.take_of_length_le (by omega), z5]
      clear ih
      by_cases ha : addE r.clubs r.day r.ents (enX day player club) = 0
      · have hre : regEnter r (enX day player club) = (enY r (enX day player club), 0) := by unfold regEnter; rw [if_pos z2, if_pos ha]; rfl
        rw [hre] at hent
        have hmy : ∀ cc ∈ r.clubs, mayE q (enY r (enX day player club)) l bans cc player day ≠ 0 ∧ (cc = club → mayE q (enY r (enX day player club)) l bans cc player day = 361) := fun cc hcc => en_may hE0 ha hcc
        have hsqd := en_squad z2 z7 z3.2.2.2.2 ha
        have hlo := en_loans2 z2 z7 z3.2.2.2.2 ha
        have hgy := en_good z2 ha
        have hyl : (enY r (enX day player club)).ents.length = s.ne + 1 := by have := hr.ents.len; simp [enY]; omega
        have hyc : (enY r (enX day player club)).clubs = r.clubs := rfl
        have hpm : player ∈ membersL r club player := (members_mem r club player player).2 (.inr rfl)
        have hmi := members_incr r club player
        have hml := members_len r club player
        have hsl := squadLlen r club
        have hsq : ∀ h' s', RegAt h' s' (enY r (enX day player club)) → Res Tryd.prog 9 #[regV r.league day s', .int .i64 club] h' (fun v h'' => ∃ A c, v = .slice A (membersL r club player).length c ∧ SlOf encI 1 h'' A (membersL r club player).length (membersL r club player)) := fun h' s' hs' => by
          have := regSquad_c hS h' s' _ hs' club; rw [hsqd] at this; exact this
        have hln : ∀ h' s', RegAt h' s' (enY r (enX day player club)) → Val Tryd.prog 10 #[regV r.league day s', .int .i64 club] h' (.tuple #[.int .i64 (loanIn club (playersL r (firsts r.ents))), .int .i64 (loanOut club (playersL r (firsts r.ents)))]) := fun h' s' hs' => by
          have := loans_c h' s' _ hs' (by have := hs'.ents.len; omega) club (fun p => clubR_c h' s' _ hs' p)
          rw [hlo.1, hlo.2] at this; exact this
        have hmq : ∀ h', Le h h' → ∀ s' cc, RegAt h' s' (enY r (enX day player club)) → Val Tryd.prog 7 #[quoV q A c, regV r.league day s', .slice B n d, .slice D m e, .int .i64 cc, .int .i64 player, .int .i64 day] h' (.int .i64 (mayE q (enY r (enX day player club)) l bans cc player day)) := fun h' hle s' cc hs' =>
          may_c hS hC h' (hG.le hle) q A c (hx.le hle) (by omega) s' _ hs' B n d l (hl.le hle) (by omega) D m e bans (hb.le hle) (by omega) cc player day
        have hsE : ∀ h', Le h h' → ∀ A' c', SlOf encP 4 h' A' (membersL r club player).length (ofNums l (membersL r club player)) → Val Tryd.prog 11 #[quoV q A c, .slice A' (membersL r club player).length c', .int .i64 (loanIn club (playersL r (firsts r.ents))), .int .i64 (loanOut club (playersL r (firsts r.ents))), .int .i64 day] h' (.int .i64 0) := fun h' hle A' c' hs' => by
          have := squad_c h' (hG.le hle) q A c (hx.le hle) (by omega) A' _ c' _ hs' (by have := hr.ents.len; omega) (loanIn club (playersL r (firsts r.ents))) (loanOut club (playersL r (firsts r.ents))) day
          rw [z8] at this; exact this
        have hE2 : ∀ h', Le h h' → Res Tryd.prog 8 #[regV r.league r.day s, entV (enX day player club)] h' (fun v h'' => ∃ s1, v = .tuple #[regV r.league day s1, .int .i64 0] ∧ RegAt h'' s1 (enY r (enX day player club))) := fun h' hle => Res.mono (hent h' hle) fun v h'' _ hp => by
          obtain ⟨s1, h1, h2⟩ := hp
          exact ⟨s1, h1, h2⟩
        clear hent
        have hlr := hr.ents.len
        generalize hyy : enY r (enX day player club) = y at *
        generalize loanIn club (playersL r (firsts r.ents)) = lI at *
        generalize loanOut club (playersL r (firsts r.ents)) = lO at *
        generalize squadL r club = sq0 at *
        generalize membersL r club player = mem at *
        have y1 := z1.2.2.2.2.2.2.2.2.2.2.1
        have y2 := z1.2.2.2.2.2.2.2.2.2.2.2.1
        have hP := z3.1
        clear z1 z2 z3 z5 z6 z7 z8 hsqd hlo hgy hre hG
        repeat' (first | apply GO_seq | apply GO_skip | apply GO_block | apply GO_region | apply GOl_nil | (apply GO_exit; exact rfl) | (apply GOl_pv; exact rfl; exact rfl; exact rfl) | (apply GOl_load; exact rfl; exact Ld_blk rfl (by (repeat (first | exact List.Mem.head _ | apply List.Mem.tail)); done) rfl; exact rfl; exact rfl) | (apply GOl_to; exact rfl; exact rfl; exact rfl; (first | (apply OpTo_store; exact rfl; exact rfl; exact rfl; exact (by (repeat (first | exact Repl.here | apply Repl.there)); done); exact rfl; exact rfl; exact rfl; skip) | (apply OpTo_alloc; exact rfl; intro b; skip) | (apply OpTo_res; exact rfl; exact has8; exact hE2 _ (by first | exact Le.refl _ | assumption | (repeat (first | assumption | (apply Le.trans; assumption)))); rintro v1 hs1 hle1 ⟨s1, rfl, hy⟩; skip) | (apply OpTo_buildSliceO (n := 0); exact rfl; exact rfl; exact rfl; exact List.cons_ne_nil _ _; exact rfl; exact rfl; exact rfl; exact rfl; exact rfl; exact rfl; intro bo; skip) | (apply OpTo_res; exact rfl; exact has9; exact hsq _ _ (hy.le (by first | exact Le.refl _ | assumption | (repeat (first | assumption | (apply Le.trans; assumption))))); rintro v2 hs2 hle2 ⟨As, cs, rfl, hms⟩; skip))) | (apply GO_cond; exact rfl; all_goals intro hc; all_goals try simp only [ltI_t, ltI_f, leI_t, leI_f, eqI_t, eqI_f, Bool.not_eq_true', Bool.not_eq_false', decide_eq_true_eq, decide_eq_false_iff_not, reduceCtorEq] at hc; all_goals try (exfalso; omega)))
        generalize b = bx
        have hle0 : Le h hs2 := (by first | exact Le.refl _ | assumption | (repeat (first | assumption | (apply Le.trans; assumption))))
        have hy2 : RegAt hs2 s1 y := hy.le (by first | exact Le.refl _ | assumption | (repeat (first | assumption | (apply Le.trans; assumption))))
        clear hE2
        refine GO_loopT (X := Nat × Option Addr × Nat × Ro × Bool × List Per) (fun x => x.1 ≤ mem.length ∧ Le hs2 x.2.2.2.1 ∧ x.2.2.2.2.1 = decide (player ∈ mem.take x.1) ∧ x.2.2.2.2.2 = ofNums l (mem.take x.1) ∧ x.2.2.2.2.2.length = x.1) (fun x => mem.length - x.1)
          (fun x => [(112, .int .i64 x.1), (111, .int .i64 mem.length), (110, .slice As mem.length cs), (24, .bool x.2.2.2.2.1), (23, .int .i64 (wagesL x.2.2.2.2.2).sum), (22, .slice x.2.1 x.2.2.2.2.2.length x.2.2.1), (17, .bool true), (20, .pointer (some ⟨bx, 0, none⟩)), (7, .pointer (some ⟨bq, 0, none⟩)), (2, .slice B n d), (3, .slice D m e), (4, .int .i64 club), (5, .int .i64 player), (6, .int .i64 day)])
          (fun x => [OwnS 43 4 (.slice x.2.1 x.2.2.2.2.2.length x.2.2.1) x.2.2.2.2.2.length (x.2.2.2.2.2.flatMap encP), Blk bx 28 (partL (regV r.league day s1)), Blk bq 24 (partL (quoV q A c))])
          (fun x => x.2.2.2.1) (0, some ⟨bo, 0, none⟩, 0, hs2, false, []) ⟨by dsimp only; omega, Le.refl _, by simp, by simp [ofNums_nil], rfl⟩ (by (repeat (first | exact trivial | refine ⟨rfl, ?_⟩)); done) (by (repeat (first | exact Takes_nil | (apply Takes_cons; exact (by (repeat (first | exact Take.here | apply Take.there)); done)))); done) rfl ?_
        rintro ⟨k, Ao, co, hh, fl, T⟩ ⟨hk, hlh, hfl, hT, hTl⟩ ih
        dsimp only at hk hlh hfl hT hTl ih ⊢
        by_cases hkn : k < mem.length
        · have a1 := hms.addrD hkn
          have c1 := (hms.cellsD 0 hkn).le hlh
          have ht := take_snocQ 0 (rfl : mem.length = mem.length) hkn
          have hmm := getD_mem 0 hkn
          have hlt : ∀ z ∈ mem.take k, z < mem.getD k 0 := fun z hz => by
            obtain ⟨i, hi, rfl⟩ := List.getElem_of_mem hz
            rw [List.length_take] at hi
            have := List.pairwise_iff_getElem.1 hmi i k (by omega) hkn (by omega)
            simpa [List.getD, List.getElem?_eq_getElem hkn] using this
          generalize mem.getD k 0 = z at *
          obtain ⟨p, hp1, hp2, hp3⟩ := z4 z hmm
          subst hp2
          have hof := ofNums_snoc hP.2 hp1 hlt
          rw [← ht, ← hT] at hof
          have hon := ofNum_one hP.2 hp1
          have hbel : decide (player ∈ mem.take (k + 1)) = (fl || eqI p.player player) := by
            rw [ht, hfl, eqI_eq, ← Bool.decide_or, decide_eq_decide, List.mem_append, List.mem_singleton]
            exact or_congr Iff.rfl eq_comm
          repeat' (first | apply GO_seq | apply GO_skip | apply GO_block | apply GO_region | apply GOl_nil | (apply GOl_unwanted; exact rfl; exact rfl) | (apply GOl_pv; exact rfl; exact rfl; exact rfl) | (apply GOl_ov; exact rfl; exact rfl; (first | (apply OV_idxS (j := k); exact rfl; exact rfl; exact rfl; exact rfl; exact rfl; exact a1; (with_reducible exact rfl); omega) | (apply OV_load; exact rfl; exact Lv_ro rfl c1 rfl)); exact (by repeat' (first | exact trivial | apply And.intro | exact List.Mem.head _ | apply List.Mem.tail))) | (apply GO_cond; exact rfl; all_goals intro hc; all_goals try simp only [ltI_t, ltI_f, leI_t, leI_f, eqI_t, eqI_f, Bool.not_eq_true', Bool.not_eq_false', decide_eq_true_eq, decide_eq_false_iff_not, reduceCtorEq] at hc; all_goals try (exfalso; omega)) | (apply GOl_split; exact rfl; exact rfl; all_goals intro hc; all_goals try simp only [ltI_t, ltI_f, leI_t, leI_f, eqI_t, eqI_f, Bool.not_eq_true', Bool.not_eq_false', decide_eq_true_eq, decide_eq_false_iff_not, reduceCtorEq] at hc; all_goals try (exfalso; omega)))
          all_goals
            first
            | refine GO_loopT (X := Nat × Option Addr × Nat × Ro × List Per × Bool) (fun x => x.1 ≤ n ∧ Le hh x.2.2.2.1 ∧ x.2.2.2.2.1 = T ++ ofNum (l.take x.1) p.player ∧ x.2.2.2.2.2 = decide (player ∈ mem.take (k + 1))) (fun x => n - x.1)
                    (fun x => [(124, .int .i64 x.1), (123, .int .i64 n), (122, .slice B n d), (26, .int .i64 p.player), (24, .bool x.2.2.2.2.2), (23, .int .i64 (wagesL x.2.2.2.2.1).sum), (22, .slice x.2.1 x.2.2.2.2.1.length x.2.2.1), (112, .int .i64 k), (111, .int .i64 mem.length), (110, .slice As mem.length cs), (17, .bool true), (20, .pointer (some ⟨bx, 0, none⟩)), (7, .pointer (some ⟨bq, 0, none⟩)), (2, .slice B n d), (3, .slice D m e), (4, .int .i64 club), (5, .int .i64 player), (6, .int .i64 day)])
                    (fun x => [OwnS 43 4 (.slice x.2.1 x.2.2.2.2.1.length x.2.2.1) x.2.2.2.2.1.length (x.2.2.2.2.1.flatMap encP), Blk bx 28 (partL (regV r.league day s1)), Blk bq 24 (partL (quoV q A c))])
                    (fun x => x.2.2.2.1) (0, Ao, co, hh, T, true) ⟨by dsimp only; omega, Le.refl _, by simp [ofNum], by rw [hbel, show fl = true by assumption]; rfl⟩ (by (repeat (first | exact trivial | refine ⟨rfl, ?_⟩)); done) (by (repeat (first | exact Takes_nil | (apply Takes_cons; exact (by (repeat (first | exact Take.here | apply Take.there)); done)))); done) rfl ?_
            | refine GO_loopT (X := Nat × Option Addr × Nat × Ro × List Per × Bool) (fun x => x.1 ≤ n ∧ Le hh x.2.2.2.1 ∧ x.2.2.2.2.1 = T ++ ofNum (l.take x.1) p.player ∧ x.2.2.2.2.2 = decide (player ∈ mem.take (k + 1))) (fun x => n - x.1)
                    (fun x => [(124, .int .i64 x.1), (123, .int .i64 n), (122, .slice B n d), (26, .int .i64 p.player), (24, .bool x.2.2.2.2.2), (23, .int .i64 (wagesL x.2.2.2.2.1).sum), (22, .slice x.2.1 x.2.2.2.2.1.length x.2.2.1), (112, .int .i64 k), (111, .int .i64 mem.length), (110, .slice As mem.length cs), (17, .bool true), (20, .pointer (some ⟨bx, 0, none⟩)), (7, .pointer (some ⟨bq, 0, none⟩)), (2, .slice B n d), (3, .slice D m e), (4, .int .i64 club), (5, .int .i64 player), (6, .int .i64 day)])
                    (fun x => [OwnS 43 4 (.slice x.2.1 x.2.2.2.2.1.length x.2.2.1) x.2.2.2.2.1.length (x.2.2.2.2.1.flatMap encP), Blk bx 28 (partL (regV r.league day s1)), Blk bq 24 (partL (quoV q A c))])
                    (fun x => x.2.2.2.1) (0, Ao, co, hh, T, eqI p.player player) ⟨by dsimp only; omega, Le.refl _, by simp [ofNum], by rw [hbel, show fl = false by assumption]; rfl⟩ (by (repeat (first | exact trivial | refine ⟨rfl, ?_⟩)); done) (by (repeat (first | exact Takes_nil | (apply Takes_cons; exact (by (repeat (first | exact Take.here | apply Take.there)); done)))); done) rfl ?_
            clear hfl
            rintro ⟨j, Aj, cj, hj, Tj, fj⟩ ⟨hjn, hlj, hTj, hfj⟩ ih2
            dsimp only at hjn hlj hTj hfj ih2 ⊢
            have hofl : (ofNum (l.take j) p.player).length ≤ j := by
              unfold ofNum
              have := List.length_filter_le (fun z : Per => decide (z.player = p.player)) (l.take j)
              rw [List.length_take] at this; omega
            have hTjl : Tj.length = k + (ofNum (l.take j) p.player).length := by rw [hTj, List.length_append, hTl]
            have hbd := wages_bd (l := Tj) fun w hw => by
              rw [hTj, List.mem_append] at hw
              rcases hw with hw | hw
              · rw [hT] at hw; exact hP.1 _ ((List.mem_filter.1 hw).1)
              · exact hP.1 _ (List.mem_of_mem_take (List.mem_filter.1 hw).1)
            by_cases hjl : j < n
            · have a2 := hl.addrD hjl
              have c2 := (hl.cellsD p0 hjl).le (hle0.trans (hlh.trans hlj))
              have ht2 := take_snocQ p0 hlen hjl
              have hm2 := (hP.1 _ (getD_mem p0 (show j < l.length by omega))).2.2.2.2
              have hsn := ofNum_snoc (l.take j) (l.getD j p0) p.player
              rw [← ht2] at hsn
              generalize l.getD j p0 = x at *
              by_cases hxp : x.player = p.player
              · rw [if_pos hxp] at hsn
                have hl2 : (Tj ++ [x]).length = Tj.length + 1 := by simp
                have hw2 : (wagesL (Tj ++ [x])).sum = (wagesL Tj).sum + x.wage := by rw [wages_app]; simp [wagesL]
                repeat' (first | apply GO_seq | apply GO_skip | apply GO_inBlock | apply GO_block | apply GO_region | apply GOl_nil | (apply GOl_add; exact rfl; exact rfl; exact rfl; omega; exact rfl; exact rfl) | (apply GOl_pv; exact rfl; exact rfl; exact rfl) | (apply GOl_load; exact rfl; exact Ld_blk rfl (by (repeat (first | exact List.Mem.head _ | apply List.Mem.tail)); done) rfl; exact rfl; exact rfl) | (apply GOl_ov; exact rfl; exact rfl; (first | (apply OV_idxS (j := j); exact rfl; exact rfl; exact rfl; exact rfl; exact rfl; exact a2; (with_reducible exact rfl); omega) | (apply OV_load; exact rfl; exact Lv_ro rfl c2 rfl)); exact (by repeat' (first | exact trivial | apply And.intro | exact List.Mem.head _ | apply List.Mem.tail))) | (apply GOl_to; exact rfl; exact rfl; exact rfl; (first | (apply OpTo_store; exact rfl; exact rfl; exact rfl; exact (by (repeat (first | exact Repl.here | apply Repl.there)); done); exact rfl; exact rfl; exact rfl; skip) | (apply OpTo_alloc; exact rfl; intro b; skip))) | (apply GO_drawp (n := 30) [0, 1, 2, 3, 8, 4, 5, 6, 7, 9] [(0, 0), (1, 0), (4, 0), (5, 0), (6, 0), (7, 0), (2, 1), (3, 1), (8, 0), (9, 0)]; kernel_rfl) | (apply GP_add; exact rfl; kernel_rfl; exact rfl; exact rfl; exact rfl; exact rfl; exact rfl; omega) | (apply GP_pv; exact rfl; kernel_rfl; exact rfl; exact rfl; exact rfl) | (apply GP_loadB; exact rfl; kernel_rfl; exact rfl; exact rfl; exact rfl; exact (by (repeat (first | exact List.Mem.head _ | apply List.Mem.tail)); done); exact rfl; exact rfl) | (apply GP_real; exact rfl; kernel_rfl; exact rfl; exact rfl; exact rfl; (first | (apply OpTo_buildSliceS (enc := encP) (n := 1) [x]; exact rfl; exact rfl; exact rfl; exact List.cons_ne_nil _ _; exact rfl; exact rfl; exact rfl; exact rfl; exact fun _ => rfl; exact rfl; exact rfl; intro bz h6 hle7 hs7; refine ⟨hle7, by (first | exact NdOk_no rfl | (apply NdOk_all; (repeat' (first | exact trivial | apply And.intro | exact List.Mem.head _ | apply List.Mem.tail)); done) | (apply NdOk_need; (repeat' (first | exact trivial | apply And.intro | exact List.Mem.head _ | apply List.Mem.tail)); done)), ?_⟩) | (apply OpTo_appendS (enc := encP) (xs := Tj) (ys := [x]); exact rfl; exact rfl; exact rfl; exact rfl; exact rfl; exact rfl; exact rfl; exact hs7; exact fun _ => rfl; exact fun _ => allOne_ok rfl; intro v1; exact (by (repeat (first | exact Repl.here | apply Repl.there)); done); omega; exact rfl; intro A3 c3; refine ⟨Le.refl _, by (first | exact NdOk_no rfl | (apply NdOk_all; (repeat' (first | exact trivial | apply And.intro | exact List.Mem.head _ | apply List.Mem.tail)); done) | (apply NdOk_need; (repeat' (first | exact trivial | apply And.intro | exact List.Mem.head _ | apply List.Mem.tail)); done)), ?_⟩))) | (apply GP_done; kernel_rfl; exact rfl) | (apply GO_cond; exact rfl; all_goals intro hc; all_goals try simp only [ltI_t, ltI_f, leI_t, leI_f, eqI_t, eqI_f, Bool.not_eq_true', Bool.not_eq_false', decide_eq_true_eq, decide_eq_false_iff_not, reduceCtorEq] at hc; all_goals try (exfalso; omega)))
                all_goals first
                  | (exfalso; omega)
                  | (have h3 := ih2 (j + 1, A3, c3, h6, Tj ++ [x], fj) ⟨by dsimp only; omega, hlj.trans hle7, by dsimp only; rw [hsn, hTj, List.append_assoc], hfj⟩ (by dsimp only; omega)
                     dsimp only at h3
                     rw [hl2, hw2] at h3
                     refine GO_fit (by (repeat (first | exact trivial | refine ⟨rfl, ?_⟩)); done) (by (repeat (first | exact Takes_nil | (apply Takes_cons; exact (by (repeat (first | exact Take.here | apply Take.there)); done)))); done) (h3))
                 
              · rw [if_neg hxp, List.append_nil] at hsn
                have h3 := ih2 (j + 1, Aj, cj, hj, Tj, fj) ⟨by dsimp only; omega, hlj, by dsimp only; rw [hsn, hTj], hfj⟩ (by dsimp only; omega)
                dsimp only at h3
                repeat' (first | apply GO_seq | apply GO_skip | apply GO_inBlock | apply GO_block | apply GO_region | apply GOl_nil | (apply GOl_add; exact rfl; exact rfl; exact rfl; omega; exact rfl; exact rfl) | (apply GOl_pv; exact rfl; exact rfl; exact rfl) | (apply GOl_load; exact rfl; exact Ld_blk rfl (by (repeat (first | exact List.Mem.head _ | apply List.Mem.tail)); done) rfl; exact rfl; exact rfl) | (apply GOl_ov; exact rfl; exact rfl; (first | (apply OV_idxS (j := j); exact rfl; exact rfl; exact rfl; exact rfl; exact rfl; exact a2; (with_reducible exact rfl); omega) | (apply OV_load; exact rfl; exact Lv_ro rfl c2 rfl)); exact (by repeat' (first | exact trivial | apply And.intro | exact List.Mem.head _ | apply List.Mem.tail))) | (apply GOl_to; exact rfl; exact rfl; exact rfl; (first | (apply OpTo_store; exact rfl; exact rfl; exact rfl; exact (by (repeat (first | exact Repl.here | apply Repl.there)); done); exact rfl; exact rfl; exact rfl; skip) | (apply OpTo_alloc; exact rfl; intro b; skip))) | (apply GO_cond; exact rfl; all_goals intro hc; all_goals try simp only [ltI_t, ltI_f, leI_t, leI_f, eqI_t, eqI_f, Bool.not_eq_true', Bool.not_eq_false', decide_eq_true_eq, decide_eq_false_iff_not, reduceCtorEq] at hc; all_goals try (exfalso; omega)))
                all_goals first | (exfalso; omega) | (refine GO_fit (by (repeat (first | exact trivial | refine ⟨rfl, ?_⟩)); done) (by (repeat (first | exact Takes_nil | (apply Takes_cons; exact (by (repeat (first | exact Take.here | apply Take.there)); done)))); done) (h3))
            · rw [List.take_of_length_le (by omega), hon, ← hof] at hTj
              have h3 := ih (k + 1, Aj, cj, hj, fj, Tj) ⟨by dsimp only; omega, hlh.trans hlj, hfj, hTj, by dsimp only; rw [hTj, hof, List.length_append, hTl]; rfl⟩ (by dsimp only; omega)
              dsimp only at h3
              clear ih2
              repeat' (first | apply GO_seq | apply GO_inBlock | apply GO_region | apply GOl_nil | (apply GO_exit; exact rfl) | (apply GOl_add; exact rfl; exact rfl; exact rfl; omega; exact rfl; exact rfl) | (apply GOl_pv; exact rfl; exact rfl; exact rfl) | (apply GO_cond; exact rfl; all_goals intro hc; all_goals try simp only [ltI_t, ltI_f, leI_t, leI_f, eqI_t, eqI_f, Bool.not_eq_true', Bool.not_eq_false', decide_eq_true_eq, decide_eq_false_iff_not, reduceCtorEq] at hc; all_goals try (exfalso; omega)))
              all_goals first | (exfalso; omega) | (refine GO_fit (by (repeat (first | exact trivial | refine ⟨rfl, ?_⟩)); done) (by (repeat (first | exact Takes_nil | (apply Takes_cons; exact (by (repeat (first | exact Take.here | apply Take.there)); done)))); done) (h3))
        · rw [List.take_of_length_le (by omega)] at hT hfl
          have hf2 : fl = true := by rw [hfl]; exact decide_eq_true hpm
          subst hf2
          clear hfl ih
          have hTl2 : T.length = mem.length := by omega
          have hbd := wages_bd (l := T) fun w hw => by
            rw [hT] at hw; exact hP.1 _ ((List.mem_filter.1 hw).1)
          subst hT
          rw [hTl2] at hbd
          rw [hTl2]
          generalize (wagesL (ofNums l mem)).sum = wsum at *
          refine GO_relS (enc := encP) (sz := 4) (n := mem.length) (xs := ofNums l mem) (fun _ => rfl) hTl2 (by (repeat (first | exact Take.here | apply Take.there)); done) ?_
          intro A6 c6 h6 hle6 e6 hs6
          injection e6 with e61 _ e63
          subst e61; subst e63
          have hl6 : Le h h6 := hle0.trans (hlh.trans hle6)
          have hy6 : RegAt h6 s1 y := hy2.le (hlh.trans hle6)
          repeat' (first | apply GO_seq | apply GO_skip | apply GO_block | apply GO_region | apply GOl_nil | (apply GO_exit; exact rfl) | (apply GOl_mul; exact rfl; exact rfl; exact rfl; omega; exact rfl; exact rfl) | (apply GOl_pv; exact rfl; exact rfl; exact rfl) | (apply GOl_load; exact rfl; exact Ld_blk rfl (by (repeat (first | exact List.Mem.head _ | apply List.Mem.tail)); done) rfl; exact rfl; exact rfl) | (apply GOl_to; exact rfl; exact rfl; exact rfl; (first | (apply OpTo_val; exact rfl; exact has10; exact hln _ _ (hy6.le (by first | exact Le.refl _ | assumption | (repeat (first | assumption | (apply Le.trans; assumption))))); skip) | (apply OpTo_res; exact rfl; exact has9; exact hsq _ _ (hy6.le (by first | exact Le.refl _ | assumption | (repeat (first | assumption | (apply Le.trans; assumption))))); rintro v3 hs3 hle3 ⟨A3, c3, rfl, hms3⟩; skip) | (apply OpTo_val; exact rfl; exact has11; exact hsE _ (hl6.trans (by first | exact Le.refl _ | assumption | (repeat (first | assumption | (apply Le.trans; assumption))))) _ _ (hs6.le (by first | exact Le.refl _ | assumption | (repeat (first | assumption | (apply Le.trans; assumption))))); skip))) | (apply GO_cond; exact rfl; all_goals intro hc; all_goals try simp only [ltI_t, ltI_f, leI_t, leI_f, eqI_t, eqI_f, Bool.not_eq_true', Bool.not_eq_false', decide_eq_true_eq, decide_eq_false_iff_not, reduceCtorEq] at hc; all_goals try (exfalso; omega)) | (apply GOl_split; exact rfl; exact rfl; all_goals intro hc; all_goals try simp only [ltI_t, ltI_f, leI_t, leI_f, eqI_t, eqI_f, Bool.not_eq_true', Bool.not_eq_false', decide_eq_true_eq, decide_eq_false_iff_not, reduceCtorEq] at hc; all_goals try (exfalso; omega)))
          all_goals first | (exfalso; omega) | (exfalso; simp at hc; done) | skip
          all_goals
            have hyn : y.clubs.length = s1.nc := hy6.clubs.len
            have hync := hy6.nc
            refine GO_loopT (X := Nat) (fun k => k ≤ s1.nc) (fun k => s1.nc - k)
              (fun k => [(182, .int .i64 k), (181, .int .i64 s1.nc), (180, .slice s1.ac s1.nc s1.cc), (20, .pointer (some ⟨bx, 0, none⟩)), (7, .pointer (some ⟨bq, 0, none⟩)), (2, .slice B n d), (3, .slice D m e), (4, .int .i64 club), (5, .int .i64 player), (6, .int .i64 day)])
              (fun k => [Blk bx 28 (partL (regV r.league day s1)), Blk bq 24 (partL (quoV q A c))]) (fun _ => hs3) 0 (by omega) (by (repeat (first | exact trivial | refine ⟨rfl, ?_⟩)); done) (by (repeat (first | exact Takes_nil | (apply Takes_cons; exact (by (repeat (first | exact Take.here | apply Take.there)); done)))); done) rfl ?_
            have hl9 : Le h hs3 := hl6.trans (by first | exact Le.refl _ | assumption | (repeat (first | assumption | (apply Le.trans; assumption))))
            have hy9 : RegAt hs3 s1 y := hy6.le (by first | exact Le.refl _ | assumption | (repeat (first | assumption | (apply Le.trans; assumption))))
            intro k hk ih
            by_cases hkc : k < s1.nc
            · have a3 := hy9.clubs.addrD hkc
              have c3 := hy9.clubs.cellsD 0 hkc
              have hmm := getD_mem 0 (show k < y.clubs.length by omega)
              rw [hyc] at hmm
              have hmc := hmy _ hmm
              rw [← hyc] at hmc
              have hmv := hmq hs3 hl9 s1 (y.clubs.getD k 0) hy9
              generalize y.clubs.getD k 0 = cc at *
              generalize mayE q y l bans cc player day = E at *
              obtain ⟨hE1, hE2⟩ := hmc
              repeat' (first | apply GO_seq | apply GO_skip | apply GO_inBlock | apply GO_block | apply GO_region | apply GOl_nil | (apply GOl_unwanted; exact rfl; exact rfl) | (apply GOl_add; exact rfl; exact rfl; exact rfl; omega; exact rfl; exact rfl) | (apply GOl_pv; exact rfl; exact rfl; exact rfl) | (apply GOl_load; exact rfl; exact Ld_blk rfl (by (repeat (first | exact List.Mem.head _ | apply List.Mem.tail)); done) rfl; exact rfl; exact rfl) | (apply GOl_ov; exact rfl; exact rfl; (first | (apply OV_idxS (j := k); exact rfl; exact rfl; exact rfl; exact rfl; exact rfl; exact a3; (with_reducible exact rfl); omega) | (apply OV_load; exact rfl; exact Lv_ro rfl c3 rfl)); exact (by repeat' (first | exact trivial | apply And.intro | exact List.Mem.head _ | apply List.Mem.tail))) | (apply GOl_to; exact rfl; exact rfl; exact rfl; (first | (apply OpTo_val; exact rfl; exact has7; exact hmv; skip))) | (apply GO_cond; exact rfl; all_goals intro hc; all_goals try simp only [ltI_t, ltI_f, leI_t, leI_f, eqI_t, eqI_f, Bool.not_eq_true', Bool.not_eq_false', decide_eq_true_eq, decide_eq_false_iff_not, reduceCtorEq] at hc; all_goals try (exfalso; omega)) | (apply GOl_split; exact rfl; exact rfl; all_goals intro hc; all_goals try simp only [ltI_t, ltI_f, leI_t, leI_f, eqI_t, eqI_f, Bool.not_eq_true', Bool.not_eq_false', decide_eq_true_eq, decide_eq_false_iff_not, reduceCtorEq] at hc; all_goals try (exfalso; omega)))
              all_goals first | (exfalso; omega) | (have h3 := ih (k + 1) (by omega) (by omega); refine GO_fit (by (repeat (first | exact trivial | refine ⟨rfl, ?_⟩)); done) (by (repeat (first | exact Takes_nil | (apply Takes_cons; exact (by (repeat (first | exact Take.here | apply Take.there)); done)))); done) (h3))
            · clear ih
              repeat' (first | apply GO_seq | apply GO_region | apply GOl_nil | (apply GO_exit; exact rfl) | (apply GOl_pv; exact rfl; exact rfl; exact rfl) | (apply GO_cond; exact rfl; all_goals intro hc; all_goals try simp only [ltI_t, ltI_f, leI_t, leI_f, eqI_t, eqI_f, Bool.not_eq_true', Bool.not_eq_false', decide_eq_true_eq, decide_eq_false_iff_not, reduceCtorEq] at hc; all_goals try (exfalso; omega)) | (apply GO_retV1; exact rfl; exact rfl; exact rfl))
              all_goals first | rfl | (exfalso; omega)
      · have hE2 : ∀ h', Le h h' → Res Tryd.prog 8 #[regV r.league r.day s, entV (enX day player club)] h' (fun v h'' => ∃ s1 ee, v = .tuple #[regV 0 0 s1, .int .i64 ee] ∧ ee ≠ 0) := fun h' hle => Res.mono (hent h' hle) fun v h'' _ hp => by
          obtain ⟨s1, h1, h2⟩ := hp
          unfold regEnter at h1
          rw [if_pos z2, if_neg ha] at h1
          exact ⟨s1, _, h1, ha⟩
        clear hent
        repeat' (first | apply GO_seq | apply GO_region | apply GOl_nil | (apply GO_exit; exact rfl) | (apply GOl_pv; exact rfl; exact rfl; exact rfl) | (apply GOl_load; exact rfl; exact Ld_blk rfl (by (repeat (first | exact List.Mem.head _ | apply List.Mem.tail)); done) rfl; exact rfl; exact rfl) | (apply GOl_to; exact rfl; exact rfl; exact rfl; (first | (apply OpTo_store; exact rfl; exact rfl; exact rfl; exact (by (repeat (first | exact Repl.here | apply Repl.there)); done); exact rfl; exact rfl; exact rfl; skip) | (apply OpTo_alloc; exact rfl; intro b; skip) | (apply OpTo_res; exact rfl; exact has8; exact hE2 _ (by first | exact Le.refl _ | assumption | (repeat (first | assumption | (apply Le.trans; assumption)))); rintro v1 hs1 hle1 ⟨s1, ee, rfl, hee⟩; skip))) | (apply GO_cond; exact rfl; all_goals intro hc; all_goals try simp only [ltI_t, ltI_f, leI_t, leI_f, eqI_t, eqI_f, Bool.not_eq_true', Bool.not_eq_false', decide_eq_true_eq, decide_eq_false_iff_not, reduceCtorEq] at hc; all_goals try (exfalso; omega)) | (apply GO_retV1; exact rfl; exact rfl; exact rfl))
        all_goals first | rfl | (exfalso; omega)
    · generalize mayE q r l bans club player day = E at *
      repeat' (first | apply GO_seq | apply GO_skip | apply GO_region | apply GOl_nil | (apply GOl_pv; exact rfl; exact rfl; exact rfl) | (apply GOl_load; exact rfl; exact Ld_blk rfl (by (repeat (first | exact List.Mem.head _ | apply List.Mem.tail)); done) rfl; exact rfl; exact rfl) | (apply GOl_to; exact rfl; exact rfl; exact rfl; (first | (apply OpTo_box; exact rfl; intro b; skip) | (apply OpTo_val; exact rfl; exact has4; exact sane37_c hS hC _ hG; skip) | (apply OpTo_val; exact rfl; exact has5; exact hfew; skip) | (apply OpTo_val; exact rfl; exact has6; exact hfr; skip) | (apply OpTo_val; exact rfl; exact has7; exact g1; skip))) | (apply GO_cond; exact rfl; all_goals intro hc; all_goals try simp only [ltI_t, ltI_f, leI_t, leI_f, eqI_t, eqI_f, Bool.not_eq_true', Bool.not_eq_false', decide_eq_true_eq, decide_eq_false_iff_not, reduceCtorEq] at hc; all_goals try (exfalso; omega)) | (apply GO_retV1; exact rfl; exact rfl; exact rfl))
      all_goals first | rfl | (simp at hc; done) | (exfalso; omega)
  · by_cases hF1 : q.wins.length ≤ 20 ∧ n ≤ 20 ∧ m ≤ 20
    · rw [decide_eq_true hF1] at hfew
      rw [decide_eq_false (fun hh => hF ⟨hF1, hh⟩)] at hfr
      repeat' (first | apply GO_seq | apply GO_skip | apply GO_region | apply GOl_nil | (apply GOl_unwanted; exact rfl; exact rfl) | (apply GOl_pv; exact rfl; exact rfl; exact rfl) | (apply GOl_load; exact rfl; exact Ld_blk rfl (by (repeat (first | exact List.Mem.head _ | apply List.Mem.tail)); done) rfl; exact rfl; exact rfl) | (apply GOl_to; exact rfl; exact rfl; exact rfl; (first | (apply OpTo_box; exact rfl; intro b; skip) | (apply OpTo_val; exact rfl; exact has4; exact sane37_c hS hC _ hG; skip) | (apply OpTo_val; exact rfl; exact has5; exact hfew; skip) | (apply OpTo_val; exact rfl; exact has6; exact hfr; skip))) | (apply GO_cond; exact rfl; all_goals intro hc; all_goals try simp only [ltI_t, ltI_f, leI_t, leI_f, eqI_t, eqI_f, Bool.not_eq_true', Bool.not_eq_false', decide_eq_true_eq, decide_eq_false_iff_not, reduceCtorEq] at hc; all_goals try (exfalso; omega)) | (apply GO_retV1; exact rfl; exact rfl; exact rfl))
      all_goals first | rfl | (simp at hc; done)
    · rw [decide_eq_false hF1] at hfew
      repeat' (first | apply GO_seq | apply GO_skip | apply GO_region | apply GOl_nil | (apply GOl_unwanted; exact rfl; exact rfl) | (apply GOl_pv; exact rfl; exact rfl; exact rfl) | (apply GOl_load; exact rfl; exact Ld_blk rfl (by (repeat (first | exact List.Mem.head _ | apply List.Mem.tail)); done) rfl; exact rfl; exact rfl) | (apply GOl_to; exact rfl; exact rfl; exact rfl; (first | (apply OpTo_box; exact rfl; intro b; skip) | (apply OpTo_val; exact rfl; exact has4; exact sane37_c hS hC _ hG; skip) | (apply OpTo_val; exact rfl; exact has5; exact hfew; skip))) | (apply GO_cond; exact rfl; all_goals intro hc; all_goals try simp only [ltI_t, ltI_f, leI_t, leI_f, eqI_t, eqI_f, Bool.not_eq_true', Bool.not_eq_false', decide_eq_true_eq, decide_eq_false_iff_not, reduceCtorEq] at hc; all_goals try (exfalso; omega)) | (apply GO_retV1; exact rfl; exact rfl; exact rfl))
      all_goals first | rfl | (simp at hc; done)
end Go.Hw

import Derived.Test.YtajmniiiahhfaaaGreatDoorUR13
import Derived.Test.YtajmniiiahhfaaaGreatDoorUR14
/-
  The reference's sheets: played, Games, Disputes; law09: GamesSpec, walked.
-/
set_option linter.unusedVariables false
set_option linter.unusedSimpArgs false
set_option maxRecDepth 100000
set_option maxHeartbeats 8000000
namespace Go.Hw
open Go
attribute [local irreducible] GO GOl GDp Val Fn Res CellsAt ValE Blk OwnS MapA OwnPf Has Yl RngA
open Go.Proofs (Tryz.prog)
def playL (C : List (Fsh × Fct)) : List FGame := C.foldl (fun o p => if p.2.kind = 3 then insG p.2.sh.g o else o) []
theorem playL_snoc (C : List (Fsh × Fct)) (p : Fsh × Fct) : playL (C ++ [p]) = if p.2.kind = 3 then insG p.2.sh.g (playL C) else playL C := by
  unfold playL; rw [List.foldl_append]; rfl
theorem insG_len {g : FGame} : ∀ {l : List FGame}, (insG g l).length ≤ l.length + 1
  | [] => by simp [insG]
  | y :: r => by
    unfold insG
    split
    · simp
    · split
      · simp
      · have := insG_len (g := g) (l := r); simp; omega
theorem playL_all (C : List (Fsh × Fct)) : (playL C).Pairwise LtG ∧ (playL C).length ≤ C.length ∧ ∀ x, x ∈ playL C ↔ ∃ p ∈ C, p.2.kind = 3 ∧ p.2.sh.g = x := by
  refine snoc_ind (P := fun C => (playL C).Pairwise LtG ∧ (playL C).length ≤ C.length ∧ ∀ x, x ∈ playL C ↔ ∃ p ∈ C, p.2.kind = 3 ∧ p.2.sh.g = x) (by simp [playL]) (fun C p ih => ?_) C
  obtain ⟨h1, h2, h3⟩ := ih
  rw [playL_snoc]
  split
  · rename_i hk
    refine ⟨insG_lt h1, ?_, fun x => ?_⟩
    · have := insG_len (g := p.2.sh.g) (l := playL C); simp; omega
    · rw [insG_mem, h3]
      constructor
      · rintro (e | ⟨q, hq, e⟩)
        · exact ⟨p, by simp, hk, e.symm⟩
        · exact ⟨q, by simp [hq], e⟩
      · rintro ⟨q, hq, e⟩
        rw [List.mem_append, List.mem_singleton] at hq
        rcases hq with hq | rfl
        · exact .inr ⟨q, hq, e⟩
        · exact .inl e.2.symm
  · rename_i hk
    refine ⟨h1, by simp; omega, fun x => ?_⟩
    rw [h3]
    constructor
    · rintro ⟨q, hq, e⟩; exact ⟨q, by simp [hq], e⟩
    · rintro ⟨q, hq, e⟩
      rw [List.mem_append, List.mem_singleton] at hq
      rcases hq with hq | rfl
      · exact ⟨q, hq, e⟩
      · exact absurd e.1 hk
theorem playedR_c (h : Ro) (A : Option Addr) (n c : Nat) (l : List (Fsh × Fct)) (hx : FactsAt h A n l) (hn : n ≤ 65536) : Res Tryz.prog 65 #[.slice A n c] h (fun u h' => ∃ A' c' L, u = .slice A' L.length c' ∧ SlOf gameC 4 h' A' L.length L ∧ L.length ≤ 65536 ∧ L.Pairwise LtG ∧ ∀ x, x ∈ L ↔ ∃ f ∈ cont l, f.kind = 3 ∧ FctOk f ∧ f.sh.g = x) := by
  refine Res_intro (args := [_]) ts_ok Go.Proofs.Tryz.func65 rfl rfl fun w0 X0 => ?_
  have h32 : In32 (fcs l) := In32_of hx.fat
  have hxl := hx.row.len
  repeat' (first | apply GO_seq | apply GO_block | apply GO_region | apply GOl_nil | (apply GOl_pv; (iterate 3 exact rfl)) | (apply GOl_to; (iterate 3 exact rfl); (first | (apply OpTo_res; exact rfl; exact has56; exact canonR_c _ A n c l (hx.le (by first|exact Le.refl _|assumption|(repeat (first|assumption|(apply Le.trans;assumption))))) hn; rintro w1 h1 hle1 ⟨A3, k3, c3, l3, rfl, hL⟩; skip) | (apply OpTo_buildSliceR (cs := []); (iterate 3 exact rfl); exact List.cons_ne_nil _ _; (iterate 4 exact rfl); intro b2 h2 hle2 hcs2; skip))))
  have hlen3 := hL.2.1.row.len
  have hcl := canonL_len h32
  rw [← hL.2.2, List.length_map, List.length_map, hlen3, hxl] at hcl
  have hO : SlOf gameC 4 h2 (some ⟨b2, 0, none⟩) (playL (l3.take 0)).length (playL (l3.take 0)) := SlOf.of_flat (fun _ => rfl) rfl hcs2
  refine GO_loopT (X := Nat × Option Addr × Nat × Ro) (fun x => x.1 ≤ k3 ∧ Le h2 x.2.2.2 ∧ SlOf gameC 4 x.2.2.2 x.2.1 (playL (l3.take x.1)).length (playL (l3.take x.1))) (fun x => k3 - x.1)
    (fun x => [(5, .int .i64 x.1), (4, .slice x.2.1 (playL (l3.take x.1)).length x.2.2.1), (3, .slice A3 k3 c3)]) (fun _ => []) (fun x => x.2.2.2) (0, some ⟨b2, 0, none⟩, 0, h2) ⟨by dsimp only; omega, Le.refl _, hO⟩ (by (repeat (first|exact trivial|refine ⟨rfl, ?_⟩));done) (by (repeat (first | exact Takes_nil | (apply Takes_cons; exact (by (repeat (first|exact Take.here|apply Take.there));done)))); done) rfl ?_
  rintro ⟨i, A4, c4, hh⟩ ⟨hi, hle, hs⟩ ih
  dsimp only at hi hle hs ih ⊢
  by_cases hik : i < k3
  · have a1 := hL.2.1.row.addrD hik
    have cc : CellsAt hh ((addrD A3).add (i * ty73.size)) (encF82 (l3.getD i p0)) := (hL.2.1.row.cellsD p0 hik).le (by first|exact Le.refl _|assumption|(repeat (first|assumption|(apply Le.trans;assumption))))
    have et := take7 p0 hlen3 hik
    generalize l3.getD i p0 = q at *
    have hpn := (playL_all (l3.take i)).2.1
    rw [List.length_take] at hpn
    have esn := playL_snoc (l3.take i) q
    rw [← et] at esn
    by_cases hk : q.2.kind = 3
    · rw [if_pos hk] at esn
      repeat' (first | apply GO_seq | apply GO_skip | apply GO_inBlock | apply GO_block | apply GO_region | apply GOl_nil | (apply GOl_add; (iterate 3 exact rfl); omega; exact rfl; exact rfl) | (apply GOl_pv; (iterate 3 exact rfl)) | (apply GOl_ov; exact rfl; exact rfl; (first | (apply OV_idxS (j := i); (iterate 5 exact rfl); exact a1; (with_reducible exact rfl); omega) | (apply OV_load; exact rfl; first | exact Lv_ro rfl (by assumption) rfl | exact Lv_roF rfl (by assumption) rfl | exact Lv_roF2 rfl (by assumption) rfl | exact Lv_roF3 rfl (by assumption) rfl)); exact (by repeat' (first|exact trivial|apply And.intro|exact List.Mem.head _|apply List.Mem.tail))) | (apply GOl_to; (iterate 3 exact rfl); (first | (apply OpTo_res; exact rfl; exact has96; exact withG_c _ A4 _ c4 (playL (l3.take i)) (hs.le (by first|exact Le.refl _|assumption|(repeat (first|assumption|(apply Le.trans;assumption))))) (by omega) q.2.sh.g; rintro w5 h5 hle5 ⟨A5, c5, rfl, hs5⟩; skip))) | (apply GO_cond; exact rfl; all_goals intro hc; all_goals try simp only [hcS, reduceCtorEq] at hc; all_goals try (exfalso; omega)))
      all_goals (try (exfalso; omega))
      all_goals
        rw [← esn] at hs5
        have h3 := ih (i + 1, A5, c5, h5) ⟨by dsimp only; omega, by dsimp only; exact hle.trans hle5, hs5⟩ (by dsimp only; omega)
        dsimp only at h3
        rw [esn] at h3
        refine GO_fit (by (repeat (first|exact trivial|refine ⟨rfl, ?_⟩));done) (by (repeat (first | exact Takes_nil | (apply Takes_cons; exact (by (repeat (first|exact Take.here|apply Take.there));done)))); done) (h3)
    · rw [if_neg hk] at esn
      repeat' (first | apply GO_seq | apply GO_skip | apply GO_inBlock | apply GO_block | apply GO_region | apply GOl_nil | (apply GOl_add; (iterate 3 exact rfl); omega; exact rfl; exact rfl) | (apply GOl_pv; (iterate 3 exact rfl)) | (apply GOl_ov; exact rfl; exact rfl; (first | (apply OV_idxS (j := i); (iterate 5 exact rfl); exact a1; (with_reducible exact rfl); omega) | (apply OV_load; exact rfl; first | exact Lv_ro rfl (by assumption) rfl | exact Lv_roF rfl (by assumption) rfl | exact Lv_roF2 rfl (by assumption) rfl | exact Lv_roF3 rfl (by assumption) rfl)); exact (by repeat' (first|exact trivial|apply And.intro|exact List.Mem.head _|apply List.Mem.tail))) | (apply GO_cond; exact rfl; all_goals intro hc; all_goals try simp only [hcS, reduceCtorEq] at hc; all_goals try (exfalso; omega)))
      all_goals (try (exfalso; omega))
      all_goals
        have h3 := ih (i + 1, A4, c4, hh) ⟨by dsimp only; omega, hle, by dsimp only; rw [esn]; exact hs⟩ (by dsimp only; omega)
        dsimp only at h3
        rw [esn] at h3
        refine GO_fit (by (repeat (first|exact trivial|refine ⟨rfl, ?_⟩));done) (by (repeat (first | exact Takes_nil | (apply Takes_cons; exact (by (repeat (first|exact Take.here|apply Take.there));done)))); done) (h3)
  · rw [List.take_of_length_le (by omega)] at hs ⊢
    clear ih
    obtain ⟨p1, p2, p3⟩ := playL_all l3
    obtain ⟨q1, q2⟩ := canonL_spec (fcs l) h32
    repeat' (first | apply GO_seq | apply GO_region | apply GOl_nil | (apply GO_exit; exact rfl) | (apply GOl_pv; (iterate 3 exact rfl)) | (apply GO_cond; exact rfl; all_goals intro hc; all_goals try simp only [hcS, reduceCtorEq] at hc; all_goals try (exfalso; omega)))
    all_goals (try (exfalso; omega))
    all_goals
      refine GO_retR1 rfl rfl rfl ⟨A4, c4, playL l3, rfl, hs, by omega, p1, fun x => ?_⟩
      rw [p3]
      constructor
      · rintro ⟨p, hp, e1, e2⟩
        have hm := (q2 p.2).1 (hL.2.2 ▸ List.mem_map.2 ⟨p, hp, rfl⟩)
        exact ⟨p.2, hm.1, e1, hm.2, e2⟩
      · rintro ⟨f, hf, e1, e2, e3⟩
        have hm : f ∈ fcs l3 := hL.2.2.symm ▸ (q2 f).2 ⟨hf, e2⟩
        obtain ⟨p, hp, rfl⟩ := List.mem_map.1 hm
        exact ⟨p, hp, e1, e3⟩
theorem gamesR_c (h : Ro) (A : Option Addr) (n c : Nat) (l : List (Fsh × Fct)) (hx : FactsAt h A n l) (hn : n ≤ 65536) (season comp : Int) : Res Tryz.prog 27 #[.slice A n c, .int .i64 season, .int .i64 comp] h (fun u h' => ∃ A c, u = .slice A (gamesL l season comp).length c ∧ SlOf gameC 4 h' A (gamesL l season comp).length (gamesL l season comp)) := by
  refine Res_intro (args := [_, _, _]) ts_ok Go.Proofs.Tryz.func27 rfl rfl fun w0 X0 => ?_
  repeat' (first | apply GO_seq | apply GO_block | apply GO_region | apply GOl_nil | (apply GOl_pv; (iterate 3 exact rfl)) | (apply GOl_to; (iterate 3 exact rfl); (first | (apply OpTo_buildSliceO (n := 0); (iterate 3 exact rfl); exact List.cons_ne_nil _ _; (iterate 6 exact rfl); intro b1; skip) | (apply OpTo_res; exact rfl; exact has65; exact playedR_c _ A n c l (hx.le (by first|exact Le.refl _|assumption|(repeat (first|assumption|(apply Le.trans;assumption))))) hn; rintro w1 h1 hle1 ⟨A3, c3, L, rfl, hs, hLn, hLp, hLm⟩; skip))))
  obtain ⟨k3, hk3⟩ : ∃ k3, L.length = k3 := ⟨_, rfl⟩
  rw [hk3] at hs hLn ⊢
  refine GO_loopT (X := Nat × Nat × List FGame × Option Addr × Nat × Ro) (fun x => x.1 ≤ k3 ∧ x.2.2.1.length = x.2.1 ∧ x.2.1 ≤ x.1 ∧ Le h1 x.2.2.2.2.2 ∧ x.2.2.1 = (L.take x.1).filter (fun g => decide (g.s = season ∧ g.c = comp))) (fun x => k3 - x.1)
    (fun x => [(9, .int .i64 x.1), (8, .slice A3 k3 c3), (7, .slice x.2.2.2.1 x.2.1 x.2.2.2.2.1), (1, .int .i64 season), (2, .int .i64 comp)])
    (fun x => [OwnS 24 4 (.slice x.2.2.2.1 x.2.1 x.2.2.2.2.1) x.2.1 (x.2.2.1.flatMap gameC)]) (fun x => x.2.2.2.2.2) (0, 0, [], some ⟨b1, 0, none⟩, 0, h1) ⟨by dsimp only; omega, rfl, by dsimp only; omega, Le.refl _, by simp⟩ (by (repeat (first|exact trivial|refine ⟨rfl, ?_⟩));done) (by (repeat (first | exact Takes_nil | (apply Takes_cons; exact (by (repeat (first|exact Take.here|apply Take.there));done)))); done) rfl ?_
  rintro ⟨i, m, o, A4, c4, hh⟩ ⟨hi, hm, hmi, hle, ho⟩ ih
  dsimp only at hi hm hmi hle ho ih ⊢
  by_cases hik : i < k3
  · have a1 := hs.addrD hik
    have cc : CellsAt hh ((addrD A3).add (i * ty24.size)) (gameC (L.getD i game0)) := (hs.cellsD game0 hik).le hle
    have et := take7 game0 hk3 hik
    generalize L.getD i game0 = y at *
    by_cases hP : y.s = season ∧ y.c = comp
    · have e1 : o ++ [y] = (L.take (i + 1)).filter (fun g => decide (g.s = season ∧ g.c = comp)) := by rw [et, List.filter_append, ← ho]; simp [hP]
      repeat' (first | apply GO_seq | apply GO_skip | apply GO_inBlock | apply GO_block | apply GO_region | apply GOl_nil | (apply GOl_add; (iterate 3 exact rfl); omega; exact rfl; exact rfl) | (apply GOl_pv; (iterate 3 exact rfl)) | (apply GOl_ov; exact rfl; exact rfl; (first | (apply OV_idxS (j := i); (iterate 5 exact rfl); exact a1; (with_reducible exact rfl); omega) | (apply OV_load; exact rfl; first | exact Lv_ro rfl (by assumption) rfl | exact Lv_roF rfl (by assumption) rfl | exact Lv_roF2 rfl (by assumption) rfl | exact Lv_roF3 rfl (by assumption) rfl)); exact (by repeat' (first|exact trivial|apply And.intro|exact List.Mem.head _|apply List.Mem.tail))) | (apply GOl_to; (iterate 3 exact rfl); (first | (apply OpTo_buildSliceS (enc := gameC) (n := 1) [y]; (iterate 3 exact rfl); exact List.cons_ne_nil _ _; (iterate 4 exact rfl); exact gameC_len; exact rfl; exact rfl; intro bz2 hz2 hlez2 hs2; skip) | (apply OpTo_appendS (enc := gameC) (n := m) (xs := o) (ys := [y]); (iterate 7 exact rfl); exact (hs2.le (by first|exact Le.refl _|assumption|(repeat (first|assumption|(apply Le.trans;assumption))))); exact gameC_len; exact gameC_one; intro v1; exact (by (repeat (first|exact Repl.here|apply Repl.there));done); omega; exact rfl; intro A2 c2; skip))) | (apply GO_cond; exact rfl; all_goals intro hc; all_goals try simp only [hcS, reduceCtorEq] at hc; all_goals try (exfalso; omega)) | (apply GOl_split; exact rfl; exact rfl; all_goals intro hc; all_goals try simp only [hcS, reduceCtorEq] at hc; all_goals try (exfalso; omega)))
      all_goals (try (exfalso; omega))
      all_goals
        have h3 := ih (i + 1, m + 1, o ++ [y], A2, c2, hz2) ⟨by dsimp only; omega, by simp [hm], by dsimp only; omega, by dsimp only; exact hle.trans (by first|exact Le.refl _|assumption|(repeat (first|assumption|(apply Le.trans;assumption)))), e1⟩ (by dsimp only; omega)
        dsimp only at h3
        refine GO_fit (by (repeat (first|exact trivial|refine ⟨rfl, ?_⟩));done) (by (repeat (first | exact Takes_nil | (apply Takes_cons; exact (by (repeat (first|exact Take.here|apply Take.there));done)))); done) (h3)
    · have e1 : o = (L.take (i + 1)).filter (fun g => decide (g.s = season ∧ g.c = comp)) := by rw [et, List.filter_append, ← ho]; simp [hP]
      repeat' (first | apply GO_seq | apply GO_skip | apply GO_inBlock | apply GO_block | apply GO_region | apply GOl_nil | (apply GOl_unwanted; exact rfl; exact rfl) | (apply GOl_add; (iterate 3 exact rfl); omega; exact rfl; exact rfl) | (apply GOl_pv; (iterate 3 exact rfl)) | (apply GOl_ov; exact rfl; exact rfl; (first | (apply OV_idxS (j := i); (iterate 5 exact rfl); exact a1; (with_reducible exact rfl); omega) | (apply OV_load; exact rfl; first | exact Lv_ro rfl (by assumption) rfl | exact Lv_roF rfl (by assumption) rfl | exact Lv_roF2 rfl (by assumption) rfl | exact Lv_roF3 rfl (by assumption) rfl)); exact (by repeat' (first|exact trivial|apply And.intro|exact List.Mem.head _|apply List.Mem.tail))) | (apply GO_cond; exact rfl; all_goals intro hc; all_goals try simp only [hcS, reduceCtorEq] at hc; all_goals try (exfalso; omega)) | (apply GOl_split; exact rfl; exact rfl; all_goals intro hc; all_goals try simp only [hcS, reduceCtorEq] at hc; all_goals try (exfalso; omega)))
      all_goals (try (exfalso; omega))
      all_goals
        have h3 := ih (i + 1, m, o, A4, c4, hh) ⟨by dsimp only; omega, hm, by dsimp only; omega, by dsimp only; exact hle, e1⟩ (by dsimp only; omega)
        dsimp only at h3
        refine GO_fit (by (repeat (first|exact trivial|refine ⟨rfl, ?_⟩));done) (by (repeat (first | exact Takes_nil | (apply Takes_cons; exact (by (repeat (first|exact Take.here|apply Take.there));done)))); done) (h3)
  · rw [List.take_of_length_le (by omega)] at ho
    clear ih
    have e1 : o = gamesL l season comp := by
      rw [ho]
      refine ltG_ext (List.Pairwise.filter _ hLp) (gamesL_lt l season comp) fun x => ?_
      rw [List.mem_filter, decide_eq_true_eq, hLm, gamesL_mem]
      exact ⟨fun ⟨a, b⟩ => ⟨b.1, b.2, a⟩, fun ⟨a, b, d⟩ => ⟨d, a, b⟩⟩
    repeat' (first | apply GO_seq | apply GO_region | apply GOl_nil | (apply GO_exit; exact rfl) | (apply GOl_pv; (iterate 3 exact rfl)) | (apply GO_cond; exact rfl; all_goals intro hc; all_goals try simp only [hcS, reduceCtorEq] at hc; all_goals try (exfalso; omega)))
    all_goals (try (exfalso; omega))
    all_goals
      refine GO_relS (enc := gameC) (xs := o) gameC_len hm (by (repeat (first|exact Take.here|apply Take.there));done) ?_
      intro A9 c9 h9 hle9 e9 hs9
      injection e9 with e91 _ e93
      subst e91; subst e93
      refine GO_retR1 rfl rfl rfl ?_
      rw [← e1, hm]
      exact ⟨_, _, rfl, hs9⟩
theorem dispute_played {l : List Fct} {g : FGame} (hv : ∀ f ∈ l, f.void.length = 32) (h : (scoreF l g).kind = 3) : ∃ f ∈ l, f.kind = 3 ∧ FctOk f ∧ f.sh.g = g := by
  unfold scoreF at h
  cases ha : bestF l g 0 with
  | none =>
    rw [ha] at h
    cases hb : bestF l g 1 with
    | none => rw [hb] at h; cases h
    | some b =>
      obtain ⟨h1, h2⟩ := bestF_some hv hb
      exact ⟨b, h1, h2.1, h2.2.1, h2.2.2.1⟩
  | some a =>
    obtain ⟨h1, h2⟩ := bestF_some hv ha
    exact ⟨a, h1, h2.1, h2.2.1, h2.2.2.1⟩
theorem disputesR_c (h : Ro) (A : Option Addr) (n c : Nat) (l : List (Fsh × Fct)) (hx : FactsAt h A n l) (hn : n ≤ 65536) : Res Tryz.prog 29 #[.slice A n c] h (fun u h' => ∃ A c, u = .slice A (disputesL l).length c ∧ SlOf gameC 4 h' A (disputesL l).length (disputesL l)) := by
  refine Res_intro (args := [_]) ts_ok Go.Proofs.Tryz.func29 rfl rfl fun w0 X0 => ?_
  have h32 : In32 (fcs l) := In32_of hx.fat
  repeat' (first | apply GO_seq | apply GO_block | apply GO_region | apply GOl_nil | (apply GOl_pv; (iterate 3 exact rfl)) | (apply GOl_to; (iterate 3 exact rfl); (first | (apply OpTo_buildSliceO (n := 0); (iterate 3 exact rfl); exact List.cons_ne_nil _ _; (iterate 6 exact rfl); intro b1; skip) | (apply OpTo_res; exact rfl; exact has65; exact playedR_c _ A n c l (hx.le (by first|exact Le.refl _|assumption|(repeat (first|assumption|(apply Le.trans;assumption))))) hn; rintro w1 h1 hle1 ⟨A3, c3, L, rfl, hs, hLn, hLp, hLm⟩; skip))))
  obtain ⟨k3, hk3⟩ : ∃ k3, L.length = k3 := ⟨_, rfl⟩
  rw [hk3] at hs hLn ⊢
  refine GO_loopT (X := Nat × Nat × List FGame × Option Addr × Nat × Ro) (fun x => x.1 ≤ k3 ∧ x.2.2.1.length = x.2.1 ∧ x.2.1 ≤ x.1 ∧ Le h1 x.2.2.2.2.2 ∧ x.2.2.1 = (L.take x.1).filter (fun g => decide ((scoreF (cont l) g).kind = 3))) (fun x => k3 - x.1)
    (fun x => [(5, .int .i64 x.1), (4, .slice A3 k3 c3), (3, .slice x.2.2.2.1 x.2.1 x.2.2.2.2.1), (0, .slice A n c)])
    (fun x => [OwnS 24 4 (.slice x.2.2.2.1 x.2.1 x.2.2.2.2.1) x.2.1 (x.2.2.1.flatMap gameC)]) (fun x => x.2.2.2.2.2) (0, 0, [], some ⟨b1, 0, none⟩, 0, h1) ⟨by dsimp only; omega, rfl, by dsimp only; omega, Le.refl _, by simp⟩ (by (repeat (first|exact trivial|refine ⟨rfl, ?_⟩));done) (by (repeat (first | exact Takes_nil | (apply Takes_cons; exact (by (repeat (first|exact Take.here|apply Take.there));done)))); done) rfl ?_
  rintro ⟨i, m, o, A4, c4, hh⟩ ⟨hi, hm, hmi, hle, ho⟩ ih
  dsimp only at hi hm hmi hle ho ih ⊢
  by_cases hik : i < k3
  · have a1 := hs.addrD hik
    have cc : CellsAt hh ((addrD A3).add (i * ty24.size)) (gameC (L.getD i game0)) := (hs.cellsD game0 hik).le hle
    have et := take7 game0 hk3 hik
    generalize L.getD i game0 = y at *
    have ksc := fun h' (hl : Le h h') => scoreR_c h' A n c l (hx.le hl) hn y
    by_cases hP : (scoreF (cont l) y).kind = 3
    · have e1 : o ++ [y] = (L.take (i + 1)).filter (fun g => decide ((scoreF (cont l) g).kind = 3)) := by rw [et, List.filter_append, ← ho]; simp [hP]
      repeat' (first | apply GO_seq | apply GO_skip | apply GO_inBlock | apply GO_block | apply GO_region | apply GOl_nil | (apply GOl_add; (iterate 3 exact rfl); omega; exact rfl; exact rfl) | (apply GOl_pv; (iterate 3 exact rfl)) | (apply GOl_ov; exact rfl; exact rfl; (first | (apply OV_idxS (j := i); (iterate 5 exact rfl); exact a1; (with_reducible exact rfl); omega) | (apply OV_load; exact rfl; exact Lv_ro rfl (cc.le (by first|exact Le.refl _|assumption|(repeat (first|assumption|(apply Le.trans;assumption))))) rfl)); exact (by repeat' (first|exact trivial|apply And.intro|exact List.Mem.head _|apply List.Mem.tail))) | (apply GOl_to; (iterate 3 exact rfl); (first | (apply OpTo_res; exact rfl; exact has24; exact ksc _ (by first|exact Le.refl _|assumption|(repeat (first|assumption|(apply Le.trans;assumption)))); rintro w6 h6 hle6 ⟨s6, rfl, hs6, hm6⟩; skip) | (apply OpTo_buildSliceS (enc := gameC) (n := 1) [y]; (iterate 3 exact rfl); exact List.cons_ne_nil _ _; (iterate 4 exact rfl); exact gameC_len; exact rfl; exact rfl; intro bz2 hz2 hlez2 hs2; skip) | (apply OpTo_appendS (enc := gameC) (n := m) (xs := o) (ys := [y]); (iterate 7 exact rfl); exact (hs2.le (by first|exact Le.refl _|assumption|(repeat (first|assumption|(apply Le.trans;assumption))))); exact gameC_len; exact gameC_one; intro v1; exact (by (repeat (first|exact Repl.here|apply Repl.there));done); omega; exact rfl; intro A2 c2; skip))) | (apply GO_cond; exact rfl; all_goals intro hc; all_goals try simp only [hcS, reduceCtorEq] at hc; all_goals try (exfalso; omega)))
      all_goals (try (exfalso; omega))
      all_goals
        have h3 := ih (i + 1, m + 1, o ++ [y], A2, c2, hz2) ⟨by dsimp only; omega, by simp [hm], by dsimp only; omega, by dsimp only; exact hle.trans (by first|exact Le.refl _|assumption|(repeat (first|assumption|(apply Le.trans;assumption)))), e1⟩ (by dsimp only; omega)
        dsimp only at h3
        refine GO_fit (by (repeat (first|exact trivial|refine ⟨rfl, ?_⟩));done) (by (repeat (first | exact Takes_nil | (apply Takes_cons; exact (by (repeat (first|exact Take.here|apply Take.there));done)))); done) (h3)
    · have e1 : o = (L.take (i + 1)).filter (fun g => decide ((scoreF (cont l) g).kind = 3)) := by rw [et, List.filter_append, ← ho]; simp [hP]
      repeat' (first | apply GO_seq | apply GO_skip | apply GO_inBlock | apply GO_block | apply GO_region | apply GOl_nil | (apply GOl_add; (iterate 3 exact rfl); omega; exact rfl; exact rfl) | (apply GOl_pv; (iterate 3 exact rfl)) | (apply GOl_ov; exact rfl; exact rfl; (first | (apply OV_idxS (j := i); (iterate 5 exact rfl); exact a1; (with_reducible exact rfl); omega) | (apply OV_load; exact rfl; exact Lv_ro rfl (cc.le (by first|exact Le.refl _|assumption|(repeat (first|assumption|(apply Le.trans;assumption))))) rfl)); exact (by repeat' (first|exact trivial|apply And.intro|exact List.Mem.head _|apply List.Mem.tail))) | (apply GOl_to; (iterate 3 exact rfl); (first | (apply OpTo_res; exact rfl; exact has24; exact ksc _ (by first|exact Le.refl _|assumption|(repeat (first|assumption|(apply Le.trans;assumption)))); rintro w6 h6 hle6 ⟨s6, rfl, hs6, hm6⟩; skip))) | (apply GO_cond; exact rfl; all_goals intro hc; all_goals try simp only [hcS, reduceCtorEq] at hc; all_goals try (exfalso; omega)))
      all_goals (try (exfalso; omega))
      all_goals
        have h3 := ih (i + 1, m, o, A4, c4, h6) ⟨by dsimp only; omega, hm, by dsimp only; omega, by dsimp only; exact hle.trans (by first|exact Le.refl _|assumption|(repeat (first|assumption|(apply Le.trans;assumption)))), e1⟩ (by dsimp only; omega)
        dsimp only at h3
        refine GO_fit (by (repeat (first|exact trivial|refine ⟨rfl, ?_⟩));done) (by (repeat (first | exact Takes_nil | (apply Takes_cons; exact (by (repeat (first|exact Take.here|apply Take.there));done)))); done) (h3)
  · rw [List.take_of_length_le (by omega)] at ho
    clear ih
    have e1 : o = disputesL l := by
      rw [ho]
      refine ltG_ext (List.Pairwise.filter _ hLp) (disputesL_lt l) fun x => ?_
      rw [List.mem_filter, decide_eq_true_eq, hLm, disputesL_mem]
      exact ⟨fun ⟨a, b⟩ => b, fun b => ⟨dispute_played h32 b, b⟩⟩
    repeat' (first | apply GO_seq | apply GO_region | apply GOl_nil | (apply GO_exit; exact rfl) | (apply GOl_pv; (iterate 3 exact rfl)) | (apply GO_cond; exact rfl; all_goals intro hc; all_goals try simp only [hcS, reduceCtorEq] at hc; all_goals try (exfalso; omega)))
    all_goals (try (exfalso; omega))
    all_goals
      refine GO_relS (enc := gameC) (xs := o) gameC_len hm (by (repeat (first|exact Take.here|apply Take.there));done) ?_
      intro A9 c9 h9 hle9 e9 hs9
      injection e9 with e91 _ e93
      subst e91; subst e93
      refine GO_retR1 rfl rfl rfl ?_
      rw [← e1, hm]
      exact ⟨_, _, rfl, hs9⟩
theorem gamesL_len {h : Ro} {A : Option Addr} {n : Nat} {l : List (Fsh × Fct)} (hx : FactsAt h A n l) (s c : Int) : (gamesL l s c).length ≤ 1000000 := by
  have := pairsL_len hx
  unfold gamesL
  rw [sortG_len]
  unfold keysOf
  rw [List.length_map]
  exact Nat.le_trans (List.length_filter_le _ _) this
theorem disputesL_len {h : Ro} {A : Option Addr} {n : Nat} {l : List (Fsh × Fct)} (hx : FactsAt h A n l) : (disputesL l).length ≤ 1000000 := by
  have := pairsL_len hx
  unfold disputesL
  rw [sortG_len]
  unfold keysOf
  rw [List.length_map]
  exact Nat.le_trans (List.length_filter_le _ _) this
theorem sameGames_t2 (h : Ro) (A : Option Addr) (c : Nat) (L : List FGame) (hx : SlOf gameC 4 h A L.length L) (hn : L.length ≤ 1000000) (B : Option Addr) (d : Nat) (hy : SlOf gameC 4 h B L.length L) : Val Tryz.prog 25 #[.slice A L.length c, .slice B L.length d] h (.bool true) := by
  have := sameGames_c h A L.length c L hx (by omega) B L.length d L hy (by omega)
  rwa [show decide (L = L) = true from decide_eq_true rfl] at this
theorem gamesSpec_law (h : Ro) (hG : PowG h) (A : Option Addr) (n c : Nat) (l : List (Fsh × Fct)) (hx : LedIn h A n c l) (season comp : Int) : Val Tryz.prog 5 #[.slice A n c, .int .i64 season, .int .i64 comp] h (.bool true) := by
  refine Val_intro (args := [_, _, _]) ts_ok Go.Proofs.Tryz.func5 rfl rfl fun w0 X0 => ?_
  have hfew := fewF_c h A n c l hx.row hx.small 14
  have hsane := sane9_c h hG
  by_cases hF : (∀ p ∈ l, SmallS p.1 p.2) ∧ (n : Int) ≤ 14
  · rw [decide_eq_true hF] at hfew
    have hfa := hx.facts hF.2
    have hn14 := hF.2
    clear hF
    have k1 := fun h' (hl : Le h h') => games_c h' (hG.le hl) A n c l (hfa.le hl) season comp
    have k2 := fun h' (hl : Le h h') => gamesR_c h' A n c l (hfa.le hl) (by omega) season comp
    have k3 := fun h' (hl : Le h h') => disputes_c h' (hG.le hl) A n c l (hfa.le hl)
    have k4 := fun h' (hl : Le h h') => disputesR_c h' A n c l (hfa.le hl) (by omega)
    have l1 := gamesL_len hfa season comp
    have l2 := disputesL_len hfa
    generalize gamesL l season comp = G at *
    generalize disputesL l = D at *
    repeat' (first | apply GO_seq | apply GO_skip | apply GO_region | apply GOl_nil | (apply GOl_pv; (iterate 3 exact rfl)) | (apply GOl_to; (iterate 3 exact rfl); (first | (apply OpTo_val; exact rfl; exact has14; exact hsane; skip) | (apply OpTo_val; exact rfl; exact has15; exact hfew; skip) | (apply OpTo_res; exact rfl; exact has26; exact k1 _ (by first|exact Le.refl _|assumption|(repeat (first|assumption|(apply Le.trans;assumption)))); rintro w1 h1 hle1 ⟨A1, c1, rfl, hs1⟩; skip) | (apply OpTo_res; exact rfl; exact has27; exact k2 _ (by first|exact Le.refl _|assumption|(repeat (first|assumption|(apply Le.trans;assumption)))); rintro w2 h2 hle2 ⟨A2, c2, rfl, hs2⟩; skip) | (apply OpTo_res; exact rfl; exact has28; exact k3 _ (by first|exact Le.refl _|assumption|(repeat (first|assumption|(apply Le.trans;assumption)))); rintro w3 h3 hle3 ⟨A3, c3, rfl, hs3⟩; skip) | (apply OpTo_res; exact rfl; exact has29; exact k4 _ (by first|exact Le.refl _|assumption|(repeat (first|assumption|(apply Le.trans;assumption)))); rintro w4 h4 hle4 ⟨A4, c4, rfl, hs4⟩; skip) | (apply OpTo_val; exact rfl; exact has25; exact sameGames_t2 _ A1 c1 G (hs1.le (by first|exact Le.refl _|assumption|(repeat (first|assumption|(apply Le.trans;assumption))))) l1 A2 c2 (hs2.le (by first|exact Le.refl _|assumption|(repeat (first|assumption|(apply Le.trans;assumption))))); skip) | (apply OpTo_val; exact rfl; exact has25; exact sameGames_t2 _ A3 c3 D (hs3.le (by first|exact Le.refl _|assumption|(repeat (first|assumption|(apply Le.trans;assumption))))) l2 A4 c4 (hs4.le (by first|exact Le.refl _|assumption|(repeat (first|assumption|(apply Le.trans;assumption))))); skip))) | (apply GO_cond; exact rfl; all_goals intro hc; all_goals try simp only [hcS, reduceCtorEq] at hc; all_goals try (exfalso; omega)) | (apply GO_retV1; (iterate 3 exact rfl)))
    all_goals first | rfl
  · rw [decide_eq_false hF] at hfew
    repeat' (first | apply GO_seq | apply GO_skip | apply GO_region | apply GOl_nil | (apply GOl_pv; (iterate 3 exact rfl)) | (apply GOl_to; (iterate 3 exact rfl); (first | (apply OpTo_val; exact rfl; exact has14; exact hsane; skip) | (apply OpTo_val; exact rfl; exact has15; exact hfew; skip))) | (apply GO_cond; exact rfl; all_goals intro hc; all_goals try simp only [hcS, reduceCtorEq] at hc; all_goals try (exfalso; omega)) | (apply GO_retV1; (iterate 3 exact rfl)))
    all_goals first | rfl
end Go.Hw

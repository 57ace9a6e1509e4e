import Derived.Test.YtajmniiiahhfaaaGreatDoorUR11
import Derived.Test.YtajmniiiahhfaaaGreatDoorSB
/-
  The reference's sheets: Latest, Score, walked.
-/
set_option linter.unusedVariables false
set_option linter.unusedSimpArgs false
set_option maxRecDepth 100000
set_option maxHeartbeats 8000000
namespace Go.Hw
open Go
attribute [local irreducible] GO GOl GDp Val Fn Res CellsAt ValE Blk OwnS MapA OwnPf Has Yl RngA
open Go.Proofs (Tryz.prog)
def OfP (g : FGame) (r : Int) (p : Fsh × Fct) : Prop := p.2.kind = 3 ∧ p.2.sh.g = g ∧ p.2.sh.ref = r
instance (g : FGame) (r : Int) (p : Fsh × Fct) : Decidable (OfP g r p) := by unfold OfP; infer_instance
def lastP (l : List (Fsh × Fct)) (g : FGame) (r : Int) : Option (Fsh × Fct) := (l.filter fun p => decide (OfP g r p)).getLast?
theorem lastP_snoc (l : List (Fsh × Fct)) (p : Fsh × Fct) (g : FGame) (r : Int) : lastP (l ++ [p]) g r = if OfP g r p then some p else lastP l g r := by
  unfold lastP
  rw [List.filter_append]
  split
  · rename_i h; simp [h]
  · rename_i h; simp [h]
open Classical in
theorem lastP_best {l : List (Fsh × Fct)} {L : List Fct} {g : FGame} {r : Int} (h32 : In32 L) (hl : fcs l = canonL L) : (lastP l g r).map (·.2) = bestF L g r := by
  obtain ⟨q1, q2⟩ := canonL_spec L h32
  have e1 : (lastP l g r).map (·.2) = (selF (canonL L) g r).getLast? := by
    unfold lastP selF
    rw [← List.getLast?_map, ← hl]
    congr 1
    unfold fcs
    rw [List.filter_map]
    congr 1
    refine List.filter_congr fun p hp => ?_
    have ho : FctOk p.2 := ((q2 p.2).1 (hl ▸ List.mem_map.2 ⟨p, hp, rfl⟩)).2
    show decide (OfP g r p) = decide (OfGR g r p.2)
    rw [decide_eq_decide]
    unfold OfP OfGR
    exact ⟨fun ⟨a, b, c⟩ => ⟨a, ho, b, c⟩, fun ⟨a, _, b, c⟩ => ⟨a, b, c⟩⟩
  rw [e1]
  have hs : SortF (selF (canonL L) g r) := sortF_filter q1 _
  refine (great_last hs).uniq (bestF_great h32) fun x => ?_
  rw [selF_mem, selF_mem, q2]
  exact ⟨fun ⟨a, b⟩ => ⟨a.1, b⟩, fun ⟨a, b⟩ => ⟨⟨a, b.2.1⟩, b⟩⟩
theorem lastP_mem {l : List (Fsh × Fct)} {g : FGame} {r : Int} {p : Fsh × Fct} (h : lastP l g r = some p) : p ∈ l := by
  unfold lastP at h
  exact (List.mem_filter.1 (List.mem_of_getLast? h)).1
def oP (o : Option (Fsh × Fct)) : Fsh × Fct := o.getD p0
theorem oP_best {l : List (Fsh × Fct)} {L : List Fct} {g : FGame} {r : Int} (h32 : In32 L) (hl : fcs l = canonL L) : (oP (lastP l g r)).2 = bestD L g r ∧ ((lastP l g r).isSome = decide (bestF L g r ≠ none)) := by
  have := lastP_best (g := g) (r := r) h32 hl
  unfold bestD oP
  rw [← this]
  cases lastP l g r with
  | none => exact ⟨rfl, rfl⟩
  | some p => exact ⟨rfl, rfl⟩
theorem latestR_c (h : Ro) (A : Option Addr) (n c : Nat) (l : List (Fsh × Fct)) (hx : FactsAt h A n l) (hn : n ≤ 65536) (g : FGame) (r : Int) : Res Tryz.prog 18 #[.slice A n c, gameV g, .int .i64 r] h (fun u h' => ∃ s, u = .tuple #[sheetV s (bestD (cont l) g r).sh, .int .i64 (bestD (cont l) g r).day, .bool (decide (bestF (cont l) g r ≠ none))] ∧ ShAt h' s (bestD (cont l) g r).sh ∧ ShSm (bestD (cont l) g r).sh) := by
  refine Res_intro (args := [_, _, _]) ts_ok Go.Proofs.Tryz.func18 rfl rfl fun w0 X0 => ?_
  have h32 : In32 (fcs l) := In32_of hx.fat
  repeat' (first | apply GO_seq | apply GO_block | apply GO_region | apply GOl_nil | (apply GOl_pv; (iterate 3 exact rfl)) | (apply GOl_to; (iterate 3 exact rfl); (first | (apply OpTo_store; (iterate 3 exact rfl); exact (by (repeat (first|exact Repl.here|apply Repl.there));done); (iterate 3 exact rfl); skip) | (apply OpTo_box; exact rfl; intro b; skip) | (apply OpTo_alloc; exact rfl; intro b; skip) | (apply OpTo_res; exact rfl; exact has56; exact canonR_c _ A n c l (hx.le (by first|exact Le.refl _|assumption|(repeat (first|assumption|(apply Le.trans;assumption))))) hn; rintro w1 h1 hle1 ⟨A3, k3, c3, l3, rfl, hL⟩; skip))))
  rename_i b4 b6
  generalize b = b10
  refine GO_loopT (X := Nat × Ro) (fun x => x.1 ≤ k3 ∧ Le h1 x.2) (fun x => k3 - x.1)
    (fun x => [(13, .int .i64 x.1), (12, .bool (lastP (l3.take x.1) g r).isSome), (11, .int .i64 (oP (lastP (l3.take x.1) g r)).2.day), (10, .pointer (some ⟨b10, 0, none⟩)), (9, .slice A3 k3 c3), (6, .pointer (some ⟨b6, 0, none⟩)), (4, .pointer (some ⟨b4, 0, none⟩)), (2, .int .i64 r)])
    (fun x => [Blk b10 28 (sheetC (oP (lastP (l3.take x.1) g r)).1 (oP (lastP (l3.take x.1) g r)).2.sh), Blk b6 28 (sheetC fsh0 sheet0), Blk b4 24 (gameC g)]) (fun x => x.2) (0, h1) ⟨by dsimp only; omega, Le.refl _⟩ (by (repeat (first|exact trivial|refine ⟨rfl, ?_⟩));done) (by (repeat (first | exact Takes_nil | (apply Takes_cons; exact (by (repeat (first|exact Take.here|apply Take.there));done)))); done) rfl ?_
  rintro ⟨i, hh⟩ ⟨hi, hle⟩ ih
  dsimp only at hi hle ih ⊢
  have hlen3 := hL.2.1.row.len
  have hk6 := hL.2.1.small
  by_cases hik : i < k3
  · have a1 := hL.2.1.row.addrD hik
    have cc : CellsAt hh ((addrD A3).add (i * ty73.size)) (encF82 (l3.getD i p0)) := (hL.2.1.row.cellsD p0 hik).le hle
    have et := take7 p0 hlen3 hik
    generalize l3.getD i p0 = q at *
    have hsn := lastP_snoc (l3.take i) q g r
    rw [← et] at hsn
    obtain ⟨o, ho⟩ : ∃ o, o = lastP (l3.take i) g r := ⟨_, rfl⟩
    rw [← ho] at hsn ⊢
    by_cases hP : OfP g r q
    · rw [if_pos hP] at hsn
      obtain ⟨p1, p2, p3⟩ := hP
      repeat' (first | apply GO_seq | apply GO_skip | apply GO_inBlock | apply GO_block | apply GO_region | apply GOl_nil | (apply GOl_add; (iterate 3 exact rfl); omega; exact rfl; exact rfl) | (apply GOl_pv; (iterate 3 exact rfl)) | (apply GOl_ov; exact rfl; exact rfl; (first | (apply OV_idxS (j := i); (iterate 5 exact rfl); exact a1; (with_reducible exact rfl); omega) | (apply OV_load; exact rfl; first | exact Lv_ro rfl (by assumption) rfl | exact Lv_roF rfl (by assumption) rfl | exact Lv_roF2 rfl (by assumption) rfl | exact Lv_roF3 rfl (by assumption) rfl)); exact (by repeat' (first|exact trivial|apply And.intro|exact List.Mem.head _|apply List.Mem.tail))) | (apply GOl_to; (iterate 3 exact rfl); (first | (apply OpTo_store; (iterate 3 exact rfl); exact (by (repeat (first|exact Repl.here|apply Repl.there));done); (iterate 3 exact rfl); skip))) | (apply GO_drawp (n := 8) [0, 1, 2, 3, 4, 5, 6, 7, 8, 9, 10, 11, 12, 13, 14, 15, 16, 17, 18, 19, 20, 21, 22, 23, 24, 25] [(0, 0), (1, 0), (2, 0), (3, 0), (4, 0), (5, 0), (6, 0), (7, 0), (8, 0), (9, 0), (10, 0), (11, 0), (12, 0), (13, 0), (14, 0), (15, 0), (16, 0), (17, 0), (18, 0), (19, 0), (20, 0), (21, 0), (22, 0), (23, 0), (24, 0), (25, 0)]; kernel_rfl) | (apply GP_un; exact rfl; kernel_rfl; exact rfl; exact rfl) | (apply GP_pv; exact rfl; kernel_rfl; (iterate 3 exact rfl)) | (apply GP_loadB; exact rfl; kernel_rfl; (iterate 3 exact rfl); exact (by (repeat (first|exact List.Mem.head _|apply List.Mem.tail));done); exact rfl; exact rfl) | (apply GP_ov; exact rfl; kernel_rfl; exact rfl; exact rfl; (first | (apply OV_eqlS; exact rfl; exact rfl; exact game_eq _ _; kernel_rfl; kernel_rfl) | (apply OV_idxS (j := i); (iterate 5 exact rfl); exact a1; (with_reducible exact rfl); omega) | (apply OV_load; exact rfl; first | exact Lv_ro rfl (by assumption) rfl | exact Lv_roF rfl (by assumption) rfl | exact Lv_roF2 rfl (by assumption) rfl | exact Lv_roF3 rfl (by assumption) rfl)); exact (by repeat' (first|exact trivial|apply And.intro|exact List.Mem.head _|apply List.Mem.tail))) | (apply GP_done; kernel_rfl; exact rfl) | (apply GP_split; (iterate 5 exact rfl); all_goals intro hc; all_goals try simp only [hcS, reduceCtorEq] at hc; all_goals try (exfalso; omega)) | (apply GO_cond; exact rfl; all_goals intro hc; all_goals try simp only [hcS, reduceCtorEq] at hc; all_goals try (exfalso; omega)))
      all_goals first
        | (exfalso; omega)
        | contradiction
        | (have h3 := ih (i + 1, hh) ⟨by dsimp only; omega, hle⟩ (by dsimp only; omega)
           dsimp only at h3
           rw [hsn] at h3
           refine GO_fit (by (repeat (first|exact trivial|refine ⟨rfl, ?_⟩));done) (by (repeat (first | exact Takes_nil | (apply Takes_cons; exact (by (repeat (first|exact Take.here|apply Take.there));done)))); done) (h3))
       
    · rw [if_neg hP] at hsn
      have hP2 : ¬ (q.2.kind = 3 ∧ q.2.sh.g = g ∧ q.2.sh.ref = r) := hP
      repeat' (first | apply GO_seq | apply GO_skip | apply GO_inBlock | apply GO_block | apply GO_region | apply GOl_nil | (apply GOl_add; (iterate 3 exact rfl); omega; exact rfl; exact rfl) | (apply GOl_pv; (iterate 3 exact rfl)) | (apply GOl_ov; exact rfl; exact rfl; (first | (apply OV_idxS (j := i); (iterate 5 exact rfl); exact a1; (with_reducible exact rfl); omega) | (apply OV_load; exact rfl; first | exact Lv_ro rfl (by assumption) rfl | exact Lv_roF rfl (by assumption) rfl | exact Lv_roF2 rfl (by assumption) rfl | exact Lv_roF3 rfl (by assumption) rfl)); exact (by repeat' (first|exact trivial|apply And.intro|exact List.Mem.head _|apply List.Mem.tail))) | (apply GOl_to; (iterate 3 exact rfl); (first | (apply OpTo_store; (iterate 3 exact rfl); exact (by (repeat (first|exact Repl.here|apply Repl.there));done); (iterate 3 exact rfl); skip))) | (apply GO_drawp (n := 8) [0, 1, 2, 3, 4, 5, 6, 7, 8, 9, 10, 11, 12, 13, 14, 15, 16, 17, 18, 19, 20, 21, 22, 23, 24, 25] [(0, 0), (1, 0), (2, 0), (3, 0), (4, 0), (5, 0), (6, 0), (7, 0), (8, 0), (9, 0), (10, 0), (11, 0), (12, 0), (13, 0), (14, 0), (15, 0), (16, 0), (17, 0), (18, 0), (19, 0), (20, 0), (21, 0), (22, 0), (23, 0), (24, 0), (25, 0)]; kernel_rfl) | (apply GP_un; exact rfl; kernel_rfl; exact rfl; exact rfl) | (apply GP_pv; exact rfl; kernel_rfl; (iterate 3 exact rfl)) | (apply GP_loadB; exact rfl; kernel_rfl; (iterate 3 exact rfl); exact (by (repeat (first|exact List.Mem.head _|apply List.Mem.tail));done); exact rfl; exact rfl) | (apply GP_ov; exact rfl; kernel_rfl; exact rfl; exact rfl; (first | (apply OV_eqlS; exact rfl; exact rfl; exact game_eq _ _; kernel_rfl; kernel_rfl) | (apply OV_idxS (j := i); (iterate 5 exact rfl); exact a1; (with_reducible exact rfl); omega) | (apply OV_load; exact rfl; first | exact Lv_ro rfl (by assumption) rfl | exact Lv_roF rfl (by assumption) rfl | exact Lv_roF2 rfl (by assumption) rfl | exact Lv_roF3 rfl (by assumption) rfl)); exact (by repeat' (first|exact trivial|apply And.intro|exact List.Mem.head _|apply List.Mem.tail))) | (apply GP_done; kernel_rfl; exact rfl) | (apply GP_split; (iterate 5 exact rfl); all_goals intro hc; all_goals try simp only [hcS, reduceCtorEq] at hc; all_goals try (exfalso; omega)) | (apply GO_cond; exact rfl; all_goals intro hc; all_goals try simp only [hcS, reduceCtorEq] at hc; all_goals try (exfalso; omega)))
      all_goals first
        | (exfalso; omega)
        | contradiction
        | (exfalso; exact hP2 ⟨by assumption, by assumption, by assumption⟩)
        | (have h3 := ih (i + 1, hh) ⟨by dsimp only; omega, hle⟩ (by dsimp only; omega)
           dsimp only at h3
           rw [hsn] at h3
           refine GO_fit (by (repeat (first|exact trivial|refine ⟨rfl, ?_⟩));done) (by (repeat (first | exact Takes_nil | (apply Takes_cons; exact (by (repeat (first|exact Take.here|apply Take.there));done)))); done) (h3))
       
  · rw [List.take_of_length_le (by omega)]
    clear ih
    have e9 := oP_best (g := g) (r := r) h32 hL.2.2
    have hsat : ShAt hh (oP (lastP l3 g r)).1 (oP (lastP l3 g r)).2.sh ∧ ShSm (oP (lastP l3 g r)).2.sh := by
      unfold oP
      cases ho : lastP l3 g r with
      | none => exact ⟨ShAt.nil _, ShSm.nil⟩
      | some p => have hg := (hL.2.1.good p (lastP_mem ho)); exact ⟨(hg.1.le hle).sh, hg.2.1.1⟩
    rw [e9.1] at hsat
    obtain ⟨s9, hs9⟩ : ∃ s, s = (oP (lastP l3 g r)).1 := ⟨_, rfl⟩
    rw [e9.1, e9.2, ← hs9]
    rw [← hs9] at hsat
    repeat' (first | apply GO_seq | apply GO_region | apply GOl_nil | (apply GO_exit; exact rfl) | (apply GOl_pv; (iterate 3 exact rfl)) | (apply GOl_load; exact rfl; exact Ld_blk rfl (by (repeat (first|exact List.Mem.head _|apply List.Mem.tail));done) rfl; exact rfl; exact rfl) | (apply GOl_to; (iterate 3 exact rfl); (first | (apply OpTo_store; (iterate 3 exact rfl); exact (by (repeat (first|exact Repl.here|apply Repl.there));done); (iterate 3 exact rfl); skip))) | (apply GO_cond; exact rfl; all_goals intro hc; all_goals try simp only [hcS, reduceCtorEq] at hc; all_goals try (exfalso; omega)))
    exact GO_retRC3 rfl rfl rfl (by (repeat (first|exact List.Mem.head _|apply List.Mem.tail));done) rfl rfl rfl rfl ⟨s9, rfl, hsat.1, hsat.2⟩
theorem scoreO_eq (a b : Option Fct) : scoreO a b = if a ≠ none ∧ b ≠ none then (if SameSh (a.getD fct0).sh (b.getD fct0).sh then ⟨2, (a.getD fct0).sh, max (a.getD fct0).day (b.getD fct0).day⟩ else ⟨3, sheet0, max (a.getD fct0).day (b.getD fct0).day⟩) else if a ≠ none then ⟨1, (a.getD fct0).sh, (a.getD fct0).day⟩ else if b ≠ none then ⟨1, (b.getD fct0).sh, (b.getD fct0).day⟩ else score0 := by
  cases a <;> cases b <;> simp [scoreO]
theorem scoreR_c (h : Ro) (A : Option Addr) (n c : Nat) (l : List (Fsh × Fct)) (hx : FactsAt h A n l) (hn : n ≤ 65536) (g : FGame) : Res Tryz.prog 24 #[.slice A n c, gameV g] h (fun u h' => ∃ s, u = scoreV s (scoreF (cont l) g) ∧ ShAt h' s (scoreF (cont l) g).sh ∧ ShSm (scoreF (cont l) g).sh) := by
  refine Res_intro (args := [_, _]) ts_ok Go.Proofs.Tryz.func24 rfl rfl fun w0 X0 => ?_
  have hsc := scoreO_eq (bestF (cont l) g 0) (bestF (cont l) g 1)
  have k0 := fun h' (hl : Le h h') => latestR_c h' A n c l (hx.le hl) hn g 0
  have k1 := fun h' (hl : Le h h') => latestR_c h' A n c l (hx.le hl) hn g 1
  unfold scoreF
  unfold bestD at k0 k1
  generalize bestF (cont l) g 0 = a at *
  generalize bestF (cont l) g 1 = b at *
  rw [hsc]
  clear hsc
  obtain ⟨x, hx0⟩ : ∃ x, x = a.getD fct0 := ⟨_, rfl⟩
  obtain ⟨y, hy0⟩ : ∃ y, y = b.getD fct0 := ⟨_, rfl⟩
  rw [← hx0, ← hy0]
  rw [← hx0] at k0
  rw [← hy0] at k1
  clear hx0 hy0
  by_cases ha : a ≠ none
  · rw [decide_eq_true ha] at k0
    by_cases hb : b ≠ none
    · rw [decide_eq_true hb] at k1
      rw [if_pos ⟨ha, hb⟩]
      by_cases hS : SameSh x.sh y.sh
      · rw [if_pos hS]
        repeat' (first | apply GO_seq | apply GO_block | apply GO_region | apply GOl_nil | (apply GOl_pv; (iterate 3 exact rfl)) | (apply GOl_load; exact rfl; exact Ld_blk rfl (by (repeat (first|exact List.Mem.head _|apply List.Mem.tail));done) rfl; exact rfl; exact rfl) | (apply GOl_to; (iterate 3 exact rfl); (first | (apply OpTo_store; (iterate 3 exact rfl); exact (by (repeat (first|exact Repl.here|apply Repl.there));done); (iterate 3 exact rfl); skip) | (apply OpTo_box; exact rfl; intro b; skip) | (apply OpTo_alloc; exact rfl; intro b; skip) | (apply OpTo_res; exact rfl; exact has18; exact k0 _ (by first|exact Le.refl _|assumption|(repeat (first|assumption|(apply Le.trans;assumption)))); rintro w1 h1 hle1 ⟨s1, rfl, hs1, hm1⟩; skip) | (apply OpTo_res; exact rfl; exact has18; exact k1 _ (by first|exact Le.refl _|assumption|(repeat (first|assumption|(apply Le.trans;assumption)))); rintro w2 h2 hle2 ⟨s2, rfl, hs2, hm2⟩; skip) | (apply OpTo_val; exact rfl; exact has21; exact (by have := sameSh9_c _ s1 x.sh (hs1.le (by first|exact Le.refl _|assumption|(repeat (first|assumption|(apply Le.trans;assumption))))) hm1 s2 y.sh hs2 hm2; rwa [decide_eq_true hS] at this); skip))) | (apply GO_cond; exact rfl; all_goals intro hc; all_goals try simp only [hcS, reduceCtorEq] at hc; all_goals try (exfalso; omega)))
        all_goals first
          | (exact GO_retRC1 rfl rfl rfl (by (repeat (first|exact List.Mem.head _|apply List.Mem.tail));done) rfl rfl ⟨s1, rfl, hs1.le (by first|exact Le.refl _|assumption|(repeat (first|assumption|(apply Le.trans;assumption)))), hm1⟩)
          | (exfalso; simp at *; done)
         
      · rw [if_neg hS]
        repeat' (first | apply GO_seq | apply GO_block | apply GO_region | apply GOl_nil | (apply GOl_pv; (iterate 3 exact rfl)) | (apply GOl_load; exact rfl; exact Ld_blk rfl (by (repeat (first|exact List.Mem.head _|apply List.Mem.tail));done) rfl; exact rfl; exact rfl) | (apply GOl_to; (iterate 3 exact rfl); (first | (apply OpTo_store; (iterate 3 exact rfl); exact (by (repeat (first|exact Repl.here|apply Repl.there));done); (iterate 3 exact rfl); skip) | (apply OpTo_box; exact rfl; intro b; skip) | (apply OpTo_alloc; exact rfl; intro b; skip) | (apply OpTo_res; exact rfl; exact has18; exact k0 _ (by first|exact Le.refl _|assumption|(repeat (first|assumption|(apply Le.trans;assumption)))); rintro w1 h1 hle1 ⟨s1, rfl, hs1, hm1⟩; skip) | (apply OpTo_res; exact rfl; exact has18; exact k1 _ (by first|exact Le.refl _|assumption|(repeat (first|assumption|(apply Le.trans;assumption)))); rintro w2 h2 hle2 ⟨s2, rfl, hs2, hm2⟩; skip) | (apply OpTo_val; exact rfl; exact has21; exact (by have := sameSh9_c _ s1 x.sh (hs1.le (by first|exact Le.refl _|assumption|(repeat (first|assumption|(apply Le.trans;assumption))))) hm1 s2 y.sh hs2 hm2; rwa [decide_eq_false hS] at this); skip))) | (apply GO_cond; exact rfl; all_goals intro hc; all_goals try simp only [hcS, reduceCtorEq] at hc; all_goals try (exfalso; omega)))
        all_goals first
          | (exact GO_retRC1 rfl rfl rfl (by (repeat (first|exact List.Mem.head _|apply List.Mem.tail));done) rfl rfl ⟨fsh0, rfl, ShAt.nil _, ShSm.nil⟩)
          | (exfalso; simp at *; done)
         
    · rw [decide_eq_false hb] at k1
      rw [if_neg (fun w => hb w.2), if_pos ha]
      repeat' (first | apply GO_seq | apply GO_block | apply GO_region | apply GOl_nil | (apply GOl_unwanted; exact rfl; exact rfl) | (apply GOl_pv; (iterate 3 exact rfl)) | (apply GOl_load; exact rfl; exact Ld_blk rfl (by (repeat (first|exact List.Mem.head _|apply List.Mem.tail));done) rfl; exact rfl; exact rfl) | (apply GOl_to; (iterate 3 exact rfl); (first | (apply OpTo_store; (iterate 3 exact rfl); exact (by (repeat (first|exact Repl.here|apply Repl.there));done); (iterate 3 exact rfl); skip) | (apply OpTo_box; exact rfl; intro b; skip) | (apply OpTo_alloc; exact rfl; intro b; skip) | (apply OpTo_res; exact rfl; exact has18; exact k0 _ (by first|exact Le.refl _|assumption|(repeat (first|assumption|(apply Le.trans;assumption)))); rintro w1 h1 hle1 ⟨s1, rfl, hs1, hm1⟩; skip) | (apply OpTo_res; exact rfl; exact has18; exact k1 _ (by first|exact Le.refl _|assumption|(repeat (first|assumption|(apply Le.trans;assumption)))); rintro w2 h2 hle2 ⟨s2, rfl, hs2, hm2⟩; skip))) | (apply GO_cond; exact rfl; all_goals intro hc; all_goals try simp only [hcS, reduceCtorEq] at hc; all_goals try (exfalso; omega)))
      all_goals first
        | (exact GO_retRC1 rfl rfl rfl (by (repeat (first|exact List.Mem.head _|apply List.Mem.tail));done) rfl rfl ⟨s1, rfl, hs1.le (by first|exact Le.refl _|assumption|(repeat (first|assumption|(apply Le.trans;assumption)))), hm1⟩)
        | (exfalso; simp at *; done)
       
  · rw [decide_eq_false ha] at k0
    by_cases hb : b ≠ none
    · rw [decide_eq_true hb] at k1
      rw [if_neg (fun w => ha w.1), if_neg ha, if_pos hb]
      repeat' (first | apply GO_seq | apply GO_block | apply GO_region | apply GOl_nil | (apply GOl_unwanted; exact rfl; exact rfl) | (apply GOl_pv; (iterate 3 exact rfl)) | (apply GOl_load; exact rfl; exact Ld_blk rfl (by (repeat (first|exact List.Mem.head _|apply List.Mem.tail));done) rfl; exact rfl; exact rfl) | (apply GOl_to; (iterate 3 exact rfl); (first | (apply OpTo_store; (iterate 3 exact rfl); exact (by (repeat (first|exact Repl.here|apply Repl.there));done); (iterate 3 exact rfl); skip) | (apply OpTo_box; exact rfl; intro b; skip) | (apply OpTo_alloc; exact rfl; intro b; skip) | (apply OpTo_res; exact rfl; exact has18; exact k0 _ (by first|exact Le.refl _|assumption|(repeat (first|assumption|(apply Le.trans;assumption)))); rintro w1 h1 hle1 ⟨s1, rfl, hs1, hm1⟩; skip) | (apply OpTo_res; exact rfl; exact has18; exact k1 _ (by first|exact Le.refl _|assumption|(repeat (first|assumption|(apply Le.trans;assumption)))); rintro w2 h2 hle2 ⟨s2, rfl, hs2, hm2⟩; skip))) | (apply GO_cond; exact rfl; all_goals intro hc; all_goals try simp only [hcS, reduceCtorEq] at hc; all_goals try (exfalso; omega)))
      all_goals first
        | (exact GO_retRC1 rfl rfl rfl (by (repeat (first|exact List.Mem.head _|apply List.Mem.tail));done) rfl rfl ⟨s2, rfl, hs2.le (by first|exact Le.refl _|assumption|(repeat (first|assumption|(apply Le.trans;assumption)))), hm2⟩)
        | (exfalso; simp at *; done)
       
    · rw [decide_eq_false hb] at k1
      rw [if_neg (fun w => ha w.1), if_neg ha, if_neg hb]
      repeat' (first | apply GO_seq | apply GO_skip | apply GO_inBlock | apply GO_block | apply GO_region | apply GOl_nil | (apply GOl_unwanted; exact rfl; exact rfl) | (apply GOl_pv; (iterate 3 exact rfl)) | (apply GOl_load; exact rfl; exact Ld_blk rfl (by (repeat (first|exact List.Mem.head _|apply List.Mem.tail));done) rfl; exact rfl; exact rfl) | (apply GOl_to; (iterate 3 exact rfl); (first | (apply OpTo_store; (iterate 3 exact rfl); exact (by (repeat (first|exact Repl.here|apply Repl.there));done); (iterate 3 exact rfl); skip) | (apply OpTo_box; exact rfl; intro b; skip) | (apply OpTo_alloc; exact rfl; intro b; skip) | (apply OpTo_res; exact rfl; exact has18; exact k0 _ (by first|exact Le.refl _|assumption|(repeat (first|assumption|(apply Le.trans;assumption)))); rintro w1 h1 hle1 ⟨s1, rfl, hs1, hm1⟩; skip) | (apply OpTo_res; exact rfl; exact has18; exact k1 _ (by first|exact Le.refl _|assumption|(repeat (first|assumption|(apply Le.trans;assumption)))); rintro w2 h2 hle2 ⟨s2, rfl, hs2, hm2⟩; skip))) | (apply GO_cond; exact rfl; all_goals intro hc; all_goals try simp only [hcS, reduceCtorEq] at hc; all_goals try (exfalso; omega)))
      all_goals first
        | (exact GO_retRC1 rfl rfl rfl (by (repeat (first|exact List.Mem.head _|apply List.Mem.tail));done) rfl rfl ⟨fsh0, rfl, ShAt.nil _, ShSm.nil⟩)
        | (exfalso; simp at *; done)
       
end Go.Hw

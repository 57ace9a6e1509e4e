import Derived.Test.YtekcphgpmihmlaaGreatDoorSB
import Derived.Test.YtekcphgpmihmlaaGreatDoorHB
/-
  The law SheetsOrder, walked.
-/
set_option linter.unusedVariables false
set_option linter.unusedSimpArgs false
set_option maxRecDepth 100000
set_option maxHeartbeats 4000000
namespace Go.Hw
open Go
attribute [local irreducible] GO GOl GDp Val Fn Res CellsAt ValE Blk OwnS MapA OwnPf Has Yl RngA
open Go.Proofs (Tryz.prog)

theorem FSm_of {h : Ro} {s : Fsh} {f : Fct} (hf : FAt h s f) (hs : SmallS s f) : FSm f := by
  have h1 := hf.sh.hs.len; have h2 := hf.sh.asn.len; have h3 := hf.sh.hc.len; have h4 := hf.sh.ac.len; have h5 := hf.cl.len; have h6 := hf.lo.len
  unfold SmallS at hs
  exact ⟨⟨by omega, by omega, by omega, by omega⟩, by omega, by omega, by omega⟩
theorem factsOf {h : Ro} {A : Option Addr} {n : Nat} {l : List (Fsh × Fct)} (hx : SlOf encF82 82 h A n l) (hf : ∀ p ∈ l, FAt h p.1 p.2) (hs : ∀ p ∈ l, SmallS p.1 p.2) (hn : n ≤ 1000000) : FactsAt h A n l :=
  ⟨hx, fun p hp => ⟨hf p hp, FSm_of (hf p hp) (hs p hp)⟩, hn⟩
theorem FactsAt.sub {h h' : Ro} {A B : Option Addr} {n m : Nat} {l r : List (Fsh × Fct)} (hx : FactsAt h A n l) (hl : Le h h') (hr : SlOf encF82 82 h' B m r) (hs : ∀ p ∈ r, p ∈ l) (hm : m ≤ 1000000) : FactsAt h' B m r :=
  ⟨hr, fun p hp => ⟨(hx.fat p (hs p hp)).1.le hl, (hx.fat p (hs p hp)).2⟩, hm⟩
open Classical in
/-- The valid sheets of a game. -/
noncomputable def ownL (g : FGame) (l : List (Fsh × Fct)) : List (Fsh × Fct) := (l.filter fun p => decide (FctOk p.2 ∧ p.2.kind = 3 ∧ p.2.sh.g = g)).reverse
open Classical in
theorem ownL_mem {g : FGame} {l : List (Fsh × Fct)} {p : Fsh × Fct} : p ∈ ownL g l ↔ p ∈ l ∧ FctOk p.2 ∧ p.2.kind = 3 ∧ p.2.sh.g = g := by
  unfold ownL; rw [List.mem_reverse, List.mem_filter, decide_eq_true_eq]
open Classical in
theorem ownL_yes {g : FGame} {l : List (Fsh × Fct)} {p : Fsh × Fct} (h : FctOk p.2 ∧ p.2.kind = 3 ∧ p.2.sh.g = g) : ownL g (p :: l) = ownL g l ++ [p] := by
  unfold ownL; rw [List.filter_cons, if_pos (by rw [decide_eq_true_eq]; exact h), List.reverse_cons]
open Classical in
theorem ownL_no {g : FGame} {l : List (Fsh × Fct)} {p : Fsh × Fct} (h : ¬ (FctOk p.2 ∧ p.2.kind = 3 ∧ p.2.sh.g = g)) : ownL g (p :: l) = ownL g l := by
  unfold ownL; rw [List.filter_cons, if_neg (by rw [decide_eq_true_eq]; exact h)]
theorem cont_mem {l : List (Fsh × Fct)} {f : Fct} : f ∈ cont l ↔ ∃ s, (s, f) ∈ l := by
  unfold cont
  rw [List.mem_map]
  exact ⟨fun ⟨p, h, e⟩ => ⟨p.1, by rw [← e]; exact h⟩, fun ⟨s, h⟩ => ⟨(s, f), h, rfl⟩⟩
theorem scoreF_ext {a b : List Fct} {g : FGame} (ha : ∀ f ∈ a, f.void.length = 32) (hb : ∀ f ∈ b, f.void.length = 32) (h : ∀ x, FctOk x → x.kind = 3 → x.sh.g = g → (x ∈ a ↔ x ∈ b)) : scoreF a g = scoreF b g := by
  unfold scoreF
  rw [bestF_ext ha hb fun x ho => h x ho.2.1 ho.1 ho.2.2.1, bestF_ext ha hb fun x ho => h x ho.2.1 ho.1 ho.2.2.1]
theorem scoreF_zero {l : List Fct} {g : FGame} (h : ∀ f ∈ l, ¬ (FctOk f ∧ f.kind = 3 ∧ f.sh.g = g)) (hv : ∀ f ∈ l, f.void.length = 32) : (scoreF l g).kind = 0 := by
  unfold scoreF
  rw [(bestF_none hv).2 fun f hf ho => h f hf ⟨ho.2.1, ho.1, ho.2.2.1⟩, (bestF_none hv).2 fun f hf ho => h f hf ⟨ho.2.1, ho.1, ho.2.2.1⟩]
  rfl

theorem disputesL_len {h : Ro} {A : Option Addr} {n : Nat} {l : List (Fsh × Fct)} (hx : FactsAt h A n l) : (disputesL l).length ≤ 1000000000 := by
  have h1 := pairsL_len hx
  have h2 : (disputesL l).length ≤ (pairsL l).length := by
    unfold disputesL
    rw [sortG_len]
    unfold keysOf
    rw [List.length_map]
    exact List.length_filter_le _ _
  omega

theorem sameScore_t (h : Ro) (s : Fsh) (x : FScore) (hx : ShAt h s x.sh) (hxs : ShSm x.sh) (t : Fsh) (hy : ShAt h t x.sh) : Val Tryz.prog 17 #[scoreV s x, scoreV t x] h (.bool true) := by
  have := sameScore_c h s x hx hxs t x hy hxs
  rwa [show decide (x = x) = true from decide_eq_true rfl] at this
theorem sameGames_t (h : Ro) (A : Option Addr) (n c : Nat) (l : List FGame) (hx : SlOf gameC 4 h A n l) (hn : n ≤ 1000000000) (B : Option Addr) (m d : Nat) (hy : SlOf gameC 4 h B m l) (hm : m ≤ 1000000000) : Val Tryz.prog 20 #[.slice A n c, .slice B m d] h (.bool true) := by
  have := sameGames_c h A n c l hx hn B m d l hy hm
  rwa [show decide (l = l) = true from decide_eq_true rfl] at this


theorem order9_c (h : Ro) (hG : PowG h) (A : Option Addr) (n c : Nat) (l : List (Fsh × Fct)) (hx : SlOf encF82 82 h A n l) (hf : ∀ p ∈ l, FAt h p.1 p.2) (hn : n ≤ 9223372036854775807) (hnc : n ≤ c) (g : FGame) (ix : Int) (hix : 0 ≤ ix) : Val Tryz.prog 6 #[.slice A n c, gameV g, .int .u64 ix] h (.bool true) := by
  refine Val_intro (args := [_, _, _]) ts_ok Go.Proofs.Tryz.func6 rfl rfl fun w0 X0 => ?_
  have hfew := fewF_c h A n c l hx hn 12
  have hsane := sane9_c h hG
  by_cases hF : (∀ p ∈ l, SmallS p.1 p.2) ∧ (n : Int) ≤ 12
  · rw [decide_eq_true hF] at hfew
    by_cases hn0 : n = 0
    · repeat' (first | apply GO_seq | apply GO_skip | apply GO_region | apply GOl_nil | (apply GOl_pv; exact rfl; exact rfl; exact rfl) | (apply GOl_to; exact rfl; exact rfl; exact rfl; (first | (apply OpTo_box; exact rfl; intro b; skip) | (apply OpTo_val; exact rfl; exact has9; exact hsane; skip) | (apply OpTo_val; exact rfl; exact has10; exact hfew; skip))) | (apply GO_cond; exact rfl; all_goals intro hc; all_goals try simp only [ltI_t, ltI_f, leI_t, leI_f, eqI_t, eqI_f, Bool.not_eq_true', Bool.not_eq_false', decide_eq_true_eq, decide_eq_false_iff_not, reduceCtorEq] at hc; all_goals try (exfalso; omega)) | (apply GO_retV1; exact rfl; exact rfl; exact rfl))
      all_goals first | rfl | (exfalso; omega)
    · have hfa := factsOf hx hf hF.1 (by omega)
      have hn12 : n ≤ 12 := by omega
      clear hF hn hf
      have hlen := hx.len
      have hlow := fun i (hi : i ≤ n) => hx.low (lo := i) (c := c) hi hnc
      have hhigh := fun i (hi : i ≤ n) => hx.high (hi := i) (c := c) hi hnc
      have hadr := fun i (hi : i < n) => hx.addrD hi
      have hcel := fun i (hi : i < n) => hx.cellsD p0 hi
      repeat' (first | apply GO_seq | apply GO_skip | apply GO_block | apply GO_region | apply GOl_nil | (apply GOl_convU; exact rfl; exact rfl; exact rfl; omega; exact rfl; exact rfl) | (apply GOl_conv; exact rfl; exact rfl; exact rfl; omega; exact rfl; exact rfl) | (apply GOl_remU; exact rfl; exact rfl; exact rfl; omega; exact rfl; exact rfl; intro i hi) | (apply GOl_sub; exact rfl; exact rfl; exact rfl; omega; exact rfl; exact rfl) | (apply GOl_pv; exact rfl; exact rfl; exact rfl) | (apply GOl_to; exact rfl; exact rfl; exact rfl; (first | (apply OpTo_box; exact rfl; intro b; skip) | (apply OpTo_val; exact rfl; exact has9; exact hsane; skip) | (apply OpTo_val; exact rfl; exact has10; exact hfew; skip) | (apply OpTo_buildSliceO (n := 0); exact rfl; exact rfl; exact rfl; exact List.cons_ne_nil _ _; exact rfl; exact rfl; exact rfl; exact rfl; exact rfl; exact rfl; intro b1; skip))) | (apply GO_drawp (n := 6) [0, 1, 2, 3, 4, 5, 6, 7, 8, 9, 10, 11, 12, 13, 14, 15] [(1, 0), (2, 0), (3, 0), (5, 0), (6, 0), (7, 0), (9, 0), (10, 0), (11, 0), (12, 0), (0, 2), (14, 13), (4, 2), (8, 13), (8, 2), (3, 13), (13, 1), (14, 1), (15, 0), (8, 1), (14, 1), (15, 0), (4, 1), (8, 1), (14, 1), (15, 0), (0, 1), (4, 1), (8, 1), (14, 1), (15, 0)]; kernel_rfl) | (apply GP_pv; exact rfl; kernel_rfl; exact rfl; exact rfl; exact rfl) | (apply GP_ov; exact rfl; kernel_rfl; exact rfl; exact rfl; (first | (apply OV_sliceLo (lo := i) (n := n) (c := c); exact rfl; exact rfl; exact rfl; exact rfl; exact rfl; exact rfl; omega) | (apply OV_sliceHi (hi := i) (n := n) (c := c); exact rfl; exact rfl; exact rfl; exact rfl; exact rfl; exact rfl; omega; exact hnc) | (apply OV_idxS (j := i); exact rfl; exact rfl; exact rfl; exact rfl; exact rfl; exact hadr i (by omega); (with_reducible exact rfl); omega) | (apply OV_load; exact rfl; exact Lv_ro rfl (hcel i (by omega)) rfl)); exact (by repeat' (first | exact trivial | apply And.intro | exact List.Mem.head _ | apply List.Mem.tail))) | (apply GP_real; exact rfl; kernel_rfl; exact rfl; exact rfl; exact rfl; (first | (apply OpTo_buildSliceO (n := 0); exact rfl; exact rfl; exact rfl; exact List.cons_ne_nil _ _; exact rfl; exact rfl; exact rfl; exact rfl; exact rfl; exact rfl; intro b1; refine ⟨Le.refl _, by (first | exact NdOk_no rfl | (apply NdOk_all; (repeat' (first | exact trivial | apply And.intro | exact List.Mem.head _ | apply List.Mem.tail)); done) | (apply NdOk_need; (repeat' (first | exact trivial | apply And.intro | exact List.Mem.head _ | apply List.Mem.tail)); done)), ?_⟩) | (apply OpTo_appendS (enc := encF82) (xs := []) (ys := l.drop i); exact rfl; exact rfl; exact rfl; exact rfl; exact rfl; exact rfl; exact rfl; exact ((hlow i (by omega)).le (by first | exact Le.refl _ | assumption | (repeat (first | assumption | (apply Le.trans; assumption))))); exact (fun _ => rfl); exact (fun x => allOne_ok (factC_one x.1 x.2)); intro v1; exact (by (repeat (first | exact Repl.here | apply Repl.there)); done); omega; exact rfl; intro A1 c1; refine ⟨Le.refl _, by (first | exact NdOk_no rfl | (apply NdOk_all; (repeat' (first | exact trivial | apply And.intro | exact List.Mem.head _ | apply List.Mem.tail)); done) | (apply NdOk_need; (repeat' (first | exact trivial | apply And.intro | exact List.Mem.head _ | apply List.Mem.tail)); done)), ?_⟩) | (apply OpTo_appendS (enc := encF82) (xs := l.drop i) (ys := l.take i); exact rfl; exact rfl; exact rfl; exact rfl; exact rfl; exact rfl; exact rfl; exact ((hhigh i (by omega)).le (by first | exact Le.refl _ | assumption | (repeat (first | assumption | (apply Le.trans; assumption))))); exact (fun _ => rfl); exact (fun x => allOne_ok (factC_one x.1 x.2)); intro v1; exact (by (repeat (first | exact Repl.here | apply Repl.there)); done); omega; exact rfl; intro A2 c2; refine ⟨Le.refl _, by (first | exact NdOk_no rfl | (apply NdOk_all; (repeat' (first | exact trivial | apply And.intro | exact List.Mem.head _ | apply List.Mem.tail)); done) | (apply NdOk_need; (repeat' (first | exact trivial | apply And.intro | exact List.Mem.head _ | apply List.Mem.tail)); done)), ?_⟩) | (apply OpTo_buildSliceS (enc := encF82) (n := 1) [l.getD i p0]; exact rfl; exact rfl; exact rfl; exact List.cons_ne_nil _ _; exact rfl; exact rfl; exact rfl; exact rfl; exact (fun _ => rfl); exact rfl; exact rfl; intro bz hz1 hlez hs1; refine ⟨hlez, by (first | exact NdOk_no rfl | (apply NdOk_all; (repeat' (first | exact trivial | apply And.intro | exact List.Mem.head _ | apply List.Mem.tail)); done) | (apply NdOk_need; (repeat' (first | exact trivial | apply And.intro | exact List.Mem.head _ | apply List.Mem.tail)); done)), ?_⟩) | (apply OpTo_appendS (enc := encF82) (xs := l.drop i ++ l.take i) (ys := [l.getD i p0]); exact rfl; exact rfl; exact rfl; exact rfl; exact rfl; exact rfl; exact rfl; exact (hs1.le (by first | exact Le.refl _ | assumption | (repeat (first | assumption | (apply Le.trans; assumption))))); exact (fun _ => rfl); exact (fun x => allOne_ok (factC_one x.1 x.2)); intro v1; exact (by (repeat (first | exact Repl.here | apply Repl.there)); done); omega; exact rfl; intro A3 c3; refine ⟨Le.refl _, by (first | exact NdOk_no rfl | (apply NdOk_all; (repeat' (first | exact trivial | apply And.intro | exact List.Mem.head _ | apply List.Mem.tail)); done) | (apply NdOk_need; (repeat' (first | exact trivial | apply And.intro | exact List.Mem.head _ | apply List.Mem.tail)); done)), ?_⟩))) | (apply GP_two; kernel_rfl; exact rfl; exact rfl) | (apply RealP_intro; exact rfl; exact rfl; exact rfl; exact rfl; (first | (apply OpTo_buildSliceO (n := 0); exact rfl; exact rfl; exact rfl; exact List.cons_ne_nil _ _; exact rfl; exact rfl; exact rfl; exact rfl; exact rfl; exact rfl; intro b1; refine ⟨Le.refl _, by (first | exact NdOk_no rfl | (apply NdOk_all; (repeat' (first | exact trivial | apply And.intro | exact List.Mem.head _ | apply List.Mem.tail)); done) | (apply NdOk_need; (repeat' (first | exact trivial | apply And.intro | exact List.Mem.head _ | apply List.Mem.tail)); done)), ?_⟩) | (apply OpTo_appendS (enc := encF82) (xs := []) (ys := l.drop i); exact rfl; exact rfl; exact rfl; exact rfl; exact rfl; exact rfl; exact rfl; exact ((hlow i (by omega)).le (by first | exact Le.refl _ | assumption | (repeat (first | assumption | (apply Le.trans; assumption))))); exact (fun _ => rfl); exact (fun x => allOne_ok (factC_one x.1 x.2)); intro v1; exact (by (repeat (first | exact Repl.here | apply Repl.there)); done); omega; exact rfl; intro A1 c1; refine ⟨Le.refl _, by (first | exact NdOk_no rfl | (apply NdOk_all; (repeat' (first | exact trivial | apply And.intro | exact List.Mem.head _ | apply List.Mem.tail)); done) | (apply NdOk_need; (repeat' (first | exact trivial | apply And.intro | exact List.Mem.head _ | apply List.Mem.tail)); done)), ?_⟩) | (apply OpTo_appendS (enc := encF82) (xs := l.drop i) (ys := l.take i); exact rfl; exact rfl; exact rfl; exact rfl; exact rfl; exact rfl; exact rfl; exact ((hhigh i (by omega)).le (by first | exact Le.refl _ | assumption | (repeat (first | assumption | (apply Le.trans; assumption))))); exact (fun _ => rfl); exact (fun x => allOne_ok (factC_one x.1 x.2)); intro v1; exact (by (repeat (first | exact Repl.here | apply Repl.there)); done); omega; exact rfl; intro A2 c2; refine ⟨Le.refl _, by (first | exact NdOk_no rfl | (apply NdOk_all; (repeat' (first | exact trivial | apply And.intro | exact List.Mem.head _ | apply List.Mem.tail)); done) | (apply NdOk_need; (repeat' (first | exact trivial | apply And.intro | exact List.Mem.head _ | apply List.Mem.tail)); done)), ?_⟩) | (apply OpTo_buildSliceS (enc := encF82) (n := 1) [l.getD i p0]; exact rfl; exact rfl; exact rfl; exact List.cons_ne_nil _ _; exact rfl; exact rfl; exact rfl; exact rfl; exact (fun _ => rfl); exact rfl; exact rfl; intro bz hz1 hlez hs1; refine ⟨hlez, by (first | exact NdOk_no rfl | (apply NdOk_all; (repeat' (first | exact trivial | apply And.intro | exact List.Mem.head _ | apply List.Mem.tail)); done) | (apply NdOk_need; (repeat' (first | exact trivial | apply And.intro | exact List.Mem.head _ | apply List.Mem.tail)); done)), ?_⟩))) | (apply GP_done; kernel_rfl; exact rfl) | (apply GO_cond; exact rfl; all_goals intro hc; all_goals try simp only [ltI_t, ltI_f, leI_t, leI_f, eqI_t, eqI_f, Bool.not_eq_true', Bool.not_eq_false', decide_eq_true_eq, decide_eq_false_iff_not, reduceCtorEq] at hc; all_goals try (exfalso; omega)))
      all_goals
        generalize b = bG at *
        have hin : i < n := by omega
        have hmi := mem7 p0 (show i < l.length by omega)
        generalize l.getD i p0 = xi at *
        obtain ⟨T, hTe⟩ : ∃ T, T = l.drop i ++ l.take i ++ [xi] := ⟨_, rfl⟩
        have hTm : ∀ p, p ∈ T ↔ p ∈ l := fun p => by
          rw [hTe, List.mem_append, List.mem_append, List.mem_singleton]
          constructor
          · rintro ((h1 | h1) | rfl)
            · exact List.mem_of_mem_drop h1
            · exact List.mem_of_mem_take h1
            · exact hmi
          · intro h1
            rw [← List.take_append_drop i l, List.mem_append] at h1
            exact .inl h1.symm
        have hTl : T.length = 0 + (n - i) + i + 1 := by rw [hTe]; simp; omega
        rw [← hTe]
        refine GO_relC (enc := encF82) (e := 64) (sz := 82) (n := 0 + (n - i) + i + 1) (xs := T) (fun _ => rfl) hTl (by (repeat (first | exact Take.here | apply Take.there)); done) ?_
        intro A4 c4 h4 hle4 e4 hnc4 hsT
        injection e4 with e41 _ e43
        subst e41; subst e43
        have hnT : 0 + (n - i) + i + 1 ≤ 13 := by omega
        generalize 0 + (n - i) + i + 1 = nT at *
        have hfT : FactsAt h4 A3 nT T := hfa.sub (by first | exact Le.refl _ | assumption | (repeat (first | assumption | (apply Le.trans; assumption)))) hsT (fun p hp => (hTm p).1 hp) (by omega)
        have hl4 : Le h h4 := (by first | exact Le.refl _ | assumption | (repeat (first | assumption | (apply Le.trans; assumption))))
        clear hlow hhigh hsT
        have hvl := cont_void hfa
        have hvT := cont_void hfT
        have eT : ∀ g', scoreF (cont T) g' = scoreF (cont l) g' := fun g' => scoreF_ext hvT hvl fun x _ _ _ => by
          rw [cont_mem, cont_mem]
          exact exists_congr fun s => hTm (s, x)
        have eD : disputesL T = disputesL l := disputesL_ext eT
        refine GO_loopT (X := Nat × Int × List (Fsh × Fct) × Option Addr × Nat × Ro) (fun x => x.1 ≤ n ∧ x.2.1 = (x.1 : Int) - 1 ∧ x.2.2.1 = ownL g (l.drop x.1) ∧ Le h4 x.2.2.2.2.2) (fun x => x.1)
          (fun x => [(10, .int .i64 x.2.1), (9, .slice x.2.2.2.1 x.2.2.1.length x.2.2.2.2.1), (8, .slice A3 nT c3), (0, .slice A n c), (4, .pointer (some ⟨bG, 0, none⟩))])
          (fun x => [Blk bG 24 (gameC g), OwnS 64 82 (.slice x.2.2.2.1 x.2.2.1.length x.2.2.2.2.1) x.2.2.1.length (x.2.2.1.flatMap encF82)]) (fun x => x.2.2.2.2.2) (n, (n : Int) - 1, [], some ⟨b1, 0, none⟩, 0, h4) ⟨by omega, rfl, by rw [List.drop_eq_nil_of_le (by omega)]; rfl, Le.refl _⟩ (by (repeat (first | exact trivial | refine ⟨rfl, ?_⟩)); done) (by (repeat (first | exact Takes_nil | (apply Takes_cons; exact (by (repeat (first | exact Take.here | apply Take.there)); done)))); done) rfl ?_
        rintro ⟨j, z, ow, A9, c9, hk⟩ ⟨hjn, hz, how, hlk⟩ ih
        dsimp only at hjn hz how hlk ih ⊢
        have hol : ow.length ≤ 12 := by
          have h1 : (ownL g (l.drop j)).length ≤ (l.drop j).length := by unfold ownL; rw [List.length_reverse]; exact List.length_filter_le _ _
          rw [List.length_drop, ← how] at h1; omega
        by_cases hj : j = 0
        · subst hj
          have how2 : ow = ownL g l := how
          refine GO_relC (enc := encF82) (e := 64) (sz := 82) (n := ow.length) (xs := ow) (fun _ => rfl) rfl (by (repeat (first | exact Take.here | apply Take.there)); done) ?_
          intro A10 c10 h10 hle10 e10 hnc10 hsO
          injection e10 with e101 _ e103
          subst e101; subst e103
          have hmO : ∀ p, p ∈ ow ↔ p ∈ l ∧ FctOk p.2 ∧ p.2.kind = 3 ∧ p.2.sh.g = g := fun p => by rw [how2]; exact ownL_mem
          have hfO : FactsAt h10 A9 ow.length ow := hfa.sub (hl4.trans (hlk.trans hle10)) hsO (fun p hp => ((hmO p).1 hp).1) (by omega)
          have hl10 : Le h h10 := hl4.trans (hlk.trans hle10)
          have hl410 : Le h4 h10 := hlk.trans hle10
          have hvO := cont_void hfO
          have eO : scoreF (cont ow) g = scoreF (cont l) g := scoreF_ext hvO hvl fun x q1 q2 q3 => by
            rw [cont_mem, cont_mem]
            exact exists_congr fun s => by rw [hmO]; exact ⟨fun q => q.1, fun q => ⟨q, q1, q2, q3⟩⟩
          have eZ : ow.length = 0 → (scoreF (cont l) g).kind = 0 := fun h0 => scoreF_zero (fun f hfm hq => by
            obtain ⟨s, hs⟩ := cont_mem.1 hfm
            have := (hmO (s, f)).2 ⟨hs, hq.1, hq.2.1, hq.2.2⟩
            rw [List.eq_nil_of_length_eq_zero h0] at this
            cases this) hvl
          clear hsO hnc10 hcel hadr hx how hfew hsane hTm hmO how2
          obtain ⟨x, hxe⟩ : ∃ x, x = scoreF (cont l) g := ⟨_, rfl⟩
          obtain ⟨D, hDe⟩ : ∃ D, D = disputesL l := ⟨_, rfl⟩
          have hDl : D.length ≤ 1000000000 := by rw [hDe]; exact disputesL_len hfa
          have sc1 : ∀ h', Le h10 h' → Res Tryz.prog 18 #[.slice A n c, gameV g] h' (fun u h' => ∃ s, u = scoreV s x ∧ ShAt h' s x.sh ∧ ShSm x.sh) := fun h' hl' => by rw [hxe]; exact score2_c h' (hG.le (hl10.trans hl')) A n c l (hfa.le (hl10.trans hl')) g
          have sc2 : ∀ h', Le h10 h' → Res Tryz.prog 18 #[.slice A3 nT c3, gameV g] h' (fun u h' => ∃ s, u = scoreV s x ∧ ShAt h' s x.sh ∧ ShSm x.sh) := fun h' hl' => by rw [hxe, ← eT]; exact score2_c h' (hG.le (hl10.trans hl')) A3 nT c3 T (hfT.le (hl410.trans hl')) g
          have sc3 : ∀ h', Le h10 h' → Res Tryz.prog 18 #[.slice A9 ow.length c9, gameV g] h' (fun u h' => ∃ s, u = scoreV s x ∧ ShAt h' s x.sh ∧ ShSm x.sh) := fun h' hl' => by rw [hxe, ← eO]; exact score2_c h' (hG.le (hl10.trans hl')) A9 ow.length c9 ow (hfO.le hl') g
          have di1 : ∀ h', Le h10 h' → Res Tryz.prog 23 #[.slice A n c] h' (fun u h' => ∃ A c, u = .slice A D.length c ∧ SlOf gameC 4 h' A D.length D) := fun h' hl' => by rw [hDe]; exact disputes_c h' (hG.le (hl10.trans hl')) A n c l (hfa.le (hl10.trans hl'))
          have di2 : ∀ h', Le h10 h' → Res Tryz.prog 23 #[.slice A3 nT c3] h' (fun u h' => ∃ A c, u = .slice A D.length c ∧ SlOf gameC 4 h' A D.length D) := fun h' hl' => by rw [hDe, ← eD]; exact disputes_c h' (hG.le (hl10.trans hl')) A3 nT c3 T (hfT.le (hl410.trans hl'))
          rw [← hxe] at eZ
          generalize ow.length = m at *
          clear hfO hfT hfa hvO hvT hvl eT eO eD hxe hDe
          obtain ⟨xk, xs, xd⟩ := x
          dsimp only at sc1 sc2 sc3 eZ
          repeat' (first | apply GO_seq | apply GO_region | apply GOl_nil | (apply GO_exit; exact rfl) | (apply GOl_pv; exact rfl; exact rfl; exact rfl) | (apply GOl_load; exact rfl; exact Ld_blk rfl (by (repeat (first | exact List.Mem.head _ | apply List.Mem.tail)); done) rfl; exact rfl; exact rfl) | (apply GOl_to; exact rfl; exact rfl; exact rfl; (first | (apply OpTo_store; exact rfl; exact rfl; exact rfl; exact (by (repeat (first | exact Repl.here | apply Repl.there)); done); exact rfl; exact rfl; exact rfl; skip) | (apply OpTo_alloc; exact rfl; intro b; skip) | (apply OpTo_res; exact rfl; exact has18; exact sc1 _ (by first | exact Le.refl _ | assumption | (repeat (first | assumption | (apply Le.trans; assumption)))); rintro v5 h5 hle5 ⟨s5, rfl, hs5, hsm⟩; skip))) | (apply GO_drawp (n := 14) [0, 1, 2, 3, 4, 5, 6, 7, 8, 9, 10, 11, 12, 13, 14, 15, 16, 17, 18, 19, 20, 21, 22, 23, 24, 25, 26, 27, 28, 29] [(0, 0), (1, 0), (2, 0), (3, 1), (4, 1), (5, 0), (6, 0), (7, 0), (8, 0), (9, 1), (10, 1), (11, 0), (12, 0), (13, 0), (15, 0), (14, 1), (16, 1), (17, 1), (18, 0), (19, 0), (20, 0), (21, 0), (22, 0), (23, 0), (24, 0), (25, 0), (26, 0), (27, 0), (28, 0), (29, 0)]; kernel_rfl) | (apply GP_un; exact rfl; kernel_rfl; exact rfl; exact rfl) | (apply GP_pv; exact rfl; kernel_rfl; exact rfl; exact rfl; exact rfl) | (apply GP_loadB; exact rfl; kernel_rfl; exact rfl; exact rfl; exact rfl; exact (by (repeat (first | exact List.Mem.head _ | apply List.Mem.tail)); done); exact rfl; exact rfl) | (apply GP_real; exact rfl; kernel_rfl; exact rfl; exact rfl; exact rfl; (first | (apply OpTo_res; exact rfl; exact has18; exact sc2 _ (by first | exact Le.refl _ | assumption | (repeat (first | assumption | (apply Le.trans; assumption)))); rintro v6 h6 hle6 ⟨s6, rfl, hs6, hsm6⟩; refine ⟨hle6, by (first | exact NdOk_no rfl | (apply NdOk_all; (repeat' (first | exact trivial | apply And.intro | exact List.Mem.head _ | apply List.Mem.tail)); done) | (apply NdOk_need; (repeat' (first | exact trivial | apply And.intro | exact List.Mem.head _ | apply List.Mem.tail)); done)), ?_⟩) | (apply OpTo_res; exact rfl; exact has18; exact sc3 _ (by first | exact Le.refl _ | assumption | (repeat (first | assumption | (apply Le.trans; assumption)))); rintro v7 h7 hle7 ⟨s7, rfl, hs7, hsm7⟩; refine ⟨hle7, by (first | exact NdOk_no rfl | (apply NdOk_all; (repeat' (first | exact trivial | apply And.intro | exact List.Mem.head _ | apply List.Mem.tail)); done) | (apply NdOk_need; (repeat' (first | exact trivial | apply And.intro | exact List.Mem.head _ | apply List.Mem.tail)); done)), ?_⟩) | (apply OpTo_val; exact rfl; exact has17; exact sameScore_t _ s5 ⟨xk, xs, xd⟩ (hs5.le (by first | exact Le.refl _ | assumption | (repeat (first | assumption | (apply Le.trans; assumption))))) hsm s6 (hs6.le (by first | exact Le.refl _ | assumption | (repeat (first | assumption | (apply Le.trans; assumption))))); refine ⟨Le.refl _, by (first | exact NdOk_no rfl | (apply NdOk_all; (repeat' (first | exact trivial | apply And.intro | exact List.Mem.head _ | apply List.Mem.tail)); done) | (apply NdOk_need; (repeat' (first | exact trivial | apply And.intro | exact List.Mem.head _ | apply List.Mem.tail)); done)), ?_⟩) | (apply OpTo_val; exact rfl; exact has17; exact sameScore_t _ s5 ⟨xk, xs, xd⟩ (hs5.le (by first | exact Le.refl _ | assumption | (repeat (first | assumption | (apply Le.trans; assumption))))) hsm s7 (hs7.le (by first | exact Le.refl _ | assumption | (repeat (first | assumption | (apply Le.trans; assumption))))); refine ⟨Le.refl _, by (first | exact NdOk_no rfl | (apply NdOk_all; (repeat' (first | exact trivial | apply And.intro | exact List.Mem.head _ | apply List.Mem.tail)); done) | (apply NdOk_need; (repeat' (first | exact trivial | apply And.intro | exact List.Mem.head _ | apply List.Mem.tail)); done)), ?_⟩) | (apply OpTo_res; exact rfl; exact has23; exact di1 _ (by first | exact Le.refl _ | assumption | (repeat (first | assumption | (apply Le.trans; assumption)))); rintro v8 h8 hle8 ⟨A8, c8, rfl, hs8⟩; refine ⟨hle8, by (first | exact NdOk_no rfl | (apply NdOk_all; (repeat' (first | exact trivial | apply And.intro | exact List.Mem.head _ | apply List.Mem.tail)); done) | (apply NdOk_need; (repeat' (first | exact trivial | apply And.intro | exact List.Mem.head _ | apply List.Mem.tail)); done)), ?_⟩) | (apply OpTo_res; exact rfl; exact has23; exact di2 _ (by first | exact Le.refl _ | assumption | (repeat (first | assumption | (apply Le.trans; assumption)))); rintro v11 h11 hle11 ⟨A11, c11, rfl, hs11⟩; refine ⟨hle11, by (first | exact NdOk_no rfl | (apply NdOk_all; (repeat' (first | exact trivial | apply And.intro | exact List.Mem.head _ | apply List.Mem.tail)); done) | (apply NdOk_need; (repeat' (first | exact trivial | apply And.intro | exact List.Mem.head _ | apply List.Mem.tail)); done)), ?_⟩) | (apply OpTo_val; exact rfl; exact has20; exact sameGames_t _ _ _ _ D (hs8.le (by first | exact Le.refl _ | assumption | (repeat (first | assumption | (apply Le.trans; assumption))))) hDl _ _ _ (hs11.le (by first | exact Le.refl _ | assumption | (repeat (first | assumption | (apply Le.trans; assumption))))) hDl; refine ⟨Le.refl _, by (first | exact NdOk_no rfl | (apply NdOk_all; (repeat' (first | exact trivial | apply And.intro | exact List.Mem.head _ | apply List.Mem.tail)); done) | (apply NdOk_need; (repeat' (first | exact trivial | apply And.intro | exact List.Mem.head _ | apply List.Mem.tail)); done)), ?_⟩))) | (apply GP_done; kernel_rfl; exact rfl) | (apply GP_split; exact rfl; exact rfl; exact rfl; exact rfl; exact rfl; all_goals intro hc; all_goals try simp only [ltI_t, ltI_f, leI_t, leI_f, eqI_t, eqI_f, Bool.not_eq_true', Bool.not_eq_false', decide_eq_true_eq, decide_eq_false_iff_not, reduceCtorEq] at hc; all_goals try (exfalso; omega)) | (apply GO_cond; exact rfl; all_goals intro hc; all_goals try simp only [ltI_t, ltI_f, leI_t, leI_f, eqI_t, eqI_f, Bool.not_eq_true', Bool.not_eq_false', decide_eq_true_eq, decide_eq_false_iff_not, reduceCtorEq] at hc; all_goals try (exfalso; omega)) | (apply GO_retV1; exact rfl; exact rfl; exact rfl))
          all_goals first | rfl | (have e0 := eZ (by omega); simp [eqI_eq, e0]; done)
        · obtain ⟨k, rfl⟩ : ∃ k, j = k + 1 := ⟨j - 1, by omega⟩
          have hd := drop7 p0 hlen (show k < n by omega)
          have a1 := hadr k (by omega)
          have c1 := (hcel k (by omega)).le (hl4.trans hlk)
          have hfk := hfa.fat _ (mem7 p0 (show k < l.length by omega))
          generalize l.getD k p0 = p at *
          have hch := check7_c hk p.1 p.2 (hfk.1.le (hl4.trans hlk)) hfk.2
          by_cases hok : FctOk p.2
          · rw [if_pos hok] at hch
            repeat' (first | apply GO_seq | apply GO_skip | apply GO_inBlock | apply GO_block | apply GO_region | apply GOl_nil | (apply GOl_sub; exact rfl; exact rfl; exact rfl; omega; exact rfl; exact rfl) | (apply GOl_pv; exact rfl; exact rfl; exact rfl) | (apply GOl_ov; exact rfl; exact rfl; (first | (apply OV_idxS (j := k); exact rfl; exact rfl; exact rfl; exact rfl; exact rfl; exact a1; omega; omega) | (apply OV_load; exact rfl; exact Lv_ro rfl c1 rfl)); exact (by repeat' (first | exact trivial | apply And.intro | exact List.Mem.head _ | apply List.Mem.tail))) | (apply GOl_to; exact rfl; exact rfl; exact rfl; (first | (apply OpTo_buildSliceS (enc := encF82) (n := 1) [p]; exact rfl; exact rfl; exact rfl; exact List.cons_ne_nil _ _; exact rfl; exact rfl; exact rfl; exact rfl; exact (fun _ => rfl); exact rfl; exact rfl; intro bz hz1 hlez hs1; skip) | (apply OpTo_appendS (enc := encF82) (xs := ow) (ys := [p]); exact rfl; exact rfl; exact rfl; exact rfl; exact rfl; exact rfl; exact rfl; exact (hs1.le (by first | exact Le.refl _ | assumption | (repeat (first | assumption | (apply Le.trans; assumption))))); exact (fun _ => rfl); exact (fun x => allOne_ok (factC_one x.1 x.2)); intro v1; exact (by (repeat (first | exact Repl.here | apply Repl.there)); done); omega; exact rfl; intro A8 c8; skip))) | (apply GO_drawp (n := 11) [0, 1, 2, 3, 4, 5, 6, 7, 8, 9, 10, 11, 12, 13, 14, 15, 16, 17, 18, 19, 20, 21, 22, 23] [(0, 0), (1, 0), (2, 0), (3, 0), (4, 1), (5, 0), (6, 0), (7, 0), (8, 0), (9, 0), (10, 0), (11, 0), (12, 0), (13, 0), (14, 0), (15, 0), (16, 0), (17, 0), (18, 0), (19, 0), (20, 0), (21, 0), (22, 0), (23, 0)]; kernel_rfl) | (apply GP_un; exact rfl; kernel_rfl; exact rfl; exact rfl) | (apply GP_pv; exact rfl; kernel_rfl; exact rfl; exact rfl; exact rfl) | (apply GP_loadB; exact rfl; kernel_rfl; exact rfl; exact rfl; exact rfl; exact (by (repeat (first | exact List.Mem.head _ | apply List.Mem.tail)); done); exact rfl; exact rfl) | (apply GP_ov; exact rfl; kernel_rfl; exact rfl; exact rfl; (first | (apply OV_idxS (j := k); exact rfl; exact rfl; exact rfl; exact rfl; exact rfl; exact a1; omega; omega) | (apply OV_load; exact rfl; exact Lv_ro rfl c1 rfl) | (apply OV_eqlS; exact rfl; exact rfl; exact game_eq _ _; kernel_rfl; kernel_rfl) | (apply OV_load; exact rfl; first | exact Lv_ro rfl (by assumption) rfl | exact Lv_roF rfl (by assumption) rfl | exact Lv_roF2 rfl (by assumption) rfl | exact Lv_roF3 rfl (by assumption) rfl)); exact (by repeat' (first | exact trivial | apply And.intro | exact List.Mem.head _ | apply List.Mem.tail))) | (apply GP_real; exact rfl; kernel_rfl; exact rfl; exact rfl; exact rfl; (first | (apply OpTo_val; exact rfl; exact has25; exact hch; refine ⟨Le.refl _, by (first | exact NdOk_no rfl | (apply NdOk_all; (repeat' (first | exact trivial | apply And.intro | exact List.Mem.head _ | apply List.Mem.tail)); done) | (apply NdOk_need; (repeat' (first | exact trivial | apply And.intro | exact List.Mem.head _ | apply List.Mem.tail)); done)), ?_⟩))) | (apply GP_done; kernel_rfl; exact rfl) | (apply GP_split; exact rfl; exact rfl; exact rfl; exact rfl; exact rfl; all_goals intro hc; all_goals try simp only [ltI_t, ltI_f, leI_t, leI_f, eqI_t, eqI_f, Bool.not_eq_true', Bool.not_eq_false', decide_eq_true_eq, decide_eq_false_iff_not, reduceCtorEq] at hc; all_goals try (exfalso; omega)) | (apply GO_cond; exact rfl; all_goals intro hc; all_goals try simp only [ltI_t, ltI_f, leI_t, leI_f, eqI_t, eqI_f, Bool.not_eq_true', Bool.not_eq_false', decide_eq_true_eq, decide_eq_false_iff_not, reduceCtorEq] at hc; all_goals try (exfalso; omega)))
            all_goals first
              | (have h2 := ih (k, z - 1, ow ++ [p], A8, c8, hz1) ⟨by show k ≤ n; omega, by show z - 1 = (k : Int) - 1; omega, by show ow ++ [p] = _; rw [hd, ownL_yes ⟨hok, by assumption, by assumption⟩, how], hlk.trans hlez⟩ (by show k < k + 1; omega)
                 dsimp only at h2
                 rw [List.length_append] at h2
                 refine GO_fit (by (repeat (first | exact trivial | refine ⟨rfl, ?_⟩)); done) (by (repeat (first | exact Takes_nil | (apply Takes_cons; exact (by (repeat (first | exact Take.here | apply Take.there)); done)))); done) (h2))
              | (have h2 := ih (k, z - 1, ow, A9, c9, hk) ⟨by show k ≤ n; omega, by show z - 1 = (k : Int) - 1; omega, by show ow = _; rw [hd, ownL_no (fun ⟨q1, q2, q3⟩ => by contradiction), how], hlk⟩ (by show k < k + 1; omega)
                 refine GO_fit (by (repeat (first | exact trivial | refine ⟨rfl, ?_⟩)); done) (by (repeat (first | exact Takes_nil | (apply Takes_cons; exact (by (repeat (first | exact Take.here | apply Take.there)); done)))); done) (h2))
             
          · rw [if_neg hok] at hch
            repeat' (first | apply GO_seq | apply GO_skip | apply GO_inBlock | apply GO_block | apply GO_region | apply GOl_nil | (apply GOl_sub; exact rfl; exact rfl; exact rfl; omega; exact rfl; exact rfl) | (apply GOl_pv; exact rfl; exact rfl; exact rfl) | (apply GO_drawp (n := 11) [0, 1, 2, 3, 4, 5, 6, 7, 8, 9, 10, 11, 12, 13, 14, 15, 16, 17, 18, 19, 20, 21, 22, 23] [(0, 0), (1, 0), (2, 0), (3, 0), (4, 1), (5, 0), (6, 0), (7, 0), (8, 0), (9, 0), (10, 0), (11, 0), (12, 0), (13, 0), (14, 0), (15, 0), (16, 0), (17, 0), (18, 0), (19, 0), (20, 0), (21, 0), (22, 0), (23, 0)]; kernel_rfl) | (apply GP_un; exact rfl; kernel_rfl; exact rfl; exact rfl) | (apply GP_pv; exact rfl; kernel_rfl; exact rfl; exact rfl; exact rfl) | (apply GP_ov; exact rfl; kernel_rfl; exact rfl; exact rfl; (first | (apply OV_idxS (j := k); exact rfl; exact rfl; exact rfl; exact rfl; exact rfl; exact a1; omega; omega) | (apply OV_load; exact rfl; exact Lv_ro rfl c1 rfl)); exact (by repeat' (first | exact trivial | apply And.intro | exact List.Mem.head _ | apply List.Mem.tail))) | (apply GP_real; exact rfl; kernel_rfl; exact rfl; exact rfl; exact rfl; (first | (apply OpTo_val; exact rfl; exact has25; exact hch; refine ⟨Le.refl _, by (first | exact NdOk_no rfl | (apply NdOk_all; (repeat' (first | exact trivial | apply And.intro | exact List.Mem.head _ | apply List.Mem.tail)); done) | (apply NdOk_need; (repeat' (first | exact trivial | apply And.intro | exact List.Mem.head _ | apply List.Mem.tail)); done)), ?_⟩))) | (apply GP_done; kernel_rfl; exact rfl) | (apply GP_split; exact rfl; exact rfl; exact rfl; exact rfl; exact rfl; all_goals intro hc; all_goals try simp only [ltI_t, ltI_f, leI_t, leI_f, eqI_t, eqI_f, Bool.not_eq_true', Bool.not_eq_false', decide_eq_true_eq, decide_eq_false_iff_not, reduceCtorEq] at hc; all_goals try (exfalso; omega)) | (apply GO_cond; exact rfl; all_goals intro hc; all_goals try simp only [ltI_t, ltI_f, leI_t, leI_f, eqI_t, eqI_f, Bool.not_eq_true', Bool.not_eq_false', decide_eq_true_eq, decide_eq_false_iff_not, reduceCtorEq] at hc; all_goals try (exfalso; omega)))
            all_goals first
              | (have h2 := ih (k, z - 1, ow, A9, c9, hk) ⟨by show k ≤ n; omega, by show z - 1 = (k : Int) - 1; omega, by show ow = _; rw [hd, ownL_no (fun ⟨q1, q2, q3⟩ => hok q1), how], hlk⟩ (by show k < k + 1; omega)
                 refine GO_fit (by (repeat (first | exact trivial | refine ⟨rfl, ?_⟩)); done) (by (repeat (first | exact Takes_nil | (apply Takes_cons; exact (by (repeat (first | exact Take.here | apply Take.there)); done)))); done) (h2))
             
  · rw [decide_eq_false hF] at hfew
    repeat' (first | apply GO_seq | apply GO_skip | apply GO_region | apply GOl_nil | (apply GOl_unwanted; exact rfl; exact rfl) | (apply GOl_pv; exact rfl; exact rfl; exact rfl) | (apply GOl_to; exact rfl; exact rfl; exact rfl; (first | (apply OpTo_box; exact rfl; intro b; skip) | (apply OpTo_val; exact rfl; exact has9; exact hsane; skip) | (apply OpTo_val; exact rfl; exact has10; exact hfew; skip))) | (apply GO_cond; exact rfl; all_goals intro hc; all_goals try simp only [ltI_t, ltI_f, leI_t, leI_f, eqI_t, eqI_f, Bool.not_eq_true', Bool.not_eq_false', decide_eq_true_eq, decide_eq_false_iff_not, reduceCtorEq] at hc; all_goals try (exfalso; omega)) | (apply GO_retV1; exact rfl; exact rfl; exact rfl))
    all_goals rfl
end Go.Hw

import Derived.Test.YtekcphgpmihmlaaGreatDoorSS6
import Derived.Test.YtekcphgpmihmlaaGreatDoorHB
import Derived.Test.YtekcphgpmihmlaaGreatDoorF6
/-
  The law SheetsReferees, walked.
-/
set_option linter.unusedVariables false
set_option linter.unusedSimpArgs false
set_option maxRecDepth 100000
set_option maxHeartbeats 4000000
namespace Go.Hw
open Go
attribute [local irreducible] GO GOl GDp Val Fn Res CellsAt ValE Blk OwnS MapA OwnPf Has Yl RngA
open Go.Proofs (Tryz.prog)

def swapP (p : Fsh × Fct) : Fsh × Fct := (p.1, swapF p.2)
theorem cont_swap (l : List (Fsh × Fct)) : cont (l.map swapP) = (cont l).map swapF := by
  unfold cont; rw [List.map_map, List.map_map]; rfl
theorem FAt.swap {h : Ro} {s : Fsh} {f : Fct} (a : FAt h s f) : FAt h s (swapF f) := by
  by_cases hc : f.kind = 3 ∧ (f.sh.ref = 0 ∨ f.sh.ref = 1)
  · rw [swapF_yes hc]; exact ⟨⟨a.sh.hs, a.sh.asn, a.sh.hc, a.sh.ac⟩, a.cl, a.lo, a.void, a.lc⟩
  · rw [swapF_no hc]; exact a
theorem FSm.swap {f : Fct} (a : FSm f) : FSm (swapF f) := by
  by_cases hc : f.kind = 3 ∧ (f.sh.ref = 0 ∨ f.sh.ref = 1)
  · rw [swapF_yes hc]; exact a
  · rw [swapF_no hc]; exact a
theorem disputesL_swap (l : List (Fsh × Fct)) : disputesL (l.map swapP) = disputesL l :=
  ltG_ext (disputesL_lt _) (disputesL_lt _) fun g => by
    rw [disputesL_mem, disputesL_mem, cont_swap, (score_swap (cont l) g).1]


theorem swapped_c (h : Ro) (A : Option Addr) (n c : Nat) (l : List (Fsh × Fct)) (hx : SlOf encF82 82 h A n l) (hn : n ≤ 1000) : Res Tryz.prog 26 #[.slice A n c] h (fun u h' => ∃ A' c', u = .slice A' n c' ∧ SlOf encF82 82 h' A' n (l.map swapP)) := by
  refine Res_intro (args := [_]) ts_ok Go.Proofs.Tryz.func26 rfl rfl fun w0 X0 => ?_
  have hlen := hx.len
  repeat' (first | apply GO_seq | apply GO_block | apply GO_region | apply GOl_nil | (apply GOl_pv; exact rfl; exact rfl; exact rfl) | (apply GOl_to; exact rfl; exact rfl; exact rfl; (first | (apply OpTo_buildSliceO (n := 0); exact rfl; exact rfl; exact rfl; exact List.cons_ne_nil _ _; exact rfl; exact rfl; exact rfl; exact rfl; exact rfl; exact rfl; intro b1; skip))))
  refine GO_loopT (X := Nat × List (Fsh × Fct) × Option Addr × Nat × Ro) (fun x => x.1 ≤ n ∧ x.2.1 = (l.take x.1).map swapP ∧ Le h x.2.2.2.2) (fun x => n - x.1)
    (fun x => [(4, .int .i64 x.1), (3, .slice x.2.2.1 x.2.1.length x.2.2.2.1), (0, .slice A n c)])
    (fun x => [OwnS 64 82 (.slice x.2.2.1 x.2.1.length x.2.2.2.1) x.2.1.length (x.2.1.flatMap encF82)]) (fun x => x.2.2.2.2) (0, [], some ⟨b1, 0, none⟩, 0, h) ⟨by omega, by simp, Le.refl _⟩ (by (repeat (first | exact trivial | refine ⟨rfl, ?_⟩)); done) (by (repeat (first | exact Takes_nil | (apply Takes_cons; exact (by (repeat (first | exact Take.here | apply Take.there)); done)))); done) rfl ?_
  rintro ⟨k, ow, A9, c9, hk⟩ ⟨hkn0, how, hlk⟩ ih
  dsimp only at hkn0 how hlk ih ⊢
  have hol : ow.length = k := by rw [how]; simp; omega
  by_cases hkn : k < n
  · have a1 := hx.addrD hkn
    have c1 := (hx.cellsD p0 hkn).le hlk
    have ht1 := take7 p0 hlen hkn
    generalize l.getD k p0 = p at *
    obtain ⟨s, f⟩ := p
    have c1 : CellsAt hk ((addrD A).add (k * 82)) (factC s f) := c1
    by_cases hc3 : f.kind = 3 ∧ (f.sh.ref = 0 ∨ f.sh.ref = 1)
    · obtain ⟨hc4, hc5⟩ := id hc3
      have e := swapF_yes hc3
      repeat' (first | apply GO_seq | apply GO_skip | apply GO_inBlock | apply GO_block | apply GO_region | apply GOl_nil | (apply GOl_unwanted; exact rfl; exact rfl) | (apply GOl_add; exact rfl; exact rfl; exact rfl; omega; exact rfl; exact rfl) | (apply GOl_sub; exact rfl; exact rfl; exact rfl; omega; exact rfl; exact rfl) | (apply GOl_pv; exact rfl; exact rfl; exact rfl) | (apply GOl_load; exact rfl; exact Ld_blk rfl (by (repeat (first | exact List.Mem.head _ | apply List.Mem.tail)); done) rfl; exact rfl; exact rfl) | (apply GOl_ov; exact rfl; exact rfl; (first | (apply OV_idxS (j := k); exact rfl; exact rfl; exact rfl; exact rfl; exact rfl; exact a1; (with_reducible exact rfl); omega) | (apply OV_load; exact rfl; exact Lv_ro rfl c1 rfl)); exact (by repeat' (first | exact trivial | apply And.intro | exact List.Mem.head _ | apply List.Mem.tail))) | (apply GOl_to; exact rfl; exact rfl; exact rfl; (first | (apply OpTo_store; exact rfl; exact rfl; exact rfl; exact (by (repeat (first | exact Repl.here | apply Repl.there)); done); exact rfl; exact rfl; exact rfl; skip) | (apply OpTo_alloc; exact rfl; intro b; skip) | (apply OpTo_buildSliceS (enc := encF82) (n := 1) [(s, { f with sh := { f.sh with ref := 1 - f.sh.ref } })]; exact rfl; exact rfl; exact rfl; exact List.cons_ne_nil _ _; exact rfl; exact rfl; exact rfl; exact rfl; exact (fun _ => rfl); exact rfl; exact rfl; intro bz hz1 hlez hs1; skip) | (apply OpTo_appendS (enc := encF82) (xs := ow) (ys := [(s, { f with sh := { f.sh with ref := 1 - f.sh.ref } })]); exact rfl; exact rfl; exact rfl; exact rfl; exact rfl; exact rfl; exact rfl; exact (hs1.le (by first | exact Le.refl _ | assumption | (repeat (first | assumption | (apply Le.trans; assumption))))); exact (fun _ => rfl); exact (fun x => allOne_ok (factC_one x.1 x.2)); intro v1; exact (by (repeat (first | exact Repl.here | apply Repl.there)); done); omega; exact rfl; intro A8 c8; skip))) | (apply GO_cond; exact rfl; all_goals intro hc; all_goals try simp only [ltI_t, ltI_f, leI_t, leI_f, eqI_t, eqI_f, Bool.not_eq_true', Bool.not_eq_false', decide_eq_true_eq, decide_eq_false_iff_not, reduceCtorEq] at hc; all_goals try (exfalso; omega)) | (apply GOl_split; exact rfl; exact rfl; all_goals intro hc; all_goals try simp only [ltI_t, ltI_f, leI_t, leI_f, eqI_t, eqI_f, Bool.not_eq_true', Bool.not_eq_false', decide_eq_true_eq, decide_eq_false_iff_not, reduceCtorEq] at hc; all_goals try (exfalso; omega)))
      all_goals first
        | (have h2 := ih (k + 1, ow ++ [(s, { f with sh := { f.sh with ref := 1 - f.sh.ref } })], A8, c8, hz1) ⟨by show k + 1 ≤ n; omega, by show ow ++ _ = _; rw [ht1, List.map_append, ← how]; show _ = ow ++ [(s, swapF f)]; rw [e], hlk.trans hlez⟩ (by show n - (k + 1) < n - k; omega)
           dsimp only at h2
           rw [List.length_append] at h2
           refine GO_fit (by (repeat (first | exact trivial | refine ⟨rfl, ?_⟩)); done) (by (repeat (first | exact Takes_nil | (apply Takes_cons; exact (by (repeat (first | exact Take.here | apply Take.there)); done)))); done) (h2))
        | (exfalso; omega)
       
    · have e := swapF_no hc3
      repeat' (first | apply GO_seq | apply GO_skip | apply GO_inBlock | apply GO_block | apply GO_region | apply GOl_nil | (apply GOl_unwanted; exact rfl; exact rfl) | (apply GOl_add; exact rfl; exact rfl; exact rfl; omega; exact rfl; exact rfl) | (apply GOl_pv; exact rfl; exact rfl; exact rfl) | (apply GOl_load; exact rfl; exact Ld_blk rfl (by (repeat (first | exact List.Mem.head _ | apply List.Mem.tail)); done) rfl; exact rfl; exact rfl) | (apply GOl_ov; exact rfl; exact rfl; (first | (apply OV_idxS (j := k); exact rfl; exact rfl; exact rfl; exact rfl; exact rfl; exact a1; (with_reducible exact rfl); omega) | (apply OV_load; exact rfl; exact Lv_ro rfl c1 rfl)); exact (by repeat' (first | exact trivial | apply And.intro | exact List.Mem.head _ | apply List.Mem.tail))) | (apply GOl_to; exact rfl; exact rfl; exact rfl; (first | (apply OpTo_store; exact rfl; exact rfl; exact rfl; exact (by (repeat (first | exact Repl.here | apply Repl.there)); done); exact rfl; exact rfl; exact rfl; skip) | (apply OpTo_alloc; exact rfl; intro b; skip) | (apply OpTo_buildSliceS (enc := encF82) (n := 1) [(s, f)]; exact rfl; exact rfl; exact rfl; exact List.cons_ne_nil _ _; exact rfl; exact rfl; exact rfl; exact rfl; exact (fun _ => rfl); exact rfl; exact rfl; intro bz hz1 hlez hs1; skip) | (apply OpTo_appendS (enc := encF82) (xs := ow) (ys := [(s, f)]); exact rfl; exact rfl; exact rfl; exact rfl; exact rfl; exact rfl; exact rfl; exact (hs1.le (by first | exact Le.refl _ | assumption | (repeat (first | assumption | (apply Le.trans; assumption))))); exact (fun _ => rfl); exact (fun x => allOne_ok (factC_one x.1 x.2)); intro v1; exact (by (repeat (first | exact Repl.here | apply Repl.there)); done); omega; exact rfl; intro A8 c8; skip))) | (apply GO_cond; exact rfl; all_goals intro hc; all_goals try simp only [ltI_t, ltI_f, leI_t, leI_f, eqI_t, eqI_f, Bool.not_eq_true', Bool.not_eq_false', decide_eq_true_eq, decide_eq_false_iff_not, reduceCtorEq] at hc; all_goals try (exfalso; omega)) | (apply GOl_split; exact rfl; exact rfl; all_goals intro hc; all_goals try simp only [ltI_t, ltI_f, leI_t, leI_f, eqI_t, eqI_f, Bool.not_eq_true', Bool.not_eq_false', decide_eq_true_eq, decide_eq_false_iff_not, reduceCtorEq] at hc; all_goals try (exfalso; omega)))
      all_goals first
        | (have h2 := ih (k + 1, ow ++ [(s, f)], A8, c8, hz1) ⟨by show k + 1 ≤ n; omega, by show ow ++ _ = _; rw [ht1, List.map_append, ← how]; show _ = ow ++ [(s, swapF f)]; rw [e], hlk.trans hlez⟩ (by show n - (k + 1) < n - k; omega)
           dsimp only at h2
           rw [List.length_append] at h2
           refine GO_fit (by (repeat (first | exact trivial | refine ⟨rfl, ?_⟩)); done) (by (repeat (first | exact Takes_nil | (apply Takes_cons; exact (by (repeat (first | exact Take.here | apply Take.there)); done)))); done) (h2))
        | (exfalso; omega)
       
  · have hkn2 : k = n := by omega
    subst hkn2
    rw [List.take_of_length_le (by omega)] at how
    repeat' (first | apply GO_seq | apply GO_region | apply GOl_nil | (apply GO_exit; exact rfl) | (apply GOl_pv; exact rfl; exact rfl; exact rfl) | (apply GO_cond; exact rfl; all_goals intro hc; all_goals try simp only [ltI_t, ltI_f, leI_t, leI_f, eqI_t, eqI_f, Bool.not_eq_true', Bool.not_eq_false', decide_eq_true_eq, decide_eq_false_iff_not, reduceCtorEq] at hc; all_goals try (exfalso; omega)))
    all_goals
      refine GO_relC (enc := encF82) (e := 64) (sz := 82) (n := ow.length) (xs := ow) (fun _ => rfl) rfl (by (repeat (first | exact Take.here | apply Take.there)); done) ?_
      intro A10 c10 h10 hle10 e10 hnc10 hsO
      injection e10 with e101 _ e103
      subst e101; subst e103
      (first | (apply GO_retR1; exact rfl; exact rfl; exact rfl))
      rw [hol] at hsO ⊢
      rw [how] at hsO
      exact ⟨_, _, rfl, hsO⟩


theorem referees9_c (h : Ro) (hG : PowG h) (A : Option Addr) (n c : Nat) (l : List (Fsh × Fct)) (hx : SlOf encF82 82 h A n l) (hf : ∀ p ∈ l, FAt h p.1 p.2) (hn : n ≤ 9223372036854775807) (g : FGame) : Val Tryz.prog 8 #[.slice A n c, gameV g] h (.bool true) := by
  refine Val_intro (args := [_, _]) ts_ok Go.Proofs.Tryz.func8 rfl rfl fun w0 X0 => ?_
  have hfew := fewF_c h A n c l hx hn 12
  have hsane := sane9_c h hG
  by_cases hF : (∀ p ∈ l, SmallS p.1 p.2) ∧ (n : Int) ≤ 12
  · rw [decide_eq_true hF] at hfew
    have hfa := factsOf hx hf hF.1 (by omega)
    have hn12 : n ≤ 12 := by omega
    have hlen := hx.len
    clear hF hn hf
    have hfw : ∀ h' B, Le h h' → SlOf encF82 82 h' B n (l.map swapP) → FactsAt h' B n (l.map swapP) := fun h' B hl hs => ⟨hs, fun p hp => by
      obtain ⟨q, hq, rfl⟩ := List.mem_map.1 hp
      exact ⟨((hfa.fat q hq).1.le hl).swap, (hfa.fat q hq).2.swap⟩, by omega⟩
    obtain ⟨k1, k2, k3⟩ := score_swap (cont l) g
    obtain ⟨x, hxe⟩ : ∃ x, x = scoreF (cont l) g := ⟨_, rfl⟩
    obtain ⟨y, hye⟩ : ∃ y, y = scoreF ((cont l).map swapF) g := ⟨_, rfl⟩
    obtain ⟨D, hDe⟩ : ∃ D, D = disputesL l := ⟨_, rfl⟩
    have hDl : D.length ≤ 1000000000 := by rw [hDe]; exact disputesL_len hfa
    rw [← hxe, ← hye] at k1 k2 k3
    have sc1 : ∀ h', Le h h' → Res Tryz.prog 18 #[.slice A n c, gameV g] h' (fun u h' => ∃ s, u = scoreV s x ∧ ShAt h' s x.sh ∧ ShSm x.sh) := fun h' hl' => by rw [hxe]; exact score2_c h' (hG.le hl') A n c l (hfa.le hl') g
    have sc2 : ∀ h' B d, Le h h' → SlOf encF82 82 h' B n (l.map swapP) → Res Tryz.prog 18 #[.slice B n d, gameV g] h' (fun u h' => ∃ s, u = scoreV s y ∧ ShAt h' s y.sh ∧ ShSm y.sh) := fun h' B d hl' hs => by rw [hye, ← cont_swap]; exact score2_c h' (hG.le hl') B n d (l.map swapP) (hfw h' B hl' hs) g
    have di1 : ∀ h', Le h h' → Res Tryz.prog 23 #[.slice A n c] h' (fun u h' => ∃ A c, u = .slice A D.length c ∧ SlOf gameC 4 h' A D.length D) := fun h' hl' => by rw [hDe]; exact disputes_c h' (hG.le hl') A n c l (hfa.le hl')
    have di2 : ∀ h' B d, Le h h' → SlOf encF82 82 h' B n (l.map swapP) → Res Tryz.prog 23 #[.slice B n d] h' (fun u h' => ∃ A c, u = .slice A D.length c ∧ SlOf gameC 4 h' A D.length D) := fun h' B d hl' hs => by rw [hDe, ← disputesL_swap]; exact disputes_c h' (hG.le hl') B n d (l.map swapP) (hfw h' B hl' hs)
    have sw := fun h' (hl' : Le h h') => swapped_c h' A n c l (hx.le hl') (by omega)
    clear hfa hfw hxe hye hDe
    obtain ⟨xk, xs, xd⟩ := x
    obtain ⟨yk, ys, yd⟩ := y
    dsimp only at k1 k2 k3 sc1 sc2
    subst k1; subst k2
    have sm : ∀ h' s t, ShAt h' s xs → ShSm xs → ShAt h' t ys → ShSm ys → Val Tryz.prog 15 #[sheetV s xs, sheetV t ys] h' (.bool true) := fun h' s t q1 q2 q3 q4 => by
      have := sameSh_c h' s xs q1 q2 t ys q3 q4
      rwa [decide_eq_true k3] at this
    repeat' (first | apply GO_seq | apply GO_skip | apply GO_region | apply GOl_nil | (apply GOl_pv; exact rfl; exact rfl; exact rfl) | (apply GOl_load; exact rfl; exact Ld_blk rfl (by (repeat (first | exact List.Mem.head _ | apply List.Mem.tail)); done) rfl; exact rfl; exact rfl) | (apply GOl_to; exact rfl; exact rfl; exact rfl; (first | (apply OpTo_box; exact rfl; intro b; skip) | (apply OpTo_val; exact rfl; exact has9; exact hsane; skip) | (apply OpTo_val; exact rfl; exact has10; exact hfew; skip) | (apply OpTo_res; exact rfl; exact has26; exact sw _ (by first | exact Le.refl _ | assumption | (repeat (first | assumption | (apply Le.trans; assumption)))); rintro v6 h6 hle6 ⟨A6, c6, rfl, hs6⟩; skip) | (apply OpTo_val; exact rfl; exact has15; exact sm _ s5 s7 (hs5.le (by first | exact Le.refl _ | assumption | (repeat (first | assumption | (apply Le.trans; assumption))))) hm5 (hs7.le (by first | exact Le.refl _ | assumption | (repeat (first | assumption | (apply Le.trans; assumption))))) hm7; skip) | (apply OpTo_res; exact rfl; exact has23; exact di1 _ (by first | exact Le.refl _ | assumption | (repeat (first | assumption | (apply Le.trans; assumption)))); rintro v8 h8 hle8 ⟨A8, c8, rfl, hs8⟩; skip) | (apply OpTo_res; exact rfl; exact has23; exact di2 _ _ _ (by first | exact Le.refl _ | assumption | (repeat (first | assumption | (apply Le.trans; assumption)))) (hs6.le (by first | exact Le.refl _ | assumption | (repeat (first | assumption | (apply Le.trans; assumption))))); rintro v11 h11 hle11 ⟨A11, c11, rfl, hs11⟩; skip) | (apply OpTo_val; exact rfl; exact has20; exact sameGames_t _ _ _ _ D (hs8.le (by first | exact Le.refl _ | assumption | (repeat (first | assumption | (apply Le.trans; assumption))))) hDl _ _ _ (hs11.le (by first | exact Le.refl _ | assumption | (repeat (first | assumption | (apply Le.trans; assumption))))) hDl; skip))) | (apply GO_drawp (n := 5) [0, 1, 2, 3, 4, 5, 6, 7, 8, 9, 10] [(0, 0), (1, 0), (3, 0), (5, 0), (2, 3), (58, 7), (21, 8), (4, 3), (27, 7), (14, 8), (6, 3), (8, 7), (8, 8), (7, 2), (3, 8), (8, 1), (9, 1), (10, 1), (7, 1), (9, 1), (10, 1), (6, 2), (3, 8), (8, 1), (9, 1), (10, 1), (6, 1), (9, 1), (10, 1), (6, 2), (3, 7), (7, 1), (9, 1), (10, 1), (6, 1), (9, 1), (10, 1), (4, 2), (8, 8), (6, 2), (3, 8), (8, 1), (9, 1), (10, 1), (6, 1), (9, 1), (10, 1), (4, 1), (6, 1), (9, 1), (10, 1), (4, 2), (8, 7), (6, 2), (3, 7), (7, 1), (9, 1), (10, 1), (6, 1), (9, 1), (10, 1), (4, 1), (6, 1), (9, 1), (10, 1), (2, 2), (14, 8), (4, 2), (8, 8), (6, 2), (3, 8), (8, 1), (9, 1), (10, 1), (6, 1), (9, 1), (10, 1), (4, 1), (6, 1), (9, 1), (10, 1), (2, 1), (4, 1), (6, 1), (9, 1), (10, 1), (2, 2), (14, 7), (4, 2), (8, 7), (6, 2), (3, 7), (7, 1), (9, 1), (10, 1), (6, 1), (9, 1), (10, 1), (4, 1), (6, 1), (9, 1), (10, 1), (2, 1), (4, 1), (6, 1), (9, 1), (10, 1)]; kernel_rfl) | (apply GP_pv; exact rfl; kernel_rfl; exact rfl; exact rfl; exact rfl) | (apply GP_loadB; exact rfl; kernel_rfl; exact rfl; exact rfl; exact rfl; exact (by (repeat (first | exact List.Mem.head _ | apply List.Mem.tail)); done); exact rfl; exact rfl) | (apply GP_real; exact rfl; kernel_rfl; exact rfl; exact rfl; exact rfl; (first | (apply OpTo_store; exact rfl; exact rfl; exact rfl; exact (by (repeat (first | exact Repl.here | apply Repl.there)); done); exact rfl; exact rfl; exact rfl; refine ⟨Le.refl _, by (first | exact NdOk_no rfl | (apply NdOk_all; (repeat' (first | exact trivial | apply And.intro | exact List.Mem.head _ | apply List.Mem.tail)); done) | (apply NdOk_need; (repeat' (first | exact trivial | apply And.intro | exact List.Mem.head _ | apply List.Mem.tail)); done)), ?_⟩) | (apply OpTo_alloc; exact rfl; intro b; refine ⟨Le.refl _, by (first | exact NdOk_no rfl | (apply NdOk_all; (repeat' (first | exact trivial | apply And.intro | exact List.Mem.head _ | apply List.Mem.tail)); done) | (apply NdOk_need; (repeat' (first | exact trivial | apply And.intro | exact List.Mem.head _ | apply List.Mem.tail)); done)), ?_⟩) | (apply OpTo_res; exact rfl; exact has18; exact sc1 _ (by first | exact Le.refl _ | assumption | (repeat (first | assumption | (apply Le.trans; assumption)))); rintro v5 h5 hle5 ⟨s5, rfl, hs5, hm5⟩; refine ⟨hle5, by (first | exact NdOk_no rfl | (apply NdOk_all; (repeat' (first | exact trivial | apply And.intro | exact List.Mem.head _ | apply List.Mem.tail)); done) | (apply NdOk_need; (repeat' (first | exact trivial | apply And.intro | exact List.Mem.head _ | apply List.Mem.tail)); done)), ?_⟩) | (apply OpTo_res; exact rfl; exact has26; exact sw _ (by first | exact Le.refl _ | assumption | (repeat (first | assumption | (apply Le.trans; assumption)))); rintro v6 h6 hle6 ⟨A6, c6, rfl, hs6⟩; refine ⟨hle6, by (first | exact NdOk_no rfl | (apply NdOk_all; (repeat' (first | exact trivial | apply And.intro | exact List.Mem.head _ | apply List.Mem.tail)); done) | (apply NdOk_need; (repeat' (first | exact trivial | apply And.intro | exact List.Mem.head _ | apply List.Mem.tail)); done)), ?_⟩) | (apply OpTo_res; exact rfl; exact has18; exact sc2 _ _ _ (by first | exact Le.refl _ | assumption | (repeat (first | assumption | (apply Le.trans; assumption)))) (hs6.le (by first | exact Le.refl _ | assumption | (repeat (first | assumption | (apply Le.trans; assumption))))); rintro v7 h7 hle7 ⟨s7, rfl, hs7, hm7⟩; refine ⟨hle7, by (first | exact NdOk_no rfl | (apply NdOk_all; (repeat' (first | exact trivial | apply And.intro | exact List.Mem.head _ | apply List.Mem.tail)); done) | (apply NdOk_need; (repeat' (first | exact trivial | apply And.intro | exact List.Mem.head _ | apply List.Mem.tail)); done)), ?_⟩))) | (apply GP_two; kernel_rfl; exact rfl; exact rfl) | (apply RealP_intro; exact rfl; exact rfl; exact rfl; exact rfl; (first | (apply OpTo_alloc; exact rfl; intro b; refine ⟨Le.refl _, by (first | exact NdOk_no rfl | (apply NdOk_all; (repeat' (first | exact trivial | apply And.intro | exact List.Mem.head _ | apply List.Mem.tail)); done) | (apply NdOk_need; (repeat' (first | exact trivial | apply And.intro | exact List.Mem.head _ | apply List.Mem.tail)); done)), ?_⟩) | (apply OpTo_res; exact rfl; exact has18; exact sc1 _ (by first | exact Le.refl _ | assumption | (repeat (first | assumption | (apply Le.trans; assumption)))); rintro v5 h5 hle5 ⟨s5, rfl, hs5, hm5⟩; refine ⟨hle5, by (first | exact NdOk_no rfl | (apply NdOk_all; (repeat' (first | exact trivial | apply And.intro | exact List.Mem.head _ | apply List.Mem.tail)); done) | (apply NdOk_need; (repeat' (first | exact trivial | apply And.intro | exact List.Mem.head _ | apply List.Mem.tail)); done)), ?_⟩) | (apply OpTo_res; exact rfl; exact has26; exact sw _ (by first | exact Le.refl _ | assumption | (repeat (first | assumption | (apply Le.trans; assumption)))); rintro v6 h6 hle6 ⟨A6, c6, rfl, hs6⟩; refine ⟨hle6, by (first | exact NdOk_no rfl | (apply NdOk_all; (repeat' (first | exact trivial | apply And.intro | exact List.Mem.head _ | apply List.Mem.tail)); done) | (apply NdOk_need; (repeat' (first | exact trivial | apply And.intro | exact List.Mem.head _ | apply List.Mem.tail)); done)), ?_⟩) | (apply OpTo_res; exact rfl; exact has18; exact sc2 _ _ _ (by first | exact Le.refl _ | assumption | (repeat (first | assumption | (apply Le.trans; assumption)))) (hs6.le (by first | exact Le.refl _ | assumption | (repeat (first | assumption | (apply Le.trans; assumption))))); rintro v7 h7 hle7 ⟨s7, rfl, hs7, hm7⟩; refine ⟨hle7, by (first | exact NdOk_no rfl | (apply NdOk_all; (repeat' (first | exact trivial | apply And.intro | exact List.Mem.head _ | apply List.Mem.tail)); done) | (apply NdOk_need; (repeat' (first | exact trivial | apply And.intro | exact List.Mem.head _ | apply List.Mem.tail)); done)), ?_⟩))) | (apply GP_done; kernel_rfl; exact rfl) | (apply GO_cond; exact rfl; all_goals intro hc; all_goals try simp only [ltI_t, ltI_f, leI_t, leI_f, eqI_t, eqI_f, Bool.not_eq_true', Bool.not_eq_false', decide_eq_true_eq, decide_eq_false_iff_not, reduceCtorEq] at hc; all_goals try (exfalso; omega)) | (apply GOl_split; exact rfl; exact rfl; all_goals intro hc; all_goals try simp only [ltI_t, ltI_f, leI_t, leI_f, eqI_t, eqI_f, Bool.not_eq_true', Bool.not_eq_false', decide_eq_true_eq, decide_eq_false_iff_not, reduceCtorEq] at hc; all_goals try (exfalso; omega)) | (apply GO_retV1; exact rfl; exact rfl; exact rfl) | (apply GP_three; kernel_rfl; exact rfl; exact rfl; exact rfl; exact rfl))
    all_goals first | rfl | (simp [eqI_eq]; done) | (simp at hc; done)
  · rw [decide_eq_false hF] at hfew
    repeat' (first | apply GO_seq | apply GO_skip | apply GO_region | apply GOl_nil | (apply GOl_pv; exact rfl; exact rfl; exact rfl) | (apply GOl_to; exact rfl; exact rfl; exact rfl; (first | (apply OpTo_box; exact rfl; intro b; skip) | (apply OpTo_val; exact rfl; exact has9; exact hsane; skip) | (apply OpTo_val; exact rfl; exact has10; exact hfew; skip))) | (apply GO_cond; exact rfl; all_goals intro hc; all_goals try simp only [ltI_t, ltI_f, leI_t, leI_f, eqI_t, eqI_f, Bool.not_eq_true', Bool.not_eq_false', decide_eq_true_eq, decide_eq_false_iff_not, reduceCtorEq] at hc; all_goals try (exfalso; omega)) | (apply GO_retV1; exact rfl; exact rfl; exact rfl))
    all_goals rfl
end Go.Hw

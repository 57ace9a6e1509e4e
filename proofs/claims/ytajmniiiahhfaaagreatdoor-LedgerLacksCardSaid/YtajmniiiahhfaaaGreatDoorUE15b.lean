import Derived.Test.YtajmniiiahhfaaaGreatDoorUE14b
/-
  law08: Lacks, walked.
-/
set_option linter.unusedVariables false
set_option linter.unusedSimpArgs false
set_option maxRecDepth 100000
set_option maxHeartbeats 8000000
namespace Go.Hw
open Go
attribute [local irreducible] GO GOl GDp Val Fn Res CellsAt ValE Blk OwnS MapA OwnPf Has Yl idF
open Go.Proofs (Tryz.prog)

open Classical in
theorem missL_cons (a : List Fct) (f : Fct) (r : List Fct) : missL a (f :: r) = if f ∈ a then missL a r else f :: missL a r := by
  unfold missL
  by_cases h : f ∈ a <;> simp [h]
theorem lacks_at {a : List Fct} {r : List (Fsh × Fct)} {p : Fsh × Fct} {r1 r2 : List (Fsh × Fct)} (e : r = r1 ++ p :: r2) (hp : p.2 ∉ a) : ((missL a (fcs r)).map idF).getD (missL a (fcs r1)).length [] = idF p.2 ∧ (missL a (fcs r1)).length < (missL a (fcs r)).length := by
  have e2 : missL a (fcs r) = missL a (fcs r1) ++ p.2 :: missL a (fcs r2) := by
    rw [e]
    have : fcs (r1 ++ p :: r2) = fcs r1 ++ p.2 :: fcs r2 := by unfold fcs; rw [List.map_append, List.map_cons]
    rw [this]
    have q : missL a (fcs r1 ++ p.2 :: fcs r2) = missL a (fcs r1) ++ missL a (p.2 :: fcs r2) := by unfold missL; rw [List.filter_append]
    rw [q, missL_cons, if_neg hp]
  rw [e2]
  constructor
  · simp [List.getD]
  · simp
open Classical in
theorem missE_ok {a b : List Fct} (ha : LedOk a) (hb : LedOk b) : missE a b = ((missL a b).map idF, 0) := by
  unfold missE; rw [if_neg (by rw [ledE_zero.2 ha]; omega), if_neg (by rw [ledE_zero.2 hb]; omega)]
theorem fcs32 {h : Ro} {A : Option Addr} {n : Nat} {l : List (Fsh × Fct)} (a : FactsAt h A n l) : In32 (fcs l) := fun f hf => by
  obtain ⟨p, hp, rfl⟩ := List.mem_map.1 hf
  exact (a.fat p hp).1.void
theorem fcs_len {l : List (Fsh × Fct)} : (fcs l).length = l.length := by unfold fcs; exact List.length_map ..


theorem lacks_law (h : Ro) (hG : PowG h) (A : Option Addr) (n c : Nat) (l : List (Fsh × Fct)) (hx : LedIn h A n c l) (B : Option Addr) (m d : Nat) (r : List (Fsh × Fct)) (hy : LedIn h B m d r) : Val Tryz.prog 13 #[ledV A n c, ledV B m d] h (.bool true) := by
  refine Val_intro (args := [_, _]) ts_ok Go.Proofs.Tryz.func13 rfl rfl fun w0 X0 => ?_
  have hsane := sane8_c h hG
  have hrow := hx.row
  have hsm := hx.small
  have hrow2 := hy.row
  have hsm2 := hy.small
  obtain ⟨e, he⟩ : ∃ e, e = ledE (fcs l) := ⟨_, rfl⟩
  have hck : (n : Int) ≤ 14 → ∀ h', Le h h' → Res Tryz.prog 35 #[ledV A n c] h' (fun u _ => u = .int .i64 e) := fun hn h' hl => by rw [he]; exact checkL_c h' (hG.le hl) A n c l ((hx.facts hn).le hl)
  obtain ⟨g, hge⟩ : ∃ g, g = ledE (fcs r) := ⟨_, rfl⟩
  have hcm : (m : Int) ≤ 14 → ∀ h', Le h h' → Res Tryz.prog 35 #[ledV B m d] h' (fun u _ => u = .int .i64 g) := fun hn h' hl => by rw [hge]; exact checkL_c h' (hG.le hl) B m d r ((hy.facts hn).le hl)
  by_cases h00 : e = 0 ∧ g = 0
  · obtain ⟨h0, h1⟩ := h00
    have hok := ledE_zero.1 (he ▸ h0)
    have hok2 := ledE_zero.1 (hge ▸ h1)
    obtain ⟨X, hX⟩ : ∃ X, X = missL (fcs l) (fcs r) := ⟨_, rfl⟩
    have hms := fun (hn : (n : Int) ≤ 14) (hm : (m : Int) ≤ 14) (h' : Ro) (hl : Le h h') => missing_c h' (hG.le hl) A n c l ((hx.facts hn).le hl) B m d r ((hy.facts hm).le hl)
    simp only [missE_ok hok hok2, ← hX] at hms
    have hmg : (n : Int) ≤ 14 → (m : Int) ≤ 14 → ∀ h', Le h h' → Res Tryz.prog 42 #[ledV A n c, ledV B m d] h' (fun u h2 => ∃ A2 c2 l2, u = .tuple #[ledV A2 (n + X.length) c2, .int .i64 0] ∧ n + X.length ≤ 28 ∧ FactsAt h2 A2 (n + X.length) l2 ∧ LedOk (fcs l2) ∧ (∀ f ∈ fcs l, f ∈ fcs l2) ∧ ∀ f ∈ fcs r, f ∈ fcs l2) := fun hn hm h' hl => by
      have ha := hx.facts hn
      have hb := hy.facts hm
      refine (mergeLed_c h' (hG.le hl) A n c l (ha.le hl) hx.cap B m d r (hb.le hl) hy.cap).mono ?_
      rintro u h2 _ ⟨v, rfl, A2, k2, c2, l2, rfl, hkc, hla, hf⟩
      have hul := unionL_len (fcs32 ha) (fcs32 hb) hok.2.1 hok2.2.1 hok.2.2 hok2.2.2
      obtain ⟨q1, q2⟩ := unionL_spec (fcs32 ha) (fcs32 hb)
      have hl1 := ha.len
      have hl2 := hb.len
      have hxl : X.length ≤ m := by
        rw [hX, ← hl2]; exact List.length_filter_le _ _
      have hme : mergeL (fcs l) (fcs r) = (unionL (fcs l) (fcs r), 0) := by
        unfold mergeL
        rw [if_neg (by rw [← he]; omega), if_neg (by rw [← hge]; omega), lim1 _ (by rw [hul, ← hX]; omega)]
      rw [hme] at hf ⊢
      have hk := hla.facts.len
      rw [hf, hul, ← hX, hl1] at hk
      subst hk
      refine ⟨A2, c2, l2, rfl, by omega, hla.facts, ?_, ?_, ?_⟩
      · rw [hf]
        exact ⟨by rw [hul, ← hX]; omega, fun f hf => ((q2 f).1 hf).2, q1⟩
      · intro f hf2; rw [hf]; exact (q2 f).2 ⟨.inl hf2, hok.2.1 f hf2⟩
      · intro f hf2; rw [hf]; exact (q2 f).2 ⟨.inr hf2, hok2.2.1 f hf2⟩
    have hz : ∀ (h' : Ro), Le h h' → ∀ (A2 : Option Addr) (k2 c2 : Nat) (l2 : List (Fsh × Fct)), FactsAt h' A2 k2 l2 → LedOk (fcs l2) → ∀ (B : Option Addr) (m d : Nat) (r : List (Fsh × Fct)), FactsAt h' B m r → LedOk (fcs r) → (∀ f ∈ fcs r, f ∈ fcs l2) → Res Tryz.prog 49 #[ledV A2 k2 c2, ledV B m d] h' (fun u _ => ∃ A c, u = .tuple #[.slice A 0 c, .int .i64 0]) := fun h' hl A2 k2 c2 l2 hx2 ho2 B m d r hyr hor hsub => by
      refine (missing_c h' (hG.le hl) A2 k2 c2 l2 hx2 B m d r hyr).mono ?_
      rintro u h2 _ ⟨A9, k9, c9, rfl, hs9, hk9⟩
      rw [missE_ok ho2 hor, missL_none hsub] at hs9 ⊢
      have : k9 = 0 := hs9.len.symm
      subst this
      exact ⟨A9, c9, rfl⟩
    repeat' (first | apply GO_seq | apply GO_skip | apply GO_block | apply GO_region | apply GOl_nil | (apply GOl_unwanted; exact rfl; exact rfl) | (apply GOl_add; exact rfl; exact rfl; exact rfl; omega; exact rfl; exact rfl) | (apply GOl_pv; exact rfl; exact rfl; exact rfl) | (apply GOl_load; exact rfl; exact Ld_blk rfl (by (repeat (first | exact List.Mem.head _ | apply List.Mem.tail)); done) rfl; exact rfl; exact rfl) | (apply GOl_to; exact rfl; exact rfl; exact rfl; (first | (apply OpTo_store; exact rfl; exact rfl; exact rfl; exact (by (repeat (first | exact Repl.here | apply Repl.there)); done); exact rfl; exact rfl; exact rfl; skip) | (apply OpTo_box; exact rfl; intro b; skip) | (apply OpTo_alloc; exact rfl; intro b; skip) | (apply OpTo_val; exact rfl; exact has30; exact hsane; skip) | (apply OpTo_res; exact rfl; exact has31; exact few8_c _ A n c l (hrow.le (by first | exact Le.refl _ | assumption | (repeat (first | assumption | (apply Le.trans; assumption))))) hsm 14; rintro w1 h1 hle1 ⟨b, rfl, hb⟩; cases b; all_goals skip) | (apply OpTo_res; exact rfl; exact has31; exact few8_c _ B m d r (hrow2.le (by first | exact Le.refl _ | assumption | (repeat (first | assumption | (apply Le.trans; assumption))))) hsm2 14; rintro w1 h1 hle1 ⟨b, rfl, hb2⟩; cases b; all_goals skip) | (apply OpTo_res; exact rfl; exact has35; exact hck (hb rfl) _ (by first | exact Le.refl _ | assumption | (repeat (first | assumption | (apply Le.trans; assumption)))); rintro w2 h2 hle2 rfl; skip) | (apply OpTo_res; exact rfl; exact has35; exact hcm (hb2 rfl) _ (by first | exact Le.refl _ | assumption | (repeat (first | assumption | (apply Le.trans; assumption)))); rintro w2 h2 hle2 rfl; skip) | (apply OpTo_res; exact rfl; exact has49; exact hms (hb rfl) (hb2 rfl) _ (by first | exact Le.refl _ | assumption | (repeat (first | assumption | (apply Le.trans; assumption)))); rintro w3 h3 hle3 ⟨A3, k3, c3, rfl, hs3, hk3⟩; (have hz3 : k3 = X.length := (by rw [← hs3.len, List.length_map])); subst hz3; skip) | (apply OpTo_res; exact rfl; exact has42; exact hmg (hb rfl) (hb2 rfl) _ (by first | exact Le.refl _ | assumption | (repeat (first | assumption | (apply Le.trans; assumption)))); rintro w4 h4 hle4 ⟨A4, c4, l4, rfl, hk4, hx4, ho4, ha4, hb4⟩; skip) | (apply OpTo_res; exact rfl; exact has49; (first | exact hz _ (by first | exact Le.refl _ | assumption | (repeat (first | assumption | (apply Le.trans; assumption)))) _ _ _ l4 (hx4.le (by first | exact Le.refl _ | assumption | (repeat (first | assumption | (apply Le.trans; assumption))))) ho4 B m d r ((hy.facts (hb2 rfl)).le (by first | exact Le.refl _ | assumption | (repeat (first | assumption | (apply Le.trans; assumption))))) hok2 hb4 | exact hz _ (by first | exact Le.refl _ | assumption | (repeat (first | assumption | (apply Le.trans; assumption)))) _ _ _ l4 (hx4.le (by first | exact Le.refl _ | assumption | (repeat (first | assumption | (apply Le.trans; assumption))))) ho4 A n c l ((hx.facts (hb rfl)).le (by first | exact Le.refl _ | assumption | (repeat (first | assumption | (apply Le.trans; assumption))))) hok ha4); rintro w5 h5 hle5 ⟨A5, c5, rfl⟩; skip))) | (apply GO_cond; exact rfl; all_goals intro hc; all_goals try simp only [ltI_t, ltI_f, leI_t, leI_f, eqI_t, eqI_f, Bool.not_eq_true', Bool.not_eq_false', decide_eq_true_eq, decide_eq_false_iff_not, reduceCtorEq] at hc; all_goals try (exfalso; omega)) | (apply GOl_split; exact rfl; exact rfl; all_goals intro hc; all_goals try simp only [ltI_t, ltI_f, leI_t, leI_f, eqI_t, eqI_f, Bool.not_eq_true', Bool.not_eq_false', decide_eq_true_eq, decide_eq_false_iff_not, reduceCtorEq] at hc; all_goals try (exfalso; omega)))
    all_goals (try (first | (exfalso; omega) | ((first | (apply GO_retV1; exact rfl; exact rfl; exact rfl)); rfl)))
    have hq3 : SlOf voidC 32 h5 A3 X.length (X.map idF) := hs3.le (by first | exact Le.refl _ | assumption | (repeat (first | assumption | (apply Le.trans; assumption))))
    have hh5 : Le h h5 := (by first | exact Le.refl _ | assumption | (repeat (first | assumption | (apply Le.trans; assumption))))
    have hfm := hy.facts (hb2 rfl)
    have hlem := hy.row.len
    clear hz hmg hms hck hcm hsane
    refine GO_loopT (X := Nat × Nat × Ro) (fun x => x.1 ≤ m ∧ (missL (fcs l) (fcs (r.take x.1))).length ≤ x.2.1 ∧ x.2.1 ≤ X.length ∧ Le h5 x.2.2) (fun x => m - x.1)
      (fun x => [(103, .int .i64 x.1), (102, .int .i64 m), (101, .slice B m d), (13, .int .i64 x.2.1), (5, .slice A3 X.length c3)])
      (fun _ => []) (fun x => x.2.2) (0, 0, h5) ⟨by dsimp only; omega, by dsimp only; simp [fcs, missL], by dsimp only; omega, Le.refl _⟩ (by (repeat (first | exact trivial | refine ⟨rfl, ?_⟩)); done) (by (repeat (first | exact Takes_nil | (apply Takes_cons; exact (by (repeat (first | exact Take.here | apply Take.there)); done)))); done) rfl ?_
    rintro ⟨k, j, hk⟩ ⟨hkm, hcj, hjX, hlk⟩ ih
    dsimp only at hkm hcj hjX hlk ih ⊢
    by_cases hkm2 : k < m
    · have a1 := hrow2.addrD hkm2
      have c1 := (hrow2.cellsD p0 hkm2).le (hh5.trans hlk)
      have hsplit := take_split p0 (l := r) rfl (show k < r.length by omega)
      have et := take7 p0 (xs := r) rfl (show k < r.length by omega)
      have hfp := hfm.fat _ (mem7 p0 (show k < r.length by omega))
      have hokp := hok2.2.1 _ (List.mem_map.2 ⟨_, mem7 p0 (show k < r.length by omega), rfl⟩)
      generalize r.getD k p0 = p at *
      have hid : ∀ h', Le h h' → Res Tryz.prog 38 #[factV p.1 p.2] h' fun u _ => u = .tuple #[digV (idF p.2), .int .i64 0] := fun h' hl => id2_c h' (hG.le hl) p.1 p.2 (hfp.1.le hl) hfp.2 hokp
      have hc1 : (missL (fcs l) (fcs (r.take (k + 1)))).length = (missL (fcs l) (fcs (r.take k))).length ∨ ((missL (fcs l) (fcs (r.take (k + 1)))).length = (missL (fcs l) (fcs (r.take k))).length + 1 ∧ (X.map idF).getD (missL (fcs l) (fcs (r.take k))).length [] = idF p.2 ∧ (missL (fcs l) (fcs (r.take k))).length < X.length) := by
        have hto : fcs (r.take (k + 1)) = fcs (r.take k) ++ [p.2] := by rw [et]; unfold fcs; rw [List.map_append]; rfl
        rw [hto, missL_snoc, missL_one]
        by_cases hin : p.2 ∈ fcs l
        · rw [if_pos hin, List.append_nil]; exact .inl rfl
        · obtain ⟨q1, q2⟩ := lacks_at (a := fcs l) hsplit hin
          rw [← hX] at q1 q2
          rw [if_neg hin, List.length_append]
          exact .inr ⟨rfl, q1, q2⟩
      generalize hcn1 : (missL (fcs l) (fcs (r.take (k + 1)))).length = cnt1 at hc1
      generalize (missL (fcs l) (fcs (r.take k))).length = cnt at hc1 hcj
      by_cases hj : j < X.length
      · have a3 := hq3.addrD hj
        have c3' := (hq3.cellsD [] hj).le hlk
        obtain ⟨w, hw⟩ : ∃ w, w = (X.map idF).getD j [] := ⟨_, rfl⟩
        have hw32 : w.length = 32 := by
          rw [hw]
          have := mem7 (xs := X.map idF) [] (show j < (X.map idF).length by rw [List.length_map]; exact hj)
          obtain ⟨y, _, e⟩ := List.mem_map.1 this
          rw [← e]; exact idF_len y
        rw [← hw] at c3'
        repeat' (first | apply GO_seq | apply GO_skip | apply GO_inBlock | apply GO_block | apply GO_region | apply GOl_nil | (apply GOl_add; exact rfl; exact rfl; exact rfl; omega; exact rfl; exact rfl) | (apply GOl_pv; exact rfl; exact rfl; exact rfl) | (apply GOl_load; exact rfl; exact Ld_blk rfl (by (repeat (first | exact List.Mem.head _ | apply List.Mem.tail)); done) rfl; exact rfl; exact rfl) | (apply GOl_ov; exact rfl; exact rfl; (first | (apply OV_idxS (j := k); exact rfl; exact rfl; exact rfl; exact rfl; exact rfl; exact a1; (with_reducible exact rfl); omega) | (apply OV_load; exact rfl; exact Lv_ro rfl c1 rfl)); exact (by repeat' (first | exact trivial | apply And.intro | exact List.Mem.head _ | apply List.Mem.tail))) | (apply GOl_to; exact rfl; exact rfl; exact rfl; (first | (apply OpTo_store; exact rfl; exact rfl; exact rfl; exact (by (repeat (first | exact Repl.here | apply Repl.there)); done); exact rfl; exact rfl; exact rfl; skip) | (apply OpTo_alloc; exact rfl; intro b; skip) | (apply OpTo_res; exact rfl; exact has38; exact hid _ (by first | exact Le.refl _ | assumption | (repeat (first | assumption | (apply Le.trans; assumption)))); rintro vi hi1 hle2 rfl; skip))) | (apply GO_drawp (n := 18) [0, 1, 2, 3, 4, 5, 6, 7, 8, 9, 10, 11] [(0, 0), (1, 0), (2, 0), (3, 0), (4, 0), (5, 0), (6, 0), (7, 0), (8, 0), (9, 0), (10, 0), (11, 0)]; kernel_rfl) | (apply GP_pv; exact rfl; kernel_rfl; exact rfl; exact rfl; exact rfl) | (apply GP_loadB; exact rfl; kernel_rfl; exact rfl; exact rfl; exact rfl; exact (by (repeat (first | exact List.Mem.head _ | apply List.Mem.tail)); done); exact rfl; exact rfl) | (apply GP_ov; exact rfl; kernel_rfl; exact rfl; exact rfl; (first | (apply OV_idxS (j := j); exact rfl; exact rfl; exact rfl; exact rfl; exact rfl; exact a3; (with_reducible exact rfl); omega) | (apply OV_load; exact rfl; exact Lv_ro rfl (c3'.le (by first | exact Le.refl _ | assumption | (repeat (first | assumption | (apply Le.trans; assumption))))) rfl) | (apply OV_eqlV; exact rfl; exact rfl; exact void_eq w (idF p.2) hw32 (idF_len _); kernel_rfl; kernel_rfl)); exact (by repeat' (first | exact trivial | apply And.intro | exact List.Mem.head _ | apply List.Mem.tail))) | (apply GP_done; kernel_rfl; exact rfl) | (apply GP_split; exact rfl; exact rfl; exact rfl; exact rfl; exact rfl; all_goals intro hc; all_goals try simp only [ltI_t, ltI_f, leI_t, leI_f, eqI_t, eqI_f, Bool.not_eq_true', Bool.not_eq_false', decide_eq_true_eq, decide_eq_false_iff_not, reduceCtorEq] at hc; all_goals try (exfalso; omega)) | (apply GO_cond; exact rfl; all_goals intro hc; all_goals try simp only [ltI_t, ltI_f, leI_t, leI_f, eqI_t, eqI_f, Bool.not_eq_true', Bool.not_eq_false', decide_eq_true_eq, decide_eq_false_iff_not, reduceCtorEq] at hc; all_goals try (exfalso; omega)))
        · have h3 := ih (k + 1, j + 1, hi1) ⟨by dsimp only; omega, by dsimp only; rw [hcn1]; omega, by dsimp only; omega, by dsimp only; exact hlk.trans hle2⟩ (by dsimp only; omega)
          dsimp only at h3
          refine GO_fit (by (repeat (first | exact trivial | refine ⟨rfl, ?_⟩)); done) (by (repeat (first | exact Takes_nil | (apply Takes_cons; exact (by (repeat (first | exact Take.here | apply Take.there)); done)))); done) (h3)
        · have hj9 : cnt1 ≤ j := by
            rcases hc1 with q | ⟨q1, q2, q3⟩
            · omega
            · by_cases hcq : cnt = j
              · rw [hcq] at q2
                exact absurd (hw.trans q2) hc
              · omega
          have h3 := ih (k + 1, j, hi1) ⟨by dsimp only; omega, by dsimp only; rw [hcn1]; omega, by dsimp only; omega, by dsimp only; exact hlk.trans hle2⟩ (by dsimp only; omega)
          dsimp only at h3
          refine GO_fit (by (repeat (first | exact trivial | refine ⟨rfl, ?_⟩)); done) (by (repeat (first | exact Takes_nil | (apply Takes_cons; exact (by (repeat (first | exact Take.here | apply Take.there)); done)))); done) (h3)
      · repeat' (first | apply GO_seq | apply GO_skip | apply GO_inBlock | apply GO_block | apply GO_region | apply GOl_nil | (apply GOl_add; exact rfl; exact rfl; exact rfl; omega; exact rfl; exact rfl) | (apply GOl_pv; exact rfl; exact rfl; exact rfl) | (apply GOl_load; exact rfl; exact Ld_blk rfl (by (repeat (first | exact List.Mem.head _ | apply List.Mem.tail)); done) rfl; exact rfl; exact rfl) | (apply GOl_ov; exact rfl; exact rfl; (first | (apply OV_idxS (j := k); exact rfl; exact rfl; exact rfl; exact rfl; exact rfl; exact a1; (with_reducible exact rfl); omega) | (apply OV_load; exact rfl; exact Lv_ro rfl c1 rfl)); exact (by repeat' (first | exact trivial | apply And.intro | exact List.Mem.head _ | apply List.Mem.tail))) | (apply GOl_to; exact rfl; exact rfl; exact rfl; (first | (apply OpTo_store; exact rfl; exact rfl; exact rfl; exact (by (repeat (first | exact Repl.here | apply Repl.there)); done); exact rfl; exact rfl; exact rfl; skip) | (apply OpTo_alloc; exact rfl; intro b; skip) | (apply OpTo_res; exact rfl; exact has38; exact hid _ (by first | exact Le.refl _ | assumption | (repeat (first | assumption | (apply Le.trans; assumption)))); rintro vi hi1 hle2 rfl; skip))) | (apply GO_drawp (n := 18) [0, 1, 2, 3, 4, 5, 6, 7, 8, 9, 10, 11] [(0, 0), (1, 0), (2, 0), (3, 0), (4, 0), (5, 0), (6, 0), (7, 0), (8, 0), (9, 0), (10, 0), (11, 0)]; kernel_rfl) | (apply GP_un; exact rfl; kernel_rfl; exact rfl; exact rfl) | (apply GP_pv; exact rfl; kernel_rfl; exact rfl; exact rfl; exact rfl) | (apply GP_done; kernel_rfl; exact rfl) | (apply GP_split; exact rfl; exact rfl; exact rfl; exact rfl; exact rfl; all_goals intro hc; all_goals try simp only [ltI_t, ltI_f, leI_t, leI_f, eqI_t, eqI_f, Bool.not_eq_true', Bool.not_eq_false', decide_eq_true_eq, decide_eq_false_iff_not, reduceCtorEq] at hc; all_goals try (exfalso; omega)) | (apply GO_cond; exact rfl; all_goals intro hc; all_goals try simp only [ltI_t, ltI_f, leI_t, leI_f, eqI_t, eqI_f, Bool.not_eq_true', Bool.not_eq_false', decide_eq_true_eq, decide_eq_false_iff_not, reduceCtorEq] at hc; all_goals try (exfalso; omega)))
        all_goals
          have h3 := ih (k + 1, j, hi1) ⟨by dsimp only; omega, by dsimp only; rw [hcn1]; omega, by dsimp only; omega, by dsimp only; exact hlk.trans hle2⟩ (by dsimp only; omega)
          dsimp only at h3
          refine GO_fit (by (repeat (first | exact trivial | refine ⟨rfl, ?_⟩)); done) (by (repeat (first | exact Takes_nil | (apply Takes_cons; exact (by (repeat (first | exact Take.here | apply Take.there)); done)))); done) (h3)
    · rw [List.take_of_length_le (show r.length ≤ k by omega), ← hX] at hcj
      clear ih
      repeat' (first | apply GO_seq | apply GO_region | apply GOl_nil | (apply GO_exit; exact rfl) | (apply GOl_pv; exact rfl; exact rfl; exact rfl) | (apply GO_cond; exact rfl; all_goals intro hc; all_goals try simp only [ltI_t, ltI_f, leI_t, leI_f, eqI_t, eqI_f, Bool.not_eq_true', Bool.not_eq_false', decide_eq_true_eq, decide_eq_false_iff_not, reduceCtorEq] at hc; all_goals try (exfalso; omega)))
      all_goals
        (first | (apply GO_retV1; exact rfl; exact rfl; exact rfl))
        rw [show j = X.length from by omega]
        simp [eqI_eq]
  · repeat' (first | apply GO_seq | apply GO_skip | apply GO_region | apply GOl_nil | (apply GOl_unwanted; exact rfl; exact rfl) | (apply GOl_pv; exact rfl; exact rfl; exact rfl) | (apply GOl_load; exact rfl; exact Ld_blk rfl (by (repeat (first | exact List.Mem.head _ | apply List.Mem.tail)); done) rfl; exact rfl; exact rfl) | (apply GOl_to; exact rfl; exact rfl; exact rfl; (first | (apply OpTo_box; exact rfl; intro b; skip) | (apply OpTo_val; exact rfl; exact has30; exact hsane; skip) | (apply OpTo_res; exact rfl; exact has31; exact few8_c _ A n c l (hrow.le (by first | exact Le.refl _ | assumption | (repeat (first | assumption | (apply Le.trans; assumption))))) hsm 14; rintro w1 h1 hle1 ⟨b, rfl, hb⟩; cases b; all_goals skip) | (apply OpTo_res; exact rfl; exact has31; exact few8_c _ B m d r (hrow2.le (by first | exact Le.refl _ | assumption | (repeat (first | assumption | (apply Le.trans; assumption))))) hsm2 14; rintro w1 h1 hle1 ⟨b, rfl, hb2⟩; cases b; all_goals skip) | (apply OpTo_res; exact rfl; exact has35; exact hck (hb rfl) _ (by first | exact Le.refl _ | assumption | (repeat (first | assumption | (apply Le.trans; assumption)))); rintro w2 h2 hle2 rfl; skip) | (apply OpTo_res; exact rfl; exact has35; exact hcm (hb2 rfl) _ (by first | exact Le.refl _ | assumption | (repeat (first | assumption | (apply Le.trans; assumption)))); rintro w2 h2 hle2 rfl; skip))) | (apply GO_cond; exact rfl; all_goals intro hc; all_goals try simp only [ltI_t, ltI_f, leI_t, leI_f, eqI_t, eqI_f, Bool.not_eq_true', Bool.not_eq_false', decide_eq_true_eq, decide_eq_false_iff_not, reduceCtorEq] at hc; all_goals try (exfalso; omega)) | (apply GOl_split; exact rfl; exact rfl; all_goals intro hc; all_goals try simp only [ltI_t, ltI_f, leI_t, leI_f, eqI_t, eqI_f, Bool.not_eq_true', Bool.not_eq_false', decide_eq_true_eq, decide_eq_false_iff_not, reduceCtorEq] at hc; all_goals try (exfalso; omega)) | (apply GO_retV1; exact rfl; exact rfl; exact rfl))
    all_goals first
      | rfl
      | (exfalso; omega)
     
end Go.Hw

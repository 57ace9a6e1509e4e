import Derived.Test.YtajmniiiahhfaaaGreatDoorUE16b
/-
  law08: Force, walked.
-/
set_option linter.unusedVariables false
set_option linter.unusedSimpArgs false
set_option maxRecDepth 100000
set_option maxHeartbeats 8000000
namespace Go.Hw
open Go
attribute [local irreducible] GO GOl GDp Val Fn Res CellsAt ValE Blk OwnS MapA OwnPf Has Yl idF viewP
open Go.Proofs (Tryz.prog)
theorem viewP_all (l : List (Fsh × Fct)) (d k : Int) : fcs (viewP l d k l) = viewL idF (fcs l) d k := by
  unfold viewP viewL fcs
  rw [List.filter_map]
  rfl
theorem voidBy_take {l : List (Fsh × Fct)} {k : Int} {f : Fct} : VoidBy idF (fcs l) k f ↔ ∃ q ∈ l, q.2.kind = 8 ∧ q.2.known ≤ k ∧ q.2.void = idF f := by
  unfold VoidBy fcs
  constructor
  · rintro ⟨v, hv, h⟩
    obtain ⟨q, hq, rfl⟩ := List.mem_map.1 hv
    exact ⟨q, hq, h⟩
  · rintro ⟨q, hq, h⟩
    exact ⟨q.2, List.mem_map.2 ⟨q, hq, rfl⟩, h⟩
theorem viewP_snoc2 (l : List (Fsh × Fct)) (d k : Int) (x : List (Fsh × Fct)) (p : Fsh × Fct) (y : List (Fsh × Fct)) : viewP l d k (x ++ p :: y) = viewP l d k x ++ (viewP l d k [p] ++ viewP l d k y) := by unfold viewP; rw [show p :: y = [p] ++ y from rfl, List.filter_append, List.filter_append]
open Classical in
theorem force_law (h : Ro) (hG : PowG h) (A : Option Addr) (n c : Nat) (l : List (Fsh × Fct)) (hx : LedIn h A n c l) (day known : Int) : Val Tryz.prog 7 #[ledV A n c, .int .i64 day, .int .i64 known] h (.bool true) := by
  refine Val_intro (args := [_, _, _]) ts_ok Go.Proofs.Tryz.func7 rfl rfl fun w0 X0 => ?_
  have hsane := sane8_c h hG
  have hrow := hx.row
  have hsm := hx.small
  have hlen := hx.row.len
  obtain ⟨e, he⟩ : ∃ e, e = ledE (fcs l) := ⟨_, rfl⟩
  have hck : (n : Int) ≤ 14 → ∀ h', Le h h' → Res Tryz.prog 35 #[ledV A n c] h' (fun u _ => u = .int .i64 e) := fun hn h' hl => by rw [he]; exact checkL_c h' (hG.le hl) A n c l ((hx.facts hn).le hl)
  by_cases h0 : e = 0
  · have hok := ledE_zero.1 (he ▸ h0)
    have hvw := fun (hn : (n : Int) ≤ 14) (h' : Ro) (hl : Le h h') => view_ok h' (hG.le hl) A n c l ((hx.facts hn).le hl) hok day known
    by_cases h1 : (0 ≤ day ∧ day ≤ 1048576) ∧ (0 ≤ known ∧ known ≤ 1048576)
    · simp only [viewE_ok hok h1.1 h1.2] at hvw
      repeat' (first | apply GO_seq | apply GO_skip | apply GO_block | apply GO_region | apply GOl_nil | (apply GOl_unwanted; exact rfl; exact rfl) | (apply GOl_pv; exact rfl; exact rfl; exact rfl) | (apply GOl_load; exact rfl; exact Ld_blk rfl (by (repeat (first | exact List.Mem.head _ | apply List.Mem.tail)); done) rfl; exact rfl; exact rfl) | (apply GOl_to; exact rfl; exact rfl; exact rfl; (first | (apply OpTo_box; exact rfl; intro b; skip) | (apply OpTo_val; exact rfl; exact has30; exact hsane; skip) | (apply OpTo_res; exact rfl; exact has31; exact few8_c _ A n c l (hrow.le (by first | exact Le.refl _ | assumption | (repeat (first | assumption | (apply Le.trans; assumption))))) hsm 14; rintro w1 h1 hle1 ⟨b, rfl, hb⟩; cases b; all_goals skip) | (apply OpTo_res; exact rfl; exact has35; exact hck (hb rfl) _ (by first | exact Le.refl _ | assumption | (repeat (first | assumption | (apply Le.trans; assumption)))); rintro w2 h2 hle2 rfl; skip) | (apply OpTo_res; exact rfl; exact has37; exact hvw (hb rfl) _ (by first | exact Le.refl _ | assumption | (repeat (first | assumption | (apply Le.trans; assumption)))); rintro w6 h6 hle6 ⟨A6, k6, c6, l6, rfl, hk6, hx6, hf6⟩; skip))) | (apply GO_cond; exact rfl; all_goals intro hc; all_goals try simp only [ltI_t, ltI_f, leI_t, leI_f, eqI_t, eqI_f, Bool.not_eq_true', Bool.not_eq_false', decide_eq_true_eq, decide_eq_false_iff_not, reduceCtorEq] at hc; all_goals try (exfalso; omega)))
      all_goals (try (first | (exfalso; omega) | ((first | (apply GO_retV1; exact rfl; exact rfl; exact rfl)); rfl)))
      have hh6 : Le h h6 := (by first | exact Le.refl _ | assumption | (repeat (first | assumption | (apply Le.trans; assumption))))
      have hfm := hx.facts (hb rfl)
      rw [← viewP_all] at hf6
      have hk6l := hx6.len
      have hlen6 := hx6.row.len
      have hk6m : (fcs l6).length ≤ n := by
        rw [hf6, ← hlen]; unfold fcs; rw [List.length_map]; exact viewP_len l day known l
      clear hsane hck hvw
      generalize b = b3
      refine GO_loopT (X := Nat × Nat × Ro) (fun x => x.1 ≤ n ∧ x.2.1 = (viewP l day known (l.take x.1)).length ∧ Le h6 x.2.2) (fun x => n - x.1)
        (fun x => [(43, .int .i64 x.1), (42, .int .i64 n), (41, .slice A n c), (9, .int .i64 x.2.1), (7, .slice A6 k6 c6), (1, .int .i64 day), (2, .int .i64 known), (3, .pointer (some ⟨b3, 0, none⟩))])
        (fun _ => [Blk b3 47 [.slice A n c]]) (fun x => x.2.2) (0, 0, h6) ⟨by dsimp only; omega, by dsimp only; rw [List.take_zero, viewP_0]; rfl, Le.refl _⟩ (by (repeat (first | exact trivial | refine ⟨rfl, ?_⟩)); done) (by (repeat (first | exact Takes_nil | (apply Takes_cons; exact (by (repeat (first | exact Take.here | apply Take.there)); done)))); done) rfl ?_
      rintro ⟨k, j, hk⟩ ⟨hkn, hj, hlk⟩ ih
      dsimp only at hkn hj hlk ih ⊢
      by_cases hkn2 : k < n
      · have a1 := hrow.addrD hkn2
        have c1 := (hrow.cellsD p0 hkn2).le (hh6.trans hlk)
        have hsplit := take_split p0 (l := l) rfl (show k < l.length by omega)
        have et := take7 p0 (xs := l) rfl (show k < l.length by omega)
        have hfp := hfm.fat _ (mem7 p0 (show k < l.length by omega))
        have hokp := hok.2.1 _ (List.mem_map.2 ⟨_, mem7 p0 (show k < l.length by omega), rfl⟩)
        generalize l.getD k p0 = p at *
        have hid : ∀ h', Le h h' → Res Tryz.prog 38 #[factV p.1 p.2] h' fun u _ => u = .tuple #[digV (idF p.2), .int .i64 0] := fun h' hl => id2_c h' (hG.le hl) p.1 p.2 (hfp.1.le hl) hfp.2 hokp
        have hsn : viewP l day known (l.take (k + 1)) = viewP l day known (l.take k) ++ viewP l day known [p] := by rw [et, viewP_snoc]
        have hon := viewP_one l day known p
        by_cases hb8 : p.2.kind = 8
        · have hV : ¬ InF idF (fcs l) day known p.2 := fun q => q.2.1 hb8
          have hno : viewP l day known (l.take (k + 1)) = viewP l day known (l.take k) := by rw [hsn, hon, if_neg hV, List.append_nil]
          repeat' (first | apply GO_seq | apply GO_skip | apply GO_block | apply GO_region | apply GOl_nil | (apply GOl_unwanted; exact rfl; exact rfl) | (apply GOl_pv; exact rfl; exact rfl; exact rfl) | (apply GOl_load; exact rfl; exact Ld_blk rfl (by (repeat (first | exact List.Mem.head _ | apply List.Mem.tail)); done) rfl; exact rfl; exact rfl) | (apply GOl_ov; exact rfl; exact rfl; (first | (apply OV_idxS (j := k); exact rfl; exact rfl; exact rfl; exact rfl; exact rfl; exact a1; (with_reducible exact rfl); omega) | (apply OV_load; exact rfl; exact Lv_ro rfl c1 rfl)); exact (by repeat' (first | exact trivial | apply And.intro | exact List.Mem.head _ | apply List.Mem.tail))) | (apply GOl_to; exact rfl; exact rfl; exact rfl; (first | (apply OpTo_store; exact rfl; exact rfl; exact rfl; exact (by (repeat (first | exact Repl.here | apply Repl.there)); done); exact rfl; exact rfl; exact rfl; skip) | (apply OpTo_alloc; exact rfl; intro b; skip) | (apply OpTo_res; exact rfl; exact has38; exact hid _ (by first | exact Le.refl _ | assumption | (repeat (first | assumption | (apply Le.trans; assumption)))); rintro vi hi1 hle2 rfl; skip))) | (apply GO_cond; exact rfl; all_goals intro hc; all_goals try simp only [ltI_t, ltI_f, leI_t, leI_f, eqI_t, eqI_f, Bool.not_eq_true', Bool.not_eq_false', decide_eq_true_eq, decide_eq_false_iff_not, reduceCtorEq] at hc; all_goals try (exfalso; omega)) | (apply GOl_split; exact rfl; exact rfl; all_goals intro hc; all_goals try simp only [ltI_t, ltI_f, leI_t, leI_f, eqI_t, eqI_f, Bool.not_eq_true', Bool.not_eq_false', decide_eq_true_eq, decide_eq_false_iff_not, reduceCtorEq] at hc; all_goals try (exfalso; omega)))
          have hr1 : Le hk hi1 := (by first | exact Le.refl _ | assumption | (repeat (first | assumption | (apply Le.trans; assumption))))
          generalize b = b12
          refine GO_loopT (X := Nat × Ro) (fun x => x.1 ≤ n ∧ Le hi1 x.2) (fun x => n - x.1)
            (fun x => [(72, .int .i64 x.1), (71, .int .i64 n), (70, .slice A n c), (14, .bool false), (43, .int .i64 k), (42, .int .i64 n), (41, .slice A n c), (9, .int .i64 j), (7, .slice A6 k6 c6), (1, .int .i64 day), (2, .int .i64 known), (3, .pointer (some ⟨b3, 0, none⟩))])
            (fun _ => [Blk b3 47 [.slice A n c]]) (fun x => x.2) (0, hi1) ⟨by dsimp only; omega, Le.refl _⟩ (by (repeat (first | exact trivial | refine ⟨rfl, ?_⟩)); done) (by (repeat (first | exact Takes_nil | (apply Takes_cons; exact (by (repeat (first | exact Take.here | apply Take.there)); done)))); done) rfl ?_
          rintro ⟨i, hi⟩ ⟨hin, hli⟩ ih2
          dsimp only at hin hli ih2 ⊢
          by_cases hin2 : i < n
          · have a2 := hrow.addrD hin2
            have c2 := (hrow.cellsD p0 hin2).le (hh6.trans (hlk.trans (hr1.trans hli)))
            generalize l.getD i p0 = q at *
            repeat' (first | apply GO_seq | apply GO_skip | apply GO_inBlock | apply GO_block | apply GO_region | apply GOl_nil | (apply GOl_unwanted; exact rfl; exact rfl) | (apply GOl_add; exact rfl; exact rfl; exact rfl; omega; exact rfl; exact rfl) | (apply GOl_pv; exact rfl; exact rfl; exact rfl) | (apply GOl_ov; exact rfl; exact rfl; (first | (apply OV_idxS (j := i); exact rfl; exact rfl; exact rfl; exact rfl; exact rfl; exact a2; (with_reducible exact rfl); omega) | (apply OV_load; exact rfl; exact Lv_ro rfl c2 rfl)); exact (by repeat' (first | exact trivial | apply And.intro | exact List.Mem.head _ | apply List.Mem.tail))) | (apply GOl_to; exact rfl; exact rfl; exact rfl; (first | (apply OpTo_store; exact rfl; exact rfl; exact rfl; exact (by (repeat (first | exact Repl.here | apply Repl.there)); done); exact rfl; exact rfl; exact rfl; skip) | (apply OpTo_alloc; exact rfl; intro b; skip))) | (apply GO_cond; exact rfl; all_goals intro hc; all_goals try simp only [ltI_t, ltI_f, leI_t, leI_f, eqI_t, eqI_f, Bool.not_eq_true', Bool.not_eq_false', decide_eq_true_eq, decide_eq_false_iff_not, reduceCtorEq] at hc; all_goals try (exfalso; omega)))
            all_goals
              have h3 := ih2 (i + 1, hi) ⟨by dsimp only; omega, hli⟩ (by dsimp only; omega)
              dsimp only at h3
              refine GO_fit (by (repeat (first | exact trivial | refine ⟨rfl, ?_⟩)); done) (by (repeat (first | exact Takes_nil | (apply Takes_cons; exact (by (repeat (first | exact Take.here | apply Take.there)); done)))); done) (h3)
          · clear ih2
            repeat' (first | apply GO_seq | apply GO_region | apply GOl_nil | (apply GO_exit; exact rfl) | (apply GOl_add; exact rfl; exact rfl; exact rfl; omega; exact rfl; exact rfl) | (apply GOl_pv; exact rfl; exact rfl; exact rfl) | (apply GO_cond; exact rfl; all_goals intro hc; all_goals try simp only [ltI_t, ltI_f, leI_t, leI_f, eqI_t, eqI_f, Bool.not_eq_true', Bool.not_eq_false', decide_eq_true_eq, decide_eq_false_iff_not, reduceCtorEq] at hc; all_goals try (exfalso; omega)))
            all_goals
              have h3 := ih (k + 1, j, hi) ⟨by dsimp only; omega, by dsimp only; rw [hno]; exact hj, by dsimp only; exact hlk.trans (hr1.trans hli)⟩ (by dsimp only; omega)
              dsimp only at h3
              refine GO_fit (by (repeat (first | exact trivial | refine ⟨rfl, ?_⟩)); done) (by (repeat (first | exact Takes_nil | (apply Takes_cons; exact (by (repeat (first | exact Take.here | apply Take.there)); done)))); done) (h3)
        · by_cases hbk : p.2.known ≤ known
          · by_cases hbd : p.2.day ≤ day
            · repeat' (first | apply GO_seq | apply GO_skip | apply GO_block | apply GO_region | apply GOl_nil | (apply GOl_to; exact rfl; exact rfl; exact rfl; apply OpTo_alloc (e := 73); exact rfl; intro b11) | (apply GOl_pv; exact rfl; exact rfl; exact rfl) | (apply GOl_load; exact rfl; exact Ld_blk rfl (by (repeat (first | exact List.Mem.head _ | apply List.Mem.tail)); done) rfl; exact rfl; exact rfl) | (apply GOl_ov; exact rfl; exact rfl; (first | (apply OV_idxS (j := k); exact rfl; exact rfl; exact rfl; exact rfl; exact rfl; exact a1; (with_reducible exact rfl); omega) | (apply OV_load; exact rfl; exact Lv_ro rfl c1 rfl)); exact (by repeat' (first | exact trivial | apply And.intro | exact List.Mem.head _ | apply List.Mem.tail))) | (apply GOl_to; exact rfl; exact rfl; exact rfl; (first | (apply OpTo_store; exact rfl; exact rfl; exact rfl; exact (by (repeat (first | exact Repl.here | apply Repl.there)); done); exact rfl; exact rfl; exact rfl; skip) | (apply OpTo_alloc; exact rfl; intro b; skip) | (apply OpTo_res; exact rfl; exact has38; exact hid _ (by first | exact Le.refl _ | assumption | (repeat (first | assumption | (apply Le.trans; assumption)))); rintro vi hi1 hle2 rfl; skip))) | (apply GO_cond; exact rfl; all_goals intro hc; all_goals try simp only [ltI_t, ltI_f, leI_t, leI_f, eqI_t, eqI_f, Bool.not_eq_true', Bool.not_eq_false', decide_eq_true_eq, decide_eq_false_iff_not, reduceCtorEq] at hc; all_goals try (exfalso; omega)) | (apply GOl_split; exact rfl; exact rfl; all_goals intro hc; all_goals try simp only [ltI_t, ltI_f, leI_t, leI_f, eqI_t, eqI_f, Bool.not_eq_true', Bool.not_eq_false', decide_eq_true_eq, decide_eq_false_iff_not, reduceCtorEq] at hc; all_goals try (exfalso; omega)))
              have hr1 : Le hk hi1 := (by first | exact Le.refl _ | assumption | (repeat (first | assumption | (apply Le.trans; assumption))))
              generalize b = b12
              rw [show leI p.2.day day = true from by simp [leI_eq]; omega]
              refine GO_loopT (X := Nat × Bool × Ro) (fun x => x.1 ≤ n ∧ (x.2.1 = true ↔ ∀ q ∈ l.take x.1, ¬ (q.2.kind = 8 ∧ q.2.known ≤ known ∧ q.2.void = idF p.2)) ∧ Le hi1 x.2.2) (fun x => n - x.1)
                (fun x => [(72, .int .i64 x.1), (71, .int .i64 n), (70, .slice A n c), (14, .bool x.2.1), (43, .int .i64 k), (42, .int .i64 n), (41, .slice A n c), (9, .int .i64 j), (7, .slice A6 k6 c6), (1, .int .i64 day), (2, .int .i64 known), (3, .pointer (some ⟨b3, 0, none⟩)), (12, .pointer (some ⟨b12, 0, none⟩)), (11, .pointer (some ⟨b11, 0, none⟩))])
                (fun _ => [Blk b12 71 (voidC (idF p.2)), Blk b11 73 (factC p.1 p.2), Blk b3 47 [.slice A n c]]) (fun x => x.2.2) (0, true, hi1) ⟨by dsimp only; omega, by simp, Le.refl _⟩ (by (repeat (first | exact trivial | refine ⟨rfl, ?_⟩)); done) (by (repeat (first | exact Takes_nil | (apply Takes_cons; exact (by (repeat (first | exact Take.here | apply Take.there)); done)))); done) rfl ?_
              rintro ⟨i, bi, hi⟩ ⟨hin, hI, hli⟩ ih2
              dsimp only at hin hI hli ih2 ⊢
              by_cases hin2 : i < n
              · have a2 := hrow.addrD hin2
                have c2 := (hrow.cellsD p0 hin2).le (hh6.trans (hlk.trans (hr1.trans hli)))
                have hfq := hfm.fat _ (mem7 p0 (show i < l.length by omega))
                have etq := take7 p0 (xs := l) rfl (show i < l.length by omega)
                generalize l.getD i p0 = q at *
                have hq1 : (∀ q' ∈ l.take (i + 1), ¬ (q'.2.kind = 8 ∧ q'.2.known ≤ known ∧ q'.2.void = idF p.2)) ↔ (∀ q' ∈ l.take i, ¬ (q'.2.kind = 8 ∧ q'.2.known ≤ known ∧ q'.2.void = idF p.2)) ∧ ¬ (q.2.kind = 8 ∧ q.2.known ≤ known ∧ q.2.void = idF p.2) := by
                  rw [etq]
                  simp only [List.mem_append, List.mem_singleton]
                  exact ⟨fun w => ⟨fun q' hq' => w q' (.inl hq'), w q (.inr rfl)⟩, fun w q' hq' => by
                    rcases hq' with hq' | rfl
                    · exact w.1 q' hq'
                    · exact w.2⟩
                have hve := void_eq q.2.void (idF p.2) hfq.1.void (idF_len _)
                cases bi
                · have hno : ¬ ∀ q' ∈ l.take i, ¬ (q'.2.kind = 8 ∧ q'.2.known ≤ known ∧ q'.2.void = idF p.2) := fun w => by cases hI.2 w
                  repeat' (first | apply GO_seq | apply GO_skip | apply GO_inBlock | apply GO_block | apply GO_region | apply GOl_nil | (apply GOl_unwanted; exact rfl; exact rfl) | (apply GOl_add; exact rfl; exact rfl; exact rfl; omega; exact rfl; exact rfl) | (apply GOl_pv; exact rfl; exact rfl; exact rfl) | (apply GOl_ov; exact rfl; exact rfl; (first | (apply OV_idxS (j := i); exact rfl; exact rfl; exact rfl; exact rfl; exact rfl; exact a2; (with_reducible exact rfl); omega) | (apply OV_load; exact rfl; exact Lv_ro rfl c2 rfl)); exact (by repeat' (first | exact trivial | apply And.intro | exact List.Mem.head _ | apply List.Mem.tail))) | (apply GOl_to; exact rfl; exact rfl; exact rfl; (first | (apply OpTo_store; exact rfl; exact rfl; exact rfl; exact (by (repeat (first | exact Repl.here | apply Repl.there)); done); exact rfl; exact rfl; exact rfl; skip) | (apply OpTo_alloc; exact rfl; intro b; skip))) | (apply GO_cond; exact rfl; all_goals intro hc; all_goals try simp only [ltI_t, ltI_f, leI_t, leI_f, eqI_t, eqI_f, Bool.not_eq_true', Bool.not_eq_false', decide_eq_true_eq, decide_eq_false_iff_not, reduceCtorEq] at hc; all_goals try (exfalso; omega)))
                  all_goals
                    have h3 := ih2 (i + 1, false, hi) ⟨by dsimp only; omega, by
                      dsimp only
                      rw [hq1]
                      exact ⟨fun w => (by cases w), fun w => absurd w.1 hno⟩, hli⟩ (by dsimp only; omega)
                    dsimp only at h3
                    refine GO_fit (by (repeat (first | exact trivial | refine ⟨rfl, ?_⟩)); done) (by (repeat (first | exact Takes_nil | (apply Takes_cons; exact (by (repeat (first | exact Take.here | apply Take.there)); done)))); done) (h3)
                · have hyes := hI.1 rfl
                  by_cases hq8 : q.2.kind = 8
                  · by_cases hqk : q.2.known ≤ known
                    · by_cases hqz : q.2.void = idF p.2
                      · rw [decide_eq_true hqz] at hve
                        repeat' (first | apply GO_seq | apply GO_skip | apply GO_inBlock | apply GO_block | apply GO_region | apply GOl_nil | (apply GOl_add; exact rfl; exact rfl; exact rfl; omega; exact rfl; exact rfl) | (apply GOl_pv; exact rfl; exact rfl; exact rfl) | (apply GOl_load; exact rfl; exact Ld_blk rfl (by (repeat (first | exact List.Mem.head _ | apply List.Mem.tail)); done) rfl; exact rfl; exact rfl) | (apply GOl_ov; exact rfl; exact rfl; (first | (apply OV_idxS (j := i); exact rfl; exact rfl; exact rfl; exact rfl; exact rfl; exact a2; (with_reducible exact rfl); omega) | (apply OV_load; exact rfl; exact Lv_ro rfl c2 rfl) | (apply OV_eqlV; exact rfl; exact rfl; exact hve; kernel_rfl; kernel_rfl)); exact (by repeat' (first | exact trivial | apply And.intro | exact List.Mem.head _ | apply List.Mem.tail))) | (apply GOl_to; exact rfl; exact rfl; exact rfl; (first | (apply OpTo_store; exact rfl; exact rfl; exact rfl; exact (by (repeat (first | exact Repl.here | apply Repl.there)); done); exact rfl; exact rfl; exact rfl; skip) | (apply OpTo_alloc; exact rfl; intro b; skip))) | (apply GO_cond; exact rfl; all_goals intro hc; all_goals try simp only [ltI_t, ltI_f, leI_t, leI_f, eqI_t, eqI_f, Bool.not_eq_true', Bool.not_eq_false', decide_eq_true_eq, decide_eq_false_iff_not, reduceCtorEq] at hc; all_goals try (exfalso; omega)) | (apply GOl_split; exact rfl; exact rfl; all_goals intro hc; all_goals try simp only [ltI_t, ltI_f, leI_t, leI_f, eqI_t, eqI_f, Bool.not_eq_true', Bool.not_eq_false', decide_eq_true_eq, decide_eq_false_iff_not, reduceCtorEq] at hc; all_goals try (exfalso; omega)))
                        all_goals
                          have h3 := ih2 (i + 1, false, hi) ⟨by dsimp only; omega, by
                            dsimp only
                            rw [hq1]
                            exact ⟨fun w => (by cases w), fun w => absurd ⟨hq8, hqk, hqz⟩ w.2⟩, hli⟩ (by dsimp only; omega)
                          dsimp only at h3
                          refine GO_fit (by (repeat (first | exact trivial | refine ⟨rfl, ?_⟩)); done) (by (repeat (first | exact Takes_nil | (apply Takes_cons; exact (by (repeat (first | exact Take.here | apply Take.there)); done)))); done) (h3)
                      · rw [decide_eq_false hqz] at hve
                        repeat' (first | apply GO_seq | apply GO_skip | apply GO_inBlock | apply GO_block | apply GO_region | apply GOl_nil | (apply GOl_add; exact rfl; exact rfl; exact rfl; omega; exact rfl; exact rfl) | (apply GOl_pv; exact rfl; exact rfl; exact rfl) | (apply GOl_load; exact rfl; exact Ld_blk rfl (by (repeat (first | exact List.Mem.head _ | apply List.Mem.tail)); done) rfl; exact rfl; exact rfl) | (apply GOl_ov; exact rfl; exact rfl; (first | (apply OV_idxS (j := i); exact rfl; exact rfl; exact rfl; exact rfl; exact rfl; exact a2; (with_reducible exact rfl); omega) | (apply OV_load; exact rfl; exact Lv_ro rfl c2 rfl) | (apply OV_eqlV; exact rfl; exact rfl; exact hve; kernel_rfl; kernel_rfl)); exact (by repeat' (first | exact trivial | apply And.intro | exact List.Mem.head _ | apply List.Mem.tail))) | (apply GOl_to; exact rfl; exact rfl; exact rfl; (first | (apply OpTo_store; exact rfl; exact rfl; exact rfl; exact (by (repeat (first | exact Repl.here | apply Repl.there)); done); exact rfl; exact rfl; exact rfl; skip) | (apply OpTo_alloc; exact rfl; intro b; skip))) | (apply GO_cond; exact rfl; all_goals intro hc; all_goals try simp only [ltI_t, ltI_f, leI_t, leI_f, eqI_t, eqI_f, Bool.not_eq_true', Bool.not_eq_false', decide_eq_true_eq, decide_eq_false_iff_not, reduceCtorEq] at hc; all_goals try (exfalso; omega)) | (apply GOl_split; exact rfl; exact rfl; all_goals intro hc; all_goals try simp only [ltI_t, ltI_f, leI_t, leI_f, eqI_t, eqI_f, Bool.not_eq_true', Bool.not_eq_false', decide_eq_true_eq, decide_eq_false_iff_not, reduceCtorEq] at hc; all_goals try (exfalso; omega)))
                        all_goals
                          have h3 := ih2 (i + 1, true, hi) ⟨by dsimp only; omega, by
                            dsimp only
                            rw [hq1]
                            exact ⟨fun _ => ⟨hyes, fun w => hqz w.2.2⟩, fun _ => rfl⟩, hli⟩ (by dsimp only; omega)
                          dsimp only at h3
                          refine GO_fit (by (repeat (first | exact trivial | refine ⟨rfl, ?_⟩)); done) (by (repeat (first | exact Takes_nil | (apply Takes_cons; exact (by (repeat (first | exact Take.here | apply Take.there)); done)))); done) (h3)
                    · have hnk := hqk
                      repeat' (first | apply GO_seq | apply GO_skip | apply GO_inBlock | apply GO_block | apply GO_region | apply GOl_nil | (apply GOl_unwanted; exact rfl; exact rfl) | (apply GOl_add; exact rfl; exact rfl; exact rfl; omega; exact rfl; exact rfl) | (apply GOl_pv; exact rfl; exact rfl; exact rfl) | (apply GOl_load; exact rfl; exact Ld_blk rfl (by (repeat (first | exact List.Mem.head _ | apply List.Mem.tail)); done) rfl; exact rfl; exact rfl) | (apply GOl_ov; exact rfl; exact rfl; (first | (apply OV_idxS (j := i); exact rfl; exact rfl; exact rfl; exact rfl; exact rfl; exact a2; (with_reducible exact rfl); omega) | (apply OV_load; exact rfl; exact Lv_ro rfl c2 rfl)); exact (by repeat' (first | exact trivial | apply And.intro | exact List.Mem.head _ | apply List.Mem.tail))) | (apply GOl_to; exact rfl; exact rfl; exact rfl; (first | (apply OpTo_store; exact rfl; exact rfl; exact rfl; exact (by (repeat (first | exact Repl.here | apply Repl.there)); done); exact rfl; exact rfl; exact rfl; skip) | (apply OpTo_alloc; exact rfl; intro b; skip))) | (apply GO_cond; exact rfl; all_goals intro hc; all_goals try simp only [ltI_t, ltI_f, leI_t, leI_f, eqI_t, eqI_f, Bool.not_eq_true', Bool.not_eq_false', decide_eq_true_eq, decide_eq_false_iff_not, reduceCtorEq] at hc; all_goals try (exfalso; omega)) | (apply GOl_split; exact rfl; exact rfl; all_goals intro hc; all_goals try simp only [ltI_t, ltI_f, leI_t, leI_f, eqI_t, eqI_f, Bool.not_eq_true', Bool.not_eq_false', decide_eq_true_eq, decide_eq_false_iff_not, reduceCtorEq] at hc; all_goals try (exfalso; omega)))
                      all_goals
                        have h3 := ih2 (i + 1, true, hi) ⟨by dsimp only; omega, by
                          dsimp only
                          rw [hq1]
                          exact ⟨fun _ => ⟨hyes, fun w => hqk w.2.1⟩, fun _ => rfl⟩, hli⟩ (by dsimp only; omega)
                        dsimp only at h3
                        refine GO_fit (by (repeat (first | exact trivial | refine ⟨rfl, ?_⟩)); done) (by (repeat (first | exact Takes_nil | (apply Takes_cons; exact (by (repeat (first | exact Take.here | apply Take.there)); done)))); done) (h3)
                  · have hn8 := hq8
                    repeat' (first | apply GO_seq | apply GO_skip | apply GO_inBlock | apply GO_block | apply GO_region | apply GOl_nil | (apply GOl_unwanted; exact rfl; exact rfl) | (apply GOl_add; exact rfl; exact rfl; exact rfl; omega; exact rfl; exact rfl) | (apply GOl_pv; exact rfl; exact rfl; exact rfl) | (apply GOl_load; exact rfl; exact Ld_blk rfl (by (repeat (first | exact List.Mem.head _ | apply List.Mem.tail)); done) rfl; exact rfl; exact rfl) | (apply GOl_ov; exact rfl; exact rfl; (first | (apply OV_idxS (j := i); exact rfl; exact rfl; exact rfl; exact rfl; exact rfl; exact a2; (with_reducible exact rfl); omega) | (apply OV_load; exact rfl; exact Lv_ro rfl c2 rfl)); exact (by repeat' (first | exact trivial | apply And.intro | exact List.Mem.head _ | apply List.Mem.tail))) | (apply GOl_to; exact rfl; exact rfl; exact rfl; (first | (apply OpTo_store; exact rfl; exact rfl; exact rfl; exact (by (repeat (first | exact Repl.here | apply Repl.there)); done); exact rfl; exact rfl; exact rfl; skip) | (apply OpTo_alloc; exact rfl; intro b; skip))) | (apply GO_cond; exact rfl; all_goals intro hc; all_goals try simp only [ltI_t, ltI_f, leI_t, leI_f, eqI_t, eqI_f, Bool.not_eq_true', Bool.not_eq_false', decide_eq_true_eq, decide_eq_false_iff_not, reduceCtorEq] at hc; all_goals try (exfalso; omega)) | (apply GOl_split; exact rfl; exact rfl; all_goals intro hc; all_goals try simp only [ltI_t, ltI_f, leI_t, leI_f, eqI_t, eqI_f, Bool.not_eq_true', Bool.not_eq_false', decide_eq_true_eq, decide_eq_false_iff_not, reduceCtorEq] at hc; all_goals try (exfalso; omega)))
                    all_goals
                      have h3 := ih2 (i + 1, true, hi) ⟨by dsimp only; omega, by
                        dsimp only
                        rw [hq1]
                        exact ⟨fun _ => ⟨hyes, fun w => hq8 w.1⟩, fun _ => rfl⟩, hli⟩ (by dsimp only; omega)
                      dsimp only at h3
                      refine GO_fit (by (repeat (first | exact trivial | refine ⟨rfl, ?_⟩)); done) (by (repeat (first | exact Takes_nil | (apply Takes_cons; exact (by (repeat (first | exact Take.here | apply Take.there)); done)))); done) (h3)
              · rw [List.take_of_length_le (show l.length ≤ i by omega)] at hI
                clear ih2
                have hvb : VoidBy idF (fcs l) known p.2 ↔ ∃ q ∈ l, q.2.kind = 8 ∧ q.2.known ≤ known ∧ q.2.void = idF p.2 := voidBy_take
                cases bi
                · have hV : ¬ InF idF (fcs l) day known p.2 := fun w => by
                    have := hI.2 (fun q hq hh => w.2.2.2 (hvb.2 ⟨q, hq, hh⟩))
                    cases this
                  have hno : viewP l day known (l.take (k + 1)) = viewP l day known (l.take k) := by rw [hsn, hon, if_neg hV, List.append_nil]
                  repeat' (first | apply GO_seq | apply GO_region | apply GOl_nil | (apply GO_exit; exact rfl) | (apply GOl_add; exact rfl; exact rfl; exact rfl; omega; exact rfl; exact rfl) | (apply GOl_pv; exact rfl; exact rfl; exact rfl) | (apply GO_cond; exact rfl; all_goals intro hc; all_goals try simp only [ltI_t, ltI_f, leI_t, leI_f, eqI_t, eqI_f, Bool.not_eq_true', Bool.not_eq_false', decide_eq_true_eq, decide_eq_false_iff_not, reduceCtorEq] at hc; all_goals try (exfalso; omega)))
                  all_goals
                    have h3 := ih (k + 1, j, hi) ⟨by dsimp only; omega, by dsimp only; rw [hno]; exact hj, by dsimp only; exact hlk.trans (hr1.trans hli)⟩ (by dsimp only; omega)
                    dsimp only at h3
                    refine GO_fit (by (repeat (first | exact trivial | refine ⟨rfl, ?_⟩)); done) (by (repeat (first | exact Takes_nil | (apply Takes_cons; exact (by (repeat (first | exact Take.here | apply Take.there)); done)))); done) (h3)
                · have hV : InF idF (fcs l) day known p.2 := ⟨hbk, hb8, hbd, fun w => by
                    obtain ⟨q, hq, hh⟩ := hvb.1 w
                    exact hI.1 rfl q hq hh⟩
                  rw [if_pos hV] at hon
                  have hyes : viewP l day known (l.take (k + 1)) = viewP l day known (l.take k) ++ [p] := by rw [hsn, hon]
                  have hall : viewP l day known l = viewP l day known (l.take k) ++ p :: viewP l day known (l.drop (k + 1)) := by
                    have q := congrArg (viewP l day known) hsplit
                    rw [viewP_snoc2, hon] at q
                    exact q
                  have hj6 : j < k6 := by
                    have := congrArg List.length hf6
                    rw [hk6l] at this
                    unfold fcs at this
                    rw [List.length_map, hall, List.length_append, ← hj, List.length_cons] at this
                    omega
                  have a3 := hx6.row.addrD hj6
                  have c3 := (hx6.row.cellsD p0 hj6).le (hlk.trans (hr1.trans hli))
                  have hf3 := hx6.fat _ (mem7 p0 (show j < l6.length by omega))
                  have hp6 : (l6.getD j p0).2 = p.2 := by
                    have g1 := map_getD (·.2) l6 p0 (show j < l6.length by omega)
                    rw [← g1]
                    have : l6.map (·.2) = (viewP l day known (l.take k)).map (·.2) ++ p.2 :: (viewP l day known (l.drop (k + 1))).map (·.2) := by
                      show fcs l6 = _
                      rw [hf6]; unfold fcs; rw [hall, List.map_append, List.map_cons]
                    simp only [this]
                    rw [List.getElem_append_right (by rw [List.length_map]; omega)]
                    simp [hj]
                  generalize l6.getD j p0 = u at *
                  have hs7 := fun (h' : Ro) (hl : Le h h') (hl6 : Le h6 h') => same7_c h' u.1 u.2 (hf3.1.le hl6) hf3.2 p.1 p.2 (hfp.1.le hl) hfp.2
                  simp only [decide_eq_true hp6] at hs7
                  have hl6i : Le h6 hi := hlk.trans (hr1.trans hli)
                  repeat' (first | apply GO_seq | apply GO_skip | apply GO_inBlock | apply GO_region | apply GOl_nil | (apply GO_exit; exact rfl) | (apply GOl_add; exact rfl; exact rfl; exact rfl; omega; exact rfl; exact rfl) | (apply GOl_pv; exact rfl; exact rfl; exact rfl) | (apply GO_drawp (n := 22) [0, 1, 2, 3, 4, 5, 6, 7, 8, 9, 10, 11, 12] [(0, 0), (1, 0), (2, 0), (3, 0), (4, 0), (5, 0), (6, 0), (7, 0), (8, 0), (9, 0), (10, 1), (11, 0), (12, 0)]; kernel_rfl) | (apply GP_pv; exact rfl; kernel_rfl; exact rfl; exact rfl; exact rfl) | (apply GP_loadB; exact rfl; kernel_rfl; exact rfl; exact rfl; exact rfl; exact (by (repeat (first | exact List.Mem.head _ | apply List.Mem.tail)); done); exact rfl; exact rfl) | (apply GP_ov; exact rfl; kernel_rfl; exact rfl; exact rfl; (first | (apply OV_idxS (j := j); exact rfl; exact rfl; exact rfl; exact rfl; exact rfl; exact a3; (with_reducible exact rfl); omega) | (apply OV_load; exact rfl; exact Lv_ro rfl c3 rfl)); exact (by repeat' (first | exact trivial | apply And.intro | exact List.Mem.head _ | apply List.Mem.tail))) | (apply GP_real; exact rfl; kernel_rfl; exact rfl; exact rfl; exact rfl; (first | (apply OpTo_val; exact rfl; exact has39; exact hs7 _ (hh6.trans hl6i) hl6i; refine ⟨Le.refl _, by (first | exact NdOk_no rfl | (apply NdOk_all; (repeat' (first | exact trivial | apply And.intro | exact List.Mem.head _ | apply List.Mem.tail)); done) | (apply NdOk_need; (repeat' (first | exact trivial | apply And.intro | exact List.Mem.head _ | apply List.Mem.tail)); done)), ?_⟩))) | (apply GP_done; kernel_rfl; exact rfl) | (apply GP_split; exact rfl; exact rfl; exact rfl; exact rfl; exact rfl; all_goals intro hc; all_goals try simp only [ltI_t, ltI_f, leI_t, leI_f, eqI_t, eqI_f, Bool.not_eq_true', Bool.not_eq_false', decide_eq_true_eq, decide_eq_false_iff_not, reduceCtorEq] at hc; all_goals try (exfalso; omega)) | (apply GO_cond; exact rfl; all_goals intro hc; all_goals try simp only [ltI_t, ltI_f, leI_t, leI_f, eqI_t, eqI_f, Bool.not_eq_true', Bool.not_eq_false', decide_eq_true_eq, decide_eq_false_iff_not, reduceCtorEq] at hc; all_goals try (exfalso; omega)))
                  all_goals
                    have h3 := ih (k + 1, j + 1, hi) ⟨by dsimp only; omega, by dsimp only; rw [hyes, List.length_append, ← hj]; rfl, by dsimp only; exact hl6i⟩ (by dsimp only; omega)
                    dsimp only at h3
                    refine GO_fit (by (repeat (first | exact trivial | refine ⟨rfl, ?_⟩)); done) (by (repeat (first | exact Takes_nil | (apply Takes_cons; exact (by (repeat (first | exact Take.here | apply Take.there)); done)))); done) (h3)
            · have hV : ¬ InF idF (fcs l) day known p.2 := fun q => hbd q.2.2.1
              have hno : viewP l day known (l.take (k + 1)) = viewP l day known (l.take k) := by rw [hsn, hon, if_neg hV, List.append_nil]
              repeat' (first | apply GO_seq | apply GO_skip | apply GO_block | apply GO_region | apply GOl_nil | (apply GOl_pv; exact rfl; exact rfl; exact rfl) | (apply GOl_load; exact rfl; exact Ld_blk rfl (by (repeat (first | exact List.Mem.head _ | apply List.Mem.tail)); done) rfl; exact rfl; exact rfl) | (apply GOl_ov; exact rfl; exact rfl; (first | (apply OV_idxS (j := k); exact rfl; exact rfl; exact rfl; exact rfl; exact rfl; exact a1; (with_reducible exact rfl); omega) | (apply OV_load; exact rfl; exact Lv_ro rfl c1 rfl)); exact (by repeat' (first | exact trivial | apply And.intro | exact List.Mem.head _ | apply List.Mem.tail))) | (apply GOl_to; exact rfl; exact rfl; exact rfl; (first | (apply OpTo_store; exact rfl; exact rfl; exact rfl; exact (by (repeat (first | exact Repl.here | apply Repl.there)); done); exact rfl; exact rfl; exact rfl; skip) | (apply OpTo_alloc; exact rfl; intro b; skip) | (apply OpTo_res; exact rfl; exact has38; exact hid _ (by first | exact Le.refl _ | assumption | (repeat (first | assumption | (apply Le.trans; assumption)))); rintro vi hi1 hle2 rfl; skip))) | (apply GO_cond; exact rfl; all_goals intro hc; all_goals try simp only [ltI_t, ltI_f, leI_t, leI_f, eqI_t, eqI_f, Bool.not_eq_true', Bool.not_eq_false', decide_eq_true_eq, decide_eq_false_iff_not, reduceCtorEq] at hc; all_goals try (exfalso; omega)) | (apply GOl_split; exact rfl; exact rfl; all_goals intro hc; all_goals try simp only [ltI_t, ltI_f, leI_t, leI_f, eqI_t, eqI_f, Bool.not_eq_true', Bool.not_eq_false', decide_eq_true_eq, decide_eq_false_iff_not, reduceCtorEq] at hc; all_goals try (exfalso; omega)))
              rw [show leI p.2.day day = false from by simp [leI_eq]; omega]
              have hr1 : Le hk hi1 := (by first | exact Le.refl _ | assumption | (repeat (first | assumption | (apply Le.trans; assumption))))
              generalize b = b12
              refine GO_loopT (X := Nat × Ro) (fun x => x.1 ≤ n ∧ Le hi1 x.2) (fun x => n - x.1)
                (fun x => [(72, .int .i64 x.1), (71, .int .i64 n), (70, .slice A n c), (14, .bool false), (43, .int .i64 k), (42, .int .i64 n), (41, .slice A n c), (9, .int .i64 j), (7, .slice A6 k6 c6), (1, .int .i64 day), (2, .int .i64 known), (3, .pointer (some ⟨b3, 0, none⟩))])
                (fun _ => [Blk b3 47 [.slice A n c]]) (fun x => x.2) (0, hi1) ⟨by dsimp only; omega, Le.refl _⟩ (by (repeat (first | exact trivial | refine ⟨rfl, ?_⟩)); done) (by (repeat (first | exact Takes_nil | (apply Takes_cons; exact (by (repeat (first | exact Take.here | apply Take.there)); done)))); done) rfl ?_
              rintro ⟨i, hi⟩ ⟨hin, hli⟩ ih2
              dsimp only at hin hli ih2 ⊢
              by_cases hin2 : i < n
              · have a2 := hrow.addrD hin2
                have c2 := (hrow.cellsD p0 hin2).le (hh6.trans (hlk.trans (hr1.trans hli)))
                generalize l.getD i p0 = q at *
                repeat' (first | apply GO_seq | apply GO_skip | apply GO_inBlock | apply GO_block | apply GO_region | apply GOl_nil | (apply GOl_unwanted; exact rfl; exact rfl) | (apply GOl_add; exact rfl; exact rfl; exact rfl; omega; exact rfl; exact rfl) | (apply GOl_pv; exact rfl; exact rfl; exact rfl) | (apply GOl_ov; exact rfl; exact rfl; (first | (apply OV_idxS (j := i); exact rfl; exact rfl; exact rfl; exact rfl; exact rfl; exact a2; (with_reducible exact rfl); omega) | (apply OV_load; exact rfl; exact Lv_ro rfl c2 rfl)); exact (by repeat' (first | exact trivial | apply And.intro | exact List.Mem.head _ | apply List.Mem.tail))) | (apply GOl_to; exact rfl; exact rfl; exact rfl; (first | (apply OpTo_store; exact rfl; exact rfl; exact rfl; exact (by (repeat (first | exact Repl.here | apply Repl.there)); done); exact rfl; exact rfl; exact rfl; skip) | (apply OpTo_alloc; exact rfl; intro b; skip))) | (apply GO_cond; exact rfl; all_goals intro hc; all_goals try simp only [ltI_t, ltI_f, leI_t, leI_f, eqI_t, eqI_f, Bool.not_eq_true', Bool.not_eq_false', decide_eq_true_eq, decide_eq_false_iff_not, reduceCtorEq] at hc; all_goals try (exfalso; omega)))
                all_goals
                  have h3 := ih2 (i + 1, hi) ⟨by dsimp only; omega, hli⟩ (by dsimp only; omega)
                  dsimp only at h3
                  refine GO_fit (by (repeat (first | exact trivial | refine ⟨rfl, ?_⟩)); done) (by (repeat (first | exact Takes_nil | (apply Takes_cons; exact (by (repeat (first | exact Take.here | apply Take.there)); done)))); done) (h3)
              · clear ih2
                repeat' (first | apply GO_seq | apply GO_region | apply GOl_nil | (apply GO_exit; exact rfl) | (apply GOl_add; exact rfl; exact rfl; exact rfl; omega; exact rfl; exact rfl) | (apply GOl_pv; exact rfl; exact rfl; exact rfl) | (apply GO_cond; exact rfl; all_goals intro hc; all_goals try simp only [ltI_t, ltI_f, leI_t, leI_f, eqI_t, eqI_f, Bool.not_eq_true', Bool.not_eq_false', decide_eq_true_eq, decide_eq_false_iff_not, reduceCtorEq] at hc; all_goals try (exfalso; omega)))
                all_goals
                  have h3 := ih (k + 1, j, hi) ⟨by dsimp only; omega, by dsimp only; rw [hno]; exact hj, by dsimp only; exact hlk.trans (hr1.trans hli)⟩ (by dsimp only; omega)
                  dsimp only at h3
                  refine GO_fit (by (repeat (first | exact trivial | refine ⟨rfl, ?_⟩)); done) (by (repeat (first | exact Takes_nil | (apply Takes_cons; exact (by (repeat (first | exact Take.here | apply Take.there)); done)))); done) (h3)
          · have hV : ¬ InF idF (fcs l) day known p.2 := fun q => hbk q.1
            have hno : viewP l day known (l.take (k + 1)) = viewP l day known (l.take k) := by rw [hsn, hon, if_neg hV, List.append_nil]
            repeat' (first | apply GO_seq | apply GO_skip | apply GO_block | apply GO_region | apply GOl_nil | (apply GOl_unwanted; exact rfl; exact rfl) | (apply GOl_pv; exact rfl; exact rfl; exact rfl) | (apply GOl_load; exact rfl; exact Ld_blk rfl (by (repeat (first | exact List.Mem.head _ | apply List.Mem.tail)); done) rfl; exact rfl; exact rfl) | (apply GOl_ov; exact rfl; exact rfl; (first | (apply OV_idxS (j := k); exact rfl; exact rfl; exact rfl; exact rfl; exact rfl; exact a1; (with_reducible exact rfl); omega) | (apply OV_load; exact rfl; exact Lv_ro rfl c1 rfl)); exact (by repeat' (first | exact trivial | apply And.intro | exact List.Mem.head _ | apply List.Mem.tail))) | (apply GOl_to; exact rfl; exact rfl; exact rfl; (first | (apply OpTo_store; exact rfl; exact rfl; exact rfl; exact (by (repeat (first | exact Repl.here | apply Repl.there)); done); exact rfl; exact rfl; exact rfl; skip) | (apply OpTo_alloc; exact rfl; intro b; skip) | (apply OpTo_res; exact rfl; exact has38; exact hid _ (by first | exact Le.refl _ | assumption | (repeat (first | assumption | (apply Le.trans; assumption)))); rintro vi hi1 hle2 rfl; skip))) | (apply GO_cond; exact rfl; all_goals intro hc; all_goals try simp only [ltI_t, ltI_f, leI_t, leI_f, eqI_t, eqI_f, Bool.not_eq_true', Bool.not_eq_false', decide_eq_true_eq, decide_eq_false_iff_not, reduceCtorEq] at hc; all_goals try (exfalso; omega)) | (apply GOl_split; exact rfl; exact rfl; all_goals intro hc; all_goals try simp only [ltI_t, ltI_f, leI_t, leI_f, eqI_t, eqI_f, Bool.not_eq_true', Bool.not_eq_false', decide_eq_true_eq, decide_eq_false_iff_not, reduceCtorEq] at hc; all_goals try (exfalso; omega)))
            have hr1 : Le hk hi1 := (by first | exact Le.refl _ | assumption | (repeat (first | assumption | (apply Le.trans; assumption))))
            generalize b = b12
            refine GO_loopT (X := Nat × Ro) (fun x => x.1 ≤ n ∧ Le hi1 x.2) (fun x => n - x.1)
              (fun x => [(72, .int .i64 x.1), (71, .int .i64 n), (70, .slice A n c), (14, .bool false), (43, .int .i64 k), (42, .int .i64 n), (41, .slice A n c), (9, .int .i64 j), (7, .slice A6 k6 c6), (1, .int .i64 day), (2, .int .i64 known), (3, .pointer (some ⟨b3, 0, none⟩))])
              (fun _ => [Blk b3 47 [.slice A n c]]) (fun x => x.2) (0, hi1) ⟨by dsimp only; omega, Le.refl _⟩ (by (repeat (first | exact trivial | refine ⟨rfl, ?_⟩)); done) (by (repeat (first | exact Takes_nil | (apply Takes_cons; exact (by (repeat (first | exact Take.here | apply Take.there)); done)))); done) rfl ?_
            rintro ⟨i, hi⟩ ⟨hin, hli⟩ ih2
            dsimp only at hin hli ih2 ⊢
            by_cases hin2 : i < n
            · have a2 := hrow.addrD hin2
              have c2 := (hrow.cellsD p0 hin2).le (hh6.trans (hlk.trans (hr1.trans hli)))
              generalize l.getD i p0 = q at *
              repeat' (first | apply GO_seq | apply GO_skip | apply GO_inBlock | apply GO_block | apply GO_region | apply GOl_nil | (apply GOl_unwanted; exact rfl; exact rfl) | (apply GOl_add; exact rfl; exact rfl; exact rfl; omega; exact rfl; exact rfl) | (apply GOl_pv; exact rfl; exact rfl; exact rfl) | (apply GOl_ov; exact rfl; exact rfl; (first | (apply OV_idxS (j := i); exact rfl; exact rfl; exact rfl; exact rfl; exact rfl; exact a2; (with_reducible exact rfl); omega) | (apply OV_load; exact rfl; exact Lv_ro rfl c2 rfl)); exact (by repeat' (first | exact trivial | apply And.intro | exact List.Mem.head _ | apply List.Mem.tail))) | (apply GOl_to; exact rfl; exact rfl; exact rfl; (first | (apply OpTo_store; exact rfl; exact rfl; exact rfl; exact (by (repeat (first | exact Repl.here | apply Repl.there)); done); exact rfl; exact rfl; exact rfl; skip) | (apply OpTo_alloc; exact rfl; intro b; skip))) | (apply GO_cond; exact rfl; all_goals intro hc; all_goals try simp only [ltI_t, ltI_f, leI_t, leI_f, eqI_t, eqI_f, Bool.not_eq_true', Bool.not_eq_false', decide_eq_true_eq, decide_eq_false_iff_not, reduceCtorEq] at hc; all_goals try (exfalso; omega)))
              all_goals
                have h3 := ih2 (i + 1, hi) ⟨by dsimp only; omega, hli⟩ (by dsimp only; omega)
                dsimp only at h3
                refine GO_fit (by (repeat (first | exact trivial | refine ⟨rfl, ?_⟩)); done) (by (repeat (first | exact Takes_nil | (apply Takes_cons; exact (by (repeat (first | exact Take.here | apply Take.there)); done)))); done) (h3)
            · clear ih2
              repeat' (first | apply GO_seq | apply GO_region | apply GOl_nil | (apply GO_exit; exact rfl) | (apply GOl_add; exact rfl; exact rfl; exact rfl; omega; exact rfl; exact rfl) | (apply GOl_pv; exact rfl; exact rfl; exact rfl) | (apply GO_cond; exact rfl; all_goals intro hc; all_goals try simp only [ltI_t, ltI_f, leI_t, leI_f, eqI_t, eqI_f, Bool.not_eq_true', Bool.not_eq_false', decide_eq_true_eq, decide_eq_false_iff_not, reduceCtorEq] at hc; all_goals try (exfalso; omega)))
              all_goals
                have h3 := ih (k + 1, j, hi) ⟨by dsimp only; omega, by dsimp only; rw [hno]; exact hj, by dsimp only; exact hlk.trans (hr1.trans hli)⟩ (by dsimp only; omega)
                dsimp only at h3
                refine GO_fit (by (repeat (first | exact trivial | refine ⟨rfl, ?_⟩)); done) (by (repeat (first | exact Takes_nil | (apply Takes_cons; exact (by (repeat (first | exact Take.here | apply Take.there)); done)))); done) (h3)
      · rw [List.take_of_length_le (show l.length ≤ k by omega)] at hj
        clear ih
        have hjk : j = k6 := by rw [hj, ← hk6l, hf6]; unfold fcs; rw [List.length_map]
        repeat' (first | apply GO_seq | apply GO_region | apply GOl_nil | (apply GO_exit; exact rfl) | (apply GOl_pv; exact rfl; exact rfl; exact rfl) | (apply GO_cond; exact rfl; all_goals intro hc; all_goals try simp only [ltI_t, ltI_f, leI_t, leI_f, eqI_t, eqI_f, Bool.not_eq_true', Bool.not_eq_false', decide_eq_true_eq, decide_eq_false_iff_not, reduceCtorEq] at hc; all_goals try (exfalso; omega)))
        all_goals
          (first | (apply GO_retV1; exact rfl; exact rfl; exact rfl))
          rw [hjk]
          simp [eqI_eq]
    · simp only [viewE_no hok (show ¬ (0 ≤ day ∧ day ≤ 1048576) ∨ ¬ (0 ≤ known ∧ known ≤ 1048576) by omega)] at hvw
      repeat' (first | apply GO_seq | apply GO_skip | apply GO_region | apply GOl_nil | (apply GOl_unwanted; exact rfl; exact rfl) | (apply GOl_pv; exact rfl; exact rfl; exact rfl) | (apply GOl_load; exact rfl; exact Ld_blk rfl (by (repeat (first | exact List.Mem.head _ | apply List.Mem.tail)); done) rfl; exact rfl; exact rfl) | (apply GOl_to; exact rfl; exact rfl; exact rfl; (first | (apply OpTo_box; exact rfl; intro b; skip) | (apply OpTo_val; exact rfl; exact has30; exact hsane; skip) | (apply OpTo_res; exact rfl; exact has31; exact few8_c _ A n c l (hrow.le (by first | exact Le.refl _ | assumption | (repeat (first | assumption | (apply Le.trans; assumption))))) hsm 14; rintro w1 h1 hle1 ⟨b, rfl, hb⟩; cases b; all_goals skip) | (apply OpTo_res; exact rfl; exact has35; exact hck (hb rfl) _ (by first | exact Le.refl _ | assumption | (repeat (first | assumption | (apply Le.trans; assumption)))); rintro w2 h2 hle2 rfl; skip) | (apply OpTo_res; exact rfl; exact has37; exact hvw (hb rfl) _ (by first | exact Le.refl _ | assumption | (repeat (first | assumption | (apply Le.trans; assumption)))); rintro w6 h6 hle6 ⟨A6, k6, c6, l6, rfl, hk6, hx6, hf6⟩; (have hz6 : k6 = 0 := (by have := hx6.len; rw [hf6] at this; exact this.symm)); subst hz6; skip))) | (apply GO_cond; exact rfl; all_goals intro hc; all_goals try simp only [ltI_t, ltI_f, leI_t, leI_f, eqI_t, eqI_f, Bool.not_eq_true', Bool.not_eq_false', decide_eq_true_eq, decide_eq_false_iff_not, reduceCtorEq] at hc; all_goals try (exfalso; omega)))
      all_goals first
        | (exfalso; omega)
        | ((first | (apply GO_retV1; exact rfl; exact rfl; exact rfl)); rfl)
        | ((first | (apply GO_retV1; exact rfl; exact rfl; exact rfl)); simp [eqI_eq])
  · repeat' (first | apply GO_seq | apply GO_skip | apply GO_region | apply GOl_nil | (apply GOl_unwanted; exact rfl; exact rfl) | (apply GOl_pv; exact rfl; exact rfl; exact rfl) | (apply GOl_load; exact rfl; exact Ld_blk rfl (by (repeat (first | exact List.Mem.head _ | apply List.Mem.tail)); done) rfl; exact rfl; exact rfl) | (apply GOl_to; exact rfl; exact rfl; exact rfl; (first | (apply OpTo_box; exact rfl; intro b; skip) | (apply OpTo_val; exact rfl; exact has30; exact hsane; skip) | (apply OpTo_res; exact rfl; exact has31; exact few8_c _ A n c l (hrow.le (by first | exact Le.refl _ | assumption | (repeat (first | assumption | (apply Le.trans; assumption))))) hsm 14; rintro w1 h1 hle1 ⟨b, rfl, hb⟩; cases b; all_goals skip) | (apply OpTo_res; exact rfl; exact has35; exact hck (hb rfl) _ (by first | exact Le.refl _ | assumption | (repeat (first | assumption | (apply Le.trans; assumption)))); rintro w2 h2 hle2 rfl; skip))) | (apply GO_cond; exact rfl; all_goals intro hc; all_goals try simp only [ltI_t, ltI_f, leI_t, leI_f, eqI_t, eqI_f, Bool.not_eq_true', Bool.not_eq_false', decide_eq_true_eq, decide_eq_false_iff_not, reduceCtorEq] at hc; all_goals try (exfalso; omega)) | (apply GO_retV1; exact rfl; exact rfl; exact rfl))
    all_goals first
      | rfl
      | (exfalso; omega)
     
end Go.Hw

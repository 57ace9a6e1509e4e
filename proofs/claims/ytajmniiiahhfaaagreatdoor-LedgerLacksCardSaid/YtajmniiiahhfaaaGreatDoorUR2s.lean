import Derived.Test.YtajmniiiahhfaaaGreatDoorGB
/-
  The reference's facts: ruling, content, only, Same, Check, walked.
-/
set_option linter.unusedVariables false
set_option linter.unusedSimpArgs false
set_option maxRecDepth 100000
set_option maxHeartbeats 4000000
namespace Go.Hw
open Go
attribute [local irreducible] GO GOl GDp Val Fn Res CellsAt ValE Blk OwnS MapA OwnPf Has
open Go.Proofs (Tryz.prog)


theorem sameI_c (h : Ro) (A : Option Addr) (n c : Nat) (l : List Int) (hx : SlOf encI 1 h A n l) (hn : n ≤ 9223372036854775807) (B : Option Addr) (m d : Nat) (r : List Int) (hy : SlOf encI 1 h B m r) (hm : m ≤ 9223372036854775807) :
    Val Tryz.prog 115 #[.slice A n c, .slice B m d] h (.bool (decide (l = r))) := by
  refine Val_intro (args := [_, _]) ts_ok Go.Proofs.Tryz.func115 rfl rfl fun w0 X0 => ?_
  have hlen := hx.len
  have hlen2 := hy.len
  by_cases hnm : n = m
  · subst hnm
    repeat' (first | apply GO_seq | apply GO_skip | apply GO_block | apply GO_region | apply GOl_nil | (apply GOl_pv; exact rfl; exact rfl; exact rfl) | (apply GO_cond; exact rfl; all_goals intro hc; all_goals try simp only [ltI_t, ltI_f, leI_t, leI_f, eqI_t, eqI_f, Bool.not_eq_true', Bool.not_eq_false', decide_eq_true_eq, decide_eq_false_iff_not, reduceCtorEq] at hc; all_goals try (exfalso; omega)))
    · refine GO_loopT (X := Nat) (fun k => k ≤ n ∧ l.take k = r.take k) (fun k => n - k) (fun k => [(5, .int .i64 k), (0, .slice A n c), (1, .slice B n d)]) (fun _ => []) (fun _ => h) 0 ⟨by omega, rfl⟩ (by (repeat (first | exact trivial | refine ⟨rfl, ?_⟩)); done) (by (repeat (first | exact Takes_nil | (apply Takes_cons; exact (by (repeat (first | exact Take.here | apply Take.there)); done)))); done) rfl ?_
      rintro k ⟨hk, hI⟩ ih
      by_cases hkn : k < n
      · have a1 := hx.addrD hkn
        have c1 := hx.cellsD 0 hkn
        have a2 := hy.addrD hkn
        have c2 := hy.cellsD 0 hkn
        have ht1 := take7 0 hlen hkn
        have ht2 := take7 0 hlen2 hkn
        have hne : l.getD k 0 ≠ r.getD k 0 → l ≠ r := fun h1 h2 => h1 (by rw [h2])
        generalize l.getD k 0 = u at *
        generalize r.getD k 0 = v at *
        repeat' (first | apply GO_seq | apply GO_skip | apply GO_inBlock | apply GO_block | apply GO_region | apply GOl_nil | (apply GOl_add; exact rfl; exact rfl; exact rfl; omega; exact rfl; exact rfl) | (apply GOl_pv; exact rfl; exact rfl; exact rfl) | (apply GO_drawp (n := 6) [0, 1, 2, 3, 4, 5, 6, 7, 8] [(0, 0), (1, 0), (2, 0), (3, 0), (4, 0), (5, 0), (6, 0), (7, 0), (8, 0)]; kernel_rfl) | (apply GP_pv; exact rfl; kernel_rfl; exact rfl; exact rfl; exact rfl) | (apply GP_ov; exact rfl; kernel_rfl; exact rfl; exact rfl; (first | (apply OV_idxS (j := k); exact rfl; exact rfl; exact rfl; exact rfl; exact rfl; exact a1; (with_reducible exact rfl); omega) | (apply OV_idxS (j := k); exact rfl; exact rfl; exact rfl; exact rfl; exact rfl; exact a2; (with_reducible exact rfl); omega) | (apply OV_load; exact rfl; exact Lv_ro rfl c1 rfl) | (apply OV_load; exact rfl; exact Lv_ro rfl c2 rfl)); exact (by repeat' (first | exact trivial | apply And.intro | exact List.Mem.head _ | apply List.Mem.tail))) | (apply GP_done; kernel_rfl; exact rfl) | (apply GO_cond; exact rfl; all_goals intro hc; all_goals try simp only [ltI_t, ltI_f, leI_t, leI_f, eqI_t, eqI_f, Bool.not_eq_true', Bool.not_eq_false', decide_eq_true_eq, decide_eq_false_iff_not, reduceCtorEq] at hc; all_goals try (exfalso; omega)))
        · (first | (apply GO_retV1; exact rfl; exact rfl; exact rfl))
          rw [decide_eq_false (hne (by omega))]
        · have h3 := ih (k + 1) ⟨by omega, by have e5 : u = v := (by omega); rw [ht1, ht2, hI, e5]⟩ (by omega)
          refine GO_fit (by (repeat (first | exact trivial | refine ⟨rfl, ?_⟩)); done) (by (repeat (first | exact Takes_nil | (apply Takes_cons; exact (by (repeat (first | exact Take.here | apply Take.there)); done)))); done) (h3)
      · repeat' (first | apply GO_seq | apply GO_region | apply GOl_nil | (apply GO_exit; exact rfl) | (apply GOl_pv; exact rfl; exact rfl; exact rfl) | (apply GO_cond; exact rfl; all_goals intro hc; all_goals try simp only [ltI_t, ltI_f, leI_t, leI_f, eqI_t, eqI_f, Bool.not_eq_true', Bool.not_eq_false', decide_eq_true_eq, decide_eq_false_iff_not, reduceCtorEq] at hc; all_goals try (exfalso; omega)) | (apply GO_retV1; exact rfl; exact rfl; exact rfl))
        rw [List.take_of_length_le (by omega), List.take_of_length_le (by omega)] at hI
        rw [decide_eq_true hI]
  · repeat' (first | apply GO_seq | apply GO_region | apply GOl_nil | (apply GOl_pv; exact rfl; exact rfl; exact rfl) | (apply GO_cond; exact rfl; all_goals intro hc; all_goals try simp only [ltI_t, ltI_f, leI_t, leI_f, eqI_t, eqI_f, Bool.not_eq_true', Bool.not_eq_false', decide_eq_true_eq, decide_eq_false_iff_not, reduceCtorEq] at hc; all_goals try (exfalso; omega)) | (apply GO_retV1; exact rfl; exact rfl; exact rfl))
    rw [decide_eq_false]; intro hh; subst hh; omega


theorem sameC_c (h : Ro) (A : Option Addr) (n c : Nat) (l : List FCard) (hx : SlOf encC 2 h A n l) (hn : n ≤ 9223372036854775807) (B : Option Addr) (m d : Nat) (r : List FCard) (hy : SlOf encC 2 h B m r) (hm : m ≤ 9223372036854775807) :
    Val Tryz.prog 179 #[.slice A n c, .slice B m d] h (.bool (decide (l = r))) := by
  refine Val_intro (args := [_, _]) ts_ok Go.Proofs.Tryz.func179 rfl rfl fun w0 X0 => ?_
  have hlen := hx.len
  have hlen2 := hy.len
  by_cases hnm : n = m
  · subst hnm
    repeat' (first | apply GO_seq | apply GO_skip | apply GO_block | apply GO_region | apply GOl_nil | (apply GOl_pv; exact rfl; exact rfl; exact rfl) | (apply GO_cond; exact rfl; all_goals intro hc; all_goals try simp only [ltI_t, ltI_f, leI_t, leI_f, eqI_t, eqI_f, Bool.not_eq_true', Bool.not_eq_false', decide_eq_true_eq, decide_eq_false_iff_not, reduceCtorEq] at hc; all_goals try (exfalso; omega)))
    · refine GO_loopT (X := Nat) (fun k => k ≤ n ∧ l.take k = r.take k) (fun k => n - k) (fun k => [(5, .int .i64 k), (0, .slice A n c), (1, .slice B n d)]) (fun _ => []) (fun _ => h) 0 ⟨by omega, rfl⟩ (by (repeat (first | exact trivial | refine ⟨rfl, ?_⟩)); done) (by (repeat (first | exact Takes_nil | (apply Takes_cons; exact (by (repeat (first | exact Take.here | apply Take.there)); done)))); done) rfl ?_
      rintro k ⟨hk, hI⟩ ih
      by_cases hkn : k < n
      · have a1 := hx.addrD hkn
        have c1 := hx.cellsD card0 hkn
        have a2 := hy.addrD hkn
        have c2 := hy.cellsD card0 hkn
        have ht1 := take7 card0 hlen hkn
        have ht2 := take7 card0 hlen2 hkn
        have hne : l.getD k card0 ≠ r.getD k card0 → l ≠ r := fun h1 h2 => h1 (by rw [h2])
        generalize l.getD k card0 = u at *
        generalize r.getD k card0 = v at *
        obtain ⟨up, ur⟩ := u
        obtain ⟨vp, vr⟩ := v
        repeat' (first | apply GO_seq | apply GO_skip | apply GO_inBlock | apply GO_block | apply GO_region | apply GOl_nil | (apply GOl_add; exact rfl; exact rfl; exact rfl; omega; exact rfl; exact rfl) | (apply GOl_pv; exact rfl; exact rfl; exact rfl) | (apply GO_drawp (n := 6) [0, 1, 2, 3, 4, 5, 6, 7, 8] [(0, 0), (1, 0), (2, 0), (3, 0), (4, 0), (5, 0), (6, 0), (7, 0), (8, 0)]; kernel_rfl) | (apply GP_pv; exact rfl; kernel_rfl; exact rfl; exact rfl; exact rfl) | (apply GP_ov; exact rfl; kernel_rfl; exact rfl; exact rfl; (first | (apply OV_idxS (j := k); exact rfl; exact rfl; exact rfl; exact rfl; exact rfl; exact a1; (with_reducible exact rfl); omega) | (apply OV_idxS (j := k); exact rfl; exact rfl; exact rfl; exact rfl; exact rfl; exact a2; (with_reducible exact rfl); omega) | (apply OV_load; exact rfl; exact Lv_ro rfl c1 rfl) | (apply OV_load; exact rfl; exact Lv_ro rfl c2 rfl) | (apply OV_neqS; exact rfl; exact rfl; exact rfl; kernel_rfl; kernel_rfl)); exact (by repeat' (first | exact trivial | apply And.intro | exact List.Mem.head _ | apply List.Mem.tail))) | (apply GP_done; kernel_rfl; exact rfl) | (apply GO_cond; exact rfl; all_goals intro hc; all_goals try simp only [ltI_t, ltI_f, leI_t, leI_f, eqI_t, eqI_f, Bool.not_eq_true', Bool.not_eq_false', decide_eq_true_eq, decide_eq_false_iff_not, reduceCtorEq] at hc; all_goals try (exfalso; omega)))
        · (first | (apply GO_retV1; exact rfl; exact rfl; exact rfl))
          rw [decide_eq_false (hne (by rintro e; injection e with e1 e2; subst e1; subst e2; simp [eqI_eq] at hc))]
        · have h3 := ih (k + 1) ⟨by omega, by
            simp [eqI_eq] at hc
            rw [ht1, ht2, hI, hc.1, hc.2]⟩ (by omega)
          refine GO_fit (by (repeat (first | exact trivial | refine ⟨rfl, ?_⟩)); done) (by (repeat (first | exact Takes_nil | (apply Takes_cons; exact (by (repeat (first | exact Take.here | apply Take.there)); done)))); done) (h3)
      · repeat' (first | apply GO_seq | apply GO_region | apply GOl_nil | (apply GO_exit; exact rfl) | (apply GOl_pv; exact rfl; exact rfl; exact rfl) | (apply GO_cond; exact rfl; all_goals intro hc; all_goals try simp only [ltI_t, ltI_f, leI_t, leI_f, eqI_t, eqI_f, Bool.not_eq_true', Bool.not_eq_false', decide_eq_true_eq, decide_eq_false_iff_not, reduceCtorEq] at hc; all_goals try (exfalso; omega)) | (apply GO_retV1; exact rfl; exact rfl; exact rfl))
        rw [List.take_of_length_le (by omega), List.take_of_length_le (by omega)] at hI
        rw [decide_eq_true hI]
  · repeat' (first | apply GO_seq | apply GO_region | apply GOl_nil | (apply GOl_pv; exact rfl; exact rfl; exact rfl) | (apply GO_cond; exact rfl; all_goals intro hc; all_goals try simp only [ltI_t, ltI_f, leI_t, leI_f, eqI_t, eqI_f, Bool.not_eq_true', Bool.not_eq_false', decide_eq_true_eq, decide_eq_false_iff_not, reduceCtorEq] at hc; all_goals try (exfalso; omega)) | (apply GO_retV1; exact rfl; exact rfl; exact rfl))
    rw [decide_eq_false]; intro hh; subst hh; omega


theorem sameSR_c (h : Ro) (s : Fsh) (x : FSheet) (hx : ShAt h s x) (hxs : ShSm x) (t : Fsh) (y : FSheet) (hy : ShAt h t y) (hys : ShSm y) : Val Tryz.prog 116 #[sheetV s x, sheetV t y] h (.bool (decide (x = y))) := by
  refine Val_intro (args := [_, _]) ts_ok Go.Proofs.Tryz.func116 rfl rfl fun w0 X0 => ?_
  obtain ⟨n1, n2, n3, n4⟩ := hx.small hxs
  obtain ⟨m1, m2, m3, m4⟩ := hy.small hys
  repeat' (first | apply GO_seq | apply GO_region | apply GOl_nil | (apply GOl_unwanted; exact rfl; exact rfl) | (apply GOl_pv; exact rfl; exact rfl; exact rfl) | (apply GOl_load; exact rfl; exact Ld_blk rfl (by (repeat (first | exact List.Mem.head _ | apply List.Mem.tail)); done) rfl; exact rfl; exact rfl) | (apply GOl_ov; exact rfl; exact rfl; (first | (apply OV_eqlS; exact rfl; exact rfl; exact game_eq x.g y.g; kernel_rfl; kernel_rfl)); exact (by repeat' (first | exact trivial | apply And.intro | exact List.Mem.head _ | apply List.Mem.tail))) | (apply GOl_to; exact rfl; exact rfl; exact rfl; (first | (apply OpTo_box; exact rfl; intro b; skip) | (apply OpTo_val; exact rfl; exact has115; first | exact sameI_c _ _ _ _ x.hs (hx.hs.le (by first | exact Le.refl _ | assumption | (repeat (first | assumption | (apply Le.trans; assumption))))) (by omega) _ _ _ y.hs (hy.hs.le (by first | exact Le.refl _ | assumption | (repeat (first | assumption | (apply Le.trans; assumption))))) (by omega) | exact sameI_c _ _ _ _ x.asn (hx.asn.le (by first | exact Le.refl _ | assumption | (repeat (first | assumption | (apply Le.trans; assumption))))) (by omega) _ _ _ y.asn (hy.asn.le (by first | exact Le.refl _ | assumption | (repeat (first | assumption | (apply Le.trans; assumption))))) (by omega); skip) | (apply OpTo_val; exact rfl; exact has179; first | exact sameC_c _ _ _ _ x.hc (hx.hc.le (by first | exact Le.refl _ | assumption | (repeat (first | assumption | (apply Le.trans; assumption))))) (by omega) _ _ _ y.hc (hy.hc.le (by first | exact Le.refl _ | assumption | (repeat (first | assumption | (apply Le.trans; assumption))))) (by omega) | exact sameC_c _ _ _ _ x.ac (hx.ac.le (by first | exact Le.refl _ | assumption | (repeat (first | assumption | (apply Le.trans; assumption))))) (by omega) _ _ _ y.ac (hy.ac.le (by first | exact Le.refl _ | assumption | (repeat (first | assumption | (apply Le.trans; assumption))))) (by omega); skip))) | (apply GOl_split; exact rfl; exact rfl; all_goals intro hc; all_goals try simp only [ltI_t, ltI_f, leI_t, leI_f, eqI_t, eqI_f, Bool.not_eq_true', Bool.not_eq_false', decide_eq_true_eq, decide_eq_false_iff_not, reduceCtorEq] at hc; all_goals try (exfalso; omega)))
  all_goals (first | (apply GO_retV1; exact rfl; exact rfl; exact rfl))
  all_goals (clear hx hxs hy hys; refine dec_ofV ?_; rw [sheet_ext]; grind)


theorem sameR_c (h : Ro) (s : Fsh) (x : Fct) (hx : FAt h s x) (hxs : FSm x) (t : Fsh) (y : Fct) (hy : FAt h t y) (hys : FSm y) : Val Tryz.prog 88 #[factV s x, factV t y] h (.bool (decide (x = y))) := by
  refine Val_intro (args := [_, _]) ts_ok Go.Proofs.Tryz.func88 rfl rfl fun w0 X0 => ?_
  obtain ⟨n1, n2, n3, n4, n5, n6⟩ := hx.small hxs
  obtain ⟨m1, m2, m3, m4, m5, m6⟩ := hy.small hys
  repeat' (first | apply GO_seq | apply GO_skip | apply GO_region | apply GOl_nil | (apply GOl_unwanted; exact rfl; exact rfl) | (apply GOl_pv; exact rfl; exact rfl; exact rfl) | (apply GOl_load; exact rfl; exact Ld_blk rfl (by (repeat (first | exact List.Mem.head _ | apply List.Mem.tail)); done) rfl; exact rfl; exact rfl) | (apply GOl_ov; exact rfl; exact rfl; (first | (apply OV_neqS; exact rfl; exact rfl; (first | exact fix_eq x.fg y.fg x.venue y.venue | exact rul_eq x.ru y.ru | exact app_eq x y | exact mov_eq x y); kernel_rfl; kernel_rfl) | (apply OV_neqV; exact rfl; exact rfl; exact void_eq x.void y.void hx.void hy.void; kernel_rfl; kernel_rfl)); exact (by repeat' (first | exact trivial | apply And.intro | exact List.Mem.head _ | apply List.Mem.tail))) | (apply GOl_to; exact rfl; exact rfl; exact rfl; (first | (apply OpTo_store; exact rfl; exact rfl; exact rfl; exact (by (repeat (first | exact Repl.here | apply Repl.there)); done); exact rfl; exact rfl; exact rfl; skip) | (apply OpTo_box; exact rfl; intro b; skip) | (apply OpTo_alloc; exact rfl; intro b; skip) | (apply OpTo_val; exact rfl; exact has115; first | exact sameI_c _ _ _ _ x.eClubs (hx.cl.le (by first | exact Le.refl _ | assumption | (repeat (first | assumption | (apply Le.trans; assumption))))) (by omega) _ _ _ y.eClubs (hy.cl.le (by first | exact Le.refl _ | assumption | (repeat (first | assumption | (apply Le.trans; assumption))))) (by omega) | exact sameI_c _ _ _ _ x.lO (hx.lo.le (by first | exact Le.refl _ | assumption | (repeat (first | assumption | (apply Le.trans; assumption))))) (by omega) _ _ _ y.lO (hy.lo.le (by first | exact Le.refl _ | assumption | (repeat (first | assumption | (apply Le.trans; assumption))))) (by omega); skip) | (apply OpTo_val; exact rfl; exact has116; exact sameSR_c _ s x.sh hx.sh hxs.1 t y.sh hy.sh hys.1; skip))) | (apply GO_cond; exact rfl; all_goals intro hc; all_goals try simp only [ltI_t, ltI_f, leI_t, leI_f, eqI_t, eqI_f, Bool.not_eq_true', Bool.not_eq_false', decide_eq_true_eq, decide_eq_false_iff_not, reduceCtorEq] at hc; all_goals try (exfalso; omega)) | (apply GOl_split; exact rfl; exact rfl; all_goals intro hc; all_goals try simp only [ltI_t, ltI_f, leI_t, leI_f, eqI_t, eqI_f, Bool.not_eq_true', Bool.not_eq_false', decide_eq_true_eq, decide_eq_false_iff_not, reduceCtorEq] at hc; all_goals try (exfalso; omega)))
  all_goals (first | (apply GO_retV1; exact rfl; exact rfl; exact rfl))
  all_goals (clear hx hxs hy hys; refine dec_ofV ?_; (try simp only [str_toList, beq_iff_eq] at *))
  all_goals (rw [fct_ext]; grind)

end Go.Hw

import Derived.Test.YtajmniiiahhfaaaGreatDoorSA
import Derived.Test.YtajmniiiahhfaaaGreatDoorRA
/-
  The reference's Same, Equal, SameScore, SameGames; Few; the score of a game by the latest sheets.
-/
set_option linter.unusedVariables false
set_option linter.unusedSimpArgs false
set_option maxRecDepth 100000
set_option maxHeartbeats 4000000
namespace Go.Hw
open Go
attribute [local irreducible] GO GOl GDp Val Fn Res CellsAt ValE Blk OwnS MapA OwnPf Has Yl RngA
open Go.Proofs (Tryz.prog)
theorem sameI9_c (h : Ro) (A : Option Addr) (n c : Nat) (l : List Int) (hx : SlOf encI 1 h A n l) (hn : n ≤ 9223372036854775807) (B : Option Addr) (m d : Nat) (r : List Int) (hy : SlOf encI 1 h B m r) (hm : m ≤ 9223372036854775807) :
    Val Tryz.prog 59 #[.slice A n c, .slice B m d] h (.bool (decide (l = r))) := by
  refine Val_intro (args := [_, _]) ts_ok Go.Proofs.Tryz.func59 rfl rfl fun w0 X0 => ?_
  have hlen := hx.len
  have hlen2 := hy.len
  by_cases hnm : n = m
  · subst hnm
    repeat' (first | apply GO_seq | apply GO_skip | apply GO_block | apply GO_region | apply GOl_nil | (apply GOl_pv; (iterate 3 exact rfl)) | (apply GO_cond; exact rfl; all_goals intro hc; all_goals try simp only [hcS, reduceCtorEq] at hc; all_goals try (exfalso; omega)))
    · refine GO_loopT (X := Nat) (fun k => k ≤ n ∧ l.take k = r.take k) (fun k => n - k) (fun k => [(5, .int .i64 k), (0, .slice A n c), (1, .slice B n d)]) (fun _ => []) (fun _ => h) 0 ⟨by omega, rfl⟩ (by (repeat (first|exact trivial|refine ⟨rfl, ?_⟩));done) (by (repeat (first | exact Takes_nil | (apply Takes_cons; exact (by (repeat (first|exact Take.here|apply Take.there));done)))); done) rfl ?_
      rintro k ⟨hk, hI⟩ ih
      by_cases hkn : k < n
      · have a1 := hx.addrD hkn
        have c1 := hx.cellsD 0 hkn
        have a2 := hy.addrD hkn
        have c2 := hy.cellsD 0 hkn
        have ht1 := take7 0 hlen hkn
        have ht2 := take7 0 hlen2 hkn
        have hne : l.getD k 0 ≠ r.getD k 0 → l ≠ r := fun h1 h2 => h1 (by rw [h2])
        generalize l.getD k 0 = u at *
        generalize r.getD k 0 = v at *
        repeat' (first | apply GO_seq | apply GO_skip | apply GO_inBlock | apply GO_block | apply GO_region | apply GOl_nil | (apply GOl_add; (iterate 3 exact rfl); omega; exact rfl; exact rfl) | (apply GOl_pv; (iterate 3 exact rfl)) | (apply GO_drawp (n := 6) [0, 1, 2, 3, 4, 5, 6, 7, 8] [(0, 0), (1, 0), (2, 0), (3, 0), (4, 0), (5, 0), (6, 0), (7, 0), (8, 0)]; kernel_rfl) | (apply GP_pv; exact rfl; kernel_rfl; (iterate 3 exact rfl)) | (apply GP_ov; exact rfl; kernel_rfl; exact rfl; exact rfl; (first | (apply OV_idxS (j := k); (iterate 5 exact rfl); exact a1; (with_reducible exact rfl); omega) | (apply OV_idxS (j := k); (iterate 5 exact rfl); exact a2; (with_reducible exact rfl); omega) | (apply OV_load; exact rfl; exact Lv_ro rfl c1 rfl) | (apply OV_load; exact rfl; exact Lv_ro rfl c2 rfl)); exact (by repeat' (first|exact trivial|apply And.intro|exact List.Mem.head _|apply List.Mem.tail))) | (apply GP_done; kernel_rfl; exact rfl) | (apply GO_cond; exact rfl; all_goals intro hc; all_goals try simp only [hcS, reduceCtorEq] at hc; all_goals try (exfalso; omega)))
        · (first | (apply GO_retV1; (iterate 3 exact rfl)))
          rw [decide_eq_false (hne (by omega))]
        · have h3 := ih (k + 1) ⟨by omega, by have e5 : u = v := (by omega); rw [ht1, ht2, hI, e5]⟩ (by omega)
          refine GO_fit (by (repeat (first|exact trivial|refine ⟨rfl, ?_⟩));done) (by (repeat (first | exact Takes_nil | (apply Takes_cons; exact (by (repeat (first|exact Take.here|apply Take.there));done)))); done) (h3)
      · repeat' (first | apply GO_seq | apply GO_region | apply GOl_nil | (apply GO_exit; exact rfl) | (apply GOl_pv; (iterate 3 exact rfl)) | (apply GO_cond; exact rfl; all_goals intro hc; all_goals try simp only [hcS, reduceCtorEq] at hc; all_goals try (exfalso; omega)) | (apply GO_retV1; (iterate 3 exact rfl)))
        rw [List.take_of_length_le (by omega), List.take_of_length_le (by omega)] at hI
        rw [decide_eq_true hI]
  · repeat' (first | apply GO_seq | apply GO_region | apply GOl_nil | (apply GOl_pv; (iterate 3 exact rfl)) | (apply GO_cond; exact rfl; all_goals intro hc; all_goals try simp only [hcS, reduceCtorEq] at hc; all_goals try (exfalso; omega)) | (apply GO_retV1; (iterate 3 exact rfl)))
    rw [decide_eq_false]; intro hh; subst hh; omega
theorem sameC9_c (h : Ro) (A : Option Addr) (n c : Nat) (l : List FCard) (hx : SlOf encC 2 h A n l) (hn : n ≤ 9223372036854775807) (B : Option Addr) (m d : Nat) (r : List FCard) (hy : SlOf encC 2 h B m r) (hm : m ≤ 9223372036854775807) :
    Val Tryz.prog 60 #[.slice A n c, .slice B m d] h (.bool (decide (l = r))) := by
  refine Val_intro (args := [_, _]) ts_ok Go.Proofs.Tryz.func60 rfl rfl fun w0 X0 => ?_
  have hlen := hx.len
  have hlen2 := hy.len
  by_cases hnm : n = m
  · subst hnm
    repeat' (first | apply GO_seq | apply GO_skip | apply GO_block | apply GO_region | apply GOl_nil | (apply GOl_pv; (iterate 3 exact rfl)) | (apply GO_cond; exact rfl; all_goals intro hc; all_goals try simp only [hcS, reduceCtorEq] at hc; all_goals try (exfalso; omega)))
    · refine GO_loopT (X := Nat) (fun k => k ≤ n ∧ l.take k = r.take k) (fun k => n - k) (fun k => [(5, .int .i64 k), (0, .slice A n c), (1, .slice B n d)]) (fun _ => []) (fun _ => h) 0 ⟨by omega, rfl⟩ (by (repeat (first|exact trivial|refine ⟨rfl, ?_⟩));done) (by (repeat (first | exact Takes_nil | (apply Takes_cons; exact (by (repeat (first|exact Take.here|apply Take.there));done)))); done) rfl ?_
      rintro k ⟨hk, hI⟩ ih
      by_cases hkn : k < n
      · have a1 := hx.addrD hkn
        have c1 := hx.cellsD card0 hkn
        have a2 := hy.addrD hkn
        have c2 := hy.cellsD card0 hkn
        have ht1 := take7 card0 hlen hkn
        have ht2 := take7 card0 hlen2 hkn
        have hne : l.getD k card0 ≠ r.getD k card0 → l ≠ r := fun h1 h2 => h1 (by rw [h2])
        generalize l.getD k card0 = u at *
        generalize r.getD k card0 = v at *
        obtain ⟨up, ur⟩ := u
        obtain ⟨vp, vr⟩ := v
        repeat' (first | apply GO_seq | apply GO_skip | apply GO_inBlock | apply GO_block | apply GO_region | apply GOl_nil | (apply GOl_add; (iterate 3 exact rfl); omega; exact rfl; exact rfl) | (apply GOl_pv; (iterate 3 exact rfl)) | (apply GO_drawp (n := 6) [0, 1, 2, 3, 4, 5, 6, 7, 8] [(0, 0), (1, 0), (2, 0), (3, 0), (4, 0), (5, 0), (6, 0), (7, 0), (8, 0)]; kernel_rfl) | (apply GP_pv; exact rfl; kernel_rfl; (iterate 3 exact rfl)) | (apply GP_ov; exact rfl; kernel_rfl; exact rfl; exact rfl; (first | (apply OV_idxS (j := k); (iterate 5 exact rfl); exact a1; (with_reducible exact rfl); omega) | (apply OV_idxS (j := k); (iterate 5 exact rfl); exact a2; (with_reducible exact rfl); omega) | (apply OV_load; exact rfl; exact Lv_ro rfl c1 rfl) | (apply OV_load; exact rfl; exact Lv_ro rfl c2 rfl) | (apply OV_neqS; (iterate 3 exact rfl); kernel_rfl; kernel_rfl)); exact (by repeat' (first|exact trivial|apply And.intro|exact List.Mem.head _|apply List.Mem.tail))) | (apply GP_done; kernel_rfl; exact rfl) | (apply GO_cond; exact rfl; all_goals intro hc; all_goals try simp only [hcS, reduceCtorEq] at hc; all_goals try (exfalso; omega)))
        · (first | (apply GO_retV1; (iterate 3 exact rfl)))
          rw [decide_eq_false (hne (by rintro e; injection e with e1 e2; subst e1; subst e2; simp [eqI_eq] at hc))]
        · have h3 := ih (k + 1) ⟨by omega, by
            simp [eqI_eq] at hc
            rw [ht1, ht2, hI, hc.1, hc.2]⟩ (by omega)
          refine GO_fit (by (repeat (first|exact trivial|refine ⟨rfl, ?_⟩));done) (by (repeat (first | exact Takes_nil | (apply Takes_cons; exact (by (repeat (first|exact Take.here|apply Take.there));done)))); done) (h3)
      · repeat' (first | apply GO_seq | apply GO_region | apply GOl_nil | (apply GO_exit; exact rfl) | (apply GOl_pv; (iterate 3 exact rfl)) | (apply GO_cond; exact rfl; all_goals intro hc; all_goals try simp only [hcS, reduceCtorEq] at hc; all_goals try (exfalso; omega)) | (apply GO_retV1; (iterate 3 exact rfl)))
        rw [List.take_of_length_le (by omega), List.take_of_length_le (by omega)] at hI
        rw [decide_eq_true hI]
  · repeat' (first | apply GO_seq | apply GO_region | apply GOl_nil | (apply GOl_pv; (iterate 3 exact rfl)) | (apply GO_cond; exact rfl; all_goals intro hc; all_goals try simp only [hcS, reduceCtorEq] at hc; all_goals try (exfalso; omega)) | (apply GO_retV1; (iterate 3 exact rfl)))
    rw [decide_eq_false]; intro hh; subst hh; omega
theorem sameSh9_c (h : Ro) (s : Fsh) (x : FSheet) (hx : ShAt h s x) (hxs : ShSm x) (t : Fsh) (y : FSheet) (hy : ShAt h t y) (hys : ShSm y) : Val Tryz.prog 21 #[sheetV s x, sheetV t y] h (.bool (decide (SameSh x y))) := by
  refine Val_intro (args := [_, _]) ts_ok Go.Proofs.Tryz.func21 rfl rfl fun w0 X0 => ?_
  obtain ⟨n1, n2, n3, n4⟩ := hx.small hxs
  obtain ⟨m1, m2, m3, m4⟩ := hy.small hys
  repeat' (first | apply GO_seq | apply GO_region | apply GOl_nil | (apply GOl_unwanted; exact rfl; exact rfl) | (apply GOl_pv; (iterate 3 exact rfl)) | (apply GOl_load; exact rfl; exact Ld_blk rfl (by (repeat (first|exact List.Mem.head _|apply List.Mem.tail));done) rfl; exact rfl; exact rfl) | (apply GOl_ov; exact rfl; exact rfl; (first | (apply OV_eqlS; exact rfl; exact rfl; exact game_eq _ _; kernel_rfl; kernel_rfl)); exact (by repeat' (first|exact trivial|apply And.intro|exact List.Mem.head _|apply List.Mem.tail))) | (apply GOl_to; (iterate 3 exact rfl); (first | (apply OpTo_box; exact rfl; intro b; skip) | (apply OpTo_val; exact rfl; exact has59; first | exact sameI9_c _ _ _ _ x.hs (hx.hs.le (by first|exact Le.refl _|assumption|(repeat (first|assumption|(apply Le.trans;assumption))))) (by omega) _ _ _ y.hs (hy.hs.le (by first|exact Le.refl _|assumption|(repeat (first|assumption|(apply Le.trans;assumption))))) (by omega) | exact sameI9_c _ _ _ _ x.asn (hx.asn.le (by first|exact Le.refl _|assumption|(repeat (first|assumption|(apply Le.trans;assumption))))) (by omega) _ _ _ y.asn (hy.asn.le (by first|exact Le.refl _|assumption|(repeat (first|assumption|(apply Le.trans;assumption))))) (by omega); skip) | (apply OpTo_val; exact rfl; exact has60; first | exact sameC9_c _ _ _ _ x.hc (hx.hc.le (by first|exact Le.refl _|assumption|(repeat (first|assumption|(apply Le.trans;assumption))))) (by omega) _ _ _ y.hc (hy.hc.le (by first|exact Le.refl _|assumption|(repeat (first|assumption|(apply Le.trans;assumption))))) (by omega) | exact sameC9_c _ _ _ _ x.ac (hx.ac.le (by first|exact Le.refl _|assumption|(repeat (first|assumption|(apply Le.trans;assumption))))) (by omega) _ _ _ y.ac (hy.ac.le (by first|exact Le.refl _|assumption|(repeat (first|assumption|(apply Le.trans;assumption))))) (by omega); skip))) | (apply GOl_split; exact rfl; exact rfl; all_goals intro hc; all_goals try simp only [hcS, reduceCtorEq] at hc; all_goals try (exfalso; omega)))
  all_goals (first | (apply GO_retV1; (iterate 3 exact rfl)))
  all_goals (clear hx hy; refine dec_ofV ?_)
  all_goals (rw [SameSh_iff]; grind)
theorem sheetEq_iff {a b : FSheet} : a = b ↔ a.ref = b.ref ∧ SameSh a b := by
  constructor
  · rintro rfl; exact ⟨rfl, SameSh.refl _⟩
  · rintro ⟨h1, h2⟩; exact SameSh_eq h2 h1
theorem equal9_c (h : Ro) (s : Fsh) (x : FSheet) (hx : ShAt h s x) (hxs : ShSm x) (t : Fsh) (y : FSheet) (hy : ShAt h t y) (hys : ShSm y) : Val Tryz.prog 19 #[sheetV s x, sheetV t y] h (.bool (decide (x = y))) := by
  refine Val_intro (args := [_, _]) ts_ok Go.Proofs.Tryz.func19 rfl rfl fun w0 X0 => ?_
  repeat' (first | apply GO_seq | apply GO_region | apply GOl_nil | (apply GOl_unwanted; exact rfl; exact rfl) | (apply GOl_pv; (iterate 3 exact rfl)) | (apply GOl_load; exact rfl; exact Ld_blk rfl (by (repeat (first|exact List.Mem.head _|apply List.Mem.tail));done) rfl; exact rfl; exact rfl) | (apply GOl_to; (iterate 3 exact rfl); (first | (apply OpTo_box; exact rfl; intro b; skip) | (apply OpTo_val; exact rfl; exact has21; exact sameSh9_c _ s x (hx.le (by first|exact Le.refl _|assumption|(repeat (first|assumption|(apply Le.trans;assumption))))) hxs t y (hy.le (by first|exact Le.refl _|assumption|(repeat (first|assumption|(apply Le.trans;assumption))))) hys; skip))) | (apply GOl_split; exact rfl; exact rfl; all_goals intro hc; all_goals try simp only [hcS, reduceCtorEq] at hc; all_goals try (exfalso; omega)))
  all_goals (first | (apply GO_retV1; (iterate 3 exact rfl)))
  all_goals (clear hx hy; refine dec_ofV ?_; (try simp only [eqI_t] at *); rw [sheetEq_iff]; grind)
theorem sameScore_c (h : Ro) (s : Fsh) (x : FScore) (hx : ShAt h s x.sh) (hxs : ShSm x.sh) (t : Fsh) (y : FScore) (hy : ShAt h t y.sh) (hys : ShSm y.sh) : Val Tryz.prog 22 #[scoreV s x, scoreV t y] h (.bool (decide (x = y))) := by
  refine Val_intro (args := [_, _]) ts_ok Go.Proofs.Tryz.func22 rfl rfl fun w0 X0 => ?_
  obtain ⟨xk, xs, xd⟩ := x
  obtain ⟨yk, ys, yd⟩ := y
  dsimp only at hx hxs hy hys
  repeat' (first | apply GO_seq | apply GO_region | apply GOl_nil | (apply GOl_unwanted; exact rfl; exact rfl) | (apply GOl_pv; (iterate 3 exact rfl)) | (apply GOl_load; exact rfl; exact Ld_blk rfl (by (repeat (first|exact List.Mem.head _|apply List.Mem.tail));done) rfl; exact rfl; exact rfl) | (apply GOl_to; (iterate 3 exact rfl); (first | (apply OpTo_box; exact rfl; intro b; skip) | (apply OpTo_val; exact rfl; exact has19; exact equal9_c _ s xs (hx.le (by first|exact Le.refl _|assumption|(repeat (first|assumption|(apply Le.trans;assumption))))) hxs t ys (hy.le (by first|exact Le.refl _|assumption|(repeat (first|assumption|(apply Le.trans;assumption))))) hys; skip))) | (apply GOl_split; exact rfl; exact rfl; all_goals intro hc; all_goals try simp only [hcS, reduceCtorEq] at hc; all_goals try (exfalso; omega)))
  all_goals (first | (apply GO_retV1; (iterate 3 exact rfl)))
  all_goals (clear hx hy; refine dec_ofV ?_; (try simp only [eqI_t] at *); rw [FScore.mk.injEq]; grind)
theorem sameGames_c (h : Ro) (A : Option Addr) (n c : Nat) (l : List FGame) (hx : SlOf gameC 4 h A n l) (hn : n ≤ 1000000000) (B : Option Addr) (m d : Nat) (r : List FGame) (hy : SlOf gameC 4 h B m r) (hm : m ≤ 1000000000) :
    Val Tryz.prog 25 #[.slice A n c, .slice B m d] h (.bool (decide (l = r))) := by
  refine Val_intro (args := [_, _]) ts_ok Go.Proofs.Tryz.func25 rfl rfl fun w0 X0 => ?_
  have hlen := hx.len
  have hlen2 := hy.len
  by_cases hnm : n = m
  · subst hnm
    repeat' (first | apply GO_seq | apply GO_skip | apply GO_block | apply GO_region | apply GOl_nil | (apply GOl_pv; (iterate 3 exact rfl)) | (apply GO_cond; exact rfl; all_goals intro hc; all_goals try simp only [hcS, reduceCtorEq] at hc; all_goals try (exfalso; omega)))
    · refine GO_loopT (X := Nat) (fun k => k ≤ n ∧ l.take k = r.take k) (fun k => n - k) (fun k => [(5, .int .i64 k), (0, .slice A n c), (1, .slice B n d)]) (fun _ => []) (fun _ => h) 0 ⟨by omega, rfl⟩ (by (repeat (first|exact trivial|refine ⟨rfl, ?_⟩));done) (by (repeat (first | exact Takes_nil | (apply Takes_cons; exact (by (repeat (first|exact Take.here|apply Take.there));done)))); done) rfl ?_
      rintro k ⟨hk, hI⟩ ih
      by_cases hkn : k < n
      · have a1 := hx.addrD hkn
        have c1 := hx.cellsD game0 hkn
        have a2 := hy.addrD hkn
        have c2 := hy.cellsD game0 hkn
        have ht1 := take7 game0 hlen hkn
        have ht2 := take7 game0 hlen2 hkn
        have hne : l.getD k game0 ≠ r.getD k game0 → l ≠ r := fun h1 h2 => h1 (by rw [h2])
        generalize l.getD k game0 = u at *
        generalize r.getD k game0 = v at *
        repeat' (first | apply GO_seq | apply GO_skip | apply GO_inBlock | apply GO_block | apply GO_region | apply GOl_nil | (apply GOl_add; (iterate 3 exact rfl); omega; exact rfl; exact rfl) | (apply GOl_pv; (iterate 3 exact rfl)) | (apply GO_drawp (n := 6) [0, 1, 2, 3, 4, 5, 6, 7, 8] [(0, 0), (1, 0), (2, 0), (3, 0), (4, 0), (5, 0), (6, 0), (7, 0), (8, 0)]; kernel_rfl) | (apply GP_pv; exact rfl; kernel_rfl; (iterate 3 exact rfl)) | (apply GP_ov; exact rfl; kernel_rfl; exact rfl; exact rfl; (first | (apply OV_idxS (j := k); (iterate 5 exact rfl); exact a1; (with_reducible exact rfl); omega) | (apply OV_idxS (j := k); (iterate 5 exact rfl); exact a2; (with_reducible exact rfl); omega) | (apply OV_load; exact rfl; exact Lv_ro rfl c1 rfl) | (apply OV_load; exact rfl; exact Lv_ro rfl c2 rfl) | (apply OV_neqS; exact rfl; exact rfl; exact game_eq _ _; kernel_rfl; kernel_rfl)); exact (by repeat' (first|exact trivial|apply And.intro|exact List.Mem.head _|apply List.Mem.tail))) | (apply GP_done; kernel_rfl; exact rfl) | (apply GO_cond; exact rfl; all_goals intro hc; all_goals try simp only [hcS, reduceCtorEq] at hc; all_goals try (exfalso; omega)))
        · (first | (apply GO_retV1; (iterate 3 exact rfl)))
          rw [decide_eq_false (hne (by simpa using hc))]
        · have h3 := ih (k + 1) ⟨by omega, by
            have hc2 : u = v := by first | assumption | simpa using hc
            rw [ht1, ht2, hI, hc2]⟩ (by omega)
          refine GO_fit (by (repeat (first|exact trivial|refine ⟨rfl, ?_⟩));done) (by (repeat (first | exact Takes_nil | (apply Takes_cons; exact (by (repeat (first|exact Take.here|apply Take.there));done)))); done) (h3)
      · repeat' (first | apply GO_seq | apply GO_region | apply GOl_nil | (apply GO_exit; exact rfl) | (apply GOl_pv; (iterate 3 exact rfl)) | (apply GO_cond; exact rfl; all_goals intro hc; all_goals try simp only [hcS, reduceCtorEq] at hc; all_goals try (exfalso; omega)) | (apply GO_retV1; (iterate 3 exact rfl)))
        rw [List.take_of_length_le (by omega), List.take_of_length_le (by omega)] at hI
        rw [decide_eq_true hI]
  · repeat' (first | apply GO_seq | apply GO_region | apply GOl_nil | (apply GOl_pv; (iterate 3 exact rfl)) | (apply GO_cond; exact rfl; all_goals intro hc; all_goals try simp only [hcS, reduceCtorEq] at hc; all_goals try (exfalso; omega)) | (apply GO_retV1; (iterate 3 exact rfl)))
    rw [decide_eq_false]; intro hh; subst hh; omega
/-! ### Few -/
def SmallS (s : Fsh) (f : Fct) : Prop := s.cl.n ≤ 60 ∧ f.eRules.length ≤ 100 ∧ s.hs.n ≤ 60 ∧ s.asn.n ≤ 60 ∧ s.hc.n ≤ 60 ∧ s.ac.n ≤ 60 ∧ s.lo.n ≤ 60
instance (s : Fsh) (f : Fct) : Decidable (SmallS s f) := by unfold SmallS; infer_instance
theorem small_c (h : Ro) (s : Fsh) (f : Fct) : Val Tryz.prog 54 #[factV s f] h (.bool (decide (SmallS s f))) := by
  refine Val_intro (args := [_]) ts_ok Go.Proofs.Tryz.func54 rfl rfl fun w0 X0 => ?_
  repeat' (first | apply GO_seq | apply GO_region | apply GOl_nil | (apply GOl_unwanted; exact rfl; exact rfl) | (apply GOl_pv; (iterate 3 exact rfl)) | (apply GOl_load; exact rfl; exact Ld_blk rfl (by (repeat (first|exact List.Mem.head _|apply List.Mem.tail));done) rfl; exact rfl; exact rfl) | (apply GOl_to; (iterate 3 exact rfl); (first | (apply OpTo_box; exact rfl; intro b; skip))) | (apply GOl_split; exact rfl; exact rfl; all_goals intro hc; all_goals try simp only [hcS, reduceCtorEq] at hc; all_goals try (exfalso; omega)))
  all_goals (first | (apply GO_retV1; (iterate 3 exact rfl)))
  all_goals (refine dec_ofV ?_; (try simp only [str_size, leI_t, leI_f] at *); unfold SmallS; first | omega | (simp only [Bool.false_eq_true, false_iff]; omega))
theorem fewF_c (h : Ro) (A : Option Addr) (n c : Nat) (l : List (Fsh × Fct)) (hx : SlOf encF82 82 h A n l) (hn : n ≤ 9223372036854775807) (most : Int) : Val Tryz.prog 15 #[.slice A n c, .int .i64 most] h (.bool (decide ((∀ p ∈ l, SmallS p.1 p.2) ∧ (n : Int) ≤ most))) := by
  refine Val_intro (args := [_, _]) ts_ok Go.Proofs.Tryz.func15 rfl rfl fun w0 X0 => ?_
  have hlen := hx.len
  repeat' (first | apply GO_seq | apply GO_block | apply GO_region | apply GOl_nil | (apply GOl_pv; (iterate 3 exact rfl)))
  refine GO_loopT (X := Nat) (fun k => k ≤ n ∧ ∀ p ∈ l.take k, SmallS p.1 p.2) (fun k => n - k) (fun k => [(5, .int .i64 k), (0, .slice A n c), (1, .int .i64 most)]) (fun _ => []) (fun _ => h) 0 ⟨by omega, by simp⟩ (by (repeat (first|exact trivial|refine ⟨rfl, ?_⟩));done) (by (repeat (first | exact Takes_nil | (apply Takes_cons; exact (by (repeat (first|exact Take.here|apply Take.there));done)))); done) rfl ?_
  rintro k ⟨hk, hI⟩ ih
  by_cases hkn : k < n
  · have a1 := hx.addrD hkn
    have c1 := hx.cellsD p0 hkn
    have ht1 := take7 p0 hlen hkn
    have hm := mem7 p0 (show k < l.length by omega)
    generalize l.getD k p0 = p at *
    have hs := small_c h p.1 p.2
    by_cases hp : SmallS p.1 p.2
    · rw [decide_eq_true hp] at hs
      repeat' (first | apply GO_seq | apply GO_skip | apply GO_inBlock | apply GO_block | apply GO_region | apply GOl_nil | (apply GOl_add; (iterate 3 exact rfl); omega; exact rfl; exact rfl) | (apply GOl_pv; (iterate 3 exact rfl)) | (apply GOl_ov; exact rfl; exact rfl; (first | (apply OV_idxS (j := k); (iterate 5 exact rfl); exact a1; (with_reducible exact rfl); omega) | (apply OV_load; exact rfl; exact Lv_ro rfl c1 rfl)); exact (by repeat' (first|exact trivial|apply And.intro|exact List.Mem.head _|apply List.Mem.tail))) | (apply GOl_to; (iterate 3 exact rfl); (first | (apply OpTo_val; exact rfl; exact has54; exact hs; skip))) | (apply GO_cond; exact rfl; all_goals intro hc; all_goals try simp only [hcS, reduceCtorEq] at hc; all_goals try (exfalso; omega)))
      all_goals
        have h3 := ih (k + 1) ⟨by omega, by
          rw [ht1]; intro q hq
          rw [List.mem_append, List.mem_singleton] at hq
          rcases hq with hq | rfl
          · exact hI q hq
          · exact hp⟩ (by omega)
        refine GO_fit (by (repeat (first|exact trivial|refine ⟨rfl, ?_⟩));done) (by (repeat (first | exact Takes_nil | (apply Takes_cons; exact (by (repeat (first|exact Take.here|apply Take.there));done)))); done) (h3)
    · rw [decide_eq_false hp] at hs
      repeat' (first | apply GO_seq | apply GO_skip | apply GO_block | apply GO_region | apply GOl_nil | (apply GOl_pv; (iterate 3 exact rfl)) | (apply GOl_ov; exact rfl; exact rfl; (first | (apply OV_idxS (j := k); (iterate 5 exact rfl); exact a1; (with_reducible exact rfl); omega) | (apply OV_load; exact rfl; exact Lv_ro rfl c1 rfl)); exact (by repeat' (first|exact trivial|apply And.intro|exact List.Mem.head _|apply List.Mem.tail))) | (apply GOl_to; (iterate 3 exact rfl); (first | (apply OpTo_val; exact rfl; exact has54; exact hs; skip))) | (apply GO_cond; exact rfl; all_goals intro hc; all_goals try simp only [hcS, reduceCtorEq] at hc; all_goals try (exfalso; omega)) | (apply GO_retV1; (iterate 3 exact rfl)))
      all_goals (rw [decide_eq_false]; rintro ⟨h1, _⟩; exact hp (h1 p hm))
  · rw [List.take_of_length_le (by omega)] at hI
    repeat' (first | apply GO_seq | apply GO_region | apply GOl_nil | (apply GO_exit; exact rfl) | (apply GOl_pv; (iterate 3 exact rfl)) | (apply GO_cond; exact rfl; all_goals intro hc; all_goals try simp only [hcS, reduceCtorEq] at hc; all_goals try (exfalso; omega)) | (apply GO_retV1; (iterate 3 exact rfl)))
    all_goals (refine dec_ofV ?_; rw [leI_t]; exact ⟨fun h => ⟨hI, h⟩, fun h => h.2⟩)
/-! ### The examples' facts -/
def shF (r g d k : Int) : Fct := { fct0 with kind := 3, day := d, known := k, sh := { sheet0 with g := ⟨0, 0, 1, 2⟩, ref := r, hg := g } }
theorem game9_c (h : Ro) : Val Tryz.prog 53 #[] h (gameV ⟨0, 0, 1, 2⟩) := by
  refine Val_intro (args := []) ts_ok Go.Proofs.Tryz.func53 rfl rfl fun w0 X0 => ?_
  repeat' (first | apply GO_seq | apply GO_region | apply GOl_nil | (apply GOl_pv; (iterate 3 exact rfl)) | (apply GOl_to; (iterate 3 exact rfl); (first | (apply OpTo_store; (iterate 3 exact rfl); exact (by (repeat (first|exact Repl.here|apply Repl.there));done); (iterate 3 exact rfl); skip) | (apply OpTo_alloc; exact rfl; intro b; skip))) | (apply GO_retC1; (iterate 3 exact rfl); exact (by (repeat (first|exact List.Mem.head _|apply List.Mem.tail));done); exact rfl; exact rfl))
  all_goals rfl
theorem sheet9_c (h : Ro) (r g d k : Int) : Val Tryz.prog 52 #[.int .i64 r, .int .i64 g, .int .i64 d, .int .i64 k] h (factV fsh0 (shF r g d k)) := by
  refine Val_intro (args := [_, _, _, _]) ts_ok Go.Proofs.Tryz.func52 rfl rfl fun w0 X0 => ?_
  repeat' (first | apply GO_seq | apply GO_region | apply GOl_nil | (apply GOl_pv; (iterate 3 exact rfl)) | (apply GOl_to; (iterate 3 exact rfl); (first | (apply OpTo_store; (iterate 3 exact rfl); exact (by (repeat (first|exact Repl.here|apply Repl.there));done); (iterate 3 exact rfl); skip) | (apply OpTo_alloc; exact rfl; intro b; skip) | (apply OpTo_val; exact rfl; exact has53; exact game9_c _; skip))) | (apply GO_retC1; (iterate 3 exact rfl); exact (by (repeat (first|exact List.Mem.head _|apply List.Mem.tail));done); exact rfl; exact rfl))
  all_goals rfl
/-! ### The latest sheets, by the pairs -/
def cont (l : List (Fsh × Fct)) : List Fct := l.map (·.2)
theorem takeP_fold : ∀ (ws : List (Fsh × Fct)) (p : Pr), (∀ x ∈ ws, x.2.kind = 3 ∧ (x.2.sh.ref = 0 ∨ x.2.sh.ref = 1)) →
    optP (ws.foldl takeP p).1 = ((cont ws).filter fun f => decide (f.sh.ref = 0)).foldl takeF (optP p.1) ∧ optP (ws.foldl takeP p).2 = ((cont ws).filter fun f => decide (f.sh.ref = 1)).foldl takeF (optP p.2)
  | [], p, _ => ⟨rfl, rfl⟩
  | x :: ws, p, hw => by
    obtain ⟨hk, hr⟩ := hw x List.mem_cons_self
    obtain ⟨ih1, ih2⟩ := takeP_fold ws (takeP p x) (fun y hy => hw y (List.mem_cons_of_mem _ hy))
    have hc : cont (x :: ws) = x.2 :: cont ws := rfl
    have one : ∀ y : Fsh × Fct, optP (if y.2.kind = 0 ∨ cmpF y.2 x.2 < 0 then x else y) = takeF (optP y) x.2 := fun y => by
      unfold optP takeF
      by_cases h1 : y.2.kind = 0
      · simp [h1, hk]
      · by_cases h2 : cmpF y.2 x.2 < 0
        · simp [h1, h2, hk]
        · simp [h1, h2]
    rw [hc, List.filter_cons, List.filter_cons, List.foldl_cons, ih1, ih2]
    rcases hr with hr | hr
    · have e1 : (takeP p x).1 = if p.1.2.kind = 0 ∨ cmpF p.1.2 x.2 < 0 then x else p.1 := by unfold takeP; rw [if_pos hr]; split <;> rfl
      have e2 : (takeP p x).2 = p.2 := by unfold takeP; rw [if_pos hr]; split <;> rfl
      rw [e1, e2, one, hr]
      exact ⟨rfl, rfl⟩
    · have hr0 : ¬ x.2.sh.ref = 0 := by omega
      have e1 : (takeP p x).1 = p.1 := by unfold takeP; rw [if_neg hr0]; split <;> rfl
      have e2 : (takeP p x).2 = if p.2.2.kind = 0 ∨ cmpF p.2.2 x.2 < 0 then x else p.2 := by unfold takeP; rw [if_neg hr0]; split <;> rfl
      rw [e1, e2, one, hr]
      exact ⟨rfl, rfl⟩
theorem putP_fold (g : FGame) : ∀ (vs : List (Fsh × Fct)) (m : List (FGame × Pr)), (lookA g (vs.foldl putP m)).getD pr0 = (vs.filter fun x => decide (x.2.sh.g = g)).foldl takeP ((lookA g m).getD pr0)
  | [], m => rfl
  | x :: vs, m => by
    rw [List.foldl_cons, putP_fold g vs, List.filter_cons]
    unfold putP
    rw [look7]
    by_cases h : x.2.sh.g = g
    · simp only [h, if_true, decide_true, Option.getD_some, List.foldl_cons]
    · simp only [h, if_false, decide_false, Bool.false_eq_true]
noncomputable def ofGame (l : List (Fsh × Fct)) (g : FGame) : List (Fsh × Fct) := (validL l).filter fun x => decide (x.2.sh.g = g)
theorem prOf_eq (l : List (Fsh × Fct)) (g : FGame) : prOf l g = (ofGame l g).foldl takeP pr0 := putP_fold g (validL l) []
open Classical in
theorem ofGame_mem {l : List (Fsh × Fct)} {g : FGame} {x : Fsh × Fct} : x ∈ ofGame l g ↔ x ∈ l ∧ x.2.kind = 3 ∧ FctOk x.2 ∧ x.2.sh.g = g := by
  unfold ofGame validL
  rw [List.mem_filter, List.mem_filter, decide_eq_true_eq, decide_eq_true_eq]
  exact ⟨fun ⟨⟨h1, h2, h3⟩, h4⟩ => ⟨h1, h2, h3, h4⟩, fun ⟨h1, h2, h3, h4⟩ => ⟨⟨h1, h2, h3⟩, h4⟩⟩
open Classical in
theorem ofGame_sel (l : List (Fsh × Fct)) (g : FGame) (r : Int) : (cont (ofGame l g)).filter (fun f => decide (f.sh.ref = r)) = selF (cont l) g r := by
  unfold cont selF ofGame validL
  rw [List.filter_map, List.filter_map, List.filter_filter, List.filter_filter]
  congr 1
  refine List.filter_congr fun x _ => ?_
  rw [Bool.eq_iff_iff]
  simp only [Function.comp_apply, Bool.and_eq_true, decide_eq_true_eq]
  unfold OfGR
  grind
theorem prOf_best (l : List (Fsh × Fct)) (g : FGame) : optP (prOf l g).1 = bestF (cont l) g 0 ∧ optP (prOf l g).2 = bestF (cont l) g 1 := by
  have h := takeP_fold (ofGame l g) pr0 fun x hx => by
    obtain ⟨_, h2, h3, _⟩ := ofGame_mem.1 hx
    exact ⟨h2, ref_of h3 h2⟩
  rw [ofGame_sel, ofGame_sel, ← prOf_eq] at h
  exact h
theorem scoreP_eq (l : List (Fsh × Fct)) (g : FGame) : scoreP (prOf l g) = scoreF (cont l) g := by
  unfold scoreP scoreF
  rw [(prOf_best l g).1, (prOf_best l g).2]
theorem takeP_in (S : Fsh × Fct → Prop) : ∀ (ws : List (Fsh × Fct)) (p : Pr), (∀ x ∈ ws, S x) → S p.1 → S p.2 → S (ws.foldl takeP p).1 ∧ S (ws.foldl takeP p).2
  | [], p, _, h1, h2 => ⟨h1, h2⟩
  | x :: ws, p, hw, h1, h2 => by
    have hx := hw x List.mem_cons_self
    refine takeP_in S ws (takeP p x) (fun y hy => hw y (List.mem_cons_of_mem _ hy)) ?_ ?_
    · unfold takeP; (repeat' split) <;> assumption
    · unfold takeP; (repeat' split) <;> assumption
theorem optP_getD {x : Fsh × Fct} (h : x = p0 ∨ x.2.kind = 3) : x.2 = (optP x).getD fct0 ∧ (x.2.kind ≠ 0 ↔ optP x ≠ none) := by
  unfold optP
  rcases h with rfl | h
  · exact ⟨rfl, by decide⟩
  · simp [h]
/-- The latest sheet of a referee, or nothing at all. -/
noncomputable def bestD (l : List Fct) (g : FGame) (r : Int) : Fct := (bestF l g r).getD fct0
theorem latP_eq (l : List (Fsh × Fct)) (g : FGame) (r : Int) (hv : ∀ f ∈ cont l, f.void.length = 32) : (latP (prOf l g) r).2 = bestD (cont l) g r ∧ ((latP (prOf l g) r).2.kind ≠ 0 ↔ bestF (cont l) g r ≠ none) := by
  have hin := takeP_in (fun x => x = p0 ∨ x.2.kind = 3) (ofGame l g) pr0 (fun x hx => .inr (ofGame_mem.1 hx).2.1) (.inl rfl) (.inl rfl)
  rw [← prOf_eq] at hin
  unfold latP bestD
  by_cases h0 : r = 0
  · subst h0
    rw [if_pos rfl, ← (prOf_best l g).1]
    exact optP_getD hin.1
  · rw [if_neg h0]
    by_cases h1 : r = 1
    · subst h1
      rw [if_pos rfl, ← (prOf_best l g).2]
      exact optP_getD hin.2
    · rw [if_neg h1]
      have : bestF (cont l) g r = none := (bestF_none hv).2 fun f _ ho => by
        have := ref_of ho.2.1 ho.1
        have := ho.2.2.2
        omega
      rw [this]
      exact ⟨rfl, by decide⟩
theorem cont_void {h : Ro} {A : Option Addr} {n : Nat} {l : List (Fsh × Fct)} (hx : FactsAt h A n l) : ∀ f ∈ cont l, f.void.length = 32 := fun f hf => by
  unfold cont at hf
  obtain ⟨p, hp, rfl⟩ := List.mem_map.1 hf
  exact (hx.fat p hp).1.void
end Go.Hw
/-
  The chapter's examples (sane).
-/
set_option linter.unusedVariables false
set_option linter.unusedSimpArgs false
set_option maxRecDepth 100000
set_option maxHeartbeats 4000000
namespace Go.Hw
open Go
attribute [local irreducible] GO GOl GDp Val Fn Res CellsAt ValE Blk OwnS MapA OwnPf Has Yl RngA
open Go.Proofs (Tryz.prog)
theorem keysOf_mem {ok : FGame → Pr → Bool} {m : List (FGame × Pr)} {g : FGame} : g ∈ keysOf ok m ↔ ∃ p, (g, p) ∈ m ∧ ok g p = true := by
  unfold keysOf
  rw [List.mem_map]
  constructor
  · rintro ⟨q, hq, rfl⟩
    rw [List.mem_filter] at hq
    exact ⟨q.2, hq.1, hq.2⟩
  · rintro ⟨p, h1, h2⟩
    exact ⟨(g, p), List.mem_filter.2 ⟨h1, h2⟩, rfl⟩
theorem keysOf_nodup {ok : FGame → Pr → Bool} {m : List (FGame × Pr)} (h : (m.map (·.1)).Nodup) : (keysOf ok m).Nodup := by
  unfold keysOf
  exact (List.filter_sublist.map _).nodup h
theorem scoreP_zero : (scoreP pr0).kind = 0 := rfl
theorem disputesL_mem {l : List (Fsh × Fct)} {g : FGame} : g ∈ disputesL l ↔ (scoreF (cont l) g).kind = 3 := by
  unfold disputesL
  rw [sortG_mem, keysOf_mem, ← scoreP_eq]
  constructor
  · rintro ⟨p, h1, h2⟩
    have := lookA_memG (pairsV_nodup _) h1
    unfold prOf pairsL
    rw [this]
    simpa using h2
  · intro h
    cases hl : lookA g (pairsL l) with
    | none =>
      unfold prOf at h
      rw [hl] at h
      have := h.symm.trans scoreP_zero
      omega
    | some p =>
      refine ⟨p, lookA_isG hl, ?_⟩
      unfold prOf at h
      rw [hl] at h
      simpa using h
theorem disputesL_lt (l : List (Fsh × Fct)) : (disputesL l).Pairwise LtG := sortG_lt (keysOf_nodup (pairsV_nodup _))
theorem gamesL_lt (l : List (Fsh × Fct)) (s c : Int) : (gamesL l s c).Pairwise LtG := sortG_lt (keysOf_nodup (pairsV_nodup _))
open Classical in
theorem gamesL_mem {l : List (Fsh × Fct)} {g : FGame} {s c : Int} : g ∈ gamesL l s c ↔ g.s = s ∧ g.c = c ∧ ∃ f ∈ cont l, f.kind = 3 ∧ FctOk f ∧ f.sh.g = g := by
  unfold gamesL
  rw [sortG_mem, keysOf_mem]
  have hk : (∃ p, (g, p) ∈ pairsL l) ↔ ∃ f ∈ cont l, f.kind = 3 ∧ FctOk f ∧ f.sh.g = g := by
    have h1 : (∃ p, (g, p) ∈ pairsL l) ↔ g ∈ (pairsV (validL l)).map (·.1) := by
      rw [List.mem_map]
      exact ⟨fun ⟨p, h⟩ => ⟨(g, p), h, rfl⟩, fun ⟨q, h, e⟩ => ⟨q.2, by rw [← e]; exact h⟩⟩
    rw [h1, pairsV_keys]
    constructor
    · rintro ⟨x, h1, h2⟩
      unfold validL at h1
      rw [List.mem_filter, decide_eq_true_eq] at h1
      exact ⟨x.2, List.mem_map.2 ⟨x, h1.1, rfl⟩, h1.2.1, h1.2.2, h2⟩
    · rintro ⟨f, h1, h2, h3, h4⟩
      obtain ⟨x, h5, rfl⟩ := List.mem_map.1 h1
      refine ⟨x, ?_, h4⟩
      unfold validL
      rw [List.mem_filter, decide_eq_true_eq]
      exact ⟨h5, h2, h3⟩
  constructor
  · rintro ⟨p, h1, h2⟩
    rw [decide_eq_true_eq] at h2
    exact ⟨h2.1, h2.2, hk.1 ⟨p, h1⟩⟩
  · rintro ⟨h1, h2, h3⟩
    obtain ⟨p, h4⟩ := hk.2 h3
    exact ⟨p, h4, by simp [h1, h2]⟩
/-! ### The examples -/
theorem g9_ok : GameOk ⟨0, 0, 1, 2⟩ := ⟨⟨by decide, by decide⟩, ⟨by decide, by decide⟩, ⟨by decide, by decide⟩, ⟨by decide, by decide⟩, by decide⟩
theorem bel0 : Bel 0 100 := ⟨by decide, by decide⟩
theorem shF_ok {r g d k : Int} (hr : r = 0 ∨ r = 1) (hg : 0 ≤ g ∧ g < 100) (hd : 0 ≤ d ∧ d < 100) (hk : 0 ≤ k ∧ k < 100) : FctOk (shF r g d k) := by
  refine ⟨⟨by show (0 : Int) ≤ d; omega, by show d < 1048577; omega⟩, ⟨by show (0 : Int) ≤ k; omega, by show k < 1048577; omega⟩, ?_, rfl⟩
  unfold ContOk
  simp only [shF, show ¬ ((3 : Int) = 1) by decide, show ¬ ((3 : Int) = 2) by decide, if_false, if_true]
  refine ⟨g9_ok, ⟨by show (0 : Int) ≤ r; omega, by show r < 2; omega⟩, ⟨by show (0 : Int) ≤ g; omega, by show g < 100; omega⟩, bel0, .inl ⟨rfl, rfl⟩, ?_, ?_, ?_, ?_, ?_⟩
  · exact ⟨Nat.zero_le _, by simp [sheet0], by simp [sheet0, IncrL]⟩
  · exact ⟨Nat.zero_le _, by simp [sheet0], by simp [sheet0, IncrL]⟩
  · exact ⟨Nat.zero_le _, by simp [sheet0]⟩
  · exact ⟨Nat.zero_le _, by simp [sheet0]⟩
  · simp [sheet0]
theorem shF_at (h : Ro) (r g d k : Int) : FAt h fsh0 (shF r g d k) := ⟨⟨SlOf.nil, SlOf.nil, SlOf.nil, SlOf.nil⟩, SlOf.nil, SlOf.nil, rfl, Nat.le_refl _⟩
theorem shF_sm (r g d k : Int) : FSm (shF r g d k) := ⟨⟨Nat.zero_le _, Nat.zero_le _, Nat.zero_le _, Nat.zero_le _⟩, Nat.zero_le _, Nat.zero_le _, Nat.zero_le _⟩
theorem cmpF_known_gt {a b : Fct} (h : b.known < a.known) : ¬ cmpF a b < 0 := by
  rw [cmpF_lt]; unfold LtF; omega
open Classical in
theorem bestF_two {a b : Fct} {g : FGame} {r : Int} (ha : OfGR g r a) (hb : OfGR g r b) (h : b.known < a.known) : bestF [a, b] g r = some a := by
  unfold bestF selF
  simp only [List.filter_cons, List.filter_nil, ha, hb, decide_true, if_true, List.foldl_cons, List.foldl_nil]
  unfold takeF
  simp only [if_neg (cmpF_known_gt h)]
open Classical in
theorem bestF_fst {a b : Fct} {g : FGame} {r : Int} (ha : OfGR g r a) (hb : ¬ OfGR g r b) : bestF [a, b] g r = some a := by
  unfold bestF selF
  simp only [List.filter_cons, List.filter_nil, ha, hb, decide_true, decide_false, if_true, Bool.false_eq_true, if_false, List.foldl_cons, List.foldl_nil]
  rfl
open Classical in
theorem bestF_snd {a b : Fct} {g : FGame} {r : Int} (ha : ¬ OfGR g r a) (hb : OfGR g r b) : bestF [a, b] g r = some b := by
  unfold bestF selF
  simp only [List.filter_cons, List.filter_nil, ha, hb, decide_true, decide_false, if_true, Bool.false_eq_true, if_false, List.foldl_cons, List.foldl_nil]
  rfl
open Classical in
theorem bestF_one {a : Fct} {g : FGame} {r : Int} (ha : OfGR g r a) : bestF [a] g r = some a := by
  unfold bestF selF
  simp only [List.filter_cons, List.filter_nil, ha, decide_true, if_true, List.foldl_cons, List.foldl_nil]
  rfl
open Classical in
theorem bestF_not {a : Fct} {g : FGame} {r : Int} (ha : ¬ OfGR g r a) : bestF [a] g r = none := by
  unfold bestF selF
  simp only [List.filter_cons, List.filter_nil, ha, decide_false, Bool.false_eq_true, if_false, List.foldl_nil]
def g9 : FGame := ⟨0, 0, 1, 2⟩
theorem shF_of {r g d k : Int} (hr : r = 0 ∨ r = 1) (hg : 0 ≤ g ∧ g < 100) (hd : 0 ≤ d ∧ d < 100) (hk : 0 ≤ k ∧ k < 100) : OfGR g9 r (shF r g d k) := ⟨rfl, shF_ok hr hg hd hk, rfl, rfl⟩
theorem shF_not {r g d k r' : Int} (h : r ≠ r') : ¬ OfGR g9 r' (shF r g d k) := fun ho => h ho.2.2.2
theorem shF_other {r g d k r' : Int} {g' : FGame} (h : g' ≠ g9) : ¬ OfGR g' r' (shF r g d k) := fun ho => h ho.2.2.1.symm
/-- What Latest and Score give, by the latest sheets. -/
theorem latest2_c (h : Ro) (hG : PowG h) (A : Option Addr) (n c : Nat) (l : List (Fsh × Fct)) (hx : FactsAt h A n l) (g : FGame) (r : Int) : Res Tryz.prog 17 #[.slice A n c, gameV g, .int .i64 r] h (fun u h' => ∃ s, u = .tuple #[sheetV s (bestD (cont l) g r).sh, .int .i64 (bestD (cont l) g r).day, .bool (decide (bestF (cont l) g r ≠ none))] ∧ ShAt h' s (bestD (cont l) g r).sh ∧ ShSm (bestD (cont l) g r).sh) := by
  refine (latest_c h hG A n c l hx g r).mono ?_
  rintro v h' hl rfl
  obtain ⟨e1, e2⟩ := latP_eq l g r (cont_void hx)
  have hp := prOf_at hx g
  refine ⟨(latP (prOf l g) r).1, ?_, ?_⟩
  · rw [e1]; congr 4; rw [e1] at e2; exact congrArg (fun b => [Value.bool b]) (decide_eq_decide.2 e2)
  · rw [← e1]
    unfold latP
    split
    · rcases hp.1 with h1 | h1
      · have : (prOf l g).1 = p0 := by
          have hin := (takeP_in (fun x => x = p0 ∨ x.2.kind = 3) (ofGame l g) pr0 (fun x hx => .inr (ofGame_mem.1 hx).2.1) (.inl rfl) (.inl rfl)).1
          rw [← prOf_eq] at hin
          rcases hin with e | e
          · exact e
          · omega
        rw [this]; exact ⟨ShAt.nil _, ShSm.nil⟩
      · exact ⟨h1.1.sh.le hl, h1.2.1.1⟩
    · split
      · rcases hp.2 with h1 | h1
        · have : (prOf l g).2 = p0 := by
            have hin := (takeP_in (fun x => x = p0 ∨ x.2.kind = 3) (ofGame l g) pr0 (fun x hx => .inr (ofGame_mem.1 hx).2.1) (.inl rfl) (.inl rfl)).2
            rw [← prOf_eq] at hin
            rcases hin with e | e
            · exact e
            · omega
          rw [this]; exact ⟨ShAt.nil _, ShSm.nil⟩
        · exact ⟨h1.1.sh.le hl, h1.2.1.1⟩
      · exact ⟨ShAt.nil _, ShSm.nil⟩
theorem score2_c (h : Ro) (hG : PowG h) (A : Option Addr) (n c : Nat) (l : List (Fsh × Fct)) (hx : FactsAt h A n l) (g : FGame) : Res Tryz.prog 23 #[.slice A n c, gameV g] h (fun u h' => ∃ s, u = scoreV s (scoreF (cont l) g) ∧ ShAt h' s (scoreF (cont l) g).sh ∧ ShSm (scoreF (cont l) g).sh) := by
  refine (scoreOf_c h hG A n c l hx g).mono ?_
  rintro v h' hl rfl
  have := scoreP_at (prOf_at hx g)
  rw [scoreP_eq] at *
  exact ⟨_, rfl, this.1.le hl, this.2⟩
theorem FactsAt.nil (h : Ro) : FactsAt h none 0 [] := ⟨SlOf.nil, fun p hp => absurd hp (by simp), by omega⟩
end Go.Hw
/-
  The chapter's examples hold (sane), walked.
-/
set_option linter.unusedVariables false
set_option linter.unusedSimpArgs false
set_option maxRecDepth 100000
set_option maxHeartbeats 4000000
namespace Go.Hw
open Go
attribute [local irreducible] GO GOl GDp Val Fn Res CellsAt ValE Blk OwnS MapA OwnPf Has Yl RngA
open Go.Proofs (Tryz.prog)
theorem factsShF {h : Ro} {A : Option Addr} {n : Nat} {l : List (Fsh × Fct)} (hs : SlOf encF82 82 h A n l) (hn : n ≤ 1000000) (hl : ∀ p ∈ l, ∃ r g d k, p = (fsh0, shF r g d k)) : FactsAt h A n l :=
  ⟨hs, fun p hp => by obtain ⟨r, g, d, k, rfl⟩ := hl p hp; exact ⟨shF_at h r g d k, shF_sm r g d k⟩, hn⟩
def L1 : List (Fsh × Fct) := [(fsh0, shF 0 3 7 9), (fsh0, shF 0 2 7 8)]
def L2 : List (Fsh × Fct) := [(fsh0, shF 0 2 7 8), (fsh0, shF 1 2 9 9)]
def L3 : List (Fsh × Fct) := [(fsh0, shF 0 2 7 8), (fsh0, shF 1 3 7 9)]
def L4 : List (Fsh × Fct) := [(fsh0, shF 1 3 7 9)]
theorem L1_f : ∀ p ∈ L1, ∃ r g d k, p = (fsh0, shF r g d k) := fun p hp => by
  simp only [L1, List.mem_cons, List.not_mem_nil, or_false] at hp
  rcases hp with rfl | rfl <;> exact ⟨_, _, _, _, rfl⟩
theorem L2_f : ∀ p ∈ L2, ∃ r g d k, p = (fsh0, shF r g d k) := fun p hp => by
  simp only [L2, List.mem_cons, List.not_mem_nil, or_false] at hp
  rcases hp with rfl | rfl <;> exact ⟨_, _, _, _, rfl⟩
theorem L3_f : ∀ p ∈ L3, ∃ r g d k, p = (fsh0, shF r g d k) := fun p hp => by
  simp only [L3, List.mem_cons, List.not_mem_nil, or_false] at hp
  rcases hp with rfl | rfl <;> exact ⟨_, _, _, _, rfl⟩
theorem L4_f : ∀ p ∈ L4, ∃ r g d k, p = (fsh0, shF r g d k) := fun p hp => by
  simp only [L4, List.mem_cons, List.not_mem_nil, or_false] at hp
  rcases hp with rfl; exact ⟨_, _, _, _, rfl⟩
theorem L1_best : bestF (cont L1) g9 0 = some (shF 0 3 7 9) :=
  bestF_two (shF_of (.inl rfl) (by omega) (by omega) (by omega)) (shF_of (.inl rfl) (by omega) (by omega) (by omega)) (by decide)
theorem L2_score : scoreF (cont L2) g9 = ⟨2, ⟨⟨0, 0, 1, 2⟩, 0, 2, 0, 0, 0, [], [], [], []⟩, 9⟩ := by
  have h1 : bestF (cont L2) g9 0 = some (shF 0 2 7 8) := bestF_fst (shF_of (.inl rfl) (by omega) (by omega) (by omega)) (shF_not (by decide))
  have h2 : bestF (cont L2) g9 1 = some (shF 1 2 9 9) := bestF_snd (shF_not (by decide)) (shF_of (.inr rfl) (by omega) (by omega) (by omega))
  unfold scoreF
  rw [h1, h2]
  rfl
theorem L3_score : scoreF (cont L3) g9 = ⟨3, sheet0, 7⟩ := by
  have h1 : bestF (cont L3) g9 0 = some (shF 0 2 7 8) := bestF_fst (shF_of (.inl rfl) (by omega) (by omega) (by omega)) (shF_not (by decide))
  have h2 : bestF (cont L3) g9 1 = some (shF 1 3 7 9) := bestF_snd (shF_not (by decide)) (shF_of (.inr rfl) (by omega) (by omega) (by omega))
  unfold scoreF
  rw [h1, h2]
  rfl
theorem L4_score : scoreF (cont L4) g9 = ⟨1, ⟨⟨0, 0, 1, 2⟩, 1, 3, 0, 0, 0, [], [], [], []⟩, 7⟩ := by
  have h1 : bestF (cont L4) g9 0 = none := bestF_not (shF_not (by decide))
  have h2 : bestF (cont L4) g9 1 = some (shF 1 3 7 9) := bestF_one (shF_of (.inr rfl) (by omega) (by omega) (by omega))
  unfold scoreF
  rw [h1, h2]
  rfl
theorem L0_score (g : FGame) : scoreF (cont []) g = score0 := rfl
open Classical in
theorem L3_other {g : FGame} (h : g ≠ g9) : scoreF (cont L3) g = score0 := by
  have e : ∀ r, bestF (cont L3) g r = none := fun r => by
    unfold bestF
    have : selF (cont L3) g r = [] := by
      refine List.eq_nil_iff_forall_not_mem.2 fun f hf => ?_
      rw [selF_mem] at hf
      obtain ⟨hf, ho⟩ := hf
      simp only [cont, L3, List.map_cons, List.map_nil, List.mem_cons, List.not_mem_nil, or_false] at hf
      rcases hf with rfl | rfl
      · exact shF_other h ho
      · exact shF_other h ho
    rw [this]; rfl
  unfold scoreF
  rw [e, e]; rfl
theorem L3_disputes : disputesL L3 = [g9] := ltG_ext (disputesL_lt L3) (by simp) fun g => by
  rw [disputesL_mem, List.mem_singleton]
  constructor
  · intro h
    refine Classical.byContradiction fun hn => ?_
    rw [L3_other hn] at h
    exact absurd h (by decide)
  · rintro rfl; rw [L3_score]
theorem L0_disputes : disputesL [] = [] := ltG_ext (disputesL_lt []) (by simp) fun g => by
  rw [disputesL_mem, L0_score]
  exact ⟨fun h => absurd h (by decide), fun h => absurd h (by simp)⟩
theorem L0_games (s c : Int) : gamesL [] s c = [] := ltG_ext (gamesL_lt [] s c) (by simp) fun g => by
  rw [gamesL_mem]
  exact ⟨fun h => by obtain ⟨_, _, f, hf, _⟩ := h; exact absurd hf (by simp [cont]), fun h => absurd h (by simp)⟩
theorem sane9_c (h : Ro) (hG : PowG h) : Val Tryz.prog 14 #[] h (.bool true) := by
  refine Val_intro (args := []) ts_ok Go.Proofs.Tryz.func14 rfl rfl fun w0 X0 => ?_
  have lat1 : ∀ h', Le h h' → ∀ A c, SlOf encF82 82 h' A 2 L1 → Res Tryz.prog 17 #[.slice A 2 c, gameV g9, .int .i64 0] h' (fun u _ => ∃ s, u = .tuple #[sheetV s ⟨⟨0, 0, 1, 2⟩, 0, 3, 0, 0, 0, [], [], [], []⟩, .int .i64 7, .bool true]) := fun h' hl A c hs => by
    refine (latest2_c h' (hG.le hl) A 2 c L1 (factsShF hs (by omega) L1_f) g9 0).mono ?_
    rintro v h2 _ ⟨s, rfl, _, _⟩
    refine ⟨s, ?_⟩
    unfold bestD
    rw [L1_best]
    rfl
  have lat0 : ∀ h', Le h h' → Res Tryz.prog 17 #[.slice none 0 0, gameV g9, .int .i64 0] h' (fun u _ => ∃ s, u = .tuple #[sheetV s sheet0, .int .i64 0, .bool false]) := fun h' hl => by
    refine (latest2_c h' (hG.le hl) none 0 0 [] (FactsAt.nil h') g9 0).mono ?_
    rintro v h2 _ ⟨s, rfl, _, _⟩
    exact ⟨s, rfl⟩
  have sc2 : ∀ h', Le h h' → ∀ A c, SlOf encF82 82 h' A 2 L2 → Res Tryz.prog 23 #[.slice A 2 c, gameV g9] h' (fun u _ => ∃ s, u = scoreV s ⟨2, ⟨⟨0, 0, 1, 2⟩, 0, 2, 0, 0, 0, [], [], [], []⟩, 9⟩) := fun h' hl A c hs => by
    refine (score2_c h' (hG.le hl) A 2 c L2 (factsShF hs (by omega) L2_f) g9).mono ?_
    rintro v h2 _ ⟨s, rfl, _, _⟩
    exact ⟨s, by rw [L2_score]⟩
  have sc3 : ∀ h', Le h h' → ∀ A c, SlOf encF82 82 h' A 2 L3 → Res Tryz.prog 23 #[.slice A 2 c, gameV g9] h' (fun u _ => ∃ s, u = scoreV s ⟨3, sheet0, 7⟩) := fun h' hl A c hs => by
    refine (score2_c h' (hG.le hl) A 2 c L3 (factsShF hs (by omega) L3_f) g9).mono ?_
    rintro v h2 _ ⟨s, rfl, _, _⟩
    exact ⟨s, by rw [L3_score]⟩
  have sc4 : ∀ h', Le h h' → ∀ A c, SlOf encF82 82 h' A 1 L4 → Res Tryz.prog 23 #[.slice A 1 c, gameV g9] h' (fun u _ => ∃ s, u = scoreV s ⟨1, ⟨⟨0, 0, 1, 2⟩, 1, 3, 0, 0, 0, [], [], [], []⟩, 7⟩) := fun h' hl A c hs => by
    refine (score2_c h' (hG.le hl) A 1 c L4 (factsShF hs (by omega) L4_f) g9).mono ?_
    rintro v h2 _ ⟨s, rfl, _, _⟩
    exact ⟨s, by rw [L4_score]⟩
  have sc0 : ∀ h', Le h h' → Res Tryz.prog 23 #[.slice none 0 0, gameV g9] h' (fun u _ => ∃ s, u = scoreV s ⟨0, sheet0, 0⟩) := fun h' hl => by
    refine (score2_c h' (hG.le hl) none 0 0 [] (FactsAt.nil h') g9).mono ?_
    rintro v h2 _ ⟨s, rfl, _, _⟩
    exact ⟨s, rfl⟩
  have ga0 : ∀ h', Le h h' → Res Tryz.prog 26 #[.slice none 0 0, .int .i64 0, .int .i64 0] h' (fun u _ => ∃ A c, u = .slice A 0 c) := fun h' hl => by
    refine (games_c h' (hG.le hl) none 0 0 [] (FactsAt.nil h') 0 0).mono ?_
    rintro v h2 _ ⟨A, c, rfl, _⟩
    exact ⟨A, c, by rw [L0_games]; rfl⟩
  have di0 : ∀ h', Le h h' → Res Tryz.prog 28 #[.slice none 0 0] h' (fun u _ => ∃ A c, u = .slice A 0 c) := fun h' hl => by
    refine (disputes_c h' (hG.le hl) none 0 0 [] (FactsAt.nil h')).mono ?_
    rintro v h2 _ ⟨A, c, rfl, _⟩
    exact ⟨A, c, by rw [L0_disputes]; rfl⟩
  have di3 : ∀ h', Le h h' → ∀ A c, SlOf encF82 82 h' A 2 L3 → Res Tryz.prog 28 #[.slice A 2 c] h' (fun u h2 => ∃ A c, u = .slice A 1 c ∧ SlOf gameC 4 h2 A 1 [g9]) := fun h' hl A c hs => by
    refine (disputes_c h' (hG.le hl) A 2 c L3 (factsShF hs (by omega) L3_f)).mono ?_
    rintro v h2 _ ⟨A, c, rfl, hs2⟩
    rw [L3_disputes] at hs2 ⊢
    exact ⟨A, c, rfl, hs2⟩
  have sm : Val Tryz.prog 20 #[sheetV fsh0 (shF 0 2 7 8).sh, sheetV fsh0 (shF 1 2 7 8).sh] h (.bool true) := sameSh_c h fsh0 (shF 0 2 7 8).sh (shF_at h 0 2 7 8).sh (shF_sm 0 2 7 8).1 fsh0 (shF 1 2 7 8).sh (shF_at h 1 2 7 8).sh (shF_sm 1 2 7 8).1
  repeat' (first | apply GO_seq | apply GO_skip | apply GO_region | apply GOl_nil | (apply GOl_pv; (iterate 3 exact rfl)) | (apply GOl_load; exact rfl; exact Ld_blk rfl (by (repeat (first|exact List.Mem.head _|apply List.Mem.tail));done) rfl; exact rfl; exact rfl) | (apply GOl_to; (iterate 3 exact rfl); (first | (apply OpTo_store; (iterate 3 exact rfl); exact (by (repeat (first|exact Repl.here|apply Repl.there));done); (iterate 3 exact rfl); skip) | (apply OpTo_alloc; exact rfl; intro b; skip) | (apply OpTo_val; exact rfl; exact has53; exact game9_c _; skip) | (apply OpTo_val; exact rfl; exact has52; exact sheet9_c _ _ _ _ _; skip) | (apply OpTo_buildSliceS (enc := encF82) (n := 2) L1; (iterate 3 exact rfl); exact List.cons_ne_nil _ _; (iterate 4 exact rfl); exact (fun _ => rfl); exact rfl; exact rfl; intro bz hz1 hlez hs1; skip) | (apply OpTo_buildSliceS (enc := encF82) (n := 2) L2; (iterate 3 exact rfl); exact List.cons_ne_nil _ _; (iterate 4 exact rfl); exact (fun _ => rfl); exact rfl; exact rfl; intro bz hz1 hlez hs1; skip) | (apply OpTo_buildSliceS (enc := encF82) (n := 2) L3; (iterate 3 exact rfl); exact List.cons_ne_nil _ _; (iterate 4 exact rfl); exact (fun _ => rfl); exact rfl; exact rfl; intro bz hz1 hlez hs1; skip) | (apply OpTo_buildSliceS (enc := encF82) (n := 1) L4; (iterate 3 exact rfl); exact List.cons_ne_nil _ _; (iterate 4 exact rfl); exact (fun _ => rfl); exact rfl; exact rfl; intro bz hz1 hlez hs1; skip) | (apply OpTo_buildSliceS (enc := gameC) (n := 1) [g9]; (iterate 3 exact rfl); exact List.cons_ne_nil _ _; (iterate 4 exact rfl); exact (fun _ => rfl); exact rfl; exact rfl; intro bz hz1 hlez hsg; skip) | (apply OpTo_res; exact rfl; exact has17; (first | exact lat0 _ (by first|exact Le.refl _|assumption|(repeat (first|assumption|(apply Le.trans;assumption)))) | exact lat1 _ (by first|exact Le.refl _|assumption|(repeat (first|assumption|(apply Le.trans;assumption)))) _ _ (hs1.le (by first|exact Le.refl _|assumption|(repeat (first|assumption|(apply Le.trans;assumption)))))); rintro v2 h2 hle2 ⟨s2, rfl⟩; skip) | (apply OpTo_res; exact rfl; exact has23; (first | exact sc0 _ (by first|exact Le.refl _|assumption|(repeat (first|assumption|(apply Le.trans;assumption)))) | exact sc2 _ (by first|exact Le.refl _|assumption|(repeat (first|assumption|(apply Le.trans;assumption)))) _ _ (hs1.le (by first|exact Le.refl _|assumption|(repeat (first|assumption|(apply Le.trans;assumption))))) | exact sc3 _ (by first|exact Le.refl _|assumption|(repeat (first|assumption|(apply Le.trans;assumption)))) _ _ (hs1.le (by first|exact Le.refl _|assumption|(repeat (first|assumption|(apply Le.trans;assumption))))) | exact sc4 _ (by first|exact Le.refl _|assumption|(repeat (first|assumption|(apply Le.trans;assumption)))) _ _ (hs1.le (by first|exact Le.refl _|assumption|(repeat (first|assumption|(apply Le.trans;assumption)))))); rintro v2 h2 hle2 ⟨s2, rfl⟩; skip) | (apply OpTo_res; exact rfl; exact has26; exact ga0 _ (by first|exact Le.refl _|assumption|(repeat (first|assumption|(apply Le.trans;assumption)))); rintro v2 h2 hle2 ⟨A2, c2, rfl⟩; skip) | (apply OpTo_res; exact rfl; exact has28; (first | exact di0 _ (by first|exact Le.refl _|assumption|(repeat (first|assumption|(apply Le.trans;assumption)))) | exact di3 _ (by first|exact Le.refl _|assumption|(repeat (first|assumption|(apply Le.trans;assumption)))) _ _ (hs1.le (by first|exact Le.refl _|assumption|(repeat (first|assumption|(apply Le.trans;assumption)))))); (first | (rintro v2 h2 hle2 ⟨A2, c2, rfl, hsd⟩) | (rintro v2 h2 hle2 ⟨A2, c2, rfl⟩)); skip) | (apply OpTo_val; exact rfl; exact has20; exact sameSh_c _ fsh0 (shF 0 2 7 8).sh (shF_at _ 0 2 7 8).sh (shF_sm 0 2 7 8).1 fsh0 (shF 1 2 7 8).sh (shF_at _ 1 2 7 8).sh (shF_sm 1 2 7 8).1; skip) | (apply OpTo_val; exact rfl; exact has25; exact sameGames_c _ _ _ _ [g9] (hsd.le (by first|exact Le.refl _|assumption|(repeat (first|assumption|(apply Le.trans;assumption))))) (by omega) _ _ _ [g9] (hsg.le (by first|exact Le.refl _|assumption|(repeat (first|assumption|(apply Le.trans;assumption))))) (by omega); skip))) | (apply GO_cond; exact rfl; all_goals intro hc; all_goals try simp only [hcS, reduceCtorEq] at hc; all_goals try (exfalso; omega)) | (apply GOl_split; exact rfl; exact rfl; all_goals intro hc; all_goals try simp only [hcS, reduceCtorEq] at hc; all_goals try (exfalso; omega)) | (apply GO_retV1; (iterate 3 exact rfl)))
  all_goals simp
end Go.Hw

import Derived.Test.YtbgjcjhodlmgjaaW10
set_option linter.unusedVariables false
set_option linter.unusedSimpArgs false
set_option maxRecDepth 100000
set_option maxHeartbeats 1600000
namespace Go.Hw
open Go
attribute [local irreducible] GO GOl GDp Val Fn Res CellsAt ValE Blk OwnS MapA
open Go.Proofs (Try.prog)

theorem take_snocD {α : Type} (d : α) {xs : List α} {k n : Nat} (hlen : xs.length = n) (hk : k < n) : xs.take (k + 1) = xs.take k ++ [xs.getD k d] := by
  rw [List.take_succ_eq_append_getElem (by omega)]; simp [List.getD, List.getElem?_eq_getElem (show k < xs.length by omega)]
theorem ne_of_getD {α : Type} (d : α) {xs ys : List α} (k : Nat) (h : xs.getD k d ≠ ys.getD k d) : xs ≠ ys := fun e => h (by rw [e])

theorem entEq (a b : Ent) : (eqI a.kind b.kind && (eqI a.day b.day && (eqI a.player b.player && (eqI a.club b.club && (eqI a.other b.other && (eqI a.upto b.upto && (eqI a.transfer b.transfer && true))))))) = decide (a = b) := by
  cases a; cases b; rw [Bool.eq_iff_iff]; simp [eqI_eq]


theorem sameInts_c (h : Ro) (A B : Option Addr) (n c n' c' : Nat) (xs ys : List Int) (hx : SlOf encI 1 h A n xs) (hy : SlOf encI 1 h B n' ys) (hn : n ≤ 1000000000) (hn' : n' ≤ 1000000000) :
    Val Try.prog 22 #[.slice A n c, .slice B n' c'] h (.bool (decide (xs = ys))) := by
  refine Val_intro (args := [_, _]) ts_ok Go.Proofs.Try.func22 rfl rfl fun w0 X0 => ?_
  have hlx := hx.len
  have hly := hy.len
  repeat' (first | apply GO_seq | apply GO_skip | apply GO_block | apply GO_region | apply GOl_nil | (apply GOl_pv; exact rfl; exact rfl; exact rfl) | (apply GO_cond; exact rfl; all_goals intro hc; all_goals try simp only [ltI_t, ltI_f, leI_t, leI_f, eqI_t, eqI_f, Bool.not_eq_true', Bool.not_eq_false', decide_eq_true_eq, decide_eq_false_iff_not, reduceCtorEq] at hc; all_goals try (exfalso; omega)) | (apply GO_retV1; exact rfl; exact rfl; exact rfl))
  · rw [decide_eq_false]; intro e; rw [e] at hlx; omega
  refine GO_loopT (X := Nat) (fun k => k ≤ n ∧ xs.take k = ys.take k) (fun k => n - k) (fun k => [(5, .int .i64 k), (0, .slice A n c), (1, .slice B n' c')]) (fun k => []) (fun _ => h) 0 ⟨by omega, rfl⟩ (by (repeat (first | exact trivial | refine ⟨rfl, ?_⟩)); done) (by (repeat (first | exact Takes_nil | (apply Takes_cons; exact (by (repeat (first | exact Take.here | apply Take.there)); done)))); done) rfl ?_
  rintro k ⟨hk, hI⟩ ih
  repeat' (first | apply GO_seq | apply GO_skip | apply GO_block | apply GO_region | apply GOl_nil | (apply GO_exit; exact rfl) | (apply GOl_pv; exact rfl; exact rfl; exact rfl) | (apply GO_drawp (n := 6) [0, 1, 2, 3, 4, 5, 6, 7, 8] [(0, 0), (1, 0), (2, 0), (3, 0), (4, 0), (5, 0), (6, 0), (7, 0), (8, 0)]; kernel_rfl) | (apply GP_pv; exact rfl; kernel_rfl; exact rfl; exact rfl; exact rfl) | (apply GO_cond; exact rfl; all_goals intro hc; all_goals try simp only [ltI_t, ltI_f, leI_t, leI_f, eqI_t, eqI_f, Bool.not_eq_true', Bool.not_eq_false', decide_eq_true_eq, decide_eq_false_iff_not, reduceCtorEq] at hc; all_goals try (exfalso; omega)) | (apply GO_retV1; exact rfl; exact rfl; exact rfl))
  · have hkn : k < n := by omega
    have hkn' : k < n' := by omega
    obtain ⟨ad, rfl⟩ := hx.addr (by omega)
    obtain ⟨bd, rfl⟩ := hy.addr (by omega)
    have c1 := hx.cells 0 hkn
    have c2 := hy.cells 0 hkn'
    repeat' (first | apply GO_seq | apply GO_skip | apply GO_inBlock | apply GO_region | apply GOl_nil | (apply GOl_add; exact rfl; exact rfl; exact rfl; omega; exact rfl; exact rfl) | (apply GOl_pv; exact rfl; exact rfl; exact rfl) | (apply GP_pv; exact rfl; kernel_rfl; exact rfl; exact rfl; exact rfl) | (apply GP_ov; exact rfl; kernel_rfl; exact rfl; exact rfl; (first | (apply OV_load; exact rfl; first | exact Lv_ro rfl (by assumption) rfl | exact Lv_roF rfl (by assumption) rfl | exact Lv_roF2 rfl (by assumption) rfl | exact Lv_roF3 rfl (by assumption) rfl) | (apply OV_idx; exact rfl; exact rfl; exact rfl; exact rfl; exact rfl; exact rfl; first | assumption | omega)); exact (by repeat' (first | exact trivial | apply And.intro | exact List.Mem.head _ | apply List.Mem.tail))) | (apply GP_done; kernel_rfl; exact rfl) | (apply GO_cond; exact rfl; all_goals intro hc; all_goals try simp only [ltI_t, ltI_f, leI_t, leI_f, eqI_t, eqI_f, Bool.not_eq_true', Bool.not_eq_false', decide_eq_true_eq, decide_eq_false_iff_not, reduceCtorEq] at hc; all_goals try (exfalso; omega)) | (apply GO_retV1; exact rfl; exact rfl; exact rfl))
    · rw [decide_eq_false]; exact ne_of_getD 0 k (by omega)
    · have hc2 : xs.getD k 0 = ys.getD k 0 := by omega
      have h2 := ih (k + 1) ⟨by omega, by rw [take_snocD 0 hlx hkn, take_snocD 0 hly hkn', hI, hc2]⟩ (by omega)
      refine GO_fit (by (repeat (first | exact trivial | refine ⟨rfl, ?_⟩)); done) (by (repeat (first | exact Takes_nil | (apply Takes_cons; exact (by (repeat (first | exact Take.here | apply Take.there)); done)))); done) (h2)
  · rw [decide_eq_true]; rw [List.take_of_length_le (by omega), List.take_of_length_le (by omega)] at hI; exact hI



theorem few_c (h : Ro) (lg d : Int) (s : Rsh) : Val Try.prog 10 #[regV lg d s] h (.bool (decide (s.nc ≤ 30 ∧ s.ne ≤ 16))) := by
  refine Val_intro (args := [_]) ts_ok Go.Proofs.Try.func10 rfl rfl fun w0 X0 => ?_
  repeat' (first | apply GO_seq | apply GO_region | apply GOl_nil | (apply GOl_unwanted; exact rfl; exact rfl) | (apply GOl_pv; exact rfl; exact rfl; exact rfl) | (apply GOl_load; exact rfl; exact Ld_blk rfl (by (repeat (first | exact List.Mem.head _ | apply List.Mem.tail)); done) rfl; exact rfl; exact rfl) | (apply GOl_to; exact rfl; exact rfl; exact rfl; (first | (apply OpTo_box; exact rfl; intro b; skip))) | (apply GOl_split; exact rfl; exact rfl; all_goals intro hc; all_goals try simp only [ltI_t, ltI_f, leI_t, leI_f, eqI_t, eqI_f, Bool.not_eq_true', Bool.not_eq_false', decide_eq_true_eq, decide_eq_false_iff_not, reduceCtorEq] at hc; all_goals try (exfalso; omega)) | (apply GO_retV1; exact rfl; exact rfl; exact rfl))
  all_goals (simp only [ltI_eq, leI_eq, eqI_eq, Value.bool.injEq]; first | rfl | (rw [decide_eq_decide]; omega) | (symm; rw [decide_eq_false_iff_not]; omega) | (symm; rw [decide_eq_true_eq]; omega))



theorem enterL_c (h : Ro) (d : Int) : Val Try.prog 28 #[.int .i64 d] h (entV ⟨1, d, 5, 1, 0, 0, 0⟩) := by
  refine Val_intro (args := [_]) ts_ok Go.Proofs.Try.func28 rfl rfl fun w0 X0 => ?_
  repeat' (first | apply GO_seq | apply GO_region | apply GOl_nil | (apply GOl_pv; exact rfl; exact rfl; exact rfl) | (apply GOl_to; exact rfl; exact rfl; exact rfl; (first | (apply OpTo_store; exact rfl; exact rfl; exact rfl; exact (by (repeat (first | exact Repl.here | apply Repl.there)); done); exact rfl; exact rfl; exact rfl; skip) | (apply OpTo_alloc; exact rfl; intro b; skip))) | (apply GO_retC1; exact rfl; exact rfl; exact rfl; exact (by (repeat (first | exact List.Mem.head _ | apply List.Mem.tail)); done); exact rfl; exact rfl))
  rfl



theorem sameReg_c (h : Ro) (s s' : Rsh) (r r' : Reg) (hr : RegAt h s r) (hr' : RegAt h s' r') : Val Try.prog 15 #[regV r.league r.day s, regV r'.league r'.day s'] h (.bool (decide (r = r'))) := by
  refine Val_intro (args := [_, _]) ts_ok Go.Proofs.Try.func15 rfl rfl fun w0 X0 => ?_
  have h1 := hr.clubs.len
  have h2 := hr'.clubs.len
  have h3 := hr.ents.len
  have h4 := hr'.ents.len
  have h5 := hr.nc
  have h6 := hr.ne
  have h7 := hr'.nc
  have h8 := hr'.ne
  repeat' (first | apply GO_seq | apply GO_skip | apply GO_block | apply GO_region | apply GOl_nil | (apply GOl_unwanted; exact rfl; exact rfl) | (apply GOl_pv; exact rfl; exact rfl; exact rfl) | (apply GOl_load; exact rfl; exact Ld_blk rfl (by (repeat (first | exact List.Mem.head _ | apply List.Mem.tail)); done) rfl; exact rfl; exact rfl) | (apply GOl_to; exact rfl; exact rfl; exact rfl; (first | (apply OpTo_box; exact rfl; intro b; skip))) | (apply GO_cond; exact rfl; all_goals intro hc; all_goals try simp only [ltI_t, ltI_f, leI_t, leI_f, eqI_t, eqI_f, Bool.not_eq_true', Bool.not_eq_false', decide_eq_true_eq, decide_eq_false_iff_not, reduceCtorEq] at hc; all_goals try (exfalso; omega)) | (apply GOl_split; exact rfl; exact rfl; all_goals intro hc; all_goals try simp only [ltI_t, ltI_f, leI_t, leI_f, eqI_t, eqI_f, Bool.not_eq_true', Bool.not_eq_false', decide_eq_true_eq, decide_eq_false_iff_not, reduceCtorEq] at hc; all_goals try (exfalso; omega)) | (apply GO_retV1; exact rfl; exact rfl; exact rfl))
  iterate 4 (rw [decide_eq_false (by rintro rfl; omega)])
  rename_i b1 _ _ _
  rename Nat => b2
  have hL : r.league = r'.league := by assumption
  have hD : r.day = r'.day := by assumption
  refine GO_loopT (X := Nat) (fun k => k ≤ s.nc ∧ r.clubs.take k = r'.clubs.take k) (fun k => s.nc - k) (fun k => [(5, .int .i64 k), (2, .pointer (some ⟨b1, 0, none⟩)), (3, .pointer (some ⟨b2, 0, none⟩))]) (fun k => [Blk b1 25 (partL (regV r.league r.day s)), Blk b2 25 (partL (regV r'.league r'.day s'))]) (fun _ => h) 0 ⟨by omega, rfl⟩ (by (repeat (first | exact trivial | refine ⟨rfl, ?_⟩)); done) (by (repeat (first | exact Takes_nil | (apply Takes_cons; exact (by (repeat (first | exact Take.here | apply Take.there)); done)))); done) rfl ?_
  rintro k ⟨hk, hI⟩ ih
  repeat' (first | apply GO_seq | apply GO_skip | apply GO_block | apply GO_region | apply GOl_nil | (apply GO_exit; exact rfl) | (apply GOl_pv; exact rfl; exact rfl; exact rfl) | (apply GOl_load; exact rfl; exact Ld_blk rfl (by (repeat (first | exact List.Mem.head _ | apply List.Mem.tail)); done) rfl; exact rfl; exact rfl) | (apply GO_drawp (n := 6) [0, 1, 2, 3, 4, 5, 6, 7, 8, 9, 10] [(0, 0), (1, 0), (2, 0), (3, 0), (4, 0), (5, 0), (6, 0), (7, 0), (8, 0), (9, 0), (10, 0)]; kernel_rfl) | (apply GP_pv; exact rfl; kernel_rfl; exact rfl; exact rfl; exact rfl) | (apply GP_loadB; exact rfl; kernel_rfl; exact rfl; exact rfl; exact rfl; exact (by (repeat (first | exact List.Mem.head _ | apply List.Mem.tail)); done); exact rfl; exact rfl) | (apply GO_cond; exact rfl; all_goals intro hc; all_goals try simp only [ltI_t, ltI_f, leI_t, leI_f, eqI_t, eqI_f, Bool.not_eq_true', Bool.not_eq_false', decide_eq_true_eq, decide_eq_false_iff_not, reduceCtorEq] at hc; all_goals try (exfalso; omega)))
  · have hkn : k < s.nc := by omega
    have hkn' : k < s'.nc := by omega
    have a1 := hr.clubs.addrD hkn
    have a2 := hr'.clubs.addrD hkn'
    have c1 := hr.clubs.cellsD 0 hkn
    have c2 := hr'.clubs.cellsD 0 hkn'
    repeat' (first | apply GO_seq | apply GO_skip | apply GO_inBlock | apply GO_region | apply GOl_nil | (apply GOl_add; exact rfl; exact rfl; exact rfl; omega; exact rfl; exact rfl) | (apply GOl_pv; exact rfl; exact rfl; exact rfl) | (apply GP_pv; exact rfl; kernel_rfl; exact rfl; exact rfl; exact rfl) | (apply GP_loadB; exact rfl; kernel_rfl; exact rfl; exact rfl; exact rfl; exact (by (repeat (first | exact List.Mem.head _ | apply List.Mem.tail)); done); exact rfl; exact rfl) | (apply GP_ov; exact rfl; kernel_rfl; exact rfl; exact rfl; (first | (apply OV_load; exact rfl; first | exact Lv_ro rfl (by assumption) rfl | exact Lv_roF rfl (by assumption) rfl | exact Lv_roF2 rfl (by assumption) rfl | exact Lv_roF3 rfl (by assumption) rfl) | (apply OV_idxS; exact rfl; exact rfl; exact rfl; exact rfl; exact rfl; assumption; exact rfl; first | assumption | omega)); exact (by repeat' (first | exact trivial | apply And.intro | exact List.Mem.head _ | apply List.Mem.tail))) | (apply GP_done; kernel_rfl; exact rfl) | (apply GO_cond; exact rfl; all_goals intro hc; all_goals try simp only [ltI_t, ltI_f, leI_t, leI_f, eqI_t, eqI_f, Bool.not_eq_true', Bool.not_eq_false', decide_eq_true_eq, decide_eq_false_iff_not, reduceCtorEq] at hc; all_goals try (exfalso; omega)) | (apply GO_retV1; exact rfl; exact rfl; exact rfl))
    · rw [decide_eq_false]; rintro rfl; omega
    · have hc2 : r.clubs.getD k 0 = r'.clubs.getD k 0 := by omega
      have h2 := ih (k + 1) ⟨by omega, by rw [take_snocD 0 h1 hkn, take_snocD 0 h2 hkn', hI, hc2]⟩ (by omega)
      refine GO_fit (by (repeat (first | exact trivial | refine ⟨rfl, ?_⟩)); done) (by (repeat (first | exact Takes_nil | (apply Takes_cons; exact (by (repeat (first | exact Take.here | apply Take.there)); done)))); done) (h2)
  · have hCl : r.clubs = r'.clubs := by rw [List.take_of_length_le (by omega), List.take_of_length_le (by omega)] at hI; exact hI
    refine GO_loopT (X := Nat) (fun k => k ≤ s.ne ∧ r.ents.take k = r'.ents.take k) (fun k => s.ne - k) (fun k => [(6, .int .i64 k), (2, .pointer (some ⟨b1, 0, none⟩)), (3, .pointer (some ⟨b2, 0, none⟩))]) (fun k => [Blk b1 25 (partL (regV r.league r.day s)), Blk b2 25 (partL (regV r'.league r'.day s'))]) (fun _ => h) 0 ⟨by omega, rfl⟩ (by (repeat (first | exact trivial | refine ⟨rfl, ?_⟩)); done) (by (repeat (first | exact Takes_nil | (apply Takes_cons; exact (by (repeat (first | exact Take.here | apply Take.there)); done)))); done) rfl ?_
    rintro k ⟨hk, hI⟩ ih
    repeat' (first | apply GO_seq | apply GO_skip | apply GO_block | apply GO_region | apply GOl_nil | (apply GO_exit; exact rfl) | (apply GOl_pv; exact rfl; exact rfl; exact rfl) | (apply GOl_load; exact rfl; exact Ld_blk rfl (by (repeat (first | exact List.Mem.head _ | apply List.Mem.tail)); done) rfl; exact rfl; exact rfl) | (apply GO_drawp (n := 11) [0, 1, 2, 3, 4, 5, 6, 7, 8, 9, 10] [(0, 0), (1, 0), (2, 0), (3, 0), (4, 0), (5, 0), (6, 0), (7, 0), (8, 0), (9, 0), (10, 0)]; kernel_rfl) | (apply GP_pv; exact rfl; kernel_rfl; exact rfl; exact rfl; exact rfl) | (apply GP_loadB; exact rfl; kernel_rfl; exact rfl; exact rfl; exact rfl; exact (by (repeat (first | exact List.Mem.head _ | apply List.Mem.tail)); done); exact rfl; exact rfl) | (apply GO_cond; exact rfl; all_goals intro hc; all_goals try simp only [ltI_t, ltI_f, leI_t, leI_f, eqI_t, eqI_f, Bool.not_eq_true', Bool.not_eq_false', decide_eq_true_eq, decide_eq_false_iff_not, reduceCtorEq] at hc; all_goals try (exfalso; omega)) | (apply GO_retV1; exact rfl; exact rfl; exact rfl))
    · have hkn : k < s.ne := by omega
      have hkn' : k < s'.ne := by omega
      have a1 := hr.ents.addrD hkn
      have a2 := hr'.ents.addrD hkn'
      have c1 := hr.ents.cellsD e0 hkn
      have c2 := hr'.ents.cellsD e0 hkn'
      repeat' (first | apply GO_seq | apply GO_skip | apply GO_inBlock | apply GO_region | apply GOl_nil | (apply GOl_add; exact rfl; exact rfl; exact rfl; omega; exact rfl; exact rfl) | (apply GOl_pv; exact rfl; exact rfl; exact rfl) | (apply GP_pv; exact rfl; kernel_rfl; exact rfl; exact rfl; exact rfl) | (apply GP_loadB; exact rfl; kernel_rfl; exact rfl; exact rfl; exact rfl; exact (by (repeat (first | exact List.Mem.head _ | apply List.Mem.tail)); done); exact rfl; exact rfl) | (apply GP_ov; exact rfl; kernel_rfl; exact rfl; exact rfl; (first | (apply OV_neqS; exact rfl; exact rfl; exact rfl; kernel_rfl; kernel_rfl) | (apply OV_load; exact rfl; first | exact Lv_ro rfl (by assumption) rfl | exact Lv_roF rfl (by assumption) rfl | exact Lv_roF2 rfl (by assumption) rfl | exact Lv_roF3 rfl (by assumption) rfl) | (apply OV_idxS; exact rfl; exact rfl; exact rfl; exact rfl; exact rfl; assumption; exact rfl; first | assumption | omega)); exact (by repeat' (first | exact trivial | apply And.intro | exact List.Mem.head _ | apply List.Mem.tail))) | (apply GP_done; kernel_rfl; exact rfl) | (apply GO_cond; exact rfl; all_goals intro hc; all_goals try simp only [ltI_t, ltI_f, leI_t, leI_f, eqI_t, eqI_f, Bool.not_eq_true', Bool.not_eq_false', decide_eq_true_eq, decide_eq_false_iff_not, reduceCtorEq] at hc; all_goals try (exfalso; omega)) | (apply GO_retV1; exact rfl; exact rfl; exact rfl))
      · have hc0 : decide (r.ents.getD k e0 = r'.ents.getD k e0) = false := by rw [← entEq]; exact hc
        rw [decide_eq_false]; rintro rfl; simp at hc0
      · have hc0 : decide (r.ents.getD k e0 = r'.ents.getD k e0) = true := by rw [← entEq]; exact hc
        have hc2 := of_decide_eq_true hc0
        have h2 := ih (k + 1) ⟨by omega, by rw [take_snocD e0 h3 hkn, take_snocD e0 h4 hkn', hI, hc2]⟩ (by omega)
        refine GO_fit (by (repeat (first | exact trivial | refine ⟨rfl, ?_⟩)); done) (by (repeat (first | exact Takes_nil | (apply Takes_cons; exact (by (repeat (first | exact Take.here | apply Take.there)); done)))); done) (h2)
    · rw [decide_eq_true]; rw [List.take_of_length_le (by omega), List.take_of_length_le (by omega)] at hI
      cases r; cases r'; simp_all

end Go.Hw


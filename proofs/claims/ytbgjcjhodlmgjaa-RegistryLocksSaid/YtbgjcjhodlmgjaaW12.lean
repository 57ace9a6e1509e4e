import Derived.Test.YtbgjcjhodlmgjaaW11
import Derived.Test.YtbgjcjhodlmgjaaHwS
set_option linter.unusedVariables false
set_option linter.unusedSimpArgs false
set_option maxRecDepth 100000
set_option maxHeartbeats 1600000
namespace Go.Hw
open Go
attribute [local irreducible] GO GOl GDp Val Fn Res CellsAt ValE Blk OwnS MapA
open Go.Proofs (Try.prog)

def insL (p : Int) : List Int → List Int
  | [] => [p]
  | a :: r => if a < p then a :: insL p r else p :: a :: r
noncomputable def sqStep (r : Reg) (club : Int) (out : List Int) (x : Ent) : List Int :=
  if (regClub r x.player).2.2 = true ∧ (regClub r x.player).2.1 = club ∧ x.player ∉ out then insL x.player out else out
noncomputable def squadL (r : Reg) (club : Int) : List Int := r.ents.foldl (sqStep r club) []
theorem insL_at (p : Int) : ∀ (out : List Int) (k : Nat), k ≤ out.length → (∀ i, i < k → out.getD i 0 < p) → (k < out.length → p ≤ out.getD k 0) → out.take k ++ (p :: out.drop k) = insL p out
  | [], 0, _, _, _ => rfl
  | [], k + 1, h, _, _ => absurd h (by simp)
  | a :: r, 0, _, _, h2 => by
    have := h2 (by simp)
    simp at this
    simp [insL]; omega
  | a :: r, k + 1, h, h1, h2 => by
    have h0 := h1 0 (by omega)
    simp at h0
    have := insL_at p r k (by simpa using h) (fun i hi => by simpa using h1 (i + 1) (by omega)) (fun hk => by simpa using h2 (by simpa using hk))
    simp [insL, h0, this]
theorem insL_len (p : Int) : ∀ (out : List Int), (insL p out).length = out.length + 1
  | [] => rfl
  | a :: r => by simp only [insL]; split <;> simp [insL_len p r]


theorem squadR_c (h : Ro) (s : Rsh) (r : Reg) (hr : RegAt h s r) (club : Int) : Res Try.prog 24 #[regV r.league r.day s, .int .i64 club] h (fun v h' => ∃ A c, v = .slice A (squadL r club).length c ∧ SlOf encI 1 h' A (squadL r club).length (squadL r club)) := by
  refine Res_intro (args := [_, _]) ts_ok Go.Proofs.Try.func24 rfl rfl fun w0 X0 => ?_
  have hlen := hr.ents.len
  have hne := hr.ne
  repeat' (first | apply GO_seq | apply GO_block | apply GO_region | apply GOl_nil | (apply GOl_pv; exact rfl; exact rfl; exact rfl) | (apply GOl_to; exact rfl; exact rfl; exact rfl; (first | (apply OpTo_box; exact rfl; intro b; skip) | (apply OpTo_buildSliceS (enc := encI) (n := 0) []; exact rfl; exact rfl; exact rfl; exact List.cons_ne_nil _ _; exact rfl; exact rfl; exact rfl; exact rfl; exact fun _ => rfl; exact rfl; exact rfl; intro b1 h1 hle1 hs1; skip))))
  refine GO_loopT (X := Nat × List Int × Option Addr × Nat × Ro) (fun x => x.1 ≤ s.ne ∧ Le h x.2.2.2.2 ∧ x.2.1 = (r.ents.take x.1).foldl (sqStep r club) [] ∧ x.2.1.length ≤ x.1 ∧ SlOf encI 1 x.2.2.2.2 x.2.2.1 x.2.1.length x.2.1 ∧ x.2.1.length ≤ x.2.2.2.1) (fun x => s.ne - x.1)
    (fun x => [(6, .int .i64 x.1), (5, .slice x.2.2.1 x.2.1.length x.2.2.2.1), (2, .pointer (some ⟨b, 0, none⟩)), (1, .int .i64 club)])
    (fun x => [Blk b 25 (partL (regV r.league r.day s))]) (fun x => x.2.2.2.2) (0, [], some ⟨b1, 0, none⟩, 0, h1) ⟨by omega, hle1, rfl, by simp, hs1, by simp⟩ (by (repeat (first | exact trivial | refine ⟨rfl, ?_⟩)); done) (by (repeat (first | exact Takes_nil | (apply Takes_cons; exact (by (repeat (first | exact Take.here | apply Take.there)); done)))); done) rfl ?_
  rintro ⟨k, out, A, c, hk⟩ ⟨hkn, hlk, hI, hol, hso, hoc⟩ ih
  dsimp only at hkn hlk hI hol hso hoc ih ⊢
  repeat' (first | apply GO_seq | apply GO_skip | apply GO_block | apply GO_region | apply GOl_nil | (apply GO_exit; exact rfl) | (apply GOl_pv; exact rfl; exact rfl; exact rfl) | (apply GOl_load; exact rfl; exact Ld_blk rfl (by (repeat (first | exact List.Mem.head _ | apply List.Mem.tail)); done) rfl; exact rfl; exact rfl) | (apply GO_cond; exact rfl; all_goals intro hc; all_goals try simp only [ltI_t, ltI_f, leI_t, leI_f, eqI_t, eqI_f, Bool.not_eq_true', Bool.not_eq_false', decide_eq_true_eq, decide_eq_false_iff_not, reduceCtorEq] at hc; all_goals try (exfalso; omega)) | (apply GO_retR1; exact rfl; exact rfl; exact rfl))
  · have hkn2 : k < s.ne := by omega
    have a1 := hr.ents.addrD hkn2
    have c1 := (hr.ents.cellsD e0 hkn2).le hlk
    have hreg := hr.le hlk
    have et := take_snocE hlen hkn2
    have hstep : ∀ y, sqStep r club out (r.ents.getD k e0) = y → y = (r.ents.take (k + 1)).foldl (sqStep r club) [] := fun y e => by rw [et, List.foldl_append, ← hI, ← e]; rfl
    repeat' (first | apply GO_seq | apply GO_skip | apply GO_block | apply GO_region | apply GOl_nil | (apply GO_exit; exact rfl) | (apply GOl_unwanted; exact rfl; exact rfl) | (apply GOl_add; exact rfl; exact rfl; exact rfl; omega; exact rfl; exact rfl) | (apply GOl_pv; exact rfl; exact rfl; exact rfl) | (apply GOl_load; exact rfl; exact Ld_blk rfl (by (repeat (first | exact List.Mem.head _ | apply List.Mem.tail)); done) rfl; exact rfl; exact rfl) | (apply GOl_ov; exact rfl; exact rfl; (first | (apply OV_load; exact rfl; first | exact Lv_ro rfl (by assumption) rfl | exact Lv_roF rfl (by assumption) rfl | exact Lv_roF2 rfl (by assumption) rfl | exact Lv_roF3 rfl (by assumption) rfl) | (apply OV_idxS; exact rfl; exact rfl; exact rfl; exact rfl; exact rfl; assumption; exact rfl; first | assumption | omega)); exact (by repeat' (first | exact trivial | apply And.intro | exact List.Mem.head _ | apply List.Mem.tail))) | (apply GOl_to; exact rfl; exact rfl; exact rfl; (first | (apply OpTo_val; exact rfl; exact has39; exact member_c hk A _ c out _ hso (by omega); skip) | (apply OpTo_val; exact rfl; exact has19; exact clubR_c _ _ _ (by assumption) _; skip))) | (apply GO_cond; exact rfl; all_goals intro hc; all_goals try simp only [ltI_t, ltI_f, leI_t, leI_f, eqI_t, eqI_f, Bool.not_eq_true', Bool.not_eq_false', decide_eq_true_eq, decide_eq_false_iff_not, reduceCtorEq] at hc; all_goals try (exfalso; omega)) | (apply GOl_split; exact rfl; exact rfl; all_goals intro hc; all_goals try simp only [ltI_t, ltI_f, leI_t, leI_f, eqI_t, eqI_f, Bool.not_eq_true', Bool.not_eq_false', decide_eq_true_eq, decide_eq_false_iff_not, reduceCtorEq] at hc; all_goals try (exfalso; omega)))
    rotate_right
    · rename_i q1 q2 _
      have hs2 : sqStep r club out (r.ents.getD k e0) = insL (r.ents.getD k e0).player out := by
        rw [sqStep, if_pos ⟨by assumption, by assumption, by assumption⟩]
      refine GO_loopT (X := Nat) (fun m => m ≤ out.length ∧ ∀ i, i < m → out.getD i 0 < (r.ents.getD k e0).player) (fun m => out.length - m)
        (fun m => [(11, .int .i64 m), (7, .int .i64 (r.ents.getD k e0).player), (6, .int .i64 k), (5, .slice A out.length c), (2, .pointer (some ⟨b, 0, none⟩)), (1, .int .i64 club)])
        (fun _ => [Blk b 25 (partL (regV r.league r.day s))]) (fun _ => hk) 0 ⟨by omega, fun i hi => by omega⟩ (by (repeat (first | exact trivial | refine ⟨rfl, ?_⟩)); done) (by (repeat (first | exact Takes_nil | (apply Takes_cons; exact (by (repeat (first | exact Take.here | apply Take.there)); done)))); done) rfl ?_
      rintro m ⟨hm, hlt⟩ ih2
      by_cases hin : m < out.length ∧ out.getD m 0 < (r.ents.getD k e0).player
      · obtain ⟨hin1, hin2⟩ := hin
        have a3 := hso.addrD hin1
        have c3 := hso.cellsD 0 hin1
        repeat' (first | apply GO_seq | apply GO_skip | apply GO_inBlock | apply GO_block | apply GO_region | apply GOl_nil | (apply GOl_add; exact rfl; exact rfl; exact rfl; omega; exact rfl; exact rfl) | (apply GOl_pv; exact rfl; exact rfl; exact rfl) | (apply GOl_ov; exact rfl; exact rfl; (first | (apply OV_load; exact rfl; first | exact Lv_ro rfl (by assumption) rfl | exact Lv_roF rfl (by assumption) rfl | exact Lv_roF2 rfl (by assumption) rfl | exact Lv_roF3 rfl (by assumption) rfl) | (apply OV_idxS; exact rfl; exact rfl; exact rfl; exact rfl; exact rfl; assumption; exact rfl; first | assumption | omega)); exact (by repeat' (first | exact trivial | apply And.intro | exact List.Mem.head _ | apply List.Mem.tail))) | (apply GO_cond; exact rfl; all_goals intro hc; all_goals try simp only [ltI_t, ltI_f, leI_t, leI_f, eqI_t, eqI_f, Bool.not_eq_true', Bool.not_eq_false', decide_eq_true_eq, decide_eq_false_iff_not, reduceCtorEq] at hc; all_goals try (exfalso; omega)) | (apply GOl_split; exact rfl; exact rfl; all_goals intro hc; all_goals try simp only [ltI_t, ltI_f, leI_t, leI_f, eqI_t, eqI_f, Bool.not_eq_true', Bool.not_eq_false', decide_eq_true_eq, decide_eq_false_iff_not, reduceCtorEq] at hc; all_goals try (exfalso; omega)))
        have h2 := ih2 (m + 1) ⟨by omega, fun i hi => by
          by_cases h : i = m
          · rw [h]; exact hin2
          · exact hlt i (by omega)⟩ (by omega)
        refine GO_fit (by (repeat (first | exact trivial | refine ⟨rfl, ?_⟩)); done) (by (repeat (first | exact Takes_nil | (apply Takes_cons; exact (by (repeat (first | exact Take.here | apply Take.there)); done)))); done) (h2)
      · have hge : m < out.length → (r.ents.getD k e0).player ≤ out.getD m 0 := fun h => by
          by_cases h9 : out.getD m 0 < (r.ents.getD k e0).player
          · exact absurd ⟨h, h9⟩ hin
          · omega
        have hins := insL_at (r.ents.getD k e0).player out m hm hlt hge
        have hil := insL_len (r.ents.getD k e0).player out
        by_cases hml : m < out.length
        all_goals try have a3 := hso.addrD hml
        all_goals try have c3 := hso.cellsD 0 hml
        all_goals try have hge2 := hge hml
        all_goals
          repeat' (first | apply GO_seq | apply GO_inBlock | apply GO_region | apply GOl_nil | (apply GO_exit; exact rfl) | (apply GOl_unwanted; exact rfl; exact rfl) | (apply GOl_add; exact rfl; exact rfl; exact rfl; omega; exact rfl; exact rfl) | (apply GOl_pv; exact rfl; exact rfl; exact rfl) | (apply GOl_ov; exact rfl; exact rfl; (first | (apply OV_load; exact rfl; first | exact Lv_ro rfl (by assumption) rfl | exact Lv_roF rfl (by assumption) rfl | exact Lv_roF2 rfl (by assumption) rfl | exact Lv_roF3 rfl (by assumption) rfl) | (apply OV_idxS; exact rfl; exact rfl; exact rfl; exact rfl; exact rfl; assumption; exact rfl; first | assumption | omega)); exact (by repeat' (first | exact trivial | apply And.intro | exact List.Mem.head _ | apply List.Mem.tail))) | (apply GOl_to; exact rfl; exact rfl; exact rfl; (first | (apply OpTo_buildSliceO (n := 1); exact rfl; exact rfl; exact rfl; exact List.cons_ne_nil _ _; exact rfl; exact rfl; exact rfl; exact rfl; exact rfl; exact rfl; intro b1; skip) | (apply OpTo_sliceLo (enc := encI) (xs := out) (lo := m); exact rfl; exact rfl; exact rfl; exact rfl; exact rfl; exact hso; exact rfl; exact hm; exact hoc; intro A3 hs3; skip) | (apply OpTo_appendSR (enc := encI) (xs := [(r.ents.getD k e0).player]) (ys := out.drop m); exact rfl; exact rfl; exact rfl; exact rfl; exact rfl; exact rfl; exact rfl; exact hs3; exact fun _ => rfl; exact fun _ => allOne_ok rfl; exact (by (repeat (first | exact Take.here | apply Take.there)); done); exact rfl; omega; exact rfl; intro A4 c4 h4 hle4 hc4 hs4; skip) | (apply OpTo_sliceHM (enc := encI) (xs := out) (hi := m); exact rfl; exact rfl; exact rfl; exact rfl; exact rfl; exact rfl; exact hso.le hle4; exact rfl; exact rfl; exact hm; exact hoc; intro A5 hs5; skip) | (apply OpTo_appendFR (enc := encI) (xs := out.take m) (ys := [(r.ents.getD k e0).player] ++ out.drop m); exact rfl; exact rfl; exact rfl; exact rfl; exact rfl; exact rfl; exact rfl; exact hs5; exact hs4; exact rfl; omega; exact fun _ => rfl; omega; exact rfl; intro A6 c6 h6 hle6 hc6 hs6; skip))) | (apply GO_cond; exact rfl; all_goals intro hc; all_goals try simp only [ltI_t, ltI_f, leI_t, leI_f, eqI_t, eqI_f, Bool.not_eq_true', Bool.not_eq_false', decide_eq_true_eq, decide_eq_false_iff_not, reduceCtorEq] at hc; all_goals try (exfalso; omega)) | (apply GOl_split; exact rfl; exact rfl; all_goals intro hc; all_goals try simp only [ltI_t, ltI_f, leI_t, leI_f, eqI_t, eqI_f, Bool.not_eq_true', Bool.not_eq_false', decide_eq_true_eq, decide_eq_false_iff_not, reduceCtorEq] at hc; all_goals try (exfalso; omega)))
        all_goals
          have hnn : m + (1 + (out.length - m)) = (insL (r.ents.getD k e0).player out).length := by rw [hil]; omega
          rw [hnn]
          rw [hnn] at hs6 hc6
          have hss : SlOf encI 1 h6 A6 (insL (r.ents.getD k e0).player out).length (insL (r.ents.getD k e0).player out) := by rw [← hins] at hs6 ⊢; exact hs6
          have h2 := ih (k + 1, insL (r.ents.getD k e0).player out, A6, c6, h6) ⟨by show k + 1 ≤ s.ne; omega, hlk.trans (hle4.trans hle6), hstep _ hs2, by show (insL _ out).length ≤ k + 1; omega, hss, hc6⟩ (by show s.ne - (k + 1) < s.ne - k; omega)
          refine GO_fit (by (repeat (first | exact trivial | refine ⟨rfl, ?_⟩)); done) (by (repeat (first | exact Takes_nil | (apply Takes_cons; exact (by (repeat (first | exact Take.here | apply Take.there)); done)))); done) (h2)
    all_goals
      have hs2 : sqStep r club out (r.ents.getD k e0) = out := by rw [sqStep, if_neg]; rintro ⟨q1, q2, q3⟩; first | contradiction | (rename_i z; rw [q1] at z; cases z) | (rename_i z _; rw [q1] at z; cases z)
      have h2 := ih (k + 1, out, A, c, hk) ⟨by show k + 1 ≤ s.ne; omega, hlk, hstep _ hs2, by show out.length ≤ k + 1; omega, hso, hoc⟩ (by show s.ne - (k + 1) < s.ne - k; omega)
      refine GO_fit (by (repeat (first | exact trivial | refine ⟨rfl, ?_⟩)); done) (by (repeat (first | exact Takes_nil | (apply Takes_cons; exact (by (repeat (first | exact Take.here | apply Take.there)); done)))); done) (h2)
  · have ht : r.ents.take k = r.ents := List.take_of_length_le (by omega)
    rw [ht] at hI
    have e : squadL r club = out := by rw [hI]; rfl
    rw [e]
    exact ⟨A, c, rfl, hso⟩
end Go.Hw


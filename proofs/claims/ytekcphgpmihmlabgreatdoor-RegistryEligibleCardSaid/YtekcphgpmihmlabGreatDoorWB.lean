import Derived.Test.YtekcphgpmihmlabGreatDoorWA
import Derived.Test.YtekcphgpmihmlabGreatDoorHB
set_option linter.unusedVariables false
set_option linter.unusedSimpArgs false
set_option maxRecDepth 100000
set_option maxHeartbeats 1600000
namespace Go.Hw
open Go
attribute [local irreducible] GO GOl GDp Val Fn Res CellsAt ValE Blk OwnS MapA
open Go.Proofs (Tryz.prog)

abbrev e0 : Ent := ⟨0, 0, 0, 0, 0, 0, 0⟩



noncomputable def addR (r : Reg) (x : Ent) : Reg × Int := if addE r.clubs r.day r.ents x = 0 then (⟨r.league, r.clubs, x.day, r.ents ++ [x]⟩, 0) else (reg0, addE r.clubs r.day r.ents x)

end Go.Hw
set_option linter.unusedVariables false
set_option linter.unusedSimpArgs false
set_option maxRecDepth 100000
set_option maxHeartbeats 1600000
namespace Go.Hw
open Go
attribute [local irreducible] GO GOl GDp Val Fn Res CellsAt ValE Blk OwnS MapA
open Go.Proofs (Tryz.prog)

theorem bookOf_len {clubs : List Int} : ∀ {l acc : List Ent} {d d' : Int}, bookOf clubs d acc l = some d' → l = [] ∨ acc.length + l.length ≤ 65536
  | [], _, _, _, _ => .inl rfl
  | x :: r, acc, d, d', h => by
    right
    unfold bookOf at h
    split at h
    · rename_i h0
      have h1 := addE_lt h0
      rcases bookOf_len h with h2 | h2
      · subst h2; simp; omega
      · simp at h2 ⊢; omega
    · cases h



theorem regEnter_eq (r : Reg) (x : Ent) : (RegGood r → regEnter r x = addR r x) ∧ (¬ RegGood r → regEnter r x = (reg0, 360)) :=
  ⟨fun h => by rw [regEnter, if_pos h]; rfl, fun h => by rw [regEnter, if_neg h]⟩



end Go.Hw
set_option linter.unusedVariables false
set_option linter.unusedSimpArgs false
set_option maxRecDepth 100000
set_option maxHeartbeats 1600000
namespace Go.Hw
open Go
attribute [local irreducible] GO GOl GDp Val Fn Res CellsAt ValE Blk OwnS MapA
open Go.Proofs (Tryz.prog)

theorem take_snocD {α : Type} (d : α) {xs : List α} {k n : Nat} (hlen : xs.length = n) (hk : k < n) : xs.take (k + 1) = xs.take k ++ [xs.getD k d] := by
  rw [List.take_succ_eq_append_getElem (by omega)]; simp [List.getD, List.getElem?_eq_getElem (show k < xs.length by omega)]
theorem ne_of_getD {α : Type} (d : α) {xs ys : List α} (k : Nat) (h : xs.getD k d ≠ ys.getD k d) : xs ≠ ys := fun e => h (by rw [e])

theorem entEq (a b : Ent) : (eqI a.kind b.kind && (eqI a.day b.day && (eqI a.player b.player && (eqI a.club b.club && (eqI a.other b.other && (eqI a.upto b.upto && (eqI a.transfer b.transfer && true))))))) = decide (a = b) := by
  cases a; cases b; rw [Bool.eq_iff_iff]; simp [eqI_eq]


theorem sameInts_c (h : Ro) (A B : Option Addr) (n c n' c' : Nat) (xs ys : List Int) (hx : SlOf encI 1 h A n xs) (hy : SlOf encI 1 h B n' ys) (hn : n ≤ 1000000000) (hn' : n' ≤ 1000000000) :
    Val Tryz.prog 36 #[.slice A n c, .slice B n' c'] h (.bool (decide (xs = ys))) := by
  refine Val_intro (args := [_, _]) ts_ok Go.Proofs.Tryz.func36 rfl rfl fun w0 X0 => ?_
  have hlx := hx.len
  have hly := hy.len
  repeat' (first | apply GO_seq | apply GO_skip | apply GO_block | apply GO_region | apply GOl_nil | (apply GOl_pv; exact rfl; exact rfl; exact rfl) | (apply GO_cond; exact rfl; all_goals intro hc; all_goals try simp only [ltI_t, ltI_f, leI_t, leI_f, eqI_t, eqI_f, Bool.not_eq_true', Bool.not_eq_false', decide_eq_true_eq, decide_eq_false_iff_not, reduceCtorEq] at hc; all_goals try (exfalso; omega)) | (apply GO_retV1; exact rfl; exact rfl; exact rfl))
  · rw [decide_eq_false]; intro e; rw [e] at hlx; omega
  refine GO_loopT (X := Nat) (fun k => k ≤ n ∧ xs.take k = ys.take k) (fun k => n - k) (fun k => [(5, .int .i64 k), (0, .slice A n c), (1, .slice B n' c')]) (fun k => []) (fun _ => h) 0 ⟨by omega, rfl⟩ (by (repeat (first | exact trivial | refine ⟨rfl, ?_⟩)); done) (by (repeat (first | exact Takes_nil | (apply Takes_cons; exact (by (repeat (first | exact Take.here | apply Take.there)); done)))); done) rfl ?_
  rintro k ⟨hk, hI⟩ ih
  repeat' (first | apply GO_seq | apply GO_skip | apply GO_block | apply GO_region | apply GOl_nil | (apply GO_exit; exact rfl) | (apply GOl_pv; exact rfl; exact rfl; exact rfl) | (apply GO_drawp (n := 6) [0, 1, 2, 3, 4, 5, 6, 7, 8] [(0, 0), (1, 0), (2, 0), (3, 0), (4, 0), (5, 0), (6, 0), (7, 0), (8, 0)]; kernel_rfl) | (apply GP_pv; exact rfl; kernel_rfl; exact rfl; exact rfl; exact rfl) | (apply GO_cond; exact rfl; all_goals intro hc; all_goals try simp only [ltI_t, ltI_f, leI_t, leI_f, eqI_t, eqI_f, Bool.not_eq_true', Bool.not_eq_false', decide_eq_true_eq, decide_eq_false_iff_not, reduceCtorEq] at hc; all_goals try (exfalso; omega)) | (apply GO_retV1; exact rfl; exact rfl; exact rfl))
  · have hkn : k < n := by omega
    have hkn' : k < n' := by omega
    obtain ⟨ad, rfl⟩ := hx.addr (by omega)
    obtain ⟨bd, rfl⟩ := hy.addr (by omega)
    have c1 := hx.cells 0 hkn
    have c2 := hy.cells 0 hkn'
    repeat' (first | apply GO_seq | apply GO_skip | apply GO_inBlock | apply GO_region | apply GOl_nil | (apply GOl_add; exact rfl; exact rfl; exact rfl; omega; exact rfl; exact rfl) | (apply GOl_pv; exact rfl; exact rfl; exact rfl) | (apply GP_pv; exact rfl; kernel_rfl; exact rfl; exact rfl; exact rfl) | (apply GP_ov; exact rfl; kernel_rfl; exact rfl; exact rfl; (first | (apply OV_load; exact rfl; first | exact Lv_ro rfl (by assumption) rfl | exact Lv_roF rfl (by assumption) rfl | exact Lv_roF2 rfl (by assumption) rfl | exact Lv_roF3 rfl (by assumption) rfl) | (apply OV_idx; exact rfl; exact rfl; exact rfl; exact rfl; exact rfl; exact rfl; first | assumption | omega)); exact (by repeat' (first | exact trivial | apply And.intro | exact List.Mem.head _ | apply List.Mem.tail))) | (apply GP_done; kernel_rfl; exact rfl) | (apply GO_cond; exact rfl; all_goals intro hc; all_goals try simp only [ltI_t, ltI_f, leI_t, leI_f, eqI_t, eqI_f, Bool.not_eq_true', Bool.not_eq_false', decide_eq_true_eq, decide_eq_false_iff_not, reduceCtorEq] at hc; all_goals try (exfalso; omega)) | (apply GO_retV1; exact rfl; exact rfl; exact rfl))
    · rw [decide_eq_false]; exact ne_of_getD 0 k (by omega)
    · have hc2 : xs.getD k 0 = ys.getD k 0 := by omega
      have h2 := ih (k + 1) ⟨by omega, by rw [take_snocD 0 hlx hkn, take_snocD 0 hly hkn', hI, hc2]⟩ (by omega)
      refine GO_fit (by (repeat (first | exact trivial | refine ⟨rfl, ?_⟩)); done) (by (repeat (first | exact Takes_nil | (apply Takes_cons; exact (by (repeat (first | exact Take.here | apply Take.there)); done)))); done) (h2)
  · rw [decide_eq_true]; rw [List.take_of_length_le (by omega), List.take_of_length_le (by omega)] at hI; exact hI




theorem few_c (h : Ro) (lg d : Int) (s : Rsh) : Val Tryz.prog 13 #[regV lg d s] h (.bool (decide (s.nc ≤ 30 ∧ s.ne ≤ 16))) := by
  refine Val_intro (args := [_]) ts_ok Go.Proofs.Tryz.func13 rfl rfl fun w0 X0 => ?_
  repeat' (first | apply GO_seq | apply GO_region | apply GOl_nil | (apply GOl_unwanted; exact rfl; exact rfl) | (apply GOl_pv; exact rfl; exact rfl; exact rfl) | (apply GOl_load; exact rfl; exact Ld_blk rfl (by (repeat (first | exact List.Mem.head _ | apply List.Mem.tail)); done) rfl; exact rfl; exact rfl) | (apply GOl_to; exact rfl; exact rfl; exact rfl; (first | (apply OpTo_box; exact rfl; intro b; skip))) | (apply GOl_split; exact rfl; exact rfl; all_goals intro hc; all_goals try simp only [ltI_t, ltI_f, leI_t, leI_f, eqI_t, eqI_f, Bool.not_eq_true', Bool.not_eq_false', decide_eq_true_eq, decide_eq_false_iff_not, reduceCtorEq] at hc; all_goals try (exfalso; omega)) | (apply GO_retV1; exact rfl; exact rfl; exact rfl))
  all_goals (simp only [ltI_eq, leI_eq, eqI_eq, Value.bool.injEq]; first | rfl | (rw [decide_eq_decide]; omega) | (symm; rw [decide_eq_false_iff_not]; omega) | (symm; rw [decide_eq_true_eq]; omega))




theorem enterL_c (h : Ro) (d : Int) : Val Tryz.prog 34 #[.int .i64 d] h (entV ⟨1, d, 5, 1, 0, 0, 0⟩) := by
  refine Val_intro (args := [_]) ts_ok Go.Proofs.Tryz.func34 rfl rfl fun w0 X0 => ?_
  repeat' (first | apply GO_seq | apply GO_region | apply GOl_nil | (apply GOl_pv; exact rfl; exact rfl; exact rfl) | (apply GOl_to; exact rfl; exact rfl; exact rfl; (first | (apply OpTo_store; exact rfl; exact rfl; exact rfl; exact (by (repeat (first | exact Repl.here | apply Repl.there)); done); exact rfl; exact rfl; exact rfl; skip) | (apply OpTo_alloc; exact rfl; intro b; skip))) | (apply GO_retC1; exact rfl; exact rfl; exact rfl; exact (by (repeat (first | exact List.Mem.head _ | apply List.Mem.tail)); done); exact rfl; exact rfl))
  rfl



end Go.Hw
set_option linter.unusedVariables false
set_option linter.unusedSimpArgs false
set_option maxRecDepth 100000
set_option maxHeartbeats 1600000
namespace Go.Hw
open Go
attribute [local irreducible] GO GOl GDp Val Fn Res CellsAt ValE Blk OwnS MapA
open Go.Proofs (Tryz.prog)

def insL (p : Int) : List Int → List Int
  | [] => [p]
  | a :: r => if a < p then a :: insL p r else p :: a :: r
noncomputable def sqStep (r : Reg) (club : Int) (out : List Int) (x : Ent) : List Int :=
  if (regClub r x.player).2.2 = true ∧ (regClub r x.player).2.1 = club ∧ x.player ∉ out then insL x.player out else out
noncomputable def squadL (r : Reg) (club : Int) : List Int := r.ents.foldl (sqStep r club) []
theorem insL_at (p : Int) : ∀ (out : List Int) (k : Nat), k ≤ out.length → (∀ i, i < k → out.getD i 0 < p) → (k < out.length → p ≤ out.getD k 0) → out.take k ++ (p :: out.drop k) = insL p out
  | [], 0, _, _, _ => rfl
  | [], k + 1, h, _, _ => absurd h (by simp)
  | a :: r, 0, _, _, h2 => by
    have := h2 (by simp)
    simp at this
    simp [insL]; omega
  | a :: r, k + 1, h, h1, h2 => by
    have h0 := h1 0 (by omega)
    simp at h0
    have := insL_at p r k (by simpa using h) (fun i hi => by simpa using h1 (i + 1) (by omega)) (fun hk => by simpa using h2 (by simpa using hk))
    simp [insL, h0, this]
theorem insL_len (p : Int) : ∀ (out : List Int), (insL p out).length = out.length + 1
  | [] => rfl
  | a :: r => by simp only [insL]; split <;> simp [insL_len p r]

end Go.Hw
set_option linter.unusedVariables false
set_option linter.unusedSimpArgs false
set_option maxRecDepth 100000
set_option maxHeartbeats 1600000
namespace Go.Hw
open Go
attribute [local irreducible] GO GOl GDp Val Fn Res CellsAt ValE Blk OwnS MapA
open Go.Proofs (Tryz.prog)

def sheetW0 : Value := .agg #[.int .i64 0, .int .i64 0, .int .i64 0, .int .i64 0, .int .i64 0, .int .i64 0, .int .i64 0, .int .i64 0, .int .i64 0, .slice none 0 0, .slice none 0 0, .slice none 0 0, .slice none 0 0]

/-- The fact of a move. -/
structure Mv where
  day : Int
  player : Int
  to : Int
deriving DecidableEq
def encM (m : Mv) : List Value := [.int .i64 6, .int .i64 m.day, .int .i64 m.day, .int .i64 0, .int .i64 0, .slice none 0 0, .string ByteArray.empty, .int .i64 0, .int .i64 0, .int .i64 0, .int .i64 0, .int .i64 0,
  .int .i64 0, .int .i64 0, .int .i64 0, .int .i64 0, .int .i64 0, .int .i64 0, .int .i64 0, .int .i64 0, .int .i64 0, .slice none 0 0, .slice none 0 0, .slice none 0 0, .slice none 0 0,
  .int .i64 0, .int .i64 0, .int .i64 0, .int .i64 0, .int .i64 0, .int .i64 0, .int .i64 0, .int .i64 0, .int .i64 0, .int .i64 0, .int .i64 0, .int .i64 0, .int .i64 0, .int .i64 0, .int .i64 0, .int .i64 0, .int .i64 0,
  .int .i64 0, .int .i64 0, .bool false, .int .i64 m.player, .int .i64 m.to, .int .i64 0, .int .i64 0, .slice none 0 0,
  .int .u8 0, .int .u8 0, .int .u8 0, .int .u8 0, .int .u8 0, .int .u8 0, .int .u8 0, .int .u8 0, .int .u8 0, .int .u8 0, .int .u8 0, .int .u8 0, .int .u8 0, .int .u8 0, .int .u8 0, .int .u8 0,
  .int .u8 0, .int .u8 0, .int .u8 0, .int .u8 0, .int .u8 0, .int .u8 0, .int .u8 0, .int .u8 0, .int .u8 0, .int .u8 0, .int .u8 0, .int .u8 0, .int .u8 0, .int .u8 0, .int .u8 0, .int .u8 0]
theorem encM_len (m : Mv) : (encM m).length = 82 := rfl

end Go.Hw
set_option linter.unusedVariables false
set_option linter.unusedSimpArgs false
set_option maxRecDepth 100000
set_option maxHeartbeats 1600000
namespace Go.Hw
open Go
attribute [local irreducible] GO GOl GDp Val Fn Res CellsAt ValE Blk OwnS MapA
open Go.Proofs (Tryz.prog)

def toOf (x : Ent) : Int := if x.kind = 2 then -1 else if x.kind = 3 then x.other else x.club
def mvOf (x : Ent) : Mv := ⟨x.day, x.player, toOf x⟩
def movesL (l : List Ent) : List Mv := (l.filter fun x => decide (x.kind ≤ 4)).map mvOf
theorem movesL_snoc (l : List Ent) (x : Ent) : movesL (l ++ [x]) = if x.kind ≤ 4 then movesL l ++ [mvOf x] else movesL l := by
  unfold movesL; rw [List.filter_append, List.map_append]; split <;> simp [*]
theorem movesL_len (l : List Ent) : (movesL l).length ≤ l.length := by
  unfold movesL; rw [List.length_map]; exact List.length_filter_le _ _

end Go.Hw
set_option linter.unusedVariables false
set_option linter.unusedSimpArgs false
set_option maxRecDepth 100000
set_option maxHeartbeats 400000
namespace Go.Hw
open Go
attribute [local irreducible] GO GOl GDp Val Fn Res CellsAt ValE Blk OwnS MapA Yl
open Go.Proofs (Tryz.prog)


theorem steps_c (h : Ro) (v : Value) (A : Option Addr) (n c : Nat) (hv : v = .slice A n c) : Res Tryz.prog 39 #[v] h (fun u h' => ∃ bx, u = .func (.func 80) #[] #[.pointer (some ⟨bx, 0, none⟩)] ∧ CellsAt h' ⟨bx, 0, none⟩ [.slice A n c]) := by
  subst hv
  refine Res_intro (args := [_]) ts_ok Go.Proofs.Tryz.func39 rfl rfl fun w0 X0 => ?_
  repeat' (first | apply GO_seq | apply GO_region | apply GOl_nil | (apply GOl_pv; exact rfl; exact rfl; exact rfl) | (apply GOl_to; exact rfl; exact rfl; exact rfl; (first | (apply OpTo_box; exact rfl; intro b; skip))))
  refine GO_relB (by (repeat (first | exact Take.here | apply Take.there)); done) ?_
  intro h1 hle1 hc1
  (first | (apply GO_retR1; exact rfl; exact rfl; exact rfl))
  exact ⟨b, rfl, hc1⟩

theorem movesL_app (a b : List Ent) : movesL (a ++ b) = movesL a ++ movesL b := by simp [movesL, List.filter_append, List.map_append]
theorem take_drop_cons {l : List Ent} {k n : Nat} (hlen : l.length = n) (hk : k < n) : l = l.take k ++ l.getD k e0 :: l.drop (k + 1) := by
  rw [← drop_consE hlen hk, List.take_append_drop]

theorem movesL_cons (x : Ent) (r : List Ent) : movesL (x :: r) = if x.kind ≤ 4 then mvOf x :: movesL r else movesL r := by
  unfold movesL; rw [List.filter_cons]; split <;> simp_all
def encM1 (m : Mv) : List Value := [.agg (encM m).toArray]


theorem stepsSeq (h : Ro) (bx : Nat) (A : Option Addr) (n c : Nat) (l : List Ent) (hb : CellsAt h ⟨bx, 0, none⟩ [.slice A n c]) (hl : SlOf encE 7 h A n l) (hn : n ≤ 1000000000) :
    SeqFn Tryz.prog 80 [.pointer (some ⟨bx, 0, none⟩)] encM1 (movesL l) h := by
  intro lid I Ix mI mIx hround Es h1 hle h0
  refine Fn_intro (args := [_, _]) ts_ok Go.Proofs.Tryz.func80 rfl rfl fun w0 X0 => ?_
  have hlen := hl.len
  have hb1 := hb.le hle
  repeat' (first | apply GO_seq | apply GO_block | apply GO_region | apply GOl_nil | (apply GOl_pv; exact rfl; exact rfl; exact rfl) | (apply GOl_ov; exact rfl; exact rfl; (first | (apply OV_load; exact rfl; first | exact Lv_ro rfl (by assumption) rfl | exact Lv_roF rfl (by assumption) rfl | exact Lv_roF2 rfl (by assumption) rfl | exact Lv_roF3 rfl (by assumption) rfl)); exact (by repeat' (first | exact trivial | apply And.intro | exact List.Mem.head _ | apply List.Mem.tail))))
  refine GO_while (X := Nat × List Asn × Ro) (fun x => x.1 ≤ n ∧ Le h x.2.2 ∧ I (movesL (l.take x.1)) x.2.1 x.2.2) (fun x => n - x.1) (fun x => [(8, .int .i64 x.1), (7, .int .i64 n), (6, .slice A n c), (0, .func (.yield lid) #[] #[])])
    (fun x => x.2.1) (fun x => x.2.2) (0, Es, h1) ⟨by omega, hle, h0⟩ (by (repeat (first | exact trivial | refine ⟨rfl, ?_⟩)); done) rfl rfl ?_
  rintro ⟨k, Es1, hk⟩ ⟨hkn, hlk, hI⟩ ih
  dsimp only at hkn hlk hI ih ⊢
  repeat' (first | apply GO_seq | apply GO_skip | apply GO_block | apply GO_region | apply GOl_nil | (apply GO_exit; exact rfl) | (apply GOl_pv; exact rfl; exact rfl; exact rfl) | (apply GO_cond; exact rfl; all_goals intro hc; all_goals try simp only [ltI_t, ltI_f, leI_t, leI_f, eqI_t, eqI_f, Bool.not_eq_true', Bool.not_eq_false', decide_eq_true_eq, decide_eq_false_iff_not, reduceCtorEq] at hc; all_goals try (exfalso; omega)))
  · have hkn2 : k < n := by omega
    have a1 := hl.addrD hkn2
    have c1 := (hl.cellsD e0 hkn2).le hlk
    have et := take_snocE hlen hkn2
    have hsplit := take_drop_cons hlen hkn2
    have hyA : (l.getD k e0).kind ≤ 4 → movesL l = movesL (l.take k) ++ mvOf (l.getD k e0) :: movesL (l.drop (k + 1)) ∧ ∀ T, toOf (l.getD k e0) = T → Yl Tryz.prog lid [.agg (encM ⟨(l.getD k e0).day, (l.getD k e0).player, T⟩).toArray] Es1 hk fun v Es' h' => (v = .bool true ∧ I (movesL (l.take (k + 1))) Es' h') ∨ (v = .bool false ∧ Ix (movesL (l.take (k + 1))) Es' h') := by
      intro h4
      have hmv : movesL l = movesL (l.take k) ++ mvOf (l.getD k e0) :: movesL (l.drop (k + 1)) := by
        conv => lhs; rw [hsplit]
        rw [movesL_app, movesL_cons, if_pos h4]
      refine ⟨hmv, ?_⟩
      rintro T rfl
      have hy := hround _ _ _ Es1 hk hmv hlk hI
      rw [et, movesL_snoc, if_pos h4]
      exact hy
    repeat' (first | apply GO_seq | apply GO_skip | apply GO_inBlock | apply GO_block | apply GO_region | apply GOl_nil | (apply GOl_unwanted; exact rfl; exact rfl) | (apply GOl_add; exact rfl; exact rfl; exact rfl; omega; exact rfl; exact rfl) | (apply GOl_pv; exact rfl; exact rfl; exact rfl) | (apply GOl_load; exact rfl; exact Ld_blk rfl (by (repeat (first | exact List.Mem.head _ | apply List.Mem.tail)); done) rfl; exact rfl; exact rfl) | (apply GOl_ov; exact rfl; exact rfl; (first | (apply OV_load; exact rfl; first | exact Lv_ro rfl (by assumption) rfl | exact Lv_roF rfl (by assumption) rfl | exact Lv_roF2 rfl (by assumption) rfl | exact Lv_roF3 rfl (by assumption) rfl) | (apply OV_idxS; exact rfl; exact rfl; exact rfl; exact rfl; exact rfl; assumption; exact rfl; first | assumption | omega)); exact (by repeat' (first | exact trivial | apply And.intro | exact List.Mem.head _ | apply List.Mem.tail))) | (apply GOl_to; exact rfl; exact rfl; exact rfl; (first | (apply OpTo_store; exact rfl; exact rfl; exact rfl; exact (by (repeat (first | exact Repl.here | apply Repl.there)); done); exact rfl; exact rfl; exact rfl; skip) | (apply OpTo_alloc; exact rfl; intro b; skip) | (refine OpTo_perm (List.perm_append_comm (l₁ := [_])) ?_; apply OpTo_yield (Es0 := Es1) (Fs := [_]); exact rfl; exact rfl; exact rfl; exact (hyA (by omega)).2 _ (by unfold toOf; split <;> (try split) <;> first | rfl | (exfalso; omega)); rintro v E2 h2 hle2 (⟨rfl, hP⟩ | ⟨rfl, hP⟩); all_goals skip) | (apply OpTo_val; exact rfl; exact has81; exact moves_c _ _; skip))) | (apply GO_cond; exact rfl; all_goals intro hc; all_goals try simp only [ltI_t, ltI_f, leI_t, leI_f, eqI_t, eqI_f, Bool.not_eq_true', Bool.not_eq_false', decide_eq_true_eq, decide_eq_false_iff_not, reduceCtorEq] at hc; all_goals try (exfalso; omega)) | (apply GOl_split; exact rfl; exact rfl; all_goals intro hc; all_goals try simp only [ltI_t, ltI_f, leI_t, leI_f, eqI_t, eqI_f, Bool.not_eq_true', Bool.not_eq_false', decide_eq_true_eq, decide_eq_false_iff_not, reduceCtorEq] at hc; all_goals try (exfalso; omega)))
    all_goals first
      | (have h3 := ih (k + 1, E2, h2) ⟨by show k + 1 ≤ n; omega, hlk.trans hle2, hP⟩ (by show n - (k + 1) < n - k; omega)
         refine GO_perm (List.perm_append_comm (l₁ := E2) (l₂ := [_])) (GO_drop .here ?_)
         exact GO_keep (by (repeat (first | exact trivial | refine ⟨rfl, ?_⟩)); done) h3)
      | (have h4 : (l.getD k e0).kind ≤ 4 := by omega
         refine GO_retS (rs := []) (vs := []) (Fs := E2) rfl rfl trivial (List.sublist_append_left _ _) (.inr ⟨movesL (l.take (k + 1)), movesL (l.drop (k + 1)), ?_, hP⟩)
         rw [et, movesL_snoc, if_pos h4, (hyA h4).1]; simp)
      | (have h4 : ¬ (l.getD k e0).kind ≤ 4 := by omega
         have h3 := ih (k + 1, Es1, hk) ⟨by show k + 1 ≤ n; omega, hlk, by show I (movesL (l.take (k + 1))) _ _; rw [et, movesL_snoc, if_neg h4]; exact hI⟩ (by show n - (k + 1) < n - k; omega)
         refine GO_drop .here ?_
         exact GO_keep (by (repeat (first | exact trivial | refine ⟨rfl, ?_⟩)); done) h3)
  · have ht : l.take k = l := List.take_of_length_le (by omega)
    rw [ht] at hI
    exact GO_end (rs := []) (vs := []) rfl rfl trivial (.inl hI)


open Classical in
theorem regMoves_n (h : Ro) (s : Rsh) (r : Reg) (hr : RegAt h s r) : Res Tryz.prog 14 #[regV r.league r.day s] h (fun v h' => if RegGood r then ∃ A c, v = .tuple #[.slice A (movesL r.ents).length c, .int .i64 0] ∧ (movesL r.ents).length ≤ c ∧ SlOf encM 82 h' A (movesL r.ents).length (movesL r.ents) else v = .tuple #[.slice none 0 0, .int .i64 360]) := by
  refine Res_intro (args := [_]) ts_ok Go.Proofs.Tryz.func14 rfl rfl fun w0 X0 => ?_
  have hlen := hr.ents.len
  have hne := hr.ne
  have hml := movesL_len r.ents
  by_cases hg : RegGood r
  · repeat' (first | apply GO_seq | apply GO_skip | apply GO_block | apply GO_region | apply GOl_nil | (apply GOl_pv; exact rfl; exact rfl; exact rfl) | (apply GOl_load; exact rfl; exact Ld_blk rfl (by (repeat (first | exact List.Mem.head _ | apply List.Mem.tail)); done) rfl; exact rfl; exact rfl) | (apply GOl_to; exact rfl; exact rfl; exact rfl; (first | (apply OpTo_box; exact rfl; intro b; skip) | (apply OpTo_alloc; exact rfl; intro b; skip) | (apply OpTo_val; exact rfl; exact has38; (have := check_c h s r hr; rw [if_pos hg] at this; exact this); skip) | (apply OpTo_res; exact rfl; exact has39; exact steps_c _ _ s.ae s.ne s.ce rfl; rintro vr hs1 hle1 ⟨bx, rfl, hcb⟩; skip))) | (apply GO_cond; exact rfl; all_goals intro hc; all_goals try simp only [ltI_t, ltI_f, leI_t, leI_f, eqI_t, eqI_f, Bool.not_eq_true', Bool.not_eq_false', decide_eq_true_eq, decide_eq_false_iff_not, reduceCtorEq] at hc; all_goals try (exfalso; omega)))
    rename_i b0
    generalize b = bT
    refine GO_nilS 55 82 ?_
    refine GO_take (Es' := [Blk bT 22 [.slice none 0 0], OwnS 55 82 (.slice none 0 0) 0 [], Blk b0 61 (partL (regV r.league r.day s))]) (by (repeat (first | exact Takes_nil | (apply Takes_cons; exact (by (repeat (first | exact Take.here | apply Take.there)); done)))); done) ?_
    refine GO_rangeFunc (enc := encM1) (xs := movesL r.ents) (gf := 80) (lb := [.pointer (some ⟨bx, 0, none⟩)]) rfl rfl has80 (stepsSeq _ bx _ _ _ _ hcb (hr.ents.le hle1) hr.ne) (fun _ => rfl) rfl
      (fun pre Es _ => ∃ A c, Es = [Blk bT 22 [.slice A pre.length c], OwnS 55 82 (.slice A pre.length c) pre.length (pre.flatMap encM), Blk b0 61 (partL (regV r.league r.day s))]) (fun _ _ _ _ => False)
      (fun _ _ _ _ _ h => h) (fun _ _ _ _ _ _ h => h.elim) ⟨none, 0, rfl⟩ ?_ ?_ (fun _ _ _ _ _ _ _ _ h => h.elim)
    · rintro lid r0 w1 X1 pre x post Es1 h1 hx ⟨A, c, rfl⟩ hle hst
      have hpl : pre.length + 1 ≤ (movesL r.ents).length := by rw [hx]; simp
      repeat' (first | apply GO_inBlock | apply GO_block | apply GO_region | apply GOl_nil | (apply GO_begin; exact rfl; exact (by (repeat (first | exact Take.here | apply Take.there)); done); exact hst) | (apply GOl_load; exact rfl; exact Ld_blk rfl (by (repeat (first | exact List.Mem.head _ | apply List.Mem.tail)); done) rfl; exact rfl; exact rfl) | (apply GOl_to; exact rfl; exact rfl; exact rfl; (first | (apply OpTo_store; exact rfl; exact rfl; exact rfl; exact (by (repeat (first | exact Repl.here | apply Repl.there)); done); exact rfl; exact rfl; exact rfl; skip) | (apply OpTo_alloc; exact rfl; intro b; skip) | (apply OpTo_buildSliceS (enc := encM) (n := 1) [x]; exact rfl; exact rfl; exact rfl; exact List.cons_ne_nil _ _; exact rfl; exact rfl; exact rfl; exact rfl; exact encM_len; exact rfl; exact rfl; intro b1 h1 hle1 hs1; skip) | (apply OpTo_appendS (enc := encM) (xs := pre); exact rfl; exact rfl; exact rfl; exact rfl; exact rfl; exact rfl; exact rfl; exact hs1; exact encM_len; exact fun _ => allOne_ok rfl; intro v1; exact (by (repeat (first | exact Repl.here | apply Repl.there)); done); omega; exact rfl; intro A1 c1; skip))))
      refine GO_take (Es' := [LoopA lid { r0 with state := .busy }, Blk bT 22 [.slice A1 (pre.length + 1) c1], OwnS 55 82 (.slice A1 (pre.length + 1) c1) (pre.length + 1) ((pre ++ [x]).flatMap encM), Blk b0 61 (partL (regV r.league r.day s))]) (by (repeat (first | exact Takes_nil | (apply Takes_cons; exact (by (repeat (first | exact Take.here | apply Take.there)); done)))); done) (GO_rEnd (r0 := r0) rfl .here ⟨A1, c1, ?_⟩)
      rw [List.length_append]; rfl
    · rintro D h1 Es1 hle ⟨A, c, rfl⟩
      repeat' (first | apply GO_seq | apply GO_inBlock | apply GO_region | apply GOl_nil | (apply GOl_pv; exact rfl; exact rfl; exact rfl) | (apply GOl_load; exact rfl; exact Ld_blk rfl (by (repeat (first | exact List.Mem.head _ | apply List.Mem.tail)); done) rfl; exact rfl; exact rfl) | (apply GOl_to; exact rfl; exact rfl; exact rfl; (first | (apply OpTo_store; exact rfl; exact rfl; exact rfl; exact (by (repeat (first | exact Repl.here | apply Repl.there)); done); exact rfl; exact rfl; exact rfl; skip))))
      refine GO_relC (enc := encM) (e := 55) (sz := 82) encM_len rfl (by (repeat (first | exact Take.here | apply Take.there)); done) ?_
      intro A2 c2 h2 hle2 e2 hnc2 hs2
      injection e2 with e21 _ e23
      subst e21; subst e23
      refine GO_rt (Rt_mark rfl (by (repeat (first | exact Take.here | apply Take.there)); done) (Rt_S (rs := [.cell 2 22, .tmp 3]) (vs := [.slice A (movesL r.ents).length c, .int .i64 0]) rfl rfl ⟨⟨_, rfl, Ld_blk rfl (by (repeat (first | exact List.Mem.head _ | apply List.Mem.tail)); done) rfl⟩, rfl, trivial⟩ (List.nil_sublist _) ⟨rfl, ?_⟩))
      show if RegGood r then _ else _
      rw [if_pos hg]
      exact ⟨A, c, rfl, hnc2, hs2⟩
  · repeat' (first | apply GO_seq | apply GO_region | apply GOl_nil | (apply GOl_pv; exact rfl; exact rfl; exact rfl) | (apply GOl_load; exact rfl; exact Ld_blk rfl (by (repeat (first | exact List.Mem.head _ | apply List.Mem.tail)); done) rfl; exact rfl; exact rfl) | (apply GOl_to; exact rfl; exact rfl; exact rfl; (first | (apply OpTo_store; exact rfl; exact rfl; exact rfl; exact (by (repeat (first | exact Repl.here | apply Repl.there)); done); exact rfl; exact rfl; exact rfl; skip) | (apply OpTo_box; exact rfl; intro b; skip) | (apply OpTo_alloc; exact rfl; intro b; skip) | (apply OpTo_val; exact rfl; exact has38; (have := check_c h s r hr; rw [if_neg hg] at this; exact this); skip))) | (apply GO_cond; exact rfl; all_goals intro hc; all_goals try simp only [ltI_t, ltI_f, leI_t, leI_f, eqI_t, eqI_f, Bool.not_eq_true', Bool.not_eq_false', decide_eq_true_eq, decide_eq_false_iff_not, reduceCtorEq] at hc; all_goals try (exfalso; omega)) | (apply GO_retRC2; exact rfl; exact rfl; exact rfl; exact (by (repeat (first | exact List.Mem.head _ | apply List.Mem.tail)); done); exact rfl; exact rfl; exact rfl))
    rw [if_neg hg]
open Classical in
theorem regMoves_c (h : Ro) (s : Rsh) (r : Reg) (hr : RegAt h s r) : Res Tryz.prog 14 #[regV r.league r.day s] h (fun v h' => if RegGood r then ∃ A c, v = .tuple #[.slice A (movesL r.ents).length c, .int .i64 0] ∧ SlOf encM 82 h' A (movesL r.ents).length (movesL r.ents) else v = .tuple #[.slice none 0 0, .int .i64 360]) :=
  Res.mono (regMoves_n h s r hr) fun v h' _ hp => by
    split
    · rename_i hg
      rw [if_pos hg] at hp
      obtain ⟨A, c, h1, _, h2⟩ := hp
      exact ⟨A, c, h1, h2⟩
    · rename_i hg
      rw [if_neg hg] at hp; exact hp
end Go.Hw
set_option linter.unusedVariables false
set_option linter.unusedSimpArgs false
set_option maxRecDepth 100000
set_option maxHeartbeats 1600000
namespace Go.Hw
open Go
attribute [local irreducible] GO GOl GDp Val Fn Res CellsAt ValE Blk OwnS MapA RngA
open Go.Proofs (Tryz.prog)

theorem insA_lenW {κ α : Type} [DecidableEq κ] (x : κ) (a : α) : ∀ (m : List (κ × α)), (insA x a m).length ≤ m.length + 1
  | [] => by simp [insA]
  | (y, b) :: r => by
    simp only [insA]; split
    · simp
    · simp only [List.length_cons]; have := insA_lenW x a r; omega
theorem mapOf_len (l : List Ent) : (mapOf l).length ≤ l.length := by
  induction l using rev_ind with
  | h0 => simp [mapOf]
  | h1 l x ih => rw [mapOf_snoc, List.length_append]; have := insA_lenW x.player (after ((lookA x.player (mapOf l)).getD st0) x) (mapOf l); simp; omega
theorem insA_keysW {κ α : Type} [DecidableEq κ] (x : κ) (a : α) : ∀ (m : List (κ × α)), (insA x a m).map (·.1) = if x ∈ m.map (·.1) then m.map (·.1) else m.map (·.1) ++ [x]
  | [] => by simp [insA]
  | (y, b) :: r => by
    by_cases h : y = x
    · simp [insA, h]
    · have := insA_keysW x a r
      have h' : ¬ x = y := fun e => h e.symm
      simp only [insA, if_neg h, List.map_cons, this, List.mem_cons, h', false_or]
      split <;> simp
theorem mapOf_keys (l : List Ent) : ((mapOf l).map (·.1)).Nodup ∧ ∀ p, p ∈ (mapOf l).map (·.1) ↔ ∃ x ∈ l, x.player = p := by
  induction l using rev_ind with
  | h0 => simp [mapOf]
  | h1 l x ih =>
    obtain ⟨h1, h2⟩ := ih
    rw [mapOf_snoc, insA_keysW]
    split
    · rename_i hx
      refine ⟨h1, fun p => ?_⟩
      rw [h2 p]
      constructor
      · rintro ⟨y, hy, e⟩; exact ⟨y, by simp [hy], e⟩
      · rintro ⟨y, hy, e⟩
        rcases List.mem_append.1 hy with hy | hy
        · exact ⟨y, hy, e⟩
        · have : y = x := by simpa using hy
          subst this; subst e; exact (h2 _).1 hx
    · rename_i hx
      refine ⟨?_, fun p => ?_⟩
      · rw [List.nodup_append]
        exact ⟨h1, by simp, fun a ha b hb e => by simp at hb; subst hb; subst e; exact hx ha⟩
      · rw [List.mem_append, h2 p]
        constructor
        · rintro (⟨y, hy, e⟩ | hp)
          · exact ⟨y, by simp [hy], e⟩
          · have : p = x.player := by simpa using hp
            exact ⟨x, by simp, this.symm⟩
        · rintro ⟨y, hy, e⟩
          rcases List.mem_append.1 hy with hy | hy
          · exact .inl ⟨y, hy, e⟩
          · have : y = x := by simpa using hy
            subst this; exact .inr (by simp [e])
theorem lookA_of_mem {κ α : Type} [DecidableEq κ] : ∀ {m : List (κ × α)}, (m.map (·.1)).Nodup → ∀ {q : κ × α}, q ∈ m → lookA q.1 m = some q.2
  | (y, b) :: r, hn, q, hq => by
    rw [List.map_cons, List.nodup_cons] at hn
    rcases List.mem_cons.1 hq with rfl | hq
    · simp [lookA]
    · have hne : y ≠ q.1 := fun e => hn.1 (by rw [e]; exact List.mem_map.2 ⟨q, hq, rfl⟩)
      rw [lookA, if_neg hne]; exact lookA_of_mem hn.2 hq
theorem mapOf_mem {l : List Ent} {q : Int × Sta} (h : q ∈ mapOf l) : q.2 = ofL l q.1 := by
  rw [← mapOf_look, lookA_of_mem (mapOf_keys l).1 h]; rfl

def okS (club : Int) (q : Int × Sta) : Bool := decide (q.2.owner ≠ -1 ∧ (if q.2.borrower ≠ -1 then q.2.borrower else q.2.owner) = club)

/-- Two strictly increasing lists with the same elements are one. -/
theorem incr_ext : ∀ {a b : List Int}, a.Pairwise (· < ·) → b.Pairwise (· < ·) → (∀ x, x ∈ a ↔ x ∈ b) → a = b
  | [], [], _, _, _ => rfl
  | [], y :: b, _, _, h => by have := (h y).2 (.head _); cases this
  | x :: a, [], _, _, h => by have := (h x).1 (.head _); cases this
  | x :: a, y :: b, ha, hb, h => by
    rw [List.pairwise_cons] at ha hb
    have hxy : x = y := by
      rcases List.mem_cons.1 ((h x).1 (.head _)) with e | e
      · exact e
      · have h1 := hb.1 x e
        rcases List.mem_cons.1 ((h y).2 (.head _)) with e2 | e2
        · exact e2.symm
        · have h2 := ha.1 y e2; omega
    subst hxy
    congr 1
    refine incr_ext ha.2 hb.2 fun z => ⟨fun hz => ?_, fun hz => ?_⟩
    · rcases List.mem_cons.1 ((h z).1 (.tail _ hz)) with e | e
      · have := ha.1 z hz; omega
      · exact e
    · rcases List.mem_cons.1 ((h z).2 (.tail _ hz)) with e | e
      · have := hb.1 z hz; omega
      · exact e
theorem insL_mem (p : Int) : ∀ (l : List Int) (x : Int), x ∈ insL p l ↔ x = p ∨ x ∈ l
  | [], x => by simp [insL]
  | a :: r, x => by
    simp only [insL]; split
    · rw [List.mem_cons, insL_mem p r x, List.mem_cons]
      constructor
      · rintro (h | h | h)
        · exact .inr (.inl h)
        · exact .inl h
        · exact .inr (.inr h)
      · rintro (h | h | h)
        · exact .inr (.inl h)
        · exact .inl h
        · exact .inr (.inr h)
    · simp
theorem insL_incr (p : Int) : ∀ {l : List Int}, l.Pairwise (· < ·) → p ∉ l → (insL p l).Pairwise (· < ·)
  | [], _, _ => by simp [insL]
  | a :: r, h, hp => by
    have h' := List.pairwise_cons.1 h
    simp only [List.mem_cons, not_or] at hp
    simp only [insL]; split
    · rename_i hlt
      refine List.pairwise_cons.2 ⟨fun x hx => ?_, insL_incr p h'.2 hp.2⟩
      rcases (insL_mem p r x).1 hx with rfl | hx
      · exact hlt
      · exact h'.1 x hx
    · refine List.pairwise_cons.2 ⟨fun x hx => ?_, h⟩
      rcases List.mem_cons.1 hx with rfl | hx
      · omega
      · have := h'.1 x hx; omega
theorem squadL_spec (r : Reg) (club : Int) (l : List Ent) : (l.foldl (sqStep r club) []).Pairwise (· < ·) ∧ ∀ p, p ∈ l.foldl (sqStep r club) [] ↔ (∃ x ∈ l, x.player = p) ∧ (regClub r p).2.2 = true ∧ (regClub r p).2.1 = club := by
  induction l using rev_ind with
  | h0 => simp
  | h1 l x ih =>
    obtain ⟨h1, h2⟩ := ih
    rw [List.foldl_append, List.foldl_cons, List.foldl_nil, sqStep]
    split
    · rename_i hc
      obtain ⟨c1, c2, c3⟩ := hc
      refine ⟨insL_incr _ h1 c3, fun p => ?_⟩
      rw [insL_mem, h2 p]
      constructor
      · rintro (rfl | ⟨⟨y, hy, e⟩, hp⟩)
        · exact ⟨⟨x, by simp, rfl⟩, c1, c2⟩
        · exact ⟨⟨y, by simp [hy], e⟩, hp⟩
      · rintro ⟨⟨y, hy, e⟩, hp⟩
        rcases List.mem_append.1 hy with hy | hy
        · exact .inr ⟨⟨y, hy, e⟩, hp⟩
        · have : y = x := by simpa using hy
          subst this; exact .inl e.symm
    · rename_i hc
      refine ⟨h1, fun p => ?_⟩
      rw [h2 p]
      constructor
      · rintro ⟨⟨y, hy, e⟩, hp⟩; exact ⟨⟨y, by simp [hy], e⟩, hp⟩
      · rintro ⟨⟨y, hy, e⟩, hp⟩
        refine ⟨?_, hp⟩
        rcases List.mem_append.1 hy with hy | hy
        · exact ⟨y, hy, e⟩
        · have : y = x := by simpa using hy
          subst this; subst e
          by_cases hm : y.player ∈ l.foldl (sqStep r club) []
          · exact ((h2 _).1 hm).1
          · exact absurd ⟨hp.1, hp.2, hm⟩ hc
theorem regClub_good {r : Reg} (hg : RegGood r) (p : Int) (club : Int) : (regClub r p).2.2 = true ∧ (regClub r p).2.1 = club ↔ okS club (p, ofL r.ents p) = true := by
  unfold regClub okS
  by_cases h : (ofL r.ents p).owner ≠ -1
  · rw [if_pos ⟨hg, h⟩]; simp [h]
  · rw [if_neg (fun e => h e.2)]; simp only [ne_eq, Decidable.not_not] at h; simp [h]
theorem squad_sorted {r : Reg} (hg : RegGood r) (club : Int) {L : List Int} (hp : L.Perm (((mapOf r.ents).filter (okS club)).map (·.1))) : sortI L = squadL r club := by
  obtain ⟨hk1, hk2⟩ := mapOf_keys r.ents
  obtain ⟨hs1, hs2⟩ := squadL_spec r club r.ents
  have hpm : (sortI L).Perm L := List.mergeSort_perm L _
  have hnd : (((mapOf r.ents).filter (okS club)).map (·.1)).Nodup := by
    refine List.Pairwise.map _ (fun a b h => h) ?_
    have := List.pairwise_map.1 hk1
    exact this.filter _
  have hsn : (sortI L).Nodup := (hpm.trans hp).nodup_iff.2 hnd
  have hle : (sortI L).Pairwise (fun a b => decide (a ≤ b) = true) := List.pairwise_mergeSort (fun a b c h1 h2 => by simp at *; omega) (fun a b => by simp; omega) L
  have hlt : (sortI L).Pairwise (· < ·) := by
    have h2 := hle.and hsn
    exact h2.imp fun {a b} ⟨q1, q2⟩ => by simp at q1; omega
  refine incr_ext hlt hs1 fun p => ?_
  rw [(hpm.trans hp).mem_iff]
  show _ ↔ p ∈ r.ents.foldl (sqStep r club) []
  rw [hs2 p, regClub_good hg, List.mem_map, ← hk2 p]
  constructor
  · rintro ⟨q, hq, rfl⟩
    rw [List.mem_filter] at hq
    refine ⟨List.mem_map.2 ⟨q, hq.1, rfl⟩, ?_⟩
    rw [← mapOf_mem hq.1]; exact hq.2
  · rintro ⟨hm, ho⟩
    obtain ⟨q, hq, rfl⟩ := List.mem_map.1 hm
    refine ⟨q, List.mem_filter.2 ⟨hq, ?_⟩, rfl⟩
    have := mapOf_mem hq
    rw [← this] at ho; exact ho
theorem squad_bad {r : Reg} (hg : ¬ RegGood r) (club : Int) : squadL r club = [] := by
  obtain ⟨_, hs2⟩ := squadL_spec r club r.ents
  refine List.eq_nil_iff_forall_not_mem.2 fun p hp => ?_
  have := ((hs2 p).1 hp).2.1
  rw [regClub, if_neg (fun h => hg h.1)] at this; cases this
end Go.Hw
set_option linter.unusedVariables false
set_option linter.unusedSimpArgs false
set_option maxRecDepth 100000
set_option maxHeartbeats 1600000
namespace Go.Hw
open Go
attribute [local irreducible] GO GOl GDp Val Fn Res CellsAt ValE Blk OwnS MapA RngA
open Go.Proofs (Tryz.prog)

/-- The library's sort. -/
def SortSaid : Prop := ∀ (e : TypeId) (v : Value) (xs : List Int) (n : Nat) (h : Ro), n ≤ 1000000000 → xs.length = n → Fn Tryz.prog 79 #[v] [OwnS e 1 v n (xs.flatMap encI)] h fun u Es _ => u = .tuple #[] ∧ Es = [OwnS e 1 v n ((sortI xs).flatMap encI)]

theorem perm_yes {club : Int} {out : List Int} {r1 r2 : List (Int × Sta)} {q : Int × Sta} {T : List Int} (h : (out ++ ((r1 ++ q :: r2).filter (okS club)).map (·.1)).Perm T) (ho : okS club q = true) : ((out ++ [q.1]) ++ ((r1 ++ r2).filter (okS club)).map (·.1)).Perm T := by
  refine List.Perm.trans ?_ h
  simp only [List.filter_append, List.filter_cons, ho, if_true, List.map_append, List.map_cons, List.append_assoc, List.singleton_append]
  exact List.Perm.append_left _ List.perm_middle.symm
theorem perm_no {club : Int} {out : List Int} {r1 r2 : List (Int × Sta)} {q : Int × Sta} {T : List Int} (h : (out ++ ((r1 ++ q :: r2).filter (okS club)).map (·.1)).Perm T) (ho : okS club q = false) : (out ++ ((r1 ++ r2).filter (okS club)).map (·.1)).Perm T := by
  simpa only [List.filter_append, List.filter_cons, ho, Bool.false_eq_true, if_false, List.map_append] using h


theorem regSquad_c (hS : SortSaid) (h : Ro) (s : Rsh) (r : Reg) (hr : RegAt h s r) (club : Int) : Res Tryz.prog 37 #[regV r.league r.day s, .int .i64 club] h (fun v h' => ∃ A c, v = .slice A (squadL r club).length c ∧ SlOf encI 1 h' A (squadL r club).length (squadL r club)) := by
  refine Res_intro (args := [_, _]) ts_ok Go.Proofs.Tryz.func37 rfl rfl fun w0 X0 => ?_
  have hlen := hr.ents.len
  have hne := hr.ne
  have hml := mapOf_len r.ents
  by_cases hg : RegGood r
  · have hopen : Fn Tryz.prog 40 #[regV r.league r.day s] [] h (fun v Es h' => ∃ bb mb A c, v = .tuple #[.pointer (some ⟨bb, 0, none⟩), .bool true] ∧ Es = Book bb mb r.league r.day s (.slice A r.ents.length c) (mapOf r.ents) r.ents) :=
      Fn.mono (open_c h s r hr) fun v Es h' hl hp => by
        rcases hp with ⟨_, q⟩ | ⟨hn, _⟩
        · exact q
        · exact absurd hg hn
    repeat' (first | apply GO_seq | apply GO_skip | apply GO_block | apply GO_region | apply GOl_nil | (apply GOl_pv; exact rfl; exact rfl; exact rfl) | (apply GOl_load; exact rfl; exact Ld_blk rfl (by (repeat (first | exact List.Mem.head _ | apply List.Mem.tail)); done) rfl; exact rfl; exact rfl) | (apply GOl_to; exact rfl; exact rfl; exact rfl; (first | (apply OpTo_box; exact rfl; intro b; skip) | (apply OpTo_callP; exact rfl; exact has40; exact hopen; exact (by (repeat (first | exact Takes_nil | (apply Takes_cons; exact (by (repeat (first | exact Take.here | apply Take.there)); done)))); done); rintro va Ea ha hla ⟨bb, mb, A, c, rfl, rfl⟩; skip) | (apply OpTo_range (ek := fun i : Int => .int .i64 i) (ev := staV); exact rfl; exact rfl; exact rfl; intro rr; exact (by (repeat (first | exact Repl.here | apply Repl.there)); done); intro rr; skip))) | (apply GO_cond; exact rfl; all_goals intro hc; all_goals try simp only [ltI_t, ltI_f, leI_t, leI_f, eqI_t, eqI_f, Bool.not_eq_true', Bool.not_eq_false', decide_eq_true_eq, decide_eq_false_iff_not, reduceCtorEq] at hc; all_goals try (exfalso; omega)))
    generalize b = bP
    refine GO_nilS 3 1 ?_
    refine GO_loopT (X := List Int × List (Int × Sta) × Option (Int × Sta) × Option Addr × Nat × Ro) (fun x => Le h x.2.2.2.2.2 ∧ (x.1 ++ (x.2.1.filter (okS club)).map (·.1)).Perm (((mapOf r.ents).filter (okS club)).map (·.1)) ∧ x.1.length + x.2.1.length ≤ (mapOf r.ents).length) (fun x => x.2.1.length)
      (fun x => [(20, .pointer (some ⟨rr, 0, none⟩)), (4, .slice x.2.2.2.1 x.1.length x.2.2.2.2.1), (1, .int .i64 club)])
      (fun x => [RngA (fun i => Value.int IntKind.i64 i) staV mb rr (mapOf r.ents) x.2.1 x.2.2.1, OwnS 3 1 (.slice x.2.2.2.1 x.1.length x.2.2.2.2.1) x.1.length (x.1.flatMap encI)]) (fun x => x.2.2.2.2.2) ([], mapOf r.ents, none, none, 0, ha) ⟨hla, .refl _, by simp⟩ (by (repeat (first | exact trivial | refine ⟨rfl, ?_⟩)); done) (by (repeat (first | exact Takes_nil | (apply Takes_cons; exact (by (repeat (first | exact Take.here | apply Take.there)); done)))); done) rfl ?_
    rintro ⟨out, rem, cur, A9, c9, hk⟩ ⟨hlk, hI, hln⟩ ih
    dsimp only at hlk hI hln ih ⊢
    repeat' (first | apply GO_seq | apply GO_skip | apply GO_inBlock | apply GO_block | apply GO_region | apply GOl_nil | (apply GO_exit; exact rfl) | (apply GOl_unwanted; exact rfl; exact rfl) | (apply GOl_pv; exact rfl; exact rfl; exact rfl) | (apply GOl_load; exact rfl; exact Ld_blk rfl (by (repeat (first | exact List.Mem.head _ | apply List.Mem.tail)); done) rfl; exact rfl; exact rfl) | (apply GOl_ov; exact rfl; exact rfl; (first | (apply OV_entry (ek := fun i : Int => .int .i64 i) (ev := staV) (b := mb) (m := mapOf r.ents) (rem := r1 ++ r2) (p := q); exact rfl)); exact (by repeat' (first | exact trivial | apply And.intro | exact List.Mem.head _ | apply List.Mem.tail))) | (apply GOl_to; exact rfl; exact rfl; exact rfl; (first | (apply OpTo_store; exact rfl; exact rfl; exact rfl; exact (by (repeat (first | exact Repl.here | apply Repl.there)); done); exact rfl; exact rfl; exact rfl; skip) | (apply OpTo_alloc; exact rfl; intro b; skip) | (apply OpTo_next; exact rfl; intro rem' cur'; exact (by (repeat (first | exact Repl.here | apply Repl.there)); done); intro hrem; rotate_left; intro q r1 r2 hrem; rotate_left; all_goals skip) | (apply OpTo_callP; exact rfl; exact has79; exact hS 3 _ out out.length hk (by omega) rfl; exact (by (repeat (first | exact Takes_nil | (apply Takes_cons; exact (by (repeat (first | exact Take.here | apply Take.there)); done)))); done); rintro vs Ea2 ha2 hla2 ⟨rfl, rfl⟩; skip) | (apply OpTo_buildSliceS (enc := encI) (n := 1) [_]; exact rfl; exact rfl; exact rfl; exact List.cons_ne_nil _ _; exact rfl; exact rfl; exact rfl; exact rfl; exact fun _ => rfl; exact rfl; exact rfl; intro b1 h1 hle1 hs1; skip) | (apply OpTo_appendS (enc := encI) (xs := out); exact rfl; exact rfl; exact rfl; exact rfl; exact rfl; exact rfl; exact rfl; exact hs1; exact fun _ => rfl; exact fun _ => allOne_ok rfl; intro v1; exact (by (repeat (first | exact Repl.here | apply Repl.there)); done); (have hq9 := congrArg List.length hrem; simp at hq9; omega); exact rfl; intro A1 c1; skip) | (apply OpTo_val; exact rfl; exact has43; exact plays_c _ _; skip))) | (apply GO_cond; exact rfl; all_goals intro hc; all_goals try simp only [ltI_t, ltI_f, leI_t, leI_f, eqI_t, eqI_f, Bool.not_eq_true', Bool.not_eq_false', decide_eq_true_eq, decide_eq_false_iff_not, reduceCtorEq] at hc; all_goals try (exfalso; omega)) | (apply GOl_split; exact rfl; exact rfl; all_goals intro hc; all_goals try simp only [ltI_t, ltI_f, leI_t, leI_f, eqI_t, eqI_f, Bool.not_eq_true', Bool.not_eq_false', decide_eq_true_eq, decide_eq_false_iff_not, reduceCtorEq] at hc; all_goals try (exfalso; omega)))
    · have hf := hI
      rw [hrem] at hf
      simp only [List.filter_nil, List.map_nil, List.append_nil] at hf
      have e := squad_sorted hg club hf
      have el := sortI_len out
      rw [e] at el ⊢
      refine GO_relC (enc := encI) (e := 3) (sz := 1) (n := out.length) (xs := squadL r club) (fun _ => rfl) el (by (repeat (first | exact Take.here | apply Take.there)); done) ?_
      intro A2 c2 h2 hle2 e2 hnc2 hs2
      injection e2 with e21 _ e23
      subst e21; subst e23
      (first | (apply GO_retR1; exact rfl; exact rfl; exact rfl))
      rw [el]
      exact ⟨A9, c9, rfl, hs2⟩
    all_goals
      have hq9 := congrArg List.length hrem
      simp only [List.length_append, List.length_cons] at hq9
      rw [hrem] at hI
    all_goals first
      | (have ho : okS club q = true := by unfold okS; simp only [ne_eq, decide_eq_true_eq]; exact ⟨by assumption, by assumption⟩
         have h2 := ih (out ++ [q.1], r1 ++ r2, some q, A1, c1, h1) ⟨hlk.trans hle1, perm_yes hI ho, by simp; omega⟩ (by simp; omega)
         dsimp only at h2
         rw [List.length_append] at h2
         refine GO_fit (by (repeat (first | exact trivial | refine ⟨rfl, ?_⟩)); done) (by (repeat (first | exact Takes_nil | (apply Takes_cons; exact (by (repeat (first | exact Take.here | apply Take.there)); done)))); done) (h2))
      | (have ho : okS club q = false := by unfold okS; simp only [ne_eq, decide_eq_false_iff_not]; rintro ⟨z1, z2⟩; contradiction
         have h2 := ih (out, r1 ++ r2, some q, A9, c9, hk) ⟨hlk, perm_no hI ho, by simp; omega⟩ (by simp; omega)
         refine GO_fit (by (repeat (first | exact trivial | refine ⟨rfl, ?_⟩)); done) (by (repeat (first | exact Takes_nil | (apply Takes_cons; exact (by (repeat (first | exact Take.here | apply Take.there)); done)))); done) (h2))
  · have hopen : Fn Tryz.prog 40 #[regV r.league r.day s] [] h (fun v Es h' => ∃ p, v = .tuple #[.pointer p, .bool false] ∧ Es = []) :=
      Fn.mono (open_c h s r hr) fun v Es h' hl hp => by
        rcases hp with ⟨hn, _⟩ | ⟨_, q⟩
        · exact absurd hn hg
        · exact q
    repeat' (first | apply GO_seq | apply GO_region | apply GOl_nil | (apply GOl_pv; exact rfl; exact rfl; exact rfl) | (apply GOl_load; exact rfl; exact Ld_blk rfl (by (repeat (first | exact List.Mem.head _ | apply List.Mem.tail)); done) rfl; exact rfl; exact rfl) | (apply GOl_to; exact rfl; exact rfl; exact rfl; (first | (apply OpTo_box; exact rfl; intro b; skip) | (apply OpTo_callP; exact rfl; exact has40; exact hopen; exact (by (repeat (first | exact Takes_nil | (apply Takes_cons; exact (by (repeat (first | exact Take.here | apply Take.there)); done)))); done); rintro va Ea ha hla ⟨p, rfl, rfl⟩; skip))) | (apply GO_cond; exact rfl; all_goals intro hc; all_goals try simp only [ltI_t, ltI_f, leI_t, leI_f, eqI_t, eqI_f, Bool.not_eq_true', Bool.not_eq_false', decide_eq_true_eq, decide_eq_false_iff_not, reduceCtorEq] at hc; all_goals try (exfalso; omega)) | (apply GO_retR1; exact rfl; exact rfl; exact rfl))
    rw [squad_bad hg]
    exact ⟨none, 0, rfl, SlOf.nil⟩
end Go.Hw
set_option linter.unusedVariables false
set_option linter.unusedSimpArgs false
set_option maxRecDepth 100000
set_option maxHeartbeats 1600000
namespace Go.Hw
open Go
attribute [local irreducible] GO GOl GDp Val Fn Res CellsAt ValE Blk OwnS MapA RngA
open Go.Proofs (Tryz.prog)

def r0 : Reg := ⟨0, [1, 2], 0, []⟩
def x5 : Ent := ⟨1, 5, 5, 1, 0, 0, 0⟩
def xa : Ent := ⟨2, 5, 5, 1, 0, 0, 0⟩
def xb : Ent := ⟨5, 5, 5, 1, 0, 0, 7⟩
def xc : Ent := ⟨3, 6, 5, 1, 2, 9, 0⟩
def xd : Ent := ⟨5, 6, 5, 1, 0, 0, 7⟩
def r1 : Reg := ⟨0, [1, 2], 5, [x5]⟩
def r2 : Reg := ⟨0, [1, 2], 6, [x5, xc]⟩
def r3 : Reg := ⟨0, [1, 2], 6, [x5, xd]⟩
theorem open12 : OpenOk 0 [1, 2] := by
  refine ⟨by omega, by omega, fun i hi => ?_, by simp, by simp⟩
  have : i = 0 ∨ i = 1 := by simp at hi; omega
  rcases this with rfl | rfl <;> simp
theorem good0 : RegGood r0 := ⟨open12, rfl⟩
theorem good1 : RegGood r1 := ⟨open12, by decide⟩
theorem good2 : RegGood r2 := ⟨open12, by decide⟩
theorem good3 : RegGood r3 := ⟨open12, by decide⟩
theorem badNil : ¬ RegGood reg0 := fun h => by have := h.1.2.2.2.1; simp [reg0] at this
theorem q1 : regEnter r0 e0 = (reg0, 360) := by rw [regEnter, if_pos good0, if_neg (by decide)]; congr 1
theorem q2 : regEnter r0 x5 = (r1, 0) := by rw [regEnter, if_pos good0, if_pos (by decide)]; rfl
theorem q3 : regEnter r1 xa = (reg0, 362) := by rw [regEnter, if_pos good1, if_neg (by decide)]; congr 1
theorem q4 : regEnter r1 xb = (reg0, 362) := by rw [regEnter, if_pos good1, if_neg (by decide)]; congr 1
theorem q5 : regEnter r1 xc = (r2, 0) := by rw [regEnter, if_pos good1, if_pos (by decide)]; rfl
theorem q6 : regEnter r1 xd = (r3, 0) := by rw [regEnter, if_pos good1, if_pos (by decide)]; rfl
theorem q7 : regClub r0 5 = (0, 0, false) := by rw [regClub, if_neg]; rintro ⟨_, h⟩; exact h (by decide)
theorem q8 : regClub r2 5 = (1, 2, true) := by rw [regClub, if_pos ⟨good2, by decide⟩]; decide
theorem q9 : regLocked r3 5 = (7, true) := by rw [regLocked, if_pos ⟨good3, by decide⟩]; decide
theorem q10 : squadL r2 2 = [5] := by
  have h1 : (regClub r2 5).2.2 = true ∧ (regClub r2 5).2.1 = 2 := by rw [q8]; simp
  simp [squadL, r2, sqStep, x5, xc] at h1 ⊢
  simp [h1, insL]
theorem q11 : squadL r2 1 = [] := by
  have h1 : (regClub r2 5).2.1 = 2 := by rw [q8]
  simp [squadL, r2, sqStep, x5, xc] at h1 ⊢
  simp [h1]
theorem q12 : movesL r3.ents = [⟨5, 5, 1⟩] := by decide
theorem enterAt {r : Reg} {x : Ent} {q : Reg × Int} (e : regEnter r x = q) (h : Ro) (s : Rsh) (hr : RegAt h s r) : Res Tryz.prog 33 #[regV r.league r.day s, entV x] h (regR q) := e ▸ regEnter_c h s r hr x
theorem clubAt {r : Reg} {p : Int} {q : Int × Int × Bool} (e : regClub r p = q) (h : Ro) (s : Rsh) (hr : RegAt h s r) : Val Tryz.prog 15 #[regV r.league r.day s, .int .i64 p] h (.tuple #[.int .i64 q.1, .int .i64 q.2.1, .bool q.2.2]) := e ▸ regClub_c h s r hr p
theorem lockedAt {r : Reg} {p : Int} {q : Int × Bool} (e : regLocked r p = q) (h : Ro) (s : Rsh) (hr : RegAt h s r) : Val Tryz.prog 35 #[regV r.league r.day s, .int .i64 p] h (.tuple #[.int .i64 q.1, .bool q.2]) := e ▸ regLocked_c h s r hr p
theorem squadAt (hS : SortSaid) {r : Reg} {c : Int} {q : List Int} (e : squadL r c = q) (h : Ro) (s : Rsh) (hr : RegAt h s r) : Res Tryz.prog 37 #[regV r.league r.day s, .int .i64 c] h (fun v h' => ∃ A c, v = .slice A q.length c ∧ SlOf encI 1 h' A q.length q) := e ▸ regSquad_c hS h s r hr c
theorem movesAt {r : Reg} {q : List Mv} (hg : RegGood r) (e : movesL r.ents = q) (h : Ro) (s : Rsh) (hr : RegAt h s r) : Res Tryz.prog 14 #[regV r.league r.day s] h (fun v h' => ∃ A c, v = .tuple #[.slice A q.length c, .int .i64 0] ∧ SlOf encM 82 h' A q.length q) := by
  have := regMoves_c h s r hr; simp only [if_pos hg] at this; exact e ▸ this
theorem movesBad {r : Reg} (hg : ¬ RegGood r) (h : Ro) (s : Rsh) (hr : RegAt h s r) : Res Tryz.prog 14 #[regV r.league r.day s] h (fun v h' => v = .tuple #[.slice none 0 0, .int .i64 360]) := by
  have := regMoves_c h s r hr; simp only [if_neg hg] at this; exact this
theorem checkBad {r : Reg} (hg : ¬ RegGood r) (h : Ro) (s : Rsh) (hr : RegAt h s r) : Val Tryz.prog 38 #[regV r.league r.day s] h (.int .i64 360) := by
  have := check_c h s r hr; simp only [if_neg hg] at this; exact this
theorem new8 (h : Ro) (A : Option Addr) (c : Nat) (hs : SlOf encI 1 h A 1 [1]) : Val Tryz.prog 32 #[.int .i64 8, .slice A 1 c] h (.tuple #[regV 0 0 shNil, .int .i64 360]) := by
  have := new_c h 8 A 1 c [1] hs (by omega); rw [if_neg (fun h => by have := h.2.1; omega)] at this; exact this
theorem new0 (h : Ro) (A : Option Addr) (c : Nat) (hs : SlOf encI 1 h A 2 [1, 2]) : Val Tryz.prog 32 #[.int .i64 0, .slice A 2 c] h (.tuple #[regV r0.league r0.day ⟨A, 2, c, none, 0, 0⟩, .int .i64 0]) := by
  have := new_c h 0 A 2 c [1, 2] hs (by omega); rw [if_pos open12] at this; exact this
theorem at0 (h : Ro) (A : Option Addr) (c : Nat) (hs : SlOf encI 1 h A 2 [1, 2]) : RegAt h ⟨A, 2, c, none, 0, 0⟩ r0 := ⟨hs, SlOf.nil, by simp, by simp⟩
end Go.Hw

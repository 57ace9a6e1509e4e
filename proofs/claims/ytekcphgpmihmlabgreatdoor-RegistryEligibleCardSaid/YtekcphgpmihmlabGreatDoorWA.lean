import Derived.Test.YtekcphgpmihmlabGreatDoorHB
import Derived.Test.YtekcphgpmihmlabGreatDoorVT
/-
  The registry's rules in plain terms.
-/
set_option linter.unusedVariables false
namespace Go.Hw
open Go

structure Ent where
  kind : Int
  day : Int
  player : Int
  club : Int
  other : Int
  upto : Int
  transfer : Int
deriving DecidableEq
structure Sta where
  owner : Int
  borrower : Int
  lock : Int
  day : Int
  left : Bool
deriving DecidableEq
structure Reg where
  league : Int
  clubs : List Int
  day : Int
  ents : List Ent
deriving DecidableEq

def encE (x : Ent) : List Value := [.int .i64 x.kind, .int .i64 x.day, .int .i64 x.player, .int .i64 x.club, .int .i64 x.other, .int .i64 x.upto, .int .i64 x.transfer]
def encS (s : Sta) : List Value := [.int .i64 s.owner, .int .i64 s.borrower, .int .i64 s.lock, .int .i64 s.day, .bool s.left]
def entV (x : Ent) : Value := .agg #[.int .i64 x.kind, .int .i64 x.day, .int .i64 x.player, .int .i64 x.club, .int .i64 x.other, .int .i64 x.upto, .int .i64 x.transfer]
def staV (s : Sta) : Value := .agg #[.int .i64 s.owner, .int .i64 s.borrower, .int .i64 s.lock, .int .i64 s.day, .bool s.left]
/-- Where a registry's lists lie. -/
structure Rsh where
  ac : Option Addr
  nc : Nat
  cc : Nat
  ae : Option Addr
  ne : Nat
  ce : Nat
def regV (league day : Int) (s : Rsh) : Value := .agg #[.int .i64 league, .slice s.ac s.nc s.cc, .int .i64 day, .slice s.ae s.ne s.ce]
structure RegAt (h : Ro) (s : Rsh) (r : Reg) : Prop where
  clubs : SlOf encI 1 h s.ac s.nc r.clubs
  ents : SlOf encE 7 h s.ae s.ne r.ents
  nc : s.nc ≤ 1000000000
  ne : s.ne ≤ 1000000000

def FieldOk (xs : List Int) : Prop := (∀ i, i < xs.length → 0 ≤ xs.getD i 0 ∧ xs.getD i 0 < 192 ∧ (0 < i → xs.getD (i-1) 0 < xs.getD i 0)) ∧ 1 ≤ xs.length ∧ xs.length ≤ 24
def OpenOk (league : Int) (clubs : List Int) : Prop := 0 ≤ league ∧ league < 8 ∧ FieldOk clubs

def st0 : Sta := ⟨-1, -1, -1, -1, false⟩
def after (s : Sta) (x : Ent) : Sta :=
  let t : Sta := if x.kind = 1 then { s with owner := x.club } else if x.kind = 2 then { s with owner := -1, lock := -1 } else if x.kind = 3 then { s with borrower := x.other }
    else if x.kind = 4 then { s with borrower := -1 } else if x.kind = 5 then { s with lock := x.transfer } else if x.kind = 6 then { s with lock := -1 } else s
  if x.kind ≤ 4 then { t with day := x.day, left := decide (x.kind = 2) } else t
def ofL (l : List Ent) (p : Int) : Sta := l.foldl (fun s x => if x.player = p then after s x else s) st0

def fits (s : Sta) (x : Ent) : Int :=
  if x.kind = 1 ∧ s.owner ≠ -1 then 361
  else if x.kind ≠ 1 ∧ s.owner = -1 then 360
  else if x.kind ≠ 1 ∧ s.owner ≠ x.club then 361
  else if x.kind = 4 ∧ s.borrower ≠ x.other then 360
  else if (x.kind = 3 ∨ x.kind = 2 ∨ x.kind = 5) ∧ s.borrower ≠ -1 then 360
  else if (x.kind = 3 ∨ x.kind = 5) ∧ s.lock ≠ -1 then 362
  else if x.kind = 6 ∧ s.lock ≠ x.transfer then 362
  else if x.kind = 2 ∧ max s.lock 0 ≠ x.transfer then 362
  else if s.day = x.day ∧ (x.kind = 2 ∨ x.kind = 3 ∨ x.kind = 4 ∨ x.kind = 5 ∨ (x.kind = 1 ∧ s.left = false)) then 362
  else 0

def ValidX (clubs : List Int) (day : Int) (x : Ent) : Prop :=
  0 ≤ x.day ∧ x.day ≤ 1048576 ∧ day ≤ x.day ∧ 0 ≤ x.player ∧ x.player < 8192 ∧ x.club ∈ clubs ∧
  (((x.kind = 1 ∨ x.kind = 2) ∧ ((1 ≤ x.transfer ∧ x.transfer ≤ 1048576) ∨ x.transfer = 0) ∧ x.other = 0 ∧ x.upto = 0) ∨
   (x.kind = 3 ∧ x.other ∈ clubs ∧ x.other ≠ x.club ∧ x.day ≤ x.upto ∧ x.upto ≤ 1048576 ∧ x.transfer = 0) ∨
   (x.kind = 4 ∧ x.other ∈ clubs ∧ x.other ≠ x.club ∧ x.upto = 0 ∧ x.transfer = 0) ∨
   ((x.kind = 5 ∨ x.kind = 6) ∧ (1 ≤ x.transfer ∧ x.transfer ≤ 1048576) ∧ x.other = 0 ∧ x.upto = 0))
instance (clubs : List Int) (day : Int) (x : Ent) : Decidable (ValidX clubs day x) := by unfold ValidX; infer_instance

/-- The error of one more entry. -/
def addE (clubs : List Int) (day : Int) (l : List Ent) (x : Ent) : Int :=
  if 65536 ≤ l.length then 2 else if ¬ ValidX clubs day x then 360 else fits (ofL l x.player) x
end Go.Hw
set_option linter.unusedVariables false
set_option linter.unusedSimpArgs false
set_option maxRecDepth 100000
namespace Go.Hw
open Go
attribute [local irreducible] GO GOl GDp Val Fn CellsAt
open Go.Proofs (Tryz.prog)


set_option maxHeartbeats 400000 in
open Classical in
theorem isField_c (h : Ro) (A : Option Addr) (n c : Nat) (xs : List Int) (hx : SlOf encI 1 h A n xs) (hn : n ≤ 1000000000) :
    Val Tryz.prog 77 #[.slice A n c] h (.bool (decide (FieldOk xs))) := by
  refine Val_intro (args := [.slice A n c]) ts_ok Go.Proofs.Tryz.func77 rfl rfl fun w0 X0 => ?_
  have hlen := hx.len
  repeat' (first | apply GO_seq | apply GO_block | apply GO_region | apply GOl_nil | (apply GOl_pv; exact rfl; exact rfl; exact rfl))
  refine GO_while (fun k => k ≤ n ∧ (∀ i, i < k → 0 ≤ xs.getD i 0 ∧ xs.getD i 0 < 192 ∧ (0 < i → xs.getD (i-1) 0 < xs.getD i 0))) (fun k => n - k) (fun k => [(7, .int .i64 k), (6, .int .i64 n), (5, .slice A n c), (0, .slice A n c)]) (fun _ => []) (fun _ => h) 0 ?_ ⟨rfl, rfl, rfl, rfl, trivial⟩ rfl rfl ?_
  · exact ⟨by omega, by intro i hi; omega⟩
  rintro k ⟨hk, hI⟩ ih
  repeat' (first | apply GO_seq | apply GO_skip | apply GO_block | apply GO_region | apply GOl_nil | (apply GO_exit; exact rfl) | (apply GOl_unwanted; exact rfl; exact rfl) | (apply GOl_pv; exact rfl; exact rfl; exact rfl) | (apply GO_cond; exact rfl; all_goals intro hc; all_goals try simp only [ltI_t, ltI_f, leI_t, leI_f, eqI_t, eqI_f, Bool.not_eq_true', Bool.not_eq_false', decide_eq_true_eq, decide_eq_false_iff_not, reduceCtorEq] at hc; all_goals try (exfalso; omega)) | (apply GOl_split; exact rfl; exact rfl; all_goals intro hc; all_goals try simp only [ltI_t, ltI_f, leI_t, leI_f, eqI_t, eqI_f, Bool.not_eq_true', Bool.not_eq_false', decide_eq_true_eq, decide_eq_false_iff_not, reduceCtorEq] at hc; all_goals try (exfalso; omega)) | (apply GO_retV1; exact rfl; exact rfl; exact rfl))
  · obtain ⟨ad, rfl⟩ := hx.addr (by omega)
    have hkn : k < n := by omega
    have c1 := hx.cells 0 hkn
    have c2 := hx.cells 0 (show k - 1 < n by omega)
    repeat' (first | apply GO_seq | apply GO_skip | apply GO_inBlock | apply GO_region | apply GOl_nil | (apply GOl_unwanted; exact rfl; exact rfl) | (apply GOl_add; exact rfl; exact rfl; exact rfl; omega; exact rfl; exact rfl) | (apply GOl_sub; exact rfl; exact rfl; exact rfl; omega; exact rfl; exact rfl) | (apply GOl_pv; exact rfl; exact rfl; exact rfl) | (apply GOl_ov; exact rfl; exact rfl; (first | (apply OV_idx; exact rfl; exact rfl; exact rfl; exact rfl; exact rfl; exact rfl; exact hkn) | (apply OV_idx (j := k - 1); exact rfl; exact rfl; exact rfl; exact rfl; exact rfl; omega; omega) | (apply OV_load; exact rfl; exact Lv_ro rfl c1 rfl) | (apply OV_load; exact rfl; exact Lv_ro rfl c2 rfl)); exact (by repeat' (first | exact trivial | apply And.intro | exact List.Mem.head _ | apply List.Mem.tail))) | (apply GO_cond; exact rfl; all_goals intro hc; all_goals try simp only [ltI_t, ltI_f, leI_t, leI_f, eqI_t, eqI_f, Bool.not_eq_true', Bool.not_eq_false', decide_eq_true_eq, decide_eq_false_iff_not, reduceCtorEq] at hc; all_goals try (exfalso; omega)) | (apply GOl_split; exact rfl; exact rfl; all_goals intro hc; all_goals try simp only [ltI_t, ltI_f, leI_t, leI_f, eqI_t, eqI_f, Bool.not_eq_true', Bool.not_eq_false', decide_eq_true_eq, decide_eq_false_iff_not, reduceCtorEq] at hc; all_goals try (exfalso; omega)) | (apply GO_retV1; exact rfl; exact rfl; exact rfl))
    all_goals first
      | (refine GO_keep ?_ (ih (k + 1) ⟨by omega, fun i hi => ?_⟩ (by omega)); exact ⟨rfl, rfl, rfl, rfl, trivial⟩
         by_cases hik : i = k
         · subst hik; refine ⟨by assumption, by assumption, fun h0 => ?_⟩; first | assumption | (exfalso; omega)
         · exact hI i (by omega))
      | (rw [decide_eq_false]; rintro ⟨h1, h2, h3⟩; have := h1 k (by omega); omega)
  · rw [leI_eq]; congr 1; apply decide_eq_decide.2
    exact ⟨fun h => ⟨fun i hi => hI i (by omega), by omega, by omega⟩, fun ⟨_, _, h⟩ => by omega⟩
  · rw [decide_eq_false]; rintro ⟨h1, h2, h3⟩; omega
end Go.Hw
set_option linter.unusedVariables false
set_option linter.unusedSimpArgs false
set_option maxRecDepth 100000
set_option maxHeartbeats 400000
namespace Go.Hw
open Go
attribute [local irreducible] GO GOl GDp Val Fn CellsAt
open Go.Proofs (Tryz.prog)

theorem busy_c (h : Ro) (b : Bool) : Val Tryz.prog 172 #[.bool b] h (.int .i64 (if b then 362 else 0)) := by
  refine Val_intro (args := [_]) ts_ok Go.Proofs.Tryz.func172 rfl rfl fun w0 X0 => ?_
  repeat' (first | apply GO_seq | apply GO_skip | apply GO_region | apply GOl_nil | (apply GOl_pv; exact rfl; exact rfl; exact rfl) | (apply GO_cond; exact rfl; all_goals intro hc; all_goals try simp only [ltI_t, ltI_f, leI_t, leI_f, eqI_t, eqI_f, Bool.not_eq_true', Bool.not_eq_false', decide_eq_true_eq, decide_eq_false_iff_not, reduceCtorEq] at hc; all_goals try (exfalso; omega)) | (apply GO_retV1; exact rfl; exact rfl; exact rfl))
  all_goals (subst hc; rfl)

theorem wrong_c (h : Ro) (b : Bool) : Val Tryz.prog 175 #[.bool b] h (.int .i64 (if b then 360 else 0)) := by
  refine Val_intro (args := [_]) ts_ok Go.Proofs.Tryz.func175 rfl rfl fun w0 X0 => ?_
  repeat' (first | apply GO_seq | apply GO_skip | apply GO_region | apply GOl_nil | (apply GOl_pv; exact rfl; exact rfl; exact rfl) | (apply GO_cond; exact rfl; all_goals intro hc; all_goals try simp only [ltI_t, ltI_f, leI_t, leI_f, eqI_t, eqI_f, Bool.not_eq_true', Bool.not_eq_false', decide_eq_true_eq, decide_eq_false_iff_not, reduceCtorEq] at hc; all_goals try (exfalso; omega)) | (apply GO_retV1; exact rfl; exact rfl; exact rfl))
  all_goals (subst hc; rfl)

theorem plays_c (h : Ro) (s : Sta) : Val Tryz.prog 43 #[staV s] h (.int .i64 (if s.borrower ≠ -1 then s.borrower else s.owner)) := by
  refine Val_intro (args := [_]) ts_ok Go.Proofs.Tryz.func43 rfl rfl fun w0 X0 => ?_
  repeat' (first | apply GO_seq | apply GO_skip | apply GO_region | apply GOl_nil | (apply GOl_pv; exact rfl; exact rfl; exact rfl) | (apply GOl_load; exact rfl; exact Ld_blk rfl (by (repeat (first | exact List.Mem.head _ | apply List.Mem.tail)); done) rfl; exact rfl; exact rfl) | (apply GOl_to; exact rfl; exact rfl; exact rfl; (first | (apply OpTo_box; exact rfl; intro b; skip))) | (apply GO_cond; exact rfl; all_goals intro hc; all_goals try simp only [ltI_t, ltI_f, leI_t, leI_f, eqI_t, eqI_f, Bool.not_eq_true', Bool.not_eq_false', decide_eq_true_eq, decide_eq_false_iff_not, reduceCtorEq] at hc; all_goals try (exfalso; omega)) | (apply GO_retV1; exact rfl; exact rfl; exact rfl))
  · rw [if_pos hc]
  · rw [if_neg (by omega)]

theorem unknown_c (h : Ro) : Val Tryz.prog 42 #[] h (staV st0) := by
  refine Val_intro (args := []) ts_ok Go.Proofs.Tryz.func42 rfl rfl fun w0 X0 => ?_
  repeat' (first | apply GO_seq | apply GO_region | apply GOl_nil | (apply GOl_pv; exact rfl; exact rfl; exact rfl) | (apply GOl_to; exact rfl; exact rfl; exact rfl; (first | (apply OpTo_store; exact rfl; exact rfl; exact rfl; exact (by (repeat (first | exact Repl.here | apply Repl.there)); done); exact rfl; exact rfl; exact rfl; skip) | (apply OpTo_alloc; exact rfl; intro b; skip))) | (apply GO_retC1; exact rfl; exact rfl; exact rfl; exact (by (repeat (first | exact List.Mem.head _ | apply List.Mem.tail)); done); exact rfl; exact rfl))
  rfl

theorem moves_c (h : Ro) (x : Ent) : Val Tryz.prog 81 #[entV x] h (.bool (decide (x.kind ≤ 4))) := by
  refine Val_intro (args := [_]) ts_ok Go.Proofs.Tryz.func81 rfl rfl fun w0 X0 => ?_
  repeat' (first | apply GO_seq | apply GO_region | apply GOl_nil | (apply GOl_pv; exact rfl; exact rfl; exact rfl) | (apply GOl_load; exact rfl; exact Ld_blk rfl (by (repeat (first | exact List.Mem.head _ | apply List.Mem.tail)); done) rfl; exact rfl; exact rfl) | (apply GOl_to; exact rfl; exact rfl; exact rfl; (first | (apply OpTo_box; exact rfl; intro b; skip))) | (apply GO_retV1; exact rfl; exact rfl; exact rfl))
  rw [leI_eq]

theorem owned_c (h : Ro) (s : Sta) (x : Ent) : Val Tryz.prog 174 #[staV s, entV x] h (.int .i64 (if s.owner = -1 then 360 else if s.owner ≠ x.club then 361 else 0)) := by
  refine Val_intro (args := [_, _]) ts_ok Go.Proofs.Tryz.func174 rfl rfl fun w0 X0 => ?_
  repeat' (first | apply GO_seq | apply GO_skip | apply GO_inBlock | apply GO_block | apply GO_region | apply GOl_nil | (apply GOl_pv; exact rfl; exact rfl; exact rfl) | (apply GOl_load; exact rfl; exact Ld_blk rfl (by (repeat (first | exact List.Mem.head _ | apply List.Mem.tail)); done) rfl; exact rfl; exact rfl) | (apply GOl_to; exact rfl; exact rfl; exact rfl; (first | (apply OpTo_box; exact rfl; intro b; skip))) | (apply GO_cond; exact rfl; all_goals intro hc; all_goals try simp only [ltI_t, ltI_f, leI_t, leI_f, eqI_t, eqI_f, Bool.not_eq_true', Bool.not_eq_false', decide_eq_true_eq, decide_eq_false_iff_not, reduceCtorEq] at hc; all_goals try (exfalso; omega)) | (apply GO_retV1; exact rfl; exact rfl; exact rfl))
  all_goals (first | (rw [if_pos (by omega)]; done) | (rw [if_neg (by omega), if_pos (by omega)]) | (rw [if_neg (by omega), if_neg (by omega)]))

def firstNZ : List Int → Int
  | [] => 0
  | a :: r => if a ≠ 0 then a else firstNZ r

theorem first_c (h : Ro) (A : Option Addr) (n c : Nat) (xs : List Int) (hx : SlOf encI 1 h A n xs) (hn : n ≤ 1000000000) :
    Val Tryz.prog 173 #[.slice A n c] h (.int .i64 (firstNZ xs)) := by
  refine Val_intro (args := [_]) ts_ok Go.Proofs.Tryz.func173 rfl rfl fun w0 X0 => ?_
  have hlen := hx.len
  repeat' (first | apply GO_seq | apply GO_block | apply GO_region | apply GOl_nil | (apply GOl_pv; exact rfl; exact rfl; exact rfl))
  refine GO_while (fun k => k ≤ n ∧ firstNZ (xs.drop k) = firstNZ xs) (fun k => n - k) (fun k => [(7, .int .i64 k), (6, .int .i64 n), (5, .slice A n c)]) (fun _ => []) (fun _ => h) 0 ?_ ⟨rfl, rfl, rfl, trivial⟩ rfl rfl ?_
  · exact ⟨by omega, rfl⟩
  rintro k ⟨hk, hI⟩ ih
  repeat' (first | apply GO_seq | apply GO_skip | apply GO_block | apply GO_region | apply GOl_nil | (apply GO_exit; exact rfl) | (apply GOl_pv; exact rfl; exact rfl; exact rfl) | (apply GO_cond; exact rfl; all_goals intro hc; all_goals try simp only [ltI_t, ltI_f, leI_t, leI_f, eqI_t, eqI_f, Bool.not_eq_true', Bool.not_eq_false', decide_eq_true_eq, decide_eq_false_iff_not, reduceCtorEq] at hc; all_goals try (exfalso; omega)) | (apply GO_retV1; exact rfl; exact rfl; exact rfl))
  · obtain ⟨ad, rfl⟩ := hx.addr (by omega)
    have hkn : k < n := by omega
    have c1 := hx.cells 0 hkn
    have hd : xs.drop k = xs.getD k 0 :: xs.drop (k + 1) := by
      rw [List.drop_eq_getElem_cons (by omega)]; simp [List.getD, List.getElem?_eq_getElem (show k < xs.length by omega)]
    repeat' (first | apply GO_seq | apply GO_skip | apply GO_inBlock | apply GO_region | apply GOl_nil | (apply GOl_add; exact rfl; exact rfl; exact rfl; omega; exact rfl; exact rfl) | (apply GOl_pv; exact rfl; exact rfl; exact rfl) | (apply GOl_ov; exact rfl; exact rfl; (first | (apply OV_idx; exact rfl; exact rfl; exact rfl; exact rfl; exact rfl; exact rfl; exact hkn) | (apply OV_load; exact rfl; exact Lv_ro rfl c1 rfl)); exact (by repeat' (first | exact trivial | apply And.intro | exact List.Mem.head _ | apply List.Mem.tail))) | (apply GO_cond; exact rfl; all_goals intro hc; all_goals try simp only [ltI_t, ltI_f, leI_t, leI_f, eqI_t, eqI_f, Bool.not_eq_true', Bool.not_eq_false', decide_eq_true_eq, decide_eq_false_iff_not, reduceCtorEq] at hc; all_goals try (exfalso; omega)) | (apply GO_retV1; exact rfl; exact rfl; exact rfl))
    · rw [← hI, hd, firstNZ, if_pos hc]
    · refine GO_keep ?_ (ih (k + 1) ⟨by omega, ?_⟩ (by omega))
      · exact ⟨rfl, rfl, rfl, trivial⟩
      · rw [← hI, hd, firstNZ, if_neg (by omega)]
  · rw [← hI, show k = xs.length by omega, List.drop_length]; rfl

theorem first4_c (h : Ro) (ad : Addr) (a b c d : Int) (hc : CellsAt h ad [.int .i64 a, .int .i64 b, .int .i64 c, .int .i64 d]) : Val Tryz.prog 173 #[.slice (some ad) 4 4] h (.int .i64 (firstNZ [a, b, c, d])) :=
  first_c h _ 4 4 [a, b, c, d] (SlOf_ints (l := [a, b, c, d]) hc) (by omega)
theorem first3_c (h : Ro) (ad : Addr) (a b c : Int) (hc : CellsAt h ad [.int .i64 a, .int .i64 b, .int .i64 c]) : Val Tryz.prog 173 #[.slice (some ad) 3 3] h (.int .i64 (firstNZ [a, b, c])) :=
  first_c h _ 3 3 [a, b, c] (SlOf_ints (l := [a, b, c]) hc) (by omega)
theorem first2_c (h : Ro) (ad : Addr) (a b : Int) (hc : CellsAt h ad [.int .i64 a, .int .i64 b]) : Val Tryz.prog 173 #[.slice (some ad) 2 2] h (.int .i64 (firstNZ [a, b])) :=
  first_c h _ 2 2 [a, b] (SlOf_ints (l := [a, b]) hc) (by omega)

theorem fits_leave {s : Sta} {x : Ent} (hk : x.kind = 2) : fits s x = firstNZ [if s.owner = -1 then 360 else if s.owner ≠ x.club then 361 else 0, if (!eqI s.borrower (-1)) = true then 360 else 0, if (!eqI (max s.lock 0) x.transfer) = true then 362 else 0, if eqI s.day x.day = true then 362 else 0] := by
  simp only [fits, firstNZ, eqI_eq, hk, Bool.not_eq_true', decide_eq_false_iff_not, decide_eq_true_eq]; grind
theorem fits_lend {s : Sta} {x : Ent} (hk : x.kind = 3) : fits s x = firstNZ [if s.owner = -1 then 360 else if s.owner ≠ x.club then 361 else 0, if (!eqI s.borrower (-1)) = true then 360 else 0, if (!eqI s.lock (-1)) = true then 362 else 0, if eqI s.day x.day = true then 362 else 0] := by
  simp only [fits, firstNZ, eqI_eq, hk, Bool.not_eq_true', decide_eq_false_iff_not, decide_eq_true_eq]; grind
theorem fits_back {s : Sta} {x : Ent} (hk : x.kind = 4) : fits s x = firstNZ [if s.owner = -1 then 360 else if s.owner ≠ x.club then 361 else 0, if (!eqI s.borrower x.other) = true then 360 else 0, if eqI s.day x.day = true then 362 else 0] := by
  simp only [fits, firstNZ, eqI_eq, hk, Bool.not_eq_true', decide_eq_false_iff_not, decide_eq_true_eq]; grind
theorem fits_secure {s : Sta} {x : Ent} (hk : x.kind = 5) : fits s x = firstNZ [if s.owner = -1 then 360 else if s.owner ≠ x.club then 361 else 0, if (!eqI s.borrower (-1)) = true then 360 else 0, if (!eqI s.lock (-1)) = true then 362 else 0, if eqI s.day x.day = true then 362 else 0] := by
  simp only [fits, firstNZ, eqI_eq, hk, Bool.not_eq_true', decide_eq_false_iff_not, decide_eq_true_eq]; grind
theorem fits_free {s : Sta} {x : Ent} (hk : x.kind = 6) : fits s x = firstNZ [if s.owner = -1 then 360 else if s.owner ≠ x.club then 361 else 0, if (!eqI s.lock x.transfer) = true then 362 else 0] := by
  simp only [fits, firstNZ, eqI_eq, hk, Bool.not_eq_true', decide_eq_false_iff_not, decide_eq_true_eq]; grind


theorem enter_c (h : Ro) (s : Sta) (x : Ent) (hk : x.kind = 1) : ∃ t, (fits s x = 0 → t = { s with owner := x.club }) ∧ Val Tryz.prog 141 #[staV s, entV x] h (.tuple #[staV t, .int .i64 (fits s x)]) := by
  refine ⟨if s.owner = -1 then { s with owner := x.club } else s, fun hf => ?_, ?_⟩
  · unfold fits at hf; split <;> simp_all
  refine Val_intro (args := [_, _]) ts_ok Go.Proofs.Tryz.func141 rfl rfl fun w0 X0 => ?_
  repeat' (first | apply GO_seq | apply GO_skip | apply GO_region | apply GOl_nil | (apply GOl_unwanted; exact rfl; exact rfl) | (apply GOl_pv; exact rfl; exact rfl; exact rfl) | (apply GOl_load; exact rfl; exact Ld_blk rfl (by (repeat (first | exact List.Mem.head _ | apply List.Mem.tail)); done) rfl; exact rfl; exact rfl) | (apply GOl_to; exact rfl; exact rfl; exact rfl; (first | (apply OpTo_store; exact rfl; exact rfl; exact rfl; exact (by (repeat (first | exact Repl.here | apply Repl.there)); done); exact rfl; exact rfl; exact rfl; skip) | (apply OpTo_box; exact rfl; intro b; skip) | (apply OpTo_alloc; exact rfl; intro b; skip) | (apply OpTo_val; exact rfl; exact has172; exact busy_c _ _; skip))) | (apply GO_cond; exact rfl; all_goals intro hc; all_goals try simp only [ltI_t, ltI_f, leI_t, leI_f, eqI_t, eqI_f, Bool.not_eq_true', Bool.not_eq_false', decide_eq_true_eq, decide_eq_false_iff_not, reduceCtorEq] at hc; all_goals try (exfalso; omega)) | (apply GOl_split; exact rfl; exact rfl; all_goals intro hc; all_goals try simp only [ltI_t, ltI_f, leI_t, leI_f, eqI_t, eqI_f, Bool.not_eq_true', Bool.not_eq_false', decide_eq_true_eq, decide_eq_false_iff_not, reduceCtorEq] at hc; all_goals try (exfalso; omega)) | (apply GO_retC2; exact rfl; exact rfl; exact rfl; exact (by (repeat (first | exact List.Mem.head _ | apply List.Mem.tail)); done); exact rfl; exact rfl; exact rfl))
  all_goals try rw [fits_leave hk]
  all_goals try rw [fits_lend hk]
  all_goals try rw [fits_back hk]
  all_goals try rw [fits_secure hk]
  all_goals try rw [fits_free hk]
  all_goals (first | rfl | skip)
  all_goals try (simp only [fits, hk, eqI_eq, staV]; simp [*]; try grind)


theorem leave_c (h : Ro) (s : Sta) (x : Ent) (hk : x.kind = 2) : ∃ t, (fits s x = 0 → t = { s with owner := -1, lock := -1 }) ∧ Val Tryz.prog 142 #[staV s, entV x] h (.tuple #[staV t, .int .i64 (fits s x)]) := by
  refine ⟨{ s with owner := -1, lock := -1 }, fun hf => ?_, ?_⟩
  · rfl
  refine Val_intro (args := [_, _]) ts_ok Go.Proofs.Tryz.func142 rfl rfl fun w0 X0 => ?_
  repeat' (first | apply GO_seq | apply GO_region | apply GOl_nil | (apply GOl_pv; exact rfl; exact rfl; exact rfl) | (apply GOl_load; exact rfl; exact Ld_blk rfl (by (repeat (first | exact List.Mem.head _ | apply List.Mem.tail)); done) rfl; exact rfl; exact rfl) | (apply GOl_to; exact rfl; exact rfl; exact rfl; (first | (apply OpTo_store; exact rfl; exact rfl; exact rfl; exact (by (repeat (first | exact Repl.here | apply Repl.there)); done); exact rfl; exact rfl; exact rfl; skip) | (apply OpTo_box; exact rfl; intro b; skip) | (apply OpTo_alloc; exact rfl; intro b; skip))) | (apply GO_drawp (n := 1) [0, 1, 2, 3, 4, 5, 6, 7, 8, 9, 10, 11, 12, 13, 14, 15, 16, 17, 18, 19, 20, 21, 22] [(0, 0), (1, 0), (3, 0), (4, 0), (5, 0), (7, 0), (8, 0), (9, 0), (10, 0), (11, 0), (12, 0), (14, 0), (15, 0), (16, 0), (17, 0), (18, 0), (2, 1), (6, 1), (13, 1), (19, 1), (20, 1), (21, 1), (22, 0)]; kernel_rfl) | (apply GP_pv; exact rfl; kernel_rfl; exact rfl; exact rfl; exact rfl) | (apply GP_loadB; exact rfl; kernel_rfl; exact rfl; exact rfl; exact rfl; exact (by (repeat (first | exact List.Mem.head _ | apply List.Mem.tail)); done); exact rfl; exact rfl) | (apply GP_real; exact rfl; kernel_rfl; exact rfl; exact rfl; exact rfl; (first | (apply OpTo_val; exact rfl; exact has174; exact owned_c _ _ _; refine ⟨Le.refl _, by (first | exact NdOk_no rfl | (apply NdOk_all; (repeat' (first | exact trivial | apply And.intro | exact List.Mem.head _ | apply List.Mem.tail)); done) | (apply NdOk_need; (repeat' (first | exact trivial | apply And.intro | exact List.Mem.head _ | apply List.Mem.tail)); done)), ?_⟩) | (apply OpTo_val; exact rfl; exact has175; exact wrong_c _ _; refine ⟨Le.refl _, by (first | exact NdOk_no rfl | (apply NdOk_all; (repeat' (first | exact trivial | apply And.intro | exact List.Mem.head _ | apply List.Mem.tail)); done) | (apply NdOk_need; (repeat' (first | exact trivial | apply And.intro | exact List.Mem.head _ | apply List.Mem.tail)); done)), ?_⟩) | (apply OpTo_val; exact rfl; exact has172; exact busy_c _ _; refine ⟨Le.refl _, by (first | exact NdOk_no rfl | (apply NdOk_all; (repeat' (first | exact trivial | apply And.intro | exact List.Mem.head _ | apply List.Mem.tail)); done) | (apply NdOk_need; (repeat' (first | exact trivial | apply And.intro | exact List.Mem.head _ | apply List.Mem.tail)); done)), ?_⟩) | (apply OpTo_buildSliceR; exact rfl; exact rfl; exact rfl; exact List.cons_ne_nil _ _; exact rfl; exact rfl; exact rfl; exact rfl; intro b1 h1 hle1 hcs1; refine ⟨hle1, by (first | exact NdOk_no rfl | (apply NdOk_all; (repeat' (first | exact trivial | apply And.intro | exact List.Mem.head _ | apply List.Mem.tail)); done) | (apply NdOk_need; (repeat' (first | exact trivial | apply And.intro | exact List.Mem.head _ | apply List.Mem.tail)); done)), ?_⟩) | (apply OpTo_val; exact rfl; exact has173; (first | exact first4_c _ _ _ _ _ _ hcs1 | exact first3_c _ _ _ _ _ hcs1 | exact first2_c _ _ _ _ hcs1); refine ⟨Le.refl _, by (first | exact NdOk_no rfl | (apply NdOk_all; (repeat' (first | exact trivial | apply And.intro | exact List.Mem.head _ | apply List.Mem.tail)); done) | (apply NdOk_need; (repeat' (first | exact trivial | apply And.intro | exact List.Mem.head _ | apply List.Mem.tail)); done)), ?_⟩))) | (apply GP_done; kernel_rfl; exact rfl) | (apply GO_retC2; exact rfl; exact rfl; exact rfl; exact (by (repeat (first | exact List.Mem.head _ | apply List.Mem.tail)); done); exact rfl; exact rfl; exact rfl))
  all_goals try rw [fits_leave hk]
  all_goals try rw [fits_lend hk]
  all_goals try rw [fits_back hk]
  all_goals try rw [fits_secure hk]
  all_goals try rw [fits_free hk]
  all_goals (first | rfl | skip)
  all_goals try (simp only [fits, hk, eqI_eq, staV]; simp [*]; try grind)


theorem lend_c (h : Ro) (s : Sta) (x : Ent) (hk : x.kind = 3) : ∃ t, (fits s x = 0 → t = { s with borrower := x.other }) ∧ Val Tryz.prog 143 #[staV s, entV x] h (.tuple #[staV t, .int .i64 (fits s x)]) := by
  refine ⟨{ s with borrower := x.other }, fun hf => ?_, ?_⟩
  · rfl
  refine Val_intro (args := [_, _]) ts_ok Go.Proofs.Tryz.func143 rfl rfl fun w0 X0 => ?_
  repeat' (first | apply GO_seq | apply GO_region | apply GOl_nil | (apply GOl_pv; exact rfl; exact rfl; exact rfl) | (apply GOl_load; exact rfl; exact Ld_blk rfl (by (repeat (first | exact List.Mem.head _ | apply List.Mem.tail)); done) rfl; exact rfl; exact rfl) | (apply GOl_to; exact rfl; exact rfl; exact rfl; (first | (apply OpTo_store; exact rfl; exact rfl; exact rfl; exact (by (repeat (first | exact Repl.here | apply Repl.there)); done); exact rfl; exact rfl; exact rfl; skip) | (apply OpTo_box; exact rfl; intro b; skip) | (apply OpTo_alloc; exact rfl; intro b; skip))) | (apply GO_drawp (n := 1) [0, 1, 2, 3, 4, 5, 6, 7, 8, 9, 10, 11, 12, 13, 14, 15, 16, 17, 18, 19] [(0, 0), (1, 0), (3, 0), (4, 0), (5, 0), (7, 0), (8, 0), (9, 0), (11, 0), (12, 0), (13, 0), (14, 0), (15, 0), (2, 1), (6, 1), (10, 1), (16, 1), (17, 1), (18, 1), (19, 0)]; kernel_rfl) | (apply GP_pv; exact rfl; kernel_rfl; exact rfl; exact rfl; exact rfl) | (apply GP_loadB; exact rfl; kernel_rfl; exact rfl; exact rfl; exact rfl; exact (by (repeat (first | exact List.Mem.head _ | apply List.Mem.tail)); done); exact rfl; exact rfl) | (apply GP_real; exact rfl; kernel_rfl; exact rfl; exact rfl; exact rfl; (first | (apply OpTo_val; exact rfl; exact has174; exact owned_c _ _ _; refine ⟨Le.refl _, by (first | exact NdOk_no rfl | (apply NdOk_all; (repeat' (first | exact trivial | apply And.intro | exact List.Mem.head _ | apply List.Mem.tail)); done) | (apply NdOk_need; (repeat' (first | exact trivial | apply And.intro | exact List.Mem.head _ | apply List.Mem.tail)); done)), ?_⟩) | (apply OpTo_val; exact rfl; exact has175; exact wrong_c _ _; refine ⟨Le.refl _, by (first | exact NdOk_no rfl | (apply NdOk_all; (repeat' (first | exact trivial | apply And.intro | exact List.Mem.head _ | apply List.Mem.tail)); done) | (apply NdOk_need; (repeat' (first | exact trivial | apply And.intro | exact List.Mem.head _ | apply List.Mem.tail)); done)), ?_⟩) | (apply OpTo_val; exact rfl; exact has172; exact busy_c _ _; refine ⟨Le.refl _, by (first | exact NdOk_no rfl | (apply NdOk_all; (repeat' (first | exact trivial | apply And.intro | exact List.Mem.head _ | apply List.Mem.tail)); done) | (apply NdOk_need; (repeat' (first | exact trivial | apply And.intro | exact List.Mem.head _ | apply List.Mem.tail)); done)), ?_⟩) | (apply OpTo_buildSliceR; exact rfl; exact rfl; exact rfl; exact List.cons_ne_nil _ _; exact rfl; exact rfl; exact rfl; exact rfl; intro b1 h1 hle1 hcs1; refine ⟨hle1, by (first | exact NdOk_no rfl | (apply NdOk_all; (repeat' (first | exact trivial | apply And.intro | exact List.Mem.head _ | apply List.Mem.tail)); done) | (apply NdOk_need; (repeat' (first | exact trivial | apply And.intro | exact List.Mem.head _ | apply List.Mem.tail)); done)), ?_⟩) | (apply OpTo_val; exact rfl; exact has173; (first | exact first4_c _ _ _ _ _ _ hcs1 | exact first3_c _ _ _ _ _ hcs1 | exact first2_c _ _ _ _ hcs1); refine ⟨Le.refl _, by (first | exact NdOk_no rfl | (apply NdOk_all; (repeat' (first | exact trivial | apply And.intro | exact List.Mem.head _ | apply List.Mem.tail)); done) | (apply NdOk_need; (repeat' (first | exact trivial | apply And.intro | exact List.Mem.head _ | apply List.Mem.tail)); done)), ?_⟩))) | (apply GP_done; kernel_rfl; exact rfl) | (apply GO_retC2; exact rfl; exact rfl; exact rfl; exact (by (repeat (first | exact List.Mem.head _ | apply List.Mem.tail)); done); exact rfl; exact rfl; exact rfl))
  all_goals try rw [fits_leave hk]
  all_goals try rw [fits_lend hk]
  all_goals try rw [fits_back hk]
  all_goals try rw [fits_secure hk]
  all_goals try rw [fits_free hk]
  all_goals (first | rfl | skip)
  all_goals try (simp only [fits, hk, eqI_eq, staV]; simp [*]; try grind)


theorem back_c (h : Ro) (s : Sta) (x : Ent) (hk : x.kind = 4) : ∃ t, (fits s x = 0 → t = { s with borrower := -1 }) ∧ Val Tryz.prog 144 #[staV s, entV x] h (.tuple #[staV t, .int .i64 (fits s x)]) := by
  refine ⟨{ s with borrower := -1 }, fun hf => ?_, ?_⟩
  · rfl
  refine Val_intro (args := [_, _]) ts_ok Go.Proofs.Tryz.func144 rfl rfl fun w0 X0 => ?_
  repeat' (first | apply GO_seq | apply GO_region | apply GOl_nil | (apply GOl_pv; exact rfl; exact rfl; exact rfl) | (apply GOl_load; exact rfl; exact Ld_blk rfl (by (repeat (first | exact List.Mem.head _ | apply List.Mem.tail)); done) rfl; exact rfl; exact rfl) | (apply GOl_to; exact rfl; exact rfl; exact rfl; (first | (apply OpTo_store; exact rfl; exact rfl; exact rfl; exact (by (repeat (first | exact Repl.here | apply Repl.there)); done); exact rfl; exact rfl; exact rfl; skip) | (apply OpTo_box; exact rfl; intro b; skip) | (apply OpTo_alloc; exact rfl; intro b; skip))) | (apply GO_drawp (n := 1) [0, 1, 2, 3, 4, 5, 6, 7, 8, 9, 10, 11, 12, 13, 14, 15, 16, 17] [(0, 0), (1, 0), (3, 0), (4, 0), (5, 0), (6, 0), (7, 0), (9, 0), (10, 0), (11, 0), (12, 0), (13, 0), (2, 1), (8, 1), (14, 1), (15, 1), (16, 1), (17, 0)]; kernel_rfl) | (apply GP_pv; exact rfl; kernel_rfl; exact rfl; exact rfl; exact rfl) | (apply GP_loadB; exact rfl; kernel_rfl; exact rfl; exact rfl; exact rfl; exact (by (repeat (first | exact List.Mem.head _ | apply List.Mem.tail)); done); exact rfl; exact rfl) | (apply GP_real; exact rfl; kernel_rfl; exact rfl; exact rfl; exact rfl; (first | (apply OpTo_val; exact rfl; exact has174; exact owned_c _ _ _; refine ⟨Le.refl _, by (first | exact NdOk_no rfl | (apply NdOk_all; (repeat' (first | exact trivial | apply And.intro | exact List.Mem.head _ | apply List.Mem.tail)); done) | (apply NdOk_need; (repeat' (first | exact trivial | apply And.intro | exact List.Mem.head _ | apply List.Mem.tail)); done)), ?_⟩) | (apply OpTo_val; exact rfl; exact has175; exact wrong_c _ _; refine ⟨Le.refl _, by (first | exact NdOk_no rfl | (apply NdOk_all; (repeat' (first | exact trivial | apply And.intro | exact List.Mem.head _ | apply List.Mem.tail)); done) | (apply NdOk_need; (repeat' (first | exact trivial | apply And.intro | exact List.Mem.head _ | apply List.Mem.tail)); done)), ?_⟩) | (apply OpTo_val; exact rfl; exact has172; exact busy_c _ _; refine ⟨Le.refl _, by (first | exact NdOk_no rfl | (apply NdOk_all; (repeat' (first | exact trivial | apply And.intro | exact List.Mem.head _ | apply List.Mem.tail)); done) | (apply NdOk_need; (repeat' (first | exact trivial | apply And.intro | exact List.Mem.head _ | apply List.Mem.tail)); done)), ?_⟩) | (apply OpTo_buildSliceR; exact rfl; exact rfl; exact rfl; exact List.cons_ne_nil _ _; exact rfl; exact rfl; exact rfl; exact rfl; intro b1 h1 hle1 hcs1; refine ⟨hle1, by (first | exact NdOk_no rfl | (apply NdOk_all; (repeat' (first | exact trivial | apply And.intro | exact List.Mem.head _ | apply List.Mem.tail)); done) | (apply NdOk_need; (repeat' (first | exact trivial | apply And.intro | exact List.Mem.head _ | apply List.Mem.tail)); done)), ?_⟩) | (apply OpTo_val; exact rfl; exact has173; (first | exact first4_c _ _ _ _ _ _ hcs1 | exact first3_c _ _ _ _ _ hcs1 | exact first2_c _ _ _ _ hcs1); refine ⟨Le.refl _, by (first | exact NdOk_no rfl | (apply NdOk_all; (repeat' (first | exact trivial | apply And.intro | exact List.Mem.head _ | apply List.Mem.tail)); done) | (apply NdOk_need; (repeat' (first | exact trivial | apply And.intro | exact List.Mem.head _ | apply List.Mem.tail)); done)), ?_⟩))) | (apply GP_done; kernel_rfl; exact rfl) | (apply GO_retC2; exact rfl; exact rfl; exact rfl; exact (by (repeat (first | exact List.Mem.head _ | apply List.Mem.tail)); done); exact rfl; exact rfl; exact rfl))
  all_goals try rw [fits_leave hk]
  all_goals try rw [fits_lend hk]
  all_goals try rw [fits_back hk]
  all_goals try rw [fits_secure hk]
  all_goals try rw [fits_free hk]
  all_goals (first | rfl | skip)
  all_goals try (simp only [fits, hk, eqI_eq, staV]; simp [*]; try grind)


theorem secure_c (h : Ro) (s : Sta) (x : Ent) (hk : x.kind = 5) : ∃ t, (fits s x = 0 → t = { s with lock := x.transfer }) ∧ Val Tryz.prog 145 #[staV s, entV x] h (.tuple #[staV t, .int .i64 (fits s x)]) := by
  refine ⟨{ s with lock := x.transfer }, fun hf => ?_, ?_⟩
  · rfl
  refine Val_intro (args := [_, _]) ts_ok Go.Proofs.Tryz.func145 rfl rfl fun w0 X0 => ?_
  repeat' (first | apply GO_seq | apply GO_region | apply GOl_nil | (apply GOl_pv; exact rfl; exact rfl; exact rfl) | (apply GOl_load; exact rfl; exact Ld_blk rfl (by (repeat (first | exact List.Mem.head _ | apply List.Mem.tail)); done) rfl; exact rfl; exact rfl) | (apply GOl_to; exact rfl; exact rfl; exact rfl; (first | (apply OpTo_store; exact rfl; exact rfl; exact rfl; exact (by (repeat (first | exact Repl.here | apply Repl.there)); done); exact rfl; exact rfl; exact rfl; skip) | (apply OpTo_box; exact rfl; intro b; skip) | (apply OpTo_alloc; exact rfl; intro b; skip))) | (apply GO_drawp (n := 1) [0, 1, 2, 3, 4, 5, 6, 7, 8, 9, 10, 11, 12, 13, 14, 15, 16, 17, 18, 19] [(0, 0), (1, 0), (3, 0), (4, 0), (5, 0), (7, 0), (8, 0), (9, 0), (11, 0), (12, 0), (13, 0), (14, 0), (15, 0), (2, 1), (6, 1), (10, 1), (16, 1), (17, 1), (18, 1), (19, 0)]; kernel_rfl) | (apply GP_pv; exact rfl; kernel_rfl; exact rfl; exact rfl; exact rfl) | (apply GP_loadB; exact rfl; kernel_rfl; exact rfl; exact rfl; exact rfl; exact (by (repeat (first | exact List.Mem.head _ | apply List.Mem.tail)); done); exact rfl; exact rfl) | (apply GP_real; exact rfl; kernel_rfl; exact rfl; exact rfl; exact rfl; (first | (apply OpTo_val; exact rfl; exact has174; exact owned_c _ _ _; refine ⟨Le.refl _, by (first | exact NdOk_no rfl | (apply NdOk_all; (repeat' (first | exact trivial | apply And.intro | exact List.Mem.head _ | apply List.Mem.tail)); done) | (apply NdOk_need; (repeat' (first | exact trivial | apply And.intro | exact List.Mem.head _ | apply List.Mem.tail)); done)), ?_⟩) | (apply OpTo_val; exact rfl; exact has175; exact wrong_c _ _; refine ⟨Le.refl _, by (first | exact NdOk_no rfl | (apply NdOk_all; (repeat' (first | exact trivial | apply And.intro | exact List.Mem.head _ | apply List.Mem.tail)); done) | (apply NdOk_need; (repeat' (first | exact trivial | apply And.intro | exact List.Mem.head _ | apply List.Mem.tail)); done)), ?_⟩) | (apply OpTo_val; exact rfl; exact has172; exact busy_c _ _; refine ⟨Le.refl _, by (first | exact NdOk_no rfl | (apply NdOk_all; (repeat' (first | exact trivial | apply And.intro | exact List.Mem.head _ | apply List.Mem.tail)); done) | (apply NdOk_need; (repeat' (first | exact trivial | apply And.intro | exact List.Mem.head _ | apply List.Mem.tail)); done)), ?_⟩) | (apply OpTo_buildSliceR; exact rfl; exact rfl; exact rfl; exact List.cons_ne_nil _ _; exact rfl; exact rfl; exact rfl; exact rfl; intro b1 h1 hle1 hcs1; refine ⟨hle1, by (first | exact NdOk_no rfl | (apply NdOk_all; (repeat' (first | exact trivial | apply And.intro | exact List.Mem.head _ | apply List.Mem.tail)); done) | (apply NdOk_need; (repeat' (first | exact trivial | apply And.intro | exact List.Mem.head _ | apply List.Mem.tail)); done)), ?_⟩) | (apply OpTo_val; exact rfl; exact has173; (first | exact first4_c _ _ _ _ _ _ hcs1 | exact first3_c _ _ _ _ _ hcs1 | exact first2_c _ _ _ _ hcs1); refine ⟨Le.refl _, by (first | exact NdOk_no rfl | (apply NdOk_all; (repeat' (first | exact trivial | apply And.intro | exact List.Mem.head _ | apply List.Mem.tail)); done) | (apply NdOk_need; (repeat' (first | exact trivial | apply And.intro | exact List.Mem.head _ | apply List.Mem.tail)); done)), ?_⟩))) | (apply GP_done; kernel_rfl; exact rfl) | (apply GO_retC2; exact rfl; exact rfl; exact rfl; exact (by (repeat (first | exact List.Mem.head _ | apply List.Mem.tail)); done); exact rfl; exact rfl; exact rfl))
  all_goals try rw [fits_leave hk]
  all_goals try rw [fits_lend hk]
  all_goals try rw [fits_back hk]
  all_goals try rw [fits_secure hk]
  all_goals try rw [fits_free hk]
  all_goals (first | rfl | skip)
  all_goals try (simp only [fits, hk, eqI_eq, staV]; simp [*]; try grind)


theorem free_c (h : Ro) (s : Sta) (x : Ent) (hk : x.kind = 6) : ∃ t, (fits s x = 0 → t = { s with lock := -1 }) ∧ Val Tryz.prog 146 #[staV s, entV x] h (.tuple #[staV t, .int .i64 (fits s x)]) := by
  refine ⟨{ s with lock := -1 }, fun hf => ?_, ?_⟩
  · rfl
  refine Val_intro (args := [_, _]) ts_ok Go.Proofs.Tryz.func146 rfl rfl fun w0 X0 => ?_
  repeat' (first | apply GO_seq | apply GO_region | apply GOl_nil | (apply GOl_pv; exact rfl; exact rfl; exact rfl) | (apply GOl_load; exact rfl; exact Ld_blk rfl (by (repeat (first | exact List.Mem.head _ | apply List.Mem.tail)); done) rfl; exact rfl; exact rfl) | (apply GOl_to; exact rfl; exact rfl; exact rfl; (first | (apply OpTo_store; exact rfl; exact rfl; exact rfl; exact (by (repeat (first | exact Repl.here | apply Repl.there)); done); exact rfl; exact rfl; exact rfl; skip) | (apply OpTo_box; exact rfl; intro b; skip) | (apply OpTo_alloc; exact rfl; intro b; skip))) | (apply GO_drawp (n := 1) [0, 1, 2, 3, 4, 5, 6, 7, 8, 9, 10, 11] [(0, 0), (1, 0), (3, 0), (4, 0), (5, 0), (6, 0), (7, 0), (2, 1), (8, 1), (9, 1), (10, 1), (11, 0)]; kernel_rfl) | (apply GP_pv; exact rfl; kernel_rfl; exact rfl; exact rfl; exact rfl) | (apply GP_loadB; exact rfl; kernel_rfl; exact rfl; exact rfl; exact rfl; exact (by (repeat (first | exact List.Mem.head _ | apply List.Mem.tail)); done); exact rfl; exact rfl) | (apply GP_real; exact rfl; kernel_rfl; exact rfl; exact rfl; exact rfl; (first | (apply OpTo_val; exact rfl; exact has174; exact owned_c _ _ _; refine ⟨Le.refl _, by (first | exact NdOk_no rfl | (apply NdOk_all; (repeat' (first | exact trivial | apply And.intro | exact List.Mem.head _ | apply List.Mem.tail)); done) | (apply NdOk_need; (repeat' (first | exact trivial | apply And.intro | exact List.Mem.head _ | apply List.Mem.tail)); done)), ?_⟩) | (apply OpTo_val; exact rfl; exact has172; exact busy_c _ _; refine ⟨Le.refl _, by (first | exact NdOk_no rfl | (apply NdOk_all; (repeat' (first | exact trivial | apply And.intro | exact List.Mem.head _ | apply List.Mem.tail)); done) | (apply NdOk_need; (repeat' (first | exact trivial | apply And.intro | exact List.Mem.head _ | apply List.Mem.tail)); done)), ?_⟩) | (apply OpTo_buildSliceR; exact rfl; exact rfl; exact rfl; exact List.cons_ne_nil _ _; exact rfl; exact rfl; exact rfl; exact rfl; intro b1 h1 hle1 hcs1; refine ⟨hle1, by (first | exact NdOk_no rfl | (apply NdOk_all; (repeat' (first | exact trivial | apply And.intro | exact List.Mem.head _ | apply List.Mem.tail)); done) | (apply NdOk_need; (repeat' (first | exact trivial | apply And.intro | exact List.Mem.head _ | apply List.Mem.tail)); done)), ?_⟩) | (apply OpTo_val; exact rfl; exact has173; (first | exact first4_c _ _ _ _ _ _ hcs1 | exact first3_c _ _ _ _ _ hcs1 | exact first2_c _ _ _ _ hcs1); refine ⟨Le.refl _, by (first | exact NdOk_no rfl | (apply NdOk_all; (repeat' (first | exact trivial | apply And.intro | exact List.Mem.head _ | apply List.Mem.tail)); done) | (apply NdOk_need; (repeat' (first | exact trivial | apply And.intro | exact List.Mem.head _ | apply List.Mem.tail)); done)), ?_⟩))) | (apply GP_done; kernel_rfl; exact rfl) | (apply GO_retC2; exact rfl; exact rfl; exact rfl; exact (by (repeat (first | exact List.Mem.head _ | apply List.Mem.tail)); done); exact rfl; exact rfl; exact rfl))
  all_goals try rw [fits_leave hk]
  all_goals try rw [fits_lend hk]
  all_goals try rw [fits_back hk]
  all_goals try rw [fits_secure hk]
  all_goals try rw [fits_free hk]
  all_goals (first | rfl | skip)
  all_goals try (simp only [fits, hk, eqI_eq, staV]; simp [*]; try grind)















end Go.Hw
set_option linter.unusedVariables false
set_option linter.unusedSimpArgs false
set_option maxRecDepth 100000
set_option maxHeartbeats 400000
namespace Go.Hw
open Go
attribute [local irreducible] GO GOl GDp Val Fn CellsAt
open Go.Proofs (Tryz.prog)

def idxI (x : Int) : List Int → Nat → Int
  | [], _ => -1
  | a :: r, k => if a = x then k else idxI x r (k + 1)
theorem idxI_nonneg (x : Int) : ∀ (l : List Int) (k : Nat), 0 ≤ idxI x l k ↔ x ∈ l
  | [], k => by simp [idxI]
  | a :: r, k => by
    have := idxI_nonneg x r (k + 1)
    by_cases h : a = x
    · subst h; simp [idxI]
    · simp [idxI, h, this, Ne.symm h]
theorem drop_cons {xs : List Int} {k n : Nat} (hlen : xs.length = n) (hk : k < n) : xs.drop k = xs.getD k 0 :: xs.drop (k + 1) := by
  rw [List.drop_eq_getElem_cons (by omega)]; simp [List.getD, List.getElem?_eq_getElem (show k < xs.length by omega)]

theorem index_c (h : Ro) (A : Option Addr) (n c : Nat) (xs : List Int) (x : Int) (hx : SlOf encI 1 h A n xs) (hn : n ≤ 1000000000) :
    Val Tryz.prog 122 #[.slice A n c, .int .i64 x] h (.int .i64 (idxI x xs 0)) := by
  refine Val_intro (args := [_, _]) ts_ok Go.Proofs.Tryz.func122 rfl rfl fun w0 X0 => ?_
  have hlen := hx.len
  repeat' (first | apply GO_seq | apply GO_block | apply GO_region | apply GOl_nil | (apply GOl_pv; exact rfl; exact rfl; exact rfl))
  refine GO_while (fun k => k ≤ n ∧ idxI x (xs.drop k) k = idxI x xs 0) (fun k => n - k) (fun k => [(8, .int .i64 k), (7, .int .i64 n), (0, .slice A n c), (1, .int .i64 x)]) (fun _ => []) (fun _ => h) 0 ?_ ⟨rfl, rfl, rfl, rfl, trivial⟩ rfl rfl ?_
  · exact ⟨by omega, rfl⟩
  rintro k ⟨hk, hI⟩ ih
  repeat' (first | apply GO_seq | apply GO_skip | apply GO_block | apply GO_region | apply GOl_nil | (apply GO_exit; exact rfl) | (apply GOl_pv; exact rfl; exact rfl; exact rfl) | (apply GO_cond; exact rfl; all_goals intro hc; all_goals try simp only [ltI_t, ltI_f, leI_t, leI_f, eqI_t, eqI_f, Bool.not_eq_true', Bool.not_eq_false', decide_eq_true_eq, decide_eq_false_iff_not, reduceCtorEq] at hc; all_goals try (exfalso; omega)) | (apply GO_retV1; exact rfl; exact rfl; exact rfl))
  · obtain ⟨ad, rfl⟩ := hx.addr (by omega)
    have hkn : k < n := by omega
    have c1 := hx.cells 0 hkn
    have hd := drop_cons hlen hkn
    repeat' (first | apply GO_seq | apply GO_skip | apply GO_inBlock | apply GO_region | apply GOl_nil | (apply GOl_add; exact rfl; exact rfl; exact rfl; omega; exact rfl; exact rfl) | (apply GOl_pv; exact rfl; exact rfl; exact rfl) | (apply GOl_ov; exact rfl; exact rfl; (first | (apply OV_idx; exact rfl; exact rfl; exact rfl; exact rfl; exact rfl; exact rfl; exact hkn) | (apply OV_load; exact rfl; exact Lv_ro rfl c1 rfl)); exact (by repeat' (first | exact trivial | apply And.intro | exact List.Mem.head _ | apply List.Mem.tail))) | (apply GO_cond; exact rfl; all_goals intro hc; all_goals try simp only [ltI_t, ltI_f, leI_t, leI_f, eqI_t, eqI_f, Bool.not_eq_true', Bool.not_eq_false', decide_eq_true_eq, decide_eq_false_iff_not, reduceCtorEq] at hc; all_goals try (exfalso; omega)) | (apply GO_retV1; exact rfl; exact rfl; exact rfl))
    · rw [← hI, hd, idxI, if_pos hc.symm]
    · refine GO_keep ?_ (ih (k + 1) ⟨by omega, ?_⟩ (by omega))
      · exact ⟨rfl, rfl, rfl, rfl, trivial⟩
      · rw [← hI, hd, idxI, if_neg (by omega)]
  · rw [← hI, show k = xs.length by omega, List.drop_length]; rfl

theorem contains_c (h : Ro) (A : Option Addr) (n c : Nat) (xs : List Int) (x : Int) (hx : SlOf encI 1 h A n xs) (hn : n ≤ 1000000000) :
    Val Tryz.prog 98 #[.slice A n c, .int .i64 x] h (.bool (decide (x ∈ xs))) := by
  refine Val_intro (args := [_, _]) ts_ok Go.Proofs.Tryz.func98 rfl rfl fun w0 X0 => ?_
  repeat' (first | apply GO_seq | apply GO_region | apply GOl_nil | (apply GOl_pv; exact rfl; exact rfl; exact rfl) | (apply GOl_to; exact rfl; exact rfl; exact rfl; (first | (apply OpTo_val; exact rfl; exact has122; exact index_c _ _ _ _ xs _ hx hn; skip))) | (apply GO_retV1; exact rfl; exact rfl; exact rfl))
  rw [leI_eq]; congr 1; exact decide_eq_decide.2 (idxI_nonneg _ _ _)

theorem validB_c (h : Ro) (s : Rsh) (r : Reg) (hr : SlOf encI 1 h s.ac s.nc r.clubs) (hn : s.nc ≤ 1000000000) (lg d : Int) (m : Value) (x : Ent) :
    Val Tryz.prog 100 #[.agg #[.int .i64 lg, .slice s.ac s.nc s.cc, .int .i64 d, .slice s.ae s.ne s.ce, m], entV x] h (.bool (decide (ValidX r.clubs d x))) := by
  refine Val_intro (args := [_, _]) ts_ok Go.Proofs.Tryz.func100 rfl rfl fun w0 X0 => ?_
  repeat' (first | apply GO_seq | apply GO_skip | apply GO_inBlock | apply GO_block | apply GO_region | apply GOl_nil | (apply GOl_unwanted; exact rfl; exact rfl) | (apply GOl_pv; exact rfl; exact rfl; exact rfl) | (apply GOl_load; exact rfl; exact Ld_blk rfl (by (repeat (first | exact List.Mem.head _ | apply List.Mem.tail)); done) rfl; exact rfl; exact rfl) | (apply GOl_to; exact rfl; exact rfl; exact rfl; (first | (apply OpTo_box; exact rfl; intro b; skip) | (apply OpTo_val; exact rfl; exact has98; exact contains_c _ _ _ _ r.clubs _ hr hn; skip))) | (apply GO_cond; exact rfl; all_goals intro hc; all_goals try simp only [ltI_t, ltI_f, leI_t, leI_f, eqI_t, eqI_f, Bool.not_eq_true', Bool.not_eq_false', decide_eq_true_eq, decide_eq_false_iff_not, reduceCtorEq] at hc; all_goals try (exfalso; omega)) | (apply GOl_split; exact rfl; exact rfl; all_goals intro hc; all_goals try simp only [ltI_t, ltI_f, leI_t, leI_f, eqI_t, eqI_f, Bool.not_eq_true', Bool.not_eq_false', decide_eq_true_eq, decide_eq_false_iff_not, reduceCtorEq] at hc; all_goals try (exfalso; omega)) | (apply GO_retV1; exact rfl; exact rfl; exact rfl))
  all_goals simp only [ltI_eq, leI_eq, eqI_eq, Value.bool.injEq]
  all_goals first
    | (symm; rw [decide_eq_false_iff_not]; unfold ValidX; grind)
    | (symm; rw [decide_eq_true_eq]; unfold ValidX; grind)
    | (rw [decide_eq_decide]; unfold ValidX; grind)
    | skip
end Go.Hw
set_option linter.unusedVariables false
set_option linter.unusedSimpArgs false
set_option maxRecDepth 100000
set_option maxHeartbeats 400000
namespace Go.Hw
open Go
attribute [local irreducible] GO GOl GDp Val Fn CellsAt
open Go.Proofs (Tryz.prog)

def shNew (s : Rsh) : Rsh := ⟨s.ac, s.nc, s.cc, none, 0, 0⟩
def shNil : Rsh := ⟨none, 0, 0, none, 0, 0⟩
open Classical in
theorem new_c (h : Ro) (lg : Int) (A : Option Addr) (n c : Nat) (xs : List Int) (hx : SlOf encI 1 h A n xs) (hn : n ≤ 1000000000) :
    Val Tryz.prog 32 #[.int .i64 lg, .slice A n c] h (if OpenOk lg xs then .tuple #[regV lg 0 ⟨A, n, c, none, 0, 0⟩, .int .i64 0] else .tuple #[regV 0 0 shNil, .int .i64 360]) := by
  refine Val_intro (args := [_, _]) ts_ok Go.Proofs.Tryz.func32 rfl rfl fun w0 X0 => ?_
  repeat' (first | apply GO_seq | apply GO_skip | apply GO_region | apply GOl_nil | (apply GOl_unwanted; exact rfl; exact rfl) | (apply GOl_pv; exact rfl; exact rfl; exact rfl) | (apply GOl_load; exact rfl; exact Ld_blk rfl (by (repeat (first | exact List.Mem.head _ | apply List.Mem.tail)); done) rfl; exact rfl; exact rfl) | (apply GOl_to; exact rfl; exact rfl; exact rfl; (first | (apply OpTo_store; exact rfl; exact rfl; exact rfl; exact (by (repeat (first | exact Repl.here | apply Repl.there)); done); exact rfl; exact rfl; exact rfl; skip) | (apply OpTo_alloc; exact rfl; intro b; skip) | (apply OpTo_val; exact rfl; exact has77; exact isField_c _ _ _ _ xs hx hn; skip))) | (apply GO_cond; exact rfl; all_goals intro hc; all_goals try simp only [ltI_t, ltI_f, leI_t, leI_f, eqI_t, eqI_f, Bool.not_eq_true', Bool.not_eq_false', decide_eq_true_eq, decide_eq_false_iff_not, reduceCtorEq] at hc; all_goals try (exfalso; omega)) | (apply GOl_split; exact rfl; exact rfl; all_goals intro hc; all_goals try simp only [ltI_t, ltI_f, leI_t, leI_f, eqI_t, eqI_f, Bool.not_eq_true', Bool.not_eq_false', decide_eq_true_eq, decide_eq_false_iff_not, reduceCtorEq] at hc; all_goals try (exfalso; omega)) | (apply GO_retC2; exact rfl; exact rfl; exact rfl; exact (by (repeat (first | exact List.Mem.head _ | apply List.Mem.tail)); done); exact rfl; exact rfl; exact rfl))
  all_goals first
    | (rw [if_neg (by unfold OpenOk; grind)]; rfl)
    | (rw [if_pos (by unfold OpenOk; grind)]; rfl)
    | skip

abbrev PlA (b : Nat) (m : List (Int × Sta)) : Asn := MapA (fun i : Int => .int .i64 i) staV b m
theorem K3 : KeyT Tryz.prog 3 (fun i : Int => .int .i64 i) := by
  obtain ⟨D, h1, h2⟩ := TsOk.und ts_ok (n := 3) rfl
  exact KeyT.int (by rw [h1, blank_int h2])

theorem status_c (h : Ro) (lg d : Int) (s : Rsh) (v : Value) (b : Nat) (m : List (Int × Sta)) (p : Int) :
    ValE Tryz.prog 41 #[.agg #[.int .i64 lg, .slice s.ac s.nc s.cc, .int .i64 d, v, .map (some b)], .int .i64 p] [PlA b m] h (staV ((lookA p m).getD st0)) := by
  refine ValE_intro (args := [_, _]) ts_ok Go.Proofs.Tryz.func41 rfl rfl fun w0 X0 => ?_
  rcases hl : lookA p m with _ | t
  all_goals
    repeat' (first | apply GO_seq | apply GO_skip | apply GO_region | apply GOl_nil | (apply GOl_pv; exact rfl; exact rfl; exact rfl) | (apply GOl_load; exact rfl; exact Ld_blk rfl (by (repeat (first | exact List.Mem.head _ | apply List.Mem.tail)); done) rfl; exact rfl; exact rfl) | (apply GOl_ov; exact rfl; exact rfl; (first | (apply OV_lookup (ev := staV) K3; exact rfl; exact rfl; exact rfl; exact rfl; exact rfl; exact hl)); exact (by repeat' (first | exact trivial | apply And.intro | exact List.Mem.head _ | apply List.Mem.tail))) | (apply GOl_to; exact rfl; exact rfl; exact rfl; (first | (apply OpTo_store; exact rfl; exact rfl; exact rfl; exact (by (repeat (first | exact Repl.here | apply Repl.there)); done); exact rfl; exact rfl; exact rfl; skip) | (apply OpTo_box; exact rfl; intro b; skip) | (apply OpTo_alloc; exact rfl; intro b; skip) | (apply OpTo_val; exact rfl; exact has42; exact unknown_c _; skip))) | (apply GO_cond; exact rfl; all_goals intro hc; all_goals try simp only [ltI_t, ltI_f, leI_t, leI_f, eqI_t, eqI_f, Bool.not_eq_true', Bool.not_eq_false', decide_eq_true_eq, decide_eq_false_iff_not, reduceCtorEq] at hc; all_goals try (exfalso; omega)) | (apply GO_retKC1; exact rfl; exact rfl; exact rfl; exact (by (repeat (first | exact List.Mem.head _ | apply List.Mem.tail)); done); exact rfl; exact rfl; exact (by (repeat (first | exact List.Sublist.refl _ | exact List.nil_sublist _ | apply List.Sublist.cons_cons | apply List.Sublist.cons)); done)))
  all_goals rfl
end Go.Hw
set_option linter.unusedVariables false
set_option linter.unusedSimpArgs false
set_option maxRecDepth 100000
set_option maxHeartbeats 800000
namespace Go.Hw
open Go
attribute [local irreducible] GO GOl GDp Val Fn CellsAt
open Go.Proofs (Tryz.prog)

theorem eff_c (h : Ro) (s : Sta) (x : Ent) (hk : 1 ≤ x.kind ∧ x.kind ≤ 6) : ∃ (f : Nat) (t : Sta), (fits s x = 0 → t = if x.kind = 1 then { s with owner := x.club } else if x.kind = 2 then { s with owner := -1, lock := -1 } else if x.kind = 3 then { s with borrower := x.other } else if x.kind = 4 then { s with borrower := -1 } else if x.kind = 5 then { s with lock := x.transfer } else { s with lock := -1 }) ∧
    f = (if x.kind = 1 then 141 else if x.kind = 2 then 142 else if x.kind = 3 then 143 else if x.kind = 4 then 144 else if x.kind = 5 then 145 else 146) ∧ Has Tryz.prog f ∧ Val Tryz.prog f #[staV s, entV x] h (.tuple #[staV t, .int .i64 (fits s x)]) := by
  have h6 : x.kind = 1 ∨ x.kind = 2 ∨ x.kind = 3 ∨ x.kind = 4 ∨ x.kind = 5 ∨ x.kind = 6 := by omega
  rcases h6 with hk | hk | hk | hk | hk | hk
  · obtain ⟨t, h1, h2⟩ := enter_c h s x hk; exact ⟨141, t, by simpa [hk] using h1, by simp [hk], has141, h2⟩
  · obtain ⟨t, h1, h2⟩ := leave_c h s x hk; exact ⟨142, t, by simpa [hk] using h1, by simp [hk], has142, h2⟩
  · obtain ⟨t, h1, h2⟩ := lend_c h s x hk; exact ⟨143, t, by simpa [hk] using h1, by simp [hk], has143, h2⟩
  · obtain ⟨t, h1, h2⟩ := back_c h s x hk; exact ⟨144, t, by simpa [hk] using h1, by simp [hk], has144, h2⟩
  · obtain ⟨t, h1, h2⟩ := secure_c h s x hk; exact ⟨145, t, by simpa [hk] using h1, by simp [hk], has145, h2⟩
  · obtain ⟨t, h1, h2⟩ := free_c h s x hk; exact ⟨146, t, by simpa [hk] using h1, by simp [hk], has146, h2⟩


theorem next_c (h : Ro) (s : Sta) (x : Ent) (hk : 1 ≤ x.kind ∧ x.kind ≤ 6) : ∃ t, (fits s x = 0 → t = after s x) ∧ Val Tryz.prog 101 #[staV s, entV x] h (.tuple #[staV t, .int .i64 (fits s x)]) := by
  obtain ⟨f, t, h1, h2, h3, h4⟩ := eff_c h s x hk
  refine ⟨if x.kind ≤ 4 then { t with day := x.day, left := decide (x.kind = 2) } else t, fun hf => ?_, ?_⟩
  · rw [h1 hf]; unfold after; grind
  refine Val_intro (args := [_, _]) ts_ok Go.Proofs.Tryz.func101 rfl rfl fun w0 X0 => ?_
  have hl : lookA x.kind [((1 : Int), Value.func (.func 141) #[staV s] #[]), (2, Value.func (.func 142) #[staV s] #[]), (3, Value.func (.func 143) #[staV s] #[]), (4, Value.func (.func 144) #[staV s] #[]), (5, Value.func (.func 145) #[staV s] #[]), (6, Value.func (.func 146) #[staV s] #[])] = some (Value.func (.func f) #[staV s] #[]) := by
    have h6 : x.kind = 1 ∨ x.kind = 2 ∨ x.kind = 3 ∨ x.kind = 4 ∨ x.kind = 5 ∨ x.kind = 6 := by omega
    rcases h6 with hk | hk | hk | hk | hk | hk <;> simp [hk, lookA, h2]
  repeat' (first | apply GO_seq | apply GO_skip | apply GO_region | apply GOl_nil | (apply GOl_pv; exact rfl; exact rfl; exact rfl) | (apply GOl_load; exact rfl; exact Ld_blk rfl (by (repeat (first | exact List.Mem.head _ | apply List.Mem.tail)); done) rfl; exact rfl; exact rfl) | (apply GOl_ov; exact rfl; exact rfl; (first | (apply OV_lookup (ek := fun i : Int => .int .i64 i) (ev := fun v : Value => v) K3; exact rfl; exact rfl; exact rfl; exact rfl; exact rfl; exact hl)); exact (by repeat' (first | exact trivial | apply And.intro | exact List.Mem.head _ | apply List.Mem.tail))) | (apply GOl_to; exact rfl; exact rfl; exact rfl; (first | (apply OpTo_store; exact rfl; exact rfl; exact rfl; exact (by (repeat (first | exact Repl.here | apply Repl.there)); done); exact rfl; exact rfl; exact rfl; skip) | (apply OpTo_box; exact rfl; intro b; skip) | (apply OpTo_alloc; exact rfl; intro b; skip) | (apply OpTo_makeMap (fun i : Int => .int .i64 i) (fun v : Value => v); intro b1; skip) | (apply OpTo_insert (ek := fun i : Int => .int .i64 i) (ev := fun v : Value => v) K3; exact rfl; exact rfl; exact rfl; exact rfl; exact rfl; exact rfl; exact (by (repeat (first | exact Repl.here | apply Repl.there)); done); skip) | (apply OpTo_valF (f := f) (fs := [staV s]) (cs := []); exact rfl; exact rfl; exact h3; exact h4; skip) | (apply OpTo_val; exact rfl; exact has81; exact moves_c _ x; skip))) | (apply GO_drawp (n := 4) [0, 1, 5, 6, 2, 3, 4, 7, 8] [(0, 0), (1, 0), (2, 0), (3, 0), (4, 0), (5, 0), (6, 1), (7, 0), (8, 1)]; kernel_rfl) | (apply GP_pv; exact rfl; kernel_rfl; exact rfl; exact rfl; exact rfl) | (apply GP_loadB; exact rfl; kernel_rfl; exact rfl; exact rfl; exact rfl; exact (by (repeat (first | exact List.Mem.head _ | apply List.Mem.tail)); done); exact rfl; exact rfl) | (apply GP_real; exact rfl; kernel_rfl; exact rfl; exact rfl; exact rfl; (first | (apply OpTo_store; exact rfl; exact rfl; exact rfl; exact (by (repeat (first | exact Repl.here | apply Repl.there)); done); exact rfl; exact rfl; exact rfl; refine ⟨Le.refl _, by (first | exact NdOk_no rfl | (apply NdOk_all; (repeat' (first | exact trivial | apply And.intro | exact List.Mem.head _ | apply List.Mem.tail)); done) | (apply NdOk_need; (repeat' (first | exact trivial | apply And.intro | exact List.Mem.head _ | apply List.Mem.tail)); done)), ?_⟩))) | (apply GP_done; kernel_rfl; exact rfl) | (apply GO_cond; exact rfl; all_goals intro hc; all_goals try simp only [ltI_t, ltI_f, leI_t, leI_f, eqI_t, eqI_f, Bool.not_eq_true', Bool.not_eq_false', decide_eq_true_eq, decide_eq_false_iff_not, reduceCtorEq] at hc; all_goals try (exfalso; omega)) | (apply GO_retC2; exact rfl; exact rfl; exact rfl; exact (by (repeat (first | exact List.Mem.head _ | apply List.Mem.tail)); done); exact rfl; exact rfl; exact rfl))
  · rw [if_pos hc, eqI_eq]; rfl
  · rw [if_neg (by omega)]; rfl

end Go.Hw
set_option linter.unusedVariables false
set_option linter.unusedSimpArgs false
set_option maxRecDepth 100000
set_option maxHeartbeats 1600000
namespace Go.Hw
open Go
attribute [local irreducible] GO GOl GDp Val Fn Res CellsAt ValE
open Go.Proofs (Tryz.prog)

/-- A book: its own block, its map, its entries. -/
def Book (bb mb : Nat) (lg d : Int) (s : Rsh) (v : Value) (m : List (Int × Sta)) (l : List Ent) : List Asn :=
  [Blk bb 135 [.int .i64 lg, .slice s.ac s.nc s.cc, .int .i64 d, v, .map (some mb)], PlA mb m, OwnS 98 7 v l.length (l.flatMap encE)]
def addS (clubs : List Int) (d : Int) (n : Nat) (st : Sta) (x : Ent) : Int := if 65536 ≤ n then 2 else if ¬ ValidX clubs d x then 360 else fits st x

theorem kind_of_valid {clubs : List Int} {d : Int} {x : Ent} (h : ValidX clubs d x) : 1 ≤ x.kind ∧ x.kind ≤ 6 := by unfold ValidX at h; omega


theorem addB_c (h : Ro) (bb mb : Nat) (lg d : Int) (s : Rsh) (v : Value) (m : List (Int × Sta)) (l : List Ent) (x : Ent) (clubs : List Int) (hr : SlOf encI 1 h s.ac s.nc clubs) (hn : s.nc ≤ 1000000000) :
    Fn Tryz.prog 78 #[.pointer (some ⟨bb, 0, none⟩), entV x] (Book bb mb lg d s v m l) h fun u Es _ => u = .int .i64 (addS clubs d l.length ((lookA x.player m).getD st0) x) ∧
      ((addS clubs d l.length ((lookA x.player m).getD st0) x = 0 ∧ ∃ A' c', Es = Book bb mb lg x.day s (.slice A' (l.length + 1) c') (insA x.player (after ((lookA x.player m).getD st0) x) m) (l ++ [x])) ∨ (addS clubs d l.length ((lookA x.player m).getD st0) x ≠ 0 ∧ Es = [])) := by
  refine Fn_intro (args := [_, _]) ts_ok Go.Proofs.Tryz.func78 rfl rfl fun w0 X0 => ?_
  unfold Book
  refine GO_openS (by (repeat (first | exact List.Mem.head _ | apply List.Mem.tail)); done) ?_
  rintro A c rfl
  obtain ⟨t, ht1, ht2⟩ : ∃ t, (ValidX clubs d x → fits ((lookA x.player m).getD st0) x = 0 → t = after ((lookA x.player m).getD st0) x) ∧ (ValidX clubs d x → Val Tryz.prog 101 #[staV ((lookA x.player m).getD st0), entV x] h (.tuple #[staV t, .int .i64 (fits ((lookA x.player m).getD st0) x)])) := by
    by_cases hV : ValidX clubs d x
    · obtain ⟨t, ht1, ht2⟩ := next_c h ((lookA x.player m).getD st0) x (kind_of_valid hV)
      exact ⟨t, fun _ => ht1, fun _ => ht2⟩
    · exact ⟨st0, fun h => absurd h hV, fun h => absurd h hV⟩
  repeat' (first | apply GO_seq | apply GO_skip | apply GO_inBlock | apply GO_block | apply GO_region | apply GOl_nil | (apply GOl_pv; exact rfl; exact rfl; exact rfl) | (apply GOl_load; exact rfl; exact Ld_blk rfl (by (repeat (first | exact List.Mem.head _ | apply List.Mem.tail)); done) rfl; exact rfl; exact rfl) | (apply GOl_to; exact rfl; exact rfl; exact rfl; (first | (apply OpTo_store; exact rfl; exact rfl; exact rfl; exact (by (repeat (first | exact Repl.here | apply Repl.there)); done); exact rfl; exact rfl; exact rfl; skip) | (apply OpTo_box; exact rfl; intro b; skip))) | (apply GO_drawp (n := 3) [0, 1, 2, 3, 4, 5, 6] [(0, 0), (1, 0), (2, 0), (3, 0), (4, 1), (5, 0), (6, 0)]; kernel_rfl) | (apply GO_drawp (n := 5) [0, 1, 2, 3, 4, 5, 6, 7, 8, 9, 11, 12, 10, 13] [(0, 0), (1, 0), (2, 0), (3, 0), (4, 0), (6, 0), (5, 2), (14, 11), (7, 2), (6, 11), (8, 0), (9, 0), (10, 0), (11, 1), (12, 1), (13, 0), (7, 1), (8, 0), (9, 0), (10, 0), (12, 1), (13, 0), (5, 1), (7, 1), (8, 0), (9, 0), (10, 0), (12, 1), (13, 0)]; kernel_rfl) | (apply GO_drawp (n := 8) [0, 1, 2, 3, 4, 5, 6, 7] [(0, 0), (1, 0), (2, 0), (3, 0), (4, 0), (5, 0), (6, 0), (7, 1)]; kernel_rfl) | (apply GO_drawp (n := 9) [0, 1, 2, 3, 4, 5, 6, 7, 8, 9, 10, 11, 12] [(0, 0), (1, 0), (2, 0), (3, 0), (4, 0), (5, 0), (6, 0), (7, 1), (8, 1), (9, 0), (10, 0), (11, 0), (12, 1)]; kernel_rfl) | (apply GP_pv; exact rfl; kernel_rfl; exact rfl; exact rfl; exact rfl) | (apply GP_loadB; exact rfl; kernel_rfl; exact rfl; exact rfl; exact rfl; exact (by (repeat (first | exact List.Mem.head _ | apply List.Mem.tail)); done); exact rfl; exact rfl) | (apply GP_real; exact rfl; kernel_rfl; exact rfl; exact rfl; exact rfl; (first | (apply OpTo_store; exact rfl; exact rfl; exact rfl; exact (by (repeat (first | exact Repl.here | apply Repl.there)); done); exact rfl; exact rfl; exact rfl; refine ⟨Le.refl _, by (first | exact NdOk_no rfl | (apply NdOk_all; (repeat' (first | exact trivial | apply And.intro | exact List.Mem.head _ | apply List.Mem.tail)); done) | (apply NdOk_need; (repeat' (first | exact trivial | apply And.intro | exact List.Mem.head _ | apply List.Mem.tail)); done)), ?_⟩) | (apply OpTo_alloc; exact rfl; intro b; refine ⟨Le.refl _, by (first | exact NdOk_no rfl | (apply NdOk_all; (repeat' (first | exact trivial | apply And.intro | exact List.Mem.head _ | apply List.Mem.tail)); done) | (apply NdOk_need; (repeat' (first | exact trivial | apply And.intro | exact List.Mem.head _ | apply List.Mem.tail)); done)), ?_⟩) | (apply OpTo_val; exact rfl; exact has100; exact validB_c _ ⟨s.ac, s.nc, s.cc, A, l.length, c⟩ ⟨lg, clubs, d, l⟩ hr hn lg d _ x; refine ⟨Le.refl _, by (first | exact NdOk_no rfl | (apply NdOk_all; (repeat' (first | exact trivial | apply And.intro | exact List.Mem.head _ | apply List.Mem.tail)); done) | (apply NdOk_need; (repeat' (first | exact trivial | apply And.intro | exact List.Mem.head _ | apply List.Mem.tail)); done)), ?_⟩) | (apply OpTo_valP; exact rfl; exact has41; exact status_c _ lg d ⟨s.ac, s.nc, s.cc, A, l.length, c⟩ _ mb m x.player; exact (by (repeat (first | exact Takes_nil | (apply Takes_cons; exact (by (repeat (first | exact Take.here | apply Take.there)); done)))); done); refine ⟨Le.refl _, by (first | exact NdOk_no rfl | (apply NdOk_all; (repeat' (first | exact trivial | apply And.intro | exact List.Mem.head _ | apply List.Mem.tail)); done) | (apply NdOk_need; (repeat' (first | exact trivial | apply And.intro | exact List.Mem.head _ | apply List.Mem.tail)); done)), ?_⟩) | (apply OpTo_val; exact rfl; exact has101; exact ht2 (by assumption); refine ⟨Le.refl _, by (first | exact NdOk_no rfl | (apply NdOk_all; (repeat' (first | exact trivial | apply And.intro | exact List.Mem.head _ | apply List.Mem.tail)); done) | (apply NdOk_need; (repeat' (first | exact trivial | apply And.intro | exact List.Mem.head _ | apply List.Mem.tail)); done)), ?_⟩) | (apply OpTo_mapUpdate (ek := fun i : Int => .int .i64 i) (ev := staV) K3; exact rfl; exact rfl; exact rfl; exact rfl; exact rfl; exact rfl; exact (by (repeat (first | exact Repl.here | apply Repl.there)); done); refine ⟨Le.refl _, by (first | exact NdOk_no rfl | (apply NdOk_all; (repeat' (first | exact trivial | apply And.intro | exact List.Mem.head _ | apply List.Mem.tail)); done) | (apply NdOk_need; (repeat' (first | exact trivial | apply And.intro | exact List.Mem.head _ | apply List.Mem.tail)); done)), ?_⟩) | (apply OpTo_buildSliceR; exact rfl; exact rfl; exact rfl; exact List.cons_ne_nil _ _; exact rfl; exact rfl; exact rfl; exact rfl; intro b1 h1 hle1 hcs1; refine ⟨hle1, by (first | exact NdOk_no rfl | (apply NdOk_all; (repeat' (first | exact trivial | apply And.intro | exact List.Mem.head _ | apply List.Mem.tail)); done) | (apply NdOk_need; (repeat' (first | exact trivial | apply And.intro | exact List.Mem.head _ | apply List.Mem.tail)); done)), ?_⟩) | (apply OpTo_appendQ; exact rfl; exact rfl; exact rfl; exact rfl; exact rfl; exact rfl; exact rfl; exact hcs1; intro v1; exact (by (repeat (first | exact Repl.here | apply Repl.there)); done); exact rfl; exact allOne_ok rfl; omega; exact rfl; intro A1 c1; refine ⟨Le.refl _, by (first | exact NdOk_no rfl | (apply NdOk_all; (repeat' (first | exact trivial | apply And.intro | exact List.Mem.head _ | apply List.Mem.tail)); done) | (apply NdOk_need; (repeat' (first | exact trivial | apply And.intro | exact List.Mem.head _ | apply List.Mem.tail)); done)), ?_⟩))) | (apply GP_two; kernel_rfl; exact rfl; exact rfl) | (apply RealP_intro; exact rfl; exact rfl; exact rfl; exact rfl; (first | (apply OpTo_alloc; exact rfl; intro b; refine ⟨Le.refl _, by (first | exact NdOk_no rfl | (apply NdOk_all; (repeat' (first | exact trivial | apply And.intro | exact List.Mem.head _ | apply List.Mem.tail)); done) | (apply NdOk_need; (repeat' (first | exact trivial | apply And.intro | exact List.Mem.head _ | apply List.Mem.tail)); done)), ?_⟩) | (apply OpTo_valP; exact rfl; exact has41; exact status_c _ lg d ⟨s.ac, s.nc, s.cc, A, l.length, c⟩ _ mb m x.player; exact (by (repeat (first | exact Takes_nil | (apply Takes_cons; exact (by (repeat (first | exact Take.here | apply Take.there)); done)))); done); refine ⟨Le.refl _, by (first | exact NdOk_no rfl | (apply NdOk_all; (repeat' (first | exact trivial | apply And.intro | exact List.Mem.head _ | apply List.Mem.tail)); done) | (apply NdOk_need; (repeat' (first | exact trivial | apply And.intro | exact List.Mem.head _ | apply List.Mem.tail)); done)), ?_⟩) | (apply OpTo_val; exact rfl; exact has101; exact ht2 (by assumption); refine ⟨Le.refl _, by (first | exact NdOk_no rfl | (apply NdOk_all; (repeat' (first | exact trivial | apply And.intro | exact List.Mem.head _ | apply List.Mem.tail)); done) | (apply NdOk_need; (repeat' (first | exact trivial | apply And.intro | exact List.Mem.head _ | apply List.Mem.tail)); done)), ?_⟩))) | (apply GP_done; kernel_rfl; exact rfl) | (apply GO_cond; exact rfl; all_goals intro hc; all_goals try simp only [ltI_t, ltI_f, leI_t, leI_f, eqI_t, eqI_f, Bool.not_eq_true', Bool.not_eq_false', decide_eq_true_eq, decide_eq_false_iff_not, reduceCtorEq] at hc; all_goals try (exfalso; omega)))
  all_goals
    first
    | (have hcl : 65536 ≤ l.length := by omega
       have e : addS clubs d l.length ((lookA x.player m).getD st0) x = 2 := by rw [addS, if_pos (by omega)]
       refine GO_retS1 (Fs := []) rfl rfl rfl (by (repeat (first | exact List.Sublist.refl _ | exact List.nil_sublist _ | apply List.Sublist.cons_cons | apply List.Sublist.cons)); done) ?_
       rw [e]; exact ⟨rfl, .inr ⟨by decide, rfl⟩⟩)
    | (have hcl : l.length < 65536 := by omega
       have hcv : ¬ ValidX clubs d x := by assumption
       have e : addS clubs d l.length ((lookA x.player m).getD st0) x = 360 := by rw [addS, if_neg (by omega), if_pos hcv]
       refine GO_retS1 (Fs := []) rfl rfl rfl (by (repeat (first | exact List.Sublist.refl _ | exact List.nil_sublist _ | apply List.Sublist.cons_cons | apply List.Sublist.cons)); done) ?_
       rw [e]; exact ⟨rfl, .inr ⟨by decide, rfl⟩⟩)
    | (have hcl : l.length < 65536 := by omega
       have hcv : ValidX clubs d x := by assumption
       have hcf : fits ((lookA x.player m).getD st0) x ≠ 0 := by omega
       have e : addS clubs d l.length ((lookA x.player m).getD st0) x = fits ((lookA x.player m).getD st0) x := by rw [addS, if_neg (by omega), if_neg (by simpa using hcv)]
       refine GO_retS1 (Fs := []) rfl rfl rfl (by (repeat (first | exact List.Sublist.refl _ | exact List.nil_sublist _ | apply List.Sublist.cons_cons | apply List.Sublist.cons)); done) ?_
       rw [e]; exact ⟨rfl, .inr ⟨hcf, rfl⟩⟩)
    | (have hcl : l.length < 65536 := by omega
       have hcv : ValidX clubs d x := by assumption
       have hcf : fits ((lookA x.player m).getD st0) x = 0 := by omega
       have e : addS clubs d l.length ((lookA x.player m).getD st0) x = fits ((lookA x.player m).getD st0) x := by rw [addS, if_neg (by omega), if_neg (by simpa using hcv)]
       refine GO_retS1 rfl rfl rfl (.cons _ (.cons _ (List.Sublist.refl _))) ?_
       rw [e, hcf]; refine ⟨rfl, .inl ⟨rfl, A1, c1, ?_⟩⟩
       rw [← ht1 hcv hcf]
       simp [List.flatMap_append, encE]
       exact ⟨rfl, rfl⟩)


end Go.Hw
set_option linter.unusedVariables false
set_option linter.unusedSimpArgs false
set_option maxRecDepth 100000
set_option maxHeartbeats 1600000
namespace Go.Hw
open Go
attribute [local irreducible] GO GOl GDp Val Fn Res CellsAt ValE Blk OwnS MapA
open Go.Proofs (Tryz.prog)

def mapOf (l : List Ent) : List (Int × Sta) := l.foldl (fun m x => insA x.player (after ((lookA x.player m).getD st0) x) m) []
theorem mapOf_snoc (l : List Ent) (x : Ent) : mapOf (l ++ [x]) = insA x.player (after ((lookA x.player (mapOf l)).getD st0) x) (mapOf l) := by
  simp [mapOf, List.foldl_append]
theorem lookA_insA {κ α : Type} [DecidableEq κ] (x y : κ) (a : α) : ∀ (m : List (κ × α)), lookA y (insA x a m) = if x = y then some a else lookA y m
  | [] => by simp [insA, lookA]
  | (z, b) :: r => by
    by_cases hz : z = x
    · subst hz
      by_cases hy : z = y
      · simp [insA, lookA, hy]
      · simp [insA, lookA, hy]
    · by_cases hy : z = y
      · subst hy
        simp [insA, lookA, hz, Ne.symm hz]
      · simp [insA, lookA, hz, hy, lookA_insA x y a r]
theorem ofL_snoc (l : List Ent) (x : Ent) (p : Int) : ofL (l ++ [x]) p = if x.player = p then after (ofL l p) x else ofL l p := by
  simp [ofL, List.foldl_append]
theorem rev_ind {α : Type} {P : List α → Prop} (h0 : P []) (h1 : ∀ l x, P l → P (l ++ [x])) (l : List α) : P l := by
  have : ∀ n (l : List α), l.length = n → P l := by
    intro n
    induction n with
    | zero => intro l e; rw [List.length_eq_zero_iff.1 e]; exact h0
    | succ n ih =>
      intro l e
      have hne : l ≠ [] := by intro e2; simp [e2] at e
      rw [← List.dropLast_concat_getLast hne]
      exact h1 _ _ (ih _ (by simp [e]))
  exact this _ l rfl
theorem mapOf_look (l : List Ent) (p : Int) : (lookA p (mapOf l)).getD st0 = ofL l p := by
  induction l using rev_ind with
  | h0 => rfl
  | h1 l x ih =>
    rw [mapOf_snoc, lookA_insA, ofL_snoc]
    by_cases h : x.player = p
    · subst h; simp [ih]
    · simp [h, ih]

/-- The day of a registry's book, if all entries fit. -/
def bookOf (clubs : List Int) : Int → List Ent → List Ent → Option Int
  | d, _, [] => some d
  | d, acc, y :: r => if addE clubs d acc y = 0 then bookOf clubs y.day (acc ++ [y]) r else none
def RegGood (r : Reg) : Prop := OpenOk r.league r.clubs ∧ bookOf r.clubs 0 [] r.ents = some r.day
theorem addS_eq (clubs : List Int) (d : Int) (l : List Ent) (x : Ent) : addS clubs d l.length ((lookA x.player (mapOf l)).getD st0) x = addE clubs d l x := by
  rw [mapOf_look]; rfl
theorem drop_consE {xs : List Ent} {k n : Nat} (hlen : xs.length = n) (hk : k < n) : xs.drop k = xs.getD k ⟨0,0,0,0,0,0,0⟩ :: xs.drop (k + 1) := by
  rw [List.drop_eq_getElem_cons (by omega)]; simp [List.getD, List.getElem?_eq_getElem (show k < xs.length by omega)]
theorem take_snocE {xs : List Ent} {k n : Nat} (hlen : xs.length = n) (hk : k < n) : xs.take (k + 1) = xs.take k ++ [xs.getD k ⟨0,0,0,0,0,0,0⟩] := by
  rw [List.take_succ_eq_append_getElem (by omega)]; simp [List.getD, List.getElem?_eq_getElem (show k < xs.length by omega)]

def openPost (r : Reg) (s : Rsh) : Value → List Asn → Ro → Prop := fun v Es h' =>
  (RegGood r ∧ ∃ bb mb A c, v = .tuple #[.pointer (some ⟨bb, 0, none⟩), .bool true] ∧ Es = Book bb mb r.league r.day s (.slice A r.ents.length c) (mapOf r.ents) r.ents) ∨
  (¬ RegGood r ∧ ∃ p, v = .tuple #[.pointer p, .bool false] ∧ Es = [])


theorem open_c (h : Ro) (s : Rsh) (r : Reg) (hr : RegAt h s r) : Fn Tryz.prog 40 #[regV r.league r.day s] [] h (openPost r s) := by
  refine Fn_intro (args := [_]) ts_ok Go.Proofs.Tryz.func40 rfl rfl fun w0 X0 => ?_
  have hlen := hr.ents.len
  have hne := hr.ne
  by_cases hO : OpenOk r.league r.clubs
  · repeat' (first | apply GO_seq | apply GO_skip | apply GO_block | apply GO_region | apply GOl_nil | (apply GOl_pv; exact rfl; exact rfl; exact rfl) | (apply GOl_load; exact rfl; exact Ld_blk rfl (by (repeat (first | exact List.Mem.head _ | apply List.Mem.tail)); done) rfl; exact rfl; exact rfl) | (apply GOl_to; exact rfl; exact rfl; exact rfl; (first | (apply OpTo_store; exact rfl; exact rfl; exact rfl; exact (by (repeat (first | exact Repl.here | apply Repl.there)); done); exact rfl; exact rfl; exact rfl; skip) | (apply OpTo_box; exact rfl; intro b; skip) | (apply OpTo_alloc; exact rfl; intro b; skip) | (apply OpTo_val; exact rfl; exact has32; (have := new_c h r.league _ _ s.cc r.clubs hr.clubs hr.nc; rw [if_pos hO] at this; exact this); skip) | (apply OpTo_makeMap (fun i : Int => .int .i64 i) staV; intro b1; skip))) | (apply GO_cond; exact rfl; all_goals intro hc; all_goals try simp only [ltI_t, ltI_f, leI_t, leI_f, eqI_t, eqI_f, Bool.not_eq_true', Bool.not_eq_false', decide_eq_true_eq, decide_eq_false_iff_not, reduceCtorEq] at hc; all_goals try (exfalso; omega)))
    rename_i b0 b2
    rename Nat => bB
    refine GO_nilS 98 7 ?_
    refine GO_loopT (X := Nat × Int × Value × Ro) (fun x => x.1 ≤ s.ne ∧ Le h x.2.2.2 ∧ bookOf r.clubs 0 [] r.ents = bookOf r.clubs x.2.1 (r.ents.take x.1) (r.ents.drop x.1)) (fun x => s.ne - x.1)
      (fun x => [(25, .int .i64 x.1), (24, .int .i64 s.ne), (23, .slice s.ae s.ne s.ce), (2, .pointer (some ⟨bB, 0, none⟩)), (1, .pointer (some ⟨b0, 0, none⟩))])
      (fun x => [Blk bB 135 [.int .i64 r.league, .slice s.ac s.nc s.cc, .int .i64 x.2.1, x.2.2.1, .map (some b1)], PlA b1 (mapOf (r.ents.take x.1)), OwnS 98 7 x.2.2.1 (r.ents.take x.1).length ((r.ents.take x.1).flatMap encE), Blk b0 61 (partL (regV r.league r.day s))]) (fun x => x.2.2.2) (0, 0, .slice none 0 0, h) ?_ (by (repeat (first | exact trivial | refine ⟨rfl, ?_⟩)); done) (by (repeat (first | exact Takes_nil | (apply Takes_cons; exact (by (repeat (first | exact Take.here | apply Take.there)); done)))); done) rfl ?_
    · exact ⟨by omega, Le.refl _, rfl⟩
    rintro ⟨k, d, v, hk⟩ ⟨hkn, hlk, hI⟩ ih
    dsimp only at hkn hlk hI ih ⊢
    have e0 : (r.ents.take k).length = k := by simp; omega
    repeat' (first | apply GO_seq | apply GO_skip | apply GO_block | apply GO_region | apply GOl_nil | (apply GO_exit; exact rfl) | (apply GOl_pv; exact rfl; exact rfl; exact rfl) | (apply GO_drawp (n := 11) [0, 1, 2, 3, 4, 5, 6, 7, 8, 9, 10] [(0, 0), (1, 0), (2, 0), (3, 0), (4, 0), (5, 0), (6, 0), (7, 0), (8, 0), (9, 0), (10, 0)]; kernel_rfl) | (apply GP_pv; exact rfl; kernel_rfl; exact rfl; exact rfl; exact rfl) | (apply GP_loadB; exact rfl; kernel_rfl; exact rfl; exact rfl; exact rfl; exact (by (repeat (first | exact List.Mem.head _ | apply List.Mem.tail)); done); exact rfl; exact rfl) | (apply GP_done; kernel_rfl; exact rfl) | (apply GO_cond; exact rfl; all_goals intro hc; all_goals try simp only [ltI_t, ltI_f, leI_t, leI_f, eqI_t, eqI_f, Bool.not_eq_true', Bool.not_eq_false', decide_eq_true_eq, decide_eq_false_iff_not, reduceCtorEq] at hc; all_goals try (exfalso; omega)))
    · have hkn2 : k < s.ne := by omega
      have hcl : SlOf encI 1 hk s.ac s.nc r.clubs := hr.clubs.le hlk
      obtain ⟨ad, had⟩ := hr.ents.addr (by omega)
      have hents := hr.ents
      rw [had] at hents ⊢
      have c1 := (hents.cells ⟨0,0,0,0,0,0,0⟩ hkn2).le hlk
      have eS := addS_eq r.clubs d (r.ents.take k) (r.ents.getD k ⟨0,0,0,0,0,0,0⟩)
      repeat' (first | apply GO_seq | apply GO_skip | apply GO_inBlock | apply GO_region | apply GOl_nil | (apply GOl_add; exact rfl; exact rfl; exact rfl; omega; exact rfl; exact rfl) | (apply GOl_pv; exact rfl; exact rfl; exact rfl) | (apply GOl_load; exact rfl; exact Ld_blk rfl (by (repeat (first | exact List.Mem.head _ | apply List.Mem.tail)); done) rfl; exact rfl; exact rfl) | (apply GOl_ov; exact rfl; exact rfl; (first | (apply OV_load; exact rfl; first | exact Lv_ro rfl (by assumption) rfl | exact Lv_roF rfl (by assumption) rfl | exact Lv_roF2 rfl (by assumption) rfl | exact Lv_roF3 rfl (by assumption) rfl) | (apply OV_idx; exact rfl; exact rfl; exact rfl; exact rfl; exact rfl; exact rfl; first | assumption | omega)); exact (by repeat' (first | exact trivial | apply And.intro | exact List.Mem.head _ | apply List.Mem.tail))) | (apply GOl_to; exact rfl; exact rfl; exact rfl; (first | (apply OpTo_store; exact rfl; exact rfl; exact rfl; exact (by (repeat (first | exact Repl.here | apply Repl.there)); done); exact rfl; exact rfl; exact rfl; skip) | (apply OpTo_alloc; exact rfl; intro b; skip) | (apply OpTo_callP; exact rfl; exact has78; exact addB_c hk bB b1 r.league d s v (mapOf (r.ents.take k)) (r.ents.take k) (r.ents.getD k ⟨0,0,0,0,0,0,0⟩) r.clubs hcl hr.nc; exact (by (repeat (first | exact Takes_nil | (apply Takes_cons; exact (by (repeat (first | exact Take.here | apply Take.there)); done)))); done); rintro va Ea ha hla ⟨rfl, (⟨h0, A', c', rfl⟩ | ⟨h0, rfl⟩)⟩; all_goals skip))) | (apply GO_cond; exact rfl; all_goals intro hc; all_goals try simp only [ltI_t, ltI_f, leI_t, leI_f, eqI_t, eqI_f, Bool.not_eq_true', Bool.not_eq_false', decide_eq_true_eq, decide_eq_false_iff_not, reduceCtorEq] at hc; all_goals try (exfalso; omega)))
      rotate_left
      · refine GO_retS2 (Fs := []) rfl rfl rfl rfl (List.nil_sublist _) (.inr ⟨?_, none, rfl, rfl⟩)
        rintro ⟨_, hb⟩
        rw [hI, drop_consE hlen hkn2, bookOf, if_neg (by rw [← eS]; exact h0)] at hb
        cases hb
      · have h2 := ih (k + 1, (r.ents.getD k ⟨0,0,0,0,0,0,0⟩).day, .slice A' ((r.ents.take k).length + 1) c', ha) ⟨by show k + 1 ≤ s.ne; omega, hlk.trans hla, ?_⟩ (by show s.ne - (k + 1) < s.ne - k; omega)
        · dsimp only at h2
          rw [take_snocE hlen hkn2, mapOf_snoc] at h2
          rw [had] at h2
          refine GO_fit (by (repeat (first | exact trivial | refine ⟨rfl, ?_⟩)); done) (by (repeat (first | exact Takes_nil | (apply Takes_cons; exact (by (repeat (first | exact Take.here | apply Take.there)); done)))); done) (h2)
        · show _ = bookOf r.clubs (r.ents.getD k ⟨0,0,0,0,0,0,0⟩).day (r.ents.take (k + 1)) (r.ents.drop (k + 1))
          rw [hI, drop_consE hlen hkn2, bookOf, if_pos (by rw [← eS]; exact h0), take_snocE hlen hkn2]
    · have hke : k = s.ne := by omega
      have ht : r.ents.take k = r.ents := List.take_of_length_le (by omega)
      have hd : r.ents.drop k = [] := List.drop_eq_nil_of_le (by omega)
      rw [ht]
      rw [ht, hd] at hI
      refine GO_openS (by (repeat (first | exact List.Mem.head _ | apply List.Mem.tail)); done) ?_
      rintro A c rfl
      by_cases hdd : d = r.day
      · refine GO_retS2 rfl rfl rfl rfl (.cons_cons _ (.cons_cons _ (.cons_cons _ (List.nil_sublist _)))) (.inl ⟨⟨hO, by rw [hI, bookOf, hdd]⟩, bB, b1, A, c, ?_, ?_⟩)
        · rw [eqI_eq, decide_eq_true hdd]; try rfl
        · rw [hdd]; try rfl
      · refine GO_retS2 (Fs := []) rfl rfl rfl rfl (List.nil_sublist _) (.inr ⟨?_, some ⟨bB, 0, none⟩, ?_, rfl⟩)
        · rintro ⟨_, hb⟩; rw [hI, bookOf] at hb; injection hb with hb; first | exact hdd hb | skip
        · rw [eqI_eq, decide_eq_false hdd]; try rfl
  · repeat' (first | apply GO_seq | apply GO_region | apply GOl_nil | (apply GOl_pv; exact rfl; exact rfl; exact rfl) | (apply GOl_load; exact rfl; exact Ld_blk rfl (by (repeat (first | exact List.Mem.head _ | apply List.Mem.tail)); done) rfl; exact rfl; exact rfl) | (apply GOl_to; exact rfl; exact rfl; exact rfl; (first | (apply OpTo_store; exact rfl; exact rfl; exact rfl; exact (by (repeat (first | exact Repl.here | apply Repl.there)); done); exact rfl; exact rfl; exact rfl; skip) | (apply OpTo_box; exact rfl; intro b; skip) | (apply OpTo_alloc; exact rfl; intro b; skip) | (apply OpTo_val; exact rfl; exact has32; (have := new_c h r.league _ _ s.cc r.clubs hr.clubs hr.nc; rw [if_neg hO] at this; exact this); skip))) | (apply GO_cond; exact rfl; all_goals intro hc; all_goals try simp only [ltI_t, ltI_f, leI_t, leI_f, eqI_t, eqI_f, Bool.not_eq_true', Bool.not_eq_false', decide_eq_true_eq, decide_eq_false_iff_not, reduceCtorEq] at hc; all_goals try (exfalso; omega)))
    refine GO_retS2 (Fs := []) rfl rfl rfl rfl (List.nil_sublist _) (.inr ⟨fun hg => hO hg.1, _, rfl, rfl⟩)

open Classical in


theorem check_c (h : Ro) (s : Rsh) (r : Reg) (hr : RegAt h s r) : Val Tryz.prog 38 #[regV r.league r.day s] h (.int .i64 (if RegGood r then 0 else 360)) := by
  refine Val_intro (args := [_]) ts_ok Go.Proofs.Tryz.func38 rfl rfl fun w0 X0 => ?_
  repeat' (first | apply GO_seq | apply GO_skip | apply GO_region | apply GOl_nil | (apply GOl_pv; exact rfl; exact rfl; exact rfl) | (apply GOl_load; exact rfl; exact Ld_blk rfl (by (repeat (first | exact List.Mem.head _ | apply List.Mem.tail)); done) rfl; exact rfl; exact rfl) | (apply GOl_to; exact rfl; exact rfl; exact rfl; (first | (apply OpTo_box; exact rfl; intro b; skip) | (apply OpTo_callP; exact rfl; exact has40; exact open_c h s r hr; exact (by (repeat (first | exact Takes_nil | (apply Takes_cons; exact (by (repeat (first | exact Take.here | apply Take.there)); done)))); done); rintro va Ea ha hla (⟨hg, bb, mb, A, c, rfl, rfl⟩ | ⟨hg, p, rfl, rfl⟩); all_goals skip))) | (apply GO_cond; exact rfl; all_goals intro hc; all_goals try simp only [ltI_t, ltI_f, leI_t, leI_f, eqI_t, eqI_f, Bool.not_eq_true', Bool.not_eq_false', decide_eq_true_eq, decide_eq_false_iff_not, reduceCtorEq] at hc; all_goals try (exfalso; omega)) | (apply GO_retV1; exact rfl; exact rfl; exact rfl))
  · rw [if_pos hg]
  · rw [if_neg hg]
end Go.Hw
set_option linter.unusedVariables false
set_option linter.unusedSimpArgs false
set_option maxRecDepth 100000
set_option maxHeartbeats 1600000
namespace Go.Hw
open Go
attribute [local irreducible] GO GOl GDp Val Fn Res CellsAt ValE Blk OwnS MapA
open Go.Proofs (Tryz.prog)

def reg0 : Reg := ⟨0, [], 0, []⟩
open Classical in
noncomputable def regEnter (r : Reg) (x : Ent) : Reg × Int :=
  if RegGood r then if addE r.clubs r.day r.ents x = 0 then (⟨r.league, r.clubs, x.day, r.ents ++ [x]⟩, 0) else (reg0, addE r.clubs r.day r.ents x) else (reg0, 360)
def regR (q : Reg × Int) : Value → Ro → Prop := fun v h' => ∃ s', v = .tuple #[regV q.1.league q.1.day s', .int .i64 q.2] ∧ RegAt h' s' q.1
theorem RegAt_nil (h : Ro) : RegAt h shNil reg0 := ⟨SlOf.nil, SlOf.nil, by simp [shNil], by simp [shNil]⟩
theorem addE_lt {clubs : List Int} {d : Int} {l : List Ent} {x : Ent} (h : addE clubs d l x = 0) : l.length < 65536 := by
  unfold addE at h; split at h
  · cases h
  · omega
theorem RegAt.le {h h' : Ro} {s : Rsh} {r : Reg} (a : RegAt h s r) (hl : Le h h') : RegAt h' s r := ⟨a.clubs.le hl, a.ents.le hl, a.nc, a.ne⟩


theorem regEnter_c (h : Ro) (s : Rsh) (r : Reg) (hr : RegAt h s r) (x : Ent) : Res Tryz.prog 33 #[regV r.league r.day s, entV x] h (regR (regEnter r x)) := by
  refine Res_intro (args := [_, _]) ts_ok Go.Proofs.Tryz.func33 rfl rfl fun w0 X0 => ?_
  have hlen := hr.ents.len
  have eS := addS_eq r.clubs r.day r.ents x
  have hcl : ∀ h', Le h h' → SlOf encI 1 h' s.ac s.nc r.clubs := fun h' hl => hr.clubs.le hl
  repeat' (first | apply GO_seq | apply GO_skip | apply GO_region | apply GOl_nil | (apply GOl_pv; exact rfl; exact rfl; exact rfl) | (apply GOl_load; exact rfl; exact Ld_blk rfl (by (repeat (first | exact List.Mem.head _ | apply List.Mem.tail)); done) rfl; exact rfl; exact rfl) | (apply GOl_to; exact rfl; exact rfl; exact rfl; (first | (apply OpTo_store; exact rfl; exact rfl; exact rfl; exact (by (repeat (first | exact Repl.here | apply Repl.there)); done); exact rfl; exact rfl; exact rfl; skip) | (apply OpTo_box; exact rfl; intro b; skip) | (apply OpTo_alloc; exact rfl; intro b; skip) | (apply OpTo_callP; exact rfl; exact has40; exact open_c h s r hr; exact (by (repeat (first | exact Takes_nil | (apply Takes_cons; exact (by (repeat (first | exact Take.here | apply Take.there)); done)))); done); rintro va Ea ha hla (⟨hg, bb, mb, A, c, rfl, rfl⟩ | ⟨hg, p, rfl, rfl⟩); all_goals skip) | (apply OpTo_callP; exact rfl; exact has78; exact addB_c ha bb mb r.league r.day s (.slice A r.ents.length c) (mapOf r.ents) r.ents x r.clubs (hcl _ hla) hr.nc; exact (by (repeat (first | exact Takes_nil | (apply Takes_cons; exact (by (repeat (first | exact Take.here | apply Take.there)); done)))); done); rintro va2 Ea2 ha2 hla2 ⟨rfl, (⟨h0, A', c', rfl⟩ | ⟨h0, rfl⟩)⟩; all_goals skip))) | (apply GO_cond; exact rfl; all_goals intro hc; all_goals try simp only [ltI_t, ltI_f, leI_t, leI_f, eqI_t, eqI_f, Bool.not_eq_true', Bool.not_eq_false', decide_eq_true_eq, decide_eq_false_iff_not, reduceCtorEq] at hc; all_goals try (exfalso; omega)))
  · have hlt := addE_lt (eS ▸ h0)
    refine GO_relS (enc := encE) (xs := r.ents ++ [x]) (fun _ => rfl) rfl (by (repeat (first | exact Take.here | apply Take.there)); done) ?_
    intro A2 c2 h2 hle2 e2 hs2
    injection e2 with e21 _ e23
    subst e21; subst e23
    have e : regEnter r x = (⟨r.league, r.clubs, x.day, r.ents ++ [x]⟩, 0) := by rw [regEnter, if_pos hg, if_pos (eS ▸ h0)]
    (first | (apply GO_retRC2; exact rfl; exact rfl; exact rfl; exact (by (repeat (first | exact List.Mem.head _ | apply List.Mem.tail)); done); exact rfl; exact rfl; exact rfl))
    rw [e]
    exact ⟨⟨s.ac, s.nc, s.cc, A', r.ents.length + 1, c'⟩, rfl, hcl _ (hla.trans (hla2.trans hle2)), by simpa using hs2, hr.nc, by show r.ents.length + 1 ≤ _; omega⟩
  · have e : regEnter r x = (reg0, addE r.clubs r.day r.ents x) := by rw [regEnter, if_pos hg, if_neg (eS ▸ h0)]
    (first | (apply GO_retRC2; exact rfl; exact rfl; exact rfl; exact (by (repeat (first | exact List.Mem.head _ | apply List.Mem.tail)); done); exact rfl; exact rfl; exact rfl))
    rw [e, ← eS]; exact ⟨shNil, rfl, RegAt_nil _⟩
  · have e : regEnter r x = (reg0, 360) := by rw [regEnter, if_neg hg]
    (first | (apply GO_retRC2; exact rfl; exact rfl; exact rfl; exact (by (repeat (first | exact List.Mem.head _ | apply List.Mem.tail)); done); exact rfl; exact rfl; exact rfl))
    rw [e]; exact ⟨shNil, rfl, RegAt_nil _⟩

open Classical in
noncomputable def regClub (r : Reg) (p : Int) : Int × Int × Bool :=
  if RegGood r ∧ (ofL r.ents p).owner ≠ -1 then ((ofL r.ents p).owner, if (ofL r.ents p).borrower ≠ -1 then (ofL r.ents p).borrower else (ofL r.ents p).owner, true) else (0, 0, false)
open Classical in
noncomputable def regLocked (r : Reg) (p : Int) : Int × Bool :=
  if RegGood r ∧ (ofL r.ents p).lock ≠ -1 then ((ofL r.ents p).lock, true) else (0, false)


theorem regClub_c (h : Ro) (s : Rsh) (r : Reg) (hr : RegAt h s r) (p : Int) : Val Tryz.prog 15 #[regV r.league r.day s, .int .i64 p] h (.tuple #[.int .i64 (regClub r p).1, .int .i64 (regClub r p).2.1, .bool (regClub r p).2.2]) := by
  refine Val_intro (args := [_, _]) ts_ok Go.Proofs.Tryz.func15 rfl rfl fun w0 X0 => ?_
  have hst : ∀ mb A c h', ValE Tryz.prog 41 #[.agg #[.int .i64 r.league, .slice s.ac s.nc s.cc, .int .i64 r.day, .slice A r.ents.length c, .map (some mb)], .int .i64 p] [PlA mb (mapOf r.ents)] h' (staV (ofL r.ents p)) := fun mb A c h' => by
    have := status_c h' r.league r.day ⟨s.ac, s.nc, s.cc, none, 0, 0⟩ (.slice A r.ents.length c) mb (mapOf r.ents) p; rwa [mapOf_look] at this
  repeat' (first | apply GO_seq | apply GO_skip | apply GO_region | apply GOl_nil | (apply GOl_pv; exact rfl; exact rfl; exact rfl) | (apply GOl_load; exact rfl; exact Ld_blk rfl (by (repeat (first | exact List.Mem.head _ | apply List.Mem.tail)); done) rfl; exact rfl; exact rfl) | (apply GOl_to; exact rfl; exact rfl; exact rfl; (first | (apply OpTo_store; exact rfl; exact rfl; exact rfl; exact (by (repeat (first | exact Repl.here | apply Repl.there)); done); exact rfl; exact rfl; exact rfl; skip) | (apply OpTo_box; exact rfl; intro b; skip) | (apply OpTo_alloc; exact rfl; intro b; skip) | (apply OpTo_callP; exact rfl; exact has40; exact open_c h s r hr; exact (by (repeat (first | exact Takes_nil | (apply Takes_cons; exact (by (repeat (first | exact Take.here | apply Take.there)); done)))); done); rintro va Ea ha hla (⟨hg, bb, mb, A, c, rfl, rfl⟩ | ⟨hg, p', rfl, rfl⟩); all_goals skip) | (apply OpTo_valP; exact rfl; exact has41; exact hst mb A c _; exact (by (repeat (first | exact Takes_nil | (apply Takes_cons; exact (by (repeat (first | exact Take.here | apply Take.there)); done)))); done); skip))) | (apply GO_drawp (n := 5) [0, 1, 2, 3, 4, 5, 6, 7] [(0, 0), (1, 1), (2, 0), (3, 0), (4, 0), (5, 0), (6, 0), (7, 0)]; kernel_rfl) | (apply GO_drawp (n := 7) [0, 1, 2, 3, 4, 5, 6] [(0, 0), (1, 0), (2, 0), (3, 1), (4, 0), (5, 0), (6, 0)]; kernel_rfl) | (apply GP_un; exact rfl; kernel_rfl; exact rfl; exact rfl) | (apply GP_pv; exact rfl; kernel_rfl; exact rfl; exact rfl; exact rfl) | (apply GP_loadB; exact rfl; kernel_rfl; exact rfl; exact rfl; exact rfl; exact (by (repeat (first | exact List.Mem.head _ | apply List.Mem.tail)); done); exact rfl; exact rfl) | (apply GP_ov; exact rfl; kernel_rfl; exact rfl; exact rfl; (first | (apply OV_eqlS; exact rfl; exact rfl; exact rfl; kernel_rfl; kernel_rfl)); exact (by repeat' (first | exact trivial | apply And.intro | exact List.Mem.head _ | apply List.Mem.tail))) | (apply GP_real; exact rfl; kernel_rfl; exact rfl; exact rfl; exact rfl; (first | (apply OpTo_val; exact rfl; exact has42; exact unknown_c _; refine ⟨Le.refl _, by (first | exact NdOk_no rfl | (apply NdOk_all; (repeat' (first | exact trivial | apply And.intro | exact List.Mem.head _ | apply List.Mem.tail)); done) | (apply NdOk_need; (repeat' (first | exact trivial | apply And.intro | exact List.Mem.head _ | apply List.Mem.tail)); done)), ?_⟩) | (apply OpTo_val; exact rfl; exact has43; exact plays_c _ _; refine ⟨Le.refl _, by (first | exact NdOk_no rfl | (apply NdOk_all; (repeat' (first | exact trivial | apply And.intro | exact List.Mem.head _ | apply List.Mem.tail)); done) | (apply NdOk_need; (repeat' (first | exact trivial | apply And.intro | exact List.Mem.head _ | apply List.Mem.tail)); done)), ?_⟩))) | (apply GP_done; kernel_rfl; exact rfl) | (apply GP_split; exact rfl; exact rfl; exact rfl; exact rfl; exact rfl; all_goals intro hc; all_goals try simp only [ltI_t, ltI_f, leI_t, leI_f, eqI_t, eqI_f, Bool.not_eq_true', Bool.not_eq_false', decide_eq_true_eq, decide_eq_false_iff_not, reduceCtorEq] at hc; all_goals try (exfalso; omega)) | (apply GO_cond; exact rfl; all_goals intro hc; all_goals try simp only [ltI_t, ltI_f, leI_t, leI_f, eqI_t, eqI_f, Bool.not_eq_true', Bool.not_eq_false', decide_eq_true_eq, decide_eq_false_iff_not, reduceCtorEq] at hc; all_goals try (exfalso; omega)) | (apply GO_retV3; exact rfl; exact rfl; exact rfl; exact rfl; exact rfl))
  all_goals (unfold regClub; (try simp only [eqI_eq, st0, Bool.and_eq_true, decide_eq_true_eq] at *); first | (have ho : (ofL r.ents p).owner ≠ -1 := (by omega); rw [if_pos (And.intro hg ho)] <;> rfl) | (rw [if_neg (fun h => hg h.1)] <;> rfl) | (have ho : (ofL r.ents p).owner = -1 := (by omega); rw [if_neg (fun h => h.2 ho)] <;> rfl))


theorem regLocked_c (h : Ro) (s : Rsh) (r : Reg) (hr : RegAt h s r) (p : Int) : Val Tryz.prog 35 #[regV r.league r.day s, .int .i64 p] h (.tuple #[.int .i64 (regLocked r p).1, .bool (regLocked r p).2]) := by
  refine Val_intro (args := [_, _]) ts_ok Go.Proofs.Tryz.func35 rfl rfl fun w0 X0 => ?_
  have hst : ∀ mb A c h', ValE Tryz.prog 41 #[.agg #[.int .i64 r.league, .slice s.ac s.nc s.cc, .int .i64 r.day, .slice A r.ents.length c, .map (some mb)], .int .i64 p] [PlA mb (mapOf r.ents)] h' (staV (ofL r.ents p)) := fun mb A c h' => by
    have := status_c h' r.league r.day ⟨s.ac, s.nc, s.cc, none, 0, 0⟩ (.slice A r.ents.length c) mb (mapOf r.ents) p; rwa [mapOf_look] at this
  repeat' (first | apply GO_seq | apply GO_skip | apply GO_region | apply GOl_nil | (apply GOl_pv; exact rfl; exact rfl; exact rfl) | (apply GOl_load; exact rfl; exact Ld_blk rfl (by (repeat (first | exact List.Mem.head _ | apply List.Mem.tail)); done) rfl; exact rfl; exact rfl) | (apply GOl_to; exact rfl; exact rfl; exact rfl; (first | (apply OpTo_store; exact rfl; exact rfl; exact rfl; exact (by (repeat (first | exact Repl.here | apply Repl.there)); done); exact rfl; exact rfl; exact rfl; skip) | (apply OpTo_box; exact rfl; intro b; skip) | (apply OpTo_alloc; exact rfl; intro b; skip) | (apply OpTo_callP; exact rfl; exact has40; exact open_c h s r hr; exact (by (repeat (first | exact Takes_nil | (apply Takes_cons; exact (by (repeat (first | exact Take.here | apply Take.there)); done)))); done); rintro va Ea ha hla (⟨hg, bb, mb, A, c, rfl, rfl⟩ | ⟨hg, p', rfl, rfl⟩); all_goals skip) | (apply OpTo_valP; exact rfl; exact has41; exact hst mb A c _; exact (by (repeat (first | exact Takes_nil | (apply Takes_cons; exact (by (repeat (first | exact Take.here | apply Take.there)); done)))); done); skip))) | (apply GO_cond; exact rfl; all_goals intro hc; all_goals try simp only [ltI_t, ltI_f, leI_t, leI_f, eqI_t, eqI_f, Bool.not_eq_true', Bool.not_eq_false', decide_eq_true_eq, decide_eq_false_iff_not, reduceCtorEq] at hc; all_goals try (exfalso; omega)) | (apply GO_retV2; exact rfl; exact rfl; exact rfl; exact rfl))
  all_goals (unfold regLocked; first | (rw [if_pos (by grind)]; done) | (rw [if_neg (by grind)]; done) | skip)






end Go.Hw

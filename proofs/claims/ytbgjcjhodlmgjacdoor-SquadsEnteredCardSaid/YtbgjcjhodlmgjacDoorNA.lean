import Derived.Test.YtbgjcjhodlmgjacDoorHB
import Derived.Test.YtbgjcjhodlmgjacDoorCT
/-
  The calendar and the squads' rules in plain terms.
-/
set_option linter.unusedVariables false
set_option linter.unusedSimpArgs false
namespace Go.Hw
open Go

/-! ### The calendar -/
def leapP (y : Int) : Prop := y % 4 = 0 ∧ (y % 100 ≠ 0 ∨ y % 400 = 0)
instance (y : Int) : Decidable (leapP y) := by unfold leapP; infer_instance
def lenM (y m : Int) : Int := if m = 2 then (if leapP y then 29 else 28) else if m = 4 ∨ m = 6 ∨ m = 9 ∨ m = 11 then 30 else 31
def lenY (y : Int) : Int := if leapP y then 366 else 365
/-- The days of the years from 2000 to the one before. -/
def bef (y : Int) : Int := (y - 2000) * 365 + ((y - 1) / 4 - (y - 1) / 100 + (y - 1) / 400) - 484
theorem bef_2000 : bef 2000 = 0 := by decide
theorem bef_succ (y : Int) : bef (y + 1) = bef y + lenY y := by
  unfold bef lenY
  by_cases h : leapP y
  · rw [if_pos h]; unfold leapP at h; omega
  · rw [if_neg h]; unfold leapP at h; omega
theorem lenY_pos (y : Int) : 365 ≤ lenY y ∧ lenY y ≤ 366 := by unfold lenY; split <;> omega
theorem bef_lt (y : Int) : bef y < bef (y + 1) := by rw [bef_succ]; have := lenY_pos y; omega
theorem bef_mono {a b : Int} (h : a ≤ b) : bef a ≤ bef b := by
  obtain ⟨k, rfl⟩ : ∃ k : Nat, b = a + k := ⟨(b - a).toNat, by omega⟩
  induction k with
  | zero => simp
  | succ k ih =>
    have := ih (by omega)
    have h2 := bef_lt (a + k)
    rw [show a + ((k + 1 : Nat) : Int) = a + k + 1 by omega]; omega

/-- The day of the year before a month. -/
def mon (y m : Int) : Int := if m ≤ 1 then 0 else if m = 2 then 31 else 31 + 28 + (if leapP y then 1 else 0) + (if m = 3 then 0 else if m = 4 then 31 else if m = 5 then 61 else if m = 6 then 92 else if m = 7 then 122 else if m = 8 then 153 else if m = 9 then 184 else if m = 10 then 214 else if m = 11 then 245 else if m = 12 then 275 else 306)
theorem mon_succ (y m : Int) (h1 : 1 ≤ m) (h2 : m ≤ 12) : mon y (m + 1) = mon y m + lenM y m := by
  have : m = 1 ∨ m = 2 ∨ m = 3 ∨ m = 4 ∨ m = 5 ∨ m = 6 ∨ m = 7 ∨ m = 8 ∨ m = 9 ∨ m = 10 ∨ m = 11 ∨ m = 12 := by omega
  rcases this with rfl | rfl | rfl | rfl | rfl | rfl | rfl | rfl | rfl | rfl | rfl | rfl <;> simp [mon, lenM] <;> split <;> omega
theorem mon_13 (y : Int) : mon y 13 = lenY y := by simp [mon, lenY]; split <;> omega
theorem lenM_pos (y m : Int) : 28 ≤ lenM y m ∧ lenM y m ≤ 31 := by unfold lenM; split <;> (try split) <;> omega
theorem mon_mono {y a b : Int} (h1 : 1 ≤ a) (h : a ≤ b) (h2 : b ≤ 13) : mon y a ≤ mon y b := by
  obtain ⟨k, rfl⟩ : ∃ k : Nat, b = a + k := ⟨(b - a).toNat, by omega⟩
  induction k with
  | zero => simp
  | succ k ih =>
    have := ih (by omega) (by omega)
    have h3 := mon_succ y (a + k) (by omega) (by omega)
    have h4 := lenM_pos y (a + k)
    rw [show a + ((k + 1 : Nat) : Int) = a + k + 1 by omega]; omega

/-- The date of a day. -/
structure IsDate (n y m d : Int) : Prop where
  lo : bef y + mon y m + d = n + 1
  m1 : 1 ≤ m
  m2 : m ≤ 12
  d1 : 1 ≤ d
  d2 : d ≤ lenM y m
theorem IsDate.year {n y m d : Int} (h : IsDate n y m d) : bef y ≤ n ∧ n < bef (y + 1) := by
  have h1 := mon_mono (y := y) (show (1:Int) ≤ 1 by omega) h.m1 (by have := h.m2; omega)
  have h2 := mon_succ y m h.m1 h.m2
  have h3 := mon_mono (y := y) (show (1:Int) ≤ m + 1 by have := h.m1; omega) (show m + 1 ≤ 13 by have := h.m2; omega) (by omega)
  rw [mon_13] at h3
  have e1 : mon y 1 = 0 := by simp [mon]
  have := h.lo; have := h.d1; have := h.d2
  rw [bef_succ]; omega
theorem IsDate.unique {n y m d y' m' d' : Int} (h : IsDate n y m d) (k : IsDate n y' m' d') : y = y' ∧ m = m' ∧ d = d' := by
  have hy : y = y' := by
    have a := h.year; have b := k.year
    by_cases hlt : y < y'
    · have := bef_mono (show y + 1 ≤ y' by omega); omega
    · by_cases hgt : y' < y
      · have := bef_mono (show y' + 1 ≤ y by omega); omega
      · omega
  subst hy
  have hm : m = m' := by
    have a := mon_succ y m h.m1 h.m2; have b := mon_succ y m' k.m1 k.m2
    have := h.lo; have := k.lo; have := h.d1; have := h.d2; have := k.d1; have := k.d2
    have := h.m1; have := h.m2; have := k.m1; have := k.m2
    by_cases hlt : m < m'
    · have := mon_mono (y := y) (show (1:Int) ≤ m + 1 by omega) (show m + 1 ≤ m' by omega) (by omega); omega
    · by_cases hgt : m' < m
      · have := mon_mono (y := y) (show (1:Int) ≤ m' + 1 by omega) (show m' + 1 ≤ m by omega) (by omega); omega
      · omega
  subst hm
  have := h.lo; have := k.lo
  exact ⟨rfl, rfl, by omega⟩
/-- The year of a day, by counting. -/
def yearF : Nat → Int → Int → Int
  | 0, y, _ => y
  | k + 1, y, n => if n < bef (y + 1) then y else yearF k (y + 1) n
theorem yearF_ok : ∀ (k : Nat) (y n : Int), bef y ≤ n → n < bef (y + k) → bef (yearF k y n) ≤ n ∧ n < bef (yearF k y n + 1) ∧ y ≤ yearF k y n ∧ yearF k y n ≤ y + k
  | 0, y, n, h1, h2 => by simp at h2; omega
  | k + 1, y, n, h1, h2 => by
    unfold yearF
    split
    · rename_i h; exact ⟨h1, h, by omega, by omega⟩
    · rename_i h
      have := yearF_ok k (y + 1) n (by omega) (by rw [show y + 1 + (k : Int) = y + ((k + 1 : Nat) : Int) by omega]; exact h2)
      exact ⟨this.1, this.2.1, by omega, by omega⟩
def monF : Nat → Int → Int → Int → Int
  | 0, _, m, _ => m
  | k + 1, y, m, n => if n < mon y (m + 1) then m else monF k y (m + 1) n
theorem monF_ok : ∀ (k : Nat) (y m n : Int), mon y m ≤ n → n < mon y (m + k) → mon y (monF k y m n) ≤ n ∧ n < mon y (monF k y m n + 1) ∧ m ≤ monF k y m n ∧ monF k y m n < m + k
  | 0, y, m, n, h1, h2 => by simp at h2; omega
  | k + 1, y, m, n, h1, h2 => by
    unfold monF
    split
    · rename_i h; exact ⟨h1, h, by omega, by omega⟩
    · rename_i h
      have := monF_ok k y (m + 1) n (by omega) (by rw [show m + 1 + (k : Int) = m + ((k + 1 : Nat) : Int) by omega]; exact h2)
      exact ⟨this.1, this.2.1, by omega, by omega⟩
def dateY (n : Int) : Int := yearF 4000 2000 n
def dateM (n : Int) : Int := monF 12 (dateY n) 1 (n - bef (dateY n))
def dateD (n : Int) : Int := n - bef (dateY n) - mon (dateY n) (dateM n) + 1
theorem bef_6000 : bef 6000 = 1460970 := by decide
theorem date_ok {n : Int} (h0 : 0 ≤ n) (h1 : n ≤ 1048576) : IsDate n (dateY n) (dateM n) (dateD n) := by
  have hy := yearF_ok 4000 2000 n (by rw [bef_2000]; exact h0) (by rw [show (2000 : Int) + (4000 : Nat) = 6000 by omega, bef_6000]; omega)
  have hm := monF_ok 12 (dateY n) 1 (n - bef (dateY n)) (by simp [mon]; exact hy.1) (by
    rw [show (1 : Int) + (12 : Nat) = 13 by omega, mon_13]; have h2 := hy.2.1; rw [bef_succ] at h2; show n - bef (yearF 4000 2000 n) < lenY (yearF 4000 2000 n); omega)
  have hs := mon_succ (dateY n) (dateM n) hm.2.2.1 (by have := hm.2.2.2; show monF _ _ _ _ ≤ 12; omega)
  refine ⟨by unfold dateD; omega, hm.2.2.1, ?_, ?_, ?_⟩
  · have := hm.2.2.2; show monF _ _ _ _ ≤ 12; omega
  · have := hm.1; unfold dateD dateM; omega
  · have h3 := hm.2.1
    rw [show monF 12 (dateY n) 1 (n - bef (dateY n)) + 1 = dateM n + 1 from rfl, hs] at h3
    unfold dateD; omega
theorem IsDate.eq {n y m d : Int} (h0 : 0 ≤ n) (h1 : n ≤ 1048576) (h : IsDate n y m d) : y = dateY n ∧ m = dateM n ∧ d = dateD n := h.unique (date_ok h0 h1)

/-! ### Squads -/
structure Ivl where
  lo : Int
  hi : Int
deriving DecidableEq
structure Per where
  player : Int
  born : Int
  home : Bool
  wage : Int
deriving DecidableEq
structure Quo where
  size : Int
  grown : Int
  young : Int
  inn : Int
  out : Int
  cap : Int
  wins : List Ivl
def encV (i : Ivl) : List Value := [.int .i64 i.lo, .int .i64 i.hi]
def encP (p : Per) : List Value := [.int .i64 p.player, .int .i64 p.born, .bool p.home, .int .i64 p.wage]
def perV (p : Per) : Value := .agg #[.int .i64 p.player, .int .i64 p.born, .bool p.home, .int .i64 p.wage]
def ivlV (i : Ivl) : Value := .agg #[.int .i64 i.lo, .int .i64 i.hi]
def quoV (q : Quo) (A : Option Addr) (c : Nat) : Value := .agg #[.int .i64 q.size, .int .i64 q.grown, .int .i64 q.young, .int .i64 q.inn, .int .i64 q.out, .int .i64 q.cap, .slice A q.wins.length c]

def IvlOk (i : Ivl) : Prop := 0 ≤ i.lo ∧ i.lo ≤ 1048576 ∧ 0 ≤ i.hi ∧ i.hi ≤ 1048576 ∧ i.lo ≤ i.hi
instance (i : Ivl) : Decidable (IvlOk i) := by unfold IvlOk; infer_instance
def QuoOk (q : Quo) : Prop := 1 ≤ q.size ∧ q.size ≤ 40 ∧ 0 ≤ q.grown ∧ q.grown ≤ q.size ∧ 0 ≤ q.young ∧ q.young ≤ 40 ∧ 0 ≤ q.inn ∧ q.inn ≤ 40 ∧ 0 ≤ q.out ∧ q.out ≤ 40 ∧ 0 ≤ q.cap ∧ q.cap ≤ 1125899906842624 ∧ q.wins.length ≤ 16 ∧ ∀ w ∈ q.wins, IvlOk w
instance (q : Quo) : Decidable (QuoOk q) := by unfold QuoOk; infer_instance
def PerOk (p : Per) : Prop := 0 ≤ p.player ∧ p.player ≤ 8191 ∧ 0 ≤ p.born ∧ p.born ≤ 1048576 ∧ 0 ≤ p.wage ∧ p.wage ≤ 1099511627776
instance (p : Per) : Decidable (PerOk p) := by unfold PerOk; infer_instance
def PersOk (l : List Per) : Prop := (∀ p ∈ l, PerOk p) ∧ l.Pairwise fun a b => a.player < b.player
instance (l : List Per) : Decidable (PersOk l) := by unfold PersOk; infer_instance
/-- The age on a day. -/
def ageOf (born day : Int) : Int := dateY day - dateY born - (if dateM day < dateM born ∨ (dateM day = dateM born ∧ dateD day < dateD born) then 1 else 0)
def AgeOk (p : Per) (day : Int) : Prop := PerOk p ∧ p.born ≤ day ∧ day ≤ 1048576
instance (p : Per) (day : Int) : Decidable (AgeOk p day) := by unfold AgeOk; infer_instance
def youngN (l : List Per) (day : Int) : Int := (l.filter fun p => decide (ageOf p.born day < 21)).length
def oldN (l : List Per) (day : Int) : Int := (l.filter fun p => decide (¬ ageOf p.born day < 21)).length
def homeN (l : List Per) (day : Int) : Int := (l.filter fun p => decide (¬ ageOf p.born day < 21) && p.home).length
/-- The first error of a squad. -/
def squadE (q : Quo) (l : List Per) (inn out day : Int) : Int :=
  if ¬ QuoOk q then 370 else if ¬ (PersOk l ∧ l.length ≤ 256 ∧ 0 ≤ day ∧ day ≤ 1048576 ∧ 0 ≤ inn ∧ 0 ≤ out) then 1
  else if ∃ p ∈ l, day < p.born then 1
  else if inn > q.inn ∨ out > q.out ∨ youngN l day > q.young ∨ oldN l day > q.size ∨ (oldN l day = q.size ∧ homeN l day < q.grown) then 370 else 0
end Go.Hw
set_option linter.unusedVariables false
set_option linter.unusedSimpArgs false
set_option maxRecDepth 100000
set_option maxHeartbeats 1600000
namespace Go.Hw
open Go
attribute [local irreducible] GO GOl GDp Val Fn Res CellsAt ValE Blk OwnS MapA
open Go.Proofs (Tryd.prog)

def lenCells : List Value := [.int .i64 31, .int .i64 28, .int .i64 31, .int .i64 30, .int .i64 31, .int .i64 30, .int .i64 31, .int .i64 31, .int .i64 30, .int .i64 31, .int .i64 30, .int .i64 31]
def LenG (h : Ro) : Prop := CellsAt h ⟨0, 0, none⟩ lenCells
theorem LenG.le {h h' : Ro} (g : LenG h) (hl : Le h h') : LenG h' := CellsAt.le hl g
def len0 (m : Int) : Int := if m = 2 then 28 else if m = 4 ∨ m = 6 ∨ m = 9 ∨ m = 11 then 30 else 31
theorem lenG_at {h : Ro} (g : LenG h) {m : Int} (h1 : 1 ≤ m) (h2 : m ≤ 12) : CellsAt h ((⟨0, 0, none⟩ : Addr).add ((m - 1).toNat * 1)) (.int .i64 (len0 m) :: lenCells.drop ((m - 1).toNat + 1)) := by
  have e : lenCells.drop ((m - 1).toNat * 1) = .int .i64 (len0 m) :: lenCells.drop ((m - 1).toNat + 1) := by
    have : m = 1 ∨ m = 2 ∨ m = 3 ∨ m = 4 ∨ m = 5 ∨ m = 6 ∨ m = 7 ∨ m = 8 ∨ m = 9 ∨ m = 10 ∨ m = 11 ∨ m = 12 := by omega
    rcases this with rfl | rfl | rfl | rfl | rfl | rfl | rfl | rfl | rfl | rfl | rfl | rfl <;> rfl
  rw [← e]; exact CellsAt.shift g _


theorem leap_c (h : Ro) (y : Int) (hy : 0 ≤ y) : Val Tryd.prog 82 #[.int .i64 y] h (.bool (decide (leapP y))) := by
  refine Val_intro (args := [_]) ts_ok Go.Proofs.Tryd.func82 rfl rfl fun w0 X0 => ?_
  repeat' (first | apply GO_seq | apply GO_region | apply GOl_nil | (apply GOl_rem; exact rfl; exact rfl; exact rfl; omega; exact rfl; exact rfl) | (apply GOl_unwanted; exact rfl; exact rfl) | (apply GOl_pv; exact rfl; exact rfl; exact rfl) | (apply GOl_split; exact rfl; exact rfl; all_goals intro hc; all_goals try simp only [ltI_t, ltI_f, leI_t, leI_f, eqI_t, eqI_f, Bool.not_eq_true', Bool.not_eq_false', decide_eq_true_eq, decide_eq_false_iff_not, reduceCtorEq] at hc; all_goals try (exfalso; omega)) | (apply GO_retV1; exact rfl; exact rfl; exact rfl))
  all_goals (simp only [eqI_eq, Value.bool.injEq, leapP]; grind)


theorem length_c (h : Ro) (hG : LenG h) (y m : Int) (hy : 0 ≤ y) (h1 : 1 ≤ m) (h2 : m ≤ 12) : Val Tryd.prog 57 #[.int .i64 y, .int .i64 m] h (.int .i64 (lenM y m)) := by
  refine Val_intro (args := [_, _]) ts_ok Go.Proofs.Tryd.func57 rfl rfl fun w0 X0 => ?_
  have hc1 := lenG_at hG h1 h2
  have hl0 : 28 ≤ len0 m ∧ len0 m ≤ 31 := by unfold len0; split <;> (try split) <;> omega
  have e : lenM y m = if m = 2 ∧ leapP y then len0 m + 1 else len0 m := by unfold lenM len0; by_cases hm : m = 2 <;> by_cases hl : leapP y <;> simp [hm, hl]
  generalize hq : len0 m = q at *
  have hj : m - 1 = ((m - 1).toNat : Int) := by omega
  repeat' (first | apply GO_seq | apply GO_skip | apply GO_region | apply GOl_nil | (apply GOl_unwanted; exact rfl; exact rfl) | (apply GOl_add; exact rfl; exact rfl; exact rfl; omega; exact rfl; exact rfl) | (apply GOl_sub; exact rfl; exact rfl; exact rfl; omega; exact rfl; exact rfl) | (apply GOl_pv; exact rfl; exact rfl; exact rfl) | (apply GOl_ov; exact rfl; exact rfl; (first | (apply OV_idxA (j := (m - 1).toNat); exact rfl; exact rfl; exact rfl; exact rfl; exact rfl; exact hj; omega) | (apply OV_load; exact rfl; exact Lv_ro rfl hc1 rfl)); exact (by repeat' (first | exact trivial | apply And.intro | exact List.Mem.head _ | apply List.Mem.tail))) | (apply GOl_to; exact rfl; exact rfl; exact rfl; (first | (apply OpTo_val; exact rfl; exact has82; exact leap_c _ y hy; skip))) | (apply GO_cond; exact rfl; all_goals intro hc; all_goals try simp only [ltI_t, ltI_f, leI_t, leI_f, eqI_t, eqI_f, Bool.not_eq_true', Bool.not_eq_false', decide_eq_true_eq, decide_eq_false_iff_not, reduceCtorEq] at hc; all_goals try (exfalso; omega)) | (apply GOl_split; exact rfl; exact rfl; all_goals intro hc; all_goals try simp only [ltI_t, ltI_f, leI_t, leI_f, eqI_t, eqI_f, Bool.not_eq_true', Bool.not_eq_false', decide_eq_true_eq, decide_eq_false_iff_not, reduceCtorEq] at hc; all_goals try (exfalso; omega)) | (apply GO_retV1; exact rfl; exact rfl; exact rfl))
  all_goals (rw [e]; first | (rw [if_pos ⟨by omega, by simpa using hc⟩]; done) | (rw [if_neg (by simp at *; grind)]; done))


theorem count_c (h : Ro) (y : Int) (hy : 0 ≤ y ∧ y ≤ 100000) : Val Tryd.prog 81 #[.int .i64 y] h (.int .i64 (y / 4 - y / 100 + y / 400)) := by
  refine Val_intro (args := [_]) ts_ok Go.Proofs.Tryd.func81 rfl rfl fun w0 X0 => ?_
  repeat' (first | apply GO_seq | apply GO_region | apply GOl_nil | (apply GOl_quo; exact rfl; exact rfl; exact rfl; omega; exact rfl; exact rfl) | (apply GOl_add; exact rfl; exact rfl; exact rfl; omega; exact rfl; exact rfl) | (apply GOl_sub; exact rfl; exact rfl; exact rfl; omega; exact rfl; exact rfl) | (apply GOl_pv; exact rfl; exact rfl; exact rfl) | (apply GO_retV1; exact rfl; exact rfl; exact rfl))
  all_goals rfl


theorem before_c (h : Ro) (y : Int) (hy : 1 ≤ y ∧ y ≤ 100000) : Val Tryd.prog 56 #[.int .i64 y] h (.int .i64 (bef y)) := by
  refine Val_intro (args := [_]) ts_ok Go.Proofs.Tryd.func56 rfl rfl fun w0 X0 => ?_
  have e2 : (1999 : Int) / 4 - 1999 / 100 + 1999 / 400 = 484 := by decide
  have hc1 : Val Tryd.prog 81 #[.int .i64 1999] h (.int .i64 484) := e2 ▸ count_c h 1999 (by omega)
  have hc2 := count_c h (y - 1) (by omega)
  repeat' (first | apply GO_seq | apply GO_region | apply GOl_nil | (apply GOl_mul; exact rfl; exact rfl; exact rfl; omega; exact rfl; exact rfl) | (apply GOl_add; exact rfl; exact rfl; exact rfl; omega; exact rfl; exact rfl) | (apply GOl_sub; exact rfl; exact rfl; exact rfl; omega; exact rfl; exact rfl) | (apply GOl_pv; exact rfl; exact rfl; exact rfl) | (apply GOl_to; exact rfl; exact rfl; exact rfl; (first | (apply OpTo_valF (f := 81) (fs := []) (cs := []); exact rfl; exact rfl; exact has81; (first | exact hc2 | exact hc1); skip))) | (apply GO_retV1; exact rfl; exact rfl; exact rfl))
  all_goals (unfold bef; (first | rfl | (congr 1; omega)))


theorem validD_c (h : Ro) (n : Int) : Val Tryd.prog 55 #[.int .i64 n] h (.bool (decide (0 ≤ n ∧ n ≤ 1048576))) := by
  refine Val_intro (args := [_]) ts_ok Go.Proofs.Tryd.func55 rfl rfl fun w0 X0 => ?_
  repeat' (first | apply GO_seq | apply GO_region | apply GOl_nil | (apply GOl_unwanted; exact rfl; exact rfl) | (apply GOl_pv; exact rfl; exact rfl; exact rfl) | (apply GOl_split; exact rfl; exact rfl; all_goals intro hc; all_goals try simp only [ltI_t, ltI_f, leI_t, leI_f, eqI_t, eqI_f, Bool.not_eq_true', Bool.not_eq_false', decide_eq_true_eq, decide_eq_false_iff_not, reduceCtorEq] at hc; all_goals try (exfalso; omega)) | (apply GO_retV1; exact rfl; exact rfl; exact rfl))
  all_goals (simp only [ltI_eq, leI_eq, eqI_eq, Value.bool.injEq]; first | rfl | (rw [decide_eq_decide]; omega) | (symm; rw [decide_eq_false_iff_not]; omega) | (symm; rw [decide_eq_true_eq]; omega))

theorem year_le {n Y : Int} (h0 : 0 ≤ n) (h1 : n ≤ 1048576) (h : bef Y ≤ n) : Y ≤ dateY n := by
  have hd := (date_ok h0 h1).year
  by_cases hlt : dateY n < Y
  · have := bef_mono (show dateY n + 1 ≤ Y by omega); omega
  · omega
theorem year_eq {n Y : Int} (h0 : 0 ≤ n) (h1 : n ≤ 1048576) (h : bef Y ≤ n) (k : n < bef (Y + 1)) : dateY n = Y := by
  have := year_le h0 h1 h
  have hd := (date_ok h0 h1).year
  by_cases hlt : Y < dateY n
  · have := bef_mono (show Y + 1 ≤ dateY n by omega); omega
  · omega
theorem year_bd {n : Int} (h0 : 0 ≤ n) (h1 : n ≤ 1048576) : 2000 ≤ dateY n ∧ dateY n ≤ 6000 := by
  have hd := (date_ok h0 h1).year
  refine ⟨year_le h0 h1 (by rw [bef_2000]; exact h0), ?_⟩
  by_cases hlt : 6000 < dateY n
  · have := bef_mono (show 6000 ≤ dateY n by omega); rw [bef_6000] at this; omega
  · omega
theorem mon_le {n M : Int} (h0 : 0 ≤ n) (h1 : n ≤ 1048576) (m1 : 1 ≤ M) (m2 : M ≤ 13) (h : mon (dateY n) M ≤ n - bef (dateY n)) : M ≤ dateM n := by
  have hd := date_ok h0 h1
  have hs := mon_succ (dateY n) (dateM n) hd.m1 hd.m2
  have := hd.lo; have := hd.d1; have := hd.d2
  by_cases hlt : dateM n < M
  · have := mon_mono (y := dateY n) (show (1:Int) ≤ dateM n + 1 by have := hd.m1; omega) (show dateM n + 1 ≤ M by omega) m2; omega
  · omega
theorem mon_eq {n M : Int} (h0 : 0 ≤ n) (h1 : n ≤ 1048576) (m1 : 1 ≤ M) (m2 : M ≤ 12) (h : mon (dateY n) M ≤ n - bef (dateY n)) (k : n - bef (dateY n) - mon (dateY n) M < lenM (dateY n) M) : dateM n = M ∧ dateD n = n - bef (dateY n) - mon (dateY n) M + 1 := by
  have he : IsDate n (dateY n) M (n - bef (dateY n) - mon (dateY n) M + 1) := ⟨by omega, m1, m2, by omega, by omega⟩
  have := he.eq h0 h1
  exact ⟨this.2.1.symm, this.2.2.symm⟩
theorem mon_1 (y : Int) : mon y 1 = 0 := by simp [mon]
theorem mon_bd (y M : Int) (m1 : 1 ≤ M) (m2 : M ≤ 13) : 0 ≤ mon y M ∧ mon y M ≤ 366 := by
  have a := mon_mono (y := y) (show (1:Int) ≤ 1 by omega) m1 m2
  have b := mon_mono (y := y) m1 m2 (show (13:Int) ≤ 13 by omega)
  have e1 : mon y 1 = 0 := by simp [mon]
  rw [mon_13] at b; have := lenY_pos y; omega
def dateV (y m d : Int) : Value := .agg #[.int .i64 y, .int .i64 m, .int .i64 d]
def dateR (n : Int) : Value := if 0 ≤ n ∧ n ≤ 1048576 then .tuple #[dateV (dateY n) (dateM n) (dateD n), .int .i64 0] else .tuple #[dateV 0 0 0, .int .i64 10]

theorem start_ok {n : Int} (h0 : 0 ≤ n) (h1 : n ≤ 1048576) : bef (2000 + n / 146097 * 400 + n % 146097 / 366) ≤ n := by
  have hc : n = 146097 * (n / 146097) + n % 146097 := by omega
  have hd : 366 * (n % 146097 / 366) ≤ n % 146097 ∧ 0 ≤ n % 146097 / 366 ∧ n % 146097 / 366 ≤ 399 := by omega
  generalize n / 146097 = c at *
  generalize n % 146097 / 366 = d at *
  have e1 : (2000 + c * 400 + d - 1) / 4 = 100 * c + (1999 + d) / 4 := by omega
  have e2 : (2000 + c * 400 + d - 1) / 100 = 4 * c + (1999 + d) / 100 := by omega
  have e3 : (2000 + c * 400 + d - 1) / 400 = c + (1999 + d) / 400 := by omega
  have f4 : 4 * ((1999 + d) / 400) ≤ (1999 + d) / 100 := by omega
  unfold bef
  rw [e1, e2, e3]
  by_cases hd0 : d = 0
  · subst hd0; omega
  · have : (1999 + d) / 4 ≤ 499 + d := by omega
    have : 5 ≤ (1999 + d) / 400 := by omega
    omega


theorem date_c (h : Ro) (hG : LenG h) (n : Int) : Val Tryd.prog 38 #[.int .i64 n] h (dateR n) := by
  refine Val_intro (args := [_]) ts_ok Go.Proofs.Tryd.func38 rfl rfl fun w0 X0 => ?_
  by_cases hn : 0 ≤ n ∧ n ≤ 1048576
  · obtain ⟨h0, h1⟩ := hn
    have hyb := year_bd h0 h1
    have e0 : dateR n = .tuple #[dateV (dateY n) (dateM n) (dateD n), .int .i64 0] := if_pos ⟨h0, h1⟩
    rw [e0]
    have hst := start_ok h0 h1
    repeat' (first | apply GO_seq | apply GO_skip | apply GO_block | apply GO_region | apply GOl_nil | (apply GOl_mul; exact rfl; exact rfl; exact rfl; omega; exact rfl; exact rfl) | (apply GOl_quo; exact rfl; exact rfl; exact rfl; omega; exact rfl; exact rfl) | (apply GOl_rem; exact rfl; exact rfl; exact rfl; omega; exact rfl; exact rfl) | (apply GOl_add; exact rfl; exact rfl; exact rfl; omega; exact rfl; exact rfl) | (apply GOl_pv; exact rfl; exact rfl; exact rfl) | (apply GOl_to; exact rfl; exact rfl; exact rfl; (first | (apply OpTo_store; exact rfl; exact rfl; exact rfl; exact (by (repeat (first | exact Repl.here | apply Repl.there)); done); exact rfl; exact rfl; exact rfl; skip) | (apply OpTo_alloc; exact rfl; intro b; skip) | (apply OpTo_val; exact rfl; exact has55; exact validD_c _ n; skip))) | (apply GO_cond; exact rfl; all_goals intro hc; all_goals try simp only [ltI_t, ltI_f, leI_t, leI_f, eqI_t, eqI_f, Bool.not_eq_true', Bool.not_eq_false', decide_eq_true_eq, decide_eq_false_iff_not, reduceCtorEq] at hc; all_goals try (exfalso; omega)))
    refine GO_loopT (X := Int) (fun Y => 2000 ≤ Y ∧ bef Y ≤ n) (fun Y => (dateY n - Y).toNat) (fun Y => [(0, .int .i64 n), (2, .pointer (some ⟨b, 0, none⟩))]) (fun Y => [Blk b 83 [.int .i64 Y, .int .i64 1, .int .i64 1]]) (fun _ => h) (2000 + n / 146097 * 400 + n % 146097 / 366) ⟨by omega, hst⟩ (by (repeat (first | exact trivial | refine ⟨rfl, ?_⟩)); done) (by (repeat (first | exact Takes_nil | (apply Takes_cons; exact (by (repeat (first | exact Take.here | apply Take.there)); done)))); done) rfl ?_
    rintro Y ⟨hY, hb⟩ ih
    have hYl := year_le h0 h1 hb
    have hb0 := bef_mono hY
    rw [bef_2000] at hb0
    repeat' (first | apply GO_seq | apply GO_skip | apply GO_inBlock | apply GO_block | apply GO_region | apply GOl_nil | (apply GO_exit; exact rfl) | (apply GOl_add; exact rfl; exact rfl; exact rfl; omega; exact rfl; exact rfl) | (apply GOl_sub; exact rfl; exact rfl; exact rfl; omega; exact rfl; exact rfl) | (apply GOl_pv; exact rfl; exact rfl; exact rfl) | (apply GOl_load; exact rfl; exact Ld_blk rfl (by (repeat (first | exact List.Mem.head _ | apply List.Mem.tail)); done) rfl; exact rfl; exact rfl) | (apply GOl_to; exact rfl; exact rfl; exact rfl; (first | (apply OpTo_store; exact rfl; exact rfl; exact rfl; exact (by (repeat (first | exact Repl.here | apply Repl.there)); done); exact rfl; exact rfl; exact rfl; skip) | (apply OpTo_val; exact rfl; exact has56; exact before_c _ _ (by omega); skip))) | (apply GO_cond; exact rfl; all_goals intro hc; all_goals try simp only [ltI_t, ltI_f, leI_t, leI_f, eqI_t, eqI_f, Bool.not_eq_true', Bool.not_eq_false', decide_eq_true_eq, decide_eq_false_iff_not, reduceCtorEq] at hc; all_goals try (exfalso; omega)))
    · have h3 := ih (Y + 1) ⟨by omega, by omega⟩ (by have := year_le h0 h1 (show bef (Y + 1) ≤ n by omega); omega)
      refine GO_fit (by (repeat (first | exact trivial | refine ⟨rfl, ?_⟩)); done) (by (repeat (first | exact Takes_nil | (apply Takes_cons; exact (by (repeat (first | exact Take.here | apply Take.there)); done)))); done) (h3)
    · have hYe := year_eq h0 h1 hb (by omega)
      subst hYe
      refine GO_loopT (X := Int × Int) (fun x => 1 ≤ x.1 ∧ x.1 ≤ 12 ∧ mon (dateY n) x.1 ≤ n - bef (dateY n) ∧ x.2 = n - bef (dateY n) - mon (dateY n) x.1) (fun x => (dateM n - x.1).toNat) (fun x => [(0, .int .i64 x.2), (2, .pointer (some ⟨b, 0, none⟩))]) (fun x => [Blk b 83 [.int .i64 (dateY n), .int .i64 x.1, .int .i64 1]]) (fun _ => h) (1, n - bef (dateY n)) ⟨by dsimp only; omega, by dsimp only; omega, by dsimp only; rw [mon_1]; omega, by dsimp only; rw [mon_1]; omega⟩ (by (repeat (first | exact trivial | refine ⟨rfl, ?_⟩)); done) (by (repeat (first | exact Takes_nil | (apply Takes_cons; exact (by (repeat (first | exact Take.here | apply Take.there)); done)))); done) rfl ?_
      rintro ⟨M, r⟩ ⟨hM1, hM2, hM3, hr⟩ ih2
      dsimp only at hM1 hM2 hM3 hr ih2 ⊢
      have hmb := mon_bd (dateY n) M hM1 (by omega)
      have hms := mon_succ (dateY n) M hM1 hM2
      have hml := lenM_pos (dateY n) M
      repeat' (first | apply GO_seq | apply GO_skip | apply GO_inBlock | apply GO_block | apply GO_region | apply GOl_nil | (apply GO_exit; exact rfl) | (apply GOl_add; exact rfl; exact rfl; exact rfl; omega; exact rfl; exact rfl) | (apply GOl_sub; exact rfl; exact rfl; exact rfl; omega; exact rfl; exact rfl) | (apply GOl_pv; exact rfl; exact rfl; exact rfl) | (apply GOl_load; exact rfl; exact Ld_blk rfl (by (repeat (first | exact List.Mem.head _ | apply List.Mem.tail)); done) rfl; exact rfl; exact rfl) | (apply GOl_to; exact rfl; exact rfl; exact rfl; (first | (apply OpTo_store; exact rfl; exact rfl; exact rfl; exact (by (repeat (first | exact Repl.here | apply Repl.there)); done); exact rfl; exact rfl; exact rfl; skip) | (apply OpTo_val; exact rfl; exact has57; exact length_c _ hG _ _ (by omega) (by omega) (by omega); skip))) | (apply GO_cond; exact rfl; all_goals intro hc; all_goals try simp only [ltI_t, ltI_f, leI_t, leI_f, eqI_t, eqI_f, Bool.not_eq_true', Bool.not_eq_false', decide_eq_true_eq, decide_eq_false_iff_not, reduceCtorEq] at hc; all_goals try (exfalso; omega)))
      · have hle := mon_le h0 h1 (show 1 ≤ M + 1 by omega) (by omega) (show mon (dateY n) (M + 1) ≤ n - bef (dateY n) by omega)
        have hm12 := (date_ok h0 h1).m2
        have h3 := ih2 (M + 1, r - lenM (dateY n) M) ⟨by dsimp only; omega, by dsimp only; omega, by dsimp only; omega, by dsimp only; omega⟩ (by dsimp only; omega)
        refine GO_fit (by (repeat (first | exact trivial | refine ⟨rfl, ?_⟩)); done) (by (repeat (first | exact Takes_nil | (apply Takes_cons; exact (by (repeat (first | exact Take.here | apply Take.there)); done)))); done) (h3)
      · obtain ⟨e1, e2⟩ := mon_eq h0 h1 hM1 hM2 hM3 (by omega)
        have e3 : dateD n = 1 + r := by omega
        rw [e1, e3, dateV]
        repeat' (first | (apply GO_retC2; exact rfl; exact rfl; exact rfl; exact (by (repeat (first | exact List.Mem.head _ | apply List.Mem.tail)); done); exact rfl; exact rfl; exact rfl))
        all_goals rfl
  · have e0 : dateR n = .tuple #[dateV 0 0 0, .int .i64 10] := if_neg hn
    rw [e0]
    repeat' (first | apply GO_seq | apply GO_region | apply GOl_nil | (apply GOl_pv; exact rfl; exact rfl; exact rfl) | (apply GOl_load; exact rfl; exact Ld_blk rfl (by (repeat (first | exact List.Mem.head _ | apply List.Mem.tail)); done) rfl; exact rfl; exact rfl) | (apply GOl_to; exact rfl; exact rfl; exact rfl; (first | (apply OpTo_store; exact rfl; exact rfl; exact rfl; exact (by (repeat (first | exact Repl.here | apply Repl.there)); done); exact rfl; exact rfl; exact rfl; skip) | (apply OpTo_alloc; exact rfl; intro b; skip) | (apply OpTo_val; exact rfl; exact has55; exact validD_c _ n; skip))) | (apply GO_cond; exact rfl; all_goals intro hc; all_goals try simp only [ltI_t, ltI_f, leI_t, leI_f, eqI_t, eqI_f, Bool.not_eq_true', Bool.not_eq_false', decide_eq_true_eq, decide_eq_false_iff_not, reduceCtorEq] at hc; all_goals try (exfalso; omega)) | (apply GO_retC2; exact rfl; exact rfl; exact rfl; exact (by (repeat (first | exact List.Mem.head _ | apply List.Mem.tail)); done); exact rfl; exact rfl; exact rfl))
    all_goals first | rfl | (exfalso; simp at hc; omega)


theorem checkI_c (h : Ro) (i : Ivl) : Val Tryd.prog 42 #[ivlV i] h (.int .i64 (if IvlOk i then 0 else 10)) := by
  refine Val_intro (args := [_]) ts_ok Go.Proofs.Tryd.func42 rfl rfl fun w0 X0 => ?_
  repeat' (first | apply GO_seq | apply GO_skip | apply GO_region | apply GOl_nil | (apply GOl_unwanted; exact rfl; exact rfl) | (apply GOl_pv; exact rfl; exact rfl; exact rfl) | (apply GOl_load; exact rfl; exact Ld_blk rfl (by (repeat (first | exact List.Mem.head _ | apply List.Mem.tail)); done) rfl; exact rfl; exact rfl) | (apply GOl_to; exact rfl; exact rfl; exact rfl; (first | (apply OpTo_box; exact rfl; intro b; skip) | (apply OpTo_val; exact rfl; exact has55; exact validD_c _ _; skip))) | (apply GO_cond; exact rfl; all_goals intro hc; all_goals try simp only [ltI_t, ltI_f, leI_t, leI_f, eqI_t, eqI_f, Bool.not_eq_true', Bool.not_eq_false', decide_eq_true_eq, decide_eq_false_iff_not, reduceCtorEq] at hc; all_goals try (exfalso; omega)) | (apply GOl_split; exact rfl; exact rfl; all_goals intro hc; all_goals try simp only [ltI_t, ltI_f, leI_t, leI_f, eqI_t, eqI_f, Bool.not_eq_true', Bool.not_eq_false', decide_eq_true_eq, decide_eq_false_iff_not, reduceCtorEq] at hc; all_goals try (exfalso; omega)) | (apply GO_retV1; exact rfl; exact rfl; exact rfl))
  all_goals first | (rw [if_pos (show IvlOk i from (by unfold IvlOk; omega))]; done) | (rw [if_neg (show ¬ IvlOk i from fun h => (by unfold IvlOk at h; omega))]; done)

end Go.Hw
set_option linter.unusedVariables false
set_option linter.unusedSimpArgs false
set_option maxRecDepth 100000
set_option maxHeartbeats 1600000
namespace Go.Hw
open Go
attribute [local irreducible] GO GOl GDp Val Fn Res CellsAt ValE Blk OwnS MapA
open Go.Proofs (Tryd.prog)

def p0 : Per := ⟨0, 0, false, 0⟩
def v0 : Ivl := ⟨0, 0⟩
theorem getD_mem {α : Type} (d : α) {l : List α} {i : Nat} (h : i < l.length) : l.getD i d ∈ l := by simp [List.getD, List.getElem?_eq_getElem h]
theorem mem_getD {α : Type} (d : α) {l : List α} {x : α} (h : x ∈ l) : ∃ i, i < l.length ∧ l.getD i d = x := by
  obtain ⟨i, hi, rfl⟩ := List.getElem_of_mem h
  exact ⟨i, hi, by simp [List.getD, List.getElem?_eq_getElem hi]⟩
theorem pair_of_step {α : Type} (d : α) (f : α → Int) {l : List α} (h : ∀ i, i < l.length → 0 < i → f (l.getD (i - 1) d) < f (l.getD i d)) : l.Pairwise fun a b => f a < f b := by
  have key : ∀ j, j < l.length → ∀ i, i < j → f (l.getD i d) < f (l.getD j d) := by
    intro j
    induction j with
    | zero => intro _ i hi; omega
    | succ j ih =>
      intro hj i hi
      have h1 := h (j + 1) hj (by omega)
      rw [Nat.add_sub_cancel] at h1
      by_cases hij : i = j
      · subst hij; exact h1
      · have := ih (by omega) i (by omega); omega
  rw [List.pairwise_iff_getElem]
  intro i j hi hj hij
  have := key j hj i hij
  simpa [List.getD, List.getElem?_eq_getElem hi, List.getElem?_eq_getElem hj] using this
theorem step_of_pair {α : Type} (d : α) (f : α → Int) {l : List α} (h : l.Pairwise fun a b => f a < f b) {i j : Nat} (hj : j < l.length) (hi : i < j) : f (l.getD i d) < f (l.getD j d) := by
  have := List.pairwise_iff_getElem.1 h i j (by omega) hj hi
  simpa [List.getD, List.getElem?_eq_getElem hj, List.getElem?_eq_getElem (show i < l.length by omega)] using this
theorem persOk_iff (l : List Per) : PersOk l ↔ ∀ i, i < l.length → PerOk (l.getD i p0) ∧ (0 < i → (l.getD (i - 1) p0).player < (l.getD i p0).player) := by
  constructor
  · rintro ⟨h1, h2⟩ i hi
    exact ⟨h1 _ (getD_mem p0 hi), fun h0 => step_of_pair p0 (fun p => p.player) h2 hi (by omega)⟩
  · intro h
    refine ⟨fun p hp => ?_, pair_of_step p0 (fun p => p.player) fun i hi h0 => (h i hi).2 h0⟩
    obtain ⟨i, hi, rfl⟩ := mem_getD p0 hp
    exact (h i hi).1


theorem within_c (h : Ro) (n a b : Int) : Val Tryd.prog 19 #[.int .i64 n, .int .i64 a, .int .i64 b] h (.bool (decide (a ≤ n ∧ n ≤ b))) := by
  refine Val_intro (args := [_, _, _]) ts_ok Go.Proofs.Tryd.func19 rfl rfl fun w0 X0 => ?_
  repeat' (first | apply GO_seq | apply GO_region | apply GOl_nil | (apply GOl_unwanted; exact rfl; exact rfl) | (apply GOl_pv; exact rfl; exact rfl; exact rfl) | (apply GOl_split; exact rfl; exact rfl; all_goals intro hc; all_goals try simp only [ltI_t, ltI_f, leI_t, leI_f, eqI_t, eqI_f, Bool.not_eq_true', Bool.not_eq_false', decide_eq_true_eq, decide_eq_false_iff_not, reduceCtorEq] at hc; all_goals try (exfalso; omega)) | (apply GO_retV1; exact rfl; exact rfl; exact rfl))
  all_goals (simp only [ltI_eq, leI_eq, eqI_eq, Value.bool.injEq]; first | rfl | (rw [decide_eq_decide]; omega) | (symm; rw [decide_eq_false_iff_not]; omega) | (symm; rw [decide_eq_true_eq]; omega))


theorem isPerson_c (h : Ro) (p : Per) : Val Tryd.prog 37 #[perV p] h (.bool (decide (PerOk p))) := by
  refine Val_intro (args := [_]) ts_ok Go.Proofs.Tryd.func37 rfl rfl fun w0 X0 => ?_
  repeat' (first | apply GO_seq | apply GO_region | apply GOl_nil | (apply GOl_unwanted; exact rfl; exact rfl) | (apply GOl_pv; exact rfl; exact rfl; exact rfl) | (apply GOl_load; exact rfl; exact Ld_blk rfl (by (repeat (first | exact List.Mem.head _ | apply List.Mem.tail)); done) rfl; exact rfl; exact rfl) | (apply GOl_to; exact rfl; exact rfl; exact rfl; (first | (apply OpTo_box; exact rfl; intro b; skip) | (apply OpTo_val; exact rfl; exact has19; exact within_c _ _ _ _; skip))) | (apply GOl_split; exact rfl; exact rfl; all_goals intro hc; all_goals try simp only [ltI_t, ltI_f, leI_t, leI_f, eqI_t, eqI_f, Bool.not_eq_true', Bool.not_eq_false', decide_eq_true_eq, decide_eq_false_iff_not, reduceCtorEq] at hc; all_goals try (exfalso; omega)) | (apply GO_retV1; exact rfl; exact rfl; exact rfl))
  all_goals (simp only [Value.bool.injEq, PerOk]; grind)


theorem arePersons_c (h : Ro) (A : Option Addr) (n c : Nat) (l : List Per) (hx : SlOf encP 4 h A n l) (hn : n ≤ 1000000000) :
    Val Tryd.prog 18 #[.slice A n c] h (.bool (decide (PersOk l))) := by
  refine Val_intro (args := [_]) ts_ok Go.Proofs.Tryd.func18 rfl rfl fun w0 X0 => ?_
  have hlen := hx.len
  repeat' (first | apply GO_seq | apply GO_block | apply GO_region | apply GOl_nil | (apply GOl_pv; exact rfl; exact rfl; exact rfl))
  refine GO_loopT (X := Nat) (fun k => k ≤ n ∧ ∀ i, i < k → PerOk (l.getD i p0) ∧ (0 < i → (l.getD (i - 1) p0).player < (l.getD i p0).player)) (fun k => n - k) (fun k => [(7, .int .i64 k), (6, .int .i64 n), (5, .slice A n c), (0, .slice A n c)]) (fun _ => []) (fun _ => h) 0 ⟨by omega, fun i hi => by omega⟩ (by (repeat (first | exact trivial | refine ⟨rfl, ?_⟩)); done) (by (repeat (first | exact Takes_nil | (apply Takes_cons; exact (by (repeat (first | exact Take.here | apply Take.there)); done)))); done) rfl ?_
  rintro k ⟨hk, hI⟩ ih
  by_cases hkn : k < n
  · have a1 := hx.addrD hkn
    have c1 := hx.cellsD p0 hkn
    have c2 := hx.cellsD p0 (show k - 1 < n by omega)
    have hgo : ∀ {i}, i = k → (PersOk l → PerOk (l.getD i p0) ∧ (0 < i → (l.getD (i - 1) p0).player < (l.getD i p0).player)) := fun e hp => (persOk_iff l).1 hp _ (by omega)
    have hg := hgo rfl
    generalize hy : l.getD k p0 = y at *
    generalize hz : l.getD (k - 1) p0 = z at *
    repeat' (first | apply GO_seq | apply GO_skip | apply GO_inBlock | apply GO_block | apply GO_region | apply GOl_nil | (apply GOl_add; exact rfl; exact rfl; exact rfl; omega; exact rfl; exact rfl) | (apply GOl_pv; exact rfl; exact rfl; exact rfl) | (apply GOl_ov; exact rfl; exact rfl; (first | (apply OV_idxS (j := k); exact rfl; exact rfl; exact rfl; exact rfl; exact rfl; exact a1; (with_reducible exact rfl); omega) | (apply OV_load; exact rfl; exact Lv_ro rfl c1 rfl)); exact (by repeat' (first | exact trivial | apply And.intro | exact List.Mem.head _ | apply List.Mem.tail))) | (apply GOl_to; exact rfl; exact rfl; exact rfl; (first | (apply OpTo_store; exact rfl; exact rfl; exact rfl; exact (by (repeat (first | exact Repl.here | apply Repl.there)); done); exact rfl; exact rfl; exact rfl; skip) | (apply OpTo_alloc; exact rfl; intro b; skip))) | (apply GO_drawp (n := 4) [0, 1, 2, 3, 4, 5, 6, 7, 8, 9, 10, 11, 12, 13, 14, 15, 16, 17] [(0, 0), (1, 1), (2, 0), (3, 0), (4, 0), (5, 0), (6, 0), (7, 0), (8, 0), (9, 0), (10, 0), (11, 0), (12, 0), (13, 0), (14, 0), (15, 0), (16, 0), (17, 0)]; kernel_rfl) | (apply GP_un; exact rfl; kernel_rfl; exact rfl; exact rfl) | (apply GP_sub; exact rfl; kernel_rfl; exact rfl; exact rfl; exact rfl; exact rfl; exact rfl; omega) | (apply GP_pv; exact rfl; kernel_rfl; exact rfl; exact rfl; exact rfl) | (apply GP_loadB; exact rfl; kernel_rfl; exact rfl; exact rfl; exact rfl; exact (by (repeat (first | exact List.Mem.head _ | apply List.Mem.tail)); done); exact rfl; exact rfl) | (apply GP_ov; exact rfl; kernel_rfl; exact rfl; exact rfl; (first | (apply OV_idxS (j := k - 1); exact rfl; exact rfl; exact rfl; exact rfl; exact rfl; exact a1; omega; omega) | (apply OV_load; exact rfl; exact Lv_ro rfl c2 rfl)); exact (by repeat' (first | exact trivial | apply And.intro | exact List.Mem.head _ | apply List.Mem.tail))) | (apply GP_real; exact rfl; kernel_rfl; exact rfl; exact rfl; exact rfl; (first | (apply OpTo_val; exact rfl; exact has37; exact isPerson_c _ y; refine ⟨Le.refl _, by (first | exact NdOk_no rfl | (apply NdOk_all; (repeat' (first | exact trivial | apply And.intro | exact List.Mem.head _ | apply List.Mem.tail)); done) | (apply NdOk_need; (repeat' (first | exact trivial | apply And.intro | exact List.Mem.head _ | apply List.Mem.tail)); done)), ?_⟩))) | (apply GP_done; kernel_rfl; exact rfl) | (apply GP_split; exact rfl; exact rfl; exact rfl; exact rfl; exact rfl; all_goals intro hc; all_goals try simp only [ltI_t, ltI_f, leI_t, leI_f, eqI_t, eqI_f, Bool.not_eq_true', Bool.not_eq_false', decide_eq_true_eq, decide_eq_false_iff_not, reduceCtorEq] at hc; all_goals try (exfalso; omega)) | (apply GO_cond; exact rfl; all_goals intro hc; all_goals try simp only [ltI_t, ltI_f, leI_t, leI_f, eqI_t, eqI_f, Bool.not_eq_true', Bool.not_eq_false', decide_eq_true_eq, decide_eq_false_iff_not, reduceCtorEq] at hc; all_goals try (exfalso; omega)) | (apply GO_retV1; exact rfl; exact rfl; exact rfl))
    all_goals first
      | (congr 1; symm; rw [decide_eq_false_iff_not]; intro hp; have := hg hp; first | exact absurd this.1 (by assumption) | (have := this.2 (by omega); omega))
      | (have h3 := ih (k + 1) ⟨by omega, fun i hi => (by by_cases hik : i = k; (subst hik; rw [hy, hz]; refine ⟨by assumption, fun h0 => ?_⟩; first | assumption | (exfalso; omega)); exact hI i (by omega))⟩ (by omega); refine GO_fit (by (repeat (first | exact trivial | refine ⟨rfl, ?_⟩)); done) (by (repeat (first | exact Takes_nil | (apply Takes_cons; exact (by (repeat (first | exact Take.here | apply Take.there)); done)))); done) (h3))
     
  · repeat' (first | apply GO_seq | apply GO_region | apply GOl_nil | (apply GO_exit; exact rfl) | (apply GOl_pv; exact rfl; exact rfl; exact rfl) | (apply GO_cond; exact rfl; all_goals intro hc; all_goals try simp only [ltI_t, ltI_f, leI_t, leI_f, eqI_t, eqI_f, Bool.not_eq_true', Bool.not_eq_false', decide_eq_true_eq, decide_eq_false_iff_not, reduceCtorEq] at hc; all_goals try (exfalso; omega)) | (apply GO_retV1; exact rfl; exact rfl; exact rfl))
    congr 1; symm; rw [decide_eq_true_eq]
    exact (persOk_iff l).2 fun i hi => hI i (by omega)

def ageR (p : Per) (day : Int) : Value := if AgeOk p day then .tuple #[.int .i64 (ageOf p.born day), .int .i64 0] else .tuple #[.int .i64 0, .int .i64 1]


theorem age_c (h : Ro) (hG : LenG h) (p : Per) (day : Int) : Val Tryd.prog 12 #[perV p, .int .i64 day] h (ageR p day) := by
  refine Val_intro (args := [_, _]) ts_ok Go.Proofs.Tryd.func12 rfl rfl fun w0 X0 => ?_
  by_cases hA : AgeOk p day
  · have e0 : ageR p day = .tuple #[.int .i64 (ageOf p.born day), .int .i64 0] := if_pos hA
    rw [e0]
    obtain ⟨hP, h1, h2⟩ := hA
    have hP' := hP
    obtain ⟨p1, p2, p3, p4, p5, p6⟩ := hP'
    have hb1 := date_c h hG p.born
    have hb2 := date_c h hG day
    rw [show dateR p.born = _ from if_pos ⟨p3, p4⟩] at hb1
    rw [show dateR day = _ from if_pos ⟨by omega, h2⟩] at hb2
    have y1 := year_bd p3 p4
    have y2 := year_bd (show 0 ≤ day by omega) h2
    unfold ageOf
    repeat' (first | apply GO_seq | apply GO_skip | apply GO_region | apply GOl_nil | (apply GOl_unwanted; exact rfl; exact rfl) | (apply GOl_sub; exact rfl; exact rfl; exact rfl; omega; exact rfl; exact rfl) | (apply GOl_pv; exact rfl; exact rfl; exact rfl) | (apply GOl_load; exact rfl; exact Ld_blk rfl (by (repeat (first | exact List.Mem.head _ | apply List.Mem.tail)); done) rfl; exact rfl; exact rfl) | (apply GOl_to; exact rfl; exact rfl; exact rfl; (first | (apply OpTo_store; exact rfl; exact rfl; exact rfl; exact (by (repeat (first | exact Repl.here | apply Repl.there)); done); exact rfl; exact rfl; exact rfl; skip) | (apply OpTo_box; exact rfl; intro b; skip) | (apply OpTo_alloc; exact rfl; intro b; skip) | (apply OpTo_val; exact rfl; exact has37; exact isPerson_c _ p; skip) | (apply OpTo_val; exact rfl; exact has19; exact within_c _ _ _ _; skip) | (apply OpTo_val; exact rfl; exact has38; (first | exact hb1 | exact hb2); skip))) | (apply GO_cond; exact rfl; all_goals intro hc; all_goals try simp only [ltI_t, ltI_f, leI_t, leI_f, eqI_t, eqI_f, Bool.not_eq_true', Bool.not_eq_false', decide_eq_true_eq, decide_eq_false_iff_not, reduceCtorEq] at hc; all_goals try (exfalso; omega)) | (apply GOl_split; exact rfl; exact rfl; all_goals intro hc; all_goals try simp only [ltI_t, ltI_f, leI_t, leI_f, eqI_t, eqI_f, Bool.not_eq_true', Bool.not_eq_false', decide_eq_true_eq, decide_eq_false_iff_not, reduceCtorEq] at hc; all_goals try (exfalso; omega)) | (apply GO_retV2; exact rfl; exact rfl; exact rfl; exact rfl))
    all_goals first | (exfalso; omega) | (rw [if_pos (by omega)]; done) | (rw [if_neg (by omega)]; simp; done) | (exfalso; simp [hP] at *; (try omega); done)
  · have e0 : ageR p day = .tuple #[.int .i64 0, .int .i64 1] := if_neg hA
    rw [e0]
    repeat' (first | apply GO_seq | apply GO_skip | apply GO_region | apply GOl_nil | (apply GOl_unwanted; exact rfl; exact rfl) | (apply GOl_pv; exact rfl; exact rfl; exact rfl) | (apply GOl_load; exact rfl; exact Ld_blk rfl (by (repeat (first | exact List.Mem.head _ | apply List.Mem.tail)); done) rfl; exact rfl; exact rfl) | (apply GOl_to; exact rfl; exact rfl; exact rfl; (first | (apply OpTo_box; exact rfl; intro b; skip) | (apply OpTo_val; exact rfl; exact has37; exact isPerson_c _ p; skip) | (apply OpTo_val; exact rfl; exact has19; exact within_c _ _ _ _; skip))) | (apply GO_cond; exact rfl; all_goals intro hc; all_goals try simp only [ltI_t, ltI_f, leI_t, leI_f, eqI_t, eqI_f, Bool.not_eq_true', Bool.not_eq_false', decide_eq_true_eq, decide_eq_false_iff_not, reduceCtorEq] at hc; all_goals try (exfalso; omega)) | (apply GOl_split; exact rfl; exact rfl; all_goals intro hc; all_goals try simp only [ltI_t, ltI_f, leI_t, leI_f, eqI_t, eqI_f, Bool.not_eq_true', Bool.not_eq_false', decide_eq_true_eq, decide_eq_false_iff_not, reduceCtorEq] at hc; all_goals try (exfalso; omega)) | (apply GO_retV2; exact rfl; exact rfl; exact rfl; exact rfl))
    all_goals first | rfl | (exfalso; exact hA ⟨by assumption, by omega, by omega⟩)


theorem checkQ_c (h : Ro) (q : Quo) (A : Option Addr) (c : Nat) (hx : SlOf encV 2 h A q.wins.length q.wins) (hn : q.wins.length ≤ 1000000000) : Val Tryd.prog 16 #[quoV q A c] h (.int .i64 (if QuoOk q then 0 else 370)) := by
  refine Val_intro (args := [_]) ts_ok Go.Proofs.Tryd.func16 rfl rfl fun w0 X0 => ?_
  repeat' (first | apply GO_seq | apply GO_skip | apply GO_block | apply GO_region | apply GOl_nil | (apply GOl_unwanted; exact rfl; exact rfl) | (apply GOl_pv; exact rfl; exact rfl; exact rfl) | (apply GOl_load; exact rfl; exact Ld_blk rfl (by (repeat (first | exact List.Mem.head _ | apply List.Mem.tail)); done) rfl; exact rfl; exact rfl) | (apply GOl_to; exact rfl; exact rfl; exact rfl; (first | (apply OpTo_box; exact rfl; intro b; skip) | (apply OpTo_val; exact rfl; exact has19; exact within_c _ _ _ _; skip) | (apply OpTo_buildSliceS (enc := encI) (n := 3) [q.young, q.inn, q.out]; exact rfl; exact rfl; exact rfl; exact List.cons_ne_nil _ _; exact rfl; exact rfl; exact rfl; exact rfl; exact fun _ => rfl; exact rfl; exact rfl; intro b1 h1 hle1 hs1; skip))) | (apply GO_cond; exact rfl; all_goals intro hc; all_goals try simp only [ltI_t, ltI_f, leI_t, leI_f, eqI_t, eqI_f, Bool.not_eq_true', Bool.not_eq_false', decide_eq_true_eq, decide_eq_false_iff_not, reduceCtorEq] at hc; all_goals try (exfalso; omega)) | (apply GOl_split; exact rfl; exact rfl; all_goals intro hc; all_goals try simp only [ltI_t, ltI_f, leI_t, leI_f, eqI_t, eqI_f, Bool.not_eq_true', Bool.not_eq_false', decide_eq_true_eq, decide_eq_false_iff_not, reduceCtorEq] at hc; all_goals try (exfalso; omega)) | (apply GO_retV1; exact rfl; exact rfl; exact rfl))
  all_goals try (rw [if_neg (show ¬ QuoOk q from fun hq => (by obtain ⟨g1, g2, g3, g4, g5, g6, g7, g8, g9, g10, g11, g12, g13, g14⟩ := hq; omega))]; done)
  have hw : SlOf encV 2 h1 A q.wins.length q.wins := hx.le hle1
  refine GO_loopT (X := Nat) (fun k => k ≤ 3 ∧ ∀ i, i < k → 0 ≤ [q.young, q.inn, q.out].getD i 0 ∧ [q.young, q.inn, q.out].getD i 0 ≤ 40) (fun k => 3 - k) (fun k => [(39, .int .i64 k), (38, .int .i64 3), (37, .slice (some ⟨b1, 0, none⟩) 3 3), (1, .pointer (some ⟨b, 0, none⟩))]) (fun _ => [Blk b 24 (partL (quoV q A c))]) (fun _ => h1) 0 ⟨by omega, fun i hi => by omega⟩ (by (repeat (first | exact trivial | refine ⟨rfl, ?_⟩)); done) (by (repeat (first | exact Takes_nil | (apply Takes_cons; exact (by (repeat (first | exact Take.here | apply Take.there)); done)))); done) rfl ?_
  rintro k ⟨hk, hI⟩ ih
  by_cases hkn : k < 3
  · have cc := hs1.cellsD 0 hkn
    have hlt : [q.young, q.inn, q.out].getD k 0 = q.young ∨ [q.young, q.inn, q.out].getD k 0 = q.inn ∨ [q.young, q.inn, q.out].getD k 0 = q.out := by
      have : k = 0 ∨ k = 1 ∨ k = 2 := by omega
      rcases this with rfl | rfl | rfl <;> simp
    generalize hy : [q.young, q.inn, q.out].getD k 0 = y at *
    repeat' (first | apply GO_seq | apply GO_skip | apply GO_inBlock | apply GO_block | apply GO_region | apply GOl_nil | (apply GOl_add; exact rfl; exact rfl; exact rfl; omega; exact rfl; exact rfl) | (apply GOl_pv; exact rfl; exact rfl; exact rfl) | (apply GOl_ov; exact rfl; exact rfl; (first | (apply OV_idxS (j := k); exact rfl; exact rfl; exact rfl; exact rfl; exact rfl; exact rfl; (with_reducible exact rfl); omega) | (apply OV_load; exact rfl; exact Lv_ro rfl cc rfl)); exact (by repeat' (first | exact trivial | apply And.intro | exact List.Mem.head _ | apply List.Mem.tail))) | (apply GOl_to; exact rfl; exact rfl; exact rfl; (first | (apply OpTo_val; exact rfl; exact has19; exact within_c _ _ _ _; skip))) | (apply GO_cond; exact rfl; all_goals intro hc; all_goals try simp only [ltI_t, ltI_f, leI_t, leI_f, eqI_t, eqI_f, Bool.not_eq_true', Bool.not_eq_false', decide_eq_true_eq, decide_eq_false_iff_not, reduceCtorEq] at hc; all_goals try (exfalso; omega)) | (apply GO_retV1; exact rfl; exact rfl; exact rfl))
    · rw [if_neg (show ¬ QuoOk q from fun hq => (by obtain ⟨g1, g2, g3, g4, g5, g6, g7, g8, g9, g10, g11, g12, g13, g14⟩ := hq; omega))]
    · have h3 := ih (k + 1) ⟨by omega, fun i hi => (by by_cases hik : i = k; (subst hik; rw [hy]; omega); exact hI i (by omega))⟩ (by omega)
      refine GO_fit (by (repeat (first | exact trivial | refine ⟨rfl, ?_⟩)); done) (by (repeat (first | exact Takes_nil | (apply Takes_cons; exact (by (repeat (first | exact Take.here | apply Take.there)); done)))); done) (h3)
  · have i0 := hI 0 (by omega)
    have i1 := hI 1 (by omega)
    have i2 := hI 2 (by omega)
    simp only [List.getD_cons_zero, List.getD_cons_succ] at i0 i1 i2
    repeat' (first | apply GO_seq | apply GO_block | apply GO_region | apply GOl_nil | (apply GO_exit; exact rfl) | (apply GOl_pv; exact rfl; exact rfl; exact rfl) | (apply GOl_load; exact rfl; exact Ld_blk rfl (by (repeat (first | exact List.Mem.head _ | apply List.Mem.tail)); done) rfl; exact rfl; exact rfl) | (apply GO_cond; exact rfl; all_goals intro hc; all_goals try simp only [ltI_t, ltI_f, leI_t, leI_f, eqI_t, eqI_f, Bool.not_eq_true', Bool.not_eq_false', decide_eq_true_eq, decide_eq_false_iff_not, reduceCtorEq] at hc; all_goals try (exfalso; omega)))
    refine GO_loopT (X := Nat) (fun k => k ≤ q.wins.length ∧ ∀ i, i < k → IvlOk (q.wins.getD i v0)) (fun k => q.wins.length - k) (fun k => [(50, .int .i64 k), (49, .int .i64 q.wins.length), (48, .slice A q.wins.length c)]) (fun _ => []) (fun _ => h1) 0 ⟨by omega, fun i hi => by omega⟩ (by (repeat (first | exact trivial | refine ⟨rfl, ?_⟩)); done) (by (repeat (first | exact Takes_nil | (apply Takes_cons; exact (by (repeat (first | exact Take.here | apply Take.there)); done)))); done) rfl ?_
    rintro k2 ⟨hk2, hI2⟩ ih2
    by_cases hkn2 : k2 < q.wins.length
    · have a1 := hw.addrD hkn2
      have cc := hw.cellsD v0 hkn2
      have hm := getD_mem v0 hkn2
      generalize hy : q.wins.getD k2 v0 = y at *
      by_cases hv : IvlOk y
      · have hv2 := checkI_c h1 y
        rw [if_pos hv] at hv2
        repeat' (first | apply GO_seq | apply GO_skip | apply GO_inBlock | apply GO_block | apply GO_region | apply GOl_nil | (apply GOl_add; exact rfl; exact rfl; exact rfl; omega; exact rfl; exact rfl) | (apply GOl_pv; exact rfl; exact rfl; exact rfl) | (apply GOl_load; exact rfl; exact Ld_blk rfl (by (repeat (first | exact List.Mem.head _ | apply List.Mem.tail)); done) rfl; exact rfl; exact rfl) | (apply GOl_ov; exact rfl; exact rfl; (first | (apply OV_idxS (j := k2); exact rfl; exact rfl; exact rfl; exact rfl; exact rfl; exact a1; (with_reducible exact rfl); omega) | (apply OV_load; exact rfl; exact Lv_ro rfl cc rfl)); exact (by repeat' (first | exact trivial | apply And.intro | exact List.Mem.head _ | apply List.Mem.tail))) | (apply GOl_to; exact rfl; exact rfl; exact rfl; (first | (apply OpTo_store; exact rfl; exact rfl; exact rfl; exact (by (repeat (first | exact Repl.here | apply Repl.there)); done); exact rfl; exact rfl; exact rfl; skip) | (apply OpTo_alloc; exact rfl; intro b; skip) | (apply OpTo_val; exact rfl; exact has42; exact hv2; skip))) | (apply GO_cond; exact rfl; all_goals intro hc; all_goals try simp only [ltI_t, ltI_f, leI_t, leI_f, eqI_t, eqI_f, Bool.not_eq_true', Bool.not_eq_false', decide_eq_true_eq, decide_eq_false_iff_not, reduceCtorEq] at hc; all_goals try (exfalso; omega)))
        have h3 := ih2 (k2 + 1) ⟨by omega, fun i hi => (by by_cases hik : i = k2; (subst hik; rw [hy]; exact hv); exact hI2 i (by omega))⟩ (by omega)
        refine GO_fit (by (repeat (first | exact trivial | refine ⟨rfl, ?_⟩)); done) (by (repeat (first | exact Takes_nil | (apply Takes_cons; exact (by (repeat (first | exact Take.here | apply Take.there)); done)))); done) (h3)
      · have hv2 := checkI_c h1 y
        rw [if_neg hv] at hv2
        repeat' (first | apply GO_seq | apply GO_skip | apply GO_block | apply GO_region | apply GOl_nil | (apply GOl_pv; exact rfl; exact rfl; exact rfl) | (apply GOl_load; exact rfl; exact Ld_blk rfl (by (repeat (first | exact List.Mem.head _ | apply List.Mem.tail)); done) rfl; exact rfl; exact rfl) | (apply GOl_ov; exact rfl; exact rfl; (first | (apply OV_idxS (j := k2); exact rfl; exact rfl; exact rfl; exact rfl; exact rfl; exact a1; (with_reducible exact rfl); omega) | (apply OV_load; exact rfl; exact Lv_ro rfl cc rfl)); exact (by repeat' (first | exact trivial | apply And.intro | exact List.Mem.head _ | apply List.Mem.tail))) | (apply GOl_to; exact rfl; exact rfl; exact rfl; (first | (apply OpTo_store; exact rfl; exact rfl; exact rfl; exact (by (repeat (first | exact Repl.here | apply Repl.there)); done); exact rfl; exact rfl; exact rfl; skip) | (apply OpTo_alloc; exact rfl; intro b; skip) | (apply OpTo_val; exact rfl; exact has42; exact hv2; skip))) | (apply GO_cond; exact rfl; all_goals intro hc; all_goals try simp only [ltI_t, ltI_f, leI_t, leI_f, eqI_t, eqI_f, Bool.not_eq_true', Bool.not_eq_false', decide_eq_true_eq, decide_eq_false_iff_not, reduceCtorEq] at hc; all_goals try (exfalso; omega)) | (apply GO_retV1; exact rfl; exact rfl; exact rfl))
        rw [if_neg (show ¬ QuoOk q from fun hq => hv (hq.2.2.2.2.2.2.2.2.2.2.2.2.2 _ hm))]
    · repeat' (first | apply GO_seq | apply GO_region | apply GOl_nil | (apply GO_exit; exact rfl) | (apply GOl_pv; exact rfl; exact rfl; exact rfl) | (apply GO_cond; exact rfl; all_goals intro hc; all_goals try simp only [ltI_t, ltI_f, leI_t, leI_f, eqI_t, eqI_f, Bool.not_eq_true', Bool.not_eq_false', decide_eq_true_eq, decide_eq_false_iff_not, reduceCtorEq] at hc; all_goals try (exfalso; omega)) | (apply GO_retV1; exact rfl; exact rfl; exact rfl))
      rw [if_pos]
      refine ⟨by omega, by omega, by omega, by omega, by omega, by omega, by omega, by omega, by omega, by omega, by omega, by omega, by omega, fun w hw' => ?_⟩
      obtain ⟨i, hi, rfl⟩ := mem_getD v0 hw'
      exact hI2 i (by omega)

end Go.Hw
set_option linter.unusedVariables false
set_option linter.unusedSimpArgs false
set_option maxRecDepth 100000
set_option maxHeartbeats 4000000
namespace Go.Hw
open Go
attribute [local irreducible] GO GOl GDp Val Fn Res CellsAt ValE Blk OwnS MapA
open Go.Proofs (Tryd.prog)

/-- The place of the first element with p. -/
def idxP {α : Type} (p : α → Bool) : List α → Nat → Int
  | [], _ => -1
  | x :: r, k => if p x then k else idxP p r (k + 1)
theorem idxP_nonneg {α : Type} (p : α → Bool) : ∀ (l : List α) (k : Nat), 0 ≤ idxP p l k ↔ l.any p = true
  | [], k => by simp [idxP]
  | a :: r, k => by
    have := idxP_nonneg p r (k + 1)
    by_cases h : p a
    · simp [idxP, h]
    · simp [idxP, h, this]
theorem drop_consD {α : Type} (d : α) {xs : List α} {k n : Nat} (hlen : xs.length = n) (hk : k < n) : xs.drop k = xs.getD k d :: xs.drop (k + 1) := by
  rw [List.drop_eq_getElem_cons (by omega)]; simp [List.getD, List.getElem?_eq_getElem (show k < xs.length by omega)]
theorem take_snocQ {α : Type} (d : α) {xs : List α} {k n : Nat} (hlen : xs.length = n) (hk : k < n) : xs.take (k + 1) = xs.take k ++ [xs.getD k d] := by
  rw [List.take_add_one]; simp [List.getD, List.getElem?_eq_getElem (show k < xs.length by omega)]


theorem indexFuncV_c (h : Ro) (A : Option Addr) (n c : Nat) (l : List Ivl) (hx : SlOf encV 2 h A n l) (hn : n ≤ 1000000000) (f : FuncId) (fs cs : List Value) (p : Ivl → Bool) (hh : Has Tryd.prog f)
    (hf : ∀ x ∈ l, Val Tryd.prog f (fs ++ [ivlV x] ++ cs).toArray h (.bool (p x))) :
    Val Tryd.prog 70 #[.slice A n c, .func (.func f) fs.toArray cs.toArray] h (.int .i64 (idxP p l 0)) := by
  refine Val_intro (args := [_, _]) ts_ok Go.Proofs.Tryd.func70 rfl rfl fun w0 X0 => ?_
  have hlen := hx.len
  repeat' (first | apply GO_seq | apply GO_block | apply GO_region | apply GOl_nil | (apply GOl_pv; exact rfl; exact rfl; exact rfl))
  refine GO_loopT (X := Nat) (fun k => k ≤ n ∧ idxP p (l.drop k) k = idxP p l 0) (fun k => n - k) (fun k => [(8, .int .i64 k), (7, .int .i64 n), (0, .slice A n c), (1, .func (.func f) fs.toArray cs.toArray)]) (fun _ => []) (fun _ => h) 0 ⟨by omega, rfl⟩ (by (repeat (first | exact trivial | refine ⟨rfl, ?_⟩)); done) (by (repeat (first | exact Takes_nil | (apply Takes_cons; exact (by (repeat (first | exact Take.here | apply Take.there)); done)))); done) rfl ?_
  rintro k ⟨hk, hI⟩ ih
  by_cases hkn : k < n
  · have a1 := hx.addrD hkn
    have c1 := hx.cellsD v0 hkn
    have hd := drop_consD v0 hlen hkn
    have hv := hf _ (getD_mem v0 (show k < l.length by omega))
    generalize l.getD k v0 = x at *
    repeat' (first | apply GO_seq | apply GO_skip | apply GO_inBlock | apply GO_block | apply GO_region | apply GOl_nil | (apply GOl_add; exact rfl; exact rfl; exact rfl; omega; exact rfl; exact rfl) | (apply GOl_pv; exact rfl; exact rfl; exact rfl) | (apply GOl_ov; exact rfl; exact rfl; (first | (apply OV_idxS (j := k); exact rfl; exact rfl; exact rfl; exact rfl; exact rfl; exact a1; (with_reducible exact rfl); omega) | (apply OV_load; exact rfl; exact Lv_ro rfl c1 rfl)); exact (by repeat' (first | exact trivial | apply And.intro | exact List.Mem.head _ | apply List.Mem.tail))) | (apply GOl_to; exact rfl; exact rfl; exact rfl; (first | (apply OpTo_valF (f := f) (fs := fs) (cs := cs); exact rfl; exact rfl; exact hh; exact hv; skip))) | (apply GO_cond; exact rfl; all_goals intro hc; all_goals try simp only [ltI_t, ltI_f, leI_t, leI_f, eqI_t, eqI_f, Bool.not_eq_true', Bool.not_eq_false', decide_eq_true_eq, decide_eq_false_iff_not, reduceCtorEq] at hc; all_goals try (exfalso; omega)) | (apply GO_retV1; exact rfl; exact rfl; exact rfl))
    · rw [← hI, hd, idxP, if_pos hc]
    · have h3 := ih (k + 1) ⟨by omega, by rw [← hI, hd, idxP, if_neg (by simp [hc])]⟩ (by omega)
      refine GO_fit (by (repeat (first | exact trivial | refine ⟨rfl, ?_⟩)); done) (by (repeat (first | exact Takes_nil | (apply Takes_cons; exact (by (repeat (first | exact Take.here | apply Take.there)); done)))); done) (h3)
  · repeat' (first | apply GO_seq | apply GO_region | apply GOl_nil | (apply GO_exit; exact rfl) | (apply GOl_pv; exact rfl; exact rfl; exact rfl) | (apply GO_cond; exact rfl; all_goals intro hc; all_goals try simp only [ltI_t, ltI_f, leI_t, leI_f, eqI_t, eqI_f, Bool.not_eq_true', Bool.not_eq_false', decide_eq_true_eq, decide_eq_false_iff_not, reduceCtorEq] at hc; all_goals try (exfalso; omega)) | (apply GO_retV1; exact rfl; exact rfl; exact rfl))
    rw [← hI, show k = l.length by omega, List.drop_length]; rfl


theorem containsFuncV_c (h : Ro) (A : Option Addr) (n c : Nat) (l : List Ivl) (hx : SlOf encV 2 h A n l) (hn : n ≤ 1000000000) (f : FuncId) (fs cs : List Value) (p : Ivl → Bool) (hh : Has Tryd.prog f)
    (hf : ∀ x ∈ l, Val Tryd.prog f (fs ++ [ivlV x] ++ cs).toArray h (.bool (p x))) :
    Val Tryd.prog 46 #[.slice A n c, .func (.func f) fs.toArray cs.toArray] h (.bool (l.any p)) := by
  refine Val_intro (args := [_, _]) ts_ok Go.Proofs.Tryd.func46 rfl rfl fun w0 X0 => ?_
  repeat' (first | apply GO_seq | apply GO_region | apply GOl_nil | (apply GOl_pv; exact rfl; exact rfl; exact rfl) | (apply GOl_to; exact rfl; exact rfl; exact rfl; (first | (apply OpTo_val; exact rfl; exact has70; exact indexFuncV_c _ _ _ _ _ hx hn f fs cs p hh hf; skip))) | (apply GO_retV1; exact rfl; exact rfl; exact rfl))
  rw [leI_eq]; congr 1; rw [Bool.eq_iff_iff, decide_eq_true_eq]; exact idxP_nonneg _ _ _


theorem indexFuncI_c (h : Ro) (A : Option Addr) (n c : Nat) (l : List Int) (hx : SlOf encI 1 h A n l) (hn : n ≤ 1000000000) (f : FuncId) (fs cs : List Value) (p : Int → Bool) (hh : Has Tryd.prog f)
    (hf : ∀ x ∈ l, Val Tryd.prog f (fs ++ [Value.int .i64 x] ++ cs).toArray h (.bool (p x))) :
    Val Tryd.prog 58 #[.slice A n c, .func (.func f) fs.toArray cs.toArray] h (.int .i64 (idxP p l 0)) := by
  refine Val_intro (args := [_, _]) ts_ok Go.Proofs.Tryd.func58 rfl rfl fun w0 X0 => ?_
  have hlen := hx.len
  repeat' (first | apply GO_seq | apply GO_block | apply GO_region | apply GOl_nil | (apply GOl_pv; exact rfl; exact rfl; exact rfl))
  refine GO_loopT (X := Nat) (fun k => k ≤ n ∧ idxP p (l.drop k) k = idxP p l 0) (fun k => n - k) (fun k => [(8, .int .i64 k), (7, .int .i64 n), (0, .slice A n c), (1, .func (.func f) fs.toArray cs.toArray)]) (fun _ => []) (fun _ => h) 0 ⟨by omega, rfl⟩ (by (repeat (first | exact trivial | refine ⟨rfl, ?_⟩)); done) (by (repeat (first | exact Takes_nil | (apply Takes_cons; exact (by (repeat (first | exact Take.here | apply Take.there)); done)))); done) rfl ?_
  rintro k ⟨hk, hI⟩ ih
  by_cases hkn : k < n
  · have a1 := hx.addrD hkn
    have c1 := hx.cellsD 0 hkn
    have hd := drop_consD 0 hlen hkn
    have hv := hf _ (getD_mem 0 (show k < l.length by omega))
    generalize l.getD k 0 = x at *
    repeat' (first | apply GO_seq | apply GO_skip | apply GO_inBlock | apply GO_block | apply GO_region | apply GOl_nil | (apply GOl_add; exact rfl; exact rfl; exact rfl; omega; exact rfl; exact rfl) | (apply GOl_pv; exact rfl; exact rfl; exact rfl) | (apply GOl_ov; exact rfl; exact rfl; (first | (apply OV_idxS (j := k); exact rfl; exact rfl; exact rfl; exact rfl; exact rfl; exact a1; (with_reducible exact rfl); omega) | (apply OV_load; exact rfl; exact Lv_ro rfl c1 rfl)); exact (by repeat' (first | exact trivial | apply And.intro | exact List.Mem.head _ | apply List.Mem.tail))) | (apply GOl_to; exact rfl; exact rfl; exact rfl; (first | (apply OpTo_valF (f := f) (fs := fs) (cs := cs); exact rfl; exact rfl; exact hh; exact hv; skip))) | (apply GO_cond; exact rfl; all_goals intro hc; all_goals try simp only [ltI_t, ltI_f, leI_t, leI_f, eqI_t, eqI_f, Bool.not_eq_true', Bool.not_eq_false', decide_eq_true_eq, decide_eq_false_iff_not, reduceCtorEq] at hc; all_goals try (exfalso; omega)) | (apply GO_retV1; exact rfl; exact rfl; exact rfl))
    · rw [← hI, hd, idxP, if_pos hc]
    · have h3 := ih (k + 1) ⟨by omega, by rw [← hI, hd, idxP, if_neg (by simp [hc])]⟩ (by omega)
      refine GO_fit (by (repeat (first | exact trivial | refine ⟨rfl, ?_⟩)); done) (by (repeat (first | exact Takes_nil | (apply Takes_cons; exact (by (repeat (first | exact Take.here | apply Take.there)); done)))); done) (h3)
  · repeat' (first | apply GO_seq | apply GO_region | apply GOl_nil | (apply GO_exit; exact rfl) | (apply GOl_pv; exact rfl; exact rfl; exact rfl) | (apply GO_cond; exact rfl; all_goals intro hc; all_goals try simp only [ltI_t, ltI_f, leI_t, leI_f, eqI_t, eqI_f, Bool.not_eq_true', Bool.not_eq_false', decide_eq_true_eq, decide_eq_false_iff_not, reduceCtorEq] at hc; all_goals try (exfalso; omega)) | (apply GO_retV1; exact rfl; exact rfl; exact rfl))
    rw [← hI, show k = l.length by omega, List.drop_length]; rfl


theorem containsFuncI_c (h : Ro) (A : Option Addr) (n c : Nat) (l : List Int) (hx : SlOf encI 1 h A n l) (hn : n ≤ 1000000000) (f : FuncId) (fs cs : List Value) (p : Int → Bool) (hh : Has Tryd.prog f)
    (hf : ∀ x ∈ l, Val Tryd.prog f (fs ++ [Value.int .i64 x] ++ cs).toArray h (.bool (p x))) :
    Val Tryd.prog 39 #[.slice A n c, .func (.func f) fs.toArray cs.toArray] h (.bool (l.any p)) := by
  refine Val_intro (args := [_, _]) ts_ok Go.Proofs.Tryd.func39 rfl rfl fun w0 X0 => ?_
  repeat' (first | apply GO_seq | apply GO_region | apply GOl_nil | (apply GOl_pv; exact rfl; exact rfl; exact rfl) | (apply GOl_to; exact rfl; exact rfl; exact rfl; (first | (apply OpTo_val; exact rfl; exact has58; exact indexFuncI_c _ _ _ _ _ hx hn f fs cs p hh hf; skip))) | (apply GO_retV1; exact rfl; exact rfl; exact rfl))
  rw [leI_eq]; congr 1; rw [Bool.eq_iff_iff, decide_eq_true_eq]; exact idxP_nonneg _ _ _

/-- Is a day in one of the intervals? -/
def inAny (n : Int) (l : List Ivl) : Bool := l.any fun i => decide (i.lo ≤ n ∧ n ≤ i.hi)


theorem in1_c (h : Ro) (b : Nat) (n : Int) (hb : CellsAt h ⟨b, 0, none⟩ [.int .i64 n]) (i : Ivl) : Val Tryd.prog 47 #[ivlV i, .pointer (some ⟨b, 0, none⟩)] h (.bool (decide (i.lo ≤ n ∧ n ≤ i.hi))) := by
  refine Val_intro (args := [_, _]) ts_ok Go.Proofs.Tryd.func47 rfl rfl fun w0 X0 => ?_
  repeat' (first | apply GO_seq | apply GO_region | apply GOl_nil | (apply GOl_unwanted; exact rfl; exact rfl) | (apply GOl_pv; exact rfl; exact rfl; exact rfl) | (apply GOl_load; exact rfl; exact Ld_blk rfl (by (repeat (first | exact List.Mem.head _ | apply List.Mem.tail)); done) rfl; exact rfl; exact rfl) | (apply GOl_ov; exact rfl; exact rfl; (first | (apply OV_load; exact rfl; first | exact Lv_ro rfl (by assumption) rfl | exact Lv_roF rfl (by assumption) rfl | exact Lv_roF2 rfl (by assumption) rfl | exact Lv_roF3 rfl (by assumption) rfl)); exact (by repeat' (first | exact trivial | apply And.intro | exact List.Mem.head _ | apply List.Mem.tail))) | (apply GOl_to; exact rfl; exact rfl; exact rfl; (first | (apply OpTo_box; exact rfl; intro b; skip))) | (apply GOl_split; exact rfl; exact rfl; all_goals intro hc; all_goals try simp only [ltI_t, ltI_f, leI_t, leI_f, eqI_t, eqI_f, Bool.not_eq_true', Bool.not_eq_false', decide_eq_true_eq, decide_eq_false_iff_not, reduceCtorEq] at hc; all_goals try (exfalso; omega)) | (apply GO_retV1; exact rfl; exact rfl; exact rfl))
  all_goals (simp only [ltI_eq, leI_eq, eqI_eq, Value.bool.injEq]; first | rfl | (rw [decide_eq_decide]; omega) | (symm; rw [decide_eq_false_iff_not]; omega) | (symm; rw [decide_eq_true_eq]; omega))


theorem in_c (h : Ro) (n : Int) (A : Option Addr) (m c : Nat) (l : List Ivl) (hx : SlOf encV 2 h A m l) (hn : m ≤ 1000000000) : Val Tryd.prog 26 #[.int .i64 n, .slice A m c] h (.bool (inAny n l)) := by
  refine Val_intro (args := [_, _]) ts_ok Go.Proofs.Tryd.func26 rfl rfl fun w0 X0 => ?_
  repeat' (first | apply GO_seq | apply GO_region | apply GOl_nil | (apply GOl_pv; exact rfl; exact rfl; exact rfl) | (apply GOl_to; exact rfl; exact rfl; exact rfl; (first | (apply OpTo_box; exact rfl; intro b; skip) | (refine OpTo_relB (by (repeat (first | exact Take.here | apply Take.there)); done) ?_; intro h1 hle1 hc1; apply OpTo_val; exact rfl; exact has46; exact containsFuncV_c h1 _ _ _ l (hx.le hle1) hn 47 [] [.pointer (some ⟨_, 0, none⟩)] (fun i => decide (i.lo ≤ n ∧ n ≤ i.hi)) has47 (fun x _ => in1_c h1 _ n hc1 x); skip))) | (apply GO_retV1; exact rfl; exact rfl; exact rfl))
  all_goals rfl

/-! ### The cap -/
def MoneyOk (l : List Int) : Prop := l.length ≤ 64 ∧ ∀ n ∈ l, 0 ≤ n ∧ n ≤ 1125899906842624
instance (l : List Int) : Decidable (MoneyOk l) := by unfold MoneyOk; infer_instance
def last3 (l : List Int) : List Int := l.drop (l.length - 3)
def capR (q : Quo) (l : List Int) : Value :=
  if ¬ QuoOk q then .tuple #[.int .i64 0, .bool false, .int .i64 370] else if ¬ MoneyOk l then .tuple #[.int .i64 0, .bool false, .int .i64 1] else .tuple #[.int .i64 (last3 l).sum, .bool (leI (last3 l).sum q.cap), .int .i64 0]


theorem cap1_c (h : Ro) (n : Int) : Val Tryd.prog 40 #[.int .i64 n] h (.bool (!decide (0 ≤ n ∧ n ≤ 1125899906842624))) := by
  refine Val_intro (args := [_]) ts_ok Go.Proofs.Tryd.func40 rfl rfl fun w0 X0 => ?_
  repeat' (first | apply GO_seq | apply GO_region | apply GOl_nil | (apply GOl_pv; exact rfl; exact rfl; exact rfl) | (apply GOl_to; exact rfl; exact rfl; exact rfl; (first | (apply OpTo_val; exact rfl; exact has19; exact within_c _ _ _ _; skip))) | (apply GO_retV1; exact rfl; exact rfl; exact rfl))
  all_goals rfl
theorem sum_snoc (l : List Int) (x : Int) : (l ++ [x]).sum = l.sum + x := by simp
theorem sum_bd {l : List Int} (h : ∀ n ∈ l, 0 ≤ n ∧ n ≤ 1125899906842624) : 0 ≤ l.sum ∧ l.sum ≤ 1125899906842624 * l.length := by
  induction l with
  | nil => simp
  | cons a r ih =>
    have h1 := h a (by simp)
    have h2 := ih fun n hn => h n (by simp [hn])
    simp only [List.sum_cons, List.length_cons]
    omega


theorem cap_c (h : Ro) (q : Quo) (A : Option Addr) (c : Nat) (hx : SlOf encV 2 h A q.wins.length q.wins) (hn : q.wins.length ≤ 1000000000) (B : Option Addr) (n d : Nat) (l : List Int) (hl : SlOf encI 1 h B n l) (hl2 : n ≤ 1000000000) (hnd : n ≤ d) :
    Val Tryd.prog 13 #[quoV q A c, .slice B n d] h (capR q l) := by
  refine Val_intro (args := [_, _]) ts_ok Go.Proofs.Tryd.func13 rfl rfl fun w0 X0 => ?_
  have hlen := hl.len
  have hq := checkQ_c h q A c hx hn
  by_cases hQ : QuoOk q
  · rw [if_pos hQ] at hq
    have hcf := containsFuncI_c h B n d l hl hl2 40 [] [] (fun n => !decide (0 ≤ n ∧ n ≤ 1125899906842624)) has40 (fun x _ => cap1_c h x)
    by_cases hM : MoneyOk l
    · have e : capR q l = .tuple #[.int .i64 (last3 l).sum, .bool (leI (last3 l).sum q.cap), .int .i64 0] := by unfold capR; rw [if_neg (fun hh => hh hQ), if_neg (fun hh => hh hM)]
      rw [e]
      have hany : l.any (fun n => !decide (0 ≤ n ∧ n ≤ 1125899906842624)) = false := by
        rw [List.any_eq_false]; intro x hx; simpa using hM.2 x hx
      rw [hany] at hcf
      have hM1 := hM.1
      have hlo : max 0 ((n : Int) - 3) = ((n - 3 : Nat) : Int) := by omega
      have hdl : (last3 l).length = n - (n - 3) := by unfold last3; rw [List.length_drop]; omega
      have hdb : ∀ x ∈ last3 l, 0 ≤ x ∧ x ≤ 1125899906842624 := fun x hx => hM.2 x (List.mem_of_mem_drop hx)
      have hds : l.drop (n - 3) = last3 l := by unfold last3; rw [hlen]
      repeat' (first | apply GO_seq | apply GO_skip | apply GO_block | apply GO_region | apply GOl_nil | (apply GOl_sub; exact rfl; exact rfl; exact rfl; omega; exact rfl; exact rfl) | (apply GOl_pv; exact rfl; exact rfl; exact rfl) | (apply GOl_load; exact rfl; exact Ld_blk rfl (by (repeat (first | exact List.Mem.head _ | apply List.Mem.tail)); done) rfl; exact rfl; exact rfl) | (apply GOl_to; exact rfl; exact rfl; exact rfl; (first | (apply OpTo_box; exact rfl; intro b; skip) | (apply OpTo_val; exact rfl; exact has16; exact hq; skip) | (apply OpTo_val; exact rfl; exact has39; exact hcf; skip) | (apply OpTo_sliceLo (enc := encI) (xs := l) (lo := n - 3); exact rfl; exact rfl; exact rfl; exact rfl; exact rfl; exact hl; exact hlo; omega; exact hnd; intro A3 hs3; rw [hds] at hs3; skip))) | (apply GO_cond; exact rfl; all_goals intro hc; all_goals try simp only [ltI_t, ltI_f, leI_t, leI_f, eqI_t, eqI_f, Bool.not_eq_true', Bool.not_eq_false', decide_eq_true_eq, decide_eq_false_iff_not, reduceCtorEq] at hc; all_goals try (exfalso; omega)) | (apply GOl_split; exact rfl; exact rfl; all_goals intro hc; all_goals try simp only [ltI_t, ltI_f, leI_t, leI_f, eqI_t, eqI_f, Bool.not_eq_true', Bool.not_eq_false', decide_eq_true_eq, decide_eq_false_iff_not, reduceCtorEq] at hc; all_goals try (exfalso; omega)))
      generalize last3 l = ys at *
      refine GO_loopT (X := Nat × Int) (fun x => x.1 ≤ n - (n - 3) ∧ x.2 = (ys.take x.1).sum) (fun x => n - (n - 3) - x.1) (fun x => [(29, .int .i64 x.1), (28, .int .i64 (n - (n - 3) : Nat)), (27, .slice A3 (n - (n - 3)) (d - (n - 3))), (4, .int .i64 x.2), (2, .pointer (some ⟨b, 0, none⟩))]) (fun _ => [Blk b 24 (partL (quoV q A c))]) (fun _ => h) (0, 0) ⟨by dsimp only; omega, by simp⟩ (by (repeat (first | exact trivial | refine ⟨rfl, ?_⟩)); done) (by (repeat (first | exact Takes_nil | (apply Takes_cons; exact (by (repeat (first | exact Take.here | apply Take.there)); done)))); done) rfl ?_
      rintro ⟨k, s⟩ ⟨hk, hs⟩ ih
      dsimp only at hk hs ih ⊢
      have hsb := sum_bd (l := ys.take k) fun x hx => hdb x (List.mem_of_mem_take hx)
      rw [← hs, List.length_take] at hsb
      by_cases hkn : k < n - (n - 3)
      · have a1 := hs3.addrD hkn
        have c1 := hs3.cellsD 0 hkn
        have hb := hdb _ (getD_mem 0 (show k < ys.length by omega))
        have ht := take_snocQ 0 hdl hkn
        generalize ys.getD k 0 = x at *
        repeat' (first | apply GO_seq | apply GO_skip | apply GO_inBlock | apply GO_block | apply GO_region | apply GOl_nil | (apply GOl_add; exact rfl; exact rfl; exact rfl; omega; exact rfl; exact rfl) | (apply GOl_pv; exact rfl; exact rfl; exact rfl) | (apply GOl_ov; exact rfl; exact rfl; (first | (apply OV_idxS (j := k); exact rfl; exact rfl; exact rfl; exact rfl; exact rfl; exact a1; (with_reducible exact rfl); omega) | (apply OV_load; exact rfl; exact Lv_ro rfl c1 rfl)); exact (by repeat' (first | exact trivial | apply And.intro | exact List.Mem.head _ | apply List.Mem.tail))) | (apply GO_cond; exact rfl; all_goals intro hc; all_goals try simp only [ltI_t, ltI_f, leI_t, leI_f, eqI_t, eqI_f, Bool.not_eq_true', Bool.not_eq_false', decide_eq_true_eq, decide_eq_false_iff_not, reduceCtorEq] at hc; all_goals try (exfalso; omega)))
        have h3 := ih (k + 1, s + x) ⟨by dsimp only; omega, by dsimp only; rw [ht, sum_snoc, hs]⟩ (by dsimp only; omega)
        refine GO_fit (by (repeat (first | exact trivial | refine ⟨rfl, ?_⟩)); done) (by (repeat (first | exact Takes_nil | (apply Takes_cons; exact (by (repeat (first | exact Take.here | apply Take.there)); done)))); done) (h3)
      · rw [List.take_of_length_le (by omega)] at hs
        subst hs
        repeat' (first | apply GO_seq | apply GO_region | apply GOl_nil | (apply GO_exit; exact rfl) | (apply GOl_pv; exact rfl; exact rfl; exact rfl) | (apply GO_drawp (n := 11) [0, 1, 2, 3, 4, 5, 6, 7] [(0, 0), (1, 0), (2, 0), (3, 0), (4, 0), (5, 0), (6, 0), (7, 0)]; kernel_rfl) | (apply GP_pv; exact rfl; kernel_rfl; exact rfl; exact rfl; exact rfl) | (apply GP_loadB; exact rfl; kernel_rfl; exact rfl; exact rfl; exact rfl; exact (by (repeat (first | exact List.Mem.head _ | apply List.Mem.tail)); done); exact rfl; exact rfl) | (apply GP_done; kernel_rfl; exact rfl) | (apply GO_cond; exact rfl; all_goals intro hc; all_goals try simp only [ltI_t, ltI_f, leI_t, leI_f, eqI_t, eqI_f, Bool.not_eq_true', Bool.not_eq_false', decide_eq_true_eq, decide_eq_false_iff_not, reduceCtorEq] at hc; all_goals try (exfalso; omega)) | (apply GO_retV3; exact rfl; exact rfl; exact rfl; exact rfl; exact rfl))
        all_goals rfl
    · have e : capR q l = .tuple #[.int .i64 0, .bool false, .int .i64 1] := by unfold capR; rw [if_neg (fun hh => hh hQ), if_pos hM]
      rw [e]
      have hany : (n : Int) ≤ 64 → l.any (fun n => !decide (0 ≤ n ∧ n ≤ 1125899906842624)) = true := fun h64 => by
        cases hb : l.any (fun n => !decide (0 ≤ n ∧ n ≤ 1125899906842624)) with
        | true => rfl
        | false =>
          refine absurd ⟨by omega, fun x hx => ?_⟩ hM
          rw [List.any_eq_false] at hb
          simpa using hb x hx
      generalize l.any (fun n => !decide (0 ≤ n ∧ n ≤ 1125899906842624)) = an at *
      repeat' (first | apply GO_seq | apply GO_skip | apply GO_region | apply GOl_nil | (apply GOl_unwanted; exact rfl; exact rfl) | (apply GOl_sub; exact rfl; exact rfl; exact rfl; omega; exact rfl; exact rfl) | (apply GOl_pv; exact rfl; exact rfl; exact rfl) | (apply GOl_load; exact rfl; exact Ld_blk rfl (by (repeat (first | exact List.Mem.head _ | apply List.Mem.tail)); done) rfl; exact rfl; exact rfl) | (apply GOl_to; exact rfl; exact rfl; exact rfl; (first | (apply OpTo_box; exact rfl; intro b; skip) | (apply OpTo_val; exact rfl; exact has16; exact hq; skip) | (apply OpTo_val; exact rfl; exact has39; exact hcf; skip))) | (apply GO_cond; exact rfl; all_goals intro hc; all_goals try simp only [ltI_t, ltI_f, leI_t, leI_f, eqI_t, eqI_f, Bool.not_eq_true', Bool.not_eq_false', decide_eq_true_eq, decide_eq_false_iff_not, reduceCtorEq] at hc; all_goals try (exfalso; omega)) | (apply GOl_split; exact rfl; exact rfl; all_goals intro hc; all_goals try simp only [ltI_t, ltI_f, leI_t, leI_f, eqI_t, eqI_f, Bool.not_eq_true', Bool.not_eq_false', decide_eq_true_eq, decide_eq_false_iff_not, reduceCtorEq] at hc; all_goals try (exfalso; omega)) | (apply GO_retV3; exact rfl; exact rfl; exact rfl; exact rfl; exact rfl))
      all_goals first | rfl | (exfalso; have := hany (by omega); simp [this] at *; done)
  · rw [if_neg hQ] at hq
    have e : capR q l = .tuple #[.int .i64 0, .bool false, .int .i64 370] := by unfold capR; rw [if_pos hQ]
    rw [e]
    repeat' (first | apply GO_seq | apply GO_region | apply GOl_nil | (apply GOl_pv; exact rfl; exact rfl; exact rfl) | (apply GOl_load; exact rfl; exact Ld_blk rfl (by (repeat (first | exact List.Mem.head _ | apply List.Mem.tail)); done) rfl; exact rfl; exact rfl) | (apply GOl_to; exact rfl; exact rfl; exact rfl; (first | (apply OpTo_box; exact rfl; intro b; skip) | (apply OpTo_val; exact rfl; exact has16; exact hq; skip))) | (apply GO_cond; exact rfl; all_goals intro hc; all_goals try simp only [ltI_t, ltI_f, leI_t, leI_f, eqI_t, eqI_f, Bool.not_eq_true', Bool.not_eq_false', decide_eq_true_eq, decide_eq_false_iff_not, reduceCtorEq] at hc; all_goals try (exfalso; omega)) | (apply GO_retV3; exact rfl; exact rfl; exact rfl; exact rfl; exact rfl))
    all_goals first | rfl

end Go.Hw
set_option linter.unusedVariables false
set_option linter.unusedSimpArgs false
set_option maxRecDepth 100000
set_option maxHeartbeats 4000000
namespace Go.Hw
open Go
attribute [local irreducible] GO GOl GDp Val Fn Res CellsAt ValE Blk OwnS MapA
open Go.Proofs (Tryd.prog)

theorem young_snoc (l : List Per) (p : Per) (d : Int) : youngN (l ++ [p]) d = youngN l d + if ageOf p.born d < 21 then 1 else 0 := by
  unfold youngN; rw [List.filter_append, List.length_append, List.filter_cons]; by_cases h : ageOf p.born d < 21 <;> simp [h]
theorem old_snoc (l : List Per) (p : Per) (d : Int) : oldN (l ++ [p]) d = oldN l d + if ageOf p.born d < 21 then 0 else 1 := by
  unfold oldN; rw [List.filter_append, List.length_append, List.filter_cons]; by_cases h : ageOf p.born d < 21 <;> simp [h]
theorem home_snoc (l : List Per) (p : Per) (d : Int) : homeN (l ++ [p]) d = homeN l d + if ageOf p.born d < 21 then 0 else if p.home = true then 1 else 0 := by
  unfold homeN; rw [List.filter_append, List.length_append, List.filter_cons]; by_cases h : ageOf p.born d < 21 <;> cases p.home <;> simp [h]
theorem nums_bd (l : List Per) (d : Int) : 0 ≤ youngN l d ∧ youngN l d ≤ l.length ∧ 0 ≤ oldN l d ∧ oldN l d ≤ l.length ∧ 0 ≤ homeN l d ∧ homeN l d ≤ l.length := by
  unfold youngN oldN homeN
  have h1 := List.length_filter_le (fun p : Per => decide (ageOf p.born d < 21)) l
  have h2 := List.length_filter_le (fun p : Per => decide (¬ ageOf p.born d < 21)) l
  have h3 := List.length_filter_le (fun p : Per => decide (¬ ageOf p.born d < 21) && p.home) l
  omega
def SquadOk (l : List Per) (inn out day : Int) : Prop := PersOk l ∧ l.length ≤ 256 ∧ 0 ≤ day ∧ day ≤ 1048576 ∧ 0 ≤ inn ∧ 0 ≤ out
theorem squadE_1 {q : Quo} {l : List Per} {inn out day : Int} (h : ¬ QuoOk q) : squadE q l inn out day = 370 := by unfold squadE; rw [if_pos h]
theorem squadE_2 {q : Quo} {l : List Per} {inn out day : Int} (h : QuoOk q) (k : ¬ SquadOk l inn out day) : squadE q l inn out day = 1 := by unfold squadE; rw [if_neg (fun hh => hh h)]; exact if_pos k
theorem squadE_3 {q : Quo} {l : List Per} {inn out day : Int} (h : QuoOk q) (k : SquadOk l inn out day) (m : ∃ p ∈ l, day < p.born) : squadE q l inn out day = 1 := by unfold squadE; rw [if_neg (fun hh => hh h)]; exact (if_neg (fun hh => hh k)).trans (if_pos m)
theorem squadE_4 {q : Quo} {l : List Per} {inn out day : Int} (h : QuoOk q) (k : SquadOk l inn out day) (m : ∀ p ∈ l, ¬ day < p.born) : squadE q l inn out day = if inn > q.inn ∨ out > q.out ∨ youngN l day > q.young ∨ oldN l day > q.size ∨ (oldN l day = q.size ∧ homeN l day < q.grown) then 370 else 0 := by
  unfold squadE; rw [if_neg (fun hh => hh h)]; exact (if_neg (fun hh => hh k)).trans (if_neg (fun ⟨p, hp, hh⟩ => m p hp hh))


theorem squad_c (h : Ro) (hG : LenG h) (q : Quo) (A : Option Addr) (c : Nat) (hx : SlOf encV 2 h A q.wins.length q.wins) (hn : q.wins.length ≤ 1000000000) (B : Option Addr) (n d : Nat) (l : List Per) (hl : SlOf encP 4 h B n l) (hl2 : n ≤ 1000000000) (inn out day : Int) :
    Val Tryd.prog 11 #[quoV q A c, .slice B n d, .int .i64 inn, .int .i64 out, .int .i64 day] h (.int .i64 (squadE q l inn out day)) := by
  refine Val_intro (args := [_, _, _, _, _]) ts_ok Go.Proofs.Tryd.func11 rfl rfl fun w0 X0 => ?_
  have hlen := hl.len
  have hq := checkQ_c h q A c hx hn
  have hp := arePersons_c h B n d l hl hl2
  by_cases hQ : QuoOk q
  · rw [if_pos hQ] at hq
    by_cases hS : SquadOk l inn out day
    · obtain ⟨s1, s2, s3, s4, s5, s6⟩ := hS
      rw [decide_eq_true s1] at hp
      repeat' (first | apply GO_seq | apply GO_skip | apply GO_block | apply GO_region | apply GOl_nil | (apply GOl_pv; exact rfl; exact rfl; exact rfl) | (apply GOl_load; exact rfl; exact Ld_blk rfl (by (repeat (first | exact List.Mem.head _ | apply List.Mem.tail)); done) rfl; exact rfl; exact rfl) | (apply GOl_to; exact rfl; exact rfl; exact rfl; (first | (apply OpTo_box; exact rfl; intro b; skip) | (apply OpTo_val; exact rfl; exact has16; exact hq; skip) | (apply OpTo_val; exact rfl; exact has18; exact hp; skip) | (apply OpTo_val; exact rfl; exact has19; exact within_c _ _ _ _; skip))) | (apply GO_cond; exact rfl; all_goals intro hc; all_goals try simp only [ltI_t, ltI_f, leI_t, leI_f, eqI_t, eqI_f, Bool.not_eq_true', Bool.not_eq_false', decide_eq_true_eq, decide_eq_false_iff_not, reduceCtorEq] at hc; all_goals try (exfalso; omega)) | (apply GOl_split; exact rfl; exact rfl; all_goals intro hc; all_goals try simp only [ltI_t, ltI_f, leI_t, leI_f, eqI_t, eqI_f, Bool.not_eq_true', Bool.not_eq_false', decide_eq_true_eq, decide_eq_false_iff_not, reduceCtorEq] at hc; all_goals try (exfalso; omega)))
      refine GO_loopT (X := Nat × Int × Int × Int) (fun x => x.1 ≤ n ∧ x.2.1 = youngN (l.take x.1) day ∧ x.2.2.1 = oldN (l.take x.1) day ∧ x.2.2.2 = homeN (l.take x.1) day ∧ ∀ p ∈ l.take x.1, ¬ day < p.born) (fun x => n - x.1)
        (fun x => [(47, .int .i64 x.1), (46, .int .i64 n), (45, .slice B n d), (12, .int .i64 x.2.1), (13, .int .i64 x.2.2.1), (14, .int .i64 x.2.2.2), (2, .int .i64 inn), (3, .int .i64 out), (4, .int .i64 day), (5, .pointer (some ⟨b, 0, none⟩))]) (fun _ => [Blk b 24 (partL (quoV q A c))]) (fun _ => h) (0, 0, 0, 0) ⟨by dsimp only; omega, by simp [youngN], by simp [oldN], by simp [homeN], by simp⟩ (by (repeat (first | exact trivial | refine ⟨rfl, ?_⟩)); done) (by (repeat (first | exact Takes_nil | (apply Takes_cons; exact (by (repeat (first | exact Take.here | apply Take.there)); done)))); done) rfl ?_
      rintro ⟨k, y, o, hm⟩ ⟨hk, hy, ho, hh, hb⟩ ih
      dsimp only at hk hy ho hh hb ih ⊢
      have hbd := nums_bd (l.take k) day
      rw [← hy, ← ho, ← hh, List.length_take] at hbd
      by_cases hkn : k < n
      · have a1 := hl.addrD hkn
        have c1 := hl.cellsD p0 hkn
        have hmem := getD_mem p0 (show k < l.length by omega)
        have ht := take_snocQ p0 hlen hkn
        generalize l.getD k p0 = x at *
        have hag := age_c h hG x day
        by_cases hbn : day < x.born
        · rw [show ageR x day = _ from if_neg (fun hA => by have := hA.2.1; omega)] at hag
          repeat' (first | apply GO_seq | apply GO_skip | apply GO_block | apply GO_region | apply GOl_nil | (apply GOl_pv; exact rfl; exact rfl; exact rfl) | (apply GOl_load; exact rfl; exact Ld_blk rfl (by (repeat (first | exact List.Mem.head _ | apply List.Mem.tail)); done) rfl; exact rfl; exact rfl) | (apply GOl_ov; exact rfl; exact rfl; (first | (apply OV_idxS (j := k); exact rfl; exact rfl; exact rfl; exact rfl; exact rfl; exact a1; (with_reducible exact rfl); omega) | (apply OV_load; exact rfl; exact Lv_ro rfl c1 rfl)); exact (by repeat' (first | exact trivial | apply And.intro | exact List.Mem.head _ | apply List.Mem.tail))) | (apply GOl_to; exact rfl; exact rfl; exact rfl; (first | (apply OpTo_store; exact rfl; exact rfl; exact rfl; exact (by (repeat (first | exact Repl.here | apply Repl.there)); done); exact rfl; exact rfl; exact rfl; skip) | (apply OpTo_alloc; exact rfl; intro b; skip) | (apply OpTo_val; exact rfl; exact has12; exact hag; skip))) | (apply GO_cond; exact rfl; all_goals intro hc; all_goals try simp only [ltI_t, ltI_f, leI_t, leI_f, eqI_t, eqI_f, Bool.not_eq_true', Bool.not_eq_false', decide_eq_true_eq, decide_eq_false_iff_not, reduceCtorEq] at hc; all_goals try (exfalso; omega)) | (apply GO_retV1; exact rfl; exact rfl; exact rfl))
          rw [squadE_3 hQ ⟨s1, s2, s3, s4, s5, s6⟩ ⟨x, hmem, hbn⟩]
        · rw [show ageR x day = _ from if_pos ⟨s1.1 x hmem, by omega, s4⟩] at hag
          have e1 := young_snoc (l.take k) x day
          have e2 := old_snoc (l.take k) x day
          have e3 := home_snoc (l.take k) x day
          rw [← ht, ← hy] at e1
          rw [← ht, ← ho] at e2
          rw [← ht, ← hh] at e3
          have hb2 : ∀ p ∈ l.take (k + 1), ¬ day < p.born := by
            rw [ht]; intro p hp; rw [List.mem_append, List.mem_singleton] at hp
            rcases hp with hp | hp
            · exact hb p hp
            · subst hp; exact hbn
          generalize ageOf x.born day = ag at *
          repeat' (first | apply GO_seq | apply GO_skip | apply GO_inBlock | apply GO_block | apply GO_region | apply GOl_nil | (apply GOl_add; exact rfl; exact rfl; exact rfl; omega; exact rfl; exact rfl) | (apply GOl_pv; exact rfl; exact rfl; exact rfl) | (apply GOl_load; exact rfl; exact Ld_blk rfl (by (repeat (first | exact List.Mem.head _ | apply List.Mem.tail)); done) rfl; exact rfl; exact rfl) | (apply GOl_ov; exact rfl; exact rfl; (first | (apply OV_idxS (j := k); exact rfl; exact rfl; exact rfl; exact rfl; exact rfl; exact a1; (with_reducible exact rfl); omega) | (apply OV_load; exact rfl; exact Lv_ro rfl c1 rfl)); exact (by repeat' (first | exact trivial | apply And.intro | exact List.Mem.head _ | apply List.Mem.tail))) | (apply GOl_to; exact rfl; exact rfl; exact rfl; (first | (apply OpTo_store; exact rfl; exact rfl; exact rfl; exact (by (repeat (first | exact Repl.here | apply Repl.there)); done); exact rfl; exact rfl; exact rfl; skip) | (apply OpTo_alloc; exact rfl; intro b; skip) | (apply OpTo_val; exact rfl; exact has12; exact hag; skip))) | (apply GO_cond; exact rfl; all_goals intro hc; all_goals try simp only [ltI_t, ltI_f, leI_t, leI_f, eqI_t, eqI_f, Bool.not_eq_true', Bool.not_eq_false', decide_eq_true_eq, decide_eq_false_iff_not, reduceCtorEq] at hc; all_goals try (exfalso; omega)))
          all_goals first
            | (rw [if_pos (show ag < 21 by omega)] at e1 e2 e3; have h3 := ih (k + 1, y + 1, o, hm) ⟨by dsimp only; omega, by dsimp only; omega, by dsimp only; omega, by dsimp only; omega, hb2⟩ (by dsimp only; omega); refine GO_fit (by (repeat (first | exact trivial | refine ⟨rfl, ?_⟩)); done) (by (repeat (first | exact Takes_nil | (apply Takes_cons; exact (by (repeat (first | exact Take.here | apply Take.there)); done)))); done) (h3))
            | (rw [if_neg (show ¬ ag < 21 by omega)] at e1 e2 e3; rw [if_pos (by assumption)] at e3; have h3 := ih (k + 1, y, o + 1, hm + 1) ⟨by dsimp only; omega, by dsimp only; omega, by dsimp only; omega, by dsimp only; omega, hb2⟩ (by dsimp only; omega); refine GO_fit (by (repeat (first | exact trivial | refine ⟨rfl, ?_⟩)); done) (by (repeat (first | exact Takes_nil | (apply Takes_cons; exact (by (repeat (first | exact Take.here | apply Take.there)); done)))); done) (h3))
            | (rw [if_neg (show ¬ ag < 21 by omega)] at e1 e2 e3; rw [if_neg (by simp [*])] at e3; have h3 := ih (k + 1, y, o + 1, hm) ⟨by dsimp only; omega, by dsimp only; omega, by dsimp only; omega, by dsimp only; omega, hb2⟩ (by dsimp only; omega); refine GO_fit (by (repeat (first | exact trivial | refine ⟨rfl, ?_⟩)); done) (by (repeat (first | exact Takes_nil | (apply Takes_cons; exact (by (repeat (first | exact Take.here | apply Take.there)); done)))); done) (h3))
           
      · rw [List.take_of_length_le (by omega)] at hy ho hh hb
        rw [squadE_4 hQ ⟨s1, s2, s3, s4, s5, s6⟩ hb, ← hy, ← ho, ← hh]
        repeat' (first | apply GO_seq | apply GO_skip | apply GO_region | apply GOl_nil | (apply GO_exit; exact rfl) | (apply GOl_unwanted; exact rfl; exact rfl) | (apply GOl_pv; exact rfl; exact rfl; exact rfl) | (apply GOl_load; exact rfl; exact Ld_blk rfl (by (repeat (first | exact List.Mem.head _ | apply List.Mem.tail)); done) rfl; exact rfl; exact rfl) | (apply GO_cond; exact rfl; all_goals intro hc; all_goals try simp only [ltI_t, ltI_f, leI_t, leI_f, eqI_t, eqI_f, Bool.not_eq_true', Bool.not_eq_false', decide_eq_true_eq, decide_eq_false_iff_not, reduceCtorEq] at hc; all_goals try (exfalso; omega)) | (apply GOl_split; exact rfl; exact rfl; all_goals intro hc; all_goals try simp only [ltI_t, ltI_f, leI_t, leI_f, eqI_t, eqI_f, Bool.not_eq_true', Bool.not_eq_false', decide_eq_true_eq, decide_eq_false_iff_not, reduceCtorEq] at hc; all_goals try (exfalso; omega)) | (apply GO_retV1; exact rfl; exact rfl; exact rfl))
        all_goals first | (rw [if_pos (by omega)]; done) | (rw [if_neg (by omega)]; done)
    · rw [squadE_2 hQ hS]
      generalize hP : decide (PersOk l) = P at hp
      repeat' (first | apply GO_seq | apply GO_skip | apply GO_block | apply GO_region | apply GOl_nil | (apply GOl_unwanted; exact rfl; exact rfl) | (apply GOl_pv; exact rfl; exact rfl; exact rfl) | (apply GOl_load; exact rfl; exact Ld_blk rfl (by (repeat (first | exact List.Mem.head _ | apply List.Mem.tail)); done) rfl; exact rfl; exact rfl) | (apply GOl_to; exact rfl; exact rfl; exact rfl; (first | (apply OpTo_box; exact rfl; intro b; skip) | (apply OpTo_val; exact rfl; exact has16; exact hq; skip) | (apply OpTo_val; exact rfl; exact has18; exact hp; skip) | (apply OpTo_val; exact rfl; exact has19; exact within_c _ _ _ _; skip))) | (apply GO_cond; exact rfl; all_goals intro hc; all_goals try simp only [ltI_t, ltI_f, leI_t, leI_f, eqI_t, eqI_f, Bool.not_eq_true', Bool.not_eq_false', decide_eq_true_eq, decide_eq_false_iff_not, reduceCtorEq] at hc; all_goals try (exfalso; omega)) | (apply GOl_split; exact rfl; exact rfl; all_goals intro hc; all_goals try simp only [ltI_t, ltI_f, leI_t, leI_f, eqI_t, eqI_f, Bool.not_eq_true', Bool.not_eq_false', decide_eq_true_eq, decide_eq_false_iff_not, reduceCtorEq] at hc; all_goals try (exfalso; omega)) | (apply GO_retV1; exact rfl; exact rfl; exact rfl))
      all_goals first | rfl | (exfalso; apply hS; exact ⟨of_decide_eq_true (hP.trans (by assumption)), by omega, by omega, by omega, by omega, by omega⟩)
  · rw [if_neg hQ] at hq
    rw [squadE_1 hQ]
    repeat' (first | apply GO_seq | apply GO_region | apply GOl_nil | (apply GOl_pv; exact rfl; exact rfl; exact rfl) | (apply GOl_load; exact rfl; exact Ld_blk rfl (by (repeat (first | exact List.Mem.head _ | apply List.Mem.tail)); done) rfl; exact rfl; exact rfl) | (apply GOl_to; exact rfl; exact rfl; exact rfl; (first | (apply OpTo_box; exact rfl; intro b; skip) | (apply OpTo_val; exact rfl; exact has16; exact hq; skip))) | (apply GO_cond; exact rfl; all_goals intro hc; all_goals try simp only [ltI_t, ltI_f, leI_t, leI_f, eqI_t, eqI_f, Bool.not_eq_true', Bool.not_eq_false', decide_eq_true_eq, decide_eq_false_iff_not, reduceCtorEq] at hc; all_goals try (exfalso; omega)) | (apply GO_retV1; exact rfl; exact rfl; exact rfl))
    all_goals first | rfl


theorem fewQ_c (h : Ro) (q : Quo) (A B D : Option Addr) (c n m d e : Nat) (hn : q.wins.length ≤ 9000000000000000000) (hn2 : n ≤ 9000000000000000000) (hn3 : m ≤ 9000000000000000000) : Val Tryd.prog 5 #[quoV q A c, .slice B n d, .slice D m e] h (.bool (decide (q.wins.length ≤ 20 ∧ n ≤ 20 ∧ m ≤ 20))) := by
  refine Val_intro (args := [_, _, _]) ts_ok Go.Proofs.Tryd.func5 rfl rfl fun w0 X0 => ?_
  repeat' (first | apply GO_seq | apply GO_region | apply GOl_nil | (apply GOl_unwanted; exact rfl; exact rfl) | (apply GOl_pv; exact rfl; exact rfl; exact rfl) | (apply GOl_load; exact rfl; exact Ld_blk rfl (by (repeat (first | exact List.Mem.head _ | apply List.Mem.tail)); done) rfl; exact rfl; exact rfl) | (apply GOl_to; exact rfl; exact rfl; exact rfl; (first | (apply OpTo_box; exact rfl; intro b; skip))) | (apply GOl_split; exact rfl; exact rfl; all_goals intro hc; all_goals try simp only [ltI_t, ltI_f, leI_t, leI_f, eqI_t, eqI_f, Bool.not_eq_true', Bool.not_eq_false', decide_eq_true_eq, decide_eq_false_iff_not, reduceCtorEq] at hc; all_goals try (exfalso; omega)) | (apply GO_retV1; exact rfl; exact rfl; exact rfl))
  all_goals (simp only [ltI_eq, leI_eq, eqI_eq, Value.bool.injEq]; first | rfl | (rw [decide_eq_decide]; omega) | (symm; rw [decide_eq_false_iff_not]; omega) | (symm; rw [decide_eq_true_eq]; omega))
end Go.Hw

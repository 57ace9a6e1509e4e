/-
  The registry's rules in plain terms.
-/
import Derived.Test.YtbgjcjhodlmgjaaHwQ
set_option linter.unusedVariables false
namespace Go.Hw
open Go

structure Ent where
  kind : Int
  day : Int
  player : Int
  club : Int
  other : Int
  upto : Int
  transfer : Int
deriving DecidableEq
structure Sta where
  owner : Int
  borrower : Int
  lock : Int
  day : Int
  left : Bool
deriving DecidableEq
structure Reg where
  league : Int
  clubs : List Int
  day : Int
  ents : List Ent
deriving DecidableEq

def encE (x : Ent) : List Value := [.int .i64 x.kind, .int .i64 x.day, .int .i64 x.player, .int .i64 x.club, .int .i64 x.other, .int .i64 x.upto, .int .i64 x.transfer]
def encS (s : Sta) : List Value := [.int .i64 s.owner, .int .i64 s.borrower, .int .i64 s.lock, .int .i64 s.day, .bool s.left]
def entV (x : Ent) : Value := .agg #[.int .i64 x.kind, .int .i64 x.day, .int .i64 x.player, .int .i64 x.club, .int .i64 x.other, .int .i64 x.upto, .int .i64 x.transfer]
def staV (s : Sta) : Value := .agg #[.int .i64 s.owner, .int .i64 s.borrower, .int .i64 s.lock, .int .i64 s.day, .bool s.left]
/-- Where a registry's lists lie. -/
structure Rsh where
  ac : Option Addr
  nc : Nat
  cc : Nat
  ae : Option Addr
  ne : Nat
  ce : Nat
def regV (league day : Int) (s : Rsh) : Value := .agg #[.int .i64 league, .slice s.ac s.nc s.cc, .int .i64 day, .slice s.ae s.ne s.ce]
structure RegAt (h : Ro) (s : Rsh) (r : Reg) : Prop where
  clubs : SlOf encI 1 h s.ac s.nc r.clubs
  ents : SlOf encE 7 h s.ae s.ne r.ents
  nc : s.nc ≤ 1000000000
  ne : s.ne ≤ 1000000000

def FieldOk (xs : List Int) : Prop := (∀ i, i < xs.length → 0 ≤ xs.getD i 0 ∧ xs.getD i 0 < 192 ∧ (0 < i → xs.getD (i-1) 0 < xs.getD i 0)) ∧ 1 ≤ xs.length ∧ xs.length ≤ 24
def OpenOk (league : Int) (clubs : List Int) : Prop := 0 ≤ league ∧ league < 8 ∧ FieldOk clubs

def st0 : Sta := ⟨-1, -1, -1, -1, false⟩
def after (s : Sta) (x : Ent) : Sta :=
  let t : Sta := if x.kind = 1 then { s with owner := x.club } else if x.kind = 2 then { s with owner := -1, lock := -1 } else if x.kind = 3 then { s with borrower := x.other }
    else if x.kind = 4 then { s with borrower := -1 } else if x.kind = 5 then { s with lock := x.transfer } else if x.kind = 6 then { s with lock := -1 } else s
  if x.kind ≤ 4 then { t with day := x.day, left := decide (x.kind = 2) } else t
def ofL (l : List Ent) (p : Int) : Sta := l.foldl (fun s x => if x.player = p then after s x else s) st0

def fits (s : Sta) (x : Ent) : Int :=
  if x.kind = 1 ∧ s.owner ≠ -1 then 361
  else if x.kind ≠ 1 ∧ s.owner = -1 then 360
  else if x.kind ≠ 1 ∧ s.owner ≠ x.club then 361
  else if x.kind = 4 ∧ s.borrower ≠ x.other then 360
  else if (x.kind = 3 ∨ x.kind = 2 ∨ x.kind = 5) ∧ s.borrower ≠ -1 then 360
  else if (x.kind = 3 ∨ x.kind = 5) ∧ s.lock ≠ -1 then 362
  else if x.kind = 6 ∧ s.lock ≠ x.transfer then 362
  else if x.kind = 2 ∧ max s.lock 0 ≠ x.transfer then 362
  else if s.day = x.day ∧ (x.kind = 2 ∨ x.kind = 3 ∨ x.kind = 4 ∨ x.kind = 5 ∨ (x.kind = 1 ∧ s.left = false)) then 362
  else 0

def ValidX (clubs : List Int) (day : Int) (x : Ent) : Prop :=
  0 ≤ x.day ∧ x.day ≤ 1048576 ∧ day ≤ x.day ∧ 0 ≤ x.player ∧ x.player < 8192 ∧ x.club ∈ clubs ∧
  (((x.kind = 1 ∨ x.kind = 2) ∧ ((1 ≤ x.transfer ∧ x.transfer ≤ 1048576) ∨ x.transfer = 0) ∧ x.other = 0 ∧ x.upto = 0) ∨
   (x.kind = 3 ∧ x.other ∈ clubs ∧ x.other ≠ x.club ∧ x.day ≤ x.upto ∧ x.upto ≤ 1048576 ∧ x.transfer = 0) ∨
   (x.kind = 4 ∧ x.other ∈ clubs ∧ x.other ≠ x.club ∧ x.upto = 0 ∧ x.transfer = 0) ∨
   ((x.kind = 5 ∨ x.kind = 6) ∧ (1 ≤ x.transfer ∧ x.transfer ≤ 1048576) ∧ x.other = 0 ∧ x.upto = 0))
instance (clubs : List Int) (day : Int) (x : Ent) : Decidable (ValidX clubs day x) := by unfold ValidX; infer_instance

/-- The error of one more entry. -/
def addE (clubs : List Int) (day : Int) (l : List Ent) (x : Ent) : Int :=
  if 65536 ≤ l.length then 2 else if ¬ ValidX clubs day x then 360 else fits (ofL l x.player) x
end Go.Hw


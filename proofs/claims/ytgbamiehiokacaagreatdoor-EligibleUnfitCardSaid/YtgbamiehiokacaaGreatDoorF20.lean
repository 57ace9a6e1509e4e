import Derived.Test.YtgbamiehiokacaaGreatDoorF19
set_option linter.unusedVariables false
set_option linter.unusedSimpArgs false
namespace Go.Hw
open Go Go.Lib
def unfB (pl day : Int) (r : FRul) : Bool:=decide (r.kind = 6 ∧ r.player = pl ∧ r.lo ≤ day ∧ day ≤ r.hi)
noncomputable def unfitL (C : List Fct) (pl day : Int) : Bool:=((forceL C).map (·.ru)).any (unfB pl day)
def OffB (L : List Fct) (S : List FSusp) (g : FGame) (day club p : Int) : Prop :=
  ((∃ x ∈ L,MvOf p x) ∧ ¬ (0 ≤ (regF L p day).mTo ∧ (regF L p day).mTo = club)) ∨ unfitL (canonL L) p day = true ∨ ∃ s ∈ S,s.p = p ∧ s.g = g
open Classical in
noncomputable def offS (L : List Fct) (S : List FSusp) (g : FGame) (day club : Int) (sq : List Int) : List Int:=sq.filter fun p => decide (OffB L S g day club p)
noncomputable def offL (L : List Fct) (g : FGame) : List Int × List Int :=
  if (scoreF L g).kind = 2 then (offS L (suspC (decC L g.s g.c)) g (scoreF L g).day g.h (scoreF L g).sh.hs,offS L (suspC (decC L g.s g.c)) g (scoreF L g).day g.a (scoreF L g).sh.as) else ([],[])
open Classical in
theorem offS_snoc (L : List Fct) (S : List FSusp) (g : FGame) (day club : Int) (sq : List Int) (p : Int) : offS L S g day club (sq ++ [p]) = if OffB L S g day club p then offS L S g day club sq ++ [p] else offS L S g day club sq:=by
  unfold offS
  rw [List.filter_append]
  by_cases h : OffB L S g day club p <;> simp [h]
theorem offS_len (L : List Fct) (S : List FSusp) (g : FGame) (day club : Int) (sq : List Int) : (offS L S g day club sq).length ≤ sq.length:=List.length_filter_le _ _
structure SuspWhy (L : List Fct) (se co : Int) (t : FSusp) : Prop where
  kind : (scoreF L t.g).kind = 2
  s : t.g.s = se
  c : t.g.c = co
  club : t.club = t.g.h ∨ t.club = t.g.a
  before : ∃ g : FGame,g.s = se ∧ g.c = co ∧ (scoreF L g).kind = 2 ∧ (0 < (cardsF (scoreF L g).sh t.p).1 ∨ (cardsF (scoreF L g).sh t.p).2 = true) ∧ g ≠ t.g ∧ (scoreF L g).day ≤ (scoreF L t.g).day
end Go.Hw

import Derived.Test.YtbgjcjhodlmgjacDoorCN9
import Derived.Test.YtbgjcjhodlmgjacDoorHB
set_option linter.unusedVariables false
set_option linter.unusedSimpArgs false
set_option maxRecDepth 100000
set_option maxHeartbeats 8000000
namespace Go.Hw
open Go
attribute [local irreducible] Has GO GOl GDp Val Fn Res CellsAt ValE Blk OwnS MapA Yl
open Go.Proofs (Tryd.prog)

theorem mayE_zero {q : Quo} {r : Reg} {l : List Per} {bans : List Ivl} {club player day : Int} (h : mayE q r l bans club player day = 0) :
    QuoOk q ∧ RegGood r ∧ (PersOk l ∧ l.length ≤ 8192 ∧ 0 ≤ day ∧ day ≤ 1048576 ∧ club ∈ r.clubs) ∧ AllKnown l (membersL r club player) day ∧ inAny day q.wins = true ∧ inAny day bans = false ∧ (regClub r player).2.2 = false ∧
    squadE q (ofNums l (membersL r club player)) (loanIn club (playersL r (firsts r.ents))) (loanOut club (playersL r (firsts r.ents))) day = 0 ∧ 3 * (wagesL (ofNums l (membersL r club player))).sum ≤ q.cap := by
  unfold mayE at h
  split at h
  · cases h
  · rename_i h1
    split at h
    · cases h
    · rename_i h2
      split at h
      · cases h
      · rename_i h3
        split at h
        · cases h
        · rename_i h4
          split at h
          · cases h
          · rename_i h5
            split at h
            · cases h
            · rename_i h6
              split at h
              · cases h
              · rename_i h7
                split at h
                · cases h
                · rename_i h8
                  split at h
                  · cases h
                  · rename_i h9
                    exact ⟨Classical.not_not.1 h1, Classical.not_not.1 h2, Classical.not_not.1 h3, Classical.not_not.1 h4, Classical.not_not.1 h5, by simpa using h6, by simpa using h7, Classical.not_not.1 h8, by omega⟩
theorem mayE_371 {q : Quo} {r : Reg} {l : List Per} {bans : List Ivl} {club player day : Int} (h1 : QuoOk q) (h2 : RegGood r) (h3 : PersOk l ∧ l.length ≤ 8192 ∧ 0 ≤ day ∧ day ≤ 1048576 ∧ club ∈ r.clubs) (h4 : AllKnown l (membersL r club player) day) (h5 : inAny day q.wins = false) :
    mayE q r l bans club player day = 371 := by
  unfold mayE; rw [if_neg (fun hh => hh h1), if_neg (fun hh => hh h2), if_neg (fun hh => hh h3), if_neg (fun hh => hh h4), if_pos (by simp [h5])]
theorem mayE_372 {q : Quo} {r : Reg} {l : List Per} {bans : List Ivl} {club player day : Int} (h1 : QuoOk q) (h2 : RegGood r) (h3 : PersOk l ∧ l.length ≤ 8192 ∧ 0 ≤ day ∧ day ≤ 1048576 ∧ club ∈ r.clubs) (h4 : AllKnown l (membersL r club player) day) (h5 : inAny day q.wins = true) (h6 : inAny day bans = true) :
    mayE q r l bans club player day = 372 := by
  unfold mayE; rw [if_neg (fun hh => hh h1), if_neg (fun hh => hh h2), if_neg (fun hh => hh h3), if_neg (fun hh => hh h4), if_neg (fun hh => hh h5), if_pos h6]
theorem mayE_bans {q : Quo} {r : Reg} {l : List Per} {bans bans' : List Ivl} {club player day : Int} (h : inAny day bans = inAny day bans') : mayE q r l bans club player day = mayE q r l bans' club player day := by unfold mayE; rw [h]
theorem inAny_app (n : Int) (a b : List Ivl) : inAny n (a ++ b) = (inAny n a || inAny n b) := by unfold inAny; rw [List.any_append]
theorem inAny_turn (n : Int) (l : List Ivl) (k : Nat) : inAny n (l.drop k ++ l.take k) = inAny n l := by
  conv => rhs; rw [← List.take_append_drop k l]
  rw [inAny_app, inAny_app, Bool.or_comm]
/-- The windows that a day is not in. -/
def shutW (day : Int) (l : List Ivl) : List Ivl := l.filter fun i => decide (day < i.lo ∨ i.hi < day)
theorem shutW_snoc (day : Int) (l : List Ivl) (x : Ivl) : shutW day (l ++ [x]) = shutW day l ++ if day < x.lo ∨ x.hi < day then [x] else [] := by
  unfold shutW; rw [List.filter_append, List.filter_cons]
  by_cases h : day < x.lo ∨ x.hi < day
  · rw [if_pos (decide_eq_true h), if_pos h]; rfl
  · rw [if_neg (by simpa using h), if_neg h]; rfl
theorem shutW_no (day : Int) (l : List Ivl) : inAny day (shutW day l) = false := by
  unfold inAny shutW; rw [List.any_eq_false]
  intro i hi
  have := (List.mem_filter.1 hi).2
  rw [decide_eq_true_eq] at this
  simp; omega
def withW (q : Quo) (w : List Ivl) : Quo := ⟨q.size, q.grown, q.young, q.inn, q.out, q.cap, w⟩
theorem withW_ok {q : Quo} (h : QuoOk q) (day : Int) : QuoOk (withW q (shutW day q.wins)) := by
  obtain ⟨g1, g2, g3, g4, g5, g6, g7, g8, g9, g10, g11, g12, g13, g14⟩ := h
  refine ⟨g1, g2, g3, g4, g5, g6, g7, g8, g9, g10, g11, g12, ?_, fun w hw => g14 w (List.mem_filter.1 hw).1⟩
  have : (shutW day q.wins).length ≤ q.wins.length := List.length_filter_le _ _
  show (shutW day q.wins).length ≤ 16
  omega
def quoW (q : Quo) (A : Option Addr) (n c : Nat) : Value := .agg #[.int .i64 q.size, .int .i64 q.grown, .int .i64 q.young, .int .i64 q.inn, .int .i64 q.out, .int .i64 q.cap, .slice A n c]
theorem mem_take_any {day : Int} {l : List Ivl} : (shutW day l).length ≤ l.length := List.length_filter_le _ _

end Go.Hw

import Derived.Test.YtbgjcjhodlmgjaaW17
set_option linter.unusedVariables false
set_option linter.unusedSimpArgs false
set_option maxRecDepth 100000
set_option maxHeartbeats 1600000
namespace Go.Hw
open Go
attribute [local irreducible] GO GOl GDp Val Fn Res CellsAt ValE Blk OwnS MapA RngA
open Go.Proofs (Try.prog)

def r0 : Reg := ⟨0, [1, 2], 0, []⟩
def x5 : Ent := ⟨1, 5, 5, 1, 0, 0, 0⟩
def xa : Ent := ⟨2, 5, 5, 1, 0, 0, 0⟩
def xb : Ent := ⟨5, 5, 5, 1, 0, 0, 7⟩
def xc : Ent := ⟨3, 6, 5, 1, 2, 9, 0⟩
def xd : Ent := ⟨5, 6, 5, 1, 0, 0, 7⟩
def r1 : Reg := ⟨0, [1, 2], 5, [x5]⟩
def r2 : Reg := ⟨0, [1, 2], 6, [x5, xc]⟩
def r3 : Reg := ⟨0, [1, 2], 6, [x5, xd]⟩
theorem open12 : OpenOk 0 [1, 2] := by
  refine ⟨by omega, by omega, fun i hi => ?_, by simp, by simp⟩
  have : i = 0 ∨ i = 1 := by simp at hi; omega
  rcases this with rfl | rfl <;> simp
theorem good0 : RegGood r0 := ⟨open12, rfl⟩
theorem good1 : RegGood r1 := ⟨open12, by decide⟩
theorem good2 : RegGood r2 := ⟨open12, by decide⟩
theorem good3 : RegGood r3 := ⟨open12, by decide⟩
theorem badNil : ¬ RegGood reg0 := fun h => by have := h.1.2.2.2.1; simp [reg0] at this
theorem q1 : regEnter r0 e0 = (reg0, 360) := by rw [regEnter, if_pos good0, if_neg (by decide)]; congr 1
theorem q2 : regEnter r0 x5 = (r1, 0) := by rw [regEnter, if_pos good0, if_pos (by decide)]; rfl
theorem q3 : regEnter r1 xa = (reg0, 362) := by rw [regEnter, if_pos good1, if_neg (by decide)]; congr 1
theorem q4 : regEnter r1 xb = (reg0, 362) := by rw [regEnter, if_pos good1, if_neg (by decide)]; congr 1
theorem q5 : regEnter r1 xc = (r2, 0) := by rw [regEnter, if_pos good1, if_pos (by decide)]; rfl
theorem q6 : regEnter r1 xd = (r3, 0) := by rw [regEnter, if_pos good1, if_pos (by decide)]; rfl
theorem q7 : regClub r0 5 = (0, 0, false) := by rw [regClub, if_neg]; rintro ⟨_, h⟩; exact h (by decide)
theorem q8 : regClub r2 5 = (1, 2, true) := by rw [regClub, if_pos ⟨good2, by decide⟩]; decide
theorem q9 : regLocked r3 5 = (7, true) := by rw [regLocked, if_pos ⟨good3, by decide⟩]; decide
theorem q10 : squadL r2 2 = [5] := by
  have h1 : (regClub r2 5).2.2 = true ∧ (regClub r2 5).2.1 = 2 := by rw [q8]; simp
  simp [squadL, r2, sqStep, x5, xc] at h1 ⊢
  simp [h1, insL]
theorem q11 : squadL r2 1 = [] := by
  have h1 : (regClub r2 5).2.1 = 2 := by rw [q8]
  simp [squadL, r2, sqStep, x5, xc] at h1 ⊢
  simp [h1]
theorem q12 : movesL r3.ents = [⟨5, 5, 1⟩] := by decide
theorem enterAt {r : Reg} {x : Ent} {q : Reg × Int} (e : regEnter r x = q) (h : Ro) (s : Rsh) (hr : RegAt h s r) : Res Try.prog 13 #[regV r.league r.day s, entV x] h (regR q) := e ▸ regEnter_c h s r hr x
theorem clubAt {r : Reg} {p : Int} {q : Int × Int × Bool} (e : regClub r p = q) (h : Ro) (s : Rsh) (hr : RegAt h s r) : Val Try.prog 18 #[regV r.league r.day s, .int .i64 p] h (.tuple #[.int .i64 q.1, .int .i64 q.2.1, .bool q.2.2]) := e ▸ regClub_c h s r hr p
theorem lockedAt {r : Reg} {p : Int} {q : Int × Bool} (e : regLocked r p = q) (h : Ro) (s : Rsh) (hr : RegAt h s r) : Val Try.prog 20 #[regV r.league r.day s, .int .i64 p] h (.tuple #[.int .i64 q.1, .bool q.2]) := e ▸ regLocked_c h s r hr p
theorem squadAt (hS : SortSaid) {r : Reg} {c : Int} {q : List Int} (e : squadL r c = q) (h : Ro) (s : Rsh) (hr : RegAt h s r) : Res Try.prog 23 #[regV r.league r.day s, .int .i64 c] h (fun v h' => ∃ A c, v = .slice A q.length c ∧ SlOf encI 1 h' A q.length q) := e ▸ regSquad_c hS h s r hr c
theorem movesAt {r : Reg} {q : List Mv} (hg : RegGood r) (e : movesL r.ents = q) (h : Ro) (s : Rsh) (hr : RegAt h s r) : Res Try.prog 25 #[regV r.league r.day s] h (fun v h' => ∃ A c, v = .tuple #[.slice A q.length c, .int .i64 0] ∧ SlOf encM 82 h' A q.length q) := by
  have := regMoves_c h s r hr; simp only [if_pos hg] at this; exact e ▸ this
theorem movesBad {r : Reg} (hg : ¬ RegGood r) (h : Ro) (s : Rsh) (hr : RegAt h s r) : Res Try.prog 25 #[regV r.league r.day s] h (fun v h' => v = .tuple #[.slice none 0 0, .int .i64 360]) := by
  have := regMoves_c h s r hr; simp only [if_neg hg] at this; exact this
theorem checkBad {r : Reg} (hg : ¬ RegGood r) (h : Ro) (s : Rsh) (hr : RegAt h s r) : Val Try.prog 16 #[regV r.league r.day s] h (.int .i64 360) := by
  have := check_c h s r hr; simp only [if_neg hg] at this; exact this
theorem new8 (h : Ro) (A : Option Addr) (c : Nat) (hs : SlOf encI 1 h A 1 [1]) : Val Try.prog 11 #[.int .i64 8, .slice A 1 c] h (.tuple #[regV 0 0 shNil, .int .i64 360]) := by
  have := new_c h 8 A 1 c [1] hs (by omega); rw [if_neg (fun h => by have := h.2.1; omega)] at this; exact this
theorem new0 (h : Ro) (A : Option Addr) (c : Nat) (hs : SlOf encI 1 h A 2 [1, 2]) : Val Try.prog 11 #[.int .i64 0, .slice A 2 c] h (.tuple #[regV r0.league r0.day ⟨A, 2, c, none, 0, 0⟩, .int .i64 0]) := by
  have := new_c h 0 A 2 c [1, 2] hs (by omega); rw [if_pos open12] at this; exact this
theorem at0 (h : Ro) (A : Option Addr) (c : Nat) (hs : SlOf encI 1 h A 2 [1, 2]) : RegAt h ⟨A, 2, c, none, 0, 0⟩ r0 := ⟨hs, SlOf.nil, by simp, by simp⟩
end Go.Hw


import Derived.Test.YtbgjcjhodlmgjacDoorCM1
import Derived.Test.YtbgjcjhodlmgjacDoorCN10
import Derived.Test.YtbgjcjhodlmgjacDoorCW22
set_option linter.unusedVariables false
set_option linter.unusedSimpArgs false
set_option maxRecDepth 100000
set_option maxHeartbeats 8000000
namespace Go.Hw
open Go
attribute [local irreducible] Has GO GOl GDp Val Fn Res CellsAt ValE Blk OwnS MapA Yl
open Go.Proofs (Tryd.prog)

/-- The entry by which the player is entered. -/
def enX (day player club : Int) : Ent := ⟨1, day, player, club, 0, 0, 0⟩
def enY (r : Reg) (x : Ent) : Reg := ⟨r.league, r.clubs, x.day, r.ents ++ [x]⟩
section
variable {r : Reg} {player club day : Int} (hg : RegGood r) (hn : (regClub r player).2.2 = false) (hcl : club ∈ r.clubs) (ha : addE r.clubs r.day r.ents (enX day player club) = 0)
include hg ha
theorem en_good : RegGood (enY r (enX day player club)) := good_snoc hg ha
open Classical in
theorem en_other {p : Int} (hp : p ≠ player) : regClub (enY r (enX day player club)) p = regClub r p := by
  have e : ofL (r.ents ++ [enX day player club]) p = ofL r.ents p := by rw [ofL_snoc, if_neg (fun h => hp h.symm)]
  unfold regClub
  show (if RegGood (enY r (enX day player club)) ∧ (ofL (r.ents ++ [enX day player club]) p).owner ≠ -1 then _ else _) = _
  have hgg := en_good hg ha
  show (if RegGood (enY r (enX day player club)) ∧ (ofL (r.ents ++ [enX day player club]) p).owner ≠ -1 then ((ofL (r.ents ++ [enX day player club]) p).owner, if (ofL (r.ents ++ [enX day player club]) p).borrower ≠ -1 then (ofL (r.ents ++ [enX day player club]) p).borrower else (ofL (r.ents ++ [enX day player club]) p).owner, true) else _) = _
  rw [e]
  by_cases ho : (ofL r.ents p).owner ≠ -1
  · rw [if_pos (show RegGood (enY r (enX day player club)) ∧ (ofL r.ents p).owner ≠ -1 from ⟨hgg, ho⟩), if_pos (show RegGood r ∧ (ofL r.ents p).owner ≠ -1 from ⟨hg, ho⟩)]
  · rw [if_neg (show ¬ (RegGood (enY r (enX day player club)) ∧ (ofL r.ents p).owner ≠ -1) from fun hh => ho hh.2), if_neg (show ¬ (RegGood r ∧ (ofL r.ents p).owner ≠ -1) from fun hh => ho hh.2)]
include hn hcl
open Classical in
theorem en_own : regClub (enY r (enX day player club)) player = (club, club, true) := by
  have h0 : (ofL r.ents player).owner = -1 := by
    unfold regClub at hn
    by_cases h : (ofL r.ents player).owner = -1
    · exact h
    · rw [if_pos ⟨hg, h⟩] at hn; cases hn
  obtain ⟨o, b, y, k⟩ := (good_inv hg).2.2 player
  have hb : (ofL r.ents player).borrower = -1 := by
    rcases b with b | ⟨_, b⟩
    · exact b
    · exact absurd h0 b
  have e : ofL (r.ents ++ [enX day player club]) player = after (ofL r.ents player) (enX day player club) := by rw [ofL_snoc, if_pos (show (enX day player club).player = player from rfl)]
  have e1 : (after (ofL r.ents player) (enX day player club)).owner = club := by unfold after enX; simp
  have e2 : (after (ofL r.ents player) (enX day player club)).borrower = -1 := by unfold after enX; simp [hb]
  have hc0 := hg.1.2.2.nonneg club hcl
  unfold regClub
  show (if RegGood (enY r (enX day player club)) ∧ (ofL (r.ents ++ [enX day player club]) player).owner ≠ -1 then ((ofL (r.ents ++ [enX day player club]) player).owner, if (ofL (r.ents ++ [enX day player club]) player).borrower ≠ -1 then (ofL (r.ents ++ [enX day player club]) player).borrower else (ofL (r.ents ++ [enX day player club]) player).owner, true) else _) = _
  rw [e, e1, e2, if_pos ⟨en_good hg ha, by omega⟩]; simp
theorem en_squad : squadL (enY r (enX day player club)) club = membersL r club player := by
  refine incr_ext (squadL_spec _ club _).1 (members_incr r club player) fun n => ?_
  rw [members_mem]
  have h1 := (squadL_spec (enY r (enX day player club)) club (enY r (enX day player club)).ents).2 n
  have h2 := (squadL_spec r club r.ents).2 n
  refine h1.trans ?_
  show _ ↔ n ∈ r.ents.foldl (sqStep r club) [] ∨ n = player
  rw [h2]
  by_cases e : n = player
  · subst e
    rw [en_own hg hn hcl ha]
    exact ⟨fun _ => .inr rfl, fun _ => ⟨⟨enX day n club, by simp [enY], rfl⟩, rfl, rfl⟩⟩
  · rw [en_other hg ha e]
    constructor
    · rintro ⟨⟨x, hx, hxe⟩, h3⟩
      left
      refine ⟨⟨x, ?_, hxe⟩, h3⟩
      simp only [enY, List.mem_append, List.mem_singleton] at hx
      rcases hx with hx | hx
      · exact hx
      · subst hx; exact absurd hxe.symm e
    · rintro (⟨⟨x, hx, hxe⟩, h3⟩ | h3)
      · exact ⟨⟨x, by simp [enY, hx], hxe⟩, h3⟩
      · exact absurd h3 e
theorem en_loans (L : List Int) : loanIn club (playersL (enY r (enX day player club)) L) = loanIn club (playersL r L) ∧ loanOut club (playersL (enY r (enX day player club)) L) = loanOut club (playersL r L) := by
  induction L with
  | nil => exact ⟨rfl, rfl⟩
  | cons p L ih =>
    have e1 : ∀ q : Reg, playersL q (p :: L) = playersL q [p] ++ playersL q L := fun q => playersL_app q [p] L
    have e2 : ∀ a b : List (Int × Int), loanIn club (a ++ b) = loanIn club a + loanIn club b := fun a b => by unfold loanIn; rw [List.filter_append, List.length_append]; simp
    have e3 : ∀ a b : List (Int × Int), loanOut club (a ++ b) = loanOut club a + loanOut club b := fun a b => by unfold loanOut; rw [List.filter_append, List.length_append]; simp
    rw [e1, e1, e2, e2, e3, e3, ih.1, ih.2, playersL_one, playersL_one]
    by_cases e : p = player
    · subst e
      rw [en_own hg hn hcl ha, hn]
      simp [loanIn, loanOut]
    · rw [en_other hg ha e]; exact ⟨rfl, rfl⟩
theorem en_loans2 : loanIn club (playersL (enY r (enX day player club)) (firsts (enY r (enX day player club)).ents)) = loanIn club (playersL r (firsts r.ents)) ∧
    loanOut club (playersL (enY r (enX day player club)) (firsts (enY r (enX day player club)).ents)) = loanOut club (playersL r (firsts r.ents)) := by
  have hf : firsts (enY r (enX day player club)).ents = if player ∈ firsts r.ents then firsts r.ents else firsts r.ents ++ [player] := firsts_snoc _ _
  rw [hf]
  split
  · exact en_loans hg hn hcl ha _
  · have h0 := en_loans hg hn hcl ha (firsts r.ents)
    have e2 : ∀ a b : List (Int × Int), loanIn club (a ++ b) = loanIn club a + loanIn club b := fun a b => by unfold loanIn; rw [List.filter_append, List.length_append]; simp
    have e3 : ∀ a b : List (Int × Int), loanOut club (a ++ b) = loanOut club a + loanOut club b := fun a b => by unfold loanOut; rw [List.filter_append, List.length_append]; simp
    rw [playersL_app, e2, e3, h0.1, h0.2, playersL_one, en_own hg hn hcl ha]
    simp [loanIn, loanOut]
end
open Classical in
theorem en_may {q : Quo} {r : Reg} {l : List Per} {bans : List Ivl} {club player day : Int} (hm : mayE q r l bans club player day = 0) (ha : addE r.clubs r.day r.ents (enX day player club) = 0) {c : Int} (hc : c ∈ r.clubs) :
    mayE q (enY r (enX day player club)) l bans c player day ≠ 0 ∧ (c = club → mayE q (enY r (enX day player club)) l bans c player day = 361) := by
  obtain ⟨z1, z2, z3, z4, z5, z6, z7, z8, z9⟩ := mayE_zero hm
  have hgy := en_good z2 ha
  have hown := en_own z2 z7 z3.2.2.2.2 ha
  have hE : mayE q (enY r (enX day player club)) l bans c player day = if ¬ AllKnown l (membersL (enY r (enX day player club)) c player) day then 1 else 361 := by
    unfold mayE
    rw [if_neg (fun hh => hh z1), if_neg (fun hh => hh hgy), if_neg (fun hh => hh ⟨z3.1, z3.2.1, z3.2.2.1, z3.2.2.2.1, hc⟩)]
    by_cases hk : AllKnown l (membersL (enY r (enX day player club)) c player) day
    · rw [if_neg (fun hh => hh hk), if_neg (fun hh => hh z5), if_neg (by simp [z6]), hown, if_pos rfl, if_neg (fun hh => hh hk)]
    · rw [if_pos hk, if_pos hk]
  rw [hE]
  constructor
  · split <;> simp
  · intro e; subst e
    have hmem : membersL (enY r (enX day player c)) c player = membersL r c player := by
      refine incr_ext (members_incr _ c player) (members_incr r c player) fun n => ?_
      rw [members_mem, en_squad z2 z7 hc ha, members_mem]
      constructor
      · rintro (h | h)
        · exact h
        · exact .inr h
      · exact .inl
    rw [hmem, if_neg (fun hh => hh z4)]
end Go.Hw

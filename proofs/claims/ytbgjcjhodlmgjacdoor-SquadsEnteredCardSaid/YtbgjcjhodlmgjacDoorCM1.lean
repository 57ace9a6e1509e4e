import Derived.Test.YtbgjcjhodlmgjacDoorNB
import Derived.Test.YtbgjcjhodlmgjacDoorWB
set_option linter.unusedVariables false
set_option linter.unusedSimpArgs false
set_option maxRecDepth 100000
set_option maxHeartbeats 8000000
namespace Go.Hw
open Go
attribute [local irreducible] GO GOl GDp Val Fn Res CellsAt ValE Blk OwnS MapA Yl
open Go.Proofs (Tryd.prog)

theorem incr_sub : ∀ {b a : List Int}, a.Pairwise (· < ·) → b.Pairwise (· < ·) → (∀ x ∈ a, x ∈ b) → a.length ≤ b.length ∧ (a.length = b.length → a = b)
  | [], [], _, _, _ => by simp
  | [], x :: a, _, _, h => by have := h x (by simp); simp at this
  | y :: b, [], _, _, _ => by simp
  | y :: b, x :: a, ha, hb, h => by
    rw [List.pairwise_cons] at ha hb
    have hx := h x (by simp)
    by_cases e : x = y
    · subst e
      have ih := incr_sub ha.2 hb.2 fun z hz => by
        have h1 := h z (by simp [hz])
        have h2 := ha.1 z hz
        rcases List.mem_cons.1 h1 with h3 | h3
        · omega
        · exact h3
      exact ⟨by simp; exact ih.1, fun hl => by rw [ih.2 (by simpa using hl)]⟩
    · have hxb : x ∈ b := by rcases List.mem_cons.1 hx with h3 | h3; exact absurd h3 e; exact h3
      have hyx := hb.1 x hxb
      have ih := incr_sub (b := b) (a := x :: a) (List.pairwise_cons.2 ha) hb.2 fun z hz => by
        have h1 := h z hz
        rcases List.mem_cons.1 h1 with h3 | h3
        · rcases List.mem_cons.1 hz with h4 | h4
          · omega
          · have := ha.1 z h4; omega
        · exact h3
      have h5 := ih.1
      simp only [List.length_cons] at h5 ⊢
      exact ⟨by omega, fun hl => by omega⟩

theorem members_count (r : Reg) (club player : Int) : (membersL r club player).length = (squadL r club).length + if player ∈ squadL r club then 0 else 1 := by
  have hsi : (squadL r club).Pairwise (· < ·) := (squadL_spec r club r.ents).1
  split
  · rename_i h
    rw [incr_ext (members_incr r club player) hsi (fun x => by rw [members_mem]; constructor; rintro (h1 | rfl); exact h1; exact h; exact .inl)]; rfl
  · rename_i h
    rw [incr_ext (members_incr r club player) (insL_incr player hsi h) (fun x => by rw [members_mem, insL_mem]; exact or_comm), insL_len]

/-- The persons of a squad with a player more, who are born. -/
noncomputable def sqOut (r : Reg) (l : List Per) (club player day : Int) : List Per := l.filter fun p => decide ((p.player = player ∨ p.player ∈ squadL r club) ∧ p.born ≤ day)
theorem sqOut_ok {r : Reg} {l : List Per} {club player day : Int} (hl : PersOk l) :
    ((sqOut r l club player day).length = (membersL r club player).length ↔ AllKnown l (membersL r club player) day) ∧
    (AllKnown l (membersL r club player) day → sqOut r l club player day = ofNums l (membersL r club player)) := by
  have hoi : ((sqOut r l club player day).map fun p => p.player).Pairwise (· < ·) := by
    rw [List.pairwise_map]; exact List.Pairwise.filter _ hl.2
  have hsub : ∀ x ∈ (sqOut r l club player day).map (fun p => p.player), x ∈ membersL r club player := by
    intro x hx
    obtain ⟨p, hp, rfl⟩ := List.mem_map.1 hx
    have := (List.mem_filter.1 hp).2
    rw [decide_eq_true_eq] at this
    rw [members_mem]; exact this.1.symm
  have hs := incr_sub hoi (members_incr r club player) hsub
  rw [List.length_map] at hs
  have hk : AllKnown l (membersL r club player) day → ∀ x ∈ membersL r club player, x ∈ (sqOut r l club player day).map (fun p => p.player) := by
    intro hA x hx
    obtain ⟨p, hp, e, hb⟩ := hA x hx
    subst e
    rw [members_mem] at hx
    exact List.mem_map.2 ⟨p, List.mem_filter.2 ⟨hp, by rw [decide_eq_true_eq]; exact ⟨hx.symm, by omega⟩⟩, rfl⟩
  refine ⟨⟨fun h x hx => ?_, fun hA => ?_⟩, fun hA => ?_⟩
  · rw [← hs.2 h] at hx
    obtain ⟨p, hp, rfl⟩ := List.mem_map.1 hx
    have h1 := List.mem_filter.1 hp
    have := h1.2
    rw [decide_eq_true_eq] at this
    exact ⟨p, h1.1, rfl, by omega⟩
  · have := (incr_sub (members_incr r club player) hoi (hk hA)).1
    rw [List.length_map] at this
    omega
  · unfold sqOut ofNums
    apply List.filter_congr
    intro p hp
    rw [decide_eq_decide]
    constructor
    · rintro ⟨h1, h2⟩; rw [members_mem]; exact h1.symm
    · intro h1
      obtain ⟨p', hp', e, hb⟩ := hA _ h1
      have := find_uniq hl.2 hp' hp e
      subst this
      rw [members_mem] at h1
      exact ⟨h1.symm, by omega⟩

theorem sqOut_take (r : Reg) (l : List Per) (club player day : Int) (x : Per) : sqOut r (l ++ [x]) club player day = sqOut r l club player day ++ if (x.player = player ∨ x.player ∈ squadL r club) ∧ x.born ≤ day then [x] else [] := by
  unfold sqOut; rw [List.filter_append, List.filter_cons]
  by_cases h : (x.player = player ∨ x.player ∈ squadL r club) ∧ x.born ≤ day
  · rw [if_pos (decide_eq_true h), if_pos h]; rfl
  · rw [if_neg (by simpa using h), if_neg h]; rfl

end Go.Hw

import Derived.Test.YtbgjcjhodlmgjacDoorCW20
set_option linter.unusedVariables false
set_option linter.unusedSimpArgs false
set_option maxRecDepth 100000
set_option maxHeartbeats 1600000
namespace Go.Hw
open Go

/-! ### What holds of every player of a good registry -/
structure Inv (clubs : List Int) (d p : Int) (s : Sta) : Prop where
  own : s.owner = -1 ∨ (s.owner ∈ clubs ∧ 0 ≤ p ∧ p < 8192)
  bor : s.borrower = -1 ∨ (s.borrower ∈ clubs ∧ s.owner ≠ -1)
  day : s.day ≤ d
  lok : s.lock = -1 ∨ (1 ≤ s.lock ∧ s.lock ≤ 1048576 ∧ s.owner ≠ -1 ∧ s.borrower = -1 ∧ s.day < d)

theorem Inv.mono {clubs : List Int} {d d' p : Int} {s : Sta} (h : Inv clubs d p s) (hd : d ≤ d') : Inv clubs d' p s :=
  ⟨h.own, h.bor, by have := h.day; omega, by rcases h.lok with h | ⟨h1, h2, h3, h4, h5⟩; exact .inl h; exact .inr ⟨h1, h2, h3, h4, by omega⟩⟩

theorem addE_zero {clubs : List Int} {d : Int} {l : List Ent} {x : Ent} (h : addE clubs d l x = 0) : l.length < 65536 ∧ ValidX clubs d x ∧ fits (ofL l x.player) x = 0 := by
  unfold addE at h
  split at h
  · cases h
  · split at h
    · cases h
    · rename_i h1 h2
      exact ⟨by omega, Decidable.not_not.1 h2, h⟩

theorem kinds {clubs : List Int} {d : Int} {x : Ent} (h : ValidX clubs d x) : x.kind = 1 ∨ x.kind = 2 ∨ x.kind = 3 ∨ x.kind = 4 ∨ x.kind = 5 ∨ x.kind = 6 := by
  obtain ⟨_, _, _, _, _, _, h⟩ := h
  omega

theorem fits_inv {clubs : List Int} {d : Int} {x : Ent} {s : Sta} (hc : ∀ c ∈ clubs, 0 ≤ c) (hV : ValidX clubs d x) (hf : fits s x = 0) (hi : Inv clubs d x.player s) : Inv clubs x.day x.player (after s x) := by
  obtain ⟨o, b, y, k⟩ := hi
  have hk := kinds hV
  obtain ⟨v1, v2, v3, v4, v5, v6, v7⟩ := hV
  have hcl := hc _ v6
  unfold fits at hf
  rcases hk with hk | hk | hk | hk | hk | hk
  all_goals
    simp only [hk] at hf v7
    unfold after
    simp only [hk]
    constructor
  all_goals simp
  all_goals grind

theorem ofL_inv {clubs : List Int} {d : Int} {l : List Ent} {x : Ent} (hc : ∀ c ∈ clubs, 0 ≤ c) (h : addE clubs d l x = 0) (hi : ∀ p, Inv clubs d p (ofL l p)) (p : Int) : Inv clubs x.day p (ofL (l ++ [x]) p) := by
  obtain ⟨_, hV, hf⟩ := addE_zero h
  rw [ofL_snoc]
  split
  · rename_i e; subst e
    exact fits_inv hc hV hf (hi _)
  · exact (hi p).mono hV.2.2.1

theorem bookOf_inv {clubs : List Int} (hc : ∀ c ∈ clubs, 0 ≤ c) : ∀ {rest acc : List Ent} {d e : Int}, bookOf clubs d acc rest = some e → 0 ≤ d → d ≤ 1048576 → (∀ p, Inv clubs d p (ofL acc p)) → 0 ≤ e ∧ e ≤ 1048576 ∧ ∀ p, Inv clubs e p (ofL (acc ++ rest) p)
  | [], acc, d, e, h, h0, h1, hi => by
    simp [bookOf] at h
    subst h
    simpa using ⟨h0, h1, hi⟩
  | y :: r, acc, d, e, h, h0, h1, hi => by
    unfold bookOf at h
    split at h
    · rename_i ha
      obtain ⟨_, hV, _⟩ := addE_zero ha
      have := bookOf_inv hc h hV.1 hV.2.1 (ofL_inv hc ha hi)
      simpa using this
    · cases h

theorem FieldOk.nonneg {xs : List Int} (h : FieldOk xs) : ∀ c ∈ xs, 0 ≤ c := fun c hc => by
  obtain ⟨i, hi, rfl⟩ := List.getElem_of_mem hc
  have := (h.1 i hi).1
  simpa [List.getD, List.getElem?_eq_getElem hi] using this

theorem good_inv {r : Reg} (hg : RegGood r) : 0 ≤ r.day ∧ r.day ≤ 1048576 ∧ ∀ p, Inv r.clubs r.day p (ofL r.ents p) := by
  have := bookOf_inv hg.1.2.2.nonneg hg.2 (by omega) (by omega) (fun p => ⟨.inl rfl, .inl rfl, by show (-1 : Int) ≤ 0; omega, .inl rfl⟩)
  simpa using this

theorem bookOf_snoc {clubs : List Int} {x : Ent} : ∀ {rest acc : List Ent} {d e : Int}, bookOf clubs d acc rest = some e → addE clubs e (acc ++ rest) x = 0 → bookOf clubs d acc (rest ++ [x]) = some x.day
  | [], acc, d, e, h, ha => by
    simp [bookOf] at h
    subst h
    simp at ha
    simp [bookOf, ha]
  | y :: r, acc, d, e, h, ha => by
    unfold bookOf at h
    split at h
    · rename_i h1
      show bookOf clubs d acc (y :: (r ++ [x])) = _
      unfold bookOf
      rw [if_pos h1]
      exact bookOf_snoc h (by simpa using ha)
    · cases h

/-- A registry with an entry more that Enter takes. -/
theorem good_snoc {r : Reg} {x : Ent} (hg : RegGood r) (ha : addE r.clubs r.day r.ents x = 0) : RegGood ⟨r.league, r.clubs, x.day, r.ents ++ [x]⟩ :=
  ⟨hg.1, bookOf_snoc hg.2 (by simpa using ha)⟩

/-! ### Clubs are all different -/
theorem FieldOk.incr {xs : List Int} (h : FieldOk xs) : xs.Pairwise (· < ·) := by
  have key : ∀ j, j < xs.length → ∀ i, i < j → xs.getD i 0 < xs.getD j 0 := by
    intro j
    induction j with
    | zero => intro _ i hi; omega
    | succ j ih =>
      intro hj i hi
      have h1 := (h.1 (j + 1) hj).2.2 (by omega)
      rw [Nat.add_sub_cancel] at h1
      by_cases hij : i = j
      · subst hij; exact h1
      · have := ih (by omega) i (by omega); omega
  rw [List.pairwise_iff_getElem]
  intro i j hi hj hij
  have := key j hj i hij
  simpa [List.getD, List.getElem?_eq_getElem hi, List.getElem?_eq_getElem hj] using this

/-- In how many of these clubs' squads the player is. -/
noncomputable def manyL (r : Reg) (p : Int) (l : List Int) : Nat := (l.filter fun c => decide (p ∈ squadL r c)).length

theorem mem_squad (r : Reg) (club p : Int) : p ∈ squadL r club ↔ (∃ x ∈ r.ents, x.player = p) ∧ (regClub r p).2.2 = true ∧ (regClub r p).2.1 = club := (squadL_spec r club r.ents).2 p
theorem squad_incr (r : Reg) (club : Int) : (squadL r club).Pairwise (· < ·) := (squadL_spec r club r.ents).1

theorem ofL_none {l : List Ent} {p : Int} (h : ¬ ∃ x ∈ l, x.player = p) : ofL l p = st0 := by
  induction l using rev_ind with
  | h0 => rfl
  | h1 l x ih =>
    rw [ofL_snoc, if_neg (fun e => h ⟨x, by simp, e⟩), ih (fun ⟨y, hy, e⟩ => h ⟨y, by simp [hy], e⟩)]

theorem count_one {q : Int} : ∀ {l : List Int}, l.Pairwise (· < ·) → q ∈ l → (l.filter fun c => decide (q = c)).length = 1
  | [], _, h => by cases h
  | a :: r, hp, h => by
    rw [List.pairwise_cons] at hp
    rw [List.filter_cons]
    by_cases e : q = a
    · subst e
      have : r.filter (fun c => decide (q = c)) = [] := by
        rw [List.filter_eq_nil_iff]
        intro c hc
        have := hp.1 c hc
        simp; omega
      simp [this]
    · rw [if_neg (by simpa using e)]
      exact count_one hp.2 (by simpa [e] using h)

/-- Squads of a good registry. -/
theorem squads_good {r : Reg} (hg : RegGood r) (p : Int) : if (regClub r p).2.2 = true then manyL r p r.clubs = 1 ∧ (regClub r p).1 ∈ r.clubs else manyL r p r.clubs = 0 := by
  split
  · rename_i hok
    have hgi := (good_inv hg).2.2 p
    have hO : (ofL r.ents p).owner ≠ -1 := by
      intro e
      unfold regClub at hok
      rw [if_neg (fun h => h.2 e)] at hok
      cases hok
    have hx : ∃ x ∈ r.ents, x.player = p := Classical.byContradiction fun h => hO (by rw [ofL_none h]; rfl)
    have hc : regClub r p = ((ofL r.ents p).owner, if (ofL r.ents p).borrower ≠ -1 then (ofL r.ents p).borrower else (ofL r.ents p).owner, true) := by
      unfold regClub; rw [if_pos ⟨hg, hO⟩]
    have ho : (ofL r.ents p).owner ∈ r.clubs := by rcases hgi.own with h | h; exact absurd h hO; exact h.1
    refine ⟨?_, by rw [hc]; exact ho⟩
    have hm : (regClub r p).2.1 ∈ r.clubs := by
      rw [hc]; show (if _ then _ else _) ∈ _
      split
      · rename_i hb; rcases hgi.bor with h | h; exact absurd h hb; exact h.1
      · exact ho
    unfold manyL
    rw [show (fun c => decide (p ∈ squadL r c)) = fun c => decide ((regClub r p).2.1 = c) from funext fun c => decide_eq_decide.2 ((mem_squad r c p).trans ⟨fun h => h.2.2, fun h => ⟨hx, hok, h⟩⟩)]
    exact count_one hg.1.2.2.incr hm
  · rename_i hok
    unfold manyL
    rw [List.length_eq_zero_iff, List.filter_eq_nil_iff]
    intro c _
    rw [decide_eq_true_eq]
    exact fun h => hok ((mem_squad r c p).1 h).2.1

theorem squads_bad {r : Reg} (hg : ¬ RegGood r) (p : Int) (l : List Int) : (regClub r p).2.2 = false ∧ manyL r p l = 0 := by
  refine ⟨by unfold regClub; rw [if_neg (fun h => hg h.1)], ?_⟩
  unfold manyL
  rw [List.length_eq_zero_iff, List.filter_eq_nil_iff]
  intro c _
  rw [squad_bad hg]; simp
end Go.Hw

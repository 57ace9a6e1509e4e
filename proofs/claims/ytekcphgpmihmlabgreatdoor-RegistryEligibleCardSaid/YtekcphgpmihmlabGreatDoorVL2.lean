import Derived.Test.YtekcphgpmihmlabGreatDoorVL1
import Derived.Test.YtekcphgpmihmlabGreatDoorWB
/-
  The moves of a good registry: what Registered says of them (plain).
-/
set_option linter.unusedVariables false
set_option linter.unusedSimpArgs false
set_option maxRecDepth 100000
set_option maxHeartbeats 4000000
namespace Go.Hw
open Go
attribute [local irreducible] GO GOl GDp Val Fn Res CellsAt ValE Blk OwnS MapA OwnPf Has Yl RngA
open Go.Proofs (Tryz.prog)

def mvF (m : Mv) : Fct := { fct0 with kind := 6, day := m.day, known := m.day, mP := m.player, mTo := m.to }
def mvP (m : Mv) : Fsh × Fct := (fsh0, mvF m)
theorem encM_fact (m : Mv) : encM m = encF82 (mvP m) := rfl
theorem SlOf.ofM {h : Ro} {A : Option Addr} {n : Nat} {l : List Mv} (s : SlOf encM 82 h A n l) : SlOf encF82 82 h A n (l.map mvP) :=
  ⟨by rw [List.length_map]; exact s.len, fun hn => let ⟨ad, e, hc⟩ := s.at_ hn; ⟨ad, e, fun j x hx => by
    rw [List.getElem?_map] at hx
    cases hl : l[j]? with
    | none => rw [hl] at hx; cases hx
    | some m => rw [hl] at hx; injection hx with hx; subst hx; rw [← encM_fact]; exact hc j m hl⟩⟩
theorem mvF_at (h : Ro) (m : Mv) : FAt h fsh0 (mvF m) := ⟨⟨SlOf.nil, SlOf.nil, SlOf.nil, SlOf.nil⟩, SlOf.nil, SlOf.nil, rfl, Nat.le_refl _⟩
theorem mvF_sm (m : Mv) : FSm (mvF m) := ⟨⟨Nat.zero_le _, Nat.zero_le _, Nat.zero_le _, Nat.zero_le _⟩, Nat.zero_le _, Nat.zero_le _, Nat.zero_le _⟩
theorem mvF_ok {m : Mv} (hd : 0 ≤ m.day ∧ m.day ≤ 1048576) (hp : 0 ≤ m.player ∧ m.player < 8192) (ht : m.to = -1 ∨ (0 ≤ m.to ∧ m.to < 192)) : FctOk (mvF m) := by
  refine ⟨⟨hd.1, by show m.day < 1048577; omega⟩, ⟨hd.1, by show m.day < 1048577; omega⟩, ?_, rfl⟩
  unfold ContOk
  simp only [mvF, show ¬ ((6 : Int) = 1) by decide, show ¬ ((6 : Int) = 2) by decide, show ¬ ((6 : Int) = 3) by decide, show ¬ ((6 : Int) = 4) by decide, show ¬ ((6 : Int) = 5) by decide, if_false, if_true]
  exact ⟨hp, ht⟩

theorem cmpB_cons (a : UInt8) (x y : List UInt8) : cmpB (a :: x) (a :: y) = cmpB x y := by
  rw [cmpB, if_neg (by omega), if_neg (by omega)]
theorem cmpB_app : ∀ (p x y : List UInt8), cmpB (p ++ x) (p ++ y) = cmpB x y
  | [], x, y => rfl
  | a :: p, x, y => by rw [List.cons_append, List.cons_append, cmpB_cons, cmpB_app p]
theorem cmpB_minus {c : Int} (hc : 0 ≤ c) (s t : List UInt8) : cmpB (bInt c ++ s) (bInt (-1) ++ t) = 1 := by
  have h1 : Lib.itoa c = Lib.decDigits c.toNat := by unfold Lib.itoa; rw [if_neg (by omega)]
  have h2 : ∃ r, Lib.itoa (-1) = 45 :: r := by unfold Lib.itoa; rw [if_pos (by omega)]; exact ⟨_, rfl⟩
  obtain ⟨r, h2⟩ := h2
  have h3 := dec_dig c.toNat
  cases h4 : Lib.decDigits c.toNat with
  | nil => exact absurd h4 (dec_ne _)
  | cons a q =>
    have := h3 a (by rw [h4]; simp)
    unfold bInt
    rw [h1, h2, h4]
    simp only [List.cons_append]
    rw [cmpB_cons, cmpB, if_neg (by show ¬ a.toNat < 45; omega), if_pos (by show 45 < a.toNat; omega)]
theorem cmpI_self (a : Int) : cmpI a a = 0 := cmpI_zero.2 rfl
theorem cmpF_mv (d p : Int) {c : Int} (hc : 0 ≤ c) : 0 < cmpF (mvF ⟨d, p, c⟩) (mvF ⟨d, p, -1⟩) := by
  have e : cmpF (mvF ⟨d, p, c⟩) (mvF ⟨d, p, -1⟩) = cmpB (encF (mvF ⟨d, p, c⟩)) (encF (mvF ⟨d, p, -1⟩)) := by
    unfold cmpF
    rw [if_neg (fun h => h (cmpI_self d)), if_neg (fun h => h (cmpI_self d)), if_neg (fun h => h (cmpI_self 6))]
  have c1 : ∀ m : Mv, contentB (mvF m) = bInt m.player ++ (bInt m.to ++ []) := fun m => rfl
  rw [e]
  unfold encF
  rw [c1, c1]
  simp only [show ∀ m : Mv, (mvF m).day = m.day from fun _ => rfl, show ∀ m : Mv, (mvF m).known = m.day from fun _ => rfl, show ∀ m : Mv, (mvF m).kind = 6 from fun _ => rfl, cmpB_cons, cmpB_app, List.append_assoc]
  rw [cmpB_minus hc]
  decide

/-! ### What a registry's book says of a player, and the last move -/
def toS (s : Sta) : Int := if s.owner = -1 then -1 else if s.borrower ≠ -1 then s.borrower else s.owner
def zOf (s : Sta) (p : Int) : Fct := if s.day = -1 then last0 else mvF ⟨s.day, p, toS s⟩
theorem zOf_day (s : Sta) (p : Int) : (zOf s p).day = s.day := by
  unfold zOf; split
  · rename_i h; rw [h]; rfl
  · rfl
structure JS (clubs : List Int) (d : Int) (s : Sta) : Prop where
  day : -1 ≤ s.day ∧ s.day ≤ d
  own : s.owner = -1 ∨ s.owner ∈ clubs
  bor : s.borrower = -1 ∨ (s.borrower ∈ clubs ∧ s.owner ≠ -1)
  fresh : s.day = -1 → s.owner = -1
  left : s.left = true → s.owner = -1
theorem JS.mono {clubs : List Int} {d d' : Int} {s : Sta} (h : JS clubs d s) (hd : d ≤ d') : JS clubs d' s := ⟨⟨h.day.1, by have := h.day.2; omega⟩, h.own, h.bor, h.fresh, h.left⟩
theorem addE_ok {clubs : List Int} {d : Int} {l : List Ent} {x : Ent} (h : addE clubs d l x = 0) : ValidX clubs d x ∧ fits (ofL l x.player) x = 0 := by
  unfold addE at h
  split at h
  · cases h
  · split at h
    · cases h
    · rename_i h1 h2
      exact ⟨Decidable.not_not.1 h2, h⟩
theorem JS.step {clubs : List Int} {d : Int} {x : Ent} {s : Sta} (hc : ∀ c ∈ clubs, 0 ≤ c) (hV : ValidX clubs d x) (hf : fits s x = 0) (hj : JS clubs d s) :
    JS clubs x.day (after s x) ∧ (x.kind ≤ 4 → (s.day < x.day ∨ (s.day = x.day ∧ s.owner = -1 ∧ 0 ≤ toOf x)) ∧ toS (after s x) = toOf x ∧ (after s x).day = x.day) ∧ (¬ x.kind ≤ 4 → toS (after s x) = toS s ∧ (after s x).day = s.day) := by
  obtain ⟨y, o, b, f, e⟩ := hj
  have hk : x.kind = 1 ∨ x.kind = 2 ∨ x.kind = 3 ∨ x.kind = 4 ∨ x.kind = 5 ∨ x.kind = 6 := by
    obtain ⟨_, _, _, _, _, _, h⟩ := hV
    omega
  obtain ⟨v1, v2, v3, v4, v5, v6, v7⟩ := hV
  have hcl := hc _ v6
  unfold fits at hf
  rcases hk with hk | hk | hk | hk | hk | hk
  all_goals
    simp only [hk] at hf v7
    unfold after toS toOf
    simp only [hk]
    refine ⟨⟨?_, ?_, ?_, ?_, ?_⟩, ?_, ?_⟩
  all_goals simp
  all_goals grind

theorem bookOf_le {clubs : List Int} : ∀ {rest acc : List Ent} {d e : Int}, bookOf clubs d acc rest = some e → d ≤ e
  | [], acc, d, e, h => by simp [bookOf] at h; omega
  | y :: r, acc, d, e, h => by
    unfold bookOf at h
    split at h
    · rename_i ha
      have := bookOf_le h
      have := (addE_ok ha).1.2.2.1
      omega
    · cases h
/-- The moves of entries, as facts. -/
def mvL (l : List Ent) : List (Fsh × Fct) := (movesL l).map mvP
theorem mvL_snoc (l : List Ent) (x : Ent) : mvL (l ++ [x]) = if x.kind ≤ 4 then mvL l ++ [mvP (mvOf x)] else mvL l := by
  unfold mvL; rw [movesL_snoc]; split
  · rw [List.map_append]; rfl
  · rfl
theorem toOf_in {clubs : List Int} (hc : ∀ c ∈ clubs, 0 ≤ c ∧ c < 192) {d : Int} {x : Ent} (hV : ValidX clubs d x) : toOf x = -1 ∨ (0 ≤ toOf x ∧ toOf x < 192) := by
  obtain ⟨_, _, _, _, _, v6, v7⟩ := hV
  have h1 := hc _ v6
  unfold toOf
  split
  · exact .inl rfl
  · split
    · rename_i h2 h3
      rcases v7 with v | v | v | v
      · omega
      · exact .inr (hc _ v.2.1)
      · omega
      · omega
    · exact .inr h1
theorem mv_ok {clubs : List Int} (hc : ∀ c ∈ clubs, 0 ≤ c ∧ c < 192) {d : Int} {x : Ent} (hV : ValidX clubs d x) : FctOk (mvF (mvOf x)) :=
  mvF_ok ⟨hV.1, hV.2.1⟩ ⟨hV.2.2.2.1, hV.2.2.2.2.1⟩ (toOf_in hc hV)

def KS (clubs : List Int) (D : Int) (acc : List Ent) (d : Int) : Prop := ∀ p, JS clubs d (ofL acc p) ∧ (lastE D (movesE p (mvL acc))).2 = zOf (ofL acc p) p
theorem KS.step {clubs : List Int} (hc : ∀ c ∈ clubs, 0 ≤ c ∧ c < 192) {D d : Int} {acc : List Ent} {x : Ent} (hk : KS clubs D acc d) (ha : addE clubs d acc x = 0) (hD : x.day ≤ D) : KS clubs D (acc ++ [x]) x.day := by
  intro p
  obtain ⟨hV, hf⟩ := addE_ok ha
  obtain ⟨hj, hz⟩ := hk p
  have hx0 := hV.1
  rw [ofL_snoc, mvL_snoc]
  by_cases hp : x.player = p
  · rw [if_pos hp]
    rw [hp] at hf
    obtain ⟨j1, j2, j3⟩ := hj.step (fun c h => (hc c h).1) hV hf
    refine ⟨j1, ?_⟩
    by_cases hk4 : x.kind ≤ 4
    · obtain ⟨k1, k2, k3⟩ := j2 hk4
      have hm : MoveOk p (mvP (mvOf x)).2 := ⟨rfl, hp, mv_ok hc hV⟩
      rw [if_pos hk4, movesE_app, movesE_yes hm, lastE_snoc]
      generalize lastE D (movesE p (mvL acc)) = z at *
      have hzd : z.2.day = (ofL acc p).day := by rw [hz, zOf_day]
      have hcond : (mvP (mvOf x)).2.day ≤ D ∧ (z.2.day < (mvP (mvOf x)).2.day ∨ ((mvP (mvOf x)).2.day = z.2.day ∧ 0 < cmpF (mvP (mvOf x)).2 z.2)) := by
        refine ⟨hD, ?_⟩
        rw [hzd]
        rcases k1 with k | ⟨ka, kb, kc⟩
        · exact .inl k
        · refine .inr ⟨ka.symm, ?_⟩
          have e1 : z.2 = mvF ⟨x.day, p, -1⟩ := by
            rw [hz]
            unfold zOf toS
            rw [if_neg (by omega), if_pos kb, ka]
          have e2 : (mvP (mvOf x)).2 = mvF ⟨x.day, p, toOf x⟩ := by rw [← hp]; rfl
          rw [e1, e2]
          exact cmpF_mv _ _ kc
      unfold takeE
      rw [if_pos hcond]
      unfold zOf
      rw [if_neg (by omega), k2, k3, ← hp]
      rfl
    · obtain ⟨k2, k3⟩ := j3 hk4
      rw [if_neg hk4, hz]
      unfold zOf
      rw [k2, k3]
  · rw [if_neg hp]
    refine ⟨hj.mono hV.2.2.1, ?_⟩
    by_cases hk4 : x.kind ≤ 4
    · have hm : ¬ MoveOk p (mvP (mvOf x)).2 := fun h => hp h.2.1
      rw [if_pos hk4, movesE_app, movesE_no hm, List.append_nil]
      exact hz
    · rw [if_neg hk4]; exact hz
theorem bookOf_KS {clubs : List Int} (hc : ∀ c ∈ clubs, 0 ≤ c ∧ c < 192) {D : Int} : ∀ {rest acc : List Ent} {d e : Int}, bookOf clubs d acc rest = some e → e ≤ D → KS clubs D acc d → (∀ m ∈ mvL acc, FctOk m.2) → KS clubs D (acc ++ rest) e ∧ ∀ m ∈ mvL (acc ++ rest), FctOk m.2
  | [], acc, d, e, h, hD, hk, hm => by
    simp [bookOf] at h
    subst h
    rw [List.append_nil]
    exact ⟨hk, hm⟩
  | y :: r, acc, d, e, h, hD, hk, hm => by
    unfold bookOf at h
    split at h
    · rename_i ha
      have hle := bookOf_le h
      have hV := (addE_ok ha).1
      have := bookOf_KS hc h hD (hk.step hc ha (by omega)) (by
        intro m hmm
        rw [mvL_snoc] at hmm
        split at hmm
        · rw [List.mem_append, List.mem_singleton] at hmm
          rcases hmm with h1 | rfl
          · exact hm m h1
          · exact mv_ok hc hV
        · exact hm m hmm)
      rw [List.append_assoc] at this
      exact this
    · cases h
theorem FieldOk.rng {xs : List Int} (h : FieldOk xs) : ∀ c ∈ xs, 0 ≤ c ∧ c < 192 := fun c hc => by
  obtain ⟨i, hi, rfl⟩ := List.getElem_of_mem hc
  have := h.1 i hi
  simp only [List.getD, List.getElem?_eq_getElem hi, Option.getD_some] at this
  exact ⟨this.1, this.2.1⟩
/-- What Registered says of a good registry's moves. -/
theorem good_reg {r : Reg} (hg : RegGood r) {D : Int} (hD : r.day ≤ D) (p : Int) :
    (lastE D (movesE p (mvL r.ents))).2.mTo = (if (ofL r.ents p).owner = -1 then -1 else if (ofL r.ents p).borrower ≠ -1 then (ofL r.ents p).borrower else (ofL r.ents p).owner) ∧
    ((ofL r.ents p).owner ≠ -1 → 0 ≤ (if (ofL r.ents p).borrower ≠ -1 then (ofL r.ents p).borrower else (ofL r.ents p).owner)) ∧ ∀ m ∈ mvL r.ents, FctOk m.2 := by
  have hc := hg.1.2.2.rng
  obtain ⟨hk, hm⟩ := bookOf_KS hc hg.2 hD (fun q => ⟨⟨⟨by show (-1 : Int) ≤ -1; decide, by show (-1 : Int) ≤ 0; decide⟩, .inl rfl, .inl rfl, fun _ => rfl, fun _ => rfl⟩, rfl⟩) (fun m hm => by cases hm)
  rw [List.nil_append] at hk hm
  obtain ⟨hj, hz⟩ := hk p
  refine ⟨?_, ?_, hm⟩
  · rw [hz]
    unfold zOf
    split
    · rename_i h
      rw [if_pos (hj.fresh h)]
      rfl
    · rfl
  · intro ho
    split
    · rcases hj.bor with h | h
      · contradiction
      · exact (hc _ h.1).1
    · rcases hj.own with h | h
      · contradiction
      · exact (hc _ h).1
theorem good_day {r : Reg} (hg : RegGood r) : 0 ≤ r.day ∧ r.day ≤ 1048576 := by
  have key : ∀ {rest acc : List Ent} {d e : Int}, bookOf r.clubs d acc rest = some e → 0 ≤ d ∧ d ≤ 1048576 → 0 ≤ e ∧ e ≤ 1048576 := by
    intro rest
    induction rest with
    | nil => intro acc d e h hd; simp [bookOf] at h; subst h; exact hd
    | cons y q ih =>
      intro acc d e h hd
      unfold bookOf at h
      split at h
      · rename_i ha
        have hV := (addE_ok ha).1
        exact ih h ⟨hV.1, hV.2.1⟩
      · cases h
  exact key hg.2 ⟨by decide, by decide⟩
end Go.Hw

import Derived.Test.YtbgjcjhodlmgjaaW15
import Derived.Test.YtbgjcjhodlmgjaaHwU
set_option linter.unusedVariables false
set_option linter.unusedSimpArgs false
set_option maxRecDepth 100000
set_option maxHeartbeats 1600000
namespace Go.Hw
open Go
attribute [local irreducible] GO GOl GDp Val Fn Res CellsAt ValE Blk OwnS MapA RngA
open Go.Proofs (Try.prog)

theorem insA_len {κ α : Type} [DecidableEq κ] (x : κ) (a : α) : ∀ (m : List (κ × α)), (insA x a m).length ≤ m.length + 1
  | [] => by simp [insA]
  | (y, b) :: r => by
    simp only [insA]; split
    · simp
    · simp only [List.length_cons]; have := insA_len x a r; omega
theorem mapOf_len (l : List Ent) : (mapOf l).length ≤ l.length := by
  induction l using rev_ind with
  | h0 => simp [mapOf]
  | h1 l x ih => rw [mapOf_snoc, List.length_append]; have := insA_len x.player (after ((lookA x.player (mapOf l)).getD st0) x) (mapOf l); simp; omega
theorem insA_keys {κ α : Type} [DecidableEq κ] (x : κ) (a : α) : ∀ (m : List (κ × α)), (insA x a m).map (·.1) = if x ∈ m.map (·.1) then m.map (·.1) else m.map (·.1) ++ [x]
  | [] => by simp [insA]
  | (y, b) :: r => by
    by_cases h : y = x
    · simp [insA, h]
    · have := insA_keys x a r
      have h' : ¬ x = y := fun e => h e.symm
      simp only [insA, if_neg h, List.map_cons, this, List.mem_cons, h', false_or]
      split <;> simp
theorem mapOf_keys (l : List Ent) : ((mapOf l).map (·.1)).Nodup ∧ ∀ p, p ∈ (mapOf l).map (·.1) ↔ ∃ x ∈ l, x.player = p := by
  induction l using rev_ind with
  | h0 => simp [mapOf]
  | h1 l x ih =>
    obtain ⟨h1, h2⟩ := ih
    rw [mapOf_snoc, insA_keys]
    split
    · rename_i hx
      refine ⟨h1, fun p => ?_⟩
      rw [h2 p]
      constructor
      · rintro ⟨y, hy, e⟩; exact ⟨y, by simp [hy], e⟩
      · rintro ⟨y, hy, e⟩
        rcases List.mem_append.1 hy with hy | hy
        · exact ⟨y, hy, e⟩
        · have : y = x := by simpa using hy
          subst this; subst e; exact (h2 _).1 hx
    · rename_i hx
      refine ⟨?_, fun p => ?_⟩
      · rw [List.nodup_append]
        exact ⟨h1, by simp, fun a ha b hb e => by simp at hb; subst hb; subst e; exact hx ha⟩
      · rw [List.mem_append, h2 p]
        constructor
        · rintro (⟨y, hy, e⟩ | hp)
          · exact ⟨y, by simp [hy], e⟩
          · have : p = x.player := by simpa using hp
            exact ⟨x, by simp, this.symm⟩
        · rintro ⟨y, hy, e⟩
          rcases List.mem_append.1 hy with hy | hy
          · exact .inl ⟨y, hy, e⟩
          · have : y = x := by simpa using hy
            subst this; exact .inr (by simp [e])
theorem lookA_of_mem {κ α : Type} [DecidableEq κ] : ∀ {m : List (κ × α)}, (m.map (·.1)).Nodup → ∀ {q : κ × α}, q ∈ m → lookA q.1 m = some q.2
  | (y, b) :: r, hn, q, hq => by
    rw [List.map_cons, List.nodup_cons] at hn
    rcases List.mem_cons.1 hq with rfl | hq
    · simp [lookA]
    · have hne : y ≠ q.1 := fun e => hn.1 (by rw [e]; exact List.mem_map.2 ⟨q, hq, rfl⟩)
      rw [lookA, if_neg hne]; exact lookA_of_mem hn.2 hq
theorem mapOf_mem {l : List Ent} {q : Int × Sta} (h : q ∈ mapOf l) : q.2 = ofL l q.1 := by
  rw [← mapOf_look, lookA_of_mem (mapOf_keys l).1 h]; rfl

def okS (club : Int) (q : Int × Sta) : Bool := decide (q.2.owner ≠ -1 ∧ (if q.2.borrower ≠ -1 then q.2.borrower else q.2.owner) = club)

/-- Two strictly increasing lists with the same elements are one. -/
theorem incr_ext : ∀ {a b : List Int}, a.Pairwise (· < ·) → b.Pairwise (· < ·) → (∀ x, x ∈ a ↔ x ∈ b) → a = b
  | [], [], _, _, _ => rfl
  | [], y :: b, _, _, h => by have := (h y).2 (.head _); cases this
  | x :: a, [], _, _, h => by have := (h x).1 (.head _); cases this
  | x :: a, y :: b, ha, hb, h => by
    rw [List.pairwise_cons] at ha hb
    have hxy : x = y := by
      rcases List.mem_cons.1 ((h x).1 (.head _)) with e | e
      · exact e
      · have h1 := hb.1 x e
        rcases List.mem_cons.1 ((h y).2 (.head _)) with e2 | e2
        · exact e2.symm
        · have h2 := ha.1 y e2; omega
    subst hxy
    congr 1
    refine incr_ext ha.2 hb.2 fun z => ⟨fun hz => ?_, fun hz => ?_⟩
    · rcases List.mem_cons.1 ((h z).1 (.tail _ hz)) with e | e
      · have := ha.1 z hz; omega
      · exact e
    · rcases List.mem_cons.1 ((h z).2 (.tail _ hz)) with e | e
      · have := hb.1 z hz; omega
      · exact e
theorem insL_mem (p : Int) : ∀ (l : List Int) (x : Int), x ∈ insL p l ↔ x = p ∨ x ∈ l
  | [], x => by simp [insL]
  | a :: r, x => by
    simp only [insL]; split
    · rw [List.mem_cons, insL_mem p r x, List.mem_cons]
      constructor
      · rintro (h | h | h)
        · exact .inr (.inl h)
        · exact .inl h
        · exact .inr (.inr h)
      · rintro (h | h | h)
        · exact .inr (.inl h)
        · exact .inl h
        · exact .inr (.inr h)
    · simp
theorem insL_incr (p : Int) : ∀ {l : List Int}, l.Pairwise (· < ·) → p ∉ l → (insL p l).Pairwise (· < ·)
  | [], _, _ => by simp [insL]
  | a :: r, h, hp => by
    have h' := List.pairwise_cons.1 h
    simp only [List.mem_cons, not_or] at hp
    simp only [insL]; split
    · rename_i hlt
      refine List.pairwise_cons.2 ⟨fun x hx => ?_, insL_incr p h'.2 hp.2⟩
      rcases (insL_mem p r x).1 hx with rfl | hx
      · exact hlt
      · exact h'.1 x hx
    · refine List.pairwise_cons.2 ⟨fun x hx => ?_, h⟩
      rcases List.mem_cons.1 hx with rfl | hx
      · omega
      · have := h'.1 x hx; omega
theorem squadL_spec (r : Reg) (club : Int) (l : List Ent) : (l.foldl (sqStep r club) []).Pairwise (· < ·) ∧ ∀ p, p ∈ l.foldl (sqStep r club) [] ↔ (∃ x ∈ l, x.player = p) ∧ (regClub r p).2.2 = true ∧ (regClub r p).2.1 = club := by
  induction l using rev_ind with
  | h0 => simp
  | h1 l x ih =>
    obtain ⟨h1, h2⟩ := ih
    rw [List.foldl_append, List.foldl_cons, List.foldl_nil, sqStep]
    split
    · rename_i hc
      obtain ⟨c1, c2, c3⟩ := hc
      refine ⟨insL_incr _ h1 c3, fun p => ?_⟩
      rw [insL_mem, h2 p]
      constructor
      · rintro (rfl | ⟨⟨y, hy, e⟩, hp⟩)
        · exact ⟨⟨x, by simp, rfl⟩, c1, c2⟩
        · exact ⟨⟨y, by simp [hy], e⟩, hp⟩
      · rintro ⟨⟨y, hy, e⟩, hp⟩
        rcases List.mem_append.1 hy with hy | hy
        · exact .inr ⟨⟨y, hy, e⟩, hp⟩
        · have : y = x := by simpa using hy
          subst this; exact .inl e.symm
    · rename_i hc
      refine ⟨h1, fun p => ?_⟩
      rw [h2 p]
      constructor
      · rintro ⟨⟨y, hy, e⟩, hp⟩; exact ⟨⟨y, by simp [hy], e⟩, hp⟩
      · rintro ⟨⟨y, hy, e⟩, hp⟩
        refine ⟨?_, hp⟩
        rcases List.mem_append.1 hy with hy | hy
        · exact ⟨y, hy, e⟩
        · have : y = x := by simpa using hy
          subst this; subst e
          by_cases hm : y.player ∈ l.foldl (sqStep r club) []
          · exact ((h2 _).1 hm).1
          · exact absurd ⟨hp.1, hp.2, hm⟩ hc
theorem regClub_good {r : Reg} (hg : RegGood r) (p : Int) (club : Int) : (regClub r p).2.2 = true ∧ (regClub r p).2.1 = club ↔ okS club (p, ofL r.ents p) = true := by
  unfold regClub okS
  by_cases h : (ofL r.ents p).owner ≠ -1
  · rw [if_pos ⟨hg, h⟩]; simp [h]
  · rw [if_neg (fun e => h e.2)]; simp only [ne_eq, Decidable.not_not] at h; simp [h]
theorem squad_sorted {r : Reg} (hg : RegGood r) (club : Int) {L : List Int} (hp : L.Perm (((mapOf r.ents).filter (okS club)).map (·.1))) : sortI L = squadL r club := by
  obtain ⟨hk1, hk2⟩ := mapOf_keys r.ents
  obtain ⟨hs1, hs2⟩ := squadL_spec r club r.ents
  have hpm : (sortI L).Perm L := List.mergeSort_perm L _
  have hnd : (((mapOf r.ents).filter (okS club)).map (·.1)).Nodup := by
    refine List.Pairwise.map _ (fun a b h => h) ?_
    have := List.pairwise_map.1 hk1
    exact this.filter _
  have hsn : (sortI L).Nodup := (hpm.trans hp).nodup_iff.2 hnd
  have hle : (sortI L).Pairwise (fun a b => decide (a ≤ b) = true) := List.pairwise_mergeSort (fun a b c h1 h2 => by simp at *; omega) (fun a b => by simp; omega) L
  have hlt : (sortI L).Pairwise (· < ·) := by
    have h2 := hle.and hsn
    exact h2.imp fun {a b} ⟨q1, q2⟩ => by simp at q1; omega
  refine incr_ext hlt hs1 fun p => ?_
  rw [(hpm.trans hp).mem_iff]
  show _ ↔ p ∈ r.ents.foldl (sqStep r club) []
  rw [hs2 p, regClub_good hg, List.mem_map, ← hk2 p]
  constructor
  · rintro ⟨q, hq, rfl⟩
    rw [List.mem_filter] at hq
    refine ⟨List.mem_map.2 ⟨q, hq.1, rfl⟩, ?_⟩
    rw [← mapOf_mem hq.1]; exact hq.2
  · rintro ⟨hm, ho⟩
    obtain ⟨q, hq, rfl⟩ := List.mem_map.1 hm
    refine ⟨q, List.mem_filter.2 ⟨hq, ?_⟩, rfl⟩
    have := mapOf_mem hq
    rw [← this] at ho; exact ho
theorem squad_bad {r : Reg} (hg : ¬ RegGood r) (club : Int) : squadL r club = [] := by
  obtain ⟨_, hs2⟩ := squadL_spec r club r.ents
  refine List.eq_nil_iff_forall_not_mem.2 fun p hp => ?_
  have := ((hs2 p).1 hp).2.1
  rw [regClub, if_neg (fun h => hg h.1)] at this; cases this
end Go.Hw


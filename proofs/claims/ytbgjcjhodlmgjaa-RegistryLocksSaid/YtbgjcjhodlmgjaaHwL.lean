/-
  Hw, part L: a range over a map of the call's own.
-/
import Derived.Test.YtbgjcjhodlmgjaaHwK
set_option linter.unusedVariables false
namespace Go.Hw
open Go

/-- A range over a map under way: the map's entries l, those still to come (in the order in which they lie), the one that came last. -/
def RngA {κ α : Type} (ek : κ → Value) (ev : α → Value) (b r : Nat) (l rem : List (κ × α)) (cur : Option (κ × α)) : Asn :=
  ⟨fun D m => D = [b, r] ∧ ∃ (es : Array MapEntry) (clock since : Nat) (seen : Array Nat) (c0 : Nat), m b = some (.map es clock) ∧ es.toList.map (fun e => (e.key, e.val)) = l.map (fun p => (ek p.1, ev p.2)) ∧ (∀ x ∈ es.toList, x.born < clock) ∧ (es.toList.map (·.born)).Nodup ∧
      m r = some (.mapIter (some b) since seen c0) ∧ (∀ x ∈ es.toList, x.born < since) ∧ since ≤ c0 ∧ since ≤ clock ∧ (leftOf es seen).toList.map (fun e => (e.key, e.val)) = rem.map (fun p => (ek p.1, ev p.2)) ∧
      ∀ p, cur = some p → ∃ e ∈ es.toList, (e.key, e.val) = (ek p.1, ev p.2) ∧ c0 = clock ∧ ∃ s : Array Nat, seen = s.push e.born,
   fun D m m' h ⟨hd, q⟩ => ⟨hd, by rw [← h b (by simp [hd]), ← h r (by simp [hd])]; exact q⟩⟩

section
variable {κ α : Type} {ek : κ → Value} {ev : α → Value} {C : Ctx} {l : Sl} {Es : List Asn} {h : Ro} {G : Value → List Asn → Ro → Prop} {ty : TypeId} {pos : String} {aft : Array Edge} {gd : Option (Nat × Bool)} {dst : Option Tmp}

theorem OpTo_range {t k e : TypeId} {x : Operand} {b : Nat} {m : List (κ × α)} {T : Ty} {Es' : Nat → List Asn} (hT : tyOf t C.ts = some T) (hTd : T.desc = .map k e)
    (hx : evl l x = some (.map (some b))) (hR : ∀ r, Repl Es (MapA ek ev b m) (RngA ek ev b r m m none) (Es' r)) (g : ∀ r, G (.pointer (some ⟨r, 0, none⟩)) (Es' r) h) :
    OpTo C l Es h ⟨dst, .range t x, ty, pos, aft, gd⟩ G := fun a w hs hp => by
  obtain ⟨D0, hu, hb0⟩ := C.ok.und hT
  rw [hTd] at hb0
  rw [blank_map hb0] at hu
  obtain ⟨Ds, hown, hnod, hbd⟩ := hp.own
  obtain ⟨D, ⟨hD, es, clock, hb, hes, hcl, hnd⟩, hDn, hsub, _⟩ := (hR 0).own hown hnod
  have hb : w.heap[b]? = some (.map es clock) := hb
  have hrun := run_range_map (P := C.P) w t k e b es clock hu hb
  refine .inl ⟨_, _, Es' w.heap.size, h, by simp only [execOp, hs.eval hx, Sem.run_bind, hrun, Result.andThen_ok]; rfl, ?_, g _⟩
  refine hp.repl (hR w.heap.size) rfl rfl rfl (by show _ ≤ (w.heap.push _).size; simp) fun D hA hDn hDl => ?_
  obtain ⟨rfl, _⟩ := hA
  have hbl : b < w.heap.size := hDl b (by simp)
  have h1 : (w.alloc (.mapIter (some b) clock #[] clock)).heap[b]? = some (.map es clock) := by
    show (w.heap.push _)[b]? = _
    rw [heap_push_lt hbl]; exact hb
  refine ⟨[b, w.heap.size], ⟨rfl, es, clock, clock, #[], clock, h1, hes, hcl, hnd, ?_, hcl, Nat.le_refl _, Nat.le_refl _, ?_, by simp⟩, by simp; omega, ?_, ?_⟩
  · show (w.heap.push _)[w.heap.size]? = _
    simp
  · have : leftOf es #[] = es := by simp [leftOf]
    rw [this]; exact hes
  · intro q hq
    simp only [List.mem_cons, List.not_mem_nil, or_false] at hq
    rcases hq with rfl | rfl
    · exact ⟨.inl (by simp), by show _ < (w.heap.push _).size; simp; omega⟩
    · exact ⟨.inr (Nat.le_refl _), by show _ < (w.heap.push _).size; simp⟩
  · intro i hi _
    exact heap_push_lt hi

theorem left_pick {es : Array MapEntry} {seen : Array Nat} {L1 L2 : List MapEntry} {e : MapEntry} (hnd : (es.toList.map (·.born)).Nodup) (hL : (leftOf es seen).toList = L1 ++ e :: L2) :
    (leftOf es (seen.push e.born)).toList = L1 ++ L2 := by
  have e1 : (leftOf es (seen.push e.born)).toList = (leftOf es seen).toList.filter fun x => !(x.born == e.born) := by
    simp only [leftOf, Array.toList_filter, List.filter_filter]
    congr 1
    funext x
    rw [contains_push]
    cases seen.contains x.born <;> cases hx : (x.born == e.born) <;> simp_all
  have hs : ((L1 ++ e :: L2).map (·.born)).Nodup := by
    rw [← hL]
    simp only [leftOf, Array.toList_filter]
    exact (List.Sublist.map _ List.filter_sublist).nodup hnd
  rw [e1, hL, List.filter_append, List.filter_cons]
  simp only [List.map_append, List.map_cons, List.nodup_append, List.nodup_cons] at hs
  have k1 : L1.filter (fun x => !(x.born == e.born)) = L1 := List.filter_eq_self.2 fun x hx => by
    have := hs.2.2 x.born (List.mem_map.2 ⟨x, hx, rfl⟩) e.born (by simp)
    simpa using this
  have k2 : L2.filter (fun x => !(x.born == e.born)) = L2 := List.filter_eq_self.2 fun x hx => by
    have : x.born ≠ e.born := fun e' => hs.2.1.1 (List.mem_map.2 ⟨x, hx, e'⟩)
    simpa using this
  rw [k1, k2]; simp

theorem OpTo_next {x : Operand} {b r : Nat} {m rem : List (κ × α)} {cur : Option (κ × α)} {Es' : List (κ × α) → Option (κ × α) → List Asn}
    (hx : evl l x = some (.pointer (some ⟨r, 0, none⟩))) (hR : ∀ rem' cur', Repl Es (RngA ek ev b r m rem cur) (RngA ek ev b r m rem' cur') (Es' rem' cur'))
    (g0 : rem = [] → G (.tuple #[.bool false]) Es h) (g1 : ∀ p r1 r2, rem = r1 ++ p :: r2 → G (.tuple #[.bool true, ek p.1, ev p.2]) (Es' (r1 ++ r2) (some p)) h) :
    OpTo C l Es h ⟨dst, .next x false, ty, pos, aft, gd⟩ G := fun a w hs hp => by
  obtain ⟨Ds, hown, hnod, hbd⟩ := hp.own
  obtain ⟨D, ⟨hD, es, clock, since, seen, c0, hb, hes, hcl, hnd, hr, hsi, hsc, hsk, hrem, hcur⟩, hDn, hsub, _⟩ := (hR rem cur).own hown hnod
  have hb : w.heap[b]? = some (.map es clock) := hb
  have hr : w.heap[r]? = some (.mapIter (some b) since seen c0) := hr
  rcases run_next_at (P := C.P) w ty r b since c0 seen es clock hr hb hsi hsc with ⟨h0, hrun⟩ | ⟨e, he, w1, hal, hrun⟩
  · have hnil : rem = [] := by
      have : (leftOf es seen) = #[] := Array.eq_empty_of_size_eq_zero h0
      rw [this] at hrem
      cases rem with
      | nil => rfl
      | cons p q => cases hrem
    exact .inl ⟨_, w, Es, h, by simp only [execOp, hs.eval hx, Sem.run_bind, hrun, Result.andThen_ok]; rfl, hp, g0 hnil⟩
  · obtain ⟨L1, L2, hL⟩ := List.append_of_mem he
    have hem := (mem_left he).1
    rw [hL, List.map_append, List.map_cons] at hrem
    obtain ⟨r1, r2', hr12, hm1, hm2⟩ := List.map_eq_append_iff.1 hrem.symm
    obtain ⟨p, r2, rfl, hp1, hp2⟩ := List.map_eq_cons_iff.1 hm2
    subst hr12
    have hpk : ek p.1 = e.key ∧ ev p.2 = e.val := by injection hp1 with q1 q2; exact ⟨q1, q2⟩
    have hr1 : w1.heap[r]? = some (.mapIter (some b) since seen c0) := by rcases hal with rfl | rfl <;> exact hr
    have hne : r ≠ b := fun e' => by rw [e', hb] at hr; cases hr
    have hp' : Hp C.w0 C.X0 C.h0 Es h w1 := by rcases hal with rfl | rfl; exact hp; exact hp.drew
    have hw1 : w1.heap = w.heap := by rcases hal with rfl | rfl <;> rfl
    refine .inl ⟨.tuple #[.bool true, ek p.1, ev p.2], _, Es' (r1 ++ r2) (some p), h, by simp only [execOp, hs.eval hx, Sem.run_bind, hrun, Result.andThen_ok, hpk.1, hpk.2]; rfl, ?_, g1 p r1 r2 rfl⟩
    refine hp'.repl (hR _ _) rfl rfl rfl (by simp [ChangeMaps.setBlock]) fun D hA hDn hDl => ?_
    obtain ⟨rfl, _⟩ := hA
    have hb1 : (ChangeMaps.setBlock w1 r (.mapIter (some b) since (seen.push e.born) clock)).heap[b]? = some (.map es clock) := by
      have q := (MapKept.heap_set (o' := .mapIter (some b) since (seen.push e.born) clock) hr1).2 b (Ne.symm hne)
      exact q.trans (by rw [hw1]; exact hb)
    refine ⟨[b, r], ⟨rfl, es, clock, since, seen.push e.born, clock, hb1, hes, hcl, hnd, (MapKept.heap_set hr1).1, hsi, hsk, hsk, ?_, ?_⟩, by simpa using Ne.symm hne, fun q hq => ⟨.inl hq, by have := hDl q hq; simpa [ChangeMaps.setBlock] using this⟩, fun i hi hni => ?_⟩
    · rw [left_pick hnd hL, List.map_append, List.map_append, hm1, hp2]
    · rintro q hq
      injection hq with hq
      subst hq
      exact ⟨e, hem, by rw [hpk.1, hpk.2], rfl, seen, rfl⟩
    · exact (MapKept.heap_set hr1).2 i (fun e' => hni (by simp [e']))

theorem OV_entry {x : Operand} {b r : Nat} {m rem : List (κ × α)} {p : κ × α} (hx : evl l x = some (.pointer (some ⟨r, 0, none⟩))) :
    OV C l [RngA ek ev b r m rem (some p)] h ⟨dst, .entry x, ty, pos, aft, gd⟩ (.tuple #[ek p.1, ev p.2]) :=
  ⟨rfl, fun a w hs hn hm => by
    obtain ⟨D, hD, es, clock, since, seen, c0, hb, hes, hcl, hnd, hr, hsi, hsc, hsk, hrem, hcur⟩ := hn _ (.head _)
    obtain ⟨e, he, hev, rfl, s, rfl⟩ := hcur p rfl
    injection hev with q1 q2
    have := run_entry_at (P := C.P) w r b since s es c0 e hr hb he hnd
    simp only [execOp, hs.eval hx, Sem.run_bind, this, Result.andThen_ok, q1, q2]
    rfl⟩

/-- The range is over: the map is the call's own again. -/
theorem GO_rngEnd {ds : List Deferred} {K : List Item} {Es' : List Asn} {b r : Nat} {m rem : List (κ × α)} {cur : Option (κ × α)} (hR : Repl Es (RngA ek ev b r m rem cur) (MapA ek ev b m) Es') (g : GO C ds l Es' h K) : GO C ds l Es h K :=
  fun a w s => g a w ⟨s.size, s.defers, s.slots, s.hp.repl hR rfl rfl rfl (Nat.le_refl _) fun D hA hDn hDl => by
    obtain ⟨rfl, es, clock, since, seen, c0, hb, hes, hcl, hnd, _⟩ := hA
    exact ⟨[b], ⟨rfl, es, clock, hb, hes, hcl, hnd⟩, by simp, fun q hq => ⟨.inl (by simp at hq; simp [hq]), hDl q (by simp at hq; simp [hq])⟩, fun _ _ _ => rfl⟩⟩
end
end Go.Hw

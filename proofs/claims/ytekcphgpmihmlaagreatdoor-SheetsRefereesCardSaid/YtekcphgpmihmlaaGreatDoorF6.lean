import Derived.Test.YtekcphgpmihmlaaGreatDoorFA
set_option linter.unusedSimpArgs false
set_option linter.unusedVariables false
namespace Go.Hw
open Go Go.Lib

theorem SameSh.trans {a b c : FSheet} (h : SameSh a b) (k : SameSh b c) : SameSh a c := Eq.trans h k
/-! ### The referees exchanged -/
def swapF (f : Fct) : Fct := if f.kind = 3 ∧ (f.sh.ref = 0 ∨ f.sh.ref = 1) then { f with sh := { f.sh with ref := 1 - f.sh.ref } } else f
theorem swapF_yes {f : Fct} (h : f.kind = 3 ∧ (f.sh.ref = 0 ∨ f.sh.ref = 1)) : swapF f = { f with sh := { f.sh with ref := 1 - f.sh.ref } } := if_pos h
theorem swapF_no {f : Fct} (h : ¬ (f.kind = 3 ∧ (f.sh.ref = 0 ∨ f.sh.ref = 1))) : swapF f = f := if_neg h
theorem swapF_swap (f : Fct) : swapF (swapF f) = f := by
  by_cases h : f.kind = 3 ∧ (f.sh.ref = 0 ∨ f.sh.ref = 1)
  · have h2 : (swapF f).kind = 3 ∧ ((swapF f).sh.ref = 0 ∨ (swapF f).sh.ref = 1) := by
      rw [swapF_yes h]
      refine ⟨h.1, ?_⟩
      show (1 : Int) - f.sh.ref = 0 ∨ (1 : Int) - f.sh.ref = 1
      omega
    rw [swapF_yes h2, swapF_yes h]
    obtain ⟨_, _, _, _, _, _, _, _, _, ⟨_, _, _, _, _, _, _, _, _, _⟩, _, _, _, _, _, _, _, _, _, _⟩ := f
    simp only [Fct.mk.injEq, FSheet.mk.injEq, true_and, and_true]
    omega
  · rw [swapF_no h, swapF_no h]
theorem swapF_kind (f : Fct) : (swapF f).kind = f.kind := by unfold swapF; split <;> rfl
theorem swapF_day (f : Fct) : (swapF f).day = f.day := by unfold swapF; split <;> rfl
theorem swapF_known (f : Fct) : (swapF f).known = f.known := by unfold swapF; split <;> rfl
theorem swapF_g (f : Fct) : (swapF f).sh.g = f.sh.g := by unfold swapF; split <;> rfl
theorem swapF_void (f : Fct) : (swapF f).void = f.void := by unfold swapF; split <;> rfl
theorem swapF_same (f : Fct) : SameSh (swapF f).sh f.sh := by unfold swapF; split <;> rfl
theorem swapF_ok1 {f : Fct} (h : FctOk f) : FctOk (swapF f) := by
  by_cases hc : f.kind = 3 ∧ (f.sh.ref = 0 ∨ f.sh.ref = 1)
  · rw [swapF_yes hc]
    obtain ⟨h1, h2, h3, h4⟩ := h
    have n1 : ¬ ((3 : Int) = 1) := by decide
    have n2 : ¬ ((3 : Int) = 2) := by decide
    refine ⟨h1, h2, ?_, ?_⟩
    · unfold ContOk at h3 ⊢
      simp only [hc.1, n1, n2, if_false, if_true] at h3 ⊢
      obtain ⟨q1, q2, q3⟩ := h3
      exact ⟨q1, ⟨by show (0 : Int) ≤ 1 - f.sh.ref; omega, by show (1 : Int) - f.sh.ref < 2; omega⟩, q3⟩
    · unfold onlyF at h4 ⊢
      simp only [hc.1, n1, n2, if_false, if_true] at h4 ⊢
      rw [← h4]
  · rw [swapF_no hc]; exact h
theorem swapF_ok {f : Fct} : FctOk (swapF f) ↔ FctOk f := ⟨fun h => by have := swapF_ok1 h; rwa [swapF_swap] at this, swapF_ok1⟩
theorem swapF_ref {f : Fct} (ho : FctOk f) (hk : f.kind = 3) : (swapF f).sh.ref = 1 - f.sh.ref := by rw [swapF_yes ⟨hk, ref_of ho hk⟩]
theorem OfGR_swap {g : FGame} {r : Int} {f : Fct} : OfGR g r (swapF f) ↔ OfGR g (1 - r) f := by
  unfold OfGR
  rw [swapF_kind, swapF_ok, swapF_g]
  constructor
  · rintro ⟨h1, h2, h3, h4⟩
    rw [swapF_ref h2 h1] at h4
    exact ⟨h1, h2, h3, by omega⟩
  · rintro ⟨h1, h2, h3, h4⟩
    refine ⟨h1, h2, h3, ?_⟩
    rw [swapF_ref h2 h1]; omega

theorem cmpB_common : ∀ (c x y : List UInt8), cmpB (c ++ x) (c ++ y) = cmpB x y
  | [], _, _ => rfl
  | a :: c, x, y => by
    rw [List.cons_append, List.cons_append, cmpB, if_neg (by omega), if_neg (by omega)]
    exact cmpB_common c x y
def preB (d k : Int) (g : FGame) (r : Int) : List UInt8 :=
  100 :: (bText "day".toUTF8.data.toList ++ (bInt d ++ (bText "kind".toUTF8.data.toList ++ (bInt 3 ++ (bText "known".toUTF8.data.toList ++ (bInt k ++ (bText "what".toUTF8.data.toList ++ (108 :: (bNums (gameL g) ++ bInt r)))))))))
def restB (f : Fct) : List UInt8 := ints [f.sh.hg, f.sh.ag, f.sh.hp, f.sh.ap] ++ (bNums f.sh.hs ++ (bNums f.sh.asn ++ (bCards f.sh.hc ++ bCards f.sh.ac))) ++ [101] ++ [101]
theorem encF_split {f : Fct} (hk : f.kind = 3) : encF f = preB f.day f.known f.sh.g f.sh.ref ++ restB f := by
  have n1 : ¬ ((3 : Int) = 1) := by decide
  have n2 : ¬ ((3 : Int) = 2) := by decide
  unfold encF preB restB contentB
  simp only [hk, n1, n2, if_false, if_true, ints, List.flatMap_cons, List.append_assoc, List.cons_append]
theorem cmpF_sheet {a b : Fct} (ha : a.kind = 3) (hb : b.kind = 3) (hg : a.sh.g = b.sh.g) (hr : a.sh.ref = b.sh.ref) : cmpF a b = if cmpI a.known b.known ≠ 0 then cmpI a.known b.known else if cmpI a.day b.day ≠ 0 then cmpI a.day b.day else cmpB (restB a) (restB b) := by
  unfold cmpF
  by_cases h1 : cmpI a.known b.known ≠ 0
  · rw [if_pos h1, if_pos h1]
  · rw [if_neg h1, if_neg h1]
    by_cases h2 : cmpI a.day b.day ≠ 0
    · rw [if_pos h2, if_pos h2]
    · rw [if_neg h2, if_neg h2]
      have e1 : a.known = b.known := cmpI_zero.1 (Classical.not_not.1 h1)
      have e2 : a.day = b.day := cmpI_zero.1 (Classical.not_not.1 h2)
      rw [if_neg (by rw [ha, hb]; exact fun h => h (cmpI_zero.2 rfl)), encF_split ha, encF_split hb, e1, e2, hg, hr]
      exact cmpB_common _ _ _
theorem restB_swap (f : Fct) : restB (swapF f) = restB f := by unfold swapF; split <;> rfl
theorem cmpF_swapF {g : FGame} {r : Int} {a b : Fct} (ha : OfGR g r a) (hb : OfGR g r b) : cmpF (swapF a) (swapF b) = cmpF a b := by
  rw [cmpF_sheet ha.1 hb.1 (ha.2.2.1.trans hb.2.2.1.symm) (ha.2.2.2.trans hb.2.2.2.symm)]
  rw [cmpF_sheet (by rw [swapF_kind]; exact ha.1) (by rw [swapF_kind]; exact hb.1) (by rw [swapF_g, swapF_g]; exact ha.2.2.1.trans hb.2.2.1.symm) (by rw [swapF_ref ha.2.1 ha.1, swapF_ref hb.2.1 hb.1, ha.2.2.2, hb.2.2.2])]
  rw [swapF_known, swapF_known, swapF_day, swapF_day, restB_swap, restB_swap]
theorem foldl_swap {g : FGame} {r : Int} : ∀ (l : List Fct) (o : Option Fct), (∀ x ∈ l, OfGR g r x) → (∀ x, o = some x → OfGR g r x) → (l.map swapF).foldl takeF (o.map swapF) = (l.foldl takeF o).map swapF
  | [], _, _, _ => rfl
  | x :: l, o, hl, ho => by
    have hx := hl x List.mem_cons_self
    rw [List.map_cons, List.foldl_cons, List.foldl_cons]
    have e : takeF (o.map swapF) (swapF x) = (takeF o x).map swapF := by
      cases o with
      | none => rfl
      | some p =>
        unfold takeF
        simp only [Option.map_some, cmpF_swapF (ho p rfl) hx]
        split <;> rfl
    rw [e]
    refine foldl_swap l _ (fun y hy => hl y (List.mem_cons_of_mem _ hy)) fun y hy => ?_
    cases o with
    | none => injection hy with hy; rw [← hy]; exact hx
    | some p =>
      unfold takeF at hy
      simp only at hy
      split at hy
      · injection hy with hy; rw [← hy]; exact hx
      · injection hy with hy; rw [← hy]; exact ho p rfl
open Classical in
theorem best_swap (l : List Fct) (g : FGame) (r : Int) : bestF (l.map swapF) g r = (bestF l g (1 - r)).map swapF := by
  unfold bestF
  have e : selF (l.map swapF) g r = (selF l g (1 - r)).map swapF := by
    unfold selF
    rw [List.filter_map]
    congr 1
    refine List.filter_congr fun x _ => ?_
    rw [Function.comp_apply, decide_eq_decide]
    exact OfGR_swap
  rw [e]
  exact foldl_swap (g := g) (r := 1 - r) _ none (fun x hx => (selF_mem.1 hx).2) (fun x hx => by cases hx)
theorem score_swap (l : List Fct) (g : FGame) : (scoreF (l.map swapF) g).kind = (scoreF l g).kind ∧ (scoreF (l.map swapF) g).day = (scoreF l g).day ∧ SameSh (scoreF l g).sh (scoreF (l.map swapF) g).sh := by
  unfold scoreF
  rw [best_swap, best_swap, show (1 : Int) - 0 = 1 by decide, show (1 : Int) - 1 = 0 by decide]
  cases bestF l g 0 with
  | none => cases bestF l g 1 with
    | none => exact ⟨rfl, rfl, SameSh.refl _⟩
    | some b => exact ⟨rfl, swapF_day b, (swapF_same b).symm⟩
  | some a => cases bestF l g 1 with
    | none => exact ⟨rfl, swapF_day a, (swapF_same a).symm⟩
    | some b =>
      simp only [Option.map_some, scoreO]
      have e : SameSh (swapF b).sh (swapF a).sh ↔ SameSh a.sh b.sh := by
        constructor
        · intro h; exact ((swapF_same b).symm.trans (h.trans (swapF_same a))).symm
        · intro h; exact (swapF_same b).trans (h.symm.trans (swapF_same a).symm)
      by_cases hs : SameSh a.sh b.sh
      · rw [if_pos hs, if_pos (e.2 hs)]
        refine ⟨rfl, ?_, hs.trans (swapF_same b).symm⟩
        show max (swapF b).day (swapF a).day = max a.day b.day
        rw [swapF_day, swapF_day, Int.max_comm]
      · rw [if_neg hs, if_neg (fun h => hs (e.1 h))]
        refine ⟨rfl, ?_, SameSh.refl _⟩
        show max (swapF b).day (swapF a).day = max a.day b.day
        rw [swapF_day, swapF_day, Int.max_comm]
end Go.Hw

import Derived.Test.YtajmniiiahhfaaaGreatDoorHB
import Derived.Shelf.SlSortCmp.NoneTotal
set_option linter.unusedSimpArgs false
/-
  Hw, part Us: the library's slices.SortFunc of a slice of structs that the call owns, out of the shelf's contract; the order is a function that may lay blocks of its own.
-/
set_option linter.unusedVariables false
namespace Go.Hw
open Go Go.Sort Go.Proofs
/-- What a call that owns nothing leaves of the world: all that was there, further draws, further blocks. -/
theorem Hp.grown {W w' : World} {h0 h : Ro} {Es : List Asn} (H : Hp W [] h0 Es h w') : ∃ q os', w' = grow (W.drewN q) os' := by
  refine ⟨w'.drawn - W.drawn, w'.heap.extract W.heap.size w'.heap.size, ?_⟩
  have h1 := H.os; have h2 := H.tape; have h3 := H.output; have h4 := H.size; have h5 := H.dr
  have h6 : ∀ i, i < W.heap.size → w'.heap[i]? = W.heap[i]? := fun i hi => H.old i hi (by simp)
  clear H
  obtain ⟨hp', tp', dr', os', out'⟩ := w'
  obtain ⟨hp, tp, dr, os, out⟩ := W
  simp only at h1 h2 h3 h4 h5 h6
  subst h1; subst h2; subst h3
  simp only [grow, World.drewN, World.mk.injEq, and_true, true_and]
  refine ⟨?_, by omega⟩
  apply Array.ext_getElem?
  intro i
  by_cases hi : i < hp.size
  · rw [Array.getElem?_append_left hi]; exact h6 i hi
  · rw [Array.getElem?_append_right (by omega), Array.getElem?_extract]
    by_cases hj : i < hp'.size
    · rw [if_pos (by omega)]; congr 1; omega
    · rw [if_neg (by omega), Array.getElem?_eq_none (by omega)]
theorem flatK_eq {α : Type} [Inhabited α] {enc : α → List Value} {k : Nat} (hk : ∀ x, (enc x).length = k) (xs : List α) : flatK enc k xs.toArray = (xs.flatMap enc).toArray := by
  have hl := flatMap_len hk xs
  refine ext_get! (by rw [size_flatK]; simp [hl]) fun t ht => ?_
  rw [size_flatK] at ht
  rw [get_flatK enc k _ t ht]
  have hts : t < xs.length * k := by simpa using ht
  have h1 : t < (xs.flatMap enc).length := by rw [hl]; exact hts
  obtain ⟨x, hx1, hx2⟩ := flatMap_get hk xs t _ (List.getElem?_eq_getElem h1)
  rw [getElem!_pos (xs.flatMap enc).toArray t (by simpa using h1)]
  simp only [List.getElem_toArray]
  have e1 : xs.toArray[t / k]! = x := by
    rw [getElem!_def]; simp [hx1]
  rw [e1, getElem!_def, hx2]
end Go.Hw

import Derived.Test.YtphlhpbmkejbaaaGreatDoorHB
import Derived.Shelf.SlSortCmp.NoneTotal
set_option linter.unusedSimpArgs false
set_option linter.unusedVariables false
namespace Go.Hw
open Go Go.Sort Go.Proofs
theorem Hp.grown {W w' : World} {h0 h : Ro} {Es : List Asn} (H : Hp W [] h0 Es h w') : ∃ q os',w' = grow (W.drewN q) os':=by
  refine ⟨w'.drawn - W.drawn,w'.heap.extract W.heap.size w'.heap.size,?_⟩
  have h1:=H.os;have h2:=H.tape;have h3:=H.output;have h4:=H.size;have h5:=H.dr
  have h6 : ∀ i,i < W.heap.size → w'.heap[i]? = W.heap[i]?:=fun i hi => H.old i hi (by simp)
  clear H
  obtain ⟨hp',tp',dr',os',out'⟩:=w'
  obtain ⟨hp,tp,dr,os,out⟩:=W
  simp only at h1 h2 h3 h4 h5 h6
  subst h1;subst h2;subst h3
  simp only [grow,World.drewN,World.mk.injEq,and_true,true_and]
  refine ⟨?_,by omega⟩
  apply Array.ext_getElem?
  intro i
  by_cases hi : i < hp.size
  · rw [Array.getElem?_append_left hi];exact h6 i hi
  · rw [Array.getElem?_append_right (by omega),Array.getElem?_extract]
    by_cases hj : i < hp'.size
    · rw [if_pos (by omega)];congr 1;omega
    · rw [if_neg (by omega),Array.getElem?_eq_none (by omega)]
end Go.Hw

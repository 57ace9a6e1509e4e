import Derived.Test.YtajmniiiahhfaaaGreatDoorFB
/-
  Ledgers, plain: facts that arrive one by one.
-/
set_option linter.unusedVariables false
set_option linter.unusedSimpArgs false
namespace Go.Hw
open Go Go.Lib
theorem canonL_ok {l : List Fct} (h32 : In32 l) (hk : ∀ f ∈ l, FctOk f) (hn : l.length ≤ 65536) : LedOk (canonL l) ∧ ∀ x, x ∈ canonL l ↔ x ∈ l := by
  obtain ⟨q1, q2⟩ := canonL_spec l h32
  have := canonL_len h32
  refine ⟨⟨by omega, fun f hf => ((q2 f).1 hf).2, q1⟩, fun x => ?_⟩
  rw [q2]
  exact ⟨fun h => h.1, fun h => ⟨h, hk x h⟩⟩
/-- Two lists of valid facts with the same members have one canonical list. -/
theorem canonL_same {a b : List Fct} (ha : In32 a) (hb : In32 b) (ka : ∀ f ∈ a, FctOk f) (kb : ∀ f ∈ b, FctOk f) (h : ∀ x, x ∈ a ↔ x ∈ b) : canonL a = canonL b := by
  obtain ⟨q1, q2⟩ := canonL_spec a ha
  obtain ⟨r1, r2⟩ := canonL_spec b hb
  refine sortF_ext q1 r1 fun x => ?_
  rw [q2, r2, h]
theorem union_canon {a b : List Fct} (ha : In32 a) (hb : In32 b) (ka : ∀ f ∈ a, FctOk f) (kb : ∀ f ∈ b, FctOk f) (na : a.length ≤ 65536) (nb : b.length ≤ 65536) : unionL (canonL a) (canonL b) = canonL (a ++ b) := by
  obtain ⟨q1, q2⟩ := canonL_ok ha ka na
  obtain ⟨r1, r2⟩ := canonL_ok hb kb nb
  unfold unionL
  refine canonL_same (fun f hf => ?_) (fun f hf => ?_) (fun f hf => ?_) (fun f hf => ?_) fun x => ?_
  · rcases List.mem_append.1 hf with h | h
    · exact ha f ((q2 f).1 h)
    · exact hb f ((r2 f).1 h)
  · rcases List.mem_append.1 hf with h | h
    · exact ha f h
    · exact hb f h
  · rcases List.mem_append.1 hf with h | h
    · exact q1.2.1 f h
    · exact r1.2.1 f h
  · rcases List.mem_append.1 hf with h | h
    · exact ka f h
    · exact kb f h
  · rw [List.mem_append, List.mem_append, q2, r2]
theorem union_snoc {a : List Fct} {f : Fct} (ha : In32 a) (hf : f.void.length = 32) (ka : ∀ f ∈ a, FctOk f) (kf : FctOk f) (na : a.length ≤ 65536) : unionL (canonL a) [f] = canonL (a ++ [f]) := by
  have h2 : In32 [f] := fun y hy => by rw [List.mem_singleton] at hy; subst hy; exact hf
  have k2 : ∀ y ∈ [f], FctOk y := fun y hy => by rw [List.mem_singleton] at hy; subst hy; exact kf
  have := union_canon ha h2 ka k2 na (by simp)
  rw [canonL_self h2 k2 (List.pairwise_singleton _ _)] at this
  exact this
end Go.Hw

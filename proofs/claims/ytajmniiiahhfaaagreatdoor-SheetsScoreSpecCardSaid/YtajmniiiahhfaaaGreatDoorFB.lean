import Derived.Test.YtajmniiiahhfaaaGreatDoorFA
/-
  Ledgers, plain: lists of facts in order, brought together, searched, made compact.
-/
set_option linter.unusedVariables false
set_option linter.unusedSimpArgs false
namespace Go.Hw
open Go Go.Lib
section
variable {α : Type} (p : α → Fct)
variable {p}
/-! ### Compact -/
variable (p)
variable {p}
/-! ### Search -/
end
open Classical in
/-- What Check answers. -/
noncomputable def ledE (l : List Fct) : Int := if 65536 < l.length then 2 else if ∃ f ∈ l, ¬ FctOk f then 70 else if SortF l then 0 else 80
end Go.Hw
/-
  Ledgers, plain: what is known, what is in force, what is missing; the laws.
-/
set_option linter.unusedVariables false
set_option linter.unusedSimpArgs false
namespace Go.Hw
open Go Go.Lib
open Classical in
noncomputable def knownL (l : List Fct) (k : Int) : List Fct := l.filter fun f => decide (f.known ≤ k)
/-- A fact is voided by one that was recorded by a day. -/
def VoidBy (I : Fct → List UInt8) (l : List Fct) (known : Int) (f : Fct) : Prop := ∃ v ∈ l, v.kind = 8 ∧ v.known ≤ known ∧ v.void = I f
def InF (I : Fct → List UInt8) (l : List Fct) (day known : Int) (f : Fct) : Prop := f.known ≤ known ∧ f.kind ≠ 8 ∧ f.day ≤ day ∧ ¬ VoidBy I l known f
open Classical in
noncomputable def viewL (I : Fct → List UInt8) (l : List Fct) (day known : Int) : List Fct := l.filter fun f => decide (InF I l day known f)
open Classical in
noncomputable def missL (a b : List Fct) : List Fct := b.filter fun f => decide (f ∉ a)
theorem sortF_filter {l : List Fct} (h : SortF l) (q : Fct → Bool) : SortF (l.filter q) := List.Pairwise.filter q h
theorem sortF_nodup {l : List Fct} (h : SortF l) : l.Nodup := by
  unfold SortF at h
  refine h.imp fun {a b} hab e => ?_
  subst e; exact LtF.irrefl _ hab
theorem nodup_len {α : Type} : ∀ {a b : List α}, a.Nodup → (∀ x ∈ a, x ∈ b) → a.length ≤ b.length
  | [], b, _, _ => Nat.zero_le _
  | x :: a, b, hn, hs => by
    rw [List.nodup_cons] at hn
    obtain ⟨p, q, rfl⟩ := List.append_of_mem (hs x List.mem_cons_self)
    have := nodup_len (a := a) (b := p ++ q) hn.2 fun y hy => by
      have h1 := hs y (List.mem_cons_of_mem _ hy)
      rw [List.mem_append, List.mem_cons] at h1
      rw [List.mem_append]
      rcases h1 with h | h | h
      · exact .inl h
      · subst h; exact absurd hy hn.1
      · exact .inr h
    simp only [List.length_append, List.length_cons] at this ⊢
    omega
def In32 (l : List Fct) : Prop := ∀ f ∈ l, f.void.length = 32
theorem canonL_len {l : List Fct} (h32 : In32 l) : (canonL l).length ≤ l.length := by
  obtain ⟨c1, c2⟩ := canonL_spec l h32
  exact nodup_len (sortF_nodup c1) fun x hx => ((c2 x).1 hx).1
end Go.Hw
/-
  Ledgers, plain: what the law's own example answers.
-/
set_option linter.unusedVariables false
set_option linter.unusedSimpArgs false
namespace Go.Hw
open Go Go.Lib
end Go.Hw

import Derived.Test.YtphlhpbmkejbaaaGreatDoorFA
set_option linter.unusedVariables false
set_option linter.unusedSimpArgs false
namespace Go.Hw
open Go Go.Lib
section
variable {α : Type} (p : α → Fct)
variable {p}
variable (p)
variable {p}
end
open Classical in
noncomputable def ledE (l : List Fct) : Int:=if 65536 < l.length then 2 else if ∃ f ∈ l,¬ FctOk f then 70 else if SortF l then 0 else 80
end Go.Hw
set_option linter.unusedVariables false
set_option linter.unusedSimpArgs false
namespace Go.Hw
open Go Go.Lib
theorem nodup_len {α : Type} : ∀ {a b : List α},a.Nodup → (∀ x ∈ a,x ∈ b) → a.length ≤ b.length
  | [],b,_,_ => Nat.zero_le _
  | x :: a,b,hn,hs => by
    rw [List.nodup_cons] at hn
    obtain ⟨p,q,rfl⟩:=List.append_of_mem (hs x List.mem_cons_self)
    have:=nodup_len (a:=a) (b:=p ++ q) hn.2 fun y hy => by
      have h1:=hs y (List.mem_cons_of_mem _ hy)
      rw [List.mem_append,List.mem_cons] at h1
      rw [List.mem_append]
      rcases h1 with h|h|h
      · exact .inl h
      · subst h;exact absurd hy hn.1
      · exact .inr h
    simp only [List.length_append,List.length_cons] at this ⊢
    omega
def In32 (l : List Fct) : Prop:=∀ f ∈ l,f.void.length = 32
end Go.Hw
set_option linter.unusedVariables false
set_option linter.unusedSimpArgs false
namespace Go.Hw
open Go Go.Lib
end Go.Hw

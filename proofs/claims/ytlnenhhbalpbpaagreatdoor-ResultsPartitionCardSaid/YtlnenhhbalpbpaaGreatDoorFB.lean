import Derived.Test.YtlnenhhbalpbpaaGreatDoorFA
set_option linter.unusedVariables false
set_option linter.unusedSimpArgs false
namespace Go.Hw
open Go Go.Lib
section
variable {α : Type} (p : α → Fct)
variable {p}
variable (p)
def keepA : α → List α → List α
  | _,[] => []
  | x,y :: r => if cmpF (p y) (p x) = 0 then keepA y r else y :: keepA y r
def compactA : List α → List α
  | [] => []
  | x :: r => x :: keepA p x r
variable {p}
theorem keepA_snoc (y : α) : ∀ (r : List α) (x : α),keepA p x (r ++ [y]) = keepA p x r ++ (if cmpF (p y) (p ((x :: r).getLast (by simp))) = 0 then [] else [y])
  | [],x => rfl
  | z :: r,x => by
    have ih:=keepA_snoc y r z
    rw [List.cons_append,keepA,keepA,ih]
    have e : (x :: z :: r).getLast (by simp) = (z :: r).getLast (by simp):=List.getLast_cons (by simp)
    rw [e]
    split <;> rfl
theorem compactA_snoc {l : List α} (hl : l ≠ []) (y : α) : compactA p (l ++ [y]) = compactA p l ++ (if cmpF (p y) (p (l.getLast hl)) = 0 then [] else [y]):=by
  cases l with
  | nil => exact absurd rfl hl
  | cons x r => rw [List.cons_append,compactA,compactA,keepA_snoc];rfl
theorem keepA_len : ∀ (r : List α) (x : α),(keepA p x r).length ≤ r.length
  | [],x => Nat.le_refl _
  | y :: r,x => by
    have:=keepA_len r y
    unfold keepA
    split <;> simp <;> omega
theorem compactA_len (l : List α) : (compactA p l).length ≤ l.length:=by
  cases l with
  | nil => exact Nat.le_refl _
  | cons x r => have:=keepA_len (p:=p) r x;simp [compactA];omega
theorem keepA_sub : ∀ (r : List α) (x : α),(keepA p x r).Sublist r
  | [],x => .slnil
  | y :: r,x => by
    unfold keepA
    split
    · exact (keepA_sub r y).cons _
    · exact (keepA_sub r y).cons_cons _
theorem compactA_sub (l : List α) : (compactA p l).Sublist l:=by
  cases l with
  | nil => exact .slnil
  | cons x r => exact (keepA_sub r x).cons_cons _
def LeSorted (l : List Fct) : Prop:=l.Pairwise fun a b => ¬ LtF b a
theorem keepA_mem (f : Fct) : ∀ (r : List α) (x : α),(∀ z ∈ x :: r,FctIn (p z)) → (f ∈ (x :: keepA p x r).map p ↔ f ∈ (x :: r).map p)
  | [],x,_ => Iff.rfl
  | y :: r,x,h => by
    have ih:=keepA_mem f r y fun z hz => h z (List.mem_cons_of_mem _ hz)
    have hx:=h x List.mem_cons_self
    have hy:=h y (by simp)
    unfold keepA
    split
    · rename_i c
      have e:=(cmpF_zero hy.1 hx.1 (by rw [hx.2,hy.2])).1 c
      simp only [List.map_cons,List.mem_cons] at ih ⊢
      rw [← ih,e];grind
    · simp only [List.map_cons,List.mem_cons] at ih ⊢
      rw [← ih]
theorem keepA_sorted : ∀ (r : List α) (x : α),(∀ z ∈ x :: r,FctIn (p z)) → LeSorted ((x :: r).map p) → SortF ((x :: keepA p x r).map p)
  | [],x,_,_ => by simp [SortF,keepA]
  | y :: r,x,h,hs => by
    have hx:=h x List.mem_cons_self
    have hy:=h y (by simp)
    have h2:=fun z hz => h z (List.mem_cons_of_mem _ hz)
    unfold LeSorted at hs
    simp only [List.map_cons,List.pairwise_cons] at hs
    have ih:=keepA_sorted r y h2 (by unfold LeSorted;simp only [List.map_cons,List.pairwise_cons];exact hs.2)
    unfold keepA
    split
    · rename_i c
      have e:=(cmpF_zero hy.1 hx.1 (by rw [hx.2,hy.2])).1 c
      simp only [List.map_cons] at ih ⊢
      rw [← e];exact ih
    · rename_i c
      have hlt : LtF (p x) (p y):=by
        rcases LtF.tri hx.1 hy.1 (by rw [hx.2,hy.2]) with q|q|q
        · exact q
        · exact absurd ((cmpF_zero hy.1 hx.1 (by rw [hx.2,hy.2])).2 q.symm) c
        · exact absurd q (hs.1 _ List.mem_cons_self)
      unfold SortF at ih ⊢
      simp only [List.map_cons] at ih ⊢
      rw [List.pairwise_cons]
      refine ⟨fun z hz => ?_,ih⟩
      rw [List.pairwise_cons] at ih
      rcases List.mem_cons.1 hz with q|q
      · subst q;exact hlt
      · exact hlt.trans (ih.1 z q)
theorem compactA_canon {l ys : List α} (hp : ys.Perm l) (h : ∀ z ∈ l,FctIn (p z)) (hs : LeSorted (ys.map p)) : (compactA p ys).map p = canonL (l.map p):=by
  have hy : ∀ z ∈ ys,FctIn (p z):=fun z hz => h z (hp.mem_iff.1 hz)
  obtain ⟨c1,c2⟩:=canonL_spec (l.map p) fun f hf => by obtain ⟨x,h1,rfl⟩:=List.mem_map.1 hf;exact (h x h1).2
  have key : SortF ((compactA p ys).map p) ∧ ∀ f,f ∈ (compactA p ys).map p ↔ f ∈ ys.map p:=by
    cases ys with
    | nil => exact ⟨by simp [compactA,SortF],fun f => Iff.rfl⟩
    | cons x r => exact ⟨keepA_sorted r x hy hs,fun f => keepA_mem f r x hy⟩
  refine sortF_ext key.1 c1 fun f => ?_
  rw [key.2,c2,(hp.map p).mem_iff]
  constructor
  · intro hf;refine ⟨hf,?_⟩;obtain ⟨x,h1,rfl⟩:=List.mem_map.1 hf;exact (h x h1).1
  · exact fun h => h.1
end
open Classical in
noncomputable def ledE (l : List Fct) : Int:=if 65536 < l.length then 2 else if ∃ f ∈ l,¬ FctOk f then 70 else if SortF l then 0 else 80
end Go.Hw
set_option linter.unusedVariables false
set_option linter.unusedSimpArgs false
namespace Go.Hw
open Go Go.Lib
open Classical in
noncomputable def knownL (l : List Fct) (k : Int) : List Fct:=l.filter fun f => decide (f.known ≤ k)
def VoidBy (I : Fct → List UInt8) (l : List Fct) (known : Int) (f : Fct) : Prop:=∃ v ∈ l,v.kind = 8 ∧ v.known ≤ known ∧ v.void = I f
def InF (I : Fct → List UInt8) (l : List Fct) (day known : Int) (f : Fct) : Prop:=f.known ≤ known ∧ f.kind ≠ 8 ∧ f.day ≤ day ∧ ¬ VoidBy I l known f
open Classical in
noncomputable def viewL (I : Fct → List UInt8) (l : List Fct) (day known : Int) : List Fct:=l.filter fun f => decide (InF I l day known f)
theorem nodup_len {α : Type} : ∀ {a b : List α},a.Nodup → (∀ x ∈ a,x ∈ b) → a.length ≤ b.length
  | [],b,_,_ => Nat.zero_le _
  | x :: a,b,hn,hs => by
    rw [List.nodup_cons] at hn
    obtain ⟨p,q,rfl⟩:=List.append_of_mem (hs x List.mem_cons_self)
    have:=nodup_len (a:=a) (b:=p ++ q) hn.2 fun y hy => by
      have h1:=hs y (List.mem_cons_of_mem _ hy)
      rw [List.mem_append,List.mem_cons] at h1
      rw [List.mem_append]
      rcases h1 with h|h|h
      · exact .inl h
      · subst h;exact absurd hy hn.1
      · exact .inr h
    simp only [List.length_append,List.length_cons] at this ⊢
    omega
def In32 (l : List Fct) : Prop:=∀ f ∈ l,f.void.length = 32
end Go.Hw
set_option linter.unusedVariables false
set_option linter.unusedSimpArgs false
namespace Go.Hw
open Go Go.Lib
end Go.Hw

import Derived.Test.YtgbamiehiokacaaGreatDoorFC
set_option linter.unusedVariables false
set_option linter.unusedSimpArgs false
namespace Go.Hw
open Go Go.Lib
theorem snocI {α : Type} {P : List α → Prop} (h0 : P []) (h1 : ∀ l x,P l → P (l ++ [x])) (l : List α) : P l:=by
  rw [← List.reverse_reverse l]
  induction l.reverse with
  | nil => exact h0
  | cons x r ih => rw [List.reverse_cons];exact h1 _ _ ih
theorem pw_ext {α : Type} {lt : α → α → Prop} (irr : ∀ a,¬ lt a a) (tr : ∀ a b c,lt a b → lt b c → lt a c) : ∀ {a b : List α},a.Pairwise lt → b.Pairwise lt → (∀ x,x ∈ a ↔ x ∈ b) → a = b
  | [],[],_,_,_ => rfl
  | [],y :: b,_,_,h => absurd ((h y).2 List.mem_cons_self) (by simp)
  | x :: a,[],_,_,h => absurd ((h x).1 List.mem_cons_self) (by simp)
  | x :: a,y :: b,h1,h2,h => by
    rw [List.pairwise_cons] at h1 h2
    have hxy : x = y:=by
      rcases List.mem_cons.1 ((h x).1 List.mem_cons_self) with e|e
      · exact e
      · rcases List.mem_cons.1 ((h y).2 List.mem_cons_self) with e2|e2
        · exact e2.symm
        · exact absurd (tr _ _ _ (h2.1 _ e) (h1.1 _ e2)) (irr _)
    subst hxy
    congr 1
    refine pw_ext irr tr h1.2 h2.2 fun z => ?_
    have hz:=h z
    rw [List.mem_cons,List.mem_cons] at hz
    constructor
    · intro m
      rcases hz.1 (.inr m) with e|e
      · subst e;exact absurd (h1.1 _ m) (irr _)
      · exact e
    · intro m
      rcases hz.2 (.inr m) with e|e
      · subst e;exact absurd (h2.1 _ m) (irr _)
      · exact e
def lastZ : Fct:={ fct0 with day:=-1,mTo:=-1 }
def MvOf (pl : Int) (f : Fct) : Prop:=f.kind = 6 ∧ f.mP = pl ∧ FctOk f
open Classical in
noncomputable def movesC (pl : Int) (L : List Fct) : List Fct:=L.filter fun f => decide (MvOf pl f)
def takeC (day : Int) (z x : Fct) : Fct:=if x.day ≤ day ∧ (z.day < x.day ∨ (x.day = z.day ∧ 0 < cmpF x z)) then x else z
noncomputable def regF (L : List Fct) (pl day : Int) : Fct:=(movesC pl L).foldl (takeC day) lastZ
def LastM (day : Int) (S : Fct → Prop) (z : Fct) : Prop :=
  (z = lastZ ∧ ∀ x,S x → ¬ x.day ≤ day) ∨ (S z ∧ z.day ≤ day ∧ ∀ x,S x → x.day ≤ day → x = z ∨ x.day < z.day ∨ (x.day = z.day ∧ LtF x z))
theorem LastM.uniq {day : Int} {S : Fct → Prop} {z z' : Fct} (h : LastM day S z) (h' : LastM day S z') : z = z':=by
  rcases h with ⟨rfl,h1⟩|⟨h1,h2,h3⟩
  · rcases h' with ⟨rfl,_⟩|⟨k1,k2,_⟩
    · rfl
    · exact absurd k2 (h1 _ k1)
  · rcases h' with ⟨rfl,k1⟩|⟨k1,k2,k3⟩
    · exact absurd h2 (k1 _ h1)
    · rcases h3 z' k1 k2 with e|e|⟨e,f⟩
      · exact e.symm
      · rcases k3 z h1 h2 with e'|e'|⟨e',f'⟩
        · exact e'
        · omega
        · omega
      · rcases k3 z h1 h2 with e'|e'|⟨e',f'⟩
        · exact e'
        · omega
        · exact absurd (LtF.trans f f') (LtF.irrefl _)
theorem LastM.congr {day : Int} {S S' : Fct → Prop} {z : Fct} (hS : ∀ x,S x ↔ S' x) (h : LastM day S z) : LastM day S' z:=by
  have : S = S':=funext fun x => propext (hS x)
  rwa [this] at h
theorem day_nn {f : Fct} (h : FctOk f) : 0 ≤ f.day:=h.1.1
theorem takeC_last {day : Int} {ms : List Fct} {z x : Fct} (hm : ∀ y ∈ ms,FctIn y) (hx : FctIn x) (h : LastM day (· ∈ ms) z) : LastM day (· ∈ ms ++ [x]) (takeC day z x):=by
  unfold takeC
  split
  · rename_i c
    refine .inr ⟨by simp,c.1,fun y hy hd => ?_⟩
    rcases List.mem_append.1 hy with hy|hy
    · rcases h with ⟨rfl,h1⟩|⟨h1,h2,h3⟩
      · exact absurd hd (h1 _ hy)
      · have key : z.day < x.day ∨ (z.day = x.day ∧ LtF z x):=c.2.imp id fun ⟨e,q⟩ => ⟨e.symm,cmpF_lt.1 (by have:=cmpF_swap x z;omega)⟩
        rcases h3 y hy hd with e|e|⟨e,f⟩
        · subst e;exact .inr key
        · rcases key with k|⟨k,_⟩
          · exact .inr (.inl (by omega))
          · exact .inr (.inl (by omega))
        · rcases key with k|⟨k,g⟩
          · exact .inr (.inl (by omega))
          · exact .inr (.inr ⟨by omega,f.trans g⟩)
    · rw [List.mem_singleton] at hy;exact .inl hy
  · rename_i c
    rcases h with ⟨rfl,h1⟩|⟨h1,h2,h3⟩
    · refine .inl ⟨rfl,fun y hy => ?_⟩
      rcases List.mem_append.1 hy with hy|hy
      · exact h1 _ hy
      · rw [List.mem_singleton] at hy;subst hy
        intro hd
        have h0:=day_nn hx.1
        have : lastZ.day = -1:=rfl
        exact c ⟨hd,.inl (by omega)⟩
    · refine .inr ⟨List.mem_append_left _ h1,h2,fun y hy hd => ?_⟩
      rcases List.mem_append.1 hy with hy|hy
      · exact h3 y hy hd
      · rw [List.mem_singleton] at hy;subst hy
        rcases LtF.tri hx.1 (hm z h1).1 (by rw [hx.2,(hm z h1).2]) with t|t|t
        · rcases Int.lt_trichotomy y.day z.day with d|d|d
          · exact .inr (.inl d)
          · exact .inr (.inr ⟨d,t⟩)
          · exact absurd ⟨hd,.inl d⟩ c
        · exact .inl t
        · rcases Int.lt_trichotomy y.day z.day with d|d|d
          · exact .inr (.inl d)
          · refine absurd ⟨hd,.inr ⟨d,?_⟩⟩ c
            have:=cmpF_lt.2 t
            have:=cmpF_swap z y
            omega
          · exact absurd ⟨hd,.inl d⟩ c
theorem foldC_last {day : Int} (ms : List Fct) (hm : ∀ y ∈ ms,FctIn y) : LastM day (· ∈ ms) (ms.foldl (takeC day) lastZ):=by
  revert hm
  refine snocI (P:=fun ms => (∀ y ∈ ms,FctIn y) → LastM day (· ∈ ms) (ms.foldl (takeC day) lastZ)) (fun _ => .inl ⟨rfl,fun x hx => absurd hx (by simp)⟩) (fun l x ih hm => ?_) ms
  rw [List.foldl_append]
  exact takeC_last (fun y hy => hm y (by simp [hy])) (hm x (by simp)) (ih fun y hy => hm y (by simp [hy]))
open Classical in
theorem movesC_mem {pl : Int} {L : List Fct} {x : Fct} : x ∈ movesC pl L ↔ x ∈ L ∧ MvOf pl x:=by
  unfold movesC;rw [List.mem_filter,decide_eq_true_eq]
theorem regF_spec {L : List Fct} (h32 : In32 L) (pl day : Int) : LastM day (fun x => x ∈ L ∧ MvOf pl x) (regF L pl day):=by
  refine LastM.congr (fun x => movesC_mem) (foldC_last (movesC pl L) fun y hy => ?_)
  rw [movesC_mem] at hy
  exact ⟨hy.2.2.2,h32 y hy.1⟩
end Go.Hw

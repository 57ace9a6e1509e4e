import Derived.Test.YtajmniiiahhfaaaGreatDoorFA
set_option linter.unusedVariables false
set_option linter.unusedSimpArgs false
namespace Go.Hw
open Go Go.Lib
section
variable {α : Type} (p : α → Fct)
def mergeA : List α → List α → List α
  | [],b => b
  | x :: a,[] => x :: a
  | x :: a,y :: b => if cmpF (p x) (p y) < 0 then x :: mergeA a (y :: b) else if cmpF (p x) (p y) = 0 then x :: mergeA a b else y :: mergeA (x :: a) b
termination_by a b => a.length + b.length
variable {p}
theorem mergeA_nil_l (b : List α) : mergeA p [] b = b:=by unfold mergeA;rfl
theorem mergeA_nil_r (a : List α) : mergeA p a [] = a:=by cases a <;> (unfold mergeA;rfl)
theorem mergeA_lt {x y : α} {a b : List α} (h : cmpF (p x) (p y) < 0) : mergeA p (x :: a) (y :: b) = x :: mergeA p a (y :: b):=by rw [mergeA,if_pos h]
theorem mergeA_eq {x y : α} {a b : List α} (h : cmpF (p x) (p y) = 0) : mergeA p (x :: a) (y :: b) = x :: mergeA p a b:=by rw [mergeA,if_neg (by omega),if_pos h]
theorem mergeA_gt {x y : α} {a b : List α} (h : 0 < cmpF (p x) (p y)) : mergeA p (x :: a) (y :: b) = y :: mergeA p (x :: a) b:=by rw [mergeA,if_neg (by omega),if_neg (by omega)]
theorem mergeA_or (z : α) : ∀ (n : Nat) (a b : List α),a.length + b.length ≤ n → z ∈ mergeA p a b → z ∈ a ∨ z ∈ b
  | _,[],b,_,h => by rw [mergeA_nil_l] at h;exact .inr h
  | _,x :: a,[],_,h => by rw [mergeA_nil_r] at h;exact .inl h
  | 0,x :: a,y :: b,hn,h => by simp at hn
  | n + 1,x :: a,y :: b,hn,h => by
    simp only [List.length_cons] at hn
    rcases Int.lt_trichotomy (cmpF (p x) (p y)) 0 with c|c|c
    · rw [mergeA_lt c] at h
      rcases List.mem_cons.1 h with e|e
      · subst e;exact .inl List.mem_cons_self
      · exact (mergeA_or z n a (y :: b) (by simp;omega) e).imp (List.mem_cons_of_mem _) id
    · rw [mergeA_eq c] at h
      rcases List.mem_cons.1 h with e|e
      · subst e;exact .inl List.mem_cons_self
      · exact (mergeA_or z n a b (by omega) e).imp (List.mem_cons_of_mem _) (List.mem_cons_of_mem _)
    · rw [mergeA_gt c] at h
      rcases List.mem_cons.1 h with e|e
      · subst e;exact .inr List.mem_cons_self
      · exact (mergeA_or z n (x :: a) b (by simp;omega) e).imp id (List.mem_cons_of_mem _)
theorem mergeA_len : ∀ (n : Nat) (a b : List α),a.length + b.length ≤ n → (mergeA p a b).length ≤ a.length + b.length
  | _,[],b,_ => by rw [mergeA_nil_l];simp
  | _,x :: a,[],_ => by rw [mergeA_nil_r];simp
  | 0,x :: a,y :: b,hn => by simp at hn
  | n + 1,x :: a,y :: b,hn => by
    simp only [List.length_cons] at hn
    rcases Int.lt_trichotomy (cmpF (p x) (p y)) 0 with c|c|c
    · rw [mergeA_lt c];have:=mergeA_len n a (y :: b) (by simp;omega);simp at this ⊢;omega
    · rw [mergeA_eq c];have:=mergeA_len n a b (by omega);simp at this ⊢;omega
    · rw [mergeA_gt c];have:=mergeA_len n (x :: a) b (by simp;omega);simp at this ⊢;omega
theorem mergeA_mem (f : Fct) : ∀ (n : Nat) (a b : List α),a.length + b.length ≤ n → (∀ x ∈ a,FctIn (p x)) → (∀ x ∈ b,FctIn (p x)) → (f ∈ (mergeA p a b).map p ↔ f ∈ a.map p ∨ f ∈ b.map p)
  | _,[],b,_,_,_ => by rw [mergeA_nil_l];simp
  | _,x :: a,[],_,_,_ => by rw [mergeA_nil_r];simp
  | 0,x :: a,y :: b,hn,_,_ => by simp at hn
  | n + 1,x :: a,y :: b,hn,ha,hb => by
    simp only [List.length_cons] at hn
    have ha':=fun z hz => ha z (List.mem_cons_of_mem _ hz)
    have hb':=fun z hz => hb z (List.mem_cons_of_mem _ hz)
    rcases Int.lt_trichotomy (cmpF (p x) (p y)) 0 with c|c|c
    · rw [mergeA_lt c]
      have:=mergeA_mem f n a (y :: b) (by simp;omega) ha' hb
      simp only [List.map_cons,List.mem_cons] at this ⊢;rw [this];grind
    · rw [mergeA_eq c]
      have:=mergeA_mem f n a b (by omega) ha' hb'
      have e:=(cmpF_zero (ha x List.mem_cons_self).1 (hb y List.mem_cons_self).1 (by rw [(ha x List.mem_cons_self).2,(hb y List.mem_cons_self).2])).1 c
      simp only [List.map_cons,List.mem_cons] at this ⊢;rw [this];grind
    · rw [mergeA_gt c]
      have:=mergeA_mem f n (x :: a) b (by simp;omega) ha hb'
      simp only [List.map_cons,List.mem_cons] at this ⊢;rw [this];grind
theorem mergeA_sorted : ∀ (n : Nat) (a b : List α),a.length + b.length ≤ n → (∀ x ∈ a,FctIn (p x)) → (∀ x ∈ b,FctIn (p x)) → SortF (a.map p) → SortF (b.map p) → SortF ((mergeA p a b).map p)
  | _,[],b,_,_,_,_,hs => by rw [mergeA_nil_l];exact hs
  | _,x :: a,[],_,_,_,hs,_ => by rw [mergeA_nil_r];exact hs
  | 0,x :: a,y :: b,hn,_,_,_,_ => by simp at hn
  | n + 1,x :: a,y :: b,hn,ha,hb,sa,sb => by
    simp only [List.length_cons] at hn
    have ha':=fun z hz => ha z (List.mem_cons_of_mem _ hz)
    have hb':=fun z hz => hb z (List.mem_cons_of_mem _ hz)
    unfold SortF at sa sb
    simp only [List.map_cons,List.pairwise_cons] at sa sb
    rcases Int.lt_trichotomy (cmpF (p x) (p y)) 0 with c|c|c
    · rw [mergeA_lt c]
      have ih:=mergeA_sorted n a (y :: b) (by simp;omega) ha' hb sa.2 (by unfold SortF;simp only [List.map_cons,List.pairwise_cons];exact sb)
      unfold SortF at ih ⊢
      simp only [List.map_cons,List.pairwise_cons]
      refine ⟨fun z hz => ?_,ih⟩
      rcases (mergeA_mem z n a (y :: b) (by simp;omega) ha' hb).1 hz with h|h
      · exact sa.1 z h
      · rcases List.mem_cons.1 h with h|h
        · subst h;exact cmpF_lt.1 c
        · exact (cmpF_lt.1 c).trans (sb.1 z h)
    · rw [mergeA_eq c]
      have e:=(cmpF_zero (ha x List.mem_cons_self).1 (hb y List.mem_cons_self).1 (by rw [(ha x List.mem_cons_self).2,(hb y List.mem_cons_self).2])).1 c
      have ih:=mergeA_sorted n a b (by omega) ha' hb' sa.2 sb.2
      unfold SortF at ih ⊢
      simp only [List.map_cons,List.pairwise_cons]
      refine ⟨fun z hz => ?_,ih⟩
      rcases (mergeA_mem z n a b (by omega) ha' hb').1 hz with h|h
      · exact sa.1 z h
      · rw [e];exact sb.1 z h
    · rw [mergeA_gt c]
      have c2 : LtF (p y) (p x):=cmpF_lt.1 (by rw [cmpF_swap];omega)
      have ih:=mergeA_sorted n (x :: a) b (by simp;omega) ha hb' (by unfold SortF;simp only [List.map_cons,List.pairwise_cons];exact sa) sb.2
      unfold SortF at ih ⊢
      simp only [List.map_cons,List.pairwise_cons]
      refine ⟨fun z hz => ?_,ih⟩
      rcases (mergeA_mem z n (x :: a) b (by simp;omega) ha hb').1 hz with h|h
      · rcases List.mem_cons.1 h with h|h
        · subst h;exact c2
        · exact c2.trans (sa.1 z h)
      · exact sb.1 z h
theorem mergeA_canon {a b : List α} (ha : ∀ x ∈ a,FctIn (p x)) (hb : ∀ x ∈ b,FctIn (p x)) (sa : SortF (a.map p)) (sb : SortF (b.map p)) : (mergeA p a b).map p = canonL (a.map p ++ b.map p):=by
  have hv : ∀ f ∈ a.map p ++ b.map p,f.void.length = 32:=by
    intro f hf
    rw [List.mem_append,List.mem_map,List.mem_map] at hf
    rcases hf with ⟨x,h1,rfl⟩|⟨x,h1,rfl⟩
    · exact (ha x h1).2
    · exact (hb x h1).2
  obtain ⟨c1,c2⟩:=canonL_spec _ hv
  refine sortF_ext (mergeA_sorted _ a b (Nat.le_refl _) ha hb sa sb) c1 fun f => ?_
  rw [c2,mergeA_mem f _ a b (Nat.le_refl _) ha hb,List.mem_append]
  constructor
  · rintro h
    refine ⟨h,?_⟩
    rcases h with h|h
    · obtain ⟨x,h1,rfl⟩:=List.mem_map.1 h;exact (ha x h1).1
    · obtain ⟨x,h1,rfl⟩:=List.mem_map.1 h;exact (hb x h1).1
  · exact fun h => h.1
variable (p)
def keepA : α → List α → List α
  | _,[] => []
  | x,y :: r => if cmpF (p y) (p x) = 0 then keepA y r else y :: keepA y r
def compactA : List α → List α
  | [] => []
  | x :: r => x :: keepA p x r
variable {p}
theorem keepA_snoc (y : α) : ∀ (r : List α) (x : α),keepA p x (r ++ [y]) = keepA p x r ++ (if cmpF (p y) (p ((x :: r).getLast (by simp))) = 0 then [] else [y])
  | [],x => rfl
  | z :: r,x => by
    have ih:=keepA_snoc y r z
    rw [List.cons_append,keepA,keepA,ih]
    have e : (x :: z :: r).getLast (by simp) = (z :: r).getLast (by simp):=List.getLast_cons (by simp)
    rw [e]
    split <;> rfl
theorem compactA_snoc {l : List α} (hl : l ≠ []) (y : α) : compactA p (l ++ [y]) = compactA p l ++ (if cmpF (p y) (p (l.getLast hl)) = 0 then [] else [y]):=by
  cases l with
  | nil => exact absurd rfl hl
  | cons x r => rw [List.cons_append,compactA,compactA,keepA_snoc];rfl
theorem keepA_len : ∀ (r : List α) (x : α),(keepA p x r).length ≤ r.length
  | [],x => Nat.le_refl _
  | y :: r,x => by
    have:=keepA_len r y
    unfold keepA
    split <;> simp <;> omega
theorem compactA_len (l : List α) : (compactA p l).length ≤ l.length:=by
  cases l with
  | nil => exact Nat.le_refl _
  | cons x r => have:=keepA_len (p:=p) r x;simp [compactA];omega
theorem keepA_sub : ∀ (r : List α) (x : α),(keepA p x r).Sublist r
  | [],x => .slnil
  | y :: r,x => by
    unfold keepA
    split
    · exact (keepA_sub r y).cons _
    · exact (keepA_sub r y).cons_cons _
theorem compactA_sub (l : List α) : (compactA p l).Sublist l:=by
  cases l with
  | nil => exact .slnil
  | cons x r => exact (keepA_sub r x).cons_cons _
def LeSorted (l : List Fct) : Prop:=l.Pairwise fun a b => ¬ LtF b a
theorem keepA_mem (f : Fct) : ∀ (r : List α) (x : α),(∀ z ∈ x :: r,FctIn (p z)) → (f ∈ (x :: keepA p x r).map p ↔ f ∈ (x :: r).map p)
  | [],x,_ => Iff.rfl
  | y :: r,x,h => by
    have ih:=keepA_mem f r y fun z hz => h z (List.mem_cons_of_mem _ hz)
    have hx:=h x List.mem_cons_self
    have hy:=h y (by simp)
    unfold keepA
    split
    · rename_i c
      have e:=(cmpF_zero hy.1 hx.1 (by rw [hx.2,hy.2])).1 c
      simp only [List.map_cons,List.mem_cons] at ih ⊢
      rw [← ih,e];grind
    · simp only [List.map_cons,List.mem_cons] at ih ⊢
      rw [← ih]
theorem keepA_sorted : ∀ (r : List α) (x : α),(∀ z ∈ x :: r,FctIn (p z)) → LeSorted ((x :: r).map p) → SortF ((x :: keepA p x r).map p)
  | [],x,_,_ => by simp [SortF,keepA]
  | y :: r,x,h,hs => by
    have hx:=h x List.mem_cons_self
    have hy:=h y (by simp)
    have h2:=fun z hz => h z (List.mem_cons_of_mem _ hz)
    unfold LeSorted at hs
    simp only [List.map_cons,List.pairwise_cons] at hs
    have ih:=keepA_sorted r y h2 (by unfold LeSorted;simp only [List.map_cons,List.pairwise_cons];exact hs.2)
    unfold keepA
    split
    · rename_i c
      have e:=(cmpF_zero hy.1 hx.1 (by rw [hx.2,hy.2])).1 c
      simp only [List.map_cons] at ih ⊢
      rw [← e];exact ih
    · rename_i c
      have hlt : LtF (p x) (p y):=by
        rcases LtF.tri hx.1 hy.1 (by rw [hx.2,hy.2]) with q|q|q
        · exact q
        · exact absurd ((cmpF_zero hy.1 hx.1 (by rw [hx.2,hy.2])).2 q.symm) c
        · exact absurd q (hs.1 _ List.mem_cons_self)
      unfold SortF at ih ⊢
      simp only [List.map_cons] at ih ⊢
      rw [List.pairwise_cons]
      refine ⟨fun z hz => ?_,ih⟩
      rw [List.pairwise_cons] at ih
      rcases List.mem_cons.1 hz with q|q
      · subst q;exact hlt
      · exact hlt.trans (ih.1 z q)
theorem compactA_canon {l ys : List α} (hp : ys.Perm l) (h : ∀ z ∈ l,FctIn (p z)) (hs : LeSorted (ys.map p)) : (compactA p ys).map p = canonL (l.map p):=by
  have hy : ∀ z ∈ ys,FctIn (p z):=fun z hz => h z (hp.mem_iff.1 hz)
  obtain ⟨c1,c2⟩:=canonL_spec (l.map p) fun f hf => by obtain ⟨x,h1,rfl⟩:=List.mem_map.1 hf;exact (h x h1).2
  have key : SortF ((compactA p ys).map p) ∧ ∀ f,f ∈ (compactA p ys).map p ↔ f ∈ ys.map p:=by
    cases ys with
    | nil => exact ⟨by simp [compactA,SortF],fun f => Iff.rfl⟩
    | cons x r => exact ⟨keepA_sorted r x hy hs,fun f => keepA_mem f r x hy⟩
  refine sortF_ext key.1 c1 fun f => ?_
  rw [key.2,c2,(hp.map p).mem_iff]
  constructor
  · intro hf;refine ⟨hf,?_⟩;obtain ⟨x,h1,rfl⟩:=List.mem_map.1 hf;exact (h x h1).1
  · exact fun h => h.1
theorem sortF_get {l : List Fct} (hs : SortF l) {i j : Nat} (hij : i < j) (hj : j < l.length) : LtF (l[i]'(by omega)) l[j]:=by
  unfold SortF at hs
  rw [List.pairwise_iff_getElem] at hs
  exact hs i j (by omega) hj hij
theorem bs_found {l : List Fct} {f : Fct} (hs : SortF l) (hf : FctIn f) (hl : ∀ x ∈ l,FctIn x) {i : Nat} (hi : i ≤ l.length) (h1 : ∀ (t : Nat) (ht : t < l.length),t < i → cmpF l[t] f < 0) (h2 : ∀ (t : Nat) (ht : t < l.length),i ≤ t → ¬ cmpF l[t] f < 0) :
    f ∈ l ↔ ∃ hi : i < l.length,cmpF l[i] f = 0:=by
  constructor
  · intro hm
    obtain ⟨t,ht,e⟩:=List.getElem_of_mem hm
    have hz : cmpF l[t] f = 0:=by rw [e];exact (cmpF_zero hf.1 hf.1 rfl).2 rfl
    have hit : i ≤ t:=by
      rcases Nat.lt_or_ge t i with q|q
      · have:=h1 t ht q;omega
      · exact q
    refine ⟨by omega,?_⟩
    rcases Nat.lt_or_ge i t with q|q
    · exfalso
      have:=sortF_get hs q ht
      rw [e] at this
      exact h2 i (by omega) (Nat.le_refl _) (cmpF_lt.2 this)
    · have : i = t:=by omega
      subst this;exact hz
  · rintro ⟨hi,e⟩
    have hx:=hl _ (List.getElem_mem hi)
    have:=(cmpF_zero hx.1 hf.1 (by rw [hx.2,hf.2])).1 e
    rw [← this];exact List.getElem_mem hi
theorem sortF_of_next {l : List Fct} (h : ∀ (i : Nat) (hi : i + 1 < l.length),cmpF l[i] l[i + 1] < 0) : SortF l:=by
  unfold SortF
  rw [List.pairwise_iff_getElem]
  intro i j hi hj hij
  obtain ⟨d,rfl⟩ : ∃ d,j = i + 1 + d:=⟨j - i - 1,by omega⟩
  clear hij
  induction d with
  | zero => exact cmpF_lt.1 (h i hj)
  | succ d ih => exact (ih (by omega)).trans (cmpF_lt.1 (h (i + 1 + d) (by omega)))
end
def LedOk (l : List Fct) : Prop:=l.length ≤ 65536 ∧ (∀ f ∈ l,FctOk f) ∧ SortF l
open Classical in
noncomputable def ledE (l : List Fct) : Int:=if 65536 < l.length then 2 else if ∃ f ∈ l,¬ FctOk f then 70 else if SortF l then 0 else 80
theorem ledE_zero {l : List Fct} : ledE l = 0 ↔ LedOk l:=by
  unfold ledE LedOk
  split
  · constructor
    · intro h;omega
    · rintro ⟨h,_⟩;omega
  · split
    · rename_i h
      obtain ⟨f,h1,h2⟩:=h
      constructor
      · intro h;omega
      · rintro ⟨_,h,_⟩;exact absurd (h f h1) h2
    · rename_i h
      split
      · rename_i h3
        refine ⟨fun _ => ⟨by omega,fun f hf => ?_,h3⟩,fun _ => rfl⟩
        exact Classical.byContradiction fun q => h ⟨f,hf,q⟩
      · rename_i h3
        constructor
        · intro h;omega
        · rintro ⟨_,_,h⟩;exact absurd h h3
end Go.Hw
set_option linter.unusedVariables false
set_option linter.unusedSimpArgs false
namespace Go.Hw
open Go Go.Lib
open Classical in
noncomputable def knownL (l : List Fct) (k : Int) : List Fct:=l.filter fun f => decide (f.known ≤ k)
def VoidBy (I : Fct → List UInt8) (l : List Fct) (known : Int) (f : Fct) : Prop:=∃ v ∈ l,v.kind = 8 ∧ v.known ≤ known ∧ v.void = I f
def InF (I : Fct → List UInt8) (l : List Fct) (day known : Int) (f : Fct) : Prop:=f.known ≤ known ∧ f.kind ≠ 8 ∧ f.day ≤ day ∧ ¬ VoidBy I l known f
open Classical in
noncomputable def viewL (I : Fct → List UInt8) (l : List Fct) (day known : Int) : List Fct:=l.filter fun f => decide (InF I l day known f)
open Classical in
noncomputable def missL (a b : List Fct) : List Fct:=b.filter fun f => decide (f ∉ a)
noncomputable def unionL (a b : List Fct) : List Fct:=canonL (a ++ b)
theorem sortF_nodup {l : List Fct} (h : SortF l) : l.Nodup:=by
  unfold SortF at h
  refine h.imp fun {a b} hab e => ?_
  subst e;exact LtF.irrefl _ hab
theorem nodup_len {α : Type} : ∀ {a b : List α},a.Nodup → (∀ x ∈ a,x ∈ b) → a.length ≤ b.length
  | [],b,_,_ => Nat.zero_le _
  | x :: a,b,hn,hs => by
    rw [List.nodup_cons] at hn
    obtain ⟨p,q,rfl⟩:=List.append_of_mem (hs x List.mem_cons_self)
    have:=nodup_len (a:=a) (b:=p ++ q) hn.2 fun y hy => by
      have h1:=hs y (List.mem_cons_of_mem _ hy)
      rw [List.mem_append,List.mem_cons] at h1
      rw [List.mem_append]
      rcases h1 with h|h|h
      · exact .inl h
      · subst h;exact absurd hy hn.1
      · exact .inr h
    simp only [List.length_append,List.length_cons] at this ⊢
    omega
def In32 (l : List Fct) : Prop:=∀ f ∈ l,f.void.length = 32
theorem unionL_spec {a b : List Fct} (ha : In32 a) (hb : In32 b) : SortF (unionL a b) ∧ ∀ x,x ∈ unionL a b ↔ (x ∈ a ∨ x ∈ b) ∧ FctOk x:=by
  obtain ⟨h1,h2⟩:=canonL_spec (a ++ b) fun f hf => by
    rcases List.mem_append.1 hf with h|h
    · exact ha f h
    · exact hb f h
  exact ⟨h1,fun x => by rw [unionL,h2,List.mem_append]⟩
theorem canonL_self {l : List Fct} (h32 : In32 l) (hk : ∀ f ∈ l,FctOk f) (hs : SortF l) : canonL l = l:=by
  obtain ⟨c1,c2⟩:=canonL_spec l h32
  refine sortF_ext c1 hs fun x => ?_
  rw [c2];exact ⟨fun h => h.1,fun h => ⟨h,hk x h⟩⟩
theorem canonL_len {l : List Fct} (h32 : In32 l) : (canonL l).length ≤ l.length:=by
  obtain ⟨c1,c2⟩:=canonL_spec l h32
  exact nodup_len (sortF_nodup c1) fun x hx => ((c2 x).1 hx).1
theorem unionL_len {a b : List Fct} (ha : In32 a) (hb : In32 b) (ka : ∀ f ∈ a,FctOk f) (kb : ∀ f ∈ b,FctOk f) (sa : SortF a) (sb : SortF b) : (unionL a b).length = a.length + (missL a b).length:=by
  obtain ⟨c1,c2⟩:=unionL_spec ha hb
  have hn : (a ++ missL a b).Nodup:=by
    rw [List.nodup_append]
    refine ⟨sortF_nodup sa,(sortF_nodup sb).filter _,fun x hx y hy e => ?_⟩
    subst e
    unfold missL at hy
    rw [List.mem_filter,decide_eq_true_eq] at hy
    exact hy.2 hx
  have hm : ∀ x,x ∈ unionL a b ↔ x ∈ a ++ missL a b:=fun x => by
    rw [c2,List.mem_append]
    unfold missL
    rw [List.mem_filter,decide_eq_true_eq]
    constructor
    · rintro ⟨h,_⟩
      by_cases q : x ∈ a
      · exact .inl q
      · exact .inr ⟨h.resolve_left q,q⟩
    · rintro (h|⟨h,_⟩)
      · exact ⟨.inl h,ka x h⟩
      · exact ⟨.inr h,kb x h⟩
  have h1:=nodup_len (sortF_nodup c1) fun x hx => (hm x).1 hx
  have h2:=nodup_len hn fun x hx => (hm x).2 hx
  rw [List.length_append] at h1 h2
  omega
end Go.Hw
set_option linter.unusedVariables false
set_option linter.unusedSimpArgs false
namespace Go.Hw
open Go Go.Lib
def mv8 (d k p t : Int) : Fct:={ fct0 with kind:=6,day:=d,known:=k,mP:=p,mTo:=t }
def exF : Fct:=mv8 10 20 1 2
def exV (i : List UInt8) : Fct:={ fct0 with kind:=8,known:=30,void:=i }
theorem exF_ok : FctOk exF:=by
  unfold FctOk ContOk onlyF exF mv8 Bel
  refine ⟨by decide,by decide,?_,rfl⟩
  simp only [fct0]
  rw [if_neg (by decide),if_neg (by decide),if_neg (by decide),if_neg (by decide),if_neg (by decide),if_pos (by decide)]
  exact ⟨by decide,.inr (by decide)⟩
theorem exV_ok (i : List UInt8) : FctOk (exV i):=by
  have hk : (exV i).kind = 8:=rfl
  refine ⟨show (0 : Int) ≤ 0 ∧ (0 : Int) < 1048577 by omega,show (0 : Int) ≤ 30 ∧ (30 : Int) < 1048577 by omega,?_,rfl⟩
  unfold ContOk
  rw [hk,if_neg (by decide),if_neg (by decide),if_neg (by decide),if_neg (by decide),if_neg (by decide),if_neg (by decide),if_neg (by decide)]
theorem exF_32 : exF.void.length = 32:=rfl
theorem ex32 : In32 [exF]:=fun f hf => by rw [List.mem_singleton] at hf;subst hf;exact exF_32
theorem exSort (f : Fct) : SortF [f]:=List.pairwise_singleton _ _
theorem ex_canon : canonL [exF,exF] = [exF]:=by
  have h32 : ∀ f ∈ [exF,exF],f.void.length = 32:=fun f hf => by simp at hf;subst hf;exact exF_32
  obtain ⟨h1,h2⟩:=canonL_spec [exF,exF] h32
  refine sortF_ext h1 (exSort _) fun x => ?_
  rw [h2]
  simp only [List.mem_cons,List.not_mem_nil,or_false,or_self]
  exact ⟨fun h => h.1,fun h => ⟨h,by rw [h];exact exF_ok⟩⟩
theorem ex_led : LedOk [exF]:=⟨by simp,fun f hf => by rw [List.mem_singleton] at hf;subst hf;exact exF_ok,exSort _⟩
theorem ex_ledE : ledE [exF] = 0:=ledE_zero.2 ex_led
theorem ex_led2 : ledE [exF,exF] = 80:=by
  unfold ledE
  rw [if_neg (by simp),if_neg,if_neg]
  · intro h
    unfold SortF at h
    rw [List.pairwise_cons] at h
    exact LtF.irrefl _ (h.1 exF (by simp))
  · rintro ⟨f,hf,h⟩
    simp at hf;subst hf
    exact h exF_ok
open Classical in
theorem ex_view (I : Fct → List UInt8) (k : Int) : viewL I [exF] 10 k = if 20 ≤ k then [exF] else []:=by
  unfold viewL
  by_cases hk : 20 ≤ k
  · rw [if_pos hk,List.filter_eq_self]
    intro f hf
    rw [List.mem_singleton] at hf;subst hf
    rw [decide_eq_true_eq]
    refine ⟨hk,by decide,by decide,?_⟩
    rintro ⟨v,hv,h8,_⟩
    rw [List.mem_singleton] at hv;subst hv
    exact absurd h8 (by decide)
  · rw [if_neg hk,List.filter_eq_nil_iff]
    intro f hf
    rw [List.mem_singleton] at hf;subst hf
    rw [decide_eq_true_eq]
    rintro ⟨h,_⟩
    exact hk h
open Classical in
theorem ex_void {I : Fct → List UInt8} (hi : (I exF).length = 32) : viewL I (unionL [exF] [exV (I exF)]) 10 30 = []:=by
  obtain ⟨h1,h2⟩:=unionL_spec (a:=[exF]) (b:=[exV (I exF)]) ex32 (fun f hf => by rw [List.mem_singleton] at hf;subst hf;exact hi)
  unfold viewL
  rw [List.filter_eq_nil_iff]
  intro f hf
  rw [decide_eq_true_eq]
  rintro ⟨_,h8,_,hv⟩
  rcases ((h2 f).1 hf).1 with h|h
  · rw [List.mem_singleton] at h;subst h
    exact hv ⟨exV (I exF),(h2 _).2 ⟨.inr (by simp),exV_ok _⟩,rfl,Int.le_refl _,rfl⟩
  · rw [List.mem_singleton] at h;subst h
    exact h8 rfl
theorem ex_ne (i : List UInt8) : exV i ≠ exF:=fun h => by
  have : (8 : Int) = 6:=congrArg Fct.kind h
  omega
theorem ex_two {i : List UInt8} (hi : i.length = 32) : (unionL [exF] [exV i]).length = 2:=by
  have h32 : In32 [exV i]:=fun f hf => by rw [List.mem_singleton] at hf;subst hf;exact hi
  have:=unionL_len (a:=[exF]) (b:=[exV i]) ex32 h32 (fun f hf => by rw [List.mem_singleton] at hf;subst hf;exact exF_ok) (fun f hf => by rw [List.mem_singleton] at hf;subst hf;exact exV_ok i) (exSort _) (exSort _)
  rw [this]
  unfold missL
  rw [List.filter_eq_self.2]
  · rfl
  · intro f hf
    rw [List.mem_singleton] at hf;subst hf
    rw [decide_eq_true_eq,List.mem_singleton]
    exact ex_ne i
end Go.Hw

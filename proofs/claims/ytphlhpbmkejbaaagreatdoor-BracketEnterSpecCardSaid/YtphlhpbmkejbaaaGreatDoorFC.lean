import Derived.Test.YtphlhpbmkejbaaaGreatDoorFB
import Derived.Test.YtphlhpbmkejbaaaGreatDoorNA
set_option linter.unusedVariables false
set_option linter.unusedSimpArgs false
namespace Go.Hw
open Go Go.Lib
def OfCase (n : Int) (f : Fct) : Prop:=f.kind = 4 ∧ f.ru.case = n
instance (n : Int) (f : Fct) : Decidable (OfCase n f):=by unfold OfCase;infer_instance
def lastI (C : List Fct) (n : Int) : Int:=C.foldl (fun m f => if OfCase n f then max m f.ru.inst else m) 0
def standI (C : List Fct) (n i : Int) : Option Fct:=C.find? fun f => decide (OfCase n f ∧ f.ru.inst = i)
def HeldI (C : List Fct) (n : Int) : Prop:=0 < lastI C n ∧ ∃ f ∈ C,f.kind = 5 ∧ f.aCase = n ∧ f.aInst = lastI C n ∧ f.aSusp = true
def insI (n : Int) : List Int → List Int
  | [] => [n]
  | m :: r => if m < n then m :: insI n r else if m = n then m :: r else n :: m :: r
def casesL (C : List Fct) : List Int:=C.foldl (fun o f => if f.kind = 4 then insI f.ru.case o else o) []
open Classical in
noncomputable def forceL (C : List Fct) : List Fct:=(casesL C).filterMap fun n => if HeldI C n then none else standI C n (lastI C n)
theorem insI_mem {n x : Int} : ∀ {l : List Int},x ∈ insI n l ↔ x = n ∨ x ∈ l
  | [] => by simp [insI]
  | m :: r => by
    unfold insI
    split
    · rw [List.mem_cons,insI_mem,List.mem_cons]
      constructor
      · rintro (h|h|h)
        · exact .inr (.inl h)
        · exact .inl h
        · exact .inr (.inr h)
      · rintro (h|h|h)
        · exact .inr (.inl h)
        · exact .inl h
        · exact .inr (.inr h)
    · split
      · rename_i h;subst h;simp
      · simp
theorem insI_sorted {n : Int} : ∀ {l : List Int},l.Pairwise (· < ·) → (insI n l).Pairwise (· < ·)
  | [],_ => by simp [insI]
  | m :: r,h => by
    obtain ⟨h1,h2⟩:=List.pairwise_cons.1 h
    unfold insI
    split
    · rename_i hmn
      refine List.pairwise_cons.2 ⟨fun x hx => ?_,insI_sorted h2⟩
      rcases insI_mem.1 hx with e|e
      · rw [e];exact hmn
      · exact h1 x e
    · split
      · exact h
      · refine List.pairwise_cons.2 ⟨fun x hx => ?_,h⟩
        rcases List.mem_cons.1 hx with e|e
        · omega
        · have:=h1 x e;omega
theorem casesL_snoc (C : List Fct) (f : Fct) : casesL (C ++ [f]) = if f.kind = 4 then insI f.ru.case (casesL C) else casesL C:=by unfold casesL;rw [List.foldl_append];rfl
theorem lastI_snoc (C : List Fct) (f : Fct) (n : Int) : lastI (C ++ [f]) n = if OfCase n f then max (lastI C n) f.ru.inst else lastI C n:=by unfold lastI;rw [List.foldl_append];rfl
theorem rev_ind {P : List Fct → Prop} (h0 : P []) (h1 : ∀ C f,P C → P (C ++ [f])) (C : List Fct) : P C:=by
  have : ∀ n,∀ C : List Fct,C.length = n → P C:=by
    intro n
    induction n with
    | zero => intro C h;rw [List.length_eq_zero_iff.1 h];exact h0
    | succ n ih =>
      intro C h
      have hne : C ≠ []:=fun e => by rw [e] at h;cases h
      rw [← List.dropLast_concat_getLast hne]
      exact h1 _ _ (ih _ (by rw [List.length_dropLast,h];rfl))
  exact this _ C rfl
theorem casesL_sorted (C : List Fct) : (casesL C).Pairwise (· < ·):=by
  refine rev_ind (P:=fun C => (casesL C).Pairwise (· < ·)) List.Pairwise.nil (fun C f ih => ?_) C
  show (casesL (C ++ [f])).Pairwise (· < ·)
  rw [casesL_snoc]
  split
  · exact insI_sorted ih
  · exact ih
theorem casesL_mem (C : List Fct) (n : Int) : n ∈ casesL C ↔ ∃ f ∈ C,OfCase n f:=by
  refine rev_ind (P:=fun C => n ∈ casesL C ↔ ∃ f ∈ C,OfCase n f) (by simp [casesL]) (fun C f ih => ?_) C
  show n ∈ casesL (C ++ [f]) ↔ _
  have e : (∃ g ∈ C ++ [f],OfCase n g) ↔ (∃ g ∈ C,OfCase n g) ∨ OfCase n f:=by
    constructor
    · rintro ⟨g,hg,ho⟩
      rcases List.mem_append.1 hg with h|h
      · exact .inl ⟨g,h,ho⟩
      · rw [List.mem_singleton] at h;subst h;exact .inr ho
    · rintro (⟨g,hg,ho⟩|ho)
      · exact ⟨g,List.mem_append.2 (.inl hg),ho⟩
      · exact ⟨f,by simp,ho⟩
  rw [e,← ih,casesL_snoc]
  split
  · rename_i hk
    rw [insI_mem]
    unfold OfCase
    constructor
    · rintro (h|h)
      · exact .inr ⟨hk,h.symm⟩
      · exact .inl h
    · rintro (h|h)
      · exact .inr h
      · exact .inl h.2.symm
  · rename_i hk
    exact ⟨.inl,fun h => h.elim id fun h => absurd h.1 hk⟩
theorem standI_some {C : List Fct} {n i : Int} {f : Fct} (h : standI C n i = some f) : f ∈ C ∧ OfCase n f ∧ f.ru.inst = i:=by
  unfold standI at h
  have:=List.find?_some h
  exact ⟨List.mem_of_find?_eq_some h,(of_decide_eq_true this).1,(of_decide_eq_true this).2⟩
def Apart (n : Int) (f : Fct) : Prop:=¬ (f.kind = 4 ∧ f.ru.case = n) ∧ ¬ (f.kind = 5 ∧ f.aCase = n)
instance (n : Int) (f : Fct) : Decidable (Apart n f):=by unfold Apart;infer_instance
def apartL (n : Int) (C : List Fct) : List Fct:=C.filter fun f => decide (Apart n f)
theorem apartL_snoc (n : Int) (C : List Fct) (f : Fct) : apartL n (C ++ [f]) = if Apart n f then apartL n C ++ [f] else apartL n C:=by
  unfold apartL
  rw [List.filter_append]
  by_cases h : Apart n f <;> simp [h]
theorem apart_of {n m : Int} (hm : m ≠ n) {f : Fct} (h : OfCase m f) : Apart n f:=⟨fun q => hm (h.2.symm.trans q.2),fun q => by have:=h.1;omega⟩
theorem apart_last {n m : Int} (hm : m ≠ n) (C : List Fct) : lastI (apartL n C) m = lastI C m:=by
  refine rev_ind (P:=fun C => lastI (apartL n C) m = lastI C m) rfl (fun C f ih => ?_) C
  show lastI (apartL n (C ++ [f])) m = lastI (C ++ [f]) m
  rw [apartL_snoc,lastI_snoc]
  split
  · rw [lastI_snoc,ih]
  · rename_i h
    rw [if_neg (fun q => h (apart_of hm q)),ih]
theorem apart_stand {n m : Int} (hm : m ≠ n) (C : List Fct) (i : Int) : standI (apartL n C) m i = standI C m i:=by
  unfold standI apartL
  rw [List.find?_filter]
  congr 1
  funext f
  by_cases h : OfCase m f ∧ f.ru.inst = i
  · simp [h,apart_of hm h.1]
  · simp [h]
theorem apart_held {n m : Int} (hm : m ≠ n) (C : List Fct) : HeldI (apartL n C) m ↔ HeldI C m:=by
  unfold HeldI
  rw [apart_last hm]
  refine and_congr_right fun _ => ⟨fun ⟨f,hf,h⟩ => ⟨f,(List.mem_filter.1 hf).1,h⟩,fun ⟨f,hf,h⟩ => ⟨f,List.mem_filter.2 ⟨hf,decide_eq_true ⟨fun q => ?_,fun q => hm (h.2.1.symm.trans q.2)⟩⟩,h⟩⟩
  have:=h.1
  omega
theorem sorted_ext : ∀ {a b : List Int},a.Pairwise (· < ·) → b.Pairwise (· < ·) → (∀ x,x ∈ a ↔ x ∈ b) → a = b
  | [],[],_,_,_ => rfl
  | [],y :: r,_,_,h => absurd ((h y).2 (by simp)) (by simp)
  | x :: l,[],_,_,h => absurd ((h x).1 (by simp)) (by simp)
  | x :: l,y :: r,ha,hb,h => by
    obtain ⟨a1,a2⟩:=List.pairwise_cons.1 ha
    obtain ⟨b1,b2⟩:=List.pairwise_cons.1 hb
    have hxy : x = y:=by
      rcases List.mem_cons.1 ((h x).1 (by simp)) with e|e
      · exact e
      · rcases List.mem_cons.1 ((h y).2 (by simp)) with e2|e2
        · exact e2.symm
        · have:=b1 x e;have:=a1 y e2;omega
    subst hxy
    rw [sorted_ext a2 b2 fun z => ⟨fun hz => ?_,fun hz => ?_⟩]
    · rcases List.mem_cons.1 ((h z).1 (List.mem_cons_of_mem _ hz)) with e|e
      · have:=a1 z hz;omega
      · exact e
    · rcases List.mem_cons.1 ((h z).2 (List.mem_cons_of_mem _ hz)) with e|e
      · have:=b1 z hz;omega
      · exact e
theorem apart_cases (n : Int) (C : List Fct) : casesL (apartL n C) = (casesL C).filter fun m => decide (m ≠ n):=by
  refine sorted_ext (casesL_sorted _) (List.Pairwise.filter _ (casesL_sorted C)) fun m => ?_
  rw [casesL_mem,List.mem_filter,casesL_mem,decide_eq_true_eq]
  constructor
  · rintro ⟨f,hf,ho⟩
    obtain ⟨h1,h2⟩:=List.mem_filter.1 hf
    have h3 : Apart n f:=of_decide_eq_true h2
    exact ⟨⟨f,h1,ho⟩,fun e => h3.1 ⟨ho.1,ho.2.trans e⟩⟩
  · rintro ⟨⟨f,hf,ho⟩,hm⟩
    exact ⟨f,List.mem_filter.2 ⟨hf,decide_eq_true (apart_of hm ho)⟩,ho⟩
open Classical in
theorem force_apart (n : Int) (C : List Fct) : forceL (apartL n C) = (forceL C).filter fun f => decide (f.ru.case ≠ n):=by
  unfold forceL
  rw [apart_cases,List.filterMap_filter,List.filter_filterMap]
  congr 1
  funext m
  by_cases hm : m = n
  · subst hm
    simp only [ne_eq,not_true_eq_false,decide_false,Bool.false_eq_true,if_false]
    symm
    cases h : (if HeldI C m then none else standI C m (lastI C m)) with
    | none => rfl
    | some f =>
      have : f.ru.case = m:=by
        split at h
        · cases h
        · exact (standI_some h).2.1.2
      simp [this]
  · simp only [ne_eq,hm,not_false_eq_true,decide_true,if_true]
    rw [apart_last hm,apart_stand hm]
    have he : (if HeldI (apartL n C) m then none else standI C m (lastI C m)) = (if HeldI C m then none else standI C m (lastI C m)):=by
      by_cases hh : HeldI C m
      · rw [if_pos hh,if_pos ((apart_held hm C).2 hh)]
      · rw [if_neg hh,if_neg fun q => hh ((apart_held hm C).1 q)]
    rw [he]
    cases h : (if HeldI C m then none else standI C m (lastI C m)) with
    | none => rfl
    | some f =>
      have : f.ru.case = m:=by
        split at h
        · cases h
        · exact (standI_some h).2.1.2
      simp [Option.filter,this,hm]
end Go.Hw
set_option linter.unusedVariables false
set_option linter.unusedSimpArgs false
namespace Go.Hw
open Go Go.Lib
def K45 (f : Fct) : Prop:=f.kind = 4 ∨ f.kind = 5
instance (f : Fct) : Decidable (K45 f):=by unfold K45;infer_instance
end Go.Hw
set_option linter.unusedVariables false
set_option linter.unusedSimpArgs false
namespace Go.Hw
open Go
def SepU (l : List Ivl) : Prop:=(∀ i ∈ l,i.lo ≤ i.hi) ∧ l.Pairwise fun a b => a.hi + 1 < b.lo
theorem SepU.tail {x : Ivl} {r : List Ivl} (h : SepU (x :: r)) : SepU r ∧ (∀ y ∈ r,x.hi + 1 < y.lo) ∧ x.lo ≤ x.hi:=by
  obtain ⟨h1,h2⟩:=h
  obtain ⟨h3,h4⟩:=List.pairwise_cons.1 h2
  exact ⟨⟨fun i hi => h1 i (List.mem_cons_of_mem _ hi),h4⟩,h3,h1 x List.mem_cons_self⟩
end Go.Hw
set_option linter.unusedVariables false
set_option linter.unusedSimpArgs false
namespace Go.Hw
open Go Go.Lib
def maxF (l : List Fct) : Option Fct:=l.foldl (fun m f => match m with|none => some f|some b => if 0 < cmpF f b then some f else some b) none
def AboutG (g : FGame) (r : FRul) : Prop:=r.g = g ∧ (r.kind = 1 ∨ r.kind = 2 ∨ r.kind = 3)
instance (g : FGame) (r : FRul) : Decidable (AboutG g r):=by unfold AboutG;infer_instance
noncomputable def aboutL (C : List Fct) (g : FGame) : List Fct:=(forceL C).filter fun f => decide (AboutG g f.ru)
noncomputable def ofGame (C : List Fct) (g : FGame) : FRul × Int × Bool:=match maxF (aboutL C g) with
  | none => (rul0,0,false)
  | some f => (f.ru,f.day,true)
def PtsOf (s c k : Int) (r : FRul) : Prop:=r.kind = 4 ∧ r.season = s ∧ r.comp = c ∧ r.club = k
instance (s c k : Int) (r : FRul) : Decidable (PtsOf s c k r):=by unfold PtsOf;infer_instance
def VoidIn (C : List Fct) (f : Fct) : Prop:=f.kind = 4 ∧ standI C f.ru.case f.ru.inst ≠ some f
instance (C : List Fct) (f : Fct) : Decidable (VoidIn C f):=by unfold VoidIn;infer_instance
end Go.Hw
set_option linter.unusedVariables false
set_option linter.unusedSimpArgs false
namespace Go.Hw
open Go Go.Lib
instance (C : List Fct) (n : Int) : Decidable (HeldI C n):=by unfold HeldI;infer_instance
end Go.Hw
set_option linter.unusedVariables false
set_option linter.unusedSimpArgs false
namespace Go.Hw
open Go Go.Lib
end Go.Hw

import Derived.Test.YtlnenhhbalpbpaaGreatDoorFB
import Derived.Test.YtlnenhhbalpbpaaGreatDoorNA
set_option linter.unusedVariables false
set_option linter.unusedSimpArgs false
namespace Go.Hw
open Go Go.Lib
def OfCase (n : Int) (f : Fct) : Prop:=f.kind = 4 ∧ f.ru.case = n
instance (n : Int) (f : Fct) : Decidable (OfCase n f):=by unfold OfCase;infer_instance
def lastI (C : List Fct) (n : Int) : Int:=C.foldl (fun m f => if OfCase n f then max m f.ru.inst else m) 0
def standI (C : List Fct) (n i : Int) : Option Fct:=C.find? fun f => decide (OfCase n f ∧ f.ru.inst = i)
def HeldI (C : List Fct) (n : Int) : Prop:=0 < lastI C n ∧ ∃ f ∈ C,f.kind = 5 ∧ f.aCase = n ∧ f.aInst = lastI C n ∧ f.aSusp = true
def insI (n : Int) : List Int → List Int
  | [] => [n]
  | m :: r => if m < n then m :: insI n r else if m = n then m :: r else n :: m :: r
def casesL (C : List Fct) : List Int:=C.foldl (fun o f => if f.kind = 4 then insI f.ru.case o else o) []
open Classical in
noncomputable def forceL (C : List Fct) : List Fct:=(casesL C).filterMap fun n => if HeldI C n then none else standI C n (lastI C n)
theorem insI_mem {n x : Int} : ∀ {l : List Int},x ∈ insI n l ↔ x = n ∨ x ∈ l
  | [] => by simp [insI]
  | m :: r => by
    unfold insI
    split
    · rw [List.mem_cons,insI_mem,List.mem_cons]
      constructor
      · rintro (h|h|h)
        · exact .inr (.inl h)
        · exact .inl h
        · exact .inr (.inr h)
      · rintro (h|h|h)
        · exact .inr (.inl h)
        · exact .inl h
        · exact .inr (.inr h)
    · split
      · rename_i h;subst h;simp
      · simp
theorem insI_sorted {n : Int} : ∀ {l : List Int},l.Pairwise (· < ·) → (insI n l).Pairwise (· < ·)
  | [],_ => by simp [insI]
  | m :: r,h => by
    obtain ⟨h1,h2⟩:=List.pairwise_cons.1 h
    unfold insI
    split
    · rename_i hmn
      refine List.pairwise_cons.2 ⟨fun x hx => ?_,insI_sorted h2⟩
      rcases insI_mem.1 hx with e|e
      · rw [e];exact hmn
      · exact h1 x e
    · split
      · exact h
      · refine List.pairwise_cons.2 ⟨fun x hx => ?_,h⟩
        rcases List.mem_cons.1 hx with e|e
        · omega
        · have:=h1 x e;omega
theorem casesL_snoc (C : List Fct) (f : Fct) : casesL (C ++ [f]) = if f.kind = 4 then insI f.ru.case (casesL C) else casesL C:=by unfold casesL;rw [List.foldl_append];rfl
theorem lastI_snoc (C : List Fct) (f : Fct) (n : Int) : lastI (C ++ [f]) n = if OfCase n f then max (lastI C n) f.ru.inst else lastI C n:=by unfold lastI;rw [List.foldl_append];rfl
theorem rev_ind {P : List Fct → Prop} (h0 : P []) (h1 : ∀ C f,P C → P (C ++ [f])) (C : List Fct) : P C:=by
  have : ∀ n,∀ C : List Fct,C.length = n → P C:=by
    intro n
    induction n with
    | zero => intro C h;rw [List.length_eq_zero_iff.1 h];exact h0
    | succ n ih =>
      intro C h
      have hne : C ≠ []:=fun e => by rw [e] at h;cases h
      rw [← List.dropLast_concat_getLast hne]
      exact h1 _ _ (ih _ (by rw [List.length_dropLast,h];rfl))
  exact this _ C rfl
theorem casesL_sorted (C : List Fct) : (casesL C).Pairwise (· < ·):=by
  refine rev_ind (P:=fun C => (casesL C).Pairwise (· < ·)) List.Pairwise.nil (fun C f ih => ?_) C
  show (casesL (C ++ [f])).Pairwise (· < ·)
  rw [casesL_snoc]
  split
  · exact insI_sorted ih
  · exact ih
theorem casesL_mem (C : List Fct) (n : Int) : n ∈ casesL C ↔ ∃ f ∈ C,OfCase n f:=by
  refine rev_ind (P:=fun C => n ∈ casesL C ↔ ∃ f ∈ C,OfCase n f) (by simp [casesL]) (fun C f ih => ?_) C
  show n ∈ casesL (C ++ [f]) ↔ _
  have e : (∃ g ∈ C ++ [f],OfCase n g) ↔ (∃ g ∈ C,OfCase n g) ∨ OfCase n f:=by
    constructor
    · rintro ⟨g,hg,ho⟩
      rcases List.mem_append.1 hg with h|h
      · exact .inl ⟨g,h,ho⟩
      · rw [List.mem_singleton] at h;subst h;exact .inr ho
    · rintro (⟨g,hg,ho⟩|ho)
      · exact ⟨g,List.mem_append.2 (.inl hg),ho⟩
      · exact ⟨f,by simp,ho⟩
  rw [e,← ih,casesL_snoc]
  split
  · rename_i hk
    rw [insI_mem]
    unfold OfCase
    constructor
    · rintro (h|h)
      · exact .inr ⟨hk,h.symm⟩
      · exact .inl h
    · rintro (h|h)
      · exact .inr h
      · exact .inl h.2.symm
  · rename_i hk
    exact ⟨.inl,fun h => h.elim id fun h => absurd h.1 hk⟩
theorem lastI_ge {C : List Fct} {n : Int} : 0 ≤ lastI C n ∧ ∀ f ∈ C,OfCase n f → f.ru.inst ≤ lastI C n:=by
  refine rev_ind (P:=fun C => 0 ≤ lastI C n ∧ ∀ f ∈ C,OfCase n f → f.ru.inst ≤ lastI C n) ⟨Int.le_refl _,by simp⟩ (fun C f ih => ?_) C
  show 0 ≤ lastI (C ++ [f]) n ∧ ∀ g ∈ C ++ [f],OfCase n g → g.ru.inst ≤ lastI (C ++ [f]) n
  obtain ⟨i1,i2⟩:=ih
  rw [lastI_snoc]
  split
  · refine ⟨by omega,fun g hg ho => ?_⟩
    rcases List.mem_append.1 hg with h|h
    · have:=i2 g h ho;omega
    · rw [List.mem_singleton] at h;subst h;omega
  · rename_i hn
    refine ⟨i1,fun g hg ho => ?_⟩
    rcases List.mem_append.1 hg with h|h
    · exact i2 g h ho
    · rw [List.mem_singleton] at h;subst h;exact absurd ho hn
theorem lastI_at {C : List Fct} {n : Int} : lastI C n = 0 ∨ ∃ f ∈ C,OfCase n f ∧ f.ru.inst = lastI C n:=by
  refine rev_ind (P:=fun C => lastI C n = 0 ∨ ∃ f ∈ C,OfCase n f ∧ f.ru.inst = lastI C n) (.inl rfl) (fun C f ih => ?_) C
  show lastI (C ++ [f]) n = 0 ∨ ∃ g ∈ C ++ [f],OfCase n g ∧ g.ru.inst = lastI (C ++ [f]) n
  rw [lastI_snoc]
  split
  · rename_i ho
    rcases Int.le_total (lastI C n) f.ru.inst with h|h
    · exact .inr ⟨f,by simp,ho,by omega⟩
    · rw [show max (lastI C n) f.ru.inst = lastI C n by omega]
      exact ih.imp id fun ⟨g,hg,h⟩ => ⟨g,List.mem_append.2 (.inl hg),h⟩
  · exact ih.imp id fun ⟨g,hg,h⟩ => ⟨g,List.mem_append.2 (.inl hg),h⟩
theorem standI_some {C : List Fct} {n i : Int} {f : Fct} (h : standI C n i = some f) : f ∈ C ∧ OfCase n f ∧ f.ru.inst = i:=by
  unfold standI at h
  have:=List.find?_some h
  exact ⟨List.mem_of_find?_eq_some h,(of_decide_eq_true this).1,(of_decide_eq_true this).2⟩
theorem standI_none {C : List Fct} {n i : Int} (h : standI C n i = none) : ∀ f ∈ C,¬ (OfCase n f ∧ f.ru.inst = i):=fun f hf q => by
  unfold standI at h
  have:=List.find?_eq_none.1 h f hf
  exact this (decide_eq_true q)
theorem fct_inst {f : Fct} (h : FctOk f) (hk : f.kind = 4) : 1 ≤ f.ru.inst ∧ f.ru.inst ≤ 3:=by
  have:=h.2.2.1
  unfold ContOk at this
  rw [if_neg (by omega),if_neg (by omega),if_neg (by omega),if_pos hk] at this
  exact ⟨this.2.2.1,this.2.2.2.1⟩
theorem stand_last {C : List Fct} (hok : ∀ f ∈ C,FctOk f) {n : Int} (h : ∃ f ∈ C,OfCase n f) : 0 < lastI C n ∧ ∃ f,standI C n (lastI C n) = some f:=by
  obtain ⟨f,hf,ho⟩:=h
  have h1:=fct_inst (hok f hf) ho.1
  have h2:=(lastI_ge (C:=C) (n:=n)).2 f hf ho
  have h0 : 0 < lastI C n:=by omega
  refine ⟨h0,?_⟩
  cases hs : standI C n (lastI C n) with
  | some g => exact ⟨g,rfl⟩
  | none =>
    rcases lastI_at (C:=C) (n:=n) with e|⟨g,hg,ho2,hi⟩
    · omega
    · exact absurd ⟨ho2,hi⟩ (standI_none hs g hg)
theorem force_spec (C : List Fct) (f : Fct) : f ∈ forceL C ↔ f ∈ C ∧ f.kind = 4 ∧ ¬ HeldI C f.ru.case ∧ standI C f.ru.case (lastI C f.ru.case) = some f:=by
  unfold forceL
  rw [List.mem_filterMap]
  constructor
  · rintro ⟨n,hn,e⟩
    split at e
    · cases e
    · rename_i hh
      obtain ⟨h1,h2,h3⟩:=standI_some e
      have hc : f.ru.case = n:=h2.2
      subst hc
      exact ⟨h1,h2.1,hh,e⟩
  · rintro ⟨h1,h2,h3,h4⟩
    exact ⟨f.ru.case,(casesL_mem C _).2 ⟨f,h1,h2,rfl⟩,by rw [if_neg h3];exact h4⟩
theorem force_sorted (C : List Fct) : (forceL C).Pairwise (fun f g => f.ru.case < g.ru.case):=by
  have h:=casesL_sorted C
  unfold forceL
  generalize casesL C = L at h
  induction L with
  | nil => exact List.Pairwise.nil
  | cons n r ih =>
    obtain ⟨h1,h2⟩:=List.pairwise_cons.1 h
    rw [List.filterMap_cons]
    split
    · exact ih h2
    · rename_i f e
      refine List.pairwise_cons.2 ⟨fun g hg => ?_,ih h2⟩
      obtain ⟨m,hm,e2⟩:=List.mem_filterMap.1 hg
      have q1 : f.ru.case = n:=by
        split at e
        · cases e
        · exact (standI_some e).2.1.2
      have q2 : g.ru.case = m:=by
        split at e2
        · cases e2
        · exact (standI_some e2).2.1.2
      rw [q1,q2]
      exact h1 m hm
def Apart (n : Int) (f : Fct) : Prop:=¬ (f.kind = 4 ∧ f.ru.case = n) ∧ ¬ (f.kind = 5 ∧ f.aCase = n)
instance (n : Int) (f : Fct) : Decidable (Apart n f):=by unfold Apart;infer_instance
def apartL (n : Int) (C : List Fct) : List Fct:=C.filter fun f => decide (Apart n f)
theorem apartL_snoc (n : Int) (C : List Fct) (f : Fct) : apartL n (C ++ [f]) = if Apart n f then apartL n C ++ [f] else apartL n C:=by
  unfold apartL
  rw [List.filter_append]
  by_cases h : Apart n f <;> simp [h]
theorem apart_of {n m : Int} (hm : m ≠ n) {f : Fct} (h : OfCase m f) : Apart n f:=⟨fun q => hm (h.2.symm.trans q.2),fun q => by have:=h.1;omega⟩
theorem apart_last {n m : Int} (hm : m ≠ n) (C : List Fct) : lastI (apartL n C) m = lastI C m:=by
  refine rev_ind (P:=fun C => lastI (apartL n C) m = lastI C m) rfl (fun C f ih => ?_) C
  show lastI (apartL n (C ++ [f])) m = lastI (C ++ [f]) m
  rw [apartL_snoc,lastI_snoc]
  split
  · rw [lastI_snoc,ih]
  · rename_i h
    rw [if_neg (fun q => h (apart_of hm q)),ih]
theorem apart_stand {n m : Int} (hm : m ≠ n) (C : List Fct) (i : Int) : standI (apartL n C) m i = standI C m i:=by
  unfold standI apartL
  rw [List.find?_filter]
  congr 1
  funext f
  by_cases h : OfCase m f ∧ f.ru.inst = i
  · simp [h,apart_of hm h.1]
  · simp [h]
theorem apart_held {n m : Int} (hm : m ≠ n) (C : List Fct) : HeldI (apartL n C) m ↔ HeldI C m:=by
  unfold HeldI
  rw [apart_last hm]
  refine and_congr_right fun _ => ⟨fun ⟨f,hf,h⟩ => ⟨f,(List.mem_filter.1 hf).1,h⟩,fun ⟨f,hf,h⟩ => ⟨f,List.mem_filter.2 ⟨hf,decide_eq_true ⟨fun q => ?_,fun q => hm (h.2.1.symm.trans q.2)⟩⟩,h⟩⟩
  have:=h.1
  omega
theorem sorted_ext : ∀ {a b : List Int},a.Pairwise (· < ·) → b.Pairwise (· < ·) → (∀ x,x ∈ a ↔ x ∈ b) → a = b
  | [],[],_,_,_ => rfl
  | [],y :: r,_,_,h => absurd ((h y).2 (by simp)) (by simp)
  | x :: l,[],_,_,h => absurd ((h x).1 (by simp)) (by simp)
  | x :: l,y :: r,ha,hb,h => by
    obtain ⟨a1,a2⟩:=List.pairwise_cons.1 ha
    obtain ⟨b1,b2⟩:=List.pairwise_cons.1 hb
    have hxy : x = y:=by
      rcases List.mem_cons.1 ((h x).1 (by simp)) with e|e
      · exact e
      · rcases List.mem_cons.1 ((h y).2 (by simp)) with e2|e2
        · exact e2.symm
        · have:=b1 x e;have:=a1 y e2;omega
    subst hxy
    rw [sorted_ext a2 b2 fun z => ⟨fun hz => ?_,fun hz => ?_⟩]
    · rcases List.mem_cons.1 ((h z).1 (List.mem_cons_of_mem _ hz)) with e|e
      · have:=a1 z hz;omega
      · exact e
    · rcases List.mem_cons.1 ((h z).2 (List.mem_cons_of_mem _ hz)) with e|e
      · have:=b1 z hz;omega
      · exact e
theorem apart_cases (n : Int) (C : List Fct) : casesL (apartL n C) = (casesL C).filter fun m => decide (m ≠ n):=by
  refine sorted_ext (casesL_sorted _) (List.Pairwise.filter _ (casesL_sorted C)) fun m => ?_
  rw [casesL_mem,List.mem_filter,casesL_mem,decide_eq_true_eq]
  constructor
  · rintro ⟨f,hf,ho⟩
    obtain ⟨h1,h2⟩:=List.mem_filter.1 hf
    have h3 : Apart n f:=of_decide_eq_true h2
    exact ⟨⟨f,h1,ho⟩,fun e => h3.1 ⟨ho.1,ho.2.trans e⟩⟩
  · rintro ⟨⟨f,hf,ho⟩,hm⟩
    exact ⟨f,List.mem_filter.2 ⟨hf,decide_eq_true (apart_of hm ho)⟩,ho⟩
open Classical in
theorem force_apart (n : Int) (C : List Fct) : forceL (apartL n C) = (forceL C).filter fun f => decide (f.ru.case ≠ n):=by
  unfold forceL
  rw [apart_cases,List.filterMap_filter,List.filter_filterMap]
  congr 1
  funext m
  by_cases hm : m = n
  · subst hm
    simp only [ne_eq,not_true_eq_false,decide_false,Bool.false_eq_true,if_false]
    symm
    cases h : (if HeldI C m then none else standI C m (lastI C m)) with
    | none => rfl
    | some f =>
      have : f.ru.case = m:=by
        split at h
        · cases h
        · exact (standI_some h).2.1.2
      simp [this]
  · simp only [ne_eq,hm,not_false_eq_true,decide_true,if_true]
    rw [apart_last hm,apart_stand hm]
    have he : (if HeldI (apartL n C) m then none else standI C m (lastI C m)) = (if HeldI C m then none else standI C m (lastI C m)):=by
      by_cases hh : HeldI C m
      · rw [if_pos hh,if_pos ((apart_held hm C).2 hh)]
      · rw [if_neg hh,if_neg fun q => hh ((apart_held hm C).1 q)]
    rw [he]
    cases h : (if HeldI C m then none else standI C m (lastI C m)) with
    | none => rfl
    | some f =>
      have : f.ru.case = m:=by
        split at h
        · cases h
        · exact (standI_some h).2.1.2
      simp [Option.filter,this,hm]
end Go.Hw
set_option linter.unusedVariables false
set_option linter.unusedSimpArgs false
namespace Go.Hw
open Go Go.Lib
def K45 (f : Fct) : Prop:=f.kind = 4 ∨ f.kind = 5
instance (f : Fct) : Decidable (K45 f):=by unfold K45;infer_instance
def caseF (C : List Fct) : List Fct:=C.filter fun f => decide (K45 f)
theorem caseF_snoc (C : List Fct) (f : Fct) : caseF (C ++ [f]) = if K45 f then caseF C ++ [f] else caseF C:=by
  unfold caseF
  rw [List.filter_append]
  by_cases h : K45 f <;> simp [h]
theorem OfCase.k45 {n : Int} {f : Fct} (h : OfCase n f) : K45 f:=.inl h.1
theorem casesL_45 (C : List Fct) : casesL (caseF C) = casesL C:=by
  refine rev_ind (P:=fun C => casesL (caseF C) = casesL C) rfl (fun C f ih => ?_) C
  show casesL (caseF (C ++ [f])) = casesL (C ++ [f])
  rw [caseF_snoc,casesL_snoc]
  by_cases h : K45 f
  · rw [if_pos h,casesL_snoc,ih]
  · rw [if_neg h,if_neg (fun q => h (.inl q)),ih]
end Go.Hw
set_option linter.unusedVariables false
set_option linter.unusedSimpArgs false
namespace Go.Hw
open Go
end Go.Hw
set_option linter.unusedVariables false
set_option linter.unusedSimpArgs false
namespace Go.Hw
open Go Go.Lib
def maxF (l : List Fct) : Option Fct:=l.foldl (fun m f => match m with|none => some f|some b => if 0 < cmpF f b then some f else some b) none
theorem maxF_snoc (l : List Fct) (f : Fct) : maxF (l ++ [f]) = match maxF l with|none => some f|some b => if 0 < cmpF f b then some f else some b:=by unfold maxF;rw [List.foldl_append];rfl
theorem maxF_some (l : List Fct) (f : Fct) : ∃ m,maxF (l ++ [f]) = some m:=by
  rw [maxF_snoc]
  cases maxF l with
  | none => exact ⟨f,rfl⟩
  | some b => dsimp only;split <;> exact ⟨_,rfl⟩
theorem maxF_none {l : List Fct} : maxF l = none ↔ l = []:=by
  constructor
  · intro h
    rcases List.eq_nil_or_concat l with e|⟨o,z,e⟩
    · exact e
    · rw [e,List.concat_eq_append] at h
      obtain ⟨m,hm⟩:=maxF_some o z
      rw [hm] at h;cases h
  · rintro rfl;rfl
theorem maxF_mem {l : List Fct} {m : Fct} (h : maxF l = some m) : m ∈ l:=by
  have : ∀ l : List Fct,∀ m,maxF l = some m → m ∈ l:=fun l => by
    refine rev_ind (P:=fun l => ∀ m,maxF l = some m → m ∈ l) (by intro m h;cases h) (fun C f ih => ?_) l
    intro m h
    rw [maxF_snoc] at h
    cases hq : maxF C with
    | none => rw [hq] at h;cases h;simp
    | some b =>
      rw [hq] at h
      dsimp only at h
      split at h
      · cases h;simp
      · cases h;exact List.mem_append.2 (.inl (ih _ hq))
  exact this l m h
def AboutG (g : FGame) (r : FRul) : Prop:=r.g = g ∧ (r.kind = 1 ∨ r.kind = 2 ∨ r.kind = 3)
instance (g : FGame) (r : FRul) : Decidable (AboutG g r):=by unfold AboutG;infer_instance
noncomputable def aboutL (C : List Fct) (g : FGame) : List Fct:=(forceL C).filter fun f => decide (AboutG g f.ru)
noncomputable def ofGame (C : List Fct) (g : FGame) : FRul × Int × Bool:=match maxF (aboutL C g) with
  | none => (rul0,0,false)
  | some f => (f.ru,f.day,true)
def PtsOf (s c k : Int) (r : FRul) : Prop:=r.kind = 4 ∧ r.season = s ∧ r.comp = c ∧ r.club = k
instance (s c k : Int) (r : FRul) : Decidable (PtsOf s c k r):=by unfold PtsOf;infer_instance
theorem force_ok {C : List Fct} (hok : ∀ f ∈ C,FctOk f) {f : Fct} (h : f ∈ forceL C) : f ∈ C ∧ FctOk f ∧ f.kind = 4 ∧ RulOk f.ru:=by
  obtain ⟨h1,h2,_⟩:=(force_spec C f).1 h
  have h3:=hok f h1
  have h4:=h3.2.2.1
  unfold ContOk at h4
  rw [if_neg (by omega),if_neg (by omega),if_neg (by omega),if_pos h2] at h4
  exact ⟨h1,h3,h2,h4⟩
def VoidIn (C : List Fct) (f : Fct) : Prop:=f.kind = 4 ∧ standI C f.ru.case f.ru.inst ≠ some f
instance (C : List Fct) (f : Fct) : Decidable (VoidIn C f):=by unfold VoidIn;infer_instance
end Go.Hw
set_option linter.unusedVariables false
set_option linter.unusedSimpArgs false
namespace Go.Hw
open Go Go.Lib
instance (C : List Fct) (n : Int) : Decidable (HeldI C n):=by unfold HeldI;infer_instance
end Go.Hw
set_option linter.unusedVariables false
set_option linter.unusedSimpArgs false
namespace Go.Hw
open Go Go.Lib
theorem canon_case {l : List Fct} (h32 : ∀ f ∈ l,f.void.length = 32) : canonL (caseF l) = caseF (canonL l):=by
  obtain ⟨h1,h2⟩:=canonL_spec l h32
  obtain ⟨h3,h4⟩:=canonL_spec (caseF l) fun f hf => h32 f (List.mem_filter.1 hf).1
  refine sortF_ext h3 (List.Pairwise.filter _ h1) fun x => ?_
  rw [h4]
  unfold caseF
  rw [List.mem_filter,List.mem_filter,h2]
  exact ⟨fun h => ⟨⟨h.1.1,h.2⟩,h.1.2⟩,fun h => ⟨⟨h.1.1,h.2⟩,h.1.2⟩⟩
end Go.Hw

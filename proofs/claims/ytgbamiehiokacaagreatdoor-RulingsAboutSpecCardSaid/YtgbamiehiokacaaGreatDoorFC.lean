import Derived.Test.YtgbamiehiokacaaGreatDoorFB
import Derived.Test.YtgbamiehiokacaaGreatDoorNA
set_option linter.unusedVariables false
set_option linter.unusedSimpArgs false
namespace Go.Hw
open Go Go.Lib
def OfCase (n : Int) (f : Fct) : Prop:=f.kind = 4 ∧ f.ru.case = n
instance (n : Int) (f : Fct) : Decidable (OfCase n f):=by unfold OfCase;infer_instance
def lastI (C : List Fct) (n : Int) : Int:=C.foldl (fun m f => if OfCase n f then max m f.ru.inst else m) 0
def standI (C : List Fct) (n i : Int) : Option Fct:=C.find? fun f => decide (OfCase n f ∧ f.ru.inst = i)
def HeldI (C : List Fct) (n : Int) : Prop:=0 < lastI C n ∧ ∃ f ∈ C,f.kind = 5 ∧ f.aCase = n ∧ f.aInst = lastI C n ∧ f.aSusp = true
def insI (n : Int) : List Int → List Int
 | [] => [n]
 | m :: r => if m < n then m :: insI n r else if m = n then m :: r else n :: m :: r
def casesL (C : List Fct) : List Int:=C.foldl (fun o f => if f.kind = 4 then insI f.ru.case o else o) []
open Classical in
noncomputable def forceL (C : List Fct) : List Fct:=(casesL C).filterMap fun n => if HeldI C n then none else standI C n (lastI C n)
theorem Rn {n x : Int} : ∀ {l : List Int},x ∈ insI n l ↔ x = n ∨ x ∈ l
 | [] => by simp [insI]
 | m :: r => by
   unfold insI
   split
   · rw [List.mem_cons,Rn,List.mem_cons]
     constructor
     · rintro (h|h|h)
       · exact .inr (.inl h)
       · exact .inl h
       · exact .inr (.inr h)
     · rintro (h|h|h)
       · exact .inr (.inl h)
       · exact .inl h
       · exact .inr (.inr h)
   · split
     · rename_i h;subst h;simp
     · simp
theorem Nq {n : Int} : ∀ {l : List Int},l.Pairwise (· < ·) → (insI n l).Pairwise (· < ·)
 | [],_ => by simp [insI]
 | m :: r,h => by
   obtain ⟨h1,h2⟩:=List.pairwise_cons.1 h
   unfold insI
   split
   · rename_i hmn
     refine List.pairwise_cons.2 ⟨fun x hx => ?_,Nq h2⟩
     rcases Rn.1 hx with e|e
     · rw [e];exact hmn
     · exact h1 x e
   · split
     · exact h
     · refine List.pairwise_cons.2 ⟨fun x hx => ?_,h⟩
       rcases List.mem_cons.1 hx with e|e
       · omega
       · have:=h1 x e;omega
theorem Ff (C : List Fct) (f : Fct) : casesL (C ++ [f]) = if f.kind = 4 then insI f.ru.case (casesL C) else casesL C:=by unfold casesL;rw [List.foldl_append];rfl
theorem Gr (C : List Fct) (f : Fct) (n : Int) : lastI (C ++ [f]) n = if OfCase n f then max (lastI C n) f.ru.inst else lastI C n:=by unfold lastI;rw [List.foldl_append];rfl
theorem It {P : List Fct → Prop} (h0 : P []) (h1 : ∀ C f,P C → P (C ++ [f])) (C : List Fct) : P C:=by
 have : ∀ n,∀ C : List Fct,C.length = n → P C:=by
  intro n
  induction n with
  | zero => intro C h;rw [List.length_eq_zero_iff.1 h];exact h0
  | succ n ih =>
    intro C h
    have hne : C ≠ []:=fun e => by rw [e] at h;cases h
    rw [← List.dropLast_concat_getLast hne]
    exact h1 _ _ (ih _ (by rw [List.length_dropLast,h];rfl))
 exact this _ C rfl
theorem Fq (C : List Fct) : (casesL C).Pairwise (· < ·):=by
 refine It (P:=fun C => (casesL C).Pairwise (· < ·)) List.Pairwise.nil (fun C f ih => ?_) C
 show (casesL (C ++ [f])).Pairwise (· < ·)
 rw [Ff]
 split
 · exact Nq ih
 · exact ih
theorem Ep (C : List Fct) (n : Int) : n ∈ casesL C ↔ ∃ f ∈ C,OfCase n f:=by
 refine It (P:=fun C => n ∈ casesL C ↔ ∃ f ∈ C,OfCase n f) (by simp [casesL]) (fun C f ih => ?_) C
 show n ∈ casesL (C ++ [f]) ↔ _
 have e : (∃ g ∈ C ++ [f],OfCase n g) ↔ (∃ g ∈ C,OfCase n g) ∨ OfCase n f:=by
  constructor
  · rintro ⟨g,hg,ho⟩
    rcases List.mem_append.1 hg with h|h
    · exact .inl ⟨g,h,ho⟩
    · rw [List.mem_singleton] at h;subst h;exact .inr ho
  · rintro (⟨g,hg,ho⟩|ho)
    · exact ⟨g,List.mem_append.2 (.inl hg),ho⟩
    · exact ⟨f,by simp,ho⟩
 rw [e,← ih,Ff]
 split
 · rename_i hk
   rw [Rn]
   unfold OfCase
   constructor
   · rintro (h|h)
     · exact .inr ⟨hk,h.symm⟩
     · exact .inl h
   · rintro (h|h)
     · exact .inr h
     · exact .inl h.2.symm
 · rename_i hk
   exact ⟨.inl,fun h => h.elim id fun h => absurd h.1 hk⟩
theorem lastI_ge {C : List Fct} {n : Int} : 0 ≤ lastI C n ∧ ∀ f ∈ C,OfCase n f → f.ru.inst ≤ lastI C n:=by
 refine It (P:=fun C => 0 ≤ lastI C n ∧ ∀ f ∈ C,OfCase n f → f.ru.inst ≤ lastI C n) ⟨Int.le_refl _,by simp⟩ (fun C f ih => ?_) C
 show 0 ≤ lastI (C ++ [f]) n ∧ ∀ g ∈ C ++ [f],OfCase n g → g.ru.inst ≤ lastI (C ++ [f]) n
 obtain ⟨i1,i2⟩:=ih
 rw [Gr]
 split
 · refine ⟨by omega,fun g hg ho => ?_⟩
   rcases List.mem_append.1 hg with h|h
   · have:=i2 g h ho;omega
   · rw [List.mem_singleton] at h;subst h;omega
 · rename_i hn
   refine ⟨i1,fun g hg ho => ?_⟩
   rcases List.mem_append.1 hg with h|h
   · exact i2 g h ho
   · rw [List.mem_singleton] at h;subst h;exact absurd ho hn
theorem Zg {C : List Fct} {n : Int} : lastI C n = 0 ∨ ∃ f ∈ C,OfCase n f ∧ f.ru.inst = lastI C n:=by
 refine It (P:=fun C => lastI C n = 0 ∨ ∃ f ∈ C,OfCase n f ∧ f.ru.inst = lastI C n) (.inl rfl) (fun C f ih => ?_) C
 show lastI (C ++ [f]) n = 0 ∨ ∃ g ∈ C ++ [f],OfCase n g ∧ g.ru.inst = lastI (C ++ [f]) n
 rw [Gr]
 split
 · rename_i ho
   rcases Int.le_total (lastI C n) f.ru.inst with h|h
   · exact .inr ⟨f,by simp,ho,by omega⟩
   · rw [show max (lastI C n) f.ru.inst = lastI C n by omega]
     exact ih.imp id fun ⟨g,hg,h⟩ => ⟨g,List.mem_append.2 (.inl hg),h⟩
 · exact ih.imp id fun ⟨g,hg,h⟩ => ⟨g,List.mem_append.2 (.inl hg),h⟩
theorem Gx {C : List Fct} {n i : Int} {f : Fct} (h : standI C n i = some f) : f ∈ C ∧ OfCase n f ∧ f.ru.inst = i:=by
 unfold standI at h
 have:=List.find?_some h
 exact ⟨List.mem_of_find?_eq_some h,(of_decide_eq_true this).1,(of_decide_eq_true this).2⟩
theorem My {C : List Fct} {n i : Int} (h : standI C n i = none) : ∀ f ∈ C,¬ (OfCase n f ∧ f.ru.inst = i):=fun f hf q => by
 unfold standI at h
 have:=List.find?_eq_none.1 h f hf
 exact this (decide_eq_true q)
theorem Sa {f : Fct} (h : FctOk f) (hk : f.kind = 4) : 1 ≤ f.ru.inst ∧ f.ru.inst ≤ 3:=by
 have:=h.2.2.1
 unfold ContOk at this
 rw [if_neg (by omega),if_neg (by omega),if_neg (by omega),if_pos hk] at this
 exact ⟨this.2.2.1,this.2.2.2.1⟩
theorem Ks {C : List Fct} (hok : ∀ f ∈ C,FctOk f) {n : Int} (h : ∃ f ∈ C,OfCase n f) : 0 < lastI C n ∧ ∃ f,standI C n (lastI C n) = some f:=by
 obtain ⟨f,hf,ho⟩:=h
 have h1:=Sa (hok f hf) ho.1
 have h2:=(lastI_ge (C:=C) (n:=n)).2 f hf ho
 have h0 : 0 < lastI C n:=by omega
 refine ⟨h0,?_⟩
 cases hs : standI C n (lastI C n) with
 | some g => exact ⟨g,rfl⟩
 | none =>
   rcases Zg (C:=C) (n:=n) with e|⟨g,hg,ho2,hi⟩
   · omega
   · exact absurd ⟨ho2,hi⟩ (My hs g hg)
theorem Bia (C : List Fct) (f : Fct) : f ∈ forceL C ↔ f ∈ C ∧ f.kind = 4 ∧ ¬ HeldI C f.ru.case ∧ standI C f.ru.case (lastI C f.ru.case) = some f:=by
 unfold forceL
 rw [List.mem_filterMap]
 constructor
 · rintro ⟨n,hn,e⟩
   split at e
   · cases e
   · rename_i hh
     obtain ⟨h1,h2,h3⟩:=Gx e
     have hc : f.ru.case = n:=h2.2
     subst hc
     exact ⟨h1,h2.1,hh,e⟩
 · rintro ⟨h1,h2,h3,h4⟩
   exact ⟨f.ru.case,(Ep C _).2 ⟨f,h1,h2,rfl⟩,by rw [if_neg h3];exact h4⟩
def Apart (n : Int) (f : Fct) : Prop:=¬ (f.kind = 4 ∧ f.ru.case = n) ∧ ¬ (f.kind = 5 ∧ f.aCase = n)
instance (n : Int) (f : Fct) : Decidable (Apart n f):=by unfold Apart;infer_instance
def apartL (n : Int) (C : List Fct) : List Fct:=C.filter fun f => decide (Apart n f)
theorem Xu (n : Int) (C : List Fct) (f : Fct) : apartL n (C ++ [f]) = if Apart n f then apartL n C ++ [f] else apartL n C:=by
 unfold apartL
 rw [List.filter_append]
 by_cases h : Apart n f <;> simp [h]
theorem Sr {n m : Int} (hm : m ≠ n) {f : Fct} (h : OfCase m f) : Apart n f:=⟨fun q => hm (h.2.symm.trans q.2),fun q => by have:=h.1;omega⟩
theorem Qk {n m : Int} (hm : m ≠ n) (C : List Fct) : lastI (apartL n C) m = lastI C m:=by
 refine It (P:=fun C => lastI (apartL n C) m = lastI C m) rfl (fun C f ih => ?_) C
 show lastI (apartL n (C ++ [f])) m = lastI (C ++ [f]) m
 rw [Xu,Gr]
 split
 · rw [Gr,ih]
 · rename_i h
   rw [if_neg (fun q => h (Sr hm q)),ih]
theorem Xs {n m : Int} (hm : m ≠ n) (C : List Fct) (i : Int) : standI (apartL n C) m i = standI C m i:=by
 unfold standI apartL
 rw [List.find?_filter]
 congr 1
 funext f
 by_cases h : OfCase m f ∧ f.ru.inst = i
 · simp [h,Sr hm h.1]
 · simp [h]
theorem Ql {n m : Int} (hm : m ≠ n) (C : List Fct) : HeldI (apartL n C) m ↔ HeldI C m:=by
 unfold HeldI
 rw [Qk hm]
 refine and_congr_right fun _ => ⟨fun ⟨f,hf,h⟩ => ⟨f,(List.mem_filter.1 hf).1,h⟩,fun ⟨f,hf,h⟩ => ⟨f,List.mem_filter.2 ⟨hf,decide_eq_true ⟨fun q => ?_,fun q => hm (h.2.1.symm.trans q.2)⟩⟩,h⟩⟩
 have:=h.1
 omega
theorem Kt : ∀ {a b : List Int},a.Pairwise (· < ·) → b.Pairwise (· < ·) → (∀ x,x ∈ a ↔ x ∈ b) → a = b
 | [],[],_,_,_ => rfl
 | [],y :: r,_,_,h => absurd ((h y).2 (by simp)) (by simp)
 | x :: l,[],_,_,h => absurd ((h x).1 (by simp)) (by simp)
 | x :: l,y :: r,ha,hb,h => by
   obtain ⟨a1,a2⟩:=List.pairwise_cons.1 ha
   obtain ⟨b1,b2⟩:=List.pairwise_cons.1 hb
   have hxy : x = y:=by
    rcases List.mem_cons.1 ((h x).1 (by simp)) with e|e
    · exact e
    · rcases List.mem_cons.1 ((h y).2 (by simp)) with e2|e2
      · exact e2.symm
      · have:=b1 x e;have:=a1 y e2;omega
   subst hxy
   rw [Kt a2 b2 fun z => ⟨fun hz => ?_,fun hz => ?_⟩]
   · rcases List.mem_cons.1 ((h z).1 (List.mem_cons_of_mem _ hz)) with e|e
     · have:=a1 z hz;omega
     · exact e
   · rcases List.mem_cons.1 ((h z).2 (List.mem_cons_of_mem _ hz)) with e|e
     · have:=b1 z hz;omega
     · exact e
theorem Xt (n : Int) (C : List Fct) : casesL (apartL n C) = (casesL C).filter fun m => decide (m ≠ n):=by
 refine Kt (Fq _) (List.Pairwise.filter _ (Fq C)) fun m => ?_
 rw [Ep,List.mem_filter,Ep,decide_eq_true_eq]
 constructor
 · rintro ⟨f,hf,ho⟩
   obtain ⟨h1,h2⟩:=List.mem_filter.1 hf
   have h3 : Apart n f:=of_decide_eq_true h2
   exact ⟨⟨f,h1,ho⟩,fun e => h3.1 ⟨ho.1,ho.2.trans e⟩⟩
 · rintro ⟨⟨f,hf,ho⟩,hm⟩
   exact ⟨f,List.mem_filter.2 ⟨hf,decide_eq_true (Sr hm ho)⟩,ho⟩
open Classical in
theorem force_apart (n : Int) (C : List Fct) : forceL (apartL n C) = (forceL C).filter fun f => decide (f.ru.case ≠ n):=by
 unfold forceL
 rw [Xt,List.filterMap_filter,List.filter_filterMap]
 congr 1
 funext m
 by_cases hm : m = n
 · subst hm
   simp only [ne_eq,not_true_eq_false,decide_false,Bool.false_eq_true,if_false]
   symm
   cases h : (if HeldI C m then none else standI C m (lastI C m)) with
   | none => rfl
   | some f =>
     have : f.ru.case = m:=by
      split at h
      · cases h
      · exact (Gx h).2.1.2
     simp [this]
 · simp only [ne_eq,hm,not_false_eq_true,decide_true,if_true]
   rw [Qk hm,Xs hm]
   have he : (if HeldI (apartL n C) m then none else standI C m (lastI C m)) = (if HeldI C m then none else standI C m (lastI C m)):=by
    by_cases hh : HeldI C m
    · rw [if_pos hh,if_pos ((Ql hm C).2 hh)]
    · rw [if_neg hh,if_neg fun q => hh ((Ql hm C).1 q)]
   rw [he]
   cases h : (if HeldI C m then none else standI C m (lastI C m)) with
   | none => rfl
   | some f =>
     have : f.ru.case = m:=by
      split at h
      · cases h
      · exact (Gx h).2.1.2
     simp [Option.filter,this,hm]
end Go.Hw
namespace Go.Hw
open Go Go.Lib
def K45 (f : Fct) : Prop:=f.kind = 4 ∨ f.kind = 5
instance (f : Fct) : Decidable (K45 f):=by unfold K45;infer_instance
def caseF (C : List Fct) : List Fct:=C.filter fun f => decide (K45 f)
theorem Bpa (C : List Fct) (f : Fct) : caseF (C ++ [f]) = if K45 f then caseF C ++ [f] else caseF C:=by
 unfold caseF
 rw [List.filter_append]
 by_cases h : K45 f <;> simp [h]
theorem OfCase.k45 {n : Int} {f : Fct} (h : OfCase n f) : K45 f:=.inl h.1
theorem casesL_45 (C : List Fct) : casesL (caseF C) = casesL C:=by
 refine It (P:=fun C => casesL (caseF C) = casesL C) rfl (fun C f ih => ?_) C
 show casesL (caseF (C ++ [f])) = casesL (C ++ [f])
 rw [Bpa,Ff]
 by_cases h : K45 f
 · rw [if_pos h,Ff,ih]
 · rw [if_neg h,if_neg (fun q => h (.inl q)),ih]
end Go.Hw
namespace Go.Hw
open Go
def InU (n : Int) (l : List Ivl) : Prop:=∃ i ∈ l,i.lo ≤ n ∧ n ≤ i.hi
theorem Ea (n : Int) : ¬ InU n []:=by rintro ⟨i,h,_⟩;cases h
theorem Cj {n : Int} {i : Ivl} {l : List Ivl} : InU n (i :: l) ↔ (i.lo ≤ n ∧ n ≤ i.hi) ∨ InU n l:=by
 constructor
 · rintro ⟨j,hj,h⟩
   rcases List.mem_cons.1 hj with e|e
   · subst e;exact .inl h
   · exact .inr ⟨j,e,h⟩
 · rintro (h|⟨j,hj,h⟩)
   · exact ⟨i,List.mem_cons_self,h⟩
   · exact ⟨j,List.mem_cons_of_mem _ hj,h⟩
theorem Dz {n : Int} {a b : List Ivl} : InU n (a ++ b) ↔ InU n a ∨ InU n b:=by
 constructor
 · rintro ⟨j,hj,h⟩
   rcases List.mem_append.1 hj with e|e
   · exact .inl ⟨j,e,h⟩
   · exact .inr ⟨j,e,h⟩
 · rintro (⟨j,hj,h⟩|⟨j,hj,h⟩)
   · exact ⟨j,List.mem_append.2 (.inl hj),h⟩
   · exact ⟨j,List.mem_append.2 (.inr hj),h⟩
def SepU (l : List Ivl) : Prop:=(∀ i ∈ l,i.lo ≤ i.hi) ∧ l.Pairwise fun a b => a.hi + 1 < b.lo
theorem SepU.tail {x : Ivl} {r : List Ivl} (h : SepU (x :: r)) : SepU r ∧ (∀ y ∈ r,x.hi + 1 < y.lo) ∧ x.lo ≤ x.hi:=by
 obtain ⟨h1,h2⟩:=h
 obtain ⟨h3,h4⟩:=List.pairwise_cons.1 h2
 exact ⟨⟨fun i hi => h1 i (List.mem_cons_of_mem _ hi),h4⟩,h3,h1 x List.mem_cons_self⟩
theorem SepU.low {x : Ivl} {r : List Ivl} (h : SepU (x :: r)) {n : Int} (hn : InU n (x :: r)) : x.lo ≤ n:=by
 obtain ⟨h1,h2,h3⟩:=h.tail
 rcases Cj.1 hn with q|⟨j,hj,q⟩
 · exact q.1
 · have:=h2 j hj;omega
theorem Yr : ∀ {a b : List Ivl},SepU a → SepU b → (∀ n,InU n a ↔ InU n b) → a = b
 | [],[],_,_,_ => rfl
 | [],y :: s,_,hb,h => by
   have:=hb.tail.2.2
   exact absurd ((h y.lo).2 (Cj.2 (.inl ⟨by omega,by omega⟩))) (Ea _)
 | x :: r,[],ha,_,h => by
   have:=ha.tail.2.2
   exact absurd ((h x.lo).1 (Cj.2 (.inl ⟨by omega,by omega⟩))) (Ea _)
 | x :: r,y :: s,ha,hb,h => by
   obtain ⟨a1,a2,a3⟩:=ha.tail
   obtain ⟨b1,b2,b3⟩:=hb.tail
   have l1 : y.lo ≤ x.lo:=hb.low ((h x.lo).1 (Cj.2 (.inl ⟨by omega,by omega⟩)))
   have l2 : x.lo ≤ y.lo:=ha.low ((h y.lo).2 (Cj.2 (.inl ⟨by omega,by omega⟩)))
   have e1 : y.hi ≤ x.hi:=by
    apply Int.not_lt.1
    intro q
    rcases Cj.1 ((h (x.hi + 1)).2 (Cj.2 (.inl ⟨by omega,by omega⟩))) with w|⟨j,hj,w⟩
    · omega
    · have:=a2 j hj;omega
   have e2 : x.hi ≤ y.hi:=by
    apply Int.not_lt.1
    intro q
    rcases Cj.1 ((h (y.hi + 1)).1 (Cj.2 (.inl ⟨by omega,by omega⟩))) with w|⟨j,hj,w⟩
    · omega
    · have:=b2 j hj;omega
   have e : x = y:=by
    cases x;cases y
    simp only [Ivl.mk.injEq]
    dsimp only at l1 l2 e1 e2
    omega
   subst e
   rw [Yr a1 b1 fun n => ?_]
   constructor
   · intro q
     rcases Cj.1 ((h n).1 (Cj.2 (.inr q))) with w|w
     · obtain ⟨j,hj,q⟩:=q
       have:=a2 j hj;omega
     · exact w
   · intro q
     rcases Cj.1 ((h n).2 (Cj.2 (.inr q))) with w|w
     · obtain ⟨j,hj,q⟩:=q
       have:=b2 j hj;omega
     · exact w
def stepU (out : List Ivl) (i : Ivl) : List Ivl :=
 match out.getLast? with
 | none => [i]
 | some z => if i.lo ≤ z.hi + 1 then out.dropLast ++ [⟨z.lo,max z.hi i.hi⟩] else out ++ [i]
def mergeU (l : List Ivl) : List Ivl:=l.foldl stepU []
theorem Tr (i : Ivl) : stepU [] i = [i]:=rfl
theorem Pi (o : List Ivl) (z i : Ivl) : stepU (o ++ [z]) i = if i.lo ≤ z.hi + 1 then o ++ [⟨z.lo,max z.hi i.hi⟩] else o ++ [z] ++ [i]:=by
 unfold stepU
 rw [List.getLast?_append,List.getLast?_singleton]
 simp
theorem Fp {o : List Ivl} {z : Ivl} : SepU (o ++ [z]) ↔ SepU o ∧ z.lo ≤ z.hi ∧ ∀ x ∈ o,x.hi + 1 < z.lo:=by
 unfold SepU
 rw [List.pairwise_append]
 constructor
 · rintro ⟨h1,h2,_,h3⟩
   exact ⟨⟨fun i hi => h1 i (List.mem_append.2 (.inl hi)),h2⟩,h1 z (by simp),fun x hx => h3 x hx z (by simp)⟩
 · rintro ⟨⟨h1,h2⟩,h3,h4⟩
   refine ⟨fun i hi => ?_,h2,List.pairwise_singleton _ _,fun a ha b hb => ?_⟩
   · rcases List.mem_append.1 hi with e|e
     · exact h1 i e
     · rw [List.mem_singleton] at e;subst e;exact h3
   · rw [List.mem_singleton] at hb;subst hb;exact h4 a ha
theorem stepU_ok {out : List Ivl} {i : Ivl} (hs : SepU out) (hi : i.lo ≤ i.hi) (ho : ∀ o ∈ out,o.lo ≤ i.lo) : SepU (stepU out i) ∧ (∀ n,InU n (stepU out i) ↔ InU n out ∨ (i.lo ≤ n ∧ n ≤ i.hi)) ∧ ∀ o ∈ stepU out i,o.lo ≤ i.lo:=by
 rcases List.eq_nil_or_concat out with e|⟨o,z,e⟩
 · subst e
   rw [Tr]
   refine ⟨⟨by simp [hi],List.pairwise_singleton _ _⟩,fun n => ?_,by simp⟩
   rw [Cj]
   constructor
   · rintro (h|h)
     · exact .inr h
     · exact .inl h
   · rintro (h|h)
     · exact absurd h (Ea n)
     · exact .inl h
 · rw [List.concat_eq_append] at e
   subst e
   have hzo:=ho z (by simp)
   obtain ⟨h1,h2,h3⟩:=Fp.1 hs
   rw [Pi]
   split
   · rename_i hle
     refine ⟨Fp.2 ⟨h1,?_,h3⟩,fun n => ?_,fun x hx => ?_⟩
     · show z.lo ≤ max z.hi i.hi
       omega
     · rw [Dz,Dz,Cj,Cj]
       show _ ∨ (z.lo ≤ n ∧ n ≤ max z.hi i.hi) ∨ _ ↔ _
       constructor
       · rintro (h|h|h)
         · exact .inl (.inl h)
         · by_cases q : n ≤ z.hi
           · exact .inl (.inr (.inl ⟨h.1,q⟩))
           · exact .inr ⟨by omega,by omega⟩
         · exact absurd h (Ea n)
       · rintro ((h|h|h)|h)
         · exact .inl h
         · exact .inr (.inl ⟨h.1,by omega⟩)
         · exact absurd h (Ea n)
         · exact .inr (.inl ⟨by omega,by omega⟩)
     · rcases List.mem_append.1 hx with e|e
       · exact ho x (List.mem_append.2 (.inl e))
       · rw [List.mem_singleton] at e;subst e;exact hzo
   · rename_i hgt
     refine ⟨Fp.2 ⟨hs,hi,fun x hx => ?_⟩,fun n => ?_,fun x hx => ?_⟩
     · rcases List.mem_append.1 hx with e|e
       · have:=h3 x e;omega
       · rw [List.mem_singleton] at e;subst e;omega
     · rw [Dz,Cj]
       constructor
       · rintro (h|h|h)
         · exact .inl h
         · exact .inr h
         · exact absurd h (Ea n)
       · rintro (h|h)
         · exact .inl h
         · exact .inr (.inl h)
     · rcases List.mem_append.1 hx with e|e
       · exact ho x e
       · rw [List.mem_singleton] at e;subst e;exact Int.le_refl _
theorem mergeU_ok {l : List Ivl} (hl : ∀ i ∈ l,i.lo ≤ i.hi) (hs : l.Pairwise fun a b => a.lo ≤ b.lo) : SepU (mergeU l) ∧ ∀ n,InU n (mergeU l) ↔ InU n l:=by
 have key : ∀ (l out : List Ivl),(∀ i ∈ l,i.lo ≤ i.hi) → (l.Pairwise fun a b => a.lo ≤ b.lo) → SepU out → (∀ o ∈ out,∀ i ∈ l,o.lo ≤ i.lo) → SepU (l.foldl stepU out) ∧ ∀ n,InU n (l.foldl stepU out) ↔ InU n out ∨ InU n l:=by
  intro l
  induction l with
  | nil => intro out _ _ h _;exact ⟨h,fun n => ⟨.inl,fun q => q.elim id fun q => absurd q (Ea n)⟩⟩
  | cons i r ih =>
    intro out h1 h2 h3 h4
    obtain ⟨q1,q2⟩:=List.pairwise_cons.1 h2
    obtain ⟨s1,s2,s3⟩:=stepU_ok h3 (h1 i List.mem_cons_self) fun o ho => h4 o ho i List.mem_cons_self
    obtain ⟨t1,t2⟩:=ih (stepU out i) (fun j hj => h1 j (List.mem_cons_of_mem _ hj)) q2 s1 fun o ho j hj => by have:=s3 o ho;have:=q1 j hj;omega
    refine ⟨t1,fun n => ?_⟩
    show InU n (r.foldl stepU (stepU out i)) ↔ _
    rw [t2,s2,Cj,or_assoc]
 obtain ⟨k1,k2⟩:=key l [] hl hs ⟨by simp,.nil⟩ (by simp)
 exact ⟨k1,fun n => (k2 n).trans ⟨fun q => q.elim (fun q => absurd q (Ea n)) id,.inr⟩⟩
def addS (x : List Ivl × Ivl × Bool) (k : Ivl) : List Ivl × Ivl × Bool :=
 if k.hi + 1 < x.2.1.lo then (x.1 ++ [k],x.2)
 else if x.2.1.hi + 1 < k.lo then ((if x.2.2 then x.1 else x.1 ++ [x.2.1]) ++ [k],x.2.1,true)
 else (x.1,⟨min x.2.1.lo k.lo,max x.2.1.hi k.hi⟩,x.2.2)
def addE7 (x : List Ivl × Ivl × Bool) : List Ivl:=if x.2.2 then x.1 else x.1 ++ [x.2.1]
def addU (l : List Ivl) (i : Ivl) : List Ivl:=addE7 (l.foldl addS ([],i,false))
theorem Mm : ∀ (l : List Ivl) (x : List Ivl × Ivl × Bool),SepU l → SepU (addE7 x) → x.2.1.lo ≤ x.2.1.hi → (∀ o ∈ x.1,∀ r ∈ l,o.hi + 1 < r.lo) → (x.2.2 = true → ∀ r ∈ l,x.2.1.hi + 1 < r.lo ∧ ∀ o ∈ x.1,o.hi + 1 < r.lo) →
 SepU (addE7 (l.foldl addS x)) ∧ ∀ n,InU n (addE7 (l.foldl addS x)) ↔ InU n (addE7 x) ∨ InU n l
 | [],x,_,h,_,_,_ => ⟨h,fun n => ⟨.inl,fun q => q.elim id fun q => absurd q (Ea n)⟩⟩
 | k :: l,(out,i,d),hl,h,hi,hr,hd => by
   dsimp only at hi hr hd
   obtain ⟨a1,a2,a3⟩:=hl.tail
   have hd' : d = true → ∀ r ∈ l,i.hi + 1 < r.lo ∧ ∀ o ∈ out,o.hi + 1 < r.lo:=fun q r hr2 => hd q r (List.mem_cons_of_mem _ hr2)
   have hkd : d = true → i.hi + 1 < k.lo ∧ ∀ o ∈ out,o.hi + 1 < k.lo:=fun q => hd q k List.mem_cons_self
   show SepU (addE7 (l.foldl addS (addS (out,i,d) k))) ∧ ∀ n,InU n (addE7 (l.foldl addS (addS (out,i,d) k))) ↔ InU n (addE7 (out,i,d)) ∨ InU n (k :: l)
   by_cases c1 : k.hi + 1 < i.lo
   · have hdf : d = false:=by
      cases d with
      | false => rfl
      | true => have:=(hkd rfl).1;omega
     subst hdf
     have e : addS (out,i,false) k = (out ++ [k],i,false):=by unfold addS;rw [if_pos c1]
     rw [e]
     have h' : SepU (out ++ [i]):=h
     obtain ⟨s1,s2,s3⟩:=Fp.1 h'
     have hko : ∀ o ∈ out,o.hi + 1 < k.lo:=fun o ho => hr o ho k List.mem_cons_self
     obtain ⟨t1,t2⟩:=Mm l (out ++ [k],i,false) a1 (by
      show SepU ((out ++ [k]) ++ [i])
      refine Fp.2 ⟨Fp.2 ⟨s1,a3,hko⟩,s2,fun x hx => ?_⟩
      rcases List.mem_append.1 hx with q|q
      · exact s3 x q
      · rw [List.mem_singleton] at q;subst q;exact c1) hi (fun o ho r hr2 => by
      rcases List.mem_append.1 ho with q|q
      · exact hr o q r (List.mem_cons_of_mem _ hr2)
      · rw [List.mem_singleton] at q;subst q;exact a2 r hr2) (fun q => by cases q)
     refine ⟨t1,fun n => ?_⟩
     rw [t2]
     show InU n ((out ++ [k]) ++ [i]) ∨ _ ↔ InU n (out ++ [i]) ∨ _
     rw [Dz,Dz,Dz,Cj (l:=l),Cj (i:=k) (l:=[])]
     constructor
     · rintro (((q|(q|q))|q)|q)
       · exact .inl (.inl q)
       · exact .inr (.inl q)
       · exact absurd q (Ea n)
       · exact .inl (.inr q)
       · exact .inr (.inr q)
     · rintro ((q|q)|(q|q))
       · exact .inl (.inl (.inl q))
       · exact .inl (.inr q)
       · exact .inl (.inl (.inr (.inl q)))
       · exact .inr q
   · by_cases c2 : i.hi + 1 < k.lo
     · have e : addS (out,i,d) k = ((if d = true then out else out ++ [i]) ++ [k],i,true):=by
        unfold addS;rw [if_neg c1,if_pos c2]
       rw [e]
       have h' : SepU (if d = true then out else out ++ [i]):=h
       obtain ⟨t1,t2⟩:=Mm l ((if d = true then out else out ++ [i]) ++ [k],i,true) a1 (by
        show SepU ((if d = true then out else out ++ [i]) ++ [k])
        refine Fp.2 ⟨h',a3,fun x hx => ?_⟩
        split at hx
        · rename_i q;exact (hkd q).2 x hx
        · rcases List.mem_append.1 hx with q|q
          · exact hr x q k List.mem_cons_self
          · rw [List.mem_singleton] at q;subst q;exact c2) hi (fun o ho r hr2 => by
        rcases List.mem_append.1 ho with q|q
        · split at q
          · rename_i w;exact (hd' w r hr2).2 o q
          · rcases List.mem_append.1 q with w|w
            · exact hr o w r (List.mem_cons_of_mem _ hr2)
            · rw [List.mem_singleton] at w;subst w;have:=a2 r hr2;omega
        · rw [List.mem_singleton] at q;subst q;exact a2 r hr2) (fun _ r hr2 => ⟨by have:=a2 r hr2;dsimp only;omega,fun o ho => by
        dsimp only at ho
        rcases List.mem_append.1 ho with q|q
        · split at q
          · rename_i w;exact (hd' w r hr2).2 o q
          · rcases List.mem_append.1 q with w|w
            · exact hr o w r (List.mem_cons_of_mem _ hr2)
            · rw [List.mem_singleton] at w;subst w;have:=a2 r hr2;omega
        · rw [List.mem_singleton] at q;subst q;exact a2 r hr2⟩)
       refine ⟨t1,fun n => ?_⟩
       rw [t2]
       show InU n ((if d = true then out else out ++ [i]) ++ [k]) ∨ _ ↔ InU n (if d = true then out else out ++ [i]) ∨ _
       rw [Dz,Cj (l:=l),Cj (i:=k) (l:=[]),or_assoc]
       constructor
       · rintro (q|(q|q)|q)
         · exact .inl q
         · exact .inr (.inl q)
         · exact absurd q (Ea n)
         · exact .inr (.inr q)
       · rintro (q|q|q)
         · exact .inl q
         · exact .inr (.inl (.inl q))
         · exact .inr (.inr q)
     · have hdf : d = false:=by
        cases d with
        | false => rfl
        | true => exact absurd (hkd rfl).1 c2
       subst hdf
       have e : addS (out,i,false) k = (out,⟨min i.lo k.lo,max i.hi k.hi⟩,false):=by unfold addS;rw [if_neg c1,if_neg c2]
       rw [e]
       have h' : SepU (out ++ [i]):=h
       obtain ⟨s1,s2,s3⟩:=Fp.1 h'
       obtain ⟨t1,t2⟩:=Mm l (out,⟨min i.lo k.lo,max i.hi k.hi⟩,false) a1 (by
        show SepU (out ++ [⟨min i.lo k.lo,max i.hi k.hi⟩])
        refine Fp.2 ⟨s1,by show min i.lo k.lo ≤ max i.hi k.hi;omega,fun x hx => ?_⟩
        have:=s3 x hx
        have:=hr x hx k List.mem_cons_self
        show x.hi + 1 < min i.lo k.lo
        omega) (by show min i.lo k.lo ≤ max i.hi k.hi;omega) (fun o ho r hr2 => hr o ho r (List.mem_cons_of_mem _ hr2)) (fun q => by cases q)
       refine ⟨t1,fun n => ?_⟩
       rw [t2]
       show InU n (out ++ [⟨min i.lo k.lo,max i.hi k.hi⟩]) ∨ _ ↔ InU n (out ++ [i]) ∨ _
       rw [Dz,Dz,Cj (l:=l),Cj (l:=[]),Cj (l:=[])]
       show (_ ∨ (min i.lo k.lo ≤ n ∧ n ≤ max i.hi k.hi) ∨ _) ∨ _ ↔ _
       constructor
       · rintro ((q|(q|q))|q)
         · exact .inl (.inl q)
         · by_cases w : i.lo ≤ n ∧ n ≤ i.hi
           · exact .inl (.inr (.inl w))
           · exact .inr (.inl (by omega))
         · exact absurd q (Ea n)
         · exact .inr (.inr q)
       · rintro ((q|(q|q))|(q|q))
         · exact .inl (.inl q)
         · exact .inl (.inr (.inl (by omega)))
         · exact absurd q (Ea n)
         · exact .inl (.inr (.inl (by omega)))
         · exact .inr q
theorem addU_ok {l : List Ivl} {i : Ivl} (hl : SepU l) (hi : i.lo ≤ i.hi) : SepU (addU l i) ∧ ∀ n,InU n (addU l i) ↔ (i.lo ≤ n ∧ n ≤ i.hi) ∨ InU n l:=by
 obtain ⟨h1,h2⟩:=Mm l ([],i,false) hl (by show SepU [i];exact ⟨by simp [hi],List.pairwise_singleton _ _⟩) hi (by simp) (fun q => by cases q)
 refine ⟨h1,fun n => (h2 n).trans ?_⟩
 show InU n [i] ∨ _ ↔ _
 rw [Cj]
 constructor
 · rintro ((q|q)|q)
   · exact .inl q
   · exact absurd q (Ea n)
   · exact .inr q
 · rintro (q|q)
   · exact .inl (.inl q)
   · exact .inr q
def unionR (l : List Ivl) : List Ivl:=l.foldl addU []
theorem unionR_ok {l : List Ivl} (hl : ∀ i ∈ l,i.lo ≤ i.hi) : SepU (unionR l) ∧ ∀ n,InU n (unionR l) ↔ InU n l:=by
 have key : ∀ (l out : List Ivl),(∀ i ∈ l,i.lo ≤ i.hi) → SepU out → SepU (l.foldl addU out) ∧ ∀ n,InU n (l.foldl addU out) ↔ InU n out ∨ InU n l:=by
  intro l
  induction l with
  | nil => intro out _ h;exact ⟨h,fun n => ⟨.inl,fun q => q.elim id fun q => absurd q (Ea n)⟩⟩
  | cons i r ih =>
    intro out h1 h3
    obtain ⟨s1,s2⟩:=addU_ok h3 (h1 i List.mem_cons_self)
    obtain ⟨t1,t2⟩:=ih (addU out i) (fun j hj => h1 j (List.mem_cons_of_mem _ hj)) s1
    refine ⟨t1,fun n => ?_⟩
    show InU n (r.foldl addU (addU out i)) ↔ _
    rw [t2,s2,Cj]
    constructor
    · rintro ((q|q)|q)
      · exact .inr (.inl q)
      · exact .inl q
      · exact .inr (.inr q)
    · rintro (q|(q|q))
      · exact .inl (.inr q)
      · exact .inl (.inl q)
      · exact .inr q
 obtain ⟨k1,k2⟩:=key l [] hl ⟨by simp,.nil⟩
 exact ⟨k1,fun n => (k2 n).trans ⟨fun q => q.elim (fun q => absurd q (Ea n)) id,.inr⟩⟩
theorem A7a {l ys : List Ivl} (hl : ∀ i ∈ l,i.lo ≤ i.hi) (hp : ys.Perm l) (hs : ys.Pairwise fun a b => a.lo ≤ b.lo) : mergeU ys = unionR l:=by
 obtain ⟨a1,a2⟩:=mergeU_ok (fun i hi => hl i (hp.mem_iff.1 hi)) hs
 obtain ⟨b1,b2⟩:=unionR_ok hl
 refine Yr a1 b1 fun n => ?_
 rw [a2,b2]
 constructor
 · rintro ⟨i,hi,h⟩;exact ⟨i,hp.mem_iff.1 hi,h⟩
 · rintro ⟨i,hi,h⟩;exact ⟨i,hp.mem_iff.2 hi,h⟩
end Go.Hw
namespace Go.Hw
open Go Go.Lib
def maxF (l : List Fct) : Option Fct:=l.foldl (fun m f => match m with|none => some f|some b => if 0 < cmpF f b then some f else some b) none
theorem Jt (l : List Fct) (f : Fct) : maxF (l ++ [f]) = match maxF l with|none => some f|some b => if 0 < cmpF f b then some f else some b:=by unfold maxF;rw [List.foldl_append];rfl
def AboutG (g : FGame) (r : FRul) : Prop:=r.g = g ∧ (r.kind = 1 ∨ r.kind = 2 ∨ r.kind = 3)
instance (g : FGame) (r : FRul) : Decidable (AboutG g r):=by unfold AboutG;infer_instance
noncomputable def aboutL (C : List Fct) (g : FGame) : List Fct:=(forceL C).filter fun f => decide (AboutG g f.ru)
noncomputable def ofGame (C : List Fct) (g : FGame) : FRul × Int × Bool:=match maxF (aboutL C g) with
 | none => (rul0,0,false)
 | some f => (f.ru,f.day,true)
def PtsOf (s c k : Int) (r : FRul) : Prop:=r.kind = 4 ∧ r.season = s ∧ r.comp = c ∧ r.club = k
instance (s c k : Int) (r : FRul) : Decidable (PtsOf s c k r):=by unfold PtsOf;infer_instance
def sumP (s c k : Int) (l : List Fct) : Int:=l.foldl (fun n f => if PtsOf s c k f.ru then n + f.ru.points else n) 0
noncomputable def pointsL (C : List Fct) (s c k : Int) : Int:=sumP s c k (forceL C)
def banF (k : Int) (l : List Fct) : List Ivl:=(l.filter fun f => decide (f.ru.kind = 5 ∧ f.ru.club = k)).map fun f => ⟨f.ru.lo,f.ru.hi⟩
noncomputable def bansL (C : List Fct) (k : Int) : List Ivl:=unionR (banF k (forceL C))
theorem Zw {C : List Fct} (hok : ∀ f ∈ C,FctOk f) {f : Fct} (h : f ∈ forceL C) : f ∈ C ∧ FctOk f ∧ f.kind = 4 ∧ RulOk f.ru:=by
 obtain ⟨h1,h2,_⟩:=(Bia C f).1 h
 have h3:=hok f h1
 have h4:=h3.2.2.1
 unfold ContOk at h4
 rw [if_neg (by omega),if_neg (by omega),if_neg (by omega),if_pos h2] at h4
 exact ⟨h1,h3,h2,h4⟩
def VoidIn (C : List Fct) (f : Fct) : Prop:=f.kind = 4 ∧ standI C f.ru.case f.ru.inst ≠ some f
instance (C : List Fct) (f : Fct) : Decidable (VoidIn C f):=by unfold VoidIn;infer_instance
def voidL (C : List Fct) : List Fct:=C.filter fun f => decide (VoidIn C f)
def voidBy7 (C : List Fct) : List Fct:=(casesL C).flatMap fun n => (C.filter fun f => decide (OfCase n f)).filter fun f => decide (standI C n f.ru.inst ≠ some f)
theorem Pd (C : List Fct) (f : Fct) : f ∈ voidBy7 C ↔ f ∈ voidL C:=by
 unfold voidBy7 voidL
 rw [List.mem_flatMap,List.mem_filter]
 constructor
 · rintro ⟨n,hn,h⟩
   obtain ⟨h1,h2⟩:=List.mem_filter.1 h
   obtain ⟨h3,h4⟩:=List.mem_filter.1 h1
   have h4 : OfCase n f:=of_decide_eq_true h4
   have h2:=of_decide_eq_true h2
   refine ⟨h3,decide_eq_true ⟨h4.1,?_⟩⟩
   rw [h4.2];exact h2
 · rintro ⟨h1,h2⟩
   obtain ⟨h3,h4⟩:=of_decide_eq_true h2
   refine ⟨f.ru.case,(Ep C _).2 ⟨f,h1,h3,rfl⟩,List.mem_filter.2 ⟨List.mem_filter.2 ⟨h1,decide_eq_true ⟨h3,rfl⟩⟩,decide_eq_true h4⟩⟩
end Go.Hw
namespace Go.Hw
open Go Go.Lib
def rl7 (k : Int) (r : FRul) : Fct:={ fct0 with kind:=4,known:=k,ru:=r }
def xg : FGame:=⟨0,0,1,2⟩
def xFirst : Fct:=rl7 1 { rul0 with case:=1,inst:=1,kind:=1,g:=xg,club:=1 }
def xApp : Fct:={ fct0 with kind:=5,known:=2,aCase:=1,aInst:=1,aSusp:=true }
def xSecond : Fct:=rl7 3 { rul0 with case:=1,inst:=2,kind:=8 }
def xAgain : Fct:=rl7 4 { rul0 with case:=1,inst:=1,kind:=8 }
def xB2 : Fct:=rl7 1 { rul0 with case:=2,inst:=1,kind:=5,club:=3,lo:=3,hi:=5 }
def xB3 : Fct:=rl7 1 { rul0 with case:=3,inst:=1,kind:=5,club:=3,lo:=6,hi:=9 }
theorem Tx {k : Int} {r : FRul} (hk : 0 ≤ k ∧ k < 1048577) (hr : RulOk r) : FctOk (rl7 k r):=by
 refine ⟨⟨Int.le_refl _,by show (0 : Int) < 1048577;omega⟩,hk,?_,rfl⟩
 have hk4 : (rl7 k r).kind = 4:=rfl
 unfold ContOk
 rw [hk4,if_neg (show ¬ (4 : Int) = 1 by omega),if_neg (show ¬ (4 : Int) = 2 by omega),if_neg (show ¬ (4 : Int) = 3 by omega),if_pos (show (4 : Int) = 4 from rfl)]
 exact hr
theorem xg_ok : GameOk xg:=by unfold GameOk Bel xg;decide
theorem Hn : FctOk xFirst:=Tx (by decide) ⟨by decide,by decide,by decide,by decide,by
 unfold RulGood
 rw [if_pos (show (1 : Int) = 1 from rfl)]
 exact ⟨xg_ok,.inl rfl⟩,rfl⟩
theorem Po {c i : Int} (h : 1 ≤ c ∧ c ≤ 1048576 ∧ 1 ≤ i ∧ i ≤ 3) : RulOk { rul0 with case:=c,inst:=i,kind:=8 }:=⟨h.1,h.2.1,h.2.2.1,h.2.2.2,by
 unfold RulGood
 rw [if_neg (show ¬ (8 : Int) = 1 by omega),if_neg (show ¬ (8 : Int) = 2 by omega),if_neg (show ¬ (8 : Int) = 3 by omega),if_neg (show ¬ (8 : Int) = 4 by omega),if_neg (show ¬ (8 : Int) = 5 by omega),if_neg (show ¬ (8 : Int) = 6 by omega),if_neg (show ¬ (8 : Int) = 7 by omega)],rfl⟩
theorem A3a : FctOk xSecond:=Tx (by decide) (Po (by decide))
theorem Tf : FctOk xAgain:=Tx (by decide) (Po (by decide))
theorem ban_ok {c lo hi : Int} (h : 1 ≤ c ∧ c ≤ 1048576) (hd : 0 ≤ lo ∧ lo ≤ hi ∧ hi ≤ 1048576) : RulOk { rul0 with case:=c,inst:=1,kind:=5,club:=3,lo:=lo,hi:=hi }:=⟨h.1,h.2,by show (1 : Int) ≤ 1;omega,by show (1 : Int) ≤ 3;omega,by
 unfold RulGood
 rw [if_neg (show ¬ (5 : Int) = 1 by omega),if_neg (show ¬ (5 : Int) = 2 by omega),if_neg (show ¬ (5 : Int) = 3 by omega),if_neg (show ¬ (5 : Int) = 4 by omega),if_pos (show (5 : Int) = 5 from rfl)]
 refine ⟨⟨by show (0 : Int) ≤ 3;omega,by show (3 : Int) < 192;omega⟩,?_⟩
 exact hd,rfl⟩
theorem xB2_ok : FctOk xB2:=Tx (by decide) (ban_ok (by decide) (by decide))
theorem xB3_ok : FctOk xB3:=Tx (by decide) (ban_ok (by decide) (by decide))
theorem Qv : FctOk xApp:=by
 refine ⟨⟨Int.le_refl _,by show (0 : Int) < 1048577;omega⟩,⟨by show (0 : Int) ≤ 2;omega,by show (2 : Int) < 1048577;omega⟩,?_,rfl⟩
 have hk5 : xApp.kind = 5:=rfl
 unfold ContOk
 rw [hk5,if_neg (show ¬ (5 : Int) = 1 by omega),if_neg (show ¬ (5 : Int) = 2 by omega),if_neg (show ¬ (5 : Int) = 3 by omega),if_neg (show ¬ (5 : Int) = 4 by omega),if_pos (show (5 : Int) = 5 from rfl)]
 exact ⟨by show (1 : Int) ≤ 1;omega,by show (1 : Int) ≤ 1048576;omega,by show (1 : Int) ≤ 1;omega,by show (1 : Int) < 3;omega⟩
theorem Hd {l L : List Fct} (hk : ∀ f ∈ l,FctOk f) (h32 : ∀ f ∈ l,f.void.length = 32) (hs : SortF L) (hm : ∀ x,x ∈ L ↔ x ∈ l) : canonL l = L:=by
 obtain ⟨h1,h2⟩:=Ck l h32
 refine Gq h1 hs fun x => ?_
 rw [h2,hm]
 exact ⟨fun h => h.1,fun h => ⟨h,hk x h⟩⟩
theorem xs1 : canonL [xFirst] = [xFirst]:=Hd (by simp [Hn]) (by simp;rfl) (List.pairwise_singleton _ _) (fun x => Iff.rfl)
theorem xs2 : canonL [xFirst,xApp] = [xFirst,xApp]:=Hd (by simp [Hn,Qv]) (by simp;exact ⟨rfl,rfl⟩) (by
 unfold SortF
 refine List.pairwise_cons.2 ⟨fun y hy => ?_,List.pairwise_singleton _ _⟩
 rw [List.mem_singleton] at hy;subst hy
 exact .inl (by decide)) (fun x => Iff.rfl)
theorem xs3 : canonL [xApp,xFirst] = [xFirst,xApp]:=Hd (by simp [Hn,Qv]) (by simp;exact ⟨rfl,rfl⟩) (by
 unfold SortF
 refine List.pairwise_cons.2 ⟨fun y hy => ?_,List.pairwise_singleton _ _⟩
 rw [List.mem_singleton] at hy;subst hy
 exact .inl (by decide)) (fun x => by simp [or_comm])
theorem xs4 : canonL [xApp] = [xApp]:=Hd (by simp [Qv]) (by simp;rfl) (List.pairwise_singleton _ _) (fun x => Iff.rfl)
theorem xs5 : canonL [xFirst,xApp,xSecond] = [xFirst,xApp,xSecond]:=Hd (by simp [Hn,Qv,A3a]) (by simp;exact ⟨rfl,rfl,rfl⟩) (by
 unfold SortF
 refine List.pairwise_cons.2 ⟨fun y hy => ?_,List.pairwise_cons.2 ⟨fun y hy => ?_,List.pairwise_singleton _ _⟩⟩
 · simp only [List.mem_cons,List.not_mem_nil,or_false] at hy
   rcases hy with rfl|rfl
   · exact .inl (by decide)
   · exact .inl (by decide)
 · rw [List.mem_singleton] at hy;subst hy
   exact .inl (by decide)) (fun x => Iff.rfl)
theorem xs6 : canonL [xAgain,xFirst] = [xFirst,xAgain]:=Hd (by simp [Hn,Tf]) (by simp;exact ⟨rfl,rfl⟩) (by
 unfold SortF
 refine List.pairwise_cons.2 ⟨fun y hy => ?_,List.pairwise_singleton _ _⟩
 rw [List.mem_singleton] at hy;subst hy
 exact .inl (by decide)) (fun x => by simp [or_comm])
theorem xb_lt : cmpB (encF xB2) (encF xB3) < 0:=by decide +kernel
theorem xs7 : canonL [xB2,xB3] = [xB2,xB3]:=Hd (by simp [xB2_ok,xB3_ok]) (by simp;exact ⟨rfl,rfl⟩) (by
 unfold SortF
 refine List.pairwise_cons.2 ⟨fun y hy => ?_,List.pairwise_singleton _ _⟩
 rw [List.mem_singleton] at hy;subst hy
 exact .inr ⟨rfl,.inr ⟨rfl,.inr ⟨rfl,xb_lt⟩⟩⟩) (fun x => Iff.rfl)
instance (C : List Fct) (n : Int) : Decidable (HeldI C n):=by unfold HeldI;infer_instance
def forceD (C : List Fct) : List Fct:=(casesL C).filterMap fun n => if HeldI C n then none else standI C n (lastI C n)
theorem Jx (C : List Fct) : forceL C = forceD C:=by
 unfold forceL forceD
 congr 1
 funext n
 by_cases h : HeldI C n
 · rw [if_pos h,if_pos h]
 · rw [if_neg h,if_neg h]
theorem xf1 : forceL [xFirst] = [xFirst]:=by rw [Jx];decide +kernel
theorem xf2 : forceL [xFirst,xApp] = []:=by rw [Jx];decide +kernel
theorem xf5 : forceL [xFirst,xApp,xSecond] = [xSecond]:=by rw [Jx];decide +kernel
theorem xf7 : forceL [xB2,xB3] = [xB2,xB3]:=by rw [Jx];decide +kernel
theorem xh3 : HeldI [xFirst,xApp] 1:=by decide +kernel
theorem xh4 : ¬ HeldI [xApp] 1:=by decide +kernel
theorem xv6 : voidL [xFirst,xAgain] = [xAgain]:=by decide +kernel
theorem xo1 : (ofGame [xFirst] xg).2.2 = true:=by
 unfold ofGame aboutL
 rw [xf1]
 decide +kernel
theorem xu7 : bansL [xB2,xB3] 3 = [⟨3,9⟩]:=by
 unfold bansL
 rw [xf7]
 decide +kernel
end Go.Hw
namespace Go.Hw
open Go Go.Lib
theorem A4a {C : List Fct} (hs : SortF C) (hok : ∀ f ∈ C,FctOk f) (h32 : ∀ f ∈ C,f.void.length = 32) : canonL (voidBy7 C) = voidL C:=by
 have hsub : ∀ f ∈ voidBy7 C,f ∈ C:=fun f hf => (List.mem_filter.1 ((Pd C f).1 hf)).1
 obtain ⟨h1,h2⟩:=Ck (voidBy7 C) fun f hf => h32 f (hsub f hf)
 refine Gq h1 (List.Pairwise.filter _ hs) fun x => ?_
 rw [h2,Pd]
 exact ⟨fun h => h.1,fun h => ⟨h,hok x (List.mem_filter.1 h).1⟩⟩
theorem Bqa {l : List Fct} (h32 : ∀ f ∈ l,f.void.length = 32) : canonL (caseF l) = caseF (canonL l):=by
 obtain ⟨h1,h2⟩:=Ck l h32
 obtain ⟨h3,h4⟩:=Ck (caseF l) fun f hf => h32 f (List.mem_filter.1 hf).1
 refine Gq h3 (List.Pairwise.filter _ h1) fun x => ?_
 rw [h4]
 unfold caseF
 rw [List.mem_filter,List.mem_filter,h2]
 exact ⟨fun h => ⟨⟨h.1.1,h.2⟩,h.1.2⟩,fun h => ⟨⟨h.1.1,h.2⟩,h.1.2⟩⟩
end Go.Hw

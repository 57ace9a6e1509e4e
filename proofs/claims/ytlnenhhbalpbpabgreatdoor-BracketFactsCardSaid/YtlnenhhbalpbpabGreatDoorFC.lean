import Derived.Test.YtlnenhhbalpbpabGreatDoorFB
import Derived.Test.YtlnenhhbalpbpabGreatDoorNA
set_option linter.all false
namespace Go.Hw
open Go Go.Lib
def Cr (n:Int) (f:Fct):Prop:=f.kind=4∧f.ru.case=n
instance (n:Int) (f:Fct):Decidable (Cr n f):=by unfold Cr;infer_instance
def Ff (C:List Fct) (n:Int):Int:=C.foldl (fun m f=>if Cr n f then max m f.ru.inst else m) 0
def Gn (C:List Fct) (n i:Int):Option Fct:=C.find? fun f=>decide (Cr n f∧f.ru.inst=i)
def Mq (C:List Fct) (n:Int):Prop:=0<Ff C n∧∃ f∈C,f.kind=5∧f.aCase=n∧f.aInst=Ff C n∧f.aSusp=true
def insI (n:Int):List Int→List Int
 | []=>[n]
 | m::r=>if m<n then m::insI n r else if m=n then m::r else n::m::r
def Gq (C:List Fct):List Int:=C.foldl (fun o f=>if f.kind=4 then insI f.ru.case o else o) []
open Classical in
noncomputable def Ew (C:List Fct):List Fct:=(Gq C).filterMap fun n=>if Mq C n then none else Gn C n (Ff C n)
theorem Bua {n x:Int}:∀ {l:List Int},x∈insI n l↔x=n∨x∈l
 | []=>by simp [insI]
 | m::r=>by
   unfold insI
   split
   · rw [List.mem_cons,Bua,List.mem_cons]
     constructor
     · rintro (h|h|h)
       · exact .inr (.inl h)
       · exact .inl h
       · exact .inr (.inr h)
     · rintro (h|h|h)
       · exact .inr (.inl h)
       · exact .inl h
       · exact .inr (.inr h)
   · split
     · rename_i h;subst h;simp
     · simp
theorem Xl {n:Int}:∀ {l:List Int},l.Pairwise (· < ·)→(insI n l).Pairwise (· < ·)
 | [],_=>by simp [insI]
 | m::r,h=>by
   obtain ⟨h1,h2⟩:=List.pairwise_cons.1 h
   unfold insI
   split
   · rename_i hmn
     refine List.pairwise_cons.2 ⟨fun x hx => ?_,Xl h2⟩
     rcases Bua.1 hx with e|e
     · rw [e];exact hmn
     · exact h1 x e
   · split
     · exact h
     · refine List.pairwise_cons.2 ⟨fun x hx => ?_,h⟩
       rcases List.mem_cons.1 hx with e|e
       · omega
       · have:=h1 x e;omega
theorem Nc (C:List Fct)(f:Fct):Gq (C++[f])=if f.kind=4 then insI f.ru.case (Gq C) else Gq C:=by unfold Gq;rw [List.foldl_append];rfl
theorem Pf (C:List Fct)(f:Fct)(n:Int):Ff (C++[f]) n=if Cr n f then max (Ff C n) f.ru.inst else Ff C n:=by unfold Ff;rw [List.foldl_append];rfl
theorem Qp {P:List Fct→Prop}(h0:P [])(h1:∀ C f,P C→P (C++[f]))(C:List Fct):P C:=by
 have:∀ n,∀ C:List Fct,C.length=n→P C:=by
  intro n
  induction n with
  | zero=>intro C h;rw [List.length_eq_zero_iff.1 h];exact h0
  | succ n ih =>
    intro C h
    have hne:C≠[]:=fun e=>by rw [e] at h;cases h
    rw [← List.dropLast_concat_getLast hne]
    exact h1 _ _ (ih _ (by rw [List.length_dropLast,h];rfl))
 exact this _ C rfl
theorem Nb (C:List Fct):(Gq C).Pairwise (· < ·):=by
 refine Qp (P:=fun C=>(Gq C).Pairwise (· < ·)) List.Pairwise.nil (fun C f ih => ?_) C
 show (Gq (C++[f])).Pairwise (· < ·)
 rw [Nc]
 split
 · exact Xl ih
 · exact ih
theorem Ml (C:List Fct)(n:Int):n∈Gq C↔∃ f∈C,Cr n f:=by
 refine Qp (P:=fun C=>n∈Gq C↔∃ f∈C,Cr n f) (by simp [Gq]) (fun C f ih => ?_) C
 show n∈Gq (C++[f])↔_
 have e:(∃ g∈C++[f],Cr n g)↔(∃ g∈C,Cr n g)∨Cr n f:=by
  constructor
  · rintro ⟨g,hg,ho⟩
    rcases List.mem_append.1 hg with h|h
    · exact .inl ⟨g,h,ho⟩
    · rw [List.mem_singleton] at h;subst h;exact .inr ho
  · rintro (⟨g,hg,ho⟩|ho)
    · exact ⟨g,List.mem_append.2 (.inl hg),ho⟩
    · exact ⟨f,by simp,ho⟩
 rw [e,← ih,Nc]
 split
 · rename_i hk
   rw [Bua]
   unfold Cr
   constructor
   · rintro (h|h)
     · exact .inr ⟨hk,h.symm⟩
     · exact .inl h
   · rintro (h|h)
     · exact .inr h
     · exact .inl h.2.symm
 · rename_i hk
   exact ⟨.inl,fun h=>h.elim id fun h=>absurd h.1 hk⟩
theorem lastI_ge {C:List Fct}{n:Int}:0≤Ff C n∧∀ f∈C,Cr n f→f.ru.inst≤Ff C n:=by
 refine Qp (P:=fun C=>0≤Ff C n∧∀ f∈C,Cr n f→f.ru.inst≤Ff C n) ⟨Int.le_refl _,by simp⟩ (fun C f ih => ?_) C
 show 0≤Ff (C++[f]) n∧∀ g∈C++[f],Cr n g→g.ru.inst≤Ff (C++[f]) n
 obtain ⟨i1,i2⟩:=ih
 rw [Pf]
 split
 · refine ⟨by omega,fun g hg ho => ?_⟩
   rcases List.mem_append.1 hg with h|h
   · have:=i2 g h ho;omega
   · rw [List.mem_singleton] at h;subst h;omega
 · rename_i hn
   refine ⟨i1,fun g hg ho => ?_⟩
   rcases List.mem_append.1 hg with h|h
   · exact i2 g h ho
   · rw [List.mem_singleton] at h;subst h;exact absurd ho hn
theorem lastI_at {C:List Fct}{n:Int}:Ff C n=0∨∃ f∈C,Cr n f∧f.ru.inst=Ff C n:=by
 refine Qp (P:=fun C=>Ff C n=0∨∃ f∈C,Cr n f∧f.ru.inst=Ff C n) (.inl rfl) (fun C f ih => ?_) C
 show Ff (C++[f]) n=0∨∃ g∈C++[f],Cr n g∧g.ru.inst=Ff (C++[f]) n
 rw [Pf]
 split
 · rename_i ho
   rcases Int.le_total (Ff C n) f.ru.inst with h|h
   · exact .inr ⟨f,by simp,ho,by omega⟩
   · rw [show max (Ff C n) f.ru.inst=Ff C n by omega]
     exact ih.imp id fun ⟨g,hg,h⟩=>⟨g,List.mem_append.2 (.inl hg),h⟩
 · exact ih.imp id fun ⟨g,hg,h⟩=>⟨g,List.mem_append.2 (.inl hg),h⟩
theorem Mt {C:List Fct}{n i:Int}{f:Fct}(h:Gn C n i=some f):f∈C∧Cr n f∧f.ru.inst=i:=by
 unfold Gn at h
 have:=List.find?_some h
 exact ⟨List.mem_of_find?_eq_some h,(of_decide_eq_true this).1,(of_decide_eq_true this).2⟩
theorem Gka {C:List Fct}{n i:Int}(h:Gn C n i=none):∀ f∈C,¬ (Cr n f∧f.ru.inst=i):=fun f hf q=>by
 unfold Gn at h
 have:=List.find?_eq_none.1 h f hf
 exact this (decide_eq_true q)
theorem B4a {f:Fct}(h:Cg f)(hk:f.kind=4):1≤f.ru.inst∧f.ru.inst≤3:=by
 have:=h.2.2.1
 unfold Fb at this
 rw [if_neg (by omega),if_neg (by omega),if_neg (by omega),if_pos hk] at this
 exact ⟨this.2.2.1,this.2.2.2.1⟩
theorem Zq {C:List Fct}(hok:∀ f∈C,Cg f){n:Int}(h:∃ f∈C,Cr n f):0<Ff C n∧∃ f,Gn C n (Ff C n)=some f:=by
 obtain ⟨f,hf,ho⟩:=h
 have h1:=B4a (hok f hf) ho.1
 have h2:=(lastI_ge (C:=C) (n:=n)).2 f hf ho
 have h0:0<Ff C n:=by omega
 refine ⟨h0,?_⟩
 cases hs:Gn C n (Ff C n) with
 | some g=>exact ⟨g,rfl⟩
 | none =>
   rcases lastI_at (C:=C) (n:=n) with e|⟨g,hg,ho2,hi⟩
   · omega
   · exact absurd ⟨ho2,hi⟩ (Gka hs g hg)
theorem Mda (C:List Fct)(f:Fct):f∈Ew C↔f∈C∧f.kind=4∧¬ Mq C f.ru.case∧Gn C f.ru.case (Ff C f.ru.case)=some f:=by
 unfold Ew
 rw [List.mem_filterMap]
 constructor
 · rintro ⟨n,hn,e⟩
   split at e
   · cases e
   · rename_i hh
     obtain ⟨h1,h2,h3⟩:=Mt e
     have hc:f.ru.case=n:=h2.2
     subst hc
     exact ⟨h1,h2.1,hh,e⟩
 · rintro ⟨h1,h2,h3,h4⟩
   exact ⟨f.ru.case,(Ml C _).2 ⟨f,h1,h2,rfl⟩,by rw [if_neg h3];exact h4⟩
def I1a (n:Int) (f:Fct):Prop:=¬ (f.kind=4∧f.ru.case=n)∧¬ (f.kind=5∧f.aCase=n)
instance (n:Int) (f:Fct):Decidable (I1a n f):=by unfold I1a;infer_instance
def Mm (n:Int) (C:List Fct):List Fct:=C.filter fun f=>decide (I1a n f)
theorem Iaa (n:Int)(C:List Fct)(f:Fct):Mm n (C++[f])=if I1a n f then Mm n C++[f] else Mm n C:=by
 unfold Mm
 rw [List.filter_append]
 by_cases h:I1a n f <;> simp [h]
theorem Cna {n m:Int}(hm:m≠n){f:Fct}(h:Cr m f):I1a n f:=⟨fun q=>hm (h.2.symm.trans q.2),fun q=>by have:=h.1;omega⟩
theorem Axa {n m:Int}(hm:m≠n)(C:List Fct):Ff (Mm n C) m=Ff C m:=by
 refine Qp (P:=fun C=>Ff (Mm n C) m=Ff C m) rfl (fun C f ih => ?_) C
 show Ff (Mm n (C++[f])) m=Ff (C++[f]) m
 rw [Iaa,Pf]
 split
 · rw [Pf,ih]
 · rename_i h
   rw [if_neg (fun q=>h (Cna hm q)),ih]
theorem H8a {n m:Int}(hm:m≠n)(C:List Fct)(i:Int):Gn (Mm n C) m i=Gn C m i:=by
 unfold Gn Mm
 rw [List.find?_filter]
 congr 1
 funext f
 by_cases h:Cr m f∧f.ru.inst=i
 · simp [h,Cna hm h.1]
 · simp [h]
theorem Aya {n m:Int}(hm:m≠n)(C:List Fct):Mq (Mm n C) m↔Mq C m:=by
 unfold Mq
 rw [Axa hm]
 refine and_congr_right fun _=>⟨fun ⟨f,hf,h⟩=>⟨f,(List.mem_filter.1 hf).1,h⟩,fun ⟨f,hf,h⟩=>⟨f,List.mem_filter.2 ⟨hf,decide_eq_true ⟨fun q => ?_,fun q=>hm (h.2.1.symm.trans q.2)⟩⟩,h⟩⟩
 have:=h.1
 omega
theorem Tf:∀ {a b:List Int},a.Pairwise (· < ·)→b.Pairwise (· < ·)→(∀ x,x∈a↔x∈b)→a=b
 | [],[],_,_,_=>rfl
 | [],y::r,_,_,h=>absurd ((h y).2 (by simp)) (by simp)
 | x::l,[],_,_,h=>absurd ((h x).1 (by simp)) (by simp)
 | x::l,y::r,ha,hb,h=>by
   obtain ⟨a1,a2⟩:=List.pairwise_cons.1 ha
   obtain ⟨b1,b2⟩:=List.pairwise_cons.1 hb
   have hxy:x=y:=by
    rcases List.mem_cons.1 ((h x).1 (by simp)) with e|e
    · exact e
    · rcases List.mem_cons.1 ((h y).2 (by simp)) with e2|e2
      · exact e2.symm
      · have:=b1 x e;have:=a1 y e2;omega
   subst hxy
   rw [Tf a2 b2 fun z=>⟨fun hz => ?_,fun hz => ?_⟩]
   · rcases List.mem_cons.1 ((h z).1 (List.mem_cons_of_mem _ hz)) with e|e
     · have:=a1 z hz;omega
     · exact e
   · rcases List.mem_cons.1 ((h z).2 (List.mem_cons_of_mem _ hz)) with e|e
     · have:=b1 z hz;omega
     · exact e
theorem H9a (n:Int)(C:List Fct):Gq (Mm n C)=(Gq C).filter fun m=>decide (m≠n):=by
 refine Tf (Nb _) (List.Pairwise.filter _ (Nb C)) fun m => ?_
 rw [Ml,List.mem_filter,Ml,decide_eq_true_eq]
 constructor
 · rintro ⟨f,hf,ho⟩
   obtain ⟨h1,h2⟩:=List.mem_filter.1 hf
   have h3:I1a n f:=of_decide_eq_true h2
   exact ⟨⟨f,h1,ho⟩,fun e=>h3.1 ⟨ho.1,ho.2.trans e⟩⟩
 · rintro ⟨⟨f,hf,ho⟩,hm⟩
   exact ⟨f,List.mem_filter.2 ⟨hf,decide_eq_true (Cna hm ho)⟩,ho⟩
open Classical in
theorem force_apart (n:Int)(C:List Fct):Ew (Mm n C)=(Ew C).filter fun f=>decide (f.ru.case≠n):=by
 unfold Ew
 rw [H9a,List.filterMap_filter,List.filter_filterMap]
 congr 1
 funext m
 by_cases hm:m=n
 · subst hm
   simp only [ne_eq,not_true_eq_false,decide_false,Bool.false_eq_true,if_false]
   symm
   cases h:(if Mq C m then none else Gn C m (Ff C m)) with
   | none=>rfl
   | some f =>
     have:f.ru.case=m:=by
      split at h
      · cases h
      · exact (Mt h).2.1.2
     simp [this]
 · simp only [ne_eq,hm,not_false_eq_true,decide_true,if_true]
   rw [Axa hm,H8a hm]
   have he:(if Mq (Mm n C) m then none else Gn C m (Ff C m))=(if Mq C m then none else Gn C m (Ff C m)):=by
    by_cases hh:Mq C m
    · rw [if_pos hh,if_pos ((Aya hm C).2 hh)]
    · rw [if_neg hh,if_neg fun q=>hh ((Aya hm C).1 q)]
   rw [he]
   cases h:(if Mq C m then none else Gn C m (Ff C m)) with
   | none=>rfl
   | some f =>
     have:f.ru.case=m:=by
      split at h
      · cases h
      · exact (Mt h).2.1.2
     simp [Option.filter,this,hm]
end Go.Hw
namespace Go.Hw
open Go Go.Lib
def K45 (f:Fct):Prop:=f.kind=4∨f.kind=5
instance (f:Fct):Decidable (K45 f):=by unfold K45;infer_instance
def Oq (C:List Fct):List Fct:=C.filter fun f=>decide (K45 f)
theorem M0a (C:List Fct)(f:Fct):Oq (C++[f])=if K45 f then Oq C++[f] else Oq C:=by
 unfold Oq
 rw [List.filter_append]
 by_cases h:K45 f <;> simp [h]
theorem Cr.k45 {n:Int}{f:Fct}(h:Cr n f):K45 f:=.inl h.1
theorem casesL_45 (C:List Fct):Gq (Oq C)=Gq C:=by
 refine Qp (P:=fun C=>Gq (Oq C)=Gq C) rfl (fun C f ih => ?_) C
 show Gq (Oq (C++[f]))=Gq (C++[f])
 rw [M0a,Nc]
 by_cases h:K45 f
 · rw [if_pos h,Nc,ih]
 · rw [if_neg h,if_neg (fun q=>h (.inl q)),ih]
end Go.Hw
namespace Go.Hw
open Go
end Go.Hw
namespace Go.Hw
open Go Go.Lib
def Eja (l:List Fct):Option Fct:=l.foldl (fun m f=>match m with|none=>some f|some b=>if 0<Jv f b then some f else some b) none
theorem Eia (l:List Fct)(f:Fct):Eja (l++[f])=match Eja l with|none=>some f|some b=>if 0<Jv f b then some f else some b:=by unfold Eja;rw [List.foldl_append];rfl
theorem maxF_mem {l:List Fct}{m:Fct}(h:Eja l=some m):m∈l:=by
 have:∀ l:List Fct,∀ m,Eja l=some m→m∈l:=fun l=>by
  refine Qp (P:=fun l=>∀ m,Eja l=some m→m∈l) (by intro m h;cases h) (fun C f ih => ?_) l
  intro m h
  rw [Eia] at h
  cases hq:Eja C with
  | none=>rw [hq] at h;cases h;simp
  | some b =>
    rw [hq] at h
    dsimp only at h
    split at h
    · cases h;simp
    · cases h;exact List.mem_append.2 (.inl (ih _ hq))
 exact this l m h
def Lj (g:Bl) (r:Iz):Prop:=r.g=g∧(r.kind=1∨r.kind=2∨r.kind=3)
instance (g:Bl) (r:Iz):Decidable (Lj g r):=by unfold Lj;infer_instance
noncomputable def Sq (C:List Fct) (g:Bl):List Fct:=(Ew C).filter fun f=>decide (Lj g f.ru)
noncomputable def Hk (C:List Fct) (g:Bl):Iz×Int×Bool:=match Eja (Sq C g) with
 | none=>(Ps,0,false)
 | some f=>(f.ru,f.day,true)
def PtsOf (s c k:Int) (r:Iz):Prop:=r.kind=4∧r.season=s∧r.comp=c∧r.club=k
instance (s c k:Int) (r:Iz):Decidable (PtsOf s c k r):=by unfold PtsOf;infer_instance
theorem force_ok {C:List Fct}(hok:∀ f∈C,Cg f){f:Fct}(h:f∈Ew C):f∈C∧Cg f∧f.kind=4∧Fsa f.ru:=by
 obtain ⟨h1,h2,_⟩:=(Mda C f).1 h
 have h3:=hok f h1
 have h4:=h3.2.2.1
 unfold Fb at h4
 rw [if_neg (by omega),if_neg (by omega),if_neg (by omega),if_pos h2] at h4
 exact ⟨h1,h3,h2,h4⟩
def VoidIn (C:List Fct) (f:Fct):Prop:=f.kind=4∧Gn C f.ru.case f.ru.inst≠some f
instance (C:List Fct) (f:Fct):Decidable (VoidIn C f):=by unfold VoidIn;infer_instance
end Go.Hw
namespace Go.Hw
open Go Go.Lib
instance (C:List Fct) (n:Int):Decidable (Mq C n):=by unfold Mq;infer_instance
end Go.Hw
namespace Go.Hw
open Go Go.Lib
theorem M2a {l:List Fct}(h32:∀ f∈l,f.void.length=32):Da (Oq l)=Oq (Da l):=by
 obtain ⟨h1,h2⟩:=Gr l h32
 obtain ⟨h3,h4⟩:=Gr (Oq l) fun f hf=>h32 f (List.mem_filter.1 hf).1
 refine Rm h3 (List.Pairwise.filter _ h1) fun x => ?_
 rw [h4]
 unfold Oq
 rw [List.mem_filter,List.mem_filter,h2]
 exact ⟨fun h=>⟨⟨h.1.1,h.2⟩,h.1.2⟩,fun h=>⟨⟨h.1.1,h.2⟩,h.1.2⟩⟩
end Go.Hw

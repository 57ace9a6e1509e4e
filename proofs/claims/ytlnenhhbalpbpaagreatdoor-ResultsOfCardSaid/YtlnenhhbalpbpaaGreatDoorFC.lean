import Derived.Test.YtlnenhhbalpbpaaGreatDoorFB
import Derived.Test.YtlnenhhbalpbpaaGreatDoorNA
set_option linter.all false
namespace Go.Hw
open Go Go.Lib
def Bp (n:Int) (f:Fct):Prop:=f.kind=4∧f.ru.case=n
instance (n:Int) (f:Fct):Decidable (Bp n f):=by unfold Bp;infer_instance
def Di (C:List Fct) (n:Int):Int:=C.foldl (fun m f=>if Bp n f then max m f.ru.inst else m) 0
def Fc (C:List Fct) (n i:Int):Option Fct:=C.find? fun f=>decide (Bp n f∧f.ru.inst=i)
def Io (C:List Fct) (n:Int):Prop:=0<Di C n∧∃ f∈C,f.kind=5∧f.aCase=n∧f.aInst=Di C n∧f.aSusp=true
def Cqa (n:Int):List Int→List Int
 | []=>[n]
 | m::r=>if m<n then m::Cqa n r else if m=n then m::r else n::m::r
def Cp (C:List Fct):List Int:=C.foldl (fun o f=>if f.kind=4 then Cqa f.ru.case o else o) []
open Classical in
noncomputable def Bn (C:List Fct):List Fct:=(Cp C).filterMap fun n=>if Io C n then none else Fc C n (Di C n)
theorem Bba {n x:Int}:∀ {l:List Int},x∈Cqa n l↔x=n∨x∈l
 | []=>by simp [Cqa]
 | m::r=>by
   unfold Cqa
   split
   · rw [List.mem_cons,Bba,List.mem_cons]
     constructor
     · rintro (h|h|h)
       · exact .inr (.inl h)
       · exact .inl h
       · exact .inr (.inr h)
     · rintro (h|h|h)
       · exact .inr (.inl h)
       · exact .inl h
       · exact .inr (.inr h)
   · split
     · rename_i h;subst h;simp
     · simp
theorem Wd {n:Int}:∀ {l:List Int},l.Pairwise (· < ·)→(Cqa n l).Pairwise (· < ·)
 | [],_=>by simp [Cqa]
 | m::r,h=>by
   obtain ⟨h1,h2⟩:=List.pairwise_cons.1 h
   unfold Cqa
   split
   · rename_i hmn
     refine List.pairwise_cons.2 ⟨fun x hx => ?_,Wd h2⟩
     rcases Bba.1 hx with e|e
     · rw [e];exact hmn
     · exact h1 x e
   · split
     · exact h
     · refine List.pairwise_cons.2 ⟨fun x hx => ?_,h⟩
       rcases List.mem_cons.1 hx with e|e
       · omega
       · have:=h1 x e;omega
theorem Hn (C:List Fct)(f:Fct):Cp (C++[f])=if f.kind=4 then Cqa f.ru.case (Cp C) else Cp C:=by unfold Cp;rw [List.foldl_append];rfl
theorem Ku (C:List Fct)(f:Fct)(n:Int):Di (C++[f]) n=if Bp n f then max (Di C n) f.ru.inst else Di C n:=by unfold Di;rw [List.foldl_append];rfl
theorem Mr {P:List Fct→Prop}(h0:P [])(h1:∀ C f,P C→P (C++[f]))(C:List Fct):P C:=by
 have:∀ n,∀ C:List Fct,C.length=n→P C:=by
  intro n
  induction n with
  | zero=>intro C h;rw [List.length_eq_zero_iff.1 h];exact h0
  | succ n ih =>
    intro C h
    have hne:C≠[]:=fun e=>by rw [e] at h;cases h
    rw [← List.dropLast_concat_getLast hne]
    exact h1 _ _ (ih _ (by rw [List.length_dropLast,h];rfl))
 exact this _ C rfl
theorem Gx (C:List Fct):(Cp C).Pairwise (· < ·):=by
 refine Mr (P:=fun C=>(Cp C).Pairwise (· < ·)) List.Pairwise.nil (fun C f ih => ?_) C
 show (Cp (C++[f])).Pairwise (· < ·)
 rw [Hn]
 split
 · exact Wd ih
 · exact ih
theorem Ja (C:List Fct)(n:Int):n∈Cp C↔∃ f∈C,Bp n f:=by
 refine Mr (P:=fun C=>n∈Cp C↔∃ f∈C,Bp n f) (by simp [Cp]) (fun C f ih => ?_) C
 show n∈Cp (C++[f])↔_
 have e:(∃ g∈C++[f],Bp n g)↔(∃ g∈C,Bp n g)∨Bp n f:=by
  constructor
  · rintro ⟨g,hg,ho⟩
    rcases List.mem_append.1 hg with h|h
    · exact .inl ⟨g,h,ho⟩
    · rw [List.mem_singleton] at h;subst h;exact .inr ho
  · rintro (⟨g,hg,ho⟩|ho)
    · exact ⟨g,List.mem_append.2 (.inl hg),ho⟩
    · exact ⟨f,by simp,ho⟩
 rw [e,← ih,Hn]
 split
 · rename_i hk
   rw [Bba]
   unfold Bp
   constructor
   · rintro (h|h)
     · exact .inr ⟨hk,h.symm⟩
     · exact .inl h
   · rintro (h|h)
     · exact .inr h
     · exact .inl h.2.symm
 · rename_i hk
   exact ⟨.inl,fun h=>h.elim id fun h=>absurd h.1 hk⟩
theorem lastI_ge {C:List Fct}{n:Int}:0≤Di C n∧∀ f∈C,Bp n f→f.ru.inst≤Di C n:=by
 refine Mr (P:=fun C=>0≤Di C n∧∀ f∈C,Bp n f→f.ru.inst≤Di C n) ⟨Int.le_refl _,by simp⟩ (fun C f ih => ?_) C
 show 0≤Di (C++[f]) n∧∀ g∈C++[f],Bp n g→g.ru.inst≤Di (C++[f]) n
 obtain ⟨i1,i2⟩:=ih
 rw [Ku]
 split
 · refine ⟨by omega,fun g hg ho => ?_⟩
   rcases List.mem_append.1 hg with h|h
   · have:=i2 g h ho;omega
   · rw [List.mem_singleton] at h;subst h;omega
 · rename_i hn
   refine ⟨i1,fun g hg ho => ?_⟩
   rcases List.mem_append.1 hg with h|h
   · exact i2 g h ho
   · rw [List.mem_singleton] at h;subst h;exact absurd ho hn
theorem lastI_at {C:List Fct}{n:Int}:Di C n=0∨∃ f∈C,Bp n f∧f.ru.inst=Di C n:=by
 refine Mr (P:=fun C=>Di C n=0∨∃ f∈C,Bp n f∧f.ru.inst=Di C n) (.inl rfl) (fun C f ih => ?_) C
 show Di (C++[f]) n=0∨∃ g∈C++[f],Bp n g∧g.ru.inst=Di (C++[f]) n
 rw [Ku]
 split
 · rename_i ho
   rcases Int.le_total (Di C n) f.ru.inst with h|h
   · exact .inr ⟨f,by simp,ho,by omega⟩
   · rw [show max (Di C n) f.ru.inst=Di C n by omega]
     exact ih.imp id fun ⟨g,hg,h⟩=>⟨g,List.mem_append.2 (.inl hg),h⟩
 · exact ih.imp id fun ⟨g,hg,h⟩=>⟨g,List.mem_append.2 (.inl hg),h⟩
theorem Fx {C:List Fct}{n i:Int}{f:Fct}(h:Fc C n i=some f):f∈C∧Bp n f∧f.ru.inst=i:=by
 unfold Fc at h
 have:=List.find?_some h
 exact ⟨List.mem_of_find?_eq_some h,(of_decide_eq_true this).1,(of_decide_eq_true this).2⟩
theorem F2a {C:List Fct}{n i:Int}(h:Fc C n i=none):∀ f∈C,¬ (Bp n f∧f.ru.inst=i):=fun f hf q=>by
 unfold Fc at h
 have:=List.find?_eq_none.1 h f hf
 exact this (decide_eq_true q)
theorem Bqa {f:Fct}(h:Bm f)(hk:f.kind=4):1≤f.ru.inst∧f.ru.inst≤3:=by
 have:=h.2.2.1
 unfold Cw at this
 rw [if_neg QAd,if_neg QAd,if_neg QAd,if_pos hk] at this
 exact ⟨this.2.2.1,this.2.2.2.1⟩
theorem No {C:List Fct}(hok:∀ f∈C,Bm f){n:Int}(h:∃ f∈C,Bp n f):0<Di C n∧∃ f,Fc C n (Di C n)=some f:=by
 obtain ⟨f,hf,ho⟩:=h
 have h1:=Bqa (hok f hf) ho.1
 have h2:=(lastI_ge (C:=C) (n:=n)).2 f hf ho
 have h0:0<Di C n:=by omega
 refine ⟨h0,?_⟩
 cases hs:Fc C n (Di C n) with
 | some g=>exact ⟨g,rfl⟩
 | none =>
   rcases lastI_at (C:=C) (n:=n) with e|⟨g,hg,ho2,hi⟩
   · omega
   · exact absurd ⟨ho2,hi⟩ (F2a hs g hg)
theorem Kx (C:List Fct)(f:Fct):f∈Bn C↔f∈C∧f.kind=4∧¬ Io C f.ru.case∧Fc C f.ru.case (Di C f.ru.case)=some f:=by
 unfold Bn
 rw [List.mem_filterMap]
 constructor
 · rintro ⟨n,hn,e⟩
   split at e
   · cases e
   · rename_i hh
     obtain ⟨h1,h2,h3⟩:=Fx e
     have hc:f.ru.case=n:=h2.2
     subst hc
     exact ⟨h1,h2.1,hh,e⟩
 · rintro ⟨h1,h2,h3,h4⟩
   exact ⟨f.ru.case,(Ja C _).2 ⟨f,h1,h2,rfl⟩,by rw [if_neg h3];exact h4⟩
theorem Eea (C:List Fct):(Bn C).Pairwise (fun f g=>f.ru.case<g.ru.case):=by
 have h:=Gx C
 unfold Bn
 generalize Cp C=L at h
 induction L with
 | nil=>exact List.Pairwise.nil
 | cons n r ih =>
   obtain ⟨h1,h2⟩:=List.pairwise_cons.1 h
   rw [List.filterMap_cons]
   split
   · exact ih h2
   · rename_i f e
     refine List.pairwise_cons.2 ⟨fun g hg => ?_,ih h2⟩
     obtain ⟨m,hm,e2⟩:=List.mem_filterMap.1 hg
     have q1:f.ru.case=n:=by
      split at e
      · cases e
      · exact (Fx e).2.1.2
     have q2:g.ru.case=m:=by
      split at e2
      · cases e2
      · exact (Fx e2).2.1.2
     rw [q1,q2]
     exact h1 m hm
def H0a (n:Int) (f:Fct):Prop:=¬ (f.kind=4∧f.ru.case=n)∧¬ (f.kind=5∧f.aCase=n)
instance (n:Int) (f:Fct):Decidable (H0a n f):=by unfold H0a;infer_instance
def Lb (n:Int) (C:List Fct):List Fct:=C.filter fun f=>decide (H0a n f)
theorem Hfa (n:Int)(C:List Fct)(f:Fct):Lb n (C++[f])=if H0a n f then Lb n C++[f] else Lb n C:=by
 unfold Lb
 rw [List.filter_append]
 by_cases h:H0a n f <;> simp [h]
theorem B4a {n m:Int}(hm:m≠n){f:Fct}(h:Bp m f):H0a n f:=⟨fun q=>hm (h.2.symm.trans q.2),fun q=>by have:=h.1;omega⟩
theorem Aea {n m:Int}(hm:m≠n)(C:List Fct):Di (Lb n C) m=Di C m:=by
 refine Mr (P:=fun C=>Di (Lb n C) m=Di C m) rfl (fun C f ih => ?_) C
 show Di (Lb n (C++[f])) m=Di (C++[f]) m
 rw [Hfa,Ku]
 split
 · rw [Ku,ih]
 · rename_i h
   rw [if_neg (fun q=>h (B4a hm q)),ih]
theorem Hda {n m:Int}(hm:m≠n)(C:List Fct)(i:Int):Fc (Lb n C) m i=Fc C m i:=by
 unfold Fc Lb
 rw [List.find?_filter]
 congr 1
 funext f
 by_cases h:Bp m f∧f.ru.inst=i
 · simp [h,B4a hm h.1]
 · simp [h]
theorem Afa {n m:Int}(hm:m≠n)(C:List Fct):Io (Lb n C) m↔Io C m:=by
 unfold Io
 rw [Aea hm]
 refine and_congr_right fun _=>⟨fun ⟨f,hf,h⟩=>⟨f,(List.mem_filter.1 hf).1,h⟩,fun ⟨f,hf,h⟩=>⟨f,List.mem_filter.2 ⟨hf,decide_eq_true ⟨fun q => ?_,fun q=>hm (h.2.1.symm.trans q.2)⟩⟩,h⟩⟩
 have:=h.1
 omega
theorem Sa:∀ {a b:List Int},a.Pairwise (· < ·)→b.Pairwise (· < ·)→(∀ x,x∈a↔x∈b)→a=b
 | [],[],_,_,_=>rfl
 | [],y::r,_,_,h=>absurd ((h y).2 QAn) QAn
 | x::l,[],_,_,h=>absurd ((h x).1 QAn) QAn
 | x::l,y::r,ha,hb,h=>by
   obtain ⟨a1,a2⟩:=List.pairwise_cons.1 ha
   obtain ⟨b1,b2⟩:=List.pairwise_cons.1 hb
   have hxy:x=y:=by
    rcases List.mem_cons.1 ((h x).1 QAn) with e|e
    · exact e
    · rcases List.mem_cons.1 ((h y).2 QAn) with e2|e2
      · exact e2.symm
      · have:=b1 x e;have:=a1 y e2;omega
   subst hxy
   rw [Sa a2 b2 fun z=>⟨fun hz => ?_,fun hz => ?_⟩]
   · rcases List.mem_cons.1 ((h z).1 (List.mem_cons_of_mem _ hz)) with e|e
     · have:=a1 z hz;omega
     · exact e
   · rcases List.mem_cons.1 ((h z).2 (List.mem_cons_of_mem _ hz)) with e|e
     · have:=b1 z hz;omega
     · exact e
theorem Hea (n:Int)(C:List Fct):Cp (Lb n C)=(Cp C).filter fun m=>decide (m≠n):=by
 refine Sa (Gx _) (List.Pairwise.filter _ (Gx C)) fun m => ?_
 rw [Ja,List.mem_filter,Ja,decide_eq_true_eq]
 constructor
 · rintro ⟨f,hf,ho⟩
   obtain ⟨h1,h2⟩:=List.mem_filter.1 hf
   have h3:H0a n f:=of_decide_eq_true h2
   exact ⟨⟨f,h1,ho⟩,fun e=>h3.1 ⟨ho.1,ho.2.trans e⟩⟩
 · rintro ⟨⟨f,hf,ho⟩,hm⟩
   exact ⟨f,List.mem_filter.2 ⟨hf,decide_eq_true (B4a hm ho)⟩,ho⟩
open Classical in
theorem force_apart (n:Int)(C:List Fct):Bn (Lb n C)=(Bn C).filter fun f=>decide (f.ru.case≠n):=by
 unfold Bn
 rw [Hea,List.filterMap_filter,List.filter_filterMap]
 congr 1
 funext m
 by_cases hm:m=n
 · subst hm
   simp only [ne_eq,not_true_eq_false,decide_false,Bool.false_eq_true,if_false]
   symm
   cases h:(if Io C m then none else Fc C m (Di C m)) with
   | none=>rfl
   | some f =>
     have:f.ru.case=m:=by
      split at h
      · cases h
      · exact (Fx h).2.1.2
     simp [this]
 · simp only [ne_eq,hm,not_false_eq_true,decide_true,if_true]
   rw [Aea hm,Hda hm]
   have he:(if Io (Lb n C) m then none else Fc C m (Di C m))=(if Io C m then none else Fc C m (Di C m)):=by
    by_cases hh:Io C m
    · rw [if_pos hh,if_pos ((Afa hm C).2 hh)]
    · rw [if_neg hh,if_neg fun q=>hh ((Afa hm C).1 q)]
   rw [he]
   cases h:(if Io C m then none else Fc C m (Di C m)) with
   | none=>rfl
   | some f =>
     have:f.ru.case=m:=by
      split at h
      · cases h
      · exact (Fx h).2.1.2
     simp [Option.filter,this,hm]
end Go.Hw
namespace Go.Hw
open Go Go.Lib
def K45 (f:Fct):Prop:=f.kind=4∨f.kind=5
instance (f:Fct):Decidable (K45 f):=by unfold K45;infer_instance
def Nb (C:List Fct):List Fct:=C.filter fun f=>decide (K45 f)
theorem Lwa (C:List Fct)(f:Fct):Nb (C++[f])=if K45 f then Nb C++[f] else Nb C:=by
 unfold Nb
 rw [List.filter_append]
 by_cases h:K45 f <;> simp [h]
theorem Bp.k45 {n:Int}{f:Fct}(h:Bp n f):K45 f:=.inl h.1
theorem casesL_45 (C:List Fct):Cp (Nb C)=Cp C:=by
 refine Mr (P:=fun C=>Cp (Nb C)=Cp C) rfl (fun C f ih => ?_) C
 show Cp (Nb (C++[f]))=Cp (C++[f])
 rw [Lwa,Hn]
 by_cases h:K45 f
 · rw [if_pos h,Hn,ih]
 · rw [if_neg h,if_neg (fun q=>h (.inl q)),ih]
end Go.Hw
namespace Go.Hw
open Go
end Go.Hw
namespace Go.Hw
open Go Go.Lib
def Py (l:List Fct):Option Fct:=l.foldl (fun m f=>match m with|none=>some f|some b=>if 0<Gp f b then some f else some b) none
theorem Mu (l:List Fct)(f:Fct):Py (l++[f])=match Py l with|none=>some f|some b=>if 0<Gp f b then some f else some b:=by unfold Py;rw [List.foldl_append];rfl
theorem maxF_mem {l:List Fct}{m:Fct}(h:Py l=some m):m∈l:=by
 have:∀ l:List Fct,∀ m,Py l=some m→m∈l:=fun l=>by
  refine Mr (P:=fun l=>∀ m,Py l=some m→m∈l) (by intro m h;cases h) (fun C f ih => ?_) l
  intro m h
  rw [Mu] at h
  cases hq:Py C with
  | none=>rw [hq] at h;cases h;simp
  | some b =>
    rw [hq] at h
    dsimp only at h
    split at h
    · cases h;simp
    · cases h;exact List.mem_append.2 (.inl (ih _ hq))
 exact this l m h
def Fv (g:Ak) (r:Fk):Prop:=r.g=g∧(r.kind=1∨r.kind=2∨r.kind=3)
instance (g:Ak) (r:Fk):Decidable (Fv g r):=by unfold Fv;infer_instance
noncomputable def Jo (C:List Fct) (g:Ak):List Fct:=(Bn C).filter fun f=>decide (Fv g f.ru)
noncomputable def Db (C:List Fct) (g:Ak):Fk×Int×Bool:=match Py (Jo C g) with
 | none=>(Hu,0,false)
 | some f=>(f.ru,f.day,true)
def PtsOf (s c k:Int) (r:Fk):Prop:=r.kind=4∧r.season=s∧r.comp=c∧r.club=k
instance (s c k:Int) (r:Fk):Decidable (PtsOf s c k r):=by unfold PtsOf;infer_instance
theorem force_ok {C:List Fct}(hok:∀ f∈C,Bm f){f:Fct}(h:f∈Bn C):f∈C∧Bm f∧f.kind=4∧If f.ru:=by
 obtain ⟨h1,h2,_⟩:=(Kx C f).1 h
 have h3:=hok f h1
 have h4:=h3.2.2.1
 unfold Cw at h4
 rw [if_neg QAd,if_neg QAd,if_neg QAd,if_pos h2] at h4
 exact ⟨h1,h3,h2,h4⟩
def VoidIn (C:List Fct) (f:Fct):Prop:=f.kind=4∧Fc C f.ru.case f.ru.inst≠some f
instance (C:List Fct) (f:Fct):Decidable (VoidIn C f):=by unfold VoidIn;infer_instance
def voidL (C:List Fct):List Fct:=C.filter fun f=>decide (VoidIn C f)
end Go.Hw
namespace Go.Hw
open Go Go.Lib
instance (C:List Fct) (n:Int):Decidable (Io C n):=by unfold Io;infer_instance
end Go.Hw
namespace Go.Hw
open Go Go.Lib
theorem Lya {l:List Fct}(h32:∀ f∈l,f.void.length=32):Ba (Nb l)=Nb (Ba l):=by
 obtain ⟨h1,h2⟩:=Bx l h32
 obtain ⟨h3,h4⟩:=Bx (Nb l) fun f hf=>h32 f (List.mem_filter.1 hf).1
 refine Qf h3 (List.Pairwise.filter _ h1) fun x => ?_
 rw [h4]
 unfold Nb
 rw [List.mem_filter,List.mem_filter,h2]
 exact ⟨fun h=>⟨⟨h.1.1,h.2⟩,h.1.2⟩,fun h=>⟨⟨h.1.1,h.2⟩,h.1.2⟩⟩
end Go.Hw

import Derived.Test.YtlnenhhbalpbpabGreatDoorFA
set_option linter.all false
namespace Go.Hw
open Go Go.Lib
section
variable {α:Type} (p:α→Fct)
variable {p}
variable (p)
def Pu:α→List α→List α
 | _,[]=>[]
 | x,y::r=>if Jv (p y) (p x)=0 then Pu y r else y::Pu y r
def Ht:List α→List α
 | []=>[]
 | x::r=>x::Pu p x r
variable {p}
theorem Aja (y:α):∀ (r:List α) (x:α),Pu p x (r++[y])=Pu p x r++(if Jv (p y) (p ((x::r).getLast (by simp)))=0 then [] else [y])
 | [],x=>rfl
 | z::r,x=>by
   have ih:=Aja y r z
   rw [List.cons_append,Pu,Pu,ih]
   have e:(x::z::r).getLast (by simp)=(z::r).getLast (by simp):=List.getLast_cons (by simp)
   rw [e]
   split <;> rfl
theorem Cda {l:List α}(hl:l≠[])(y:α):Ht p (l++[y])=Ht p l++(if Jv (p y) (p (l.getLast hl))=0 then [] else [y]):=by
 cases l with
 | nil=>exact absurd rfl hl
 | cons x r=>rw [List.cons_append,Ht,Ht,Aja];rfl
theorem Epa:∀ (r:List α) (x:α),(Pu p x r).length≤r.length
 | [],x=>Nat.le_refl _
 | y::r,x=>by
   have:=Epa r y
   unfold Pu
   split <;> simp <;> omega
theorem Faa (l:List α):(Ht p l).length≤l.length:=by
 cases l with
 | nil=>exact Nat.le_refl _
 | cons x r=>have:=Epa (p:=p) r x;simp [Ht];omega
theorem Xh:∀ (r:List α) (x:α),(Pu p x r).Sublist r
 | [],x=>.slnil
 | y::r,x=>by
   unfold Pu
   split
   · exact (Xh r y).cons _
   · exact (Xh r y).cons_cons _
theorem E9a (l:List α):(Ht p l).Sublist l:=by
 cases l with
 | nil=>exact .slnil
 | cons x r=>exact (Xh r x).cons_cons _
def Nh (l:List Fct):Prop:=l.Pairwise fun a b=>¬ LtF b a
theorem Eoa (f:Fct):∀ (r:List α) (x:α),(∀ z∈x::r,Qb (p z))→(f∈(x::Pu p x r).map p↔f∈(x::r).map p)
 | [],x,_=>Iff.rfl
 | y::r,x,h=>by
   have ih:=Eoa f r y fun z hz=>h z (List.mem_cons_of_mem _ hz)
   have hx:=h x List.mem_cons_self
   have hy:=h y (by simp)
   unfold Pu
   split
   · rename_i c
     have e:=(Sk hy.1 hx.1 (by rw [hx.2,hy.2])).1 c
     simp only [List.map_cons,List.mem_cons] at ih ⊢
     rw [← ih,e];grind
   · simp only [List.map_cons,List.mem_cons] at ih ⊢
     rw [← ih]
theorem Uq:∀ (r:List α) (x:α),(∀ z∈x::r,Qb (p z))→Nh ((x::r).map p)→Rb ((x::Pu p x r).map p)
 | [],x,_,_=>by simp [Rb,Pu]
 | y::r,x,h,hs=>by
   have hx:=h x List.mem_cons_self
   have hy:=h y (by simp)
   have h2:=fun z hz=>h z (List.mem_cons_of_mem _ hz)
   unfold Nh at hs
   simp only [List.map_cons,List.pairwise_cons] at hs
   have ih:=Uq r y h2 (by unfold Nh;simp only [List.map_cons,List.pairwise_cons];exact hs.2)
   unfold Pu
   split
   · rename_i c
     have e:=(Sk hy.1 hx.1 (by rw [hx.2,hy.2])).1 c
     simp only [List.map_cons] at ih ⊢
     rw [← e];exact ih
   · rename_i c
     have hlt:LtF (p x) (p y):=by
      rcases LtF.tri hx.1 hy.1 (by rw [hx.2,hy.2]) with q|q|q
      · exact q
      · exact absurd ((Sk hy.1 hx.1 (by rw [hx.2,hy.2])).2 q.symm) c
      · exact absurd q (hs.1 _ List.mem_cons_self)
     unfold Rb at ih ⊢
     simp only [List.map_cons] at ih ⊢
     rw [List.pairwise_cons]
     refine ⟨fun z hz => ?_,ih⟩
     rw [List.pairwise_cons] at ih
     rcases List.mem_cons.1 hz with q|q
     · subst q;exact hlt
     · exact hlt.trans (ih.1 z q)
theorem Ze {l ys:List α}(hp:ys.Perm l)(h:∀ z∈l,Qb (p z))(hs:Nh (ys.map p)):(Ht p ys).map p=Da (l.map p):=by
 have hy:∀ z∈ys,Qb (p z):=fun z hz=>h z (hp.mem_iff.1 hz)
 obtain ⟨c1,c2⟩:=Gr (l.map p) fun f hf=>by obtain ⟨x,h1,rfl⟩:=List.mem_map.1 hf;exact (h x h1).2
 have key:Rb ((Ht p ys).map p)∧∀ f,f∈(Ht p ys).map p↔f∈ys.map p:=by
  cases ys with
  | nil=>exact ⟨by simp [Ht,Rb],fun f=>Iff.rfl⟩
  | cons x r=>exact ⟨Uq r x hy hs,fun f=>Eoa f r x hy⟩
 refine Rm key.1 c1 fun f => ?_
 rw [key.2,c2,(hp.map p).mem_iff]
 constructor
 · intro hf;refine ⟨hf,?_⟩;obtain ⟨x,h1,rfl⟩:=List.mem_map.1 hf;exact (h x h1).1
 · exact fun h=>h.1
end
open Classical in
noncomputable def ledE (l:List Fct):Int:=if 65536<l.length then 2 else if ∃ f∈l,¬ Cg f then 70 else if Rb l then 0 else 80
end Go.Hw
namespace Go.Hw
open Go Go.Lib
theorem Rz {α:Type}:∀ {a b:List α},a.Nodup→(∀ x∈a,x∈b)→a.length≤b.length
 | [],b,_,_=>Nat.zero_le _
 | x::a,b,hn,hs=>by
   rw [List.nodup_cons] at hn
   obtain ⟨p,q,rfl⟩:=List.append_of_mem (hs x List.mem_cons_self)
   have:=Rz (a:=a) (b:=p++q) hn.2 fun y hy=>by
    have h1:=hs y (List.mem_cons_of_mem _ hy)
    rw [List.mem_append,List.mem_cons] at h1
    rw [List.mem_append]
    rcases h1 with h|h|h
    · exact .inl h
    · subst h;exact absurd hy hn.1
    · exact .inr h
   simp only [List.length_append,List.length_cons] at this ⊢
   omega
def Kd (l:List Fct):Prop:=∀ f∈l,f.void.length=32
end Go.Hw
namespace Go.Hw
open Go Go.Lib
end Go.Hw

import Derived.Test.YtlnenhhbalpbpaaGreatDoorFA
set_option linter.all false
namespace Go.Hw
open Go Go.Lib
section
variable {α:Type} (p:α→Fct)
variable {p}
variable (p)
def Oj:α→List α→List α
 | _,[]=>[]
 | x,y::r=>if Gp (p y) (p x)=0 then Oj y r else y::Oj y r
def Gg:List α→List α
 | []=>[]
 | x::r=>x::Oj p x r
variable {p}
theorem Zf (y:α):∀ (r:List α) (x:α),Oj p x (r++[y])=Oj p x r++(if Gp (p y) (p ((x::r).getLast (by simp)))=0 then [] else [y])
 | [],x=>rfl
 | z::r,x=>by
   have ih:=Zf y r z
   rw [List.cons_append,Oj,Oj,ih]
   have e:(x::z::r).getLast (by simp)=(z::r).getLast (by simp):=List.getLast_cons (by simp)
   rw [e]
   split <;> rfl
theorem Bua {l:List α}(hl:l≠[])(y:α):Gg p (l++[y])=Gg p l++(if Gp (p y) (p (l.getLast hl))=0 then [] else [y]):=by
 cases l with
 | nil=>exact absurd rfl hl
 | cons x r=>rw [List.cons_append,Gg,Gg,Zf];rfl
theorem D5a:∀ (r:List α) (x:α),(Oj p x r).length≤r.length
 | [],x=>Nat.le_refl _
 | y::r,x=>by
   have:=D5a r y
   unfold Oj
   split <;> simp <;> omega
theorem Eta (l:List α):(Gg p l).length≤l.length:=by
 cases l with
 | nil=>exact Nat.le_refl _
 | cons x r=>have:=D5a (p:=p) r x;simp [Gg];omega
theorem Wb:∀ (r:List α) (x:α),(Oj p x r).Sublist r
 | [],x=>.slnil
 | y::r,x=>by
   unfold Oj
   split
   · exact (Wb r y).cons _
   · exact (Wb r y).cons_cons _
theorem Esa (l:List α):(Gg p l).Sublist l:=by
 cases l with
 | nil=>exact .slnil
 | cons x r=>exact (Wb r x).cons_cons _
def Lz (l:List Fct):Prop:=l.Pairwise fun a b=>¬ LtF b a
theorem D4a (f:Fct):∀ (r:List α) (x:α),(∀ z∈x::r,Mj (p z))→(f∈(x::Oj p x r).map p↔f∈(x::r).map p)
 | [],x,_=>Iff.rfl
 | y::r,x,h=>by
   have ih:=D4a f r y fun z hz=>h z (List.mem_cons_of_mem _ hz)
   have hx:=h x List.mem_cons_self
   have hy:=h y (by simp)
   unfold Oj
   split
   · rename_i c
     have e:=(Rc hy.1 hx.1 (by rw [hx.2,hy.2])).1 c
     simp only [List.map_cons,List.mem_cons] at ih ⊢
     rw [← ih,e];grind
   · simp only [List.map_cons,List.mem_cons] at ih ⊢
     rw [← ih]
theorem Tl:∀ (r:List α) (x:α),(∀ z∈x::r,Mj (p z))→Lz ((x::r).map p)→Iu ((x::Oj p x r).map p)
 | [],x,_,_=>by simp [Iu,Oj]
 | y::r,x,h,hs=>by
   have hx:=h x List.mem_cons_self
   have hy:=h y (by simp)
   have h2:=fun z hz=>h z (List.mem_cons_of_mem _ hz)
   unfold Lz at hs
   simp only [List.map_cons,List.pairwise_cons] at hs
   have ih:=Tl r y h2 (by unfold Lz;simp only [List.map_cons,List.pairwise_cons];exact hs.2)
   unfold Oj
   split
   · rename_i c
     have e:=(Rc hy.1 hx.1 (by rw [hx.2,hy.2])).1 c
     simp only [List.map_cons] at ih ⊢
     rw [← e];exact ih
   · rename_i c
     have hlt:LtF (p x) (p y):=by
      rcases LtF.tri hx.1 hy.1 (by rw [hx.2,hy.2]) with q|q|q
      · exact q
      · exact absurd ((Rc hy.1 hx.1 (by rw [hx.2,hy.2])).2 q.symm) c
      · exact absurd q (hs.1 _ List.mem_cons_self)
     unfold Iu at ih ⊢
     simp only [List.map_cons] at ih ⊢
     rw [List.pairwise_cons]
     refine ⟨fun z hz => ?_,ih⟩
     rw [List.pairwise_cons] at ih
     rcases List.mem_cons.1 hz with q|q
     · subst q;exact hlt
     · exact hlt.trans (ih.1 z q)
theorem Xx {l ys:List α}(hp:ys.Perm l)(h:∀ z∈l,Mj (p z))(hs:Lz (ys.map p)):(Gg p ys).map p=Ba (l.map p):=by
 have hy:∀ z∈ys,Mj (p z):=fun z hz=>h z (hp.mem_iff.1 hz)
 obtain ⟨c1,c2⟩:=Bx (l.map p) fun f hf=>by obtain ⟨x,h1,rfl⟩:=List.mem_map.1 hf;exact (h x h1).2
 have key:Iu ((Gg p ys).map p)∧∀ f,f∈(Gg p ys).map p↔f∈ys.map p:=by
  cases ys with
  | nil=>exact ⟨by simp [Gg,Iu],fun f=>Iff.rfl⟩
  | cons x r=>exact ⟨Tl r x hy hs,fun f=>D4a f r x hy⟩
 refine Qf key.1 c1 fun f => ?_
 rw [key.2,c2,(hp.map p).mem_iff]
 constructor
 · intro hf;refine ⟨hf,?_⟩;obtain ⟨x,h1,rfl⟩:=List.mem_map.1 hf;exact (h x h1).1
 · exact fun h=>h.1
end
open Classical in
noncomputable def ledE (l:List Fct):Int:=if 65536<l.length then 2 else if ∃ f∈l,¬ Bm f then 70 else if Iu l then 0 else 80
end Go.Hw
namespace Go.Hw
open Go Go.Lib
open Classical in
noncomputable def knownL (l:List Fct) (k:Int):List Fct:=l.filter fun f=>decide (f.known≤k)
def VoidBy (I:Fct→List UInt8) (l:List Fct) (known:Int) (f:Fct):Prop:=∃ v∈l,v.kind=8∧v.known≤known∧v.void=I f
def InF (I:Fct→List UInt8) (l:List Fct) (day known:Int) (f:Fct):Prop:=f.known≤known∧f.kind≠8∧f.day≤day∧¬ VoidBy I l known f
open Classical in
noncomputable def viewL (I:Fct→List UInt8) (l:List Fct) (day known:Int):List Fct:=l.filter fun f=>decide (InF I l day known f)
theorem C3a {l:List Fct}(h:Iu l)(q:Fct→Bool):Iu (l.filter q):=List.Pairwise.filter q h
theorem F6a {l:List Fct}(h:Iu l):l.Nodup:=by
 unfold Iu at h
 refine h.imp fun {a b} hab e => ?_
 subst e;exact LtF.irrefl _ hab
theorem Qo {α:Type}:∀ {a b:List α},a.Nodup→(∀ x∈a,x∈b)→a.length≤b.length
 | [],b,_,_=>Nat.zero_le _
 | x::a,b,hn,hs=>by
   rw [List.nodup_cons] at hn
   obtain ⟨p,q,rfl⟩:=List.append_of_mem (hs x List.mem_cons_self)
   have:=Qo (a:=a) (b:=p++q) hn.2 fun y hy=>by
    have h1:=hs y (List.mem_cons_of_mem _ hy)
    rw [List.mem_append,List.mem_cons] at h1
    rw [List.mem_append]
    rcases h1 with h|h|h
    · exact .inl h
    · subst h;exact absurd hy hn.1
    · exact .inr h
   simp only [List.length_append,List.length_cons] at this ⊢
   omega
def Mk (l:List Fct):Prop:=∀ f∈l,f.void.length=32
theorem Aaa {l:List Fct}(h32:Mk l):(Ba l).length≤l.length:=by
 obtain ⟨c1,c2⟩:=Bx l h32
 exact Qo (F6a c1) fun x hx=>((c2 x).1 hx).1
end Go.Hw
namespace Go.Hw
open Go Go.Lib
end Go.Hw

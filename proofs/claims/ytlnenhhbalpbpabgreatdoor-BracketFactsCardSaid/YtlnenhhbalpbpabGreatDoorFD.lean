import Derived.Test.YtlnenhhbalpbpabGreatDoorFC
import Derived.Test.YtlnenhhbalpbpabGreatDoorFA
set_option linter.all false
namespace Go.Hw
open Go Go.Lib
theorem Dka {α:Type}{P:List α→Prop}(h0:P [])(h1:∀ l x,P l→P (l++[x]))(l:List α):P l:=by
 rw [← List.reverse_reverse l]
 induction l.reverse with
 | nil=>exact h0
 | cons x r ih=>rw [List.reverse_cons];exact h1 _ _ ih
theorem Jga {α:Type}{lt:α→α→Prop}(irr:∀ a,¬ lt a a)(tr:∀ a b c,lt a b→lt b c→lt a c):∀ {a b:List α},a.Pairwise lt→b.Pairwise lt→(∀ x,x∈a↔x∈b)→a=b
 | [],[],_,_,_=>rfl
 | [],y::b,_,_,h=>absurd ((h y).2 List.mem_cons_self) (by simp)
 | x::a,[],_,_,h=>absurd ((h x).1 List.mem_cons_self) (by simp)
 | x::a,y::b,h1,h2,h=>by
   rw [List.pairwise_cons] at h1 h2
   have hxy:x=y:=by
    rcases List.mem_cons.1 ((h x).1 List.mem_cons_self) with e|e
    · exact e
    · rcases List.mem_cons.1 ((h y).2 List.mem_cons_self) with e2|e2
      · exact e2.symm
      · exact absurd (tr _ _ _ (h2.1 _ e) (h1.1 _ e2)) (irr _)
   subst hxy
   congr 1
   refine Jga irr tr h1.2 h2.2 fun z => ?_
   have hz:=h z
   rw [List.mem_cons,List.mem_cons] at hz
   constructor
   · intro m
     rcases hz.1 (.inr m) with e|e
     · subst e;exact absurd (h1.1 _ m) (irr _)
     · exact e
   · intro m
     rcases hz.2 (.inr m) with e|e
     · subst e;exact absurd (h2.1 _ m) (irr _)
     · exact e
def lastZ:Fct:={ Jp with day:=-1,mTo:=-1 }
def K1a (pl:Int) (f:Fct):Prop:=f.kind=6∧f.mP=pl∧Cg f
open Classical in
noncomputable def Afa (pl:Int) (L:List Fct):List Fct:=L.filter fun f=>decide (K1a pl f)
def Gfa (day:Int) (z x:Fct):Fct:=if x.day≤day∧(z.day<x.day∨(x.day=z.day∧0<Jv x z)) then x else z
noncomputable def C3a (L:List Fct) (pl day:Int):Fct:=(Afa pl L).foldl (Gfa day) lastZ
def Vm (day:Int) (S:Fct→Prop) (z:Fct):Prop :=
 (z=lastZ∧∀ x,S x→¬ x.day≤day)∨(S z∧z.day≤day∧∀ x,S x→x.day≤day→x=z∨x.day<z.day∨(x.day=z.day∧LtF x z))
theorem Vm.uniq {day:Int}{S:Fct→Prop}{z z':Fct}(h:Vm day S z)(h':Vm day S z'):z=z':=by
 rcases h with ⟨rfl,h1⟩|⟨h1,h2,h3⟩
 · rcases h' with ⟨rfl,_⟩|⟨k1,k2,_⟩
   · rfl
   · exact absurd k2 (h1 _ k1)
 · rcases h' with ⟨rfl,k1⟩|⟨k1,k2,k3⟩
   · exact absurd h2 (k1 _ h1)
   · rcases h3 z' k1 k2 with e|e|⟨e,f⟩
     · exact e.symm
     · rcases k3 z h1 h2 with e'|e'|⟨e',f'⟩
       · exact e'
       · omega
       · omega
     · rcases k3 z h1 h2 with e'|e'|⟨e',f'⟩
       · exact e'
       · omega
       · exact absurd (LtF.trans f f') (LtF.irrefl _)
theorem Vm.congr {day:Int}{S S':Fct→Prop}{z:Fct}(hS:∀ x,S x↔S' x)(h:Vm day S z):Vm day S' z:=by
 have:S=S':=funext fun x=>propext (hS x)
 rwa [this] at h
theorem day_nn {f:Fct}(h:Cg f):0≤f.day:=h.1.1
theorem Lja {day:Int}{ms:List Fct}{z x:Fct}(hm:∀ y∈ms,Qb y)(hx:Qb x)(h:Vm day (· ∈ ms) z):Vm day (· ∈ ms++[x]) (Gfa day z x):=by
 unfold Gfa
 split
 · rename_i c
   refine .inr ⟨by simp,c.1,fun y hy hd => ?_⟩
   rcases List.mem_append.1 hy with hy|hy
   · rcases h with ⟨rfl,h1⟩|⟨h1,h2,h3⟩
     · exact absurd hd (h1 _ hy)
     · have key:z.day<x.day∨(z.day=x.day∧LtF z x):=c.2.imp id fun ⟨e,q⟩=>⟨e.symm,It.1 (by have:=Sm x z;omega)⟩
       rcases h3 y hy hd with e|e|⟨e,f⟩
       · subst e;exact .inr key
       · rcases key with k|⟨k,_⟩
         · exact .inr (.inl (by omega))
         · exact .inr (.inl (by omega))
       · rcases key with k|⟨k,g⟩
         · exact .inr (.inl (by omega))
         · exact .inr (.inr ⟨by omega,f.trans g⟩)
   · rw [List.mem_singleton] at hy;exact .inl hy
 · rename_i c
   rcases h with ⟨rfl,h1⟩|⟨h1,h2,h3⟩
   · refine .inl ⟨rfl,fun y hy => ?_⟩
     rcases List.mem_append.1 hy with hy|hy
     · exact h1 _ hy
     · rw [List.mem_singleton] at hy;subst hy
       intro hd
       have h0:=day_nn hx.1
       have:lastZ.day = -1:=rfl
       exact c ⟨hd,.inl (by omega)⟩
   · refine .inr ⟨List.mem_append_left _ h1,h2,fun y hy hd => ?_⟩
     rcases List.mem_append.1 hy with hy|hy
     · exact h3 y hy hd
     · rw [List.mem_singleton] at hy;subst hy
       rcases LtF.tri hx.1 (hm z h1).1 (by rw [hx.2,(hm z h1).2]) with t|t|t
       · rcases Int.lt_trichotomy y.day z.day with d|d|d
         · exact .inr (.inl d)
         · exact .inr (.inr ⟨d,t⟩)
         · exact absurd ⟨hd,.inl d⟩ c
       · exact .inl t
       · rcases Int.lt_trichotomy y.day z.day with d|d|d
         · exact .inr (.inl d)
         · refine absurd ⟨hd,.inr ⟨d,?_⟩⟩ c
           have:=It.2 t
           have:=Sm z y
           omega
         · exact absurd ⟨hd,.inl d⟩ c
theorem Mga {day:Int}(ms:List Fct)(hm:∀ y∈ms,Qb y):Vm day (· ∈ ms) (ms.foldl (Gfa day) lastZ):=by
 revert hm
 refine Dka (P:=fun ms=>(∀ y∈ms,Qb y)→Vm day (· ∈ ms) (ms.foldl (Gfa day) lastZ)) (fun _=>.inl ⟨rfl,fun x hx=>absurd hx (by simp)⟩) (fun l x ih hm => ?_) ms
 rw [List.foldl_append]
 exact Lja (fun y hy=>hm y (by simp [hy])) (hm x (by simp)) (ih fun y hy=>hm y (by simp [hy]))
open Classical in
theorem Aea {pl:Int}{L:List Fct}{x:Fct}:x∈Afa pl L↔x∈L∧K1a pl x:=by
 unfold Afa;rw [List.mem_filter,decide_eq_true_eq]
theorem Dva {L:List Fct}(h32:Kd L)(pl day:Int):Vm day (fun x=>x∈L∧K1a pl x) (C3a L pl day):=by
 refine Vm.congr (fun x=>Aea) (Mga (Afa pl L) fun y hy => ?_)
 rw [Aea] at hy
 exact ⟨hy.2.2.2,h32 y hy.1⟩
theorem regF_ext {A B:List Fct}(hA:Kd A)(hB:Kd B){pl day:Int}(h:∀ x,K1a pl x→x.day≤day→(x∈A↔x∈B)):C3a A pl day=C3a B pl day:=by
 have k1:=Dva hA pl day
 have k2:=Dva hB pl day
 refine k1.uniq ?_
 rcases k2 with ⟨e,k⟩|⟨⟨m1,m2⟩,d,k⟩
 · exact .inl ⟨e,fun x hx hd=>k x ⟨(h x hx.2 hd).1 hx.1,hx.2⟩ hd⟩
 · exact .inr ⟨⟨(h _ m2 d).2 m1,m2⟩,d,fun x hx hd=>k x ⟨(h x hx.2 hd).1 hx.1,hx.2⟩ hd⟩
theorem canonL_in {L:List Fct}(h32:Kd L):∀ f∈Da L,Qb f:=fun f hf=>by
 have:=((Gr L h32).2 f).1 hf
 exact ⟨this.2,h32 f this.1⟩
end Go.Hw
namespace Go.Hw
open Go Go.Lib
theorem Tg {A B:List Fct}(hA:Kd A)(hB:Kd B)(h:∀ x,Cg x→(x∈A↔x∈B))(g:Bl):Cm A g=Cm B g:=by
 unfold Cm
 rw [Fja hA hB (fun x hx=>h x hx.2.1),Fja hA hB (fun x hx=>h x hx.2.1)]
theorem Fk {L:List Fct}(h32:Kd L){g:Bl}(h:(Cm L g).kind=2):∃ f∈L,Cg f∧f.kind=3∧f.sh=(Cm L g).sh∧f.sh.g=g∧0≤(Cm L g).day:=by
 unfold Cm at h ⊢
 cases h0:Sp L g 0 with
 | none =>
   rw [h0] at h
   cases h1:Sp L g 1 with
   | none=>rw [h1] at h;exact absurd h (by decide)
   | some b=>rw [h1] at h;exact absurd (show (1:Int)=2 from h) (by decide)
 | some a =>
   rw [h0] at h
   cases h1:Sp L g 1 with
   | none=>rw [h1] at h;exact absurd (show (1:Int)=2 from h) (by decide)
   | some b =>
     rw [h1] at h
     unfold Wp at h ⊢
     obtain ⟨m,q⟩:=Uc h32 h0
     have hd:=day_nn q.2.1
     by_cases hs:Mo a.sh b.sh
     · simp only [hs,if_true]
       exact ⟨a,m,q.2.1,q.1,rfl,q.2.2.1,by show (0:Int)≤max a.day b.day;omega⟩
     · simp only [hs,if_false] at h
       exact absurd h (by decide)
def LtS (a b:Bz):Prop:=a.day<b.day∨(a.day=b.day∧(a.sh.g.h<b.sh.g.h∨(a.sh.g.h=b.sh.g.h∧a.sh.g.a<b.sh.g.a)))
instance (a b:Bz):Decidable (LtS a b):=by unfold LtS;infer_instance
theorem LtS.irrefl (a:Bz):¬ LtS a a:=by unfold LtS;omega
theorem LtS.trans (a b c:Bz)(h:LtS a b)(k:LtS b c):LtS a c:=by unfold LtS at *;omega
theorem Bl.ext4 {a b:Bl}(h1:a.s=b.s)(h2:a.c=b.c)(h3:a.h=b.h)(h4:a.a=b.a):a=b:=by
 cases a;cases b;simp only at h1 h2 h3 h4;subst h1;subst h2;subst h3;subst h4;rfl
def Ox (L:List Fct) (s c:Int) (ds:List Bz):Prop:=ds.Pairwise LtS∧∀ x,x∈ds↔∃ g:Bl,g.s=s∧g.c=c∧Cm L g=x∧x.kind=2
theorem Ox.uniq {L:List Fct}{s c:Int}{a b:List Bz}(h:Ox L s c a)(k:Ox L s c b):a=b :=
 Jga LtS.irrefl LtS.trans h.1 k.1 fun x=>(h.2 x).trans (k.2 x).symm
open Classical in
noncomputable def Yh {α:Type} (P:List α→Prop):List α:=if h:∃ ds,P ds then h.choose else []
theorem On {α:Type}{P:List α→Prop}{l:List α}(h:P l):P (Yh P):=by
 have hx:∃ ds,P ds:=⟨l,h⟩
 unfold Yh
 rw [dif_pos hx]
 exact hx.choose_spec
noncomputable def Yx (L:List Fct) (s c:Int):List Bz:=Yh (Ox L s c)
theorem decC_of {L:List Fct}{s c:Int}{ds:List Bz}(h:Ox L s c ds):ds=Yx L s c:=by
 exact h.uniq (On h)
theorem decC_ext {A B:List Fct}(hA:Kd A)(hB:Kd B)(h:∀ x,Cg x→(x∈A↔x∈B))(s c:Int):Yx A s c=Yx B s c:=by
 have e:Ox A s c=Ox B s c:=by
  unfold Ox
  simp only [Tg hA hB h]
 unfold Yx
 rw [e]
structure DecOk (L:List Fct) (s c:Int) (x:Bz):Prop where
 sheet:Gw x.sh
 score:Cm L x.sh.g=x
 kind:x.kind=2
 day:0≤x.day
 s:x.sh.g.s=s
 c:x.sh.g.c=c
theorem Cba {L:List Fct}(h32:Kd L){s c:Int}{x:Bz}(h:∃ g:Bl,g.s=s∧g.c=c∧Cm L g=x∧x.kind=2):DecOk L s c x:=by
 obtain ⟨g,h1,h2,rfl,h4⟩:=h
 obtain ⟨f,m,ok,k,e,eg,d⟩:=Fk h32 h4
 have hg:(Cm L g).sh.g=g:=by rw [← e];exact eg
 have hs:Gw (Cm L g).sh:=by
  have:=ok.2.2.1
  unfold Fb at this
  rw [if_neg (by omega),if_neg (by omega),if_pos k,e] at this
  exact this
 exact ⟨hs,by rw [hg],h4,d,by rw [hg];exact h1,by rw [hg];exact h2⟩
theorem Ox.ok {L:List Fct}(h32:Kd L){s c:Int}{ds:List Bz}(h:Ox L s c ds){x:Bz}(hx:x∈ds):DecOk L s c x:=Cba h32 ((h.2 x).1 hx)
theorem LtS.tri {L:List Fct}{s c:Int}{x y:Bz}(hx:DecOk L s c x)(hy:DecOk L s c y):LtS x y∨x=y∨LtS y x:=by
 by_cases h1:LtS x y
 · exact .inl h1
 by_cases h2:LtS y x
 · exact .inr (.inr h2)
 refine .inr (.inl ?_)
 have e:x.sh.g=y.sh.g:=by
  unfold LtS at h1 h2
  exact Bl.ext4 (by rw [hx.s,hy.s]) (by rw [hx.c,hy.c]) (by omega) (by omega)
 rw [← hx.score,← hy.score,e]
theorem Loa {L:List Fct}(h32:Kd L){s c:Int}{xs ys:List Bz}(hx:∀ x,x∈xs↔∃ g:Bl,g.s=s∧g.c=c∧Cm L g=x∧x.kind=2)(hn:xs.Nodup)(hp:ys.Perm xs)(hs:ys.Pairwise fun x y=>¬ LtS y x):Ox L s c ys:=by
 have hm:∀ x,x∈ys↔∃ g:Bl,g.s=s∧g.c=c∧Cm L g=x∧x.kind=2:=fun x=>hp.mem_iff.trans (hx x)
 refine ⟨?_,hm⟩
 have h2:ys.Nodup:=hp.nodup_iff.2 hn
 refine (List.pairwise_and_iff.2 ⟨hs,h2⟩).imp_of_mem fun {a b} ha hb ⟨q1,q2⟩ => ?_
 rcases LtS.tri (Cba h32 ((hm a).1 ha)) (Cba h32 ((hm b).1 hb)) with h|h|h
 · exact h
 · exact absurd h q2
 · exact absurd h q1
theorem Ox.len {L:List Fct}(h32:Kd L){s c:Int}{ds:List Bz}(h:Ox L s c ds):ds.length≤L.length:=by
 have hn:(ds.map fun x=>x.sh.g).Nodup:=by
  refine List.pairwise_map.2 (h.1.imp_of_mem fun {a b} ha hb hab e => ?_)
  have oa:=h.ok h32 ha
  have ob:=h.ok h32 hb
  have:a=b:=by rw [← oa.score,← ob.score,e]
  subst this
  exact LtS.irrefl _ hab
 have:=Rz (b:=L.map fun f=>f.sh.g) hn fun g hg=>by
  obtain ⟨x,hx,rfl⟩:=List.mem_map.1 hg
  have o:=h.ok h32 hx
  obtain ⟨f,m,_,_,_,eg,_⟩:=Fk h32 (g:=x.sh.g) (by rw [o.score];exact o.kind)
  exact List.mem_map.2 ⟨f,m,eg⟩
 simpa using this
def Vi (p:Int) (z:Int×Bool) (c:Fy):Int×Bool:=if c.p=p then (if c.red then (z.1,true) else (min 2 (z.1+1),z.2)) else z
def Jl (x:El) (p:Int):Int×Bool:=(x.hc++x.ac).foldl (Vi p) (0,false)
theorem Kla (p:Int)(cs:List Fy):∀ z:Int×Bool,0≤z.1∧z.1≤2→0≤(cs.foldl (Vi p) z).1∧(cs.foldl (Vi p) z).1≤2:=by
 induction cs with
 | nil=>intro z h;exact h
 | cons c r ih =>
   intro z h
   rw [List.foldl_cons]
   refine ih _ ?_
   unfold Vi
   split
   · split
     · exact h
     · dsimp only;omega
   · exact h
theorem Fia (x:El)(p:Int):0≤(Jl x p).1∧(Jl x p).1≤2:=Kla p _ (0,false) ⟨by decide,by decide⟩
theorem Aua {p:Int}:∀ {cs:List Fy} {z:Int×Bool},(∀ c∈cs,c.p≠p)→cs.foldl (Vi p) z=z
 | [],_,_=>rfl
 | c::r,z,h=>by
   rw [List.foldl_cons,Aua fun d hd=>h d (List.mem_cons_of_mem _ hd)]
   unfold Vi
   rw [if_neg (h c List.mem_cons_self)]
theorem H5a {x:El}(hx:Gw x){p:Int}(h1:p ∉ x.hs)(h2:p ∉ x.asn):Jl x p=(0,false):=by
 obtain ⟨_,_,_,_,_,_,_,hc,ac,_⟩:=hx
 refine Aua fun c hc' => ?_
 rcases List.mem_append.1 hc' with q|q
 · intro e;exact h1 (e ▸ hc.2 c q)
 · intro e;exact h2 (e ▸ ac.2 c q)
def Qa (x:El) (ms:List (Int×Int)):Prop:=(ms.Pairwise fun a b=>a.1<b.1)∧∀ m:Int×Int,m∈ms↔(m.1∈x.hs∧m.2=x.g.h)∨(m.1∈x.asn∧m.2=x.g.a)
theorem Qa.uniq {x:El}{a b:List (Int×Int)}(h:Qa x a)(k:Qa x b):a=b :=
 Jga (lt:=fun a b:Int×Int=>a.1<b.1) (fun a=>by omega) (fun a b c h1 h2=>by omega) h.1 k.1 fun m=>(h.2 m).trans (k.2 m).symm
noncomputable def Vd (x:El):List (Int×Int):=Yh (Qa x)
theorem memS_of {x:El}{ms:List (Int×Int)}(h:Qa x ms):ms=Vd x:=by
 exact h.uniq (On h)
theorem Qa.here {x:El}{ms:List (Int×Int)}(h:Qa x ms):Qa x (Vd x):=memS_of h ▸ h
structure Mr where
 p:Int
 club:Int
 g:Bl
deriving DecidableEq,Inhabited
def Um (ds:List Bz) (p:Int):Int:=ds.foldl (fun n x=>n+(Jl x.sh p).1) 0
theorem Wa (ds:List Bz)(x:Bz)(p:Int):Um (ds++[x]) p=Um ds p+(Jl x.sh p).1:=by unfold Um;rw [List.foldl_append];rfl
theorem yelC_bd (ds:List Bz)(p:Int):0≤Um ds p∧Um ds p≤2 * (ds.length:Int):=by
 refine Dka (P:=fun ds=>0≤Um ds p∧Um ds p≤2 * (ds.length:Int)) ⟨by simp [Um],by simp [Um]⟩ (fun l x ih => ?_) ds
 have:=Fia x.sh p
 rw [Wa,List.length_append,List.length_singleton]
 omega
def Tl (ds:List Bz) (club:Int):Option Bz:=ds.find? fun z=>decide (z.sh.g.h=club∨z.sh.g.a=club)
def Earn (n y:Int) (red:Bool):Prop:=red=true∨(n+y) / 5≠n / 5
instance (n y:Int) (red:Bool):Decidable (Earn n y red):=by unfold Earn;infer_instance
def Ga (pre post:List Bz) (x:Bz) (m:Int×Int):List Mr :=
 if Earn (Um pre m.1) (Jl x.sh m.1).1 (Jl x.sh m.1).2 then (match Tl post m.2 with|none=>[]|some z=>[⟨m.1,m.2,z.sh.g⟩]) else []
noncomputable def I9a (ds:List Bz) (i:Nat):List Mr:=(Vd (ds.getD i No).sh).flatMap (Ga (ds.take i) (ds.drop (i+1)) (ds.getD i No))
noncomputable def Pq (ds:List Bz) (k:Nat):List Mr:=(List.range k).flatMap (I9a ds)
noncomputable def Md (ds:List Bz):List Mr:=Pq ds ds.length
theorem Zp (ds:List Bz)(k:Nat):Pq ds (k+1)=Pq ds k++I9a ds k:=by unfold Pq;rw [List.range_succ,List.flatMap_append];simp
theorem Gha (pre post:List Bz)(x:Bz)(m:Int×Int):(Ga pre post x m).length≤1:=by
 unfold Ga
 split
 · split <;> simp
 · simp
theorem Us {α β:Type}(f:α→List β)(h:∀ a,(f a).length≤1):∀ l:List α,(l.flatMap f).length≤l.length
 | []=>by simp
 | a::r=>by
   have:=Us f h r
   have:=h a
   rw [List.flatMap_cons,List.length_append,List.length_cons];omega
theorem Jsa {x:El}(hx:Gw x){ms:List (Int×Int)}(h:Qa x ms):ms.length≤80:=by
 obtain ⟨_,_,_,_,_,h1,h2,_,_,_⟩:=hx
 have hn:ms.Nodup:=h.1.imp fun {a b} hab e=>by subst e;omega
 have:=Rz (b:=x.hs.map (fun p=>(p,x.g.h))++x.asn.map fun p=>(p,x.g.a)) hn (fun m hm=>by
  rw [List.mem_append,List.mem_map,List.mem_map]
  rcases (h.2 m).1 hm with ⟨q,e⟩|⟨q,e⟩
  · exact .inl ⟨m.1,q,by rw [← e]⟩
  · exact .inr ⟨m.1,q,by rw [← e]⟩)
 rw [List.length_append,List.length_map,List.length_map] at this
 have:=h1.1
 have:=h2.1
 omega
end Go.Hw
namespace Go.Hw
open Go Go.Lib
def unfB (pl day:Int) (r:Iz):Bool:=decide (r.kind=6∧r.player=pl∧r.lo≤day∧day≤r.hi)
noncomputable def Zk (C:List Fct) (pl day:Int):Bool:=((Ew C).map (·.ru)).any (unfB pl day)
def Nga (L:List Fct) (S:List Mr) (g:Bl) (day club p:Int):Prop :=
 ((∃ x∈L,K1a p x)∧¬ (0≤(C3a L p day).mTo∧(C3a L p day).mTo=club))∨Zk (Da L) p day=true∨∃ s∈S,s.p=p∧s.g=g
open Classical in
noncomputable def Vr (L:List Fct) (S:List Mr) (g:Bl) (day club:Int) (sq:List Int):List Int:=sq.filter fun p=>decide (Nga L S g day club p)
noncomputable def Aaa (L:List Fct) (g:Bl):List Int×List Int :=
 if (Cm L g).kind=2 then (Vr L (Md (Yx L g.s g.c)) g (Cm L g).day g.h (Cm L g).sh.hs,Vr L (Md (Yx L g.s g.c)) g (Cm L g).day g.a (Cm L g).sh.asn) else ([],[])
open Classical in
theorem offS_snoc (L:List Fct)(S:List Mr)(g:Bl)(day club:Int)(sq:List Int)(p:Int):Vr L S g day club (sq++[p])=if Nga L S g day club p then Vr L S g day club sq++[p] else Vr L S g day club sq:=by
 unfold Vr
 rw [List.filter_append]
 by_cases h:Nga L S g day club p <;> simp [h]
theorem Bma (L:List Fct)(S:List Mr)(g:Bl)(day club:Int)(sq:List Int):(Vr L S g day club sq).length≤sq.length:=List.length_filter_le _ _
theorem offL_ext {A B:List Fct}(hA:Kd A)(hB:Kd B)(h:∀ x,Cg x→(x∈A↔x∈B))(g:Bl):Aaa A g=Aaa B g:=by
 have e1:=Tg hA hB h
 have e2:=decC_ext hA hB h
 have e3:=Tz hA hB h
 have e4:∀ p d,C3a A p d=C3a B p d:=fun p d=>regF_ext hA hB fun x hx _=>h x hx.2.2
 have e5:∀ p,(∃ x∈A,K1a p x)↔∃ x∈B,K1a p x:=fun p =>
  ⟨fun ⟨x,m,q⟩=>⟨x,(h x q.2.2).1 m,q⟩,fun ⟨x,m,q⟩=>⟨x,(h x q.2.2).2 m,q⟩⟩
 have e6:∀ S g d c,Nga A S g d c=Nga B S g d c:=fun S g d c=>funext fun p=>by
  unfold Nga
  rw [propext (e5 p),e4,e3]
 have e7:∀ S d c,Vr A S g d c=Vr B S g d c:=fun S d c=>by
  unfold Vr
  rw [e6]
 unfold Aaa
 rw [e1,e2,e7,e7]
structure SuspWhy (L:List Fct) (se co:Int) (t:Mr):Prop where
 kind:(Cm L t.g).kind=2
 s:t.g.s=se
 c:t.g.c=co
 club:t.club=t.g.h∨t.club=t.g.a
 before:∃ g:Bl,g.s=se∧g.c=co∧(Cm L g).kind=2∧(0<(Jl (Cm L g).sh t.p).1∨(Jl (Cm L g).sh t.p).2=true)∧g≠t.g∧(Cm L g).day≤(Cm L t.g).day
end Go.Hw
namespace Go.Hw
open Go Go.Lib
end Go.Hw

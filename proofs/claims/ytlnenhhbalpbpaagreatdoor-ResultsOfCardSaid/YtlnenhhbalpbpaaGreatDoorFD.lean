import Derived.Test.YtlnenhhbalpbpaaGreatDoorFC
import Derived.Test.YtlnenhhbalpbpaaGreatDoorFA
set_option linter.all false
namespace Go.Hw
open Go Go.Lib
theorem Kqa {α:Type}{P:List α→Prop}(h0:P [])(h1:∀ l x,P l→P (l++[x]))(l:List α):P l:=by
 rw [← List.reverse_reverse l]
 induction l.reverse with
 | nil=>exact h0
 | cons x r ih=>rw [List.reverse_cons];exact h1 _ _ ih
theorem pw_ext {α:Type}{lt:α→α→Prop}(irr:∀ a,¬ lt a a)(tr:∀ a b c,lt a b→lt b c→lt a c):∀ {a b:List α},a.Pairwise lt→b.Pairwise lt→(∀ x,x∈a↔x∈b)→a=b
 | [],[],_,_,_=>rfl
 | [],y::b,_,_,h=>absurd ((h y).2 List.mem_cons_self) QAn
 | x::a,[],_,_,h=>absurd ((h x).1 List.mem_cons_self) QAn
 | x::a,y::b,h1,h2,h=>by
   rw [List.pairwise_cons] at h1 h2
   have hxy:x=y:=by
    rcases List.mem_cons.1 ((h x).1 List.mem_cons_self) with e|e
    · exact e
    · rcases List.mem_cons.1 ((h y).2 List.mem_cons_self) with e2|e2
      · exact e2.symm
      · exact absurd (tr _ _ _ (h2.1 _ e) (h1.1 _ e2)) (irr _)
   subst hxy
   congr 1
   refine pw_ext irr tr h1.2 h2.2 fun z => ?_
   have hz:=h z
   rw [List.mem_cons,List.mem_cons] at hz
   constructor
   · intro m
     rcases hz.1 (.inr m) with e|e
     · subst e;exact absurd (h1.1 _ m) (irr _)
     · exact e
   · intro m
     rcases hz.2 (.inr m) with e|e
     · subst e;exact absurd (h2.1 _ m) (irr _)
     · exact e
def Oi:Fct:={ Ef with day:=-1,mTo:=-1 }
def Fja (pl:Int) (f:Fct):Prop:=f.kind=6∧f.mP=pl∧Bm f
open Classical in
noncomputable def Za (pl:Int) (L:List Fct):List Fct:=L.filter fun f=>decide (Fja pl f)
def Fya (day:Int) (z x:Fct):Fct:=if x.day≤day∧(z.day<x.day∨(x.day=z.day∧0<Gp x z)) then x else z
noncomputable def Ue (L:List Fct) (pl day:Int):Fct:=(Za pl L).foldl (Fya day) Oi
def On (day:Int) (S:Fct→Prop) (z:Fct):Prop :=
 (z=Oi∧∀ x,S x→¬ x.day≤day)∨(S z∧z.day≤day∧∀ x,S x→x.day≤day→x=z∨x.day<z.day∨(x.day=z.day∧LtF x z))
theorem On.uniq {day:Int}{S:Fct→Prop}{z z':Fct}(h:On day S z)(h':On day S z'):z=z':=by
 rcases h with ⟨rfl,h1⟩|⟨h1,h2,h3⟩
 · rcases h' with ⟨rfl,_⟩|⟨k1,k2,_⟩
   · rfl
   · exact absurd k2 (h1 _ k1)
 · rcases h' with ⟨rfl,k1⟩|⟨k1,k2,k3⟩
   · exact absurd h2 (k1 _ h1)
   · rcases h3 z' k1 k2 with e|e|⟨e,f⟩
     · exact e.symm
     · rcases k3 z h1 h2 with e'|e'|⟨e',f'⟩
       · exact e'
       · omega
       · omega
     · rcases k3 z h1 h2 with e'|e'|⟨e',f'⟩
       · exact e'
       · omega
       · exact absurd (LtF.trans f f') (LtF.irrefl _)
theorem On.congr {day:Int}{S S':Fct→Prop}{z:Fct}(hS:∀ x,S x↔S' x)(h:On day S z):On day S' z:=by
 have:S=S':=funext fun x=>propext (hS x)
 rwa [this] at h
theorem day_nn {f:Fct}(h:Bm f):0≤f.day:=h.1.1
theorem Kja {day:Int}{ms:List Fct}{z x:Fct}(hm:∀ y∈ms,Mj y)(hx:Mj x)(h:On day (· ∈ ms) z):On day (· ∈ ms++[x]) (Fya day z x):=by
 unfold Fya
 split
 · rename_i c
   refine .inr ⟨by simp,c.1,fun y hy hd => ?_⟩
   rcases List.mem_append.1 hy with hy|hy
   · rcases h with ⟨rfl,h1⟩|⟨h1,h2,h3⟩
     · exact absurd hd (h1 _ hy)
     · have key:z.day<x.day∨(z.day=x.day∧LtF z x):=c.2.imp id fun ⟨e,q⟩=>⟨e.symm,Gw.1 (by have:=Re x z;omega)⟩
       rcases h3 y hy hd with e|e|⟨e,f⟩
       · subst e;exact .inr key
       · rcases key with k|⟨k,_⟩
         · exact .inr (.inl QAd)
         · exact .inr (.inl QAd)
       · rcases key with k|⟨k,g⟩
         · exact .inr (.inl QAd)
         · exact .inr (.inr ⟨by omega,f.trans g⟩)
   · rw [List.mem_singleton] at hy;exact .inl hy
 · rename_i c
   rcases h with ⟨rfl,h1⟩|⟨h1,h2,h3⟩
   · refine .inl ⟨rfl,fun y hy => ?_⟩
     rcases List.mem_append.1 hy with hy|hy
     · exact h1 _ hy
     · rw [List.mem_singleton] at hy;subst hy
       intro hd
       have h0:=day_nn hx.1
       have:Oi.day = -1:=rfl
       exact c ⟨hd,.inl QAd⟩
   · refine .inr ⟨List.mem_append_left _ h1,h2,fun y hy hd => ?_⟩
     rcases List.mem_append.1 hy with hy|hy
     · exact h3 y hy hd
     · rw [List.mem_singleton] at hy;subst hy
       rcases LtF.tri hx.1 (hm z h1).1 (by rw [hx.2,(hm z h1).2]) with t|t|t
       · rcases Int.lt_trichotomy y.day z.day with d|d|d
         · exact .inr (.inl d)
         · exact .inr (.inr ⟨d,t⟩)
         · exact absurd ⟨hd,.inl d⟩ c
       · exact .inl t
       · rcases Int.lt_trichotomy y.day z.day with d|d|d
         · exact .inr (.inl d)
         · refine absurd ⟨hd,.inr ⟨d,?_⟩⟩ c
           have:=Gw.2 t
           have:=Re z y
           omega
         · exact absurd ⟨hd,.inl d⟩ c
theorem Lka {day:Int}(ms:List Fct)(hm:∀ y∈ms,Mj y):On day (· ∈ ms) (ms.foldl (Fya day) Oi):=by
 revert hm
 refine Kqa (P:=fun ms=>(∀ y∈ms,Mj y)→On day (· ∈ ms) (ms.foldl (Fya day) Oi)) (fun _=>.inl ⟨rfl,fun x hx=>absurd hx QAn⟩) (fun l x ih hm => ?_) ms
 rw [List.foldl_append]
 exact Kja (fun y hy=>hm y (by simp [hy])) (hm x QAn) (ih fun y hy=>hm y (by simp [hy]))
open Classical in
theorem Yz {pl:Int}{L:List Fct}{x:Fct}:x∈Za pl L↔x∈L∧Fja pl x:=by
 unfold Za;rw [List.mem_filter,decide_eq_true_eq]
theorem regF_spec {L:List Fct}(h32:Mk L)(pl day:Int):On day (fun x=>x∈L∧Fja pl x) (Ue L pl day):=by
 refine On.congr (fun x=>Yz) (Lka (Za pl L) fun y hy => ?_)
 rw [Yz] at hy
 exact ⟨hy.2.2.2,h32 y hy.1⟩
def Qd (pl day:Int) (z x:Fct):Fct:=if x.kind=6∧x.mP=pl∧x.day≤day∧z.day≤x.day then x else z
theorem regR_spec {pl day:Int}(C:List Fct)(hs:Iu C)(hok:∀ f∈C,Mj f):On day (fun x=>x∈C∧Fja pl x) (C.foldl (Qd pl day) Oi):=by
 revert hs hok
 refine Kqa (P:=fun C=>Iu C→(∀ f∈C,Mj f)→On day (fun x=>x∈C∧Fja pl x) (C.foldl (Qd pl day) Oi)) (fun _ _=>.inl ⟨rfl,fun x hx=>absurd hx.1 QAn⟩) (fun l x ih hs hok => ?_) C
 have hs0:=List.pairwise_append.1 hs
 have ih:=ih hs0.1 (fun y hy=>hok y (by simp [hy]))
 have hx:=hok x QAn
 have hlt:∀ y∈l,LtF y x:=fun y hy=>hs0.2.2 y hy x QAn
 rw [List.foldl_append]
 generalize l.foldl (Qd pl day) Oi=z at ih
 show On day _ (Qd pl day z x)
 unfold Qd
 split
 · rename_i c
   refine .inr ⟨⟨by simp,c.1,c.2.1,hx.1⟩,c.2.2.1,fun y hy hd => ?_⟩
   rcases List.mem_append.1 hy.1 with h1|h1
   · rcases ih with ⟨e,k⟩|⟨m,d,k⟩
     · exact absurd hd (k y ⟨h1,hy.2⟩)
     · have:=c.2.2.2
       have hl:=hlt y h1
       rcases Int.lt_trichotomy y.day x.day with t|t|t
       · exact .inr (.inl t)
       · exact .inr (.inr ⟨t,hl⟩)
       · rcases k y ⟨h1,hy.2⟩ hd with e|e|⟨e,_⟩
         · subst e;omega
         · omega
         · omega
   · rw [List.mem_singleton] at h1;exact .inl h1
 · rename_i c
   rcases ih with ⟨rfl,k⟩|⟨m,d,k⟩
   · refine .inl ⟨rfl,fun y hy hd => ?_⟩
     rcases List.mem_append.1 hy.1 with h1|h1
     · exact k y ⟨h1,hy.2⟩ hd
     · rw [List.mem_singleton] at h1;subst h1
       have h0:=day_nn hx.1
       have:Oi.day = -1:=rfl
       exact c ⟨hy.2.1,hy.2.2.1,hd,by omega⟩
   · refine .inr ⟨⟨by simp [m.1],m.2⟩,d,fun y hy hd => ?_⟩
     rcases List.mem_append.1 hy.1 with h1|h1
     · exact k y ⟨h1,hy.2⟩ hd
     · rw [List.mem_singleton] at h1;subst h1
       exact .inr (.inl (by
        refine Classical.byContradiction fun t=>c ⟨hy.2.1,hy.2.2.1,hd,?_⟩
        omega))
theorem Eya {L:List Fct}(h32:Mk L):∀ f∈Ba L,Mj f:=fun f hf=>by
 have:=((Bx L h32).2 f).1 hf
 exact ⟨this.2,h32 f this.1⟩
theorem regR_eq {L:List Fct}(h32:Mk L)(pl day:Int):(Ba L).foldl (Qd pl day) Oi=Ue L pl day:=by
 have hc:=Bx L h32
 refine (regR_spec (pl:=pl) (day:=day) _ hc.1 (Eya h32)).uniq (On.congr (fun x => ?_) (regF_spec h32 pl day))
 constructor
 · rintro ⟨h1,h2⟩;exact ⟨(hc.2 x).2 ⟨h1,h2.2.2⟩,h2⟩
 · rintro ⟨h1,h2⟩;exact ⟨((hc.2 x).1 h1).1,h2⟩
end Go.Hw
namespace Go.Hw
open Go Go.Lib
theorem Cl {L:List Fct}(h32:Mk L){g:Ak}(h:(Bj L g).kind=2):∃ f∈L,Bm f∧f.kind=3∧f.sh=(Bj L g).sh∧f.sh.g=g∧0≤(Bj L g).day:=by
 unfold Bj at h ⊢
 cases h0:Gr L g 0 with
 | none =>
   rw [h0] at h
   cases h1:Gr L g 1 with
   | none=>rw [h1] at h;exact absurd h QAs
   | some b=>rw [h1] at h;exact absurd (show (1:Int)=2 from h) QAs
 | some a =>
   rw [h0] at h
   cases h1:Gr L g 1 with
   | none=>rw [h1] at h;exact absurd (show (1:Int)=2 from h) QAs
   | some b =>
     rw [h1] at h
     unfold Mo at h ⊢
     obtain ⟨m,q⟩:=Od h32 h0
     have hd:=day_nn q.2.1
     by_cases hs:Hh a.sh b.sh
     · simp only [hs,if_true]
       exact ⟨a,m,q.2.1,q.1,rfl,q.2.2.1,by show (0:Int)≤max a.day b.day;omega⟩
     · simp only [hs,if_false] at h
       exact absurd h QAs
def LtS (a b:Az):Prop:=a.day<b.day∨(a.day=b.day∧(a.sh.g.h<b.sh.g.h∨(a.sh.g.h=b.sh.g.h∧a.sh.g.a<b.sh.g.a)))
instance (a b:Az):Decidable (LtS a b):=by unfold LtS;infer_instance
theorem LtS.irrefl (a:Az):¬ LtS a a:=by unfold LtS;omega
theorem LtS.trans (a b c:Az)(h:LtS a b)(k:LtS b c):LtS a c:=by unfold LtS at *;omega
theorem Ak.ext4 {a b:Ak}(h1:a.s=b.s)(h2:a.c=b.c)(h3:a.h=b.h)(h4:a.a=b.a):a=b:=by
 cases a;cases b;simp only at h1 h2 h3 h4;subst h1;subst h2;subst h3;subst h4;rfl
def Oo (L:List Fct) (s c:Int) (ds:List Az):Prop:=ds.Pairwise LtS∧∀ x,x∈ds↔∃ g:Ak,g.s=s∧g.c=c∧Bj L g=x∧x.kind=2
theorem Oo.uniq {L:List Fct}{s c:Int}{a b:List Az}(h:Oo L s c a)(k:Oo L s c b):a=b :=
 pw_ext LtS.irrefl LtS.trans h.1 k.1 fun x=>(h.2 x).trans (k.2 x).symm
open Classical in
noncomputable def Bwa {α:Type} (P:List α→Prop):List α:=if h:∃ ds,P ds then h.choose else []
theorem Tp {α:Type}{P:List α→Prop}{l:List α}(h:P l):P (Bwa P):=by
 have hx:∃ ds,P ds:=⟨l,h⟩
 unfold Bwa
 rw [dif_pos hx]
 exact hx.choose_spec
noncomputable def Lt (L:List Fct) (s c:Int):List Az:=Bwa (Oo L s c)
theorem G3a {L:List Fct}{s c:Int}{ds:List Az}(h:Oo L s c ds):ds=Lt L s c:=by
 exact h.uniq (Tp h)
structure Foa (L:List Fct) (s c:Int) (x:Az):Prop where
 sheet:Dv x.sh
 score:Bj L x.sh.g=x
 kind:x.kind=2
 day:0≤x.day
 s:x.sh.g.s=s
 c:x.sh.g.c=c
theorem Ra {L:List Fct}(h32:Mk L){s c:Int}{x:Az}(h:∃ g:Ak,g.s=s∧g.c=c∧Bj L g=x∧x.kind=2):Foa L s c x:=by
 obtain ⟨g,h1,h2,rfl,h4⟩:=h
 obtain ⟨f,m,ok,k,e,eg,d⟩:=Cl h32 h4
 have hg:(Bj L g).sh.g=g:=by rw [← e];exact eg
 have hs:Dv (Bj L g).sh:=by
  have:=ok.2.2.1
  unfold Cw at this
  rw [if_neg QAd,if_neg QAd,if_pos k,e] at this
  exact this
 exact ⟨hs,by rw [hg],h4,d,by rw [hg];exact h1,by rw [hg];exact h2⟩
theorem Oo.ok {L:List Fct}(h32:Mk L){s c:Int}{ds:List Az}(h:Oo L s c ds){x:Az}(hx:x∈ds):Foa L s c x:=Ra h32 ((h.2 x).1 hx)
theorem LtS.tri {L:List Fct}{s c:Int}{x y:Az}(hx:Foa L s c x)(hy:Foa L s c y):LtS x y∨x=y∨LtS y x:=by
 by_cases h1:LtS x y
 · exact .inl h1
 by_cases h2:LtS y x
 · exact .inr (.inr h2)
 refine .inr (.inl ?_)
 have e:x.sh.g=y.sh.g:=by
  unfold LtS at h1 h2
  exact Ak.ext4 (by rw [hx.s,hy.s]) (by rw [hx.c,hy.c]) QAd QAd
 rw [← hx.score,← hy.score,e]
theorem Kpa {L:List Fct}(h32:Mk L){s c:Int}{xs ys:List Az}(hx:∀ x,x∈xs↔∃ g:Ak,g.s=s∧g.c=c∧Bj L g=x∧x.kind=2)(hn:xs.Nodup)(hp:ys.Perm xs)(hs:ys.Pairwise fun x y=>¬ LtS y x):Oo L s c ys:=by
 have hm:∀ x,x∈ys↔∃ g:Ak,g.s=s∧g.c=c∧Bj L g=x∧x.kind=2:=fun x=>hp.mem_iff.trans (hx x)
 refine ⟨?_,hm⟩
 have h2:ys.Nodup:=hp.nodup_iff.2 hn
 refine (List.pairwise_and_iff.2 ⟨hs,h2⟩).imp_of_mem fun {a b} ha hb ⟨q1,q2⟩ => ?_
 rcases LtS.tri (Ra h32 ((hm a).1 ha)) (Ra h32 ((hm b).1 hb)) with h|h|h
 · exact h
 · exact absurd h q2
 · exact absurd h q1
theorem Oo.len {L:List Fct}(h32:Mk L){s c:Int}{ds:List Az}(h:Oo L s c ds):ds.length≤L.length:=by
 have hn:(ds.map fun x=>x.sh.g).Nodup:=by
  refine List.pairwise_map.2 (h.1.imp_of_mem fun {a b} ha hb hab e => ?_)
  have oa:=h.ok h32 ha
  have ob:=h.ok h32 hb
  have:a=b:=by rw [← oa.score,← ob.score,e]
  subst this
  exact LtS.irrefl _ hab
 have:=Qo (b:=L.map fun f=>f.sh.g) hn fun g hg=>by
  obtain ⟨x,hx,rfl⟩:=List.mem_map.1 hg
  have o:=h.ok h32 hx
  obtain ⟨f,m,_,_,_,eg,_⟩:=Cl h32 (g:=x.sh.g) (by rw [o.score];exact o.kind)
  exact List.mem_map.2 ⟨f,m,eg⟩
 simpa using this
def Js (p:Int) (z:Int×Bool) (c:Dx):Int×Bool:=if c.p=p then (if c.red then (z.1,true) else (min 2 (z.1+1),z.2)) else z
def Ff (x:Ce) (p:Int):Int×Bool:=(x.hc++x.ac).foldl (Js p) (0,false)
theorem Uu (p:Int)(cs:List Dx):∀ z:Int×Bool,0≤z.1∧z.1≤2→0≤(cs.foldl (Js p) z).1∧(cs.foldl (Js p) z).1≤2:=by
 induction cs with
 | nil=>intro z h;exact h
 | cons c r ih =>
   intro z h
   rw [List.foldl_cons]
   refine ih _ ?_
   unfold Js
   split
   · split
     · exact h
     · dsimp only;omega
   · exact h
theorem Rf (x:Ce)(p:Int):0≤(Ff x p).1∧(Ff x p).1≤2:=Uu p _ (0,false) ⟨by decide,by decide⟩
theorem Zz {p:Int}:∀ {cs:List Dx} {z:Int×Bool},(∀ c∈cs,c.p≠p)→cs.foldl (Js p) z=z
 | [],_,_=>rfl
 | c::r,z,h=>by
   rw [List.foldl_cons,Zz fun d hd=>h d (List.mem_cons_of_mem _ hd)]
   unfold Js
   rw [if_neg (h c List.mem_cons_self)]
theorem Haa {x:Ce}(hx:Dv x){p:Int}(h1:p ∉ x.hs)(h2:p ∉ x.as):Ff x p=(0,false):=by
 obtain ⟨_,_,_,_,_,_,_,hc,ac,_⟩:=hx
 refine Zz fun c hc' => ?_
 rcases List.mem_append.1 hc' with q|q
 · intro e;exact h1 (e ▸ hc.2 c q)
 · intro e;exact h2 (e ▸ ac.2 c q)
def Mi (x:Ce) (ms:List (Int×Int)):Prop:=(ms.Pairwise fun a b=>a.1<b.1)∧∀ m:Int×Int,m∈ms↔(m.1∈x.hs∧m.2=x.g.h)∨(m.1∈x.as∧m.2=x.g.a)
theorem Mi.uniq {x:Ce}{a b:List (Int×Int)}(h:Mi x a)(k:Mi x b):a=b :=
 pw_ext (lt:=fun a b:Int×Int=>a.1<b.1) (fun a=>by omega) (fun a b c h1 h2=>by omega) h.1 k.1 fun m=>(h.2 m).trans (k.2 m).symm
noncomputable def Kk (x:Ce):List (Int×Int):=Bwa (Mi x)
theorem Gia {x:Ce}{ms:List (Int×Int)}(h:Mi x ms):ms=Kk x:=by
 exact h.uniq (Tp h)
theorem Mi.here {x:Ce}{ms:List (Int×Int)}(h:Mi x ms):Mi x (Kk x):=Gia h ▸ h
structure Jt where
 p:Int
 club:Int
 g:Ak
deriving DecidableEq,Inhabited
def Oh (ds:List Az) (p:Int):Int:=ds.foldl (fun n x=>n+(Ff x.sh p).1) 0
theorem Pz (ds:List Az)(x:Az)(p:Int):Oh (ds++[x]) p=Oh ds p+(Ff x.sh p).1:=by unfold Oh;rw [List.foldl_append];rfl
theorem Fqa (ds:List Az)(p:Int):0≤Oh ds p∧Oh ds p≤2 * (ds.length:Int):=by
 refine Kqa (P:=fun ds=>0≤Oh ds p∧Oh ds p≤2 * (ds.length:Int)) ⟨by simp [Oh],by simp [Oh]⟩ (fun l x ih => ?_) ds
 have:=Rf x.sh p
 rw [Pz,List.length_append,List.length_singleton]
 omega
def Hv (ds:List Az) (club:Int):Option Az:=ds.find? fun z=>decide (z.sh.g.h=club∨z.sh.g.a=club)
def Earn (n y:Int) (red:Bool):Prop:=red=true∨(n+y) / 5≠n / 5
instance (n y:Int) (red:Bool):Decidable (Earn n y red):=by unfold Earn;infer_instance
def Cn (pre post:List Az) (x:Az) (m:Int×Int):List Jt :=
 if Earn (Oh pre m.1) (Ff x.sh m.1).1 (Ff x.sh m.1).2 then (match Hv post m.2 with|none=>[]|some z=>[⟨m.1,m.2,z.sh.g⟩]) else []
noncomputable def Yk (ds:List Az) (i:Nat):List Jt:=(Kk (ds.getD i Ee).sh).flatMap (Cn (ds.take i) (ds.drop (i+1)) (ds.getD i Ee))
noncomputable def Hj (ds:List Az) (k:Nat):List Jt:=(List.range k).flatMap (Yk ds)
noncomputable def Ew (ds:List Az):List Jt:=Hj ds ds.length
theorem Nm (ds:List Az)(k:Nat):Hj ds (k+1)=Hj ds k++Yk ds k:=by unfold Hj;rw [List.range_succ,List.flatMap_append];simp
theorem Fza (pre post:List Az)(x:Az)(m:Int×Int):(Cn pre post x m).length≤1:=by
 unfold Cn
 split
 · split <;> simp
 · simp
theorem My {α β:Type}(f:α→List β)(h:∀ a,(f a).length≤1):∀ l:List α,(l.flatMap f).length≤l.length
 | []=>by simp
 | a::r=>by
   have:=My f h r
   have:=h a
   rw [List.flatMap_cons,List.length_append,List.length_cons];omega
theorem A7a {x:Ce}(hx:Dv x){ms:List (Int×Int)}(h:Mi x ms):ms.length≤80:=by
 obtain ⟨_,_,_,_,_,h1,h2,_,_,_⟩:=hx
 have hn:ms.Nodup:=h.1.imp fun {a b} hab e=>by subst e;omega
 have:=Qo (b:=x.hs.map (fun p=>(p,x.g.h))++x.as.map fun p=>(p,x.g.a)) hn (fun m hm=>by
  rw [List.mem_append,List.mem_map,List.mem_map]
  rcases (h.2 m).1 hm with ⟨q,e⟩|⟨q,e⟩
  · exact .inl ⟨m.1,q,by rw [← e]⟩
  · exact .inr ⟨m.1,q,by rw [← e]⟩)
 rw [List.length_append,List.length_map,List.length_map] at this
 have:=h1.1
 have:=h2.1
 omega
end Go.Hw
namespace Go.Hw
open Go Go.Lib
def unfB (pl day:Int) (r:Fk):Bool:=decide (r.kind=6∧r.player=pl∧r.lo≤day∧day≤r.hi)
noncomputable def Iq (C:List Fct) (pl day:Int):Bool:=((Bn C).map (·.ru)).any (unfB pl day)
def Fia (L:List Fct) (S:List Jt) (g:Ak) (day club p:Int):Prop :=
 ((∃ x∈L,Fja p x)∧¬ (0≤(Ue L p day).mTo∧(Ue L p day).mTo=club))∨Iq (Ba L) p day=true∨∃ s∈S,s.p=p∧s.g=g
open Classical in
noncomputable def Md (L:List Fct) (S:List Jt) (g:Ak) (day club:Int) (sq:List Int):List Int:=sq.filter fun p=>decide (Fia L S g day club p)
noncomputable def Up (L:List Fct) (g:Ak):List Int×List Int :=
 if (Bj L g).kind=2 then (Md L (Ew (Lt L g.s g.c)) g (Bj L g).day g.h (Bj L g).sh.hs,Md L (Ew (Lt L g.s g.c)) g (Bj L g).day g.a (Bj L g).sh.as) else ([],[])
open Classical in
theorem Vx (L:List Fct)(S:List Jt)(g:Ak)(day club:Int)(sq:List Int)(p:Int):Md L S g day club (sq++[p])=if Fia L S g day club p then Md L S g day club sq++[p] else Md L S g day club sq:=by
 unfold Md
 rw [List.filter_append]
 by_cases h:Fia L S g day club p <;> simp [h]
theorem Qm (L:List Fct)(S:List Jt)(g:Ak)(day club:Int)(sq:List Int):(Md L S g day club sq).length≤sq.length:=List.length_filter_le _ _
structure SuspWhy (L:List Fct) (se co:Int) (t:Jt):Prop where
 kind:(Bj L t.g).kind=2
 s:t.g.s=se
 c:t.g.c=co
 club:t.club=t.g.h∨t.club=t.g.a
 before:∃ g:Ak,g.s=se∧g.c=co∧(Bj L g).kind=2∧(0<(Ff (Bj L g).sh t.p).1∨(Ff (Bj L g).sh t.p).2=true)∧g≠t.g∧(Bj L g).day≤(Bj L t.g).day
end Go.Hw
namespace Go.Hw
open Go Go.Lib
theorem best_only {L:List Fct}(h32:Mk L){g:Ak}{r:Int}{f:Fct}(hf:f∈L)(ho:OfGR g r f)(h:∀ x∈L,OfGR g r x→x=f):Gr L g r=some f:=by
 cases hb:Gr L g r with
 | none=>exact absurd ho ((Aba h32).1 hb f hf)
 | some m =>
   obtain ⟨h1,h2⟩:=Od h32 hb
   rw [h m h1 h2]
theorem Qx {C:List Fct}(h:∀ f∈C,f.kind≠4):Bn C=[]:=by
 rw [List.eq_nil_iff_forall_not_mem]
 intro f hf
 have:=(Kx C f).1 hf
 exact h f this.1 this.2.1
theorem unfit_no4 {L:List Fct}(h32:Mk L)(h:∀ f∈L,f.kind≠4)(p d:Int):Iq (Ba L) p d=false:=by
 unfold Iq
 rw [Qx fun f hf=>h f (((Bx L h32).2 f).1 hf).1]
 rfl
end Go.Hw

import Derived.Test.YtlnenhhbalpbpabGreatDoorFD
import Derived.Test.YtlnenhhbalpbpabGreatDoorFC
import Derived.Test.YtlnenhhbalpbpabGreatDoorFA
set_option linter.all false
namespace Go.Hw
open Go Go.Lib
theorem Fka {m:Int}(h:0<m):Bel 0 m:=⟨Int.le_refl _,h⟩
structure Dm where
 g:Bl
 hg:Int
 ag:Int
 hp:Int
 ap:Int
 hc:Int
 ac:Int
 day:Int
 forf:Bool
 both:Bool
deriving DecidableEq,Inhabited
def Ep:Dm:=⟨Hja,0,0,0,0,0,0,0,false,false⟩
def Kma (n:Int) (c:Fy):Int:=if c.red then n+3 else n+1
def Kq (l:List Fy):Int:=l.foldl Kma 0
theorem Ava (l:List Fy)(c:Fy):Kq (l++[c])=Kma (Kq l) c:=by unfold Kq;rw [List.foldl_append];rfl
theorem Cfa (l:List Fy):0≤Kq l∧Kq l≤3 * (l.length:Int):=by
 refine Dka (P:=fun l=>0≤Kq l∧Kq l≤3 * (l.length:Int)) ⟨by simp [Kq],by simp [Kq]⟩ (fun l x ih => ?_) l
 rw [Ava,List.length_append,List.length_singleton]
 unfold Kma
 split <;> omega
def Ud (g:Bl) (day:Int) (home away:Bool):Dm :=
 { Ep with g:=g,day:=day,forf:=true,both:=home && away,hg:=if (home && away)=true then 0 else if home=true then 0 else 3,ag:=if (home && away)=true then 0 else if home=true then 3 else 0 }
def Dra (g:Bl) (r:Iz) (day:Int):Option Dm :=
 if r.kind=1 then some (Ud g day (decide (r.club=g.h)) (decide (r.club=g.a)))
 else if r.kind=3 then some { Ep with g:=g,day:=day,hg:=r.hg,ag:=r.ag }
 else none
def ofSheet (g:Bl) (x:Bz):Dm:={ Ep with g:=g,day:=x.day,hg:=x.sh.hg,ag:=x.sh.ag,hp:=x.sh.hp,ap:=x.sh.ap,hc:=Kq x.sh.hc,ac:=Kq x.sh.ac }
def Bka (g:Bl) (x:Bz) (o:List Int×List Int):Dm :=
 if o.1=[]∧o.2=[] then ofSheet g x else Ud g x.day (decide (o.1≠[])) (decide (o.2≠[]))
noncomputable def Jq (L:List Fct) (g:Bl):Option Dm:=if (Cm L g).kind=2 then some (Bka g (Cm L g) (Aaa L g)) else none
noncomputable def ofF (L:List Fct) (g:Bl):Option Dm :=
 if Fd g then (if (Hk (Da L) g).2.2=true then Dra g (Hk (Da L) g).1 (Hk (Da L) g).2.1 else Jq L g) else none
theorem ofF_ext {A B:List Fct}(hA:Kd A)(hB:Kd B)(h:∀ x,Cg x→(x∈A↔x∈B))(g:Bl):ofF A g=ofF B g:=by
 unfold ofF Jq
 rw [Tz hA hB h,Tg hA hB h,offL_ext hA hB h]
def Hc (r:Dm):Prop :=
 Fd r.g∧Bel r.hg 100∧Bel r.ag 100∧Bel r.hp 100∧Bel r.ap 100∧Bel r.hc 121∧Bel r.ac 121∧Bel r.day 1048577 ∧
 (r.g.c<8→r.hp+r.ap=0) ∧
 (if r.forf=true then (if r.both=true then r.hg=0∧r.ag=0 else (r.hg=0∧r.ag=3)∨(r.hg=3∧r.ag=0))∧r.hp+r.ap+r.hc+r.ac=0 else r.both=false)
instance (r:Dm):Decidable (Hc r):=by unfold Hc;infer_instance
theorem Aza {g:Bl}{d:Int}{h a:Bool}(hg:Fd g)(hd:Bel d 1048577)(ho:(h || a)=true):Hc (Ud g d h a):=by
 unfold Hc Ud
 refine ⟨hg,?_,?_,Fka (by decide),Fka (by decide),Fka (by decide),Fka (by decide),hd,fun _=>rfl,?_⟩
 · unfold Bel;cases h <;> cases a <;> simp
 · unfold Bel;cases h <;> cases a <;> simp
 · cases h <;> cases a <;> simp [Ep] at ho ⊢
theorem ruledR_ok {g:Bl}{r:Iz}{d:Int}{x:Dm}(hr:Gk r)(hg:r.g=g)(hd:Bel d 1048577)(h:Dra g r d=some x):Hc x∧x.g=g:=by
 unfold Dra at h
 unfold Gk at hr
 split at h
 · rename_i hk
   rw [if_pos hk,hg] at hr
   cases h
   refine ⟨Aza hr.1 hd ?_,rfl⟩
   rcases hr.2 with e|e
   · simp [e]
   · simp [e]
 · split at h
   · rename_i h1 hk
     rw [if_neg h1,if_neg (by omega),if_pos hk,hg] at hr
     cases h
     exact ⟨⟨hr.1,hr.2.1,hr.2.2,Fka (by decide),Fka (by decide),Fka (by decide),Fka (by decide),hd,fun _=>rfl,rfl⟩,rfl⟩
   · cases h
theorem Jba {L:List Fct}(h32:Kd L){g:Bl}(h:(Cm L g).kind=2):Gw (Cm L g).sh∧(Cm L g).sh.g=g∧Bel (Cm L g).day 1048577:=by
 obtain ⟨f,m,ok,k,e,eg,d⟩:=Fk h32 h
 have hs:Gw (Cm L g).sh:=by
  have:=ok.2.2.1
  unfold Fb at this
  rw [if_neg (by omega),if_neg (by omega),if_pos k,e] at this
  exact this
 refine ⟨hs,by rw [← e];exact eg,d,?_⟩
 unfold Cm at h ⊢
 cases h0:Sp L g 0 with
 | none =>
   rw [h0] at h
   cases h1:Sp L g 1 with
   | none=>rw [h1] at h;exact absurd h (by decide)
   | some b=>rw [h1] at h;exact absurd (show (1:Int)=2 from h) (by decide)
 | some a =>
   rw [h0] at h
   cases h1:Sp L g 1 with
   | none=>rw [h1] at h;exact absurd (show (1:Int)=2 from h) (by decide)
   | some b =>
     rw [h1] at h
     unfold Wp at h ⊢
     have qa:=(Uc h32 h0).2.2.1.1
     have qb:=(Uc h32 h1).2.2.1.1
     unfold Bel at qa qb
     by_cases hs:Mo a.sh b.sh
     · simp only [hs,if_true]
       show max a.day b.day<1048577
       omega
     · simp only [hs,if_false] at h
       exact absurd h (by decide)
theorem played_ok {L:List Fct}(h32:Kd L){g:Bl}{x:Dm}(h:Jq L g=some x):Hc x∧x.g=g:=by
 unfold Jq at h
 split at h
 · rename_i hk
   cases h
   obtain ⟨ok,eg,hd⟩:=Jba h32 hk
   generalize Cm L g=s at *
   generalize Aaa L g=o at *
   have hg:Fd g:=eg ▸ ok.1
   unfold Bka
   split
   · have b1:=Cfa s.sh.hc
     have b2:=Cfa s.sh.ac
     obtain ⟨o1,_,o2,o3,o4,_,_,o5,o6,_⟩:=ok
     have l1:=o5.1
     have l2:=o6.1
     have hp:Bel s.sh.hp 100∧Bel s.sh.ap 100∧(g.c<8→s.sh.hp+s.sh.ap=0):=by
      rw [eg] at o4
      unfold Bel at o4 ⊢
      rcases o4 with w|w <;> refine ⟨by omega,by omega,fun _=>by omega⟩
     unfold Bel at *
     exact ⟨⟨hg,o2,o3,hp.1,hp.2.1,⟨b1.1,by show Kq s.sh.hc<121;omega⟩,⟨b2.1,by show Kq s.sh.ac<121;omega⟩,hd,hp.2.2,rfl⟩,rfl⟩
   · rename_i hne
     refine ⟨Aza hg hd ?_,rfl⟩
     by_cases h1:o.1=[]
     · have h2:o.2≠[]:=fun e=>hne ⟨h1,e⟩
       simp [h2]
     · simp [h1]
 · cases h
theorem M7a {C:List Fct}{g:Bl}{f:Fct}:f∈Sq C g↔f∈Ew C∧Lj g f.ru:=by
 unfold Sq;rw [List.mem_filter,decide_eq_true_eq]
theorem Qr {C:List Fct}(hok:∀ f∈C,Cg f){g:Bl}(h:(Hk C g).2.2=true):∃ f∈C,Cg f∧f.kind=4∧Fsa f.ru∧Lj g f.ru∧Eja (Sq C g)=some f∧Hk C g=(f.ru,f.day,true):=by
 unfold Hk at h ⊢
 cases hm:Eja (Sq C g) with
 | none=>rw [hm] at h;cases h
 | some f =>
   obtain ⟨h1,h2⟩:=M7a.1 (maxF_mem hm)
   obtain ⟨q1,q2,q3,q4⟩:=force_ok hok h1
   exact ⟨f,q1,q2,q3,q4,h2,rfl,rfl⟩
theorem Tx {L:List Fct}(h32:Kd L):∀ f∈Da L,Cg f:=fun f hf=>(canonL_in h32 f hf).1
theorem ofF_ok {L:List Fct}(h32:Kd L){g:Bl}{x:Dm}(h:ofF L g=some x):Hc x∧x.g=g:=by
 unfold ofF at h
 split at h
 · split at h
   · rename_i hr
     obtain ⟨f,_,q2,q3,q4,q5,_,e⟩:=Qr (Tx h32) hr
     rw [e] at h
     exact ruledR_ok q4.2.2.2.2.1 q5.1 q2.1 h
   · exact played_ok h32 h
 · cases h
def Kc (f:Fct):Bl:=if f.kind=4 then f.ru.g else f.sh.g
theorem ofF_ment {L:List Fct}(h32:Kd L){g:Bl}{x:Dm}(h:ofF L g=some x):Fd g∧∃ f∈L,Cg f∧Kc f=g:=by
 unfold ofF at h
 split at h
 · rename_i hg
   refine ⟨hg,?_⟩
   split at h
   · rename_i hr
     obtain ⟨f,q1,q2,q3,q4,q5,_,e⟩:=Qr (Tx h32) hr
     refine ⟨f,(((Gr L h32).2 f).1 q1).1,q2,?_⟩
     unfold Kc
     rw [if_pos q3,q5.1]
   · unfold Jq at h
     split at h
     · rename_i hk
       obtain ⟨f,m,ok,k,e,eg,d⟩:=Fk h32 hk
       refine ⟨f,m,ok,?_⟩
       unfold Kc
       rw [if_neg (by omega),eg]
     · cases h
 · cases h
def LtR (a b:Dm):Prop:=a.day<b.day∨(a.day=b.day∧(a.g.h<b.g.h∨(a.g.h=b.g.h∧a.g.a<b.g.a)))
instance (a b:Dm):Decidable (LtR a b):=by unfold LtR;infer_instance
theorem LtR.irrefl (a:Dm):¬ LtR a a:=by unfold LtR;omega
theorem LtR.trans (a b c:Dm)(h:LtR a b)(k:LtR b c):LtR a c:=by unfold LtR at *;omega
def Isa (L:List Fct) (s c:Int) (r:Dm):Prop:=r.g.s=s∧r.g.c=c∧ofF L r.g=some r
def Ui (L:List Fct) (s c:Int) (rs:List Dm):Prop:=rs.Pairwise LtR∧∀ r,r∈rs↔Isa L s c r
theorem Ui.uniq {L:List Fct}{s c:Int}{a b:List Dm}(h:Ui L s c a)(k:Ui L s c b):a=b :=
 Jga LtR.irrefl LtR.trans h.1 k.1 fun x=>(h.2 x).trans (k.2 x).symm
noncomputable def C4a (L:List Fct) (s c:Int):List Dm:=Yh (Ui L s c)
theorem allC_of {L:List Fct}{s c:Int}{rs:List Dm}(h:Ui L s c rs):rs=C4a L s c:=h.uniq (On h)
theorem Ui.here {L:List Fct}{s c:Int}{rs:List Dm}(h:Ui L s c rs):Ui L s c (C4a L s c):=allC_of h ▸ h
theorem allC_ext {A B:List Fct}(hA:Kd A)(hB:Kd B)(h:∀ x,Cg x→(x∈A↔x∈B))(s c:Int):C4a A s c=C4a B s c:=by
 have e:Ui A s c=Ui B s c:=by
  unfold Ui Isa
  simp only [ofF_ext hA hB h]
 unfold C4a
 rw [e]
theorem LtR.tri {L:List Fct}{s c:Int}{x y:Dm}(hx:Isa L s c x)(hy:Isa L s c y):LtR x y∨x=y∨LtR y x:=by
 by_cases h1:LtR x y
 · exact .inl h1
 by_cases h2:LtR y x
 · exact .inr (.inr h2)
 refine .inr (.inl ?_)
 have e:x.g=y.g:=by
  unfold LtR at h1 h2
  exact Bl.ext4 (by rw [hx.1,hy.1]) (by rw [hx.2.1,hy.2.1]) (by omega) (by omega)
 have:=hx.2.2.symm.trans ((congrArg (ofF L) e).trans hy.2.2)
 exact Option.some.inj this
def Bpa (s c:Int) (o:List Bl) (f:Fct):List Bl:=if (Kc f).s=s∧(Kc f).c=c∧Kc f ∉ o then o++[Kc f] else o
def He (L:List Fct) (s c:Int):List Bl:=L.foldl (Bpa s c) []
theorem Pe (L:List Fct)(f:Fct)(s c:Int):He (L++[f]) s c=Bpa s c (He L s c) f:=by unfold He;rw [List.foldl_append];rfl
theorem Tn (L:List Fct)(s c:Int):(He L s c).Nodup∧∀ g,g∈He L s c↔g.s=s∧g.c=c∧∃ f∈L,Kc f=g:=by
 refine Dka (P:=fun L=>(He L s c).Nodup∧∀ g,g∈He L s c↔g.s=s∧g.c=c∧∃ f∈L,Kc f=g) ⟨by simp [He],by simp [He]⟩ (fun L f ih => ?_) L
 obtain ⟨h1,h2⟩:=ih
 rw [Pe]
 generalize He L s c=o at *
 unfold Bpa
 split
 · rename_i hc
   refine ⟨List.nodup_append.2 ⟨h1,by simp,fun a ha b hb e => ?_⟩,fun g => ?_⟩
   · rw [List.mem_singleton] at hb;subst hb;subst e;exact hc.2.2 ha
   · rw [List.mem_append,List.mem_singleton,h2]
     constructor
     · rintro (⟨a,b,f',hf,e⟩|rfl)
       · exact ⟨a,b,f',by simp [hf],e⟩
       · exact ⟨hc.1,hc.2.1,f,by simp,rfl⟩
     · rintro ⟨a,b,f',hf,e⟩
       rw [List.mem_append,List.mem_singleton] at hf
       rcases hf with hf|rfl
       · exact .inl ⟨a,b,f',hf,e⟩
       · exact .inr e.symm
 · rename_i hc
   refine ⟨h1,fun g => ?_⟩
   rw [h2]
   constructor
   · rintro ⟨a,b,f',hf,e⟩;exact ⟨a,b,f',by simp [hf],e⟩
   · rintro ⟨a,b,f',hf,e⟩
     rw [List.mem_append,List.mem_singleton] at hf
     rcases hf with hf|rfl
     · exact ⟨a,b,f',hf,e⟩
     · have:Kc f'∈o:=Classical.byContradiction fun w=>hc ⟨by rw [e];exact a,by rw [e];exact b,w⟩
       rw [e] at this
       exact (h2 g).1 this
theorem Ega (L:List Fct)(s c:Int):(He L s c).length≤L.length:=by
 refine Dka (P:=fun L=>(He L s c).length≤L.length) (by simp [He]) (fun L f ih => ?_) L
 rw [Pe,List.length_append,List.length_singleton]
 unfold Bpa
 split
 · rw [List.length_append,List.length_singleton];omega
 · omega
noncomputable def Zy (L:List Fct) (gs:List Bl):List Dm:=gs.filterMap (ofF L)
theorem resL_snoc (L:List Fct)(gs:List Bl)(g:Bl):Zy L (gs++[g])=match ofF L g with|none=>Zy L gs|some r=>Zy L gs++[r]:=by
 unfold Zy
 rw [List.filterMap_append]
 cases h:ofF L g with
 | none=>simp [h]
 | some r=>simp [h]
theorem Jfa (L:List Fct)(gs:List Bl):(Zy L gs).length≤gs.length:=List.length_filterMap_le _ _
theorem Bha {L:List Fct}(h32:Kd L){s c:Int}{gs:List Bl}(hs:∀ g∈gs,g.s=s∧g.c=c)(hm:∀ f∈L,Cg f→Fd (Kc f)→(Kc f).s=s→(Kc f).c=c→Kc f∈gs)(r:Dm):r∈Zy L gs↔Isa L s c r:=by
 unfold Zy
 rw [List.mem_filterMap]
 constructor
 · rintro ⟨g,hg,e⟩
   have h1:=(ofF_ok h32 e).2
   have h2:=hs g hg
   subst h1
   exact ⟨h2.1,h2.2,e⟩
 · rintro ⟨h1,h2,e⟩
   obtain ⟨hg,f,hf,ok,ef⟩:=ofF_ment h32 e
   exact ⟨r.g,by rw [← ef];exact hm f hf ok (by rw [ef];exact hg) (by rw [ef];exact h1) (by rw [ef];exact h2),e⟩
theorem Zx {L:List Fct}(h32:Kd L){gs:List Bl}(hn:gs.Nodup):(Zy L gs).Nodup:=by
 unfold Zy
 refine List.pairwise_filterMap.2 (hn.imp fun {a b} hab x hx y hy e=>hab ?_)
 subst e
 rw [← (ofF_ok h32 hx).2,← (ofF_ok h32 hy).2]
theorem Zs {L:List Fct}{s c:Int}{xs ys:List Dm}(hx:∀ x,x∈xs↔Isa L s c x)(hn:xs.Nodup)(hp:ys.Perm xs)(hs:ys.Pairwise fun x y=>¬ LtR y x):Ui L s c ys:=by
 have hm:∀ x,x∈ys↔Isa L s c x:=fun x=>hp.mem_iff.trans (hx x)
 refine ⟨?_,hm⟩
 have h2:ys.Nodup:=hp.nodup_iff.2 hn
 refine (List.pairwise_and_iff.2 ⟨hs,h2⟩).imp_of_mem fun {a b} ha hb ⟨q1,q2⟩ => ?_
 rcases LtR.tri ((hm a).1 ha) ((hm b).1 hb) with h|h|h
 · exact h
 · exact absurd h q2
 · exact absurd h q1
theorem allC_is {L:List Fct}(h32:Kd L)(s c:Int):Ui L s c (C4a L s c):=by
 have hm:=Tn L s c
 have h1:=Bha h32 (s:=s) (c:=c) (gs:=He L s c) (fun g hg=>⟨((hm.2 g).1 hg).1,((hm.2 g).1 hg).2.1⟩) (fun f hf _ _ a b=>(hm.2 _).2 ⟨a,b,f,hf,rfl⟩)
 have hn:=Zx h32 hm.1
 refine (Zs h1 hn (List.mergeSort_perm _ (fun a b=>decide (¬ LtR b a))) ?_).here
 refine (List.pairwise_mergeSort (le:=fun a b=>decide (¬ LtR b a)) (fun a b c h1 h2 => ?_) (fun a b => ?_) _).imp fun {a b} q=>by simpa using q
 · simp only [decide_eq_true_eq] at *
   unfold LtR at *;omega
 · simp only [Bool.or_eq_true,decide_eq_true_eq]
   unfold LtR;omega
theorem Kta {L:List Fct}(h32:Kd L)(s c:Int):(C4a L s c).length≤L.length:=by
 have hm:=Tn L s c
 have h1:=Bha h32 (s:=s) (c:=c) (gs:=He L s c) (fun g hg=>⟨((hm.2 g).1 hg).1,((hm.2 g).1 hg).2.1⟩) (fun f hf _ _ a b=>(hm.2 _).2 ⟨a,b,f,hf,rfl⟩)
 have ha:=allC_is h32 s c
 have:=Rz (a:=C4a L s c) (b:=Zy L (He L s c)) (ha.1.imp fun {a b} hab e=>by subst e;exact LtR.irrefl _ hab) fun x hx=>(h1 x).2 ((ha.2 x).1 hx)
 have:=Jfa L (He L s c)
 have:=Ega L s c
 omega
def Iwa (s c:Int) (f:Fct):Prop:=f.kind=1∧f.eS=s∧f.eC=c∧Cg f
open Classical in
noncomputable def entL (L:List Fct) (s c:Int):List Fct:=L.filter fun f=>decide (Iwa s c f)
noncomputable def J6a (L:List Fct) (s c:Int):Option Fct:=(entL L s c).foldl Qn none
open Classical in
theorem Sh {L:List Fct}{s c:Int}{f:Fct}:f∈entL L s c↔f∈L∧Iwa s c f:=by
 unfold entL;rw [List.mem_filter,decide_eq_true_eq]
theorem Tt {L:List Fct}(h32:Kd L)(s c:Int):Qi (entL L s c) (J6a L s c) :=
 Jd (entL L s c) [] none (fun f hf=>absurd hf (by simp)) (fun f hf=>⟨(Sh.1 hf).2.2.2.2,h32 f (Sh.1 hf).1⟩) (.inl ⟨rfl,rfl⟩)
theorem entF_ext {A B:List Fct}(hA:Kd A)(hB:Kd B)(h:∀ x,Cg x→(x∈A↔x∈B))(s c:Int):J6a A s c=J6a B s c :=
 (Tt hA s c).uniq (Tt hB s c) fun x=>by
   rw [Sh,Sh]
   exact ⟨fun q=>⟨(h x q.2.2.2.2).1 q.1,q.2⟩,fun q=>⟨(h x q.2.2.2.2).2 q.1,q.2⟩⟩
theorem entF_some {L:List Fct}(h32:Kd L){s c:Int}{f:Fct}(h:J6a L s c=some f):f∈L∧Iwa s c f:=by
 rcases Tt h32 s c with ⟨h1,_⟩|⟨m,h1,h2,_⟩
 · rw [h1] at h;cases h
 · rw [h1] at h;cases h;exact Sh.1 h2
def isOpen (L:List Fct) (s c h a:Int):Prop:=h≠a∧ofF L ⟨s,c,h,a⟩=none
open Classical in
noncomputable def D9a (L:List Fct) (s c h:Int) (aa:List Int):List Bl:=aa.flatMap fun a=>if isOpen L s c h a then [⟨s,c,h,a⟩] else []
noncomputable def G0a (L:List Fct) (s c:Int) (hs aa:List Int):List Bl:=hs.flatMap fun h=>D9a L s c h aa
end Go.Hw
namespace Go.Hw
open Go Go.Lib
structure Dh where
 legs:Int
 away:Bool
deriving DecidableEq,Inhabited
structure Bp where
 a:Int
 b:Int
 ls:List Dm
deriving DecidableEq,Inhabited
structure FBr where
 t:Dh
 rs:List (List Bp)
deriving DecidableEq,Inhabited
def tie0:Dh:=⟨0,false⟩
def br0:FBr:=⟨tie0,[]⟩
def Ik (t:Dh):Prop:=t.legs=1∨t.legs=2
instance (t:Dh):Decidable (Ik t):=by unfold Ik;infer_instance
def legA (d:Bp) (i:Nat):Int:=if i=0 then d.a else d.b
def legB (d:Bp) (i:Nat):Int:=if i=0 then d.b else d.a
def Cx (x y:Dm):Prop:=x.g.s=y.g.s∧x.g.c=y.g.c
instance (x y:Dm):Decidable (Cx x y):=by unfold Cx;infer_instance
def Hr (d:Bp) (t:Dh):Prop:=t.legs≤d.ls.length
instance (d:Bp) (t:Dh):Decidable (Hr d t):=by unfold Hr;infer_instance
structure C1a where
 goals:Int
 away:Int
 pens:Int
deriving DecidableEq
def Ve (l:C1a) (i:Nat) (x:Dm):C1a:=if i=0 then ⟨l.goals+(x.hg-x.ag),l.away-x.ag,x.hp-x.ap⟩ else ⟨l.goals+(x.ag-x.hg),l.away+x.ag,x.ap-x.hp⟩
def Sd:Nat→C1a→List Dm→C1a
 | _,l,[]=>l
 | i,l,x::r=>Sd (i+1) (Ve l i x) r
def Oe (d:Bp):C1a:=Sd 0 ⟨0,0,0⟩ d.ls
def Sc (d:Bp) (t:Dh):Int :=
 if (Oe d).goals≠0 then (Oe d).goals
 else if t.legs=2∧t.away=true∧(Oe d).away≠0 then (Oe d).away
 else (Oe d).pens
def Ke (d:Bp) (t:Dh):Option Int:=if Hr d t then (if 0<Sc d t then some d.a else if Sc d t<0 then some d.b else none) else none
def Nk (d:Bp) (t:Dh):Prop:=Ik t∧Bel d.a 192∧Bel d.b 192∧d.a≠d.b∧(d.ls.length:Int)≤t.legs
instance (d:Bp) (t:Dh):Decidable (Nk d t):=by unfold Nk;infer_instance
def Cua (d:Bp) (i:Nat) (x:Dm):Prop:=x.g.h=legA d i∧x.g.a=legB d i∧8≤x.g.c∧Cx x (d.ls.headD Ep)
instance (d:Bp) (i:Nat) (x:Dm):Decidable (Cua d i x):=by unfold Cua;infer_instance
def LegsOk (d:Bp):Prop:=∀ i,i<d.ls.length→Cua d i (d.ls.getD i Ep)
noncomputable def Jw (d:Bp) (t:Dh):Int:=open Classical in
 if Nk d t then (if ∀ x∈d.ls,Hc x then (if LegsOk d then 0 else 210) else 1) else 210
structure Nq (d:Bp) (t:Dh):Prop where
 ok0:Nk d t
 res:∀ x∈d.ls,Hc x
 legs:LegsOk d
theorem checkD_zero {d:Bp}{t:Dh}:Jw d t=0↔Nq d t:=by
 unfold Jw
 by_cases h1:Nk d t
 · by_cases h2:∀ x∈d.ls,Hc x
   · by_cases h3:LegsOk d
     · rw [if_pos h1,if_pos h2,if_pos h3];exact ⟨fun _=>⟨h1,h2,h3⟩,fun _=>rfl⟩
     · rw [if_pos h1,if_pos h2,if_neg h3];exact ⟨fun h=>absurd h (by decide),fun h=>absurd h.legs h3⟩
   · rw [if_pos h1,if_neg h2];exact ⟨fun h=>absurd h (by decide),fun h=>absurd h.res h2⟩
 · rw [if_neg h1];exact ⟨fun h=>absurd h (by decide),fun h=>absurd h.ok0 h1⟩
noncomputable def Kh (d:Bp) (t:Dh):Int×Int:=if Jw d t≠0 then (0,Jw d t) else match Ke d t with
 | none=>(0,210)
 | some c=>(c,0)
def Hj:List Int→List Bp
 | a::b::r=>⟨a,b,[]⟩::Hj r
 | _=>[]
def Ls (n:Nat):Prop:=n=2∨n=4∨n=8∨n=16∨n=32∨n=64∨n=128
instance (n:Nat):Decidable (Ls n):=by unfold Ls;infer_instance
def Fw (cs:List Int):Prop:=(∀ c∈cs,Bel c 192)∧cs.Nodup
instance (cs:List Int):Decidable (Fw cs):=by unfold Fw;infer_instance
def Ob (cs:List Int) (t:Dh):FBr×Int:=if Ik t then (if Ls cs.length∧Fw cs then (⟨t,[Hj cs]⟩,0) else (br0,190)) else (br0,210)
def Im (l:List Bp) (t:Dh):Option (List Int):=match l with
 | []=>some []
 | d::r=>match Ke d t,Im r t with
   | some c,some cs=>some (c::cs)
   | _,_=>none
def Gb (l:List Bp) (t:Dh):Option (List Bp):=match Im l t with
 | some cs=>if 2≤cs.length then some (Hj cs) else none
 | none=>none
def Lk (x y:List Bp):Prop:=x.map (fun d=>(d.a,d.b))=y.map fun d=>(d.a,d.b)
instance (x y:List Bp):Decidable (Lk x y):=by unfold Lk;infer_instance
def Lr (l:List Bp) (t:Dh):Prop:=∀ d∈l,Nq d t∧(Hr d t→(d.ls.length:Int)=t.legs→Ke d t≠none)
def Gz (t:Dh):List (List Bp)→Prop
 | []=>True
 | [l]=>Gb l t=none
 | l::m::r=>(∃ n,Gb l t=some n∧Lk n m)∧Gz t (m::r)
def Cp (b:FBr):List Dm:=b.rs.flatMap fun l=>l.flatMap fun d=>d.ls
structure Ms (b:FBr):Prop where
 tie:Ik b.t
 some:b.rs≠[]
 clubs:∃ l r,b.rs=l::r∧Ls (2 * l.length)∧Fw (l.flatMap fun d=>[d.a,d.b])
 rounds:∀ l∈b.rs,Lr l b.t
 chain:Gz b.t b.rs
 cup:∀ x∈Cp b,∀ y∈Cp b,Cx x y
def Py (d:Bp) (t:Dh) (x:Dm):Prop:=¬ Hr d t∧x.g.h=legA d d.ls.length∧x.g.a=legB d d.ls.length
instance (d:Bp) (t:Dh) (x:Dm):Decidable (Py d t x):=by unfold Py;infer_instance
def Hn (l:List Bp) (t:Dh) (x:Dm):Option (List Bp×Bp):=match l with
 | []=>none
 | d::r=>if Py d t x then some (⟨d.a,d.b,d.ls++[x]⟩::r,⟨d.a,d.b,d.ls++[x]⟩) else match Hn r t x with
   | none=>none
   | some (q,e)=>some (d::q,e)
noncomputable def Cw (b:FBr) (x:Dm):FBr×Int:=open Classical in
 if Ms b then (if Hc x then (match Hn (b.rs.getLastD []) b.t x with
  | none=>(br0,210)
  | some (q,d)=>if 8≤x.g.c∧(∀ y∈Cp b,Cx y x)∧¬ (Hr d b.t∧Ke d b.t=none) then
     (⟨b.t,b.rs.dropLast++(q::(match Gb q b.t with|none=>[]|some n=>[n]))⟩,0) else (br0,210)) else (br0,1)) else (br0,210)
noncomputable def Lb (b:FBr):Int×Bool×Int:=open Classical in
 if Ms b then (match b.rs.getLastD [] with
  | [d]=>(match Ke d b.t with|none=>(0,false,0)|some c=>(c,true,0))
  | _=>(0,false,0)) else (0,false,210)
theorem leadS_bd {l:C1a}{i:Nat}{x:Dm}(hx:Hc x)(n:Int)(hl : -n≤l.goals∧l.goals≤n ∧ -n≤l.away∧l.away≤n ∧ -99≤l.pens∧l.pens≤99) :
  -(n+99)≤(Ve l i x).goals∧(Ve l i x).goals≤n+99 ∧ -(n+99)≤(Ve l i x).away∧(Ve l i x).away≤n+99 ∧ -99≤(Ve l i x).pens∧(Ve l i x).pens≤99:=by
 obtain ⟨_,h1,h2,h3,h4,_⟩:=hx
 unfold Bel at h1 h2 h3 h4
 unfold Ve
 split <;> (dsimp only;omega)
theorem win_club {d:Bp}{t:Dh}{c:Int}(h:Ke d t=some c):c=d.a∨c=d.b:=by
 unfold Ke at h
 split at h
 · split at h
   · cases h;exact .inl rfl
   · split at h
     · cases h;exact .inr rfl
     · cases h
 · cases h
end Go.Hw
namespace Go.Hw
open Go Go.Lib
theorem Aca {α:Type}:∀ {a b:List α},a.Nodup→b.Nodup→(∀ x,x∈a↔x∈b)→a.Perm b
 | [],b,_,_,h=>by
   cases b with
   | nil=>exact .nil
   | cons y r=>exact absurd ((h y).2 List.mem_cons_self) (by simp)
 | x::a,b,ha,hb,h=>by
   obtain ⟨p,q,rfl⟩:=List.append_of_mem ((h x).1 List.mem_cons_self)
   rw [List.nodup_cons] at ha
   have hb2:(x::(p++q)).Nodup:=(List.perm_middle (a:=x) (l₁:=p) (l₂:=q)).nodup_iff.1 hb
   rw [List.nodup_cons] at hb2
   refine (List.Perm.cons x (Aca ha.2 hb2.2 fun y => ?_)).trans List.perm_middle.symm
   have:=h y
   rw [List.mem_cons,List.mem_append,List.mem_cons] at this
   rw [List.mem_append]
   constructor
   · intro hy
     rcases this.1 (.inr hy) with w|w|w
     · exact .inl w
     · subst w;exact absurd hy ha.1
     · exact .inr w
   · intro hy
     have hy2:y∈p∨y=x∨y∈q:=hy.elim .inl fun w=>.inr (.inr w)
     rcases this.2 hy2 with w|w
     · subst w;exact absurd (List.mem_append.2 hy) hb2.1
     · exact w
theorem Ox.perm {L:List Fct}{s c:Int}{ds xs:List Bz}(h:Ox L s c ds)(hn:xs.Nodup)(hx:∀ x,x∈xs↔∃ g:Bl,g.s=s∧g.c=c∧Cm L g=x∧x.kind=2):xs.Perm ds :=
 Aca hn (h.1.imp fun {a b} hab e=>by subst e;exact LtS.irrefl _ hab) fun x=>(hx x).trans (h.2 x).symm
theorem offL_len {L:List Fct}(h32:Kd L)(g:Bl):(Aaa L g).1.length≤40∧(Aaa L g).2.length≤40:=by
 unfold Aaa
 split
 · rename_i hk
   obtain ⟨f,m,ok,k,e,eg,d⟩:=Fk h32 hk
   have:=ok.2.2.1
   unfold Fb at this
   rw [if_neg (by omega),if_neg (by omega),if_pos k,e] at this
   have h1:=this.2.2.2.2.2.1.1
   have h2:=this.2.2.2.2.2.2.1.1
   exact ⟨Nat.le_trans (Bma _ _ _ _ _ _) h1,Nat.le_trans (Bma _ _ _ _ _ _) h2⟩
 · exact ⟨Nat.zero_le _,Nat.zero_le _⟩
end Go.Hw
namespace Go.Hw
open Go Go.Lib
def Eo (l:List Bp):List Int:=l.flatMap fun d=>[d.a,d.b]
theorem Kp (d:Bp)(l:List Bp):Eo (d::l)=d.a::d.b::Eo l:=rfl
theorem Tw (l:List Bp):(Eo l).length=2 * l.length:=by
 induction l with
 | nil=>rfl
 | cons d r ih=>rw [Kp,List.length_cons,List.length_cons,ih,List.length_cons];omega
theorem Qx {x y:List Bp}(h:Lk x y):Eo x=Eo y:=by
 unfold Lk at h
 induction x generalizing y with
 | nil=>cases y with
   | nil=>rfl
   | cons d r=>cases h
 | cons e q ih=>cases y with
   | nil=>cases h
   | cons d r =>
     rw [List.map_cons,List.map_cons,List.cons.injEq,Prod.mk.injEq] at h
     rw [Kp,Kp,h.1.1,h.1.2,ih h.2]
theorem Wq {x y:List Bp}(h:Lk x y):x.length=y.length:=by
 have:=congrArg List.length h
 simpa using this
theorem Rv:∀ (cs:List Int),(Hj cs).length=cs.length / 2
 | []=>rfl
 | [_]=>by simp [Hj]
 | a::b::r=>by
   unfold Hj
   rw [List.length_cons,Rv r,List.length_cons,List.length_cons];omega
theorem Qq:∀ (cs:List Int),cs.length % 2=0→Eo (Hj cs)=cs
 | [],_=>rfl
 | [_],h=>absurd h (by simp)
 | a::b::r,h=>by
   unfold Hj
   rw [Kp,Qq r (by simp only [List.length_cons] at h;omega)]
theorem Pc:∀ (cs:List Int),∀ d∈Hj cs,d.ls=[]
 | [],_,h=>by cases h
 | [_],_,h=>by cases h
 | a::b::r,d,h=>by
   unfold Hj at h
   rcases List.mem_cons.1 h with e|e
   · rw [e]
   · exact Pc r d e
theorem Rh {t:Dh}:∀ {l:List Bp} {cs:List Int},Im l t=some cs→cs.length=l.length
 | [],cs,h=>by cases h;rfl
 | d::r,cs,h=>by
   unfold Im at h
   cases hd:Ke d t with
   | none=>rw [hd] at h;cases h
   | some c =>
     cases hr:Im r t with
     | none=>rw [hd,hr] at h;cases h
     | some q =>
       rw [hd,hr] at h
       cases h
       rw [List.length_cons,List.length_cons,Rh hr]
def loseD (d:Bp) (t:Dh):Int:=match Ke d t with|some c=>d.a+d.b-c|none=>0
theorem Td {t:Dh}:∀ {l:List Bp} {cs:List Int},Im l t=some cs→(Eo l).Perm (cs++l.map fun d=>loseD d t)
 | [],cs,h=>by cases h;exact .nil
 | d::r,cs,h=>by
   unfold Im at h
   cases hd:Ke d t with
   | none=>rw [hd] at h;cases h
   | some c =>
     cases hr:Im r t with
     | none=>rw [hd,hr] at h;cases h
     | some q =>
       rw [hd,hr] at h
       cases h
       have ih:=Td hr
       rw [Kp,List.map_cons,List.cons_append]
       have hl:loseD d t=d.a+d.b-c:=by unfold loseD;rw [hd]
       rw [hl]
       have h2:(d.a::d.b::Eo r).Perm (c::(d.a+d.b-c)::Eo r):=by
        rcases win_club hd with e|e
        · rw [e,show d.a+d.b-d.a=d.b by omega]
        · rw [e,show d.a+d.b-d.b=d.a by omega];exact List.Perm.swap _ _ _
       refine h2.trans (List.Perm.cons c ?_)
       exact (List.Perm.cons _ ih).trans List.perm_middle.symm
theorem winsR_mem {t:Dh}{l:List Bp}{cs:List Int}(h:Im l t=some cs):∀ c∈cs,c∈Eo l:=fun c hc=>(Td h).mem_iff.2 (List.mem_append_left _ hc)
theorem Wb {t:Dh}{l:List Bp}{cs:List Int}(h:Im l t=some cs)(hc:Fw (Eo l)):Fw cs:=by
 refine ⟨fun c hm=>hc.1 c (winsR_mem h c hm),?_⟩
 have:=(Td h).nodup_iff.1 hc.2
 rw [List.nodup_append] at this
 exact this.1
theorem Kf {t:Dh}{l n:List Bp}(h:Gb l t=some n):∃ cs,Im l t=some cs∧2≤cs.length∧n=Hj cs:=by
 unfold Gb at h
 cases hw:Im l t with
 | none=>rw [hw] at h;cases h
 | some cs =>
   rw [hw] at h
   dsimp only at h
   split at h
   · cases h;exact ⟨cs,rfl,by assumption,rfl⟩
   · cases h
def Sx (n:Nat):Prop:=n=1∨n=2∨n=4∨n=8∨n=16∨n=32∨n=64
theorem pow_half {n:Nat}(h:Ls (2 * n)):Sx n:=by unfold Ls at h;unfold Sx;omega
structure Ifa (l:List Bp):Prop where
 clubs:Fw (Eo l)
 pow:Sx l.length
theorem Bfa {t:Dh}{l n m:List Bp}(h:Ifa l)(hn:Gb l t=some n)(hs:Lk n m):Ifa m∧2 * m.length=l.length:=by
 obtain ⟨cs,hw,h2,rfl⟩:=Kf hn
 have hl:=Rh hw
 have hp:=h.pow
 have hm:=Wq hs
 rw [Rv] at hm
 unfold Sx at hp
 have he:cs.length % 2=0:=by omega
 have hc:Eo m=cs:=by rw [← Qx hs,Qq cs he]
 refine ⟨⟨by rw [hc];exact Wb hw h.clubs,by unfold Sx;omega⟩,by omega⟩
theorem Fga {t:Dh}:∀ {rs:List (List Bp)},Gz t rs→(∀ l r,rs=l::r→Ifa l)→∀ l∈rs,Ifa l
 | [],_,_,_,hl=>by cases hl
 | [l],_,h0,m,hm=>by rw [List.mem_singleton] at hm;rw [hm];exact h0 l [] rfl
 | l::m::r,hc,h0,x,hx=>by
   unfold Gz at hc
   obtain ⟨⟨n,hn,hs⟩,hc2⟩:=hc
   rcases List.mem_cons.1 hx with e|e
   · rw [e];exact h0 l _ rfl
   · exact Fga hc2 (fun a b e2=>by
      rw [List.cons.injEq] at e2
      rw [← e2.1]
      exact (Bfa (h0 l _ rfl) hn hs).1) x e
theorem Ms.rnd {b:FBr}(h:Ms b):∀ l∈b.rs,Ifa l:=by
 obtain ⟨l,r,e,h1,h2⟩:=h.clubs
 refine Fga h.chain fun l' r' e' => ?_
 rw [e,List.cons.injEq] at e'
 rw [← e'.1]
 exact ⟨h2,pow_half h1⟩
theorem Ffa {t:Dh}:∀ {rs:List (List Bp)},Gz t rs→(∀ l∈rs,Ifa l)→(rs.flatMap id).length+1≤2 * (rs.headD []).length∨rs=[]
 | [],_,_=>.inr rfl
 | [l],_,h=>.inl (by
   have:=(h l (by simp)).pow
   unfold Sx at this
   simp;omega)
 | l::m::r,hc,h=>.inl (by
   unfold Gz at hc
   obtain ⟨⟨n,hn,hs⟩,hc2⟩:=hc
   have ih:=Ffa hc2 fun x hx=>h x (List.mem_cons_of_mem _ hx)
   have h2:=(Bfa (h l (by simp)) hn hs).2
   rcases ih with ih|ih
   · rw [List.flatMap_cons,List.length_append]
     simp only [List.headD_cons,id] at ih ⊢
     omega
   · cases ih)
theorem legs_le (b:FBr)(h:Ms b):((Cp b).length:Int)≤b.t.legs * ((b.rs.flatMap id).length:Int):=by
 have key:∀ ds:List Bp,(∀ d∈ds,(d.ls.length:Int)≤b.t.legs)→((ds.flatMap fun d=>d.ls).length:Int)≤b.t.legs * (ds.length:Int):=by
  intro ds
  induction ds with
  | nil=>intro _;simp
  | cons d r ih =>
    intro hd
    have h1:=hd d (by simp)
    have h2:=ih fun x hx=>hd x (by simp [hx])
    rw [List.flatMap_cons,List.length_append,List.length_cons]
    have:b.t.legs * ((r.length+1:Nat):Int)=b.t.legs * (r.length:Int)+b.t.legs:=by rw [show ((r.length+1:Nat):Int)=(r.length:Int)+1 by omega,Int.mul_add,Int.mul_one]
    omega
 have e:Cp b=(b.rs.flatMap id).flatMap fun d=>d.ls:=by
  unfold Cp
  rw [List.flatMap_assoc];rfl
 rw [e]
 refine key _ fun d hd => ?_
 obtain ⟨l,hl,hd2⟩:=List.mem_flatMap.1 hd
 exact ((h.rounds l hl d hd2).1.ok0).2.2.2.2
theorem legs_lt {b:FBr}(h:Ms b):(Cp b).length+2≤2 * (Eo (b.rs.headD [])).length:=by
 have h1:=legs_le b h
 have h2:=Ffa h.chain h.rnd
 have h3:=h.tie
 rw [Tw]
 rcases h2 with h2|h2
 · rcases h3 with e|e
   · rw [e] at h1;omega
   · rw [e] at h1;omega
 · exact absurd h2 h.some
end Go.Hw
namespace Go.Hw
open Go Go.Lib
theorem Qv {t:Dh}{x:Dm}:∀ {l m:List Bp} {e:Bp},Hn l t x=some (m,e)→∃ p d q,l=p++d::q∧m=p++e::q∧e=⟨d.a,d.b,d.ls++[x]⟩∧Py d t x
 | [],_,_,h=>by unfold Hn at h;cases h
 | d::r,m,e,h=>by
   unfold Hn at h
   split at h
   · rename_i hw
     cases h
     exact ⟨[],d,r,rfl,rfl,rfl,hw⟩
   · cases hr:Hn r t x with
     | none=>rw [hr] at h;cases h
     | some w =>
       obtain ⟨m2,e2⟩:=w
       rw [hr] at h
       cases h
       obtain ⟨p,d2,q,h1,h2,h3,h4⟩:=Qv hr
       exact ⟨d::p,d2,q,by rw [h1];rfl,by rw [h2];rfl,h3,h4⟩
theorem Dna {p q:List Bp}{d:Bp}{x:Dm}:Lk (p++⟨d.a,d.b,d.ls++[x]⟩::q) (p++d::q):=by
 unfold Lk
 rw [List.map_append,List.map_append,List.map_cons,List.map_cons]
theorem duel_upd {d:Bp}{t:Dh}{x:Dm}(h:Nq d t)(hw:Py d t x)(hx:Hc x)(hc:8≤x.g.c)(hcup:∀ y∈d.ls,Cx y x):Nq ⟨d.a,d.b,d.ls++[x]⟩ t:=by
 obtain ⟨⟨o1,o2,o3,o4,o5⟩,h2,h3⟩:=h
 obtain ⟨w1,w2,w3⟩:=hw
 unfold Hr at w1
 refine ⟨⟨o1,o2,o3,o4,by show (((d.ls++[x]).length:Nat):Int)≤t.legs;rw [List.length_append,List.length_singleton];omega⟩,fun y hy => ?_,fun i hi => ?_⟩
 · rcases List.mem_append.1 hy with w|w
   · exact h2 y w
   · rw [List.mem_singleton] at w;rw [w];exact hx
 · show Cua ⟨d.a,d.b,d.ls++[x]⟩ i ((d.ls++[x]).getD i Ep)
   have hi:i<(d.ls++[x]).length:=hi
   rw [List.length_append,List.length_singleton] at hi
   by_cases hl:i<d.ls.length
   · have h4:=h3 i hl
     have e1:(d.ls++[x]).getD i Ep=d.ls.getD i Ep:=by
      rw [List.getD_eq_getElem?_getD,List.getD_eq_getElem?_getD,List.getElem?_append_left hl]
     have e2:(d.ls++[x]).headD Ep=d.ls.headD Ep:=by
      cases hd:d.ls with
      | nil=>rw [hd] at hl;exact absurd hl (by simp)
      | cons a r=>rfl
     rw [e1]
     obtain ⟨q1,q2,q3,q4⟩:=h4
     exact ⟨q1,q2,q3,by rw [show (Bp.mk d.a d.b (d.ls++[x])).ls.headD Ep=d.ls.headD Ep from e2];exact q4⟩
   · have he:i=d.ls.length:=by omega
     subst he
     have e1:(d.ls++[x]).getD d.ls.length Ep=x:=by simp [List.getD]
     rw [e1]
     refine ⟨w2,w3,hc,?_⟩
     show Cx x ((d.ls++[x]).headD Ep)
     cases hd:d.ls with
     | nil=>exact ⟨rfl,rfl⟩
     | cons a r =>
       have:=hcup a (by rw [hd];simp)
       exact ⟨this.1.symm,this.2.symm⟩
theorem D7a:∀ {cs:List Int} {d:Bp},d∈Hj cs→d.a∈cs∧d.b∈cs
 | [],_,h=>by cases h
 | [_],_,h=>by cases h
 | a::b::r,d,h=>by
   unfold Hj at h
   rcases List.mem_cons.1 h with e|e
   · rw [e];exact ⟨by simp,by simp⟩
   · have:=D7a e
     exact ⟨by simp [this.1],by simp [this.2]⟩
theorem Jka:∀ {cs:List Int} {d:Bp},cs.Nodup→d∈Hj cs→d.a≠d.b
 | [],_,_,h=>by cases h
 | [_],_,_,h=>by cases h
 | a::b::r,d,hn,h=>by
   unfold Hj at h
   rw [List.nodup_cons,List.nodup_cons] at hn
   rcases List.mem_cons.1 h with e|e
   · rw [e];exact fun w=>hn.1 (by show a∈b::r;rw [show a=b from w];simp)
   · exact Jka hn.2.2 e
theorem Eda {t:Dh}(ht:Ik t){cs:List Int}(hc:Fw cs):Lr (Hj cs) t:=fun d hd=>by
 have hm:=D7a hd
 have hl:=Pc cs d hd
 have hn:=Jka hc.2 hd
 refine ⟨⟨⟨ht,hc.1 _ hm.1,hc.1 _ hm.2,hn,by rw [hl];rcases ht with e|e <;> (rw [e];decide)⟩,by rw [hl];simp,fun i hi=>absurd hi (by rw [hl];simp)⟩,fun hf _ => ?_⟩
 unfold Hr at hf
 rw [hl] at hf
 rcases ht with e|e
 · rw [e] at hf;exact absurd hf (by decide)
 · rw [e] at hf;exact absurd hf (by decide)
theorem Jna {t:Dh}(ht:Ik t){cs:List Int}(h2:2≤cs.length):Gb (Hj cs) t=none:=by
 match cs,h2 with
 | a::b::r,_ =>
   have hw:Im (Hj (a::b::r)) t=none:=by
    unfold Hj Im
    have:Ke ⟨a,b,[]⟩ t=none:=by
     unfold Ke
     rw [if_neg]
     unfold Hr
     rcases ht with e|e <;> (rw [e];simp)
    rw [this]
   unfold Gb
   rw [hw]
theorem Yi {t:Dh}{q:List Bp}(n:List (List Bp))(hn:(Gb q t=none∧n=[])∨∃ m,Gb q t=some m∧n=[m]∧Gb m t=none):∀ {rs:List (List Bp)} {l:List Bp},Gz t (rs++[l])→Lk q l→Gz t (rs++q::n)
 | [],l,_,hs=>by
   rw [List.nil_append]
   rcases hn with ⟨h1,rfl⟩|⟨m,h1,rfl,h2⟩
   · exact h1
   · exact ⟨⟨m,h1,rfl⟩,h2⟩
 | [a],l,hc,hs=>by
   unfold Gz at hc
   obtain ⟨⟨m,h1,h2⟩,_⟩:=hc
   refine ⟨⟨m,h1,h2.trans hs.symm⟩,?_⟩
   exact Yi n hn (rs:=[]) (l:=l) (by assumption) hs
 | a::b::r,l,hc,hs=>by
   have hc':Gz t (a::b::(r++[l])):=hc
   unfold Gz at hc'
   exact ⟨hc'.1,Yi n hn (rs:=b::r) (l:=l) hc'.2 hs⟩
theorem nextR_new {t:Dh}{q m:List Bp}(ht:Ik t)(h:Gb q t=some m):Gb m t=none:=by
 obtain ⟨cs,_,h2,rfl⟩:=Kf h
 exact Jna ht h2
theorem enter_ok {b:FBr}(hb:Ms b){x:Dm}(hx:Hc x){m:List Bp}{e:Bp}(he:Hn (b.rs.getLastD []) b.t x=some (m,e))(hc:8≤x.g.c)(hcup:∀ y∈Cp b,Cx y x)(hw:¬ (Hr e b.t∧Ke e b.t=none)) :
  Ms ⟨b.t,b.rs.dropLast++(m::(match Gb m b.t with|none=>[]|some n=>[n]))⟩∧(Cp ⟨b.t,b.rs.dropLast++(m::(match Gb m b.t with|none=>[]|some n=>[n]))⟩).length=(Cp b).length+1:=by
 have hne:=hb.some
 obtain ⟨rs,l,hrs⟩:∃ rs l,b.rs=rs++[l]:=⟨b.rs.dropLast,b.rs.getLast hne,(List.dropLast_concat_getLast hne).symm⟩
 obtain ⟨t,brs⟩:=b
 dsimp only at hrs he hw hne ⊢
 subst hrs
 have hld:(rs++[l]).getLastD []=l:=by simp
 have hdl:(rs++[l]).dropLast=rs:=by simp
 rw [hld] at he
 rw [hdl]
 obtain ⟨p,d,q,e1,e2,e3,hwd⟩:=Qv he
 have hsame:Lk m l:=by rw [e1,e2,e3];exact Dna
 have hrl:=hb.rounds l (by simp)
 have hdm:d∈l:=by rw [e1];simp
 have hdl2:∀ y∈d.ls,y∈Cp ⟨t,rs++[l]⟩:=fun y hy=>List.mem_flatMap.2 ⟨l,by simp,List.mem_flatMap.2 ⟨d,hdm,hy⟩⟩
 have hde:Nq e t:=by rw [e3];exact duel_upd (hrl d hdm).1 hwd hx hc fun y hy=>hcup y (hdl2 y hy)
 have hrm:Lr m t:=fun y hy=>by
  rw [e2] at hy
  rcases List.mem_append.1 hy with w|w
  · exact hrl y (by rw [e1];simp [w])
  · rcases List.mem_cons.1 w with w|w
    · rw [w];exact ⟨hde,fun hf _ hn=>hw ⟨hf,hn⟩⟩
    · exact hrl y (by rw [e1];simp [w])
 have hclm:Eo m=Eo l:=Qx hsame
 have hrnd:=hb.rnd l (by simp)
 have hlegs:(m.flatMap fun d=>d.ls).length=(l.flatMap fun d=>d.ls).length+1:=by
  rw [e1,e2,e3,List.flatMap_append,List.flatMap_append,List.flatMap_cons,List.flatMap_cons]
  simp only [List.length_append,List.length_singleton]
  omega
 obtain ⟨n,hn⟩:∃ n,n=(match Gb m t with|none=>[]|some n=>[n]):=⟨_,rfl⟩
 rw [← hn]
 have hn2:(Gb m t=none∧n=[])∨∃ k,Gb m t=some k∧n=[k]∧Gb k t=none:=by
  cases hk:Gb m t with
  | none=>rw [hk] at hn;exact .inl ⟨rfl,hn⟩
  | some k=>rw [hk] at hn;exact .inr ⟨k,rfl,hn,nextR_new hb.tie hk⟩
 have hnr:∀ y∈n,Lr y t:=fun y hy=>by
  rcases hn2 with ⟨_,h1⟩|⟨k,h1,h2,_⟩
  · rw [h1] at hy;cases hy
  · rw [h2,List.mem_singleton] at hy
    obtain ⟨cs,hw2,_,hk⟩:=Kf h1
    rw [hy,hk]
    exact Eda hb.tie (Wb hw2 (by rw [hclm];exact hrnd.clubs))
 have hnl:n.flatMap (fun l=>l.flatMap fun d=>d.ls)=[]:=by
  rcases hn2 with ⟨_,h1⟩|⟨k,h1,h2,_⟩
  · rw [h1];rfl
  · obtain ⟨cs,_,_,hk⟩:=Kf h1
    rw [h2,hk,List.flatMap_cons,List.flatMap_nil,List.append_nil,List.flatMap_eq_nil_iff]
    exact fun d hd=>Pc cs d hd
 refine ⟨⟨hb.tie,by simp,?_,fun y hy => ?_,Yi n hn2 hb.chain hsame,?_⟩,?_⟩
 · obtain ⟨f,r,h1,h2,h3⟩:=hb.clubs
   dsimp only at h1 ⊢
   cases rs with
   | nil =>
     rw [List.nil_append,List.cons.injEq] at h1
     refine ⟨m,n,rfl,by rw [Wq hsame,h1.1];exact h2,?_⟩
     have:=hclm
     unfold Eo at this
     rw [this,h1.1];exact h3
   | cons a r' =>
     rw [List.cons_append,List.cons.injEq] at h1
     refine ⟨a,r'++m::n,rfl,by rw [h1.1];exact h2,by rw [h1.1];exact h3⟩
 · rcases List.mem_append.1 hy with w|w
   · exact hb.rounds y (by simp [w])
   · rcases List.mem_cons.1 w with w|w
     · rw [w];exact hrm
     · exact hnr y w
 · have hall:∀ y∈Cp ⟨t,rs++m::n⟩,Cx y x:=fun y hy=>by
    unfold Cp at hy
    dsimp only at hy
    rw [List.flatMap_append,List.flatMap_cons,hnl,List.append_nil,List.mem_append] at hy
    rcases hy with w|w
    · refine hcup y ?_
      unfold Cp
      dsimp only
      rw [List.flatMap_append,List.mem_append];exact .inl w
    · obtain ⟨d2,hd2,hy2⟩:=List.mem_flatMap.1 w
      rw [e2,List.mem_append,List.mem_cons] at hd2
      rcases hd2 with w2|w2|w2
      · exact hcup y (List.mem_flatMap.2 ⟨l,by simp,List.mem_flatMap.2 ⟨d2,by rw [e1];simp [w2],hy2⟩⟩)
      · rw [w2,e3] at hy2
        rcases List.mem_append.1 hy2 with w3|w3
        · exact hcup y (hdl2 y w3)
        · rw [List.mem_singleton] at w3;rw [w3];exact ⟨rfl,rfl⟩
      · exact hcup y (List.mem_flatMap.2 ⟨l,by simp,List.mem_flatMap.2 ⟨d2,by rw [e1];simp [w2],hy2⟩⟩)
   intro y hy z hz
   have h1:=hall y hy
   have h2:=hall z hz
   exact ⟨h1.1.trans h2.1.symm,h1.2.trans h2.2.symm⟩
 · unfold Cp
   dsimp only
   rw [List.flatMap_append,List.flatMap_append,List.flatMap_cons,List.flatMap_cons,List.flatMap_nil,hnl,List.length_append,List.length_append,List.length_append,List.length_append,hlegs]
   simp;omega
end Go.Hw
namespace Go.Hw
open Go Go.Lib
def Cup8 (b:FBr):Prop:=∀ y∈Cp b,y.g.s=0∧y.g.c=8
theorem Aha:∀ (ls:List Dm) (i:Nat) (l:C1a) (x:Dm),Sd i l (ls++[x])=Ve (Sd i l ls) (i+ls.length) x
 | [],i,l,x=>rfl
 | y::r,i,l,x=>by
   rw [List.cons_append]
   unfold Sd
   rw [Aha r (i+1) (Ve l i y) x,List.length_cons]
   congr 1
   omega
theorem last_in {b:FBr}(hb:Ms b):b.rs.getLastD []∈b.rs:=by
 have hne:=hb.some
 rw [List.getLastD_eq_getLast?,List.getLast?_eq_some_getLast hne,Option.getD_some]
 exact List.getLast_mem hne
structure Played (b y:FBr) (x:Dm):Prop where
 ok:Ms y
 t:y.t=b.t
 legs:(Cp y).length=(Cp b).length+1
 first:Eo (y.rs.headD [])=Eo (b.rs.headD [])
 grow:b.rs.length≤y.rs.length∧y.rs.length≤b.rs.length+1
 same:∀ i,i+1<b.rs.length→y.rs.getD i []=b.rs.getD i []
 mem:∀ z∈Cp y,z=x∨z∈Cp b
theorem La {b:FBr}{x:Dm}(h:(Cw b x).2=0):Ms b∧Played b (Cw b x).1 x:=by
 unfold Cw at h ⊢
 by_cases hb:Ms b
 · rw [if_pos hb] at h ⊢
   by_cases hx:Hc x
   · rw [if_pos hx] at h ⊢
     cases he:Hn (b.rs.getLastD []) b.t x with
     | none=>rw [he] at h;exact absurd (show (210:Int)=0 from h) (by decide)
     | some w =>
       obtain ⟨m,e⟩:=w
       rw [he] at h
       dsimp only at h ⊢
       by_cases hw:8≤x.g.c∧(∀ y∈Cp b,Cx y x)∧¬ (Hr e b.t∧Ke e b.t=none)
       · rw [if_pos hw]
         have k:=enter_ok hb hx he hw.1 hw.2.1 hw.2.2
         obtain ⟨p,d,q,e1,e2,e3,hwd⟩:=Qv he
         have hne:=hb.some
         have key:∀ n:List (List Bp),n.length≤1→n.flatMap (fun l=>l.flatMap fun d=>d.ls)=[]→(Ms ⟨b.t,b.rs.dropLast++(m::n)⟩∧(Cp ⟨b.t,b.rs.dropLast++(m::n)⟩).length=(Cp b).length+1)→Ms b∧Played b ⟨b.t,b.rs.dropLast++(m::n)⟩ x:=by
          intro n hnl hnz k
          obtain ⟨rs,l,hrs⟩:∃ rs l,b.rs=rs++[l]:=⟨b.rs.dropLast,b.rs.getLast hne,(List.dropLast_concat_getLast hne).symm⟩
          have hld:b.rs.getLastD []=l:=by rw [hrs];simp
          have hdl:b.rs.dropLast=rs:=by rw [hrs];simp
          rw [hld] at e1
          rw [hdl] at k ⊢
          have hsame:Lk m l:=by rw [e1,e2,e3];exact Dna
          refine ⟨hb,k.1,rfl,k.2,?_,?_,?_,?_⟩
          · dsimp only
            rw [hrs]
            cases rs with
            | nil=>exact Qx hsame
            | cons a r=>rfl
          · dsimp only
            rw [hrs,List.length_append,List.length_append,List.length_cons,List.length_cons,List.length_nil]
            omega
          · intro i hi
            rw [hrs,List.length_append,List.length_singleton] at hi
            dsimp only
            rw [hrs,List.getD_eq_getElem?_getD,List.getD_eq_getElem?_getD,List.getElem?_append_left (by omega),List.getElem?_append_left (by omega)]
          · intro z hz
            unfold Cp at hz
            dsimp only at hz
            rw [List.flatMap_append,List.flatMap_cons,hnz,List.append_nil,List.mem_append] at hz
            have hin:∀ d2∈l,∀ z∈d2.ls,z∈Cp b:=fun d2 hd2 z hz=>List.mem_flatMap.2 ⟨l,by rw [hrs];simp,List.mem_flatMap.2 ⟨d2,hd2,hz⟩⟩
            rcases hz with w|w
            · refine .inr ?_
              unfold Cp
              rw [hrs,List.flatMap_append,List.mem_append];exact .inl w
            · obtain ⟨d2,hd2,hz2⟩:=List.mem_flatMap.1 w
              rw [e2,List.mem_append,List.mem_cons] at hd2
              rcases hd2 with w2|w2|w2
              · exact .inr (hin d2 (by rw [e1];simp [w2]) z hz2)
              · rw [w2,e3] at hz2
                rcases List.mem_append.1 hz2 with w3|w3
                · exact .inr (hin d (by rw [e1];simp) z w3)
                · rw [List.mem_singleton] at w3;exact .inl w3
              · exact .inr (hin d2 (by rw [e1];simp [w2]) z hz2)
         refine key _ ?_ ?_ k
         · split <;> simp
         · cases hk:Gb m b.t with
           | none=>rfl
           | some r =>
             obtain ⟨cs,_,_,hk2⟩:=Kf hk
             dsimp only
             rw [hk2,List.flatMap_cons,List.flatMap_nil,List.append_nil,List.flatMap_eq_nil_iff]
             exact fun d hd=>Pc cs d hd
       · rw [if_neg hw] at h;exact absurd (show (210:Int)=0 from h) (by decide)
   · rw [if_neg hx] at h;exact absurd (show (1:Int)=0 from h) (by decide)
 · rw [if_neg hb] at h;exact absurd (show (210:Int)=0 from h) (by decide)
end Go.Hw
namespace Go.Hw
theorem Hra {b:FBr}{x:Dm}(h:(Cw b x).2=0):Ms b∧Hc x∧∃ m e,Hn (b.rs.getLastD []) b.t x=some (m,e)∧(Cw b x).1=⟨b.t,b.rs.dropLast++(m::(Gb m b.t).toList)⟩:=by
 unfold Cw at h ⊢
 by_cases hb:Ms b
 · rw [if_pos hb] at h ⊢
   by_cases hx:Hc x
   · rw [if_pos hx] at h ⊢
     cases he:Hn (b.rs.getLastD []) b.t x with
     | none=>rw [he] at h;exact absurd (show (210:Int)=0 from h) (by decide)
     | some w =>
       obtain ⟨m,e⟩:=w
       rw [he] at h
       dsimp only at h ⊢
       by_cases hw:8≤x.g.c∧(∀ y∈Cp b,Cx y x)∧¬ (Hr e b.t∧Ke e b.t=none)
       · rw [if_pos hw]
         refine ⟨hb,hx,m,e,rfl,?_⟩
         cases Gb m b.t <;> rfl
       · rw [if_neg hw] at h;exact absurd (show (210:Int)=0 from h) (by decide)
   · rw [if_neg hx] at h;exact absurd (show (1:Int)=0 from h) (by decide)
 · rw [if_neg hb] at h;exact absurd (show (210:Int)=0 from h) (by decide)
theorem C5a {t:Dh}:∀ {l:List Bp} {cs:List Int},Im l t=some cs→∀ d∈l,Ke d t≠none
 | [],_,_,d,hd=>by cases hd
 | e::r,cs,h,d,hd=>by
   unfold Im at h
   cases he:Ke e t with
   | none=>rw [he] at h;cases h
   | some c =>
     cases hr:Im r t with
     | none=>rw [he,hr] at h;cases h
     | some q =>
       rcases List.mem_cons.1 hd with w|w
       · rw [w,he];simp
       · exact C5a hr d w
end Go.Hw
namespace Go.Hw
theorem F6a {d:Bp}{t:Dh}{w:Int}:Kh d t=(w,0)↔Nq d t∧Ke d t=some w:=by
 unfold Kh
 by_cases h:Jw d t=0
 · rw [if_neg (fun k=>k h),checkD_zero.symm]
   cases hw:Ke d t with
   | none=>exact ⟨fun k=>(by cases k),fun k=>(by cases k.2)⟩
   | some c=>exact ⟨fun k=>(by cases k;exact ⟨h,rfl⟩),fun k=>(by cases k.2;rfl)⟩
 · rw [if_pos h]
   exact ⟨fun k=>absurd (congrArg Prod.snd k) h,fun k=>absurd (checkD_zero.2 k.1) h⟩
end Go.Hw
namespace Go.Hw
structure PlayI (cs:List Int) (t:Dh) (k:Nat) (b:FBr):Prop where
 ok:Ms b
 t:b.t=t
 cup:Cup8 b
 first:Eo (b.rs.headD [])=cs
 legs:(Cp b).length=k
theorem new_err {cs:List Int}{t:Dh}(h:(Ob cs t).2≠0):(Ob cs t).1.rs=[]:=by
 unfold Ob at h ⊢
 by_cases h1:Ik t
 · by_cases h2:Ls cs.length∧Fw cs
   · rw [if_pos h1,if_pos h2] at h;exact absurd rfl h
   · rw [if_pos h1,if_neg h2];rfl
 · rw [if_neg h1];rfl
theorem Eea {cs:List Int}{t:Dh}(h:(Ob cs t).2=0):PlayI cs t 0 (Ob cs t).1:=by
 unfold Ob at h ⊢
 by_cases h1:Ik t
 · by_cases h2:Ls cs.length∧Fw cs
   · rw [if_pos h1,if_pos h2]
     have hp:=h2.1
     unfold Ls at hp
     have hcl:Eo (Hj cs)=cs:=Qq cs (by omega)
     have hal:Cp ⟨t,[Hj cs]⟩=[]:=by
      unfold Cp
      rw [List.flatMap_cons,List.flatMap_nil,List.append_nil,List.flatMap_eq_nil_iff]
      exact fun d hd=>Pc cs d hd
     refine ⟨⟨h1,by simp,⟨Hj cs,[],rfl,?_,?_⟩,?_,?_,?_⟩,rfl,?_,hcl,by rw [hal];rfl⟩
     · rw [Rv];unfold Ls;omega
     · have:(Hj cs).flatMap (fun d=>[d.a,d.b])=cs:=hcl
       rw [this];exact h2.2
     · intro l hl
       rw [List.mem_singleton] at hl
       rw [hl];exact Eda h1 h2.2
     · exact Jna h1 (by omega)
     · intro x hx;rw [hal] at hx;cases hx
     · intro x hx;rw [hal] at hx;cases hx
   · rw [if_pos h1,if_neg h2] at h;exact absurd (show (190:Int)=0 from h) (by decide)
 · rw [if_neg h1] at h;exact absurd (show (210:Int)=0 from h) (by decide)
theorem PlayI.le {cs:List Int}{t:Dh}{k:Nat}{b:FBr}(h:PlayI cs t k b):k+2≤2 * cs.length:=by
 have:=legs_lt h.ok
 rw [h.first,h.legs] at this
 exact this
theorem Fha {t:Dh}:∀ {rs:List (List Bp)},Gz t rs→(∀ l∈rs,Ifa l)→∀ i,i<rs.length→(rs.getD i []).length * 2 ^ i=(rs.headD []).length
 | [],_,_,i,h=>by simp at h
 | [l],_,_,i,h=>by
   have:i=0:=by simpa using h
   rw [this];simp
 | l::m::r,hc,h0,0,_=>by simp
 | l::m::r,hc,h0,i+1,h=>by
   unfold Gz at hc
   obtain ⟨⟨n,hn,hs⟩,hc2⟩:=hc
   have ih:=Fha hc2 (fun x hx=>h0 x (List.mem_cons_of_mem _ hx)) i (by simpa using h)
   have h2:=(Bfa (h0 l (by simp)) hn hs).2
   rw [List.getD_cons_succ,Nat.pow_succ,← Nat.mul_assoc,ih]
   show m.length * 2=l.length
   omega
end Go.Hw
namespace Go.Hw
def Nda (s c:Int) (f:Fct):Prop:=f.kind=7∧f.lS=s∧f.lC=c∧Cg f
open Classical in
noncomputable def lotL (L:List Fct) (s c:Int):List Fct:=L.filter fun f=>decide (Nda s c f)
noncomputable def lotF (L:List Fct) (s c:Int):Option Fct:=(lotL L s c).foldl Qn none
open Classical in
theorem Vv {L:List Fct}{s c:Int}{f:Fct}:f∈lotL L s c↔f∈L∧Nda s c f:=by
 unfold lotL;rw [List.mem_filter,decide_eq_true_eq]
theorem Aga {L:List Fct}(h32:Kd L)(s c:Int):Qi (lotL L s c) (lotF L s c) :=
 Jd (lotL L s c) [] none (fun f hf=>absurd hf (by simp)) (fun f hf=>⟨(Vv.1 hf).2.2.2.2,h32 f (Vv.1 hf).1⟩) (.inl ⟨rfl,rfl⟩)
theorem lotF_ext {A B:List Fct}(hA:Kd A)(hB:Kd B)(h:∀ x,Cg x→(x∈A↔x∈B))(s c:Int):lotF A s c=lotF B s c :=
 (Aga hA s c).uniq (Aga hB s c) fun x=>by
   rw [Vv,Vv]
   exact ⟨fun q=>⟨(h x q.2.2.2.2).1 q.1,q.2⟩,fun q=>⟨(h x q.2.2.2.2).2 q.1,q.2⟩⟩
open Classical in
noncomputable def ordC (o:List Int) (cs:List Int):List Int:=if o.Perm cs then o else cs
noncomputable def Jma (L:List Fct) (s c:Int) (e:Fct):List Int:=ordC (match lotF L s c with|none=>[]|some f=>f.lO) e.eClubs
theorem Gza {o y cs:List Int}(hp:y.Perm o)(hs:y.Pairwise (· ≤ ·))(hc:Cva cs):y=cs↔o.Perm cs:=by
 refine ⟨fun e=>e ▸ hp.symm,fun h => ?_⟩
 have h2:cs.Pairwise (· ≤ ·):=hc.imp fun k=>Int.le_of_lt k
 exact (hp.trans h).eq_of_pairwise (fun a b _ _ h1 h2=>Int.le_antisymm h1 h2) hs h2
noncomputable def Ky (b:FBr):List Dm→Option FBr
 | []=>none
 | x::r=>if (Cw b x).2=0 then some (Cw b x).1 else Ky b r
theorem Mx {b y:FBr}:∀ {l:List Dm},Ky b l=some y→∃ x∈l,(Cw b x).2=0∧y=(Cw b x).1
 | [],h=>by cases h
 | x::r,h=>by
   unfold Ky at h
   split at h
   · rename_i k;cases h;exact ⟨x,by simp,k,rfl⟩
   · obtain ⟨z,h1,h2⟩:=Mx h
     exact ⟨z,List.mem_cons_of_mem _ h1,h2⟩
theorem Qt {b:FBr}:∀ {l:List Dm},Ky b l=none↔∀ x∈l,(Cw b x).2≠0
 | []=>⟨fun _ x hx=>(by cases hx),fun _=>rfl⟩
 | x::r=>by
   unfold Ky
   by_cases k:(Cw b x).2=0
   · rw [if_pos k];exact ⟨fun h=>(by cases h),fun h=>absurd k (h x (by simp))⟩
   · rw [if_neg k,Qt (l:=r)]
     refine ⟨fun h y hy => ?_,fun h y hy=>h y (List.mem_cons_of_mem _ hy)⟩
     rcases List.mem_cons.1 hy with e|e
     · rw [e];exact k
     · exact h y e
theorem E1a {b:FBr}:∀ {l:List Dm} {k:Nat},k<l.length→(∀ i,i<k→(Cw b (l.getD i Ep)).2≠0)→(Cw b (l.getD k Ep)).2=0→Ky b l=some (Cw b (l.getD k Ep)).1
 | [],k,h,_,_=>by simp at h
 | x::r,0,_,_,h=>by
   unfold Ky
   rw [if_pos (show (Cw b x).2=0 from h)];rfl
 | x::r,k+1,h,h1,h2=>by
   unfold Ky
   have h0:(Cw b x).2≠0:=h1 0 (by omega)
   rw [if_neg h0,E1a (l:=r) (k:=k) (by simpa using h) (fun i hi=>h1 (i+1) (by omega)) h2];rfl
noncomputable def Dqa:Nat→FBr→List Dm→FBr
 | 0,b,_=>b
 | n+1,b,l=>match Ky b l with
   | none=>b
   | some y=>Dqa n y l
structure Vk (cs:List Int) (t:Dh) (l:List Dm) (k:Nat) (b:FBr):Prop where
 ok:Ms b
 t:b.t=t
 first:Eo (b.rs.headD [])=cs
 legs:(Cp b).length=k
 mem:∀ y∈Cp b,y∈l
theorem Vk.le {cs:List Int}{t:Dh}{l:List Dm}{k:Nat}{b:FBr}(h:Vk cs t l k b):k+2≤2 * cs.length:=by
 have:=legs_lt h.ok
 rw [h.first,h.legs] at this
 exact this
theorem Vk.next {cs:List Int}{t:Dh}{l:List Dm}{k:Nat}{b:FBr}(h:Vk cs t l k b){x:Dm}(hx:x∈l)(ho:(Cw b x).2=0):Vk cs t l (k+1) (Cw b x).1:=by
 obtain ⟨_,p⟩:=La ho
 refine ⟨p.ok,by rw [p.t,h.t],by rw [p.first,h.first],by rw [p.legs,h.legs],fun y hy => ?_⟩
 rcases p.mem y hy with e|e
 · rw [e];exact hx
 · exact h.mem y e
theorem Eca {cs:List Int}{t:Dh}(l:List Dm)(h:(Ob cs t).2=0):Vk cs t l 0 (Ob cs t).1:=by
 have p:=Eea h
 refine ⟨p.ok,p.t,p.first,p.legs,fun y hy => ?_⟩
 have:=p.legs
 rw [List.length_eq_zero_iff.1 this] at hy;cases hy
theorem runB_none {b:FBr}{l:List Dm}(h:Ky b l=none):∀ n,Dqa n b l=b
 | 0=>rfl
 | n+1=>by unfold Dqa;rw [h]
theorem Dpa {cs:List Int}{t:Dh}{l:List Dm}:∀ (n k:Nat) (b:FBr),Vk cs t l k b→2 * cs.length≤n+k+1→Dqa (n+1) b l=Dqa n b l
 | 0,k,b,h,hn=>by have:=h.le;omega
 | n+1,k,b,h,hn=>by
   rw [Dqa,Dqa]
   cases hf:Ky b l with
   | none=>rfl
   | some y =>
     obtain ⟨x,h1,h2,rfl⟩:=Mx hf
     exact Dpa n (k+1) _ (h.next h1 h2) (by omega)
theorem runB_step {cs:List Int}{t:Dh}{l:List Dm}{n k:Nat}{b y:FBr}(h:Vk cs t l k b)(hn:2 * cs.length≤n+k)(hf:Ky b l=some y):Dqa n b l=Dqa n y l∧Vk cs t l (k+1) y:=by
 obtain ⟨x,h1,h2,rfl⟩:=Mx hf
 have hv:=h.next h1 h2
 refine ⟨?_,hv⟩
 obtain ⟨m,rfl⟩:∃ m,n=m+1:=⟨n-1,by have:=h.le;omega⟩
 rw [Dpa m (k+1) _ hv (by omega)]
 rw [Dqa,hf]
theorem Jca {cs:List Int}{t:Dh}{l:List Dm}:∀ (n k:Nat) (b:FBr),Vk cs t l k b→2 * cs.length≤n+k+1→Ky (Dqa n b l) l=none∧∃ m,Vk cs t l m (Dqa n b l)
 | 0,k,b,h,hn=>by have:=h.le;omega
 | n+1,k,b,h,hn=>by
   rw [Dqa]
   cases hf:Ky b l with
   | none=>exact ⟨hf,k,h⟩
   | some y =>
     obtain ⟨x,h1,h2,rfl⟩:=Mx hf
     exact Jca n (k+1) _ (h.next h1 h2) (by omega)
noncomputable def Ma (L:List Fct) (s c:Int) (t:Dh):FBr×Int :=
 if Ik t then (if c<8 then (br0,190) else match J6a L s c with
  | none=>(br0,190)
  | some e=>if (Ob (Jma L s c e) t).2=0 then (Dqa 256 (Ob (Jma L s c e) t).1 (C4a L s c),0) else Ob (Jma L s c e) t) else (br0,210)
theorem ordF_ext {A B:List Fct}(hA:Kd A)(hB:Kd B)(h:∀ x,Cg x→(x∈A↔x∈B))(s c:Int)(e:Fct):Jma A s c e=Jma B s c e:=by
 unfold Jma;rw [lotF_ext hA hB h]
theorem viewB_ext {A B:List Fct}(hA:Kd A)(hB:Kd B)(h:∀ x,Cg x→(x∈A↔x∈B))(s c:Int)(t:Dh):Ma A s c t=Ma B s c t:=by
 unfold Ma
 rw [entF_ext hA hB h,allC_ext hA hB h]
 simp only [ordF_ext hA hB h]
theorem Qj {L:List Fct}(h32:Kd L){s c:Int}{t:Dh}:((Ma L s c t).2≠0→(Ma L s c t).1.rs=[]) ∧
  ((Ma L s c t).2=0→Ms (Ma L s c t).1∧(∀ x∈Cp (Ma L s c t).1,ofF L x.g=some x∧x.g.s=s∧x.g.c=c)∧∀ x∈C4a L s c,(Cw (Ma L s c t).1 x).2≠0):=by
 unfold Ma
 by_cases h1:Ik t
 · by_cases h2:c<8
   · rw [if_pos h1,if_pos h2];exact ⟨fun _=>rfl,fun h=>absurd (show (190:Int)=0 from h) (by decide)⟩
   · rw [if_pos h1,if_neg h2]
     cases he:J6a L s c with
     | none=>exact ⟨fun _=>rfl,fun h=>absurd (show (190:Int)=0 from h) (by decide)⟩
     | some e =>
       dsimp only
       by_cases h3:(Ob (Jma L s c e) t).2=0
       · rw [if_pos h3]
         refine ⟨fun h=>absurd rfl h,fun _ => ?_⟩
         have hv:=Eca (C4a L s c) h3
         have hle:(Jma L s c e).length≤128:=by
          unfold Ob at h3
          by_cases k:Ls (Jma L s c e).length∧Fw (Jma L s c e)
          · have:=k.1;unfold Ls at this;omega
          · rw [if_pos h1,if_neg k] at h3;exact absurd (show (190:Int)=0 from h3) (by decide)
         obtain ⟨k1,m,k2⟩:=Jca 256 0 _ hv (by omega)
         refine ⟨k2.ok,fun x hx => ?_,Qt.1 k1⟩
         have:=((allC_is h32 s c).2 x).1 (k2.mem x hx)
         exact ⟨this.2.2,this.1,this.2.1⟩
       · rw [if_neg h3]
         exact ⟨fun _=>new_err h3,fun h=>absurd h h3⟩
 · rw [if_neg h1];exact ⟨fun _=>rfl,fun h=>absurd (show (210:Int)=0 from h) (by decide)⟩
end Go.Hw
namespace Go.Hw
structure FSides where
 f:Int
 s:Int
 af:Int
 as':Int
 pf:Int
 ps:Int
deriving DecidableEq
theorem open_win {d:Bp}{t:Dh}(h:¬ Hr d t):Ke d t=none:=by unfold Ke;rw [if_neg h]
theorem Zi {t:Dh}(d:Bp):∀ (l:List Bp),Im (l++[d]) t=match Im l t,Ke d t with
  | some cs,some c=>some (cs++[c])
  | _,_=>none
 | []=>by
   rw [List.nil_append]
   unfold Im
   cases Ke d t <;> rfl
 | e::r=>by
   rw [List.cons_append]
   unfold Im
   rw [Zi d r]
   cases Ke e t <;> cases Im r t <;> cases Ke d t <;> rfl
theorem K8a {t:Dh}{d:Bp}{l:List Bp}(hd:d∈l)(h:Ke d t=none):Im l t=none:=by
 cases hw:Im l t with
 | none=>rfl
 | some cs=>exact absurd h (C5a hw d hd)
theorem Kga {t:Dh}:∀ {rs:List (List Bp)},Gz t rs↔∀ i,i<rs.length→(if i+1<rs.length then ∃ n,Gb (rs.getD i []) t=some n∧Lk n (rs.getD (i+1) []) else Gb (rs.getD i []) t=none)
 | []=>⟨fun _ i hi=>(by simp at hi),fun _=>trivial⟩
 | [l]=>by
   unfold Gz
   refine ⟨fun h i hi => ?_,fun h => ?_⟩
   · have:i=0:=by simpa using hi
     subst this
     rw [if_neg (by simp)];exact h
   · have:=h 0 (by simp)
     rw [if_neg (by simp)] at this;exact this
 | l::m::r=>by
   unfold Gz
   rw [Kga (rs:=m::r)]
   constructor
   · rintro ⟨h1,h2⟩ i hi
     cases i with
     | zero=>rw [if_pos (by simp)];exact h1
     | succ i =>
       have:=h2 i (by simpa using hi)
       by_cases k:i+1<(m::r).length
       · rw [if_pos k] at this;rw [if_pos (by simpa using k)];exact this
       · rw [if_neg k] at this;rw [if_neg (by simpa using k)];exact this
   · intro h
     refine ⟨?_,fun i hi => ?_⟩
     · have:=h 0 (by simp)
       rw [if_pos (by simp)] at this;exact this
     · have:=h (i+1) (by simpa using hi)
       by_cases k:i+1<(m::r).length
       · rw [if_pos (by simpa using k)] at this;rw [if_pos k];exact this
       · rw [if_neg (by simpa using k)] at this;rw [if_neg k];exact this
theorem Kca {l:List Dm}:(∀ x∈l,∀ y∈l,Cx x y)↔∀ x∈l,Cx x (l.headD Ep):=by
 cases l with
 | nil=>exact ⟨fun _ x hx=>(by cases hx),fun _ x hx=>(by cases hx)⟩
 | cons a r =>
   refine ⟨fun h x hx=>h x hx a (by simp),fun h x hx y hy => ?_⟩
   have h1:=h x hx
   have h2:=h y hy
   exact ⟨h1.1.trans h2.1.symm,h1.2.trans h2.2.symm⟩
end Go.Hw
namespace Go.Hw
def ResBd (r:Dm):Prop:=Fd r.g∧Bel r.hg 100∧Bel r.ag 100∧Bel r.hp 100∧Bel r.ap 100∧Bel r.hc 121∧Bel r.ac 121∧Bel r.day 1048577
instance (r:Dm):Decidable (ResBd r):=by unfold ResBd;infer_instance
end Go.Hw
namespace Go.Hw
def A7a (h a x y hp ap:Int):Dm:={ Ep with g:=⟨0,8,h,a⟩,hg:=x,ag:=y,hp:=hp,ap:=ap }
def Yz:Dh:=⟨1,false⟩
def tie2:Dh:=⟨2,true⟩
def exD (hp ap:Int):Bp:=⟨1,2,[A7a 1 2 1 2 0 0,A7a 2 1 1 2 hp ap]⟩
theorem exD_ok {hp ap:Int}(h:(hp=0∧ap=0)∨(hp=4∧ap=3)):Nq (exD hp ap) tie2:=by
 rcases h with ⟨rfl,rfl⟩|⟨rfl,rfl⟩
 all_goals
  refine ⟨by decide,fun x hx => ?_,fun i hi => ?_⟩
  · simp only [exD,List.mem_cons,List.not_mem_nil,or_false] at hx
    rcases hx with e|e <;> (rw [e];decide)
  · match i,hi with
    | 0,_=>exact ⟨rfl,rfl,by decide,rfl,rfl⟩
    | 1,_=>exact ⟨rfl,rfl,by decide,rfl,rfl⟩
theorem ex_draw:Kh (exD 0 0) tie2=(0,210):=by
 unfold Kh
 rw [if_neg (fun k=>k (checkD_zero.2 (exD_ok (by decide)))),show Ke (exD 0 0) tie2=none by decide]
theorem ex_pens:Kh (exD 4 3) tie2=(2,0):=F6a.2 ⟨exD_ok (by decide),by decide⟩
theorem ex_three:Ob [1,2,3] Yz=(br0,190):=by decide
theorem ex_rules:Ob [1,2] ⟨3,false⟩=(br0,210):=by decide
theorem ex_openD:Kh ⟨1,2,[]⟩ Yz=(0,210):=by
 have h:Nq ⟨1,2,[]⟩ Yz:=⟨by decide,fun x hx=>(by cases hx),fun i hi=>(by simp at hi)⟩
 unfold Kh
 rw [if_neg (fun k=>k (checkD_zero.2 h)),show Ke ⟨1,2,[]⟩ Yz=none by decide]
theorem ex_empty:Lb br0=(0,false,210):=by
 unfold Lb
 rw [if_neg (fun k=>k.some rfl)]
def exB:FBr:=⟨Yz,[[⟨5,3,[]⟩]]⟩
def exY:FBr:=⟨Yz,[[⟨5,3,[A7a 5 3 0 1 0 0]⟩]]⟩
theorem ex_new:Ob [5,3] Yz=(exB,0):=by decide
theorem Pi:Cw exB (A7a 5 3 0 1 0 0)=(exY,0):=by
 have hb:Ms exB:=by
  have:=(Eea (cs:=[5,3]) (t:=Yz) (by rw [ex_new])).ok
  rw [ex_new] at this;exact this
 unfold Cw
 rw [if_pos hb,if_pos (by decide),show Hn (exB.rs.getLastD []) exB.t (A7a 5 3 0 1 0 0)=some ([⟨5,3,[A7a 5 3 0 1 0 0]⟩],⟨5,3,[A7a 5 3 0 1 0 0]⟩) by decide]
 dsimp only
 rw [if_pos ⟨by decide,fun y hy=>(by cases hy),fun w=>absurd w.2 (by decide)⟩]
 rfl
theorem ex_champ:Lb exY=(3,true,0):=by
 have h:=(La (b:=exB) (x:=A7a 5 3 0 1 0 0) (by rw [Pi])).2.ok
 rw [Pi] at h
 unfold Lb
 rw [if_pos h]
 rfl
end Go.Hw
namespace Go.Hw
def Eb:List Int→List (List Int)
 | a::b::r=>[a,b]::Eb r
 | [a]=>[[a]]
 | []=>[]
theorem Yg:∀ {l:List Int},l≠[]→Eb l=l.take 2::Eb (l.drop 2)
 | [],h=>absurd rfl h
 | [_],_=>rfl
 | _::_::_,_=>rfl
theorem Om:∀ (j:Nat) (l:List Int),2 * j≤l.length→Eb l=Eb (l.take (2 * j))++Eb (l.drop (2 * j))
 | 0,l,_=>by rw [Nat.mul_zero,List.take_zero,List.drop_zero];rfl
 | j+1,[],h=>by simp at h
 | j+1,[a],h=>by simp at h;omega
 | j+1,a::b::r,h=>by
   have ih:=Om j r (by simp at h;omega)
   rw [show 2 * (j+1)=2 * j+1+1 by omega,List.take_succ_cons,List.take_succ_cons,List.drop_succ_cons,List.drop_succ_cons]
   show [a,b]::Eb r=([a,b]::Eb (r.take (2 * j)))++Eb (r.drop (2 * j))
   rw [ih];rfl
theorem Ata:∀ {l c:List Int},c∈Eb l→c.length=1∨c.length=2
 | [],c,h=>by cases h
 | [a],c,h=>by rw [show Eb [a]=[[a]] from rfl,List.mem_singleton] at h;rw [h];exact .inl rfl
 | a::b::r,c,h=>by
   rw [show Eb (a::b::r)=[a,b]::Eb r from rfl] at h
   rcases List.mem_cons.1 h with e|e
   · rw [e];exact .inr rfl
   · exact Ata e
theorem chunk2_at {l:List Int}{j:Nat}(h:2 * j<l.length):Eb l=Eb (l.take (2 * j))++(l.drop (2 * j)).take 2::Eb (l.drop (2 * j+2)):=by
 rw [Om j l (by omega),Yg (l:=l.drop (2 * j)) (by intro e;have:=congrArg List.length e;rw [List.length_drop] at this;simp at this;omega),List.drop_drop]
theorem H3a {l:List Int}{j:Nat}(h:2 * j<l.length):Eb (l.take (2 * j+2))=Eb (l.take (2 * j))++[(l.drop (2 * j)).take 2]:=by
 rw [Om j (l.take (2 * j+2)) (by rw [List.length_take];omega)]
 rw [List.take_take,show min (2 * j) (2 * j+2)=2 * j by omega,List.drop_take,show 2 * j+2-2 * j=2 by omega]
 rw [Yg (l:=(l.drop (2 * j)).take 2) (by intro e;have:=congrArg List.length e;rw [List.length_take,List.length_drop] at this;simp at this;omega)]
 rw [List.take_take,show min 2 2=2 from rfl,List.drop_take]
 rfl
def Xj (c:List Int):List Bp:=match c with
 | [a,b]=>[⟨a,b,[]⟩]
 | _=>[]
def Of (cs:List (List Int)):List Bp:=cs.flatMap Xj
theorem L9a (cs:List (List Int))(c:List Int):Of (cs++[c])=Of cs++Xj c:=by unfold Of;rw [List.flatMap_append];simp
theorem Xi:∀ l:List Int,Of (Eb l)=Hj l
 | []=>rfl
 | [_]=>rfl
 | a::b::r=>by
   have:=Xi r
   show [⟨a,b,[]⟩]++Of (Eb r)=_
   rw [this];rfl
theorem Eqa:∀ cs:List (List Int),(Of cs).length≤cs.length
 | []=>Nat.le_refl _
 | c::r=>by
   have:=Eqa r
   have h1:(Xj c).length≤1:=by unfold Xj;split <;> simp
   show (Xj c++Of r).length≤_
   rw [List.length_append,List.length_cons];omega
theorem Uu:∀ l:List Int,(Eb l).length≤l.length
 | []=>Nat.le_refl _
 | [_]=>Nat.le_refl _
 | a::b::r=>by
   have:=Uu r
   show ([a,b]::Eb r).length≤_
   simp only [List.length_cons];omega
end Go.Hw
namespace Go.Hw
def Od (l:List Bp):List Dm:=l.flatMap fun d=>d.ls
theorem L2a (l:List Bp)(d:Bp):Od (l++[d])=Od l++d.ls:=by unfold Od;rw [List.flatMap_append];simp
def Kl (rs:List (List Bp)):List Dm:=rs.flatMap Od
theorem L3a (rs:List (List Bp))(l:List Bp):Kl (rs++[l])=Kl rs++Od l:=by unfold Kl;rw [List.flatMap_append];simp
theorem legsL_all (b:FBr):Cp b=Kl b.rs:=rfl
def Ixa (t:Dh) (d:Bp):Prop:=Nq d t∧(Hr d t→(d.ls.length:Int)=t.legs→Ke d t≠none)
def Oy (t:Dh) (rs:List (List Bp)) (i:Nat):Prop:=if i+1<rs.length then ∃ n,Gb (rs.getD i []) t=some n∧Lk n (rs.getD (i+1) []) else Gb (rs.getD i []) t=none
theorem Kha {t:Dh}{rs:List (List Bp)}:Gz t rs↔∀ i,i<rs.length→Oy t rs i:=Kga
theorem brOk_iff (b:FBr):Ms b↔Ik b.t∧b.rs≠[]∧(Ob (Eo (b.rs.headD [])) b.t).2=0∧(∀ l∈b.rs,Lr l b.t)∧(∀ i,i<b.rs.length→Oy b.t b.rs i)∧∀ x∈Kl b.rs,Cx x ((Kl b.rs).headD Ep):=by
 have hn:∀ l:List Bp,Ik b.t→((Ob (Eo l) b.t).2=0↔Ls (2 * l.length)∧Fw (Eo l)):=fun l ht=>by
  unfold Ob
  rw [if_pos ht,Tw]
  by_cases k:Ls (2 * l.length)∧Fw (Eo l)
  · rw [if_pos k];exact ⟨fun _=>k,fun _=>rfl⟩
  · rw [if_neg k];exact ⟨fun h=>absurd (show (190:Int)=0 from h) (by decide),fun h=>absurd h k⟩
 constructor
 · intro h
   obtain ⟨l,r,e,h1,h2⟩:=h.clubs
   exact ⟨h.tie,h.some,by rw [e];exact (hn l h.tie).2 ⟨h1,h2⟩,h.rounds,Kha.1 h.chain,Kca.1 h.cup⟩
 · rintro ⟨h1,h2,h3,h4,h5,h6⟩
   refine ⟨h1,h2,?_,h4,Kha.2 h5,Kca.2 h6⟩
   cases e:b.rs with
   | nil=>exact absurd e h2
   | cons l r =>
     rw [e] at h3
     obtain ⟨q1,q2⟩:=(hn l h1).1 h3
     exact ⟨l,r,rfl,q1,q2⟩
theorem Eka {l:List Bp}(h:∀ d∈l,d.ls.length≤2):(Od l).length≤2 * l.length:=by
 induction l with
 | nil=>exact Nat.le_refl _
 | cons d r ih =>
   have h1:=h d (by simp)
   have h2:=ih fun x hx=>h x (by simp [hx])
   show (d.ls++Od r).length≤_
   rw [List.length_append,List.length_cons];omega
theorem legsL_len {rs:List (List Bp)}{m:Nat}(h:∀ l∈rs,∀ d∈l,d.ls.length≤2)(hm:∀ l∈rs,l.length≤m):(Kl rs).length≤2 * m * rs.length:=by
 induction rs with
 | nil=>exact Nat.zero_le _
 | cons l r ih =>
   have h1:=Eka (h l (by simp))
   have h2:=ih (fun x hx=>h x (by simp [hx])) fun x hx=>hm x (by simp [hx])
   have h3:=hm l (by simp)
   show (Od l++Kl r).length≤_
   rw [List.length_append,List.length_cons,Nat.mul_succ]
   have:2 * l.length≤2 * m:=Nat.mul_le_mul_left _ h3
   omega
theorem Mj {d:Bp}{t:Dh}(h:Nq d t):d.ls.length≤2:=by
 have h1:=h.ok0.1
 have h2:=h.ok0.2.2.2.2
 unfold Ik at h1
 omega
end Go.Hw
namespace Go.Hw
def Nl (t:Dh) (x:Dm):List Bp→Nat→Int
 | [],_ => -1
 | d::r,k=>if Py d t x then k else Nl t x r (k+1)
theorem Wd {t:Dh}{x:Dm}:∀ {l:List Bp} (k:Nat),Hn l t x=none→Nl t x l k = -1
 | [],k,_=>rfl
 | d::r,k,h=>by
   unfold Hn at h
   unfold Nl
   by_cases hw:Py d t x
   · rw [if_pos hw] at h;cases h
   · rw [if_neg hw] at h ⊢
     cases hr:Hn r t x with
     | none=>exact Wd (k+1) hr
     | some w=>rw [hr] at h;cases h
theorem Wc {t:Dh}{x:Dm}:∀ {l m:List Bp} {e:Bp} (k:Nat),Hn l t x=some (m,e)→∃ i d,i<l.length∧Nl t x l k=((k+i:Nat):Int)∧l[i]? = some d∧Py d t x∧e=⟨d.a,d.b,d.ls++[x]⟩∧m=l.set i e
 | [],_,_,k,h=>by cases h
 | d::r,m,e,k,h=>by
   unfold Hn at h
   by_cases hw:Py d t x
   · rw [if_pos hw] at h
     cases h
     exact ⟨0,d,by simp,by unfold Nl;rw [if_pos hw];rfl,rfl,hw,rfl,rfl⟩
   · rw [if_neg hw] at h
     cases hr:Hn r t x with
     | none=>rw [hr] at h;cases h
     | some w =>
       obtain ⟨m2,e2⟩:=w
       rw [hr] at h
       cases h
       obtain ⟨i,d2,h1,h2,h3,h4,h5,h6⟩:=Wc (k+1) hr
       refine ⟨i+1,d2,by simp;omega,?_,by simpa using h3,h4,h5,by rw [h6];rfl⟩
       unfold Nl
       rw [if_neg hw,h2]
       congr 1;omega
theorem take_last {α:Type}{l:List (List α)}{n:Nat}(h:l.length=n)(h0:0<n):l.getLastD []=l.getD (n-1) []∧l.dropLast=l.take (n-1):=by
 subst h
 refine ⟨?_,List.dropLast_eq_take⟩
 rw [List.getLastD_eq_getLast?,List.getLast?_eq_getElem?,List.getD_eq_getElem?_getD]
theorem heads_all {rs:List (List Bp)}{x:Dm}(hc:∀ y∈Kl rs,∀ z∈Kl rs,Cx y z)(hh:∀ l∈rs,∀ d∈l,d.ls≠[]→Cx (d.ls.headD Ep) x):∀ y∈Kl rs,Cx y x:=by
 intro y hy
 obtain ⟨l,hl,hy2⟩:=List.mem_flatMap.1 hy
 obtain ⟨d,hd,hy3⟩:=List.mem_flatMap.1 hy2
 have hne:d.ls≠[]:=fun e=>by rw [e] at hy3;cases hy3
 have h1:=hh l hl d hd hne
 have hm:d.ls.headD Ep∈d.ls:=by
  cases e:d.ls with
  | nil=>exact absurd e hne
  | cons a r=>simp
 have h2:=hc y hy (d.ls.headD Ep) (List.mem_flatMap.2 ⟨l,hl,List.mem_flatMap.2 ⟨d,hd,hm⟩⟩)
 exact ⟨h2.1.trans h1.1,h2.2.trans h1.2⟩
theorem head_mem {rs:List (List Bp)}{l:List Bp}{d:Bp}(hl:l∈rs)(hd:d∈l)(h:d.ls≠[]):d.ls.headD Ep∈Kl rs:=by
 refine List.mem_flatMap.2 ⟨l,hl,List.mem_flatMap.2 ⟨d,hd,?_⟩⟩
 cases e:d.ls with
 | nil=>exact absurd e h
 | cons a r=>simp
theorem Mma {b:FBr}{x:Dm}(h:¬ Ms b):Cw b x=(br0,210):=by unfold Cw;rw [if_neg h]
theorem Mla {b:FBr}{x:Dm}(h:Ms b)(k:¬ Hc x):Cw b x=(br0,1):=by unfold Cw;rw [if_pos h,if_neg k]
theorem Hsa {b:FBr}{x:Dm}(h:Ms b)(k:Hc x)(e:Hn (b.rs.getLastD []) b.t x=none):Cw b x=(br0,210):=by unfold Cw;rw [if_pos h,if_pos k,e]
theorem enterB_no {b:FBr}{x:Dm}(h:Ms b)(k:Hc x){m:List Bp}{d:Bp}(e:Hn (b.rs.getLastD []) b.t x=some (m,d))(c:¬ (8≤x.g.c∧(∀ y∈Cp b,Cx y x)∧¬ (Hr d b.t∧Ke d b.t=none))):Cw b x=(br0,210):=by
 unfold Cw;rw [if_pos h,if_pos k,e];dsimp only;rw [if_neg c]
theorem Mka {b:FBr}{x:Dm}(h:Ms b)(k:Hc x){m:List Bp}{d:Bp}(e:Hn (b.rs.getLastD []) b.t x=some (m,d))(c:8≤x.g.c∧(∀ y∈Cp b,Cx y x)∧¬ (Hr d b.t∧Ke d b.t=none)):Cw b x=(⟨b.t,b.rs.dropLast++(m::(Gb m b.t).toList)⟩,0):=by
 unfold Cw;rw [if_pos h,if_pos k,e];dsimp only;rw [if_pos c];cases Gb m b.t <;> rfl
end Go.Hw

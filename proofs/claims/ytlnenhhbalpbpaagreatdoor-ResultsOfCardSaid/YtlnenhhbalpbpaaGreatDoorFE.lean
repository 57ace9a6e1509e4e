import Derived.Test.YtlnenhhbalpbpaaGreatDoorFD
import Derived.Test.YtlnenhhbalpbpaaGreatDoorFC
import Derived.Test.YtlnenhhbalpbpaaGreatDoorFA
set_option linter.all false
namespace Go.Hw
open Go Go.Lib
structure Ml where
 g:Ak
 hg:Int
 ag:Int
 hp:Int
 ap:Int
 hc:Int
 ac:Int
 day:Int
 forf:Bool
 both:Bool
deriving DecidableEq,Inhabited
def Aza:Ml:=⟨Ol,0,0,0,0,0,0,0,false,false⟩
def Exa (n:Int) (c:Dx):Int:=if c.red then n+3 else n+1
def Gq (l:List Dx):Int:=l.foldl Exa 0
theorem Sp (l:List Dx)(c:Dx):Gq (l++[c])=Exa (Gq l) c:=by unfold Gq;rw [List.foldl_append];rfl
theorem Jta (l:List Dx):0≤Gq l∧Gq l≤3 * (l.length:Int):=by
 refine Kqa (P:=fun l=>0≤Gq l∧Gq l≤3 * (l.length:Int)) ⟨by simp [Gq],by simp [Gq]⟩ (fun l x ih => ?_) l
 rw [Sp,List.length_append,List.length_singleton]
 unfold Exa
 split <;> omega
def Gz (g:Ak) (day:Int) (home away:Bool):Ml :=
 { Aza with g:=g,day:=day,forf:=true,both:=home && away,hg:=if (home && away)=true then 0 else if home=true then 0 else 3,ag:=if (home && away)=true then 0 else if home=true then 3 else 0 }
def Iga (g:Ak) (r:Fk) (day:Int):Option Ml :=
 if r.kind=1 then some (Gz g day (decide (r.club=g.h)) (decide (r.club=g.a)))
 else if r.kind=3 then some { Aza with g:=g,day:=day,hg:=r.hg,ag:=r.ag }
 else none
def ofSheet (g:Ak) (x:Az):Ml:={ Aza with g:=g,day:=x.day,hg:=x.sh.hg,ag:=x.sh.ag,hp:=x.sh.hp,ap:=x.sh.ap,hc:=Gq x.sh.hc,ac:=Gq x.sh.ac }
def A3a (g:Ak) (x:Az) (o:List Int×List Int):Ml :=
 if o.1=[]∧o.2=[] then ofSheet g x else Gz g x.day (decide (o.1≠[])) (decide (o.2≠[]))
noncomputable def Hk (L:List Fct) (g:Ak):Option Ml:=if (Bj L g).kind=2 then some (A3a g (Bj L g) (Up L g)) else none
noncomputable def ofF (L:List Fct) (g:Ak):Option Ml :=
 if Dh g then (if (Db (Ba L) g).2.2=true then Iga g (Db (Ba L) g).1 (Db (Ba L) g).2.1 else Hk L g) else none
def B8a (r:Ml):Prop :=
 Dh r.g∧Bel r.hg 100∧Bel r.ag 100∧Bel r.hp 100∧Bel r.ap 100∧Bel r.hc 121∧Bel r.ac 121∧Bel r.day 1048577 ∧
 (r.g.c<8→r.hp+r.ap=0) ∧
 (if r.forf=true then (if r.both=true then r.hg=0∧r.ag=0 else (r.hg=0∧r.ag=3)∨(r.hg=3∧r.ag=0))∧r.hp+r.ap+r.hc+r.ac=0 else r.both=false)
instance (r:Ml):Decidable (B8a r):=by unfold B8a;infer_instance
theorem Ida {L:List Fct}(h32:Mk L){g:Ak}(h:(Bj L g).kind=2):Dv (Bj L g).sh∧(Bj L g).sh.g=g∧Bel (Bj L g).day 1048577:=by
 obtain ⟨f,m,ok,k,e,eg,d⟩:=Cl h32 h
 have hs:Dv (Bj L g).sh:=by
  have:=ok.2.2.1
  unfold Cw at this
  rw [if_neg QAd,if_neg QAd,if_pos k,e] at this
  exact this
 refine ⟨hs,by rw [← e];exact eg,d,?_⟩
 unfold Bj at h ⊢
 cases h0:Gr L g 0 with
 | none =>
   rw [h0] at h
   cases h1:Gr L g 1 with
   | none=>rw [h1] at h;exact absurd h QAs
   | some b=>rw [h1] at h;exact absurd (show (1:Int)=2 from h) QAs
 | some a =>
   rw [h0] at h
   cases h1:Gr L g 1 with
   | none=>rw [h1] at h;exact absurd (show (1:Int)=2 from h) QAs
   | some b =>
     rw [h1] at h
     unfold Mo at h ⊢
     have qa:=(Od h32 h0).2.2.1.1
     have qb:=(Od h32 h1).2.2.1.1
     unfold Bel at qa qb
     by_cases hs:Hh a.sh b.sh
     · simp only [hs,if_true]
       show max a.day b.day<1048577
       omega
     · simp only [hs,if_false] at h
       exact absurd h QAs
theorem Aga {C:List Fct}{g:Ak}{f:Fct}:f∈Jo C g↔f∈Bn C∧Fv g f.ru:=by
 unfold Jo;rw [List.mem_filter,decide_eq_true_eq]
theorem Pj {C:List Fct}(hok:∀ f∈C,Bm f){g:Ak}(h:(Db C g).2.2=true):∃ f∈C,Bm f∧f.kind=4∧If f.ru∧Fv g f.ru∧Py (Jo C g)=some f∧Db C g=(f.ru,f.day,true):=by
 unfold Db at h ⊢
 cases hm:Py (Jo C g) with
 | none=>rw [hm] at h;cases h
 | some f =>
   obtain ⟨h1,h2⟩:=Aga.1 (maxF_mem hm)
   obtain ⟨q1,q2,q3,q4⟩:=force_ok hok h1
   exact ⟨f,q1,q2,q3,q4,h2,rfl,rfl⟩
theorem Oc {L:List Fct}(h32:Mk L):∀ f∈Ba L,Bm f:=fun f hf=>(Eya h32 f hf).1
def MentG (f:Fct):Ak:=if f.kind=4 then f.ru.g else f.sh.g
theorem ofF_ment {L:List Fct}(h32:Mk L){g:Ak}{x:Ml}(h:ofF L g=some x):Dh g∧∃ f∈L,Bm f∧MentG f=g:=by
 unfold ofF at h
 split at h
 · rename_i hg
   refine ⟨hg,?_⟩
   split at h
   · rename_i hr
     obtain ⟨f,q1,q2,q3,q4,q5,_,e⟩:=Pj (Oc h32) hr
     refine ⟨f,(((Bx L h32).2 f).1 q1).1,q2,?_⟩
     unfold MentG
     rw [if_pos q3,q5.1]
   · unfold Hk at h
     split at h
     · rename_i hk
       obtain ⟨f,m,ok,k,e,eg,d⟩:=Cl h32 hk
       refine ⟨f,m,ok,?_⟩
       unfold MentG
       rw [if_neg QAd,eg]
     · cases h
 · cases h
def LtR (a b:Ml):Prop:=a.day<b.day∨(a.day=b.day∧(a.g.h<b.g.h∨(a.g.h=b.g.h∧a.g.a<b.g.a)))
instance (a b:Ml):Decidable (LtR a b):=by unfold LtR;infer_instance
theorem LtR.irrefl (a:Ml):¬ LtR a a:=by unfold LtR;omega
theorem LtR.trans (a b c:Ml)(h:LtR a b)(k:LtR b c):LtR a c:=by unfold LtR at *;omega
def Cpa (s c:Int) (f:Fct):Prop:=f.kind=1∧f.eS=s∧f.eC=c∧Bm f
open Classical in
noncomputable def entL (L:List Fct) (s c:Int):List Fct:=L.filter fun f=>decide (Cpa s c f)
noncomputable def Zp (L:List Fct) (s c:Int):Option Fct:=(entL L s c).foldl Uc none
open Classical in
theorem Bsa {L:List Fct}{s c:Int}{f:Fct}:f∈entL L s c↔f∈L∧Cpa s c f:=by
 unfold entL;rw [List.mem_filter,decide_eq_true_eq]
theorem Lna {L:List Fct}(h32:Mk L)(s c:Int):Pb (entL L s c) (Zp L s c) :=
 Kg (entL L s c) [] none (fun f hf=>absurd hf QAn) (fun f hf=>⟨(Bsa.1 hf).2.2.2.2,h32 f (Bsa.1 hf).1⟩) (.inl ⟨rfl,rfl⟩)
theorem entF_some {L:List Fct}(h32:Mk L){s c:Int}{f:Fct}(h:Zp L s c=some f):f∈L∧Cpa s c f:=by
 rcases Lna h32 s c with ⟨h1,_⟩|⟨m,h1,h2,_⟩
 · rw [h1] at h;cases h
 · rw [h1] at h;cases h;exact Bsa.1 h2
def Ma (L:List Fct) (s c h a:Int):Prop:=h≠a∧ofF L ⟨s,c,h,a⟩=none
open Classical in
noncomputable def Jr (L:List Fct) (s c h:Int) (aa:List Int):List Ak:=aa.flatMap fun a=>if Ma L s c h a then [⟨s,c,h,a⟩] else []
noncomputable def Ln (L:List Fct) (s c:Int) (hs aa:List Int):List Ak:=hs.flatMap fun h=>Jr L s c h aa
noncomputable def Pi (L:List Fct) (s c:Int):List Ak :=
 if 0≤s∧s<64∧0≤c∧c<8 then (match Zp L s c with|none=>[]|some f=>Ln L s c f.eClubs f.eClubs) else []
noncomputable def Se (L:List Fct) (s c:Int):Int :=
 if 0≤s∧s<64∧0≤c∧c<8 then (match Zp L s c with|none=>190|some f=>0) else 1
open Classical in
theorem Yu (L:List Fct)(s c h:Int)(aa:List Int)(a:Int):Jr L s c h (aa++[a])=if Ma L s c h a then Jr L s c h aa++[⟨s,c,h,a⟩] else Jr L s c h aa:=by
 unfold Jr
 rw [List.flatMap_append]
 by_cases q:Ma L s c h a <;> simp [q]
theorem Kya (L:List Fct)(s c:Int)(hs aa:List Int)(h:Int):Ln L s c (hs++[h]) aa=Ln L s c hs aa++Jr L s c h aa:=by
 unfold Ln
 rw [List.flatMap_append];simp
open Classical in
theorem Dta (L:List Fct)(s c h:Int)(aa:List Int):(Jr L s c h aa).length≤aa.length:=by
 unfold Jr
 exact My _ (fun a=>by split <;> simp) aa
theorem Dsa (L:List Fct)(s c:Int)(aa:List Int):∀ hs:List Int,(Ln L s c hs aa).length≤hs.length * aa.length
 | []=>by simp [Ln]
 | h::r=>by
   have h1:=Dsa L s c aa r
   have h2:=Dta L s c h aa
   unfold Ln at *
   rw [List.flatMap_cons,List.length_append,List.length_cons,Nat.succ_mul]
   omega
end Go.Hw
namespace Go.Hw
open Go Go.Lib
structure Px where
 legs:Int
 away:Bool
deriving DecidableEq,Inhabited
structure Eb where
 a:Int
 b:Int
 ls:List Ml
deriving DecidableEq,Inhabited
structure FBr where
 t:Px
 rs:List (List Eb)
deriving DecidableEq,Inhabited
def tie0:Px:=⟨0,false⟩
def br0:FBr:=⟨tie0,[]⟩
def IsTie (t:Px):Prop:=t.legs=1∨t.legs=2
instance (t:Px):Decidable (IsTie t):=by unfold IsTie;infer_instance
def legA (d:Eb) (i:Nat):Int:=if i=0 then d.a else d.b
def legB (d:Eb) (i:Nat):Int:=if i=0 then d.b else d.a
def B7a (x y:Ml):Prop:=x.g.s=y.g.s∧x.g.c=y.g.c
instance (x y:Ml):Decidable (B7a x y):=by unfold B7a;infer_instance
def FullD (d:Eb) (t:Px):Prop:=t.legs≤d.ls.length
instance (d:Eb) (t:Px):Decidable (FullD d t):=by unfold FullD;infer_instance
structure FLead where
 goals:Int
 away:Int
 pens:Int
deriving DecidableEq
def leadS (l:FLead) (i:Nat) (x:Ml):FLead:=if i=0 then ⟨l.goals+(x.hg-x.ag),l.away-x.ag,x.hp-x.ap⟩ else ⟨l.goals+(x.ag-x.hg),l.away+x.ag,x.ap-x.hp⟩
def leadL:Nat→FLead→List Ml→FLead
 | _,l,[]=>l
 | i,l,x::r=>leadL (i+1) (leadS l i x) r
def leadD (d:Eb):FLead:=leadL 0 ⟨0,0,0⟩ d.ls
def leadN (d:Eb) (t:Px):Int :=
 if (leadD d).goals≠0 then (leadD d).goals
 else if t.legs=2∧t.away=true∧(leadD d).away≠0 then (leadD d).away
 else (leadD d).pens
def winD (d:Eb) (t:Px):Option Int:=if FullD d t then (if 0<leadN d t then some d.a else if leadN d t<0 then some d.b else none) else none
def Hxa (d:Eb) (t:Px):Prop:=IsTie t∧Bel d.a 192∧Bel d.b 192∧d.a≠d.b∧(d.ls.length:Int)≤t.legs
instance (d:Eb) (t:Px):Decidable (Hxa d t):=by unfold Hxa;infer_instance
def LegOk (d:Eb) (i:Nat) (x:Ml):Prop:=x.g.h=legA d i∧x.g.a=legB d i∧8≤x.g.c∧B7a x (d.ls.headD Aza)
instance (d:Eb) (i:Nat) (x:Ml):Decidable (LegOk d i x):=by unfold LegOk;infer_instance
def LegsOk (d:Eb):Prop:=∀ i,i<d.ls.length→LegOk d i (d.ls.getD i Aza)
structure DuelOk (d:Eb) (t:Px):Prop where
 ok0:Hxa d t
 res:∀ x∈d.ls,B8a x
 legs:LegsOk d
def Doa:List Int→List Eb
 | a::b::r=>⟨a,b,[]⟩::Doa r
 | _=>[]
def IsPow (n:Nat):Prop:=n=2∨n=4∨n=8∨n=16∨n=32∨n=64∨n=128
instance (n:Nat):Decidable (IsPow n):=by unfold IsPow;infer_instance
def Td (cs:List Int):Prop:=(∀ c∈cs,Bel c 192)∧cs.Nodup
instance (cs:List Int):Decidable (Td cs):=by unfold Td;infer_instance
def Ub (l:List Eb) (t:Px):Option (List Int):=match l with
 | []=>some []
 | d::r=>match winD d t,Ub r t with
   | some c,some cs=>some (c::cs)
   | _,_=>none
def nextR (l:List Eb) (t:Px):Option (List Eb):=match Ub l t with
 | some cs=>if 2≤cs.length then some (Doa cs) else none
 | none=>none
def Gaa (x y:List Eb):Prop:=x.map (fun d=>(d.a,d.b))=y.map fun d=>(d.a,d.b)
instance (x y:List Eb):Decidable (Gaa x y):=by unfold Gaa;infer_instance
def RoundOk (l:List Eb) (t:Px):Prop:=∀ d∈l,DuelOk d t∧(FullD d t→(d.ls.length:Int)=t.legs→winD d t≠none)
def Te (t:Px):List (List Eb)→Prop
 | []=>True
 | [l]=>nextR l t=none
 | l::m::r=>(∃ n,nextR l t=some n∧Gaa n m)∧Te t (m::r)
def Gy (b:FBr):List Ml:=b.rs.flatMap fun l=>l.flatMap fun d=>d.ls
structure BrOk (b:FBr):Prop where
 tie:IsTie b.t
 some:b.rs≠[]
 clubs:∃ l r,b.rs=l::r∧IsPow (2 * l.length)∧Td (l.flatMap fun d=>[d.a,d.b])
 rounds:∀ l∈b.rs,RoundOk l b.t
 chain:Te b.t b.rs
 cup:∀ x∈Gy b,∀ y∈Gy b,B7a x y
def WaitD (d:Eb) (t:Px) (x:Ml):Prop:=¬ FullD d t∧x.g.h=legA d d.ls.length∧x.g.a=legB d d.ls.length
instance (d:Eb) (t:Px) (x:Ml):Decidable (WaitD d t x):=by unfold WaitD;infer_instance
theorem win_club {d:Eb}{t:Px}{c:Int}(h:winD d t=some c):c=d.a∨c=d.b:=by
 unfold winD at h
 split at h
 · split at h
   · cases h;exact .inl rfl
   · split at h
     · cases h;exact .inr rfl
     · cases h
 · cases h
end Go.Hw
namespace Go.Hw
open Go Go.Lib
theorem Yx {α:Type}:∀ {a b:List α},a.Nodup→b.Nodup→(∀ x,x∈a↔x∈b)→a.Perm b
 | [],b,_,_,h=>by
   cases b with
   | nil=>exact .nil
   | cons y r=>exact absurd ((h y).2 List.mem_cons_self) QAn
 | x::a,b,ha,hb,h=>by
   obtain ⟨p,q,rfl⟩:=List.append_of_mem ((h x).1 List.mem_cons_self)
   rw [List.nodup_cons] at ha
   have hb2:(x::(p++q)).Nodup:=(List.perm_middle (a:=x) (l₁:=p) (l₂:=q)).nodup_iff.1 hb
   rw [List.nodup_cons] at hb2
   refine (List.Perm.cons x (Yx ha.2 hb2.2 fun y => ?_)).trans List.perm_middle.symm
   have:=h y
   rw [List.mem_cons,List.mem_append,List.mem_cons] at this
   rw [List.mem_append]
   constructor
   · intro hy
     rcases this.1 (.inr hy) with w|w|w
     · exact .inl w
     · subst w;exact absurd hy ha.1
     · exact .inr w
   · intro hy
     have hy2:y∈p∨y=x∨y∈q:=hy.elim .inl fun w=>.inr (.inr w)
     rcases this.2 hy2 with w|w
     · subst w;exact absurd (List.mem_append.2 hy) hb2.1
     · exact w
theorem Oo.perm {L:List Fct}{s c:Int}{ds xs:List Az}(h:Oo L s c ds)(hn:xs.Nodup)(hx:∀ x,x∈xs↔∃ g:Ak,g.s=s∧g.c=c∧Bj L g=x∧x.kind=2):xs.Perm ds :=
 Yx hn (h.1.imp fun {a b} hab e=>by subst e;exact LtS.irrefl _ hab) fun x=>(hx x).trans (h.2 x).symm
theorem Isa {L:List Fct}(h32:Mk L)(g:Ak):(Up L g).1.length≤40∧(Up L g).2.length≤40:=by
 unfold Up
 split
 · rename_i hk
   obtain ⟨f,m,ok,k,e,eg,d⟩:=Cl h32 hk
   have:=ok.2.2.1
   unfold Cw at this
   rw [if_neg QAd,if_neg QAd,if_pos k,e] at this
   have h1:=this.2.2.2.2.2.1.1
   have h2:=this.2.2.2.2.2.2.1.1
   exact ⟨Nat.le_trans (Qm _ _ _ _ _ _) h1,Nat.le_trans (Qm _ _ _ _ _ _) h2⟩
 · exact ⟨Nat.zero_le _,Nat.zero_le _⟩
end Go.Hw
namespace Go.Hw
open Go Go.Lib
def Hf (l:List Eb):List Int:=l.flatMap fun d=>[d.a,d.b]
theorem Jm (d:Eb)(l:List Eb):Hf (d::l)=d.a::d.b::Hf l:=rfl
theorem Lva (l:List Eb):(Hf l).length=2 * l.length:=by
 induction l with
 | nil=>rfl
 | cons d r ih=>rw [Jm,List.length_cons,List.length_cons,ih,List.length_cons];omega
theorem G8a {x y:List Eb}(h:Gaa x y):Hf x=Hf y:=by
 unfold Gaa at h
 induction x generalizing y with
 | nil=>cases y with
   | nil=>rfl
   | cons d r=>cases h
 | cons e q ih=>cases y with
   | nil=>cases h
   | cons d r =>
     rw [List.map_cons,List.map_cons,List.cons.injEq,Prod.mk.injEq] at h
     rw [Jm,Jm,h.1.1,h.1.2,ih h.2]
theorem sameR_len {x y:List Eb}(h:Gaa x y):x.length=y.length:=by
 have:=congrArg List.length h
 simpa using this
theorem Dna:∀ (cs:List Int),(Doa cs).length=cs.length / 2
 | []=>rfl
 | [_]=>by simp [Doa]
 | a::b::r=>by
   unfold Doa
   rw [List.length_cons,Dna r,List.length_cons,List.length_cons];omega
theorem Vu:∀ (cs:List Int),cs.length % 2=0→Hf (Doa cs)=cs
 | [],_=>rfl
 | [_],h=>absurd h QAn
 | a::b::r,h=>by
   unfold Doa
   rw [Jm,Vu r (by simp only [List.length_cons] at h;omega)]
theorem Csa {t:Px}:∀ {l:List Eb} {cs:List Int},Ub l t=some cs→cs.length=l.length
 | [],cs,h=>by cases h;rfl
 | d::r,cs,h=>by
   unfold Ub at h
   cases hd:winD d t with
   | none=>rw [hd] at h;cases h
   | some c =>
     cases hr:Ub r t with
     | none=>rw [hd,hr] at h;cases h
     | some q =>
       rw [hd,hr] at h
       cases h
       rw [List.length_cons,List.length_cons,Csa hr]
def loseD (d:Eb) (t:Px):Int:=match winD d t with|some c=>d.a+d.b-c|none=>0
theorem Ry {t:Px}:∀ {l:List Eb} {cs:List Int},Ub l t=some cs→(Hf l).Perm (cs++l.map fun d=>loseD d t)
 | [],cs,h=>by cases h;exact .nil
 | d::r,cs,h=>by
   unfold Ub at h
   cases hd:winD d t with
   | none=>rw [hd] at h;cases h
   | some c =>
     cases hr:Ub r t with
     | none=>rw [hd,hr] at h;cases h
     | some q =>
       rw [hd,hr] at h
       cases h
       have ih:=Ry hr
       rw [Jm,List.map_cons,List.cons_append]
       have hl:loseD d t=d.a+d.b-c:=by unfold loseD;rw [hd]
       rw [hl]
       have h2:(d.a::d.b::Hf r).Perm (c::(d.a+d.b-c)::Hf r):=by
        rcases win_club hd with e|e
        · rw [e,show d.a+d.b-d.a=d.b by omega]
        · rw [e,show d.a+d.b-d.b=d.a by omega];exact List.Perm.swap _ _ _
       refine h2.trans (List.Perm.cons c ?_)
       exact (List.Perm.cons _ ih).trans List.perm_middle.symm
theorem winsR_mem {t:Px}{l:List Eb}{cs:List Int}(h:Ub l t=some cs):∀ c∈cs,c∈Hf l:=fun c hc=>(Ry h).mem_iff.2 (List.mem_append_left _ hc)
theorem Fsa {t:Px}{l:List Eb}{cs:List Int}(h:Ub l t=some cs)(hc:Td (Hf l)):Td cs:=by
 refine ⟨fun c hm=>hc.1 c (winsR_mem h c hm),?_⟩
 have:=(Ry h).nodup_iff.1 hc.2
 rw [List.nodup_append] at this
 exact this.1
theorem K4a {t:Px}{l n:List Eb}(h:nextR l t=some n):∃ cs,Ub l t=some cs∧2≤cs.length∧n=Doa cs:=by
 unfold nextR at h
 cases hw:Ub l t with
 | none=>rw [hw] at h;cases h
 | some cs =>
   rw [hw] at h
   dsimp only at h
   split at h
   · cases h;exact ⟨cs,rfl,by assumption,rfl⟩
   · cases h
def Ala (n:Nat):Prop:=n=1∨n=2∨n=4∨n=8∨n=16∨n=32∨n=64
theorem pow_half {n:Nat}(h:IsPow (2 * n)):Ala n:=by unfold IsPow at h;unfold Ala;omega
structure L6a (l:List Eb):Prop where
 clubs:Td (Hf l)
 pow:Ala l.length
theorem Ija {t:Px}{l n m:List Eb}(h:L6a l)(hn:nextR l t=some n)(hs:Gaa n m):L6a m∧2 * m.length=l.length:=by
 obtain ⟨cs,hw,h2,rfl⟩:=K4a hn
 have hl:=Csa hw
 have hp:=h.pow
 have hm:=sameR_len hs
 rw [Dna] at hm
 unfold Ala at hp
 have he:cs.length % 2=0:=by omega
 have hc:Hf m=cs:=by rw [← G8a hs,Vu cs he]
 refine ⟨⟨by rw [hc];exact Fsa hw h.clubs,by unfold Ala;omega⟩,by omega⟩
theorem Ewa {t:Px}:∀ {rs:List (List Eb)},Te t rs→(∀ l r,rs=l::r→L6a l)→∀ l∈rs,L6a l
 | [],_,_,_,hl=>by cases hl
 | [l],_,h0,m,hm=>by rw [List.mem_singleton] at hm;rw [hm];exact h0 l [] rfl
 | l::m::r,hc,h0,x,hx=>by
   unfold Te at hc
   obtain ⟨⟨n,hn,hs⟩,hc2⟩:=hc
   rcases List.mem_cons.1 hx with e|e
   · rw [e];exact h0 l _ rfl
   · exact Ewa hc2 (fun a b e2=>by
      rw [List.cons.injEq] at e2
      rw [← e2.1]
      exact (Ija (h0 l _ rfl) hn hs).1) x e
theorem BrOk.rnd {b:FBr}(h:BrOk b):∀ l∈b.rs,L6a l:=by
 obtain ⟨l,r,e,h1,h2⟩:=h.clubs
 refine Ewa h.chain fun l' r' e' => ?_
 rw [e,List.cons.injEq] at e'
 rw [← e'.1]
 exact ⟨h2,pow_half h1⟩
theorem Eva {t:Px}:∀ {rs:List (List Eb)},Te t rs→(∀ l∈rs,L6a l)→(rs.flatMap id).length+1≤2 * (rs.headD []).length∨rs=[]
 | [],_,_=>.inr rfl
 | [l],_,h=>.inl (by
   have:=(h l QAn).pow
   unfold Ala at this
   simp;omega)
 | l::m::r,hc,h=>.inl (by
   unfold Te at hc
   obtain ⟨⟨n,hn,hs⟩,hc2⟩:=hc
   have ih:=Eva hc2 fun x hx=>h x (List.mem_cons_of_mem _ hx)
   have h2:=(Ija (h l QAn) hn hs).2
   rcases ih with ih|ih
   · rw [List.flatMap_cons,List.length_append]
     simp only [List.headD_cons,id] at ih ⊢
     omega
   · cases ih)
theorem legs_le (b:FBr)(h:BrOk b):((Gy b).length:Int)≤b.t.legs * ((b.rs.flatMap id).length:Int):=by
 have key:∀ ds:List Eb,(∀ d∈ds,(d.ls.length:Int)≤b.t.legs)→((ds.flatMap fun d=>d.ls).length:Int)≤b.t.legs * (ds.length:Int):=by
  intro ds
  induction ds with
  | nil=>intro _;simp
  | cons d r ih =>
    intro hd
    have h1:=hd d QAn
    have h2:=ih fun x hx=>hd x QFn
    rw [List.flatMap_cons,List.length_append,List.length_cons]
    have:b.t.legs * ((r.length+1:Nat):Int)=b.t.legs * (r.length:Int)+b.t.legs:=by rw [show ((r.length+1:Nat):Int)=(r.length:Int)+1 by omega,Int.mul_add,Int.mul_one]
    omega
 have e:Gy b=(b.rs.flatMap id).flatMap fun d=>d.ls:=by
  unfold Gy
  rw [List.flatMap_assoc];rfl
 rw [e]
 refine key _ fun d hd => ?_
 obtain ⟨l,hl,hd2⟩:=List.mem_flatMap.1 hd
 exact ((h.rounds l hl d hd2).1.ok0).2.2.2.2
theorem legs_lt {b:FBr}(h:BrOk b):(Gy b).length+2≤2 * (Hf (b.rs.headD [])).length:=by
 have h1:=legs_le b h
 have h2:=Eva h.chain h.rnd
 have h3:=h.tie
 rw [Lva]
 rcases h2 with h2|h2
 · rcases h3 with e|e
   · rw [e] at h1;omega
   · rw [e] at h1;omega
 · exact absurd h2 h.some
end Go.Hw
namespace Go.Hw
open Go Go.Lib
end Go.Hw
namespace Go.Hw
open Go Go.Lib
def Cup8 (b:FBr):Prop:=∀ y∈Gy b,y.g.s=0∧y.g.c=8
structure Played (b y:FBr) (x:Ml):Prop where
 ok:BrOk y
 t:y.t=b.t
 legs:(Gy y).length=(Gy b).length+1
 first:Hf (y.rs.headD [])=Hf (b.rs.headD [])
 grow:b.rs.length≤y.rs.length∧y.rs.length≤b.rs.length+1
 same:∀ i,i+1<b.rs.length→y.rs.getD i []=b.rs.getD i []
 mem:∀ z∈Gy y,z=x∨z∈Gy b
end Go.Hw
namespace Go.Hw
end Go.Hw
namespace Go.Hw
end Go.Hw
namespace Go.Hw
structure PlayI (cs:List Int) (t:Px) (k:Nat) (b:FBr):Prop where
 ok:BrOk b
 t:b.t=t
 cup:Cup8 b
 first:Hf (b.rs.headD [])=cs
 legs:(Gy b).length=k
theorem PlayI.le {cs:List Int}{t:Px}{k:Nat}{b:FBr}(h:PlayI cs t k b):k+2≤2 * cs.length:=by
 have:=legs_lt h.ok
 rw [h.first,h.legs] at this
 exact this
end Go.Hw
namespace Go.Hw
open Classical in
noncomputable def ordC (o:List Int) (cs:List Int):List Int:=if o.Perm cs then o else cs
structure ViewI (cs:List Int) (t:Px) (l:List Ml) (k:Nat) (b:FBr):Prop where
 ok:BrOk b
 t:b.t=t
 first:Hf (b.rs.headD [])=cs
 legs:(Gy b).length=k
 mem:∀ y∈Gy b,y∈l
theorem ViewI.le {cs:List Int}{t:Px}{l:List Ml}{k:Nat}{b:FBr}(h:ViewI cs t l k b):k+2≤2 * cs.length:=by
 have:=legs_lt h.ok
 rw [h.first,h.legs] at this
 exact this
end Go.Hw
namespace Go.Hw
structure FSides where
 f:Int
 s:Int
 af:Int
 as':Int
 pf:Int
 ps:Int
deriving DecidableEq
end Go.Hw
namespace Go.Hw
def ResBd (r:Ml):Prop:=Dh r.g∧Bel r.hg 100∧Bel r.ag 100∧Bel r.hp 100∧Bel r.ap 100∧Bel r.hc 121∧Bel r.ac 121∧Bel r.day 1048577
instance (r:Ml):Decidable (ResBd r):=by unfold ResBd;infer_instance
end Go.Hw
namespace Go.Hw
end Go.Hw
namespace Go.Hw
end Go.Hw
namespace Go.Hw
end Go.Hw
namespace Go.Hw
end Go.Hw

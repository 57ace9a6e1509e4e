import Derived.Test.YtbmffdagfjepgaaGreatDoorFD
set_option linter.all false
namespace Go.Hw
open Go Go.Lib
def Pq {m:Int}(h:0<m):AY 0 m:=⟨Int.le_refl _,h⟩
structure BC where
 g:AL
 hg:Int
 ag:Int
 hp:Int
 ap:Int
 hc:Int
 ac:Int
 day:Int
 forf:Bool
 both:Bool
deriving DecidableEq,Inhabited
abbrev CX:=List BC
def AV:BC:=⟨Ga,0,0,0,0,0,0,0,false,false⟩
def UD (n:Int) (c:Jb):Int:=if c.red then n+3 else n+1
def FJ (l:Fz):Int:=l.foldl UD 0
def ZV (l:Fz)(c:Jb):FJ (l++[c])=UD (FJ l) c:=by unfold FJ;rw[GL];rfl
def VV (l:Fz):0≤FJ l∧FJ l≤3*(l.length:Int):=by refine Ny (P:=λl=>0≤FJ l∧FJ l≤3*(l.length:Int)) ⟨by simp[FJ],by simp[FJ]⟩ (λl x a=>?_) l;rw[ZV,Bt,IR];unfold UD;split<;>omega
def JA (g:AL) (day:Int) (a b:Bool):BC:=
 {AV with g:=g,day:=day,forf:=true,both:=a&&b,hg:=if(a&&b)=true then 0 else if a=true then 0 else 3,ag:=if(a&&b)=true then 0 else if a=true then 3 else 0}
def SG (g:AL) (r:Cu) (day:Int):Option BC:=
 if r.kind=1 then some (JA g day (decide (r.club=g.h)) (decide (r.club=g.a)))
 else if r.kind=3 then some {AV with g:=g,day:=day,hg:=r.hg,ag:=r.ag}
 else none
def Al8 (g:AL) (x:Dn):BC:={AV with g:=g,day:=x.day,hg:=x.sh.hg,ag:=x.sh.ag,hp:=x.sh.hp,ap:=x.sh.ap,hc:=FJ x.sh.hc,ac:=FJ x.sh.ac}
def Ve (g:AL) (x:Dn) (o:AC×AC):BC:=
 if o.1=[]∧o.2=[]then Al8 g x else JA g x.day (decide (o.1≠[])) (decide (o.2≠[]))
noncomputable def Mf (L:Ax) (g:AL):Option BC:=if(CJ L g).kind=2 then some (Ve g (CJ L g) (Hv L g))else none
noncomputable def FA (L:Ax) (g:AL):Option BC:=
 if DL g then(if(Fx (BR L) g).2.2=true then SG g (Fx (BR L) g).1 (Fx (BR L) g).2.1 else Mf L g)else none
def DS (r:BC):Prop:=
 DL r.g∧AY r.hg 100∧AY r.ag 100∧AY r.hp 100∧AY r.ap 100∧AY r.hc 121∧AY r.ac 121∧AY r.day 1048577∧
 (r.g.c<8→r.hp+r.ap=0)∧
 (if r.forf=true then(if r.both=true then r.hg=0∧r.ag=0 else(r.hg=0∧r.ag=3)∨(r.hg=3∧r.ag=0))∧r.hp+r.ap+r.hc+r.ac=0 else r.both=false)
instance (r:BC):Decidable (DS r):=by unfold DS;infer_instance
def Abk {g:AL}{d:Int}{h a:Bool}(hg:DL g)(b:AY d 1048577)(c:(h||a)=true):DS (JA g d h a):=by unfold DS JA;refine⟨hg,?_,?_,Pq BO,Pq BO,Pq BO,Pq BO,b,λ_=>rfl,?_⟩;{unfold AY;cases h<;>cases a<;>simp};{unfold AY;cases h<;>cases a<;>simp};{cases h<;>cases a<;>simp[AV]at c ⊢}
def Ajr {g:AL}{r:Cu}{d:Int}{x:BC}(hr:GY r)(hg:r.g=g)(b:AY d 1048577)(h:SG g r d=some x):DS x∧x.g=g:=by unfold SG at h;unfold GY at hr;split at h;{rename_i a;rw[if_pos a,hg]at hr;cases h;refine⟨Abk hr.1 b ?_,rfl⟩;rcases hr.2 with e|e;{simp[e]};{simp[e]}};{split at h;{rename_i h1 a;rw[if_neg h1,if_neg J,if_pos a,hg]at hr;cases h;exact⟨⟨hr.1,hr.2.1,hr.2.2,Pq BO,Pq BO,Pq BO,Pq BO,b,λ_=>rfl,rfl⟩,rfl⟩};{cases h}}
def gN {L:Ax}(c:D' L){g:AL}(h:(CJ L g).kind=2):GZ (CJ L g).sh∧(CJ L g).sh.g=g∧AY (CJ L g).day 1048577:=by obtain⟨f,m,ok,k,e,i,d⟩:=LO c h;(have hs:GZ (CJ L g).sh:=by{have:=ok.2.2.1;unfold EW at this;rw[if_neg J,if_neg J,if_pos k,e]at this;exact this});refine⟨hs,by rw[←e];exact i,d,?_⟩;unfold CJ at h ⊢;cases h0:HH L g 0 with|none=>(rw[h0]at h;cases h1:HH L g 1 with|none=>rw[h1]at h;exact absurd h BO|some b=>rw[h1]at h;exact absurd (show(1:Int)=2 from h) BO)|some a=>rw[h0]at h;cases h1:HH L g 1 with|none=>rw[h1]at h;exact absurd (show(1:Int)=2 from h) BO|some b=>rw[h1]at h;unfold NP at h ⊢;have j:=(ZS c h0).2.2.1.1;have l:=(ZS c h1).2.2.1.1;unfold AY at j l;by_cases hs:Jx a.sh b.sh;{simp only[hs,if_true];show max a.day b.day<1048577;omega};{simp only[hs,if_false]at h;exact absurd h BO}
def Ale {L:Ax}(d:D' L){g:AL}{x:BC}(h:Mf L g=some x):DS x∧x.g=g:=by unfold Mf at h;split at h;{rename_i f;cases h;obtain⟨ok,b,c⟩:=gN d f;generalize CJ L g=s at *;generalize Hv L g=o at *;have hg:DL g:=b▸ok.1;unfold Ve;split;{have b1:=VV s.sh.hc;have b2:=VV s.sh.ac;obtain⟨n,_,j,k,a,_,_,l,m,_⟩:=ok;have l1:=l.1;have l2:=m.1;(have hp:AY s.sh.hp 100∧AY s.sh.ap 100∧(g.c<8→s.sh.hp+s.sh.ap=0):=by{rw[b]at a;unfold AY at a ⊢;rcases a with w|w<;>refine⟨J,J,λ_=>by omega⟩});unfold AY at *;exact⟨⟨hg,j,k,hp.1,hp.2.1,⟨b1.1,by show FJ s.sh.hc<121;omega⟩,⟨b2.1,by show FJ s.sh.ac<121;omega⟩,c,hp.2.2,rfl⟩,rfl⟩};{rename_i i;refine⟨Abk hg c ?_,rfl⟩;by_cases h1:o.1=[];{have h2:o.2≠[]:=λe=>i ⟨h1,e⟩;simp[h2]};{simp[h1]}}};{cases h}
def Aul {C:Ax}{g:AL}{f:Al}:f∈KT C g↔f∈Ek C∧Hk g f.ru:=by unfold KT;rw[DQ,decide_eq_true_eq]
def XQ {C:Ax}(a:∀f∈C,BT f){g:AL}(h:(Fx C g).2.2=true):∃f∈C,BT f∧f.kind=4∧Gm f.ru∧Hk g f.ru∧FB (KT C g)=some f∧Fx C g=(f.ru,f.day,true):=by unfold Fx at h ⊢;cases hm:FB (KT C g)with|none=>(rw[hm]at h;cases h)|some f=>obtain⟨h1,h2⟩:=Aul.1 (Am1 hm);obtain⟨b,c,d,e⟩:=Apq a h1;exact⟨f,b,c,d,e,h2,rfl,rfl⟩
def Wy {L:Ax}(a:D' L):∀f∈BR L,BT f:=λf hf=>(yB a f hf).1
def Zn {L:Ax}(a:D' L){g:AL}{x:BC}(h:FA L g=some x):DS x∧x.g=g:=by unfold FA at h;split at h;{split at h;{rename_i hr;obtain⟨f,_,b,i,c,d,_,e⟩:=XQ (Wy a) hr;rw[e]at h;exact Ajr c.2.2.2.2.1 d.1 b.1 h};{exact Ale a h}};{cases h}
def DJ (f:Al):AL:=if f.kind=4 then f.ru.g else f.sh.g
def Ama {L:Ax}(a:D' L){g:AL}{x:BC}(h:FA L g=some x):DL g∧∃f∈L,BT f∧DJ f=g:=by unfold FA at h;split at h;{rename_i hg;refine⟨hg,?_⟩;split at h;{rename_i hr;obtain⟨f,i,j,l,o,n,_,e⟩:=XQ (Wy a) hr;refine⟨f,(((Ip L a).2 f).1 i).1,j,?_⟩;unfold DJ;rw[if_pos l,n.1]};{unfold Mf at h;split at h;{rename_i c;obtain⟨f,m,ok,k,e,b,d⟩:=LO a c;refine⟨f,m,ok,?_⟩;unfold DJ;rw[if_neg J,b]};{cases h}}};{cases h}
def DF (a b:BC):Prop:=a.day<b.day∨(a.day=b.day∧(a.g.h<b.g.h∨(a.g.h=b.g.h∧a.g.a<b.g.a)))
instance (a b:BC):Decidable (DF a b):=by unfold DF;infer_instance
def DF.irrefl (a:BC):¬DF a a:=by unfold DF;omega
def DF.trans (a b c:BC)(h:DF a b)(k:DF b c):DF a c:=by unfold DF at *;omega
def Sx (L:Ax) (s c:Int) (r:BC):Prop:=r.g.s=s∧r.g.c=c∧FA L r.g=some r
def Nt (L:Ax) (s c:Int) (rs:CX):Prop:=rs.Pairwise DF∧∀r,r∈rs↔Sx L s c r
def Nt.uniq {L:Ax}{s c:Int}{a b:CX}(h:Nt L s c a)(k:Nt L s c b):a=b:=
 XY DF.irrefl DF.trans h.1 k.1 λx=>(h.2 x).trans (k.2 x).symm
noncomputable def Ij (L:Ax) (s c:Int):CX:=UX (Nt L s c)
def dI {L:Ax}{s c:Int}{rs:CX}(h:Nt L s c rs):rs=Ij L s c:=h.uniq (bI h)
def Nt.here {L:Ax}{s c:Int}{rs:CX}(h:Nt L s c rs):Nt L s c (Ij L s c):=dI h▸h
def DF.tri {L:Ax}{s c:Int}{x y:BC}(hx:Sx L s c x)(hy:Sx L s c y):DF x y∨x=y∨DF y x:=by by_cases h1:DF x y;{exact .inl h1};by_cases h2:DF y x;{exact .inr (.inr h2)};refine .inr (.inl ?_);(have e:x.g=y.g:=by{unfold DF at h1 h2;exact AL.ext4 (by rw[hx.1,hy.1]) (by rw[hx.2.1,hy.2.1]) J J});have:=hx.2.2.symm.trans ((congrArg (FA L) e).trans hy.2.2);exact Od this
def Oz (s c:Int) (o:CY) (f:Al):CY:=if(DJ f).s=s∧(DJ f).c=c∧DJ f∉o then o++[DJ f]else o
def Fh (L:Ax) (s c:Int):CY:=L.foldl (Oz s c) []
def WB (L:Ax)(f:Al)(s c:Int):Fh (L++[f]) s c=Oz s c (Fh L s c) f:=by unfold Fh;rw[GL];rfl
def aA (L:Ax)(s c:Int):(Fh L s c).Nodup∧∀g,g∈Fh L s c↔g.s=s∧g.c=c∧∃f∈L,DJ f=g:=by refine Ny (P:=λL=>(Fh L s c).Nodup∧∀g,g∈Fh L s c↔g.s=s∧g.c=c∧∃f∈L,DJ f=g) ⟨by simp[Fh],by simp[Fh]⟩ (λL f j=>?_) L;obtain⟨h1,h2⟩:=j;rw[WB];generalize Fh L s c=o at *;unfold Oz;split;{rename_i hc;refine⟨Fm.2 ⟨h1,An,λa i b h e=>?_⟩,λg=>?_⟩;{rw[Bk]at h;subst h;subst e;exact hc.2.2 i};{rw[AO,Bk,h2];constructor;{rintro(⟨a,b,d,hf,e⟩|rfl);{exact⟨a,b,d,by simp[hf],e⟩};{exact⟨hc.1,hc.2.1,f,An,rfl⟩}};{rintro⟨a,b,d,hf,e⟩;rw[AO,Bk]at hf;rcases hf with hf|rfl;{exact .inl ⟨a,b,d,hf,e⟩};{exact .inr e.symm}}}};{rename_i hc;refine⟨h1,λg=>?_⟩;rw[h2];constructor;{rintro⟨a,b,d,hf,e⟩;exact⟨a,b,d,by simp[hf],e⟩};{rintro⟨a,b,d,hf,e⟩;rw[AO,Bk]at hf;rcases hf with hf|rfl;{exact⟨a,b,d,hf,e⟩};{have:DJ d∈o:=JD λw=>hc ⟨by rw[e];exact a,by rw[e];exact b,w⟩;rw[e]at this;exact(h2 g).1 this}}}
def Aan (L:Ax)(s c:Int):(Fh L s c).length≤L.length:=by refine Ny (P:=λL=>(Fh L s c).length≤L.length) (by simp[Fh]) (λL f a=>?_) L;rw[WB,Bt,IR];unfold Oz;split;{rw[Bt,IR];omega};{omega}
noncomputable def Hn (L:Ax) (gs:CY):CX:=gs.filterMap (FA L)
def Aaf (L:Ax)(gs:CY)(g:AL):Hn L (gs++[g])=match FA L g with|none=>Hn L gs|some r=>Hn L gs++[r]:=by unfold Hn;rw[Ay3];cases h:FA L g with|none=>simp[h]|some r=>simp[h]
def wM (L:Ax)(gs:CY):(Hn L gs).length≤gs.length:=Ayz _ _
def Wd {L:Ax}(b:D' L){s c:Int}{gs:CY}(hs:∀g∈gs,g.s=s∧g.c=c)(hm:∀f∈L,BT f→DL (DJ f)→(DJ f).s=s→(DJ f).c=c→DJ f∈gs)(r:BC):r∈Hn L gs↔Sx L s c r:=by unfold Hn;rw[xD];constructor;{rintro⟨g,hg,e⟩;have h1:=(Zn b e).2;have h2:=hs g hg;subst h1;exact⟨h2.1,h2.2,e⟩};{rintro⟨h1,h2,e⟩;obtain⟨hg,f,hf,ok,a⟩:=Ama b e;exact⟨r.g,by rw[←a];exact hm f hf ok (by rw[a];exact hg) (by rw[a];exact h1) (by rw[a];exact h2),e⟩}
def aD {L:Ax}(c:D' L){gs:CY}(hn:gs.Nodup):(Hn L gs).Nodup:=by unfold Hn;refine List.pairwise_filterMap.2 (hn.imp λ{a b} d x hx y hy e=>d ?_);subst e;rw[←(Zn c hx).2,←(Zn c hy).2]
def aF {L:Ax}{s c:Int}{xs ys:CX}(hx:∀x,x∈xs↔Sx L s c x)(hn:xs.Nodup)(hp:ys.Perm xs)(hs:ys.Pairwise λx y=>¬DF y x):Nt L s c ys:=by have hm:∀x,x∈ys↔Sx L s c x:=λx=>hp.mem_iff.trans (hx x);refine⟨?_,hm⟩;have h2:ys.Nodup:=hp.nodup_iff.2 hn;refine(eH.2 ⟨hs,h2⟩).imp_of_mem λ{a b} d e ⟨f,g⟩=>?_;rcases DF.tri ((hm a).1 d) ((hm b).1 e)with h|h|h;{exact h};{exact absurd h g};{exact absurd h f}
def mI {L:Ax}(d:D' L)(s c:Int):Nt L s c (Ij L s c):=by have hm:=aA L s c;have h1:=Wd d (s:=s) (c:=c) (gs:=Fh L s c) (λg hg=>⟨((hm.2 g).1 hg).1,((hm.2 g).1 hg).2.1⟩) (λf hf _ _ a b=>(hm.2 _).2 ⟨a,b,f,hf,rfl⟩);have hn:=aD d hm.1;refine(aF h1 hn (Yh _ (λa b=>decide (¬DF b a))) ?_).here;(refine(eG (le:=λa b=>decide (¬DF b a)) (λa b c h1 h2=>?_) (λa b=>?_) _).imp λ{a b} q=>by simpa using q);{simp only[decide_eq_true_eq]at *;unfold DF at *;omega};{simp only[Q',decide_eq_true_eq];unfold DF;omega}
def uM {L:Ax}(d:D' L)(s c:Int):(Ij L s c).length≤L.length:=by have hm:=aA L s c;have h1:=Wd d (s:=s) (c:=c) (gs:=Fh L s c) (λg hg=>⟨((hm.2 g).1 hg).1,((hm.2 g).1 hg).2.1⟩) (λf hf _ _ a b=>(hm.2 _).2 ⟨a,b,f,hf,rfl⟩);have h:=mI d s c;have:=TI (a:=Ij L s c) (b:=Hn L (Fh L s c)) (h.1.imp λ{a b} i e=>by subst e;exact DF.irrefl _ i) λx hx=>(h1 x).2 ((h.2 x).1 hx);have:=wM L (Fh L s c);have:=Aan L s c;omega
def Qt (s c:Int) (f:Al):Prop:=f.kind=1∧f.eS=s∧f.eC=c∧BT f
open Classical in
noncomputable def MK (L:Ax) (s c:Int):Ax:=L.filter λf=>decide (Qt s c f)
noncomputable def JN (L:Ax) (s c:Int):IF:=(MK L s c).foldl JL none
open Classical in
theorem VY {L:Ax}{s c:Int}{f:Al}:f∈MK L s c↔f∈L∧Qt s c f:=by unfold MK;rw[DQ,decide_eq_true_eq]
def Acx {L:Ax}(a:D' L)(s c:Int):LV (MK L s c) (JN L s c):=
 Ys (MK L s c) [] none (λf hf=>absurd hf An) (λf hf=>⟨(VY.1 hf).2.2.2.2,a f (VY.1 hf).1⟩) (.inl ⟨rfl,rfl⟩)
def yL {L:Ax}(a:D' L){s c:Int}{f:Al}(h:JN L s c=some f):f∈L∧Qt s c f:=by rcases Acx a s c with⟨h1,_⟩|⟨m,h1,h2,_⟩;{rw[h1]at h;cases h};{rw[h1]at h;cases h;exact VY.1 h2}
def Zs (L:Ax) (s c h a:Int):Prop:=h≠a∧FA L ⟨s,c,h,a⟩=none
open Classical in
noncomputable def Pz (L:Ax) (s c h:Int) (b:AC):CY:=b.flatMap λa=>if Zs L s c h a then[⟨s,c,h,a⟩]else[]
noncomputable def QD (L:Ax) (s c:Int) (hs a:AC):CY:=hs.flatMap λh=>Pz L s c h a
structure AT where
 legs:Int
 away:Bool
deriving DecidableEq,Inhabited
structure Bv where
 a:Int
 b:Int
 ls:CX
deriving DecidableEq,Inhabited
abbrev Hs:=List (List Bv)
abbrev CM:=List Bv
structure CQ where
 t:AT
 rs:Hs
deriving DecidableEq,Inhabited
def Rh:AT:=⟨0,false⟩
def Gf:CQ:=⟨Rh,[]⟩
def EN (t:AT):Prop:=t.legs=1∨t.legs=2
instance (t:AT):Decidable (EN t):=by unfold EN;infer_instance
def MI (d:Bv) (i:Nat):Int:=if i=0 then d.a else d.b
def MH (d:Bv) (i:Nat):Int:=if i=0 then d.b else d.a
def DM (x y:BC):Prop:=x.g.s=y.g.s∧x.g.c=y.g.c
instance (x y:BC):Decidable (DM x y):=by unfold DM;infer_instance
def DY (d:Bv) (t:AT):Prop:=t.legs≤d.ls.length
instance (d:Bv) (t:AT):Decidable (DY d t):=by unfold DY;infer_instance
structure Lp where
 goals:Int
 away:Int
 pens:Int
deriving DecidableEq
def Kj (l:Lp) (i:Nat) (x:BC):Lp:=if i=0 then⟨l.goals+(x.hg-x.ag),l.away-x.ag,x.hp-x.ap⟩else⟨l.goals+(x.ag-x.hg),l.away+x.ag,x.ap-x.hp⟩
def Jo:Nat→Lp→CX→Lp
 |_,l,[]=>l
 |i,l,x::r=>Jo (i+1) (Kj l i x) r
def HY (d:Bv):Lp:=Jo 0 ⟨0,0,0⟩ d.ls
def Jp (d:Bv) (t:AT):Int:=
 if(HY d).goals≠0 then(HY d).goals
 else if t.legs=2∧t.away=true∧(HY d).away≠0 then(HY d).away
 else(HY d).pens
def Dd (d:Bv) (t:AT):Option Int:=if DY d t then(if 0<Jp d t then some d.a else if Jp d t<0 then some d.b else none)else none
def MX (d:Bv) (t:AT):Prop:=EN t∧AY d.a 192∧AY d.b 192∧d.a≠d.b∧(d.ls.length:Int)≤t.legs
instance (d:Bv) (t:AT):Decidable (MX d t):=by unfold MX;infer_instance
def KL (d:Bv) (i:Nat) (x:BC):Prop:=x.g.h=MI d i∧x.g.a=MH d i∧8≤x.g.c∧DM x (d.ls.headD AV)
instance (d:Bv) (i:Nat) (x:BC):Decidable (KL d i x):=by unfold KL;infer_instance
def eV (d:Bv):Prop:=∀i,i<d.ls.length→KL d i (d.ls.getD i AV)
noncomputable def Ie (d:Bv) (t:AT):Int:=open Classical in
 if MX d t then(if∀x∈d.ls,DS x then(if eV d then 0 else 210)else 1)else 210
structure KR (d:Bv) (t:AT):Prop where
 ok0:MX d t
 res:∀x∈d.ls,DS x
 legs:eV d
def NF {d:Bv}{t:AT}:Ie d t=0↔KR d t:=by unfold Ie;by_cases h1:MX d t;{by_cases h2:∀x∈d.ls,DS x;{by_cases h3:eV d;{rw[if_pos h1,if_pos h2,if_pos h3];exact⟨λ_=>⟨h1,h2,h3⟩,λ_=>rfl⟩};{rw[if_pos h1,if_pos h2,if_neg h3];exact⟨λh=>absurd h BO,λh=>absurd h.legs h3⟩}};{rw[if_pos h1,if_neg h2];exact⟨λh=>absurd h BO,λh=>absurd h.res h2⟩}};{rw[if_neg h1];exact⟨λh=>absurd h BO,λh=>absurd h.ok0 h1⟩}
noncomputable def Mg (d:Bv) (t:AT):Int×Int:=if Ie d t≠0 then(0,Ie d t)else match Dd d t with
 |none=>(0,210)
 |some c=>(c,0)
def Df:AC→CM
 |a::b::r=>⟨a,b,[]⟩::Df r
 |_=>[]
def Fv (n:Nat):Prop:=n=2∨n=4∨n=8∨n=16∨n=32∨n=64∨n=128
instance (n:Nat):Decidable (Fv n):=by unfold Fv;infer_instance
def Er (cs:AC):Prop:=(∀c∈cs,AY c 192)∧cs.Nodup
instance (cs:AC):Decidable (Er cs):=by unfold Er;infer_instance
def DA (cs:AC) (t:AT):CQ×Int:=if EN t then(if Fv cs.length∧Er cs then(⟨t,[Df cs]⟩,0)else(Gf,190))else(Gf,210)
def Fp (l:CM) (t:AT):Option (List Int):=match l with
 |[]=>some []
 |d::r=>match Dd d t,Fp r t with
   |some c,some cs=>some (c::cs)
   |_,_=>none
def Ej (l:CM) (t:AT):Option (List Bv):=match Fp l t with
 |some cs=>if 2≤cs.length then some (Df cs)else none
 |none=>none
def Fo (x y:CM):Prop:=x.map (λd=>(d.a,d.b))=y.map λd=>(d.a,d.b)
instance (x y:CM):Decidable (Fo x y):=by unfold Fo;infer_instance
def KC (l:CM) (t:AT):Prop:=∀d∈l,KR d t∧(DY d t→(d.ls.length:Int)=t.legs→Dd d t≠none)
def I' (t:AT):Hs→Prop
 |[]=>True
 |[l]=>Ej l t=none
 |l::m::r=>(∃n,Ej l t=some n∧Fo n m)∧I' t (m::r)
def EP (b:CQ):CX:=b.rs.flatMap λl=>l.flatMap λd=>d.ls
structure DW (b:CQ):Prop where
 tie:EN b.t
 some:b.rs≠[]
 clubs:∃l r,b.rs=l::r∧Fv (2*l.length)∧Er (l.flatMap fun d=>[d.a,d.b])
 rounds:∀l∈b.rs,KC l b.t
 chain:I' b.t b.rs
 cup:∀x∈EP b,∀y∈EP b,DM x y
def Fw (d:Bv) (t:AT) (x:BC):Prop:=¬DY d t∧x.g.h=MI d d.ls.length∧x.g.a=MH d d.ls.length
instance (d:Bv) (t:AT) (x:BC):Decidable (Fw d t x):=by unfold Fw;infer_instance
def Fc (l:CM) (t:AT) (x:BC):Option (List Bv×Bv):=match l with
 |[]=>none
 |d::r=>if Fw d t x then some (⟨d.a,d.b,d.ls++[x]⟩::r,⟨d.a,d.b,d.ls++[x]⟩)else match Fc r t x with
   |none=>none
   |some (q,e)=>some (d::q,e)
noncomputable def Dw (b:CQ) (x:BC):CQ×Int:=open Classical in
 if DW b then(if DS x then(match Fc (b.rs.getLastD []) b.t x with
  |none=>(Gf,210)
  |some (q,d)=>if 8≤x.g.c∧(∀y∈EP b,DM y x)∧¬(DY d b.t∧Dd d b.t=none)then
     (⟨b.t,b.rs.dropLast++(q::(match Ej q b.t with|none=>[]|some n=>[n]))⟩,0)else(Gf,210))else(Gf,1))else(Gf,210)
noncomputable def Kq (b:CQ):Int×Bool×Int:=open Classical in
 if DW b then(match b.rs.getLastD []with
  |[d]=>(match Dd d b.t with|none=>(0,false,0)|some c=>(c,true,0))
  |_=>(0,false,0))else(0,false,210)
def Ano {l:Lp}{i:Nat}{x:BC}(hx:DS x)(n:Int)(b : -n≤l.goals∧l.goals≤n∧ -n≤l.away∧l.away≤n∧ -99≤l.pens∧l.pens≤99) :
  -(n+99)≤(Kj l i x).goals∧(Kj l i x).goals≤n+99∧ -(n+99)≤(Kj l i x).away∧(Kj l i x).away≤n+99∧ -99≤(Kj l i x).pens∧(Kj l i x).pens≤99:=by
 obtain⟨_,h1,h2,h3,a,_⟩:=hx
 unfold AY at h1 h2 h3 a
 unfold Kj
 split<;>(dsimp only;omega)
def Aej {d:Bv}{t:AT}{c:Int}(h:Dd d t=some c):c=d.a∨c=d.b:=by unfold Dd at h;split at h;{split at h;{cases h;exact .inl rfl};{split at h;{cases h;exact .inr rfl};{cases h}}};{cases h}
theorem Acl {α:Type}:∀{a b:List α},a.Nodup→b.Nodup→(∀x,x∈a↔x∈b)→a.Perm b
 |[],b,_,_,h=>by cases b with|nil=>exact .nil|cons y r=>exact absurd ((h y).2 DX) An
 |x::a,b,c,e,h=>by obtain⟨p,q,rfl⟩:=eQ ((h x).1 DX);rw[Kv]at c;have d:(x::(p++q)).Nodup:=(xA (a:=x) (l₁:=p) (l₂:=q)).nodup_iff.1 e;rw[Kv]at d;refine(Uz x (Acl c.2 d.2 λy=>?_)).trans List.perm_middle.symm;have:=h y;rw[Bx,AO,Bx]at this;rw[AO];constructor;{intro hy;rcases this.1 (.inr hy)with w|w|w;{exact .inl w};{subst w;exact absurd hy c.1};{exact .inr w}};{intro hy;have f:y∈p∨y=x∨y∈q:=hy.elim .inl λw=>.inr (.inr w);rcases this.2 f with w|w;{subst w;exact absurd (AO.2 hy) d.1};{exact w}}
def Jj.perm {L:Ax}{s c:Int}{ds xs:Ff}(h:Jj L s c ds)(hn:xs.Nodup)(hx:∀x,x∈xs↔∃g:AL,g.s=s∧g.c=c∧CJ L g=x∧x.kind=2):xs.Perm ds:=
 Acl hn (h.1.imp λ{a b} d e=>by subst e;exact Ea.irrefl _ d) λx=>(hx x).trans (h.2 x).symm
def vJ {L:Ax}(a:D' L)(g:AL):(Hv L g).1.length≤40∧(Hv L g).2.length≤40:=by unfold Hv;split;{rename_i b;obtain⟨f,m,ok,k,e,c,d⟩:=LO a b;have:=ok.2.2.1;unfold EW at this;rw[if_neg J,if_neg J,if_pos k,e]at this;have h1:=this.2.2.2.2.2.1.1;have h2:=this.2.2.2.2.2.2.1.1;exact⟨Gj (Tr _ _ _ _ _ _) h1,Gj (Tr _ _ _ _ _ _) h2⟩};{exact⟨GT _,GT _⟩}
def Em (l:CM):AC:=l.flatMap λd=>[d.a,d.b]
def Ur (d:Bv)(l:CM):Em (d::l)=d.a::d.b::Em l:=rfl
def Ug (l:CM):(Em l).length=2*l.length:=by induction l with|nil=>rfl|cons d r a=>rw[Ur,Do,Do,a,Do];omega
def aW {x y:CM}(h:Fo x y):Em x=Em y:=by unfold Fo at h;induction x generalizing y with|nil=>(cases y with|nil=>rfl|cons d r=>cases h)|cons e q a=>cases y with|nil=>(cases h)|cons d r=>rw[CW,CW,Kb,Mb]at h;rw[Ur,Ur,h.1.1,h.1.2,a h.2]
def Wr {x y:CM}(h:Fo x y):x.length=y.length:=by have:=congrArg List.length h;simpa using this
theorem TJ:∀(cs:AC),(Df cs).length=cs.length / 2
 |[]=>rfl
 |[_]=>by simp[Df]
 |a::b::r=>by unfold Df;rw[Do,TJ r,Do,Do];omega
theorem bD:∀(cs:AC),cs.length%2=0→Em (Df cs)=cs
 |[],_=>rfl
 |[_],h=>absurd h An
 |a::b::r,h=>by unfold Df;rw[Ur,bD r (by simp only[Do]at h;omega)]
theorem Qo:∀(cs:AC),∀d∈Df cs,d.ls=[]
 |[],_,h=>by cases h
 |[_],_,h=>by cases h
 |a::b::r,d,h=>by unfold Df at h;rcases Bx.1 h with e|e;{rw[e]};{exact Qo r d e}
theorem QK {t:AT}:∀{l:CM} {cs:AC},Fp l t=some cs→cs.length=l.length
 |[],cs,h=>by cases h;rfl
 |d::r,cs,h=>by unfold Fp at h;cases a:Dd d t with|none=>(rw[a]at h;cases h)|some c=>cases hr:Fp r t with|none=>(rw[a,hr]at h;cases h)|some q=>rw[a,hr]at h;cases h;rw[Do,Do,QK hr]
def Zp (d:Bv) (t:AT):Int:=match Dd d t with|some c=>d.a+d.b-c|none=>0
theorem aK {t:AT}:∀{l:CM} {cs:AC},Fp l t=some cs→(Em l).Perm (cs++l.map λd=>Zp d t)
 |[],cs,h=>by cases h;exact .nil
 |d::r,cs,h=>by
  unfold Fp at h;cases a:Dd d t with
  |none=>rw[a]at h;cases h
  |some c=>
   cases hr:Fp r t with
   |none=>rw[a,hr]at h;cases h
   |some q=>
    rw[a,hr]at h;cases h;have f:=aK hr;rw[Ur,CW,FW];(have b:Zp d t=d.a+d.b-c:=by unfold Zp;rw[a]);rw[b]
    have h2:(d.a::d.b::Em r).Perm (c::(d.a+d.b-c)::Em r):=by
     rcases Aej a with e|e;{rw[e,show d.a+d.b-d.a=d.b by omega]};{rw[e,show d.a+d.b-d.b=d.a by omega];exact List.Perm.swap _ _ _}
    refine h2.trans (Uz c ?_);exact(Uz _ f).trans List.perm_middle.symm
def Aei {t:AT}{l:CM}{cs:AC}(h:Fp l t=some cs):∀c∈cs,c∈Em l:=λc hc=>(aK h).mem_iff.2 (xE _ hc)
def mW {t:AT}{l:CM}{cs:AC}(h:Fp l t=some cs)(hc:Er (Em l)):Er cs:=by refine⟨λc hm=>hc.1 c (Aei h c hm),?_⟩;have:=(aK h).nodup_iff.1 hc.2;rw[Fm]at this;exact this.1
def So {t:AT}{l n:CM}(h:Ej l t=some n):∃cs,Fp l t=some cs∧2≤cs.length∧n=Df cs:=by unfold Ej at h;cases hw:Fp l t with|none=>(rw[hw]at h;cases h)|some cs=>rw[hw]at h;dsimp only at h;split at h;{cases h;exact⟨cs,rfl,Cn,rfl⟩};{cases h}
def NK (n:Nat):Prop:=n=1∨n=2∨n=4∨n=8∨n=16∨n=32∨n=64
def Alb {n:Nat}(h:Fv (2*n)):NK n:=by unfold Fv at h;unfold NK;omega
structure Qw (l:CM):Prop where
 clubs:Er (Em l)
 pow:NK l.length
def gJ {t:AT}{l n m:CM}(h:Qw l)(hn:Ej l t=some n)(hs:Fo n m):Qw m∧2*m.length=l.length:=by obtain⟨cs,hw,h2,rfl⟩:=So hn;have b:=QK hw;have hp:=h.pow;have hm:=Wr hs;rw[TJ]at hm;unfold NK at hp;(have a:cs.length%2=0:=by omega);(have hc:Em m=cs:=by rw[←aW hs,bD cs a]);refine⟨⟨by rw[hc];exact mW hw h.clubs,by unfold NK;omega⟩,J⟩
theorem yD {t:AT}:∀{rs:Hs},I' t rs→(∀l r,rs=l::r→Qw l)→∀l∈rs,Qw l
 |[],_,_,_,d=>by cases d
 |[l],_,h0,m,hm=>by rw[Bk]at hm;rw[hm];exact h0 l [] rfl
 |l::m::r,hc,h0,x,hx=>by
  unfold I' at hc;obtain⟨⟨n,hn,hs⟩,c⟩:=hc;rcases Bx.1 hx with e|e;{rw[e];exact h0 l _ rfl}
  ·exact yD c (λa b e2=>by
    rw[Kb]at e2;rw[←e2.1]
    exact(gJ (h0 l _ rfl) hn hs).1) x e
def DW.rnd {b:CQ}(h:DW b):∀l∈b.rs,Qw l:=by obtain⟨l,r,e,h1,h2⟩:=h.clubs;refine yD h.chain λl' c a=>?_;rw[e,Kb]at a;rw[←a.1];exact⟨h2,Alb h1⟩
theorem yE {t:AT}:∀{rs:Hs},I' t rs→(∀l∈rs,Qw l)→(rs.flatMap id).length+1≤2*(rs.headD []).length∨rs=[]
 |[],_,_=>.inr rfl
 |[l],_,h=>.inl (by
  have:=(h l An).pow;unfold NK at this
  simp;omega)
 |l::m::r,hc,h=>.inl (by
  unfold I' at hc;obtain⟨⟨n,hn,hs⟩,b⟩:=hc;have a:=yE b λx hx=>h x (Ey _ hx);have h2:=(gJ (h l An) hn hs).2;rcases a with a|a;{rw[Eb,Bt];simp only[List.headD_cons,id]at a ⊢;omega}
  ·cases a)
def Ani (b:CQ)(h:DW b):((EP b).length:Int)≤b.t.legs*((b.rs.flatMap id).length:Int):=by(have key:∀ds:CM,(∀d∈ds,(d.ls.length:Int)≤b.t.legs)→((ds.flatMap λd=>d.ls).length:Int)≤b.t.legs*(ds.length:Int):=by{intro ds;induction ds with|nil=>intro _;simp|cons d r f=>intro a;have h1:=a d An;have h2:=f λx hx=>a x L';rw[Eb,Bt,Do];(have:b.t.legs*((r.length+1:Nat):Int)=b.t.legs*(r.length:Int)+b.t.legs:=by rw[show((r.length+1:Nat):Int)=(r.length:Int)+1 by omega,Int.mul_add,Int.mul_one]);omega});(have e:EP b=(b.rs.flatMap id).flatMap λd=>d.ls:=by{unfold EP;rw[List.flatMap_assoc];rfl});rw[e];refine key _ λd a=>?_;obtain⟨l,c,hd2⟩:=GJ.1 a;exact((h.rounds l c d hd2).1.ok0).2.2.2.2
def kF {b:CQ}(h:DW b):(EP b).length+2≤2*(Em (b.rs.headD [])).length:=by have h1:=Ani b h;have h2:=yE h.chain h.rnd;have h3:=h.tie;rw[Ug];rcases h2 with h2|h2;{rcases h3 with e|e;{rw[e]at h1;omega};{rw[e]at h1;omega}};{exact absurd h2 h.some}
theorem aY {t:AT}{x:BC}:∀{l m:CM} {e:Bv},Fc l t x=some (m,e)→∃p d q,l=p++d::q∧m=p++e::q∧e=⟨d.a,d.b,d.ls++[x]⟩∧Fw d t x
 |[],_,_,h=>by unfold Fc at h;cases h
 |d::r,m,e,h=>by unfold Fc at h;split at h;{rename_i hw;cases h;exact⟨[],d,r,rfl,rfl,rfl,hw⟩};{cases hr:Fc r t x with|none=>(rw[hr]at h;cases h)|some w=>obtain⟨b,e2⟩:=w;rw[hr]at h;cases h;obtain⟨p,d2,q,h1,h2,h3,a⟩:=aY hr;exact⟨d::p,d2,q,by rw[h1];rfl,by rw[h2];rfl,h3,a⟩}
def Aa2 {p q:CM}{d:Bv}{x:BC}:Fo (p++⟨d.a,d.b,d.ls++[x]⟩::q) (p++d::q):=by unfold Fo;rw[DI,DI,CW,CW]
def Ara {d:Bv}{t:AT}{x:BC}(h:KR d t)(hw:Fw d t x)(hx:DS x)(hc:8≤x.g.c)(f:∀y∈d.ls,DM y x):KR ⟨d.a,d.b,d.ls++[x]⟩ t:=by obtain⟨⟨j,k,l,m,v⟩,h2,h3⟩:=h;obtain⟨s,w2,u⟩:=hw;unfold DY at s;refine⟨⟨j,k,l,m,by show(((d.ls++[x]).length:Nat):Int)≤t.legs;rw[Bt,IR];omega⟩,λy hy=>?_,λi hi=>?_⟩;{rcases AO.1 hy with w|w;{exact h2 y w};{rw[Bk]at w;rw[w];exact hx}};{show KL ⟨d.a,d.b,d.ls++[x]⟩ i ((d.ls++[x]).getD i AV);have hi:i<(d.ls++[x]).length:=hi;rw[Bt,IR]at hi;by_cases b:i<d.ls.length;{have e:=h3 i b;(have e1:(d.ls++[x]).getD i AV=d.ls.getD i AV:=by{rw[Dr,Dr,GK b]});(have e2:(d.ls++[x]).headD AV=d.ls.headD AV:=by{cases c:d.ls with|nil=>rw[c]at b;exact absurd b An|cons a r=>rfl});rw[e1];obtain⟨n,o,p,q⟩:=e;exact⟨n,o,p,by rw[show(Bv.mk d.a d.b (d.ls++[x])).ls.headD AV=d.ls.headD AV from e2];exact q⟩};{(have g:i=d.ls.length:=by omega);subst g;(have e1:(d.ls++[x]).getD d.ls.length AV=x:=by simp[List.getD]);rw[e1];refine⟨w2,u,hc,?_⟩;show DM x ((d.ls++[x]).headD AV);cases c:d.ls with|nil=>exact⟨rfl,rfl⟩|cons a r=>have:=f a (by rw[c];simp);exact⟨this.1.symm,this.2.symm⟩}}
theorem zW:∀{cs:AC} {d:Bv},d∈Df cs→d.a∈cs∧d.b∈cs
 |[],_,h=>by cases h
 |[_],_,h=>by cases h
 |a::b::r,d,h=>by unfold Df at h;rcases Bx.1 h with e|e;{rw[e];exact⟨An,An⟩};{have:=zW e;exact⟨by simp[this.1],by simp[this.2]⟩}
theorem vL:∀{cs:AC} {d:Bv},cs.Nodup→d∈Df cs→d.a≠d.b
 |[],_,_,h=>by cases h
 |[_],_,_,h=>by cases h
 |a::b::r,d,hn,h=>by unfold Df at h;rw[Kv,Kv]at hn;rcases Bx.1 h with e|e;{rw[e];exactλw=>hn.1 (by show a∈b::r;rw[show a=b from w];simp)};{exact vL hn.2.2 e}
def zS {t:AT}(c:EN t){cs:AC}(hc:Er cs):KC (Df cs) t:=λd b=>by
 have hm:=zW b
 have a:=Qo cs d b
 have hn:=vL hc.2 b
 refine⟨⟨⟨c,hc.1 _ hm.1,hc.1 _ hm.2,hn,by rw[a];rcases c with e|e<;>(rw[e];decide)⟩,by rw[a];simp,λi hi=>absurd hi (by rw[a];simp)⟩,λhf _=>?_⟩
 unfold DY at hf
 rw[a]at hf
 rcases c with e|e
 · rw[e]at hf;exact absurd hf BO
 · rw[e]at hf;exact absurd hf BO
def vG {t:AT}(c:EN t){cs:AC}(h2:2≤cs.length):Ej (Df cs) t=none:=by match cs,h2 with|a::b::r,_=>(have hw:Fp (Df (a::b::r)) t=none:=by{unfold Df Fp;(have:Dd ⟨a,b,[]⟩ t=none:=by{unfold Dd;rw[if_neg];unfold DY;rcases c with e|e<;>(rw[e];simp)});rw[this]});unfold Ej;rw[hw]
theorem hC {t:AT}{q:CM}(n:Hs)(hn:(Ej q t=none∧n=[])∨∃m,Ej q t=some m∧n=[m]∧Ej m t=none):∀{rs:Hs} {l:CM},I' t (rs++[l])→Fo q l→I' t (rs++q::n)
 |[],l,_,hs=>by rw[FE];rcases hn with⟨h1,rfl⟩|⟨m,h1,rfl,h2⟩;{exact h1};{exact⟨⟨m,h1,rfl⟩,h2⟩}
 |[a],l,hc,hs=>by unfold I' at hc;obtain⟨⟨m,h1,h2⟩,_⟩:=hc;refine⟨⟨m,h1,h2.trans hs.symm⟩,?_⟩;exact hC n hn (rs:=[]) (l:=l) Cn hs
 |a::b::r,l,hc,hs=>by have c:I' t (a::b::(r++[l])):=hc;unfold I' at c;exact⟨c.1,hC n hn (rs:=b::r) (l:=l) c.2 hs⟩
def Amg {t:AT}{q m:CM}(a:EN t)(h:Ej q t=some m):Ej m t=none:=by obtain⟨cs,_,h2,rfl⟩:=So h;exact vG a h2
def Aqf {b:CQ}(c:DW b){x:BC}(hx:DS x){m:CM}{e:Bv}(s:Fc (b.rs.getLastD []) b.t x=some (m,e))(hc:8≤x.g.c)(h:∀y∈EP b,DM y x)(hw:¬(DY e b.t∧Dd e b.t=none)) :
  DW ⟨b.t,b.rs.dropLast++(m::(match Ej m b.t with|none=>[]|some n=>[n]))⟩∧(EP ⟨b.t,b.rs.dropLast++(m::(match Ej m b.t with|none=>[]|some n=>[n]))⟩).length=(EP b).length+1:=by
 have v:=c.some
 obtain⟨rs,l,ah⟩:∃rs l,b.rs=rs++[l]:=⟨b.rs.dropLast,b.rs.getLast v,(xR v).symm⟩
 obtain⟨t,av⟩:=b
 dsimp only at ah s hw v ⊢
 subst ah
 have ak:(rs++[l]).getLastD []=l:=by simp
 have aj:(rs++[l]).dropLast=rs:=by simp
 rw[ak]at s
 rw[aj]
 obtain⟨p,d,q,e1,e2,i,aq⟩:=aY s
 have ab:Fo m l:=by rw[e1,e2,i];exact Aa2
 have aa:=c.rounds l An
 have af:d∈l:=by rw[e1];simp
 have ae:∀y∈d.ls,y∈EP ⟨t,rs++[l]⟩:=λy hy=>GJ.2 ⟨l,An,GJ.2 ⟨d,af,hy⟩⟩
 have hde:KR e t:=by rw[i];exact Ara (aa d af).1 aq hx hc λy hy=>h y (ae y hy)
 have an:KC m t:=λy hy=>by
  rw[e2]at hy
  rcases AO.1 hy with w|w
  · exact aa y (by rw[e1];simp[w])
  · rcases Bx.1 w with w|w
    · rw[w];exact⟨hde,λhf _ hn=>hw ⟨hf,hn⟩⟩
    · exact aa y (by rw[e1];simp[w])
 have ad:Em m=Em l:=aW ab
 have ao:=c.rnd l An
 have al:(m.flatMap λd=>d.ls).length=(l.flatMap λd=>d.ls).length+1:=by
  rw[e1,e2,i,Ep,Ep,Eb,Eb]
  simp only[Bt,IR]
  omega
 obtain⟨n,hn⟩:∃n,n=(match Ej m t with|none=>[]|some n=>[n]):=⟨_,rfl⟩
 rw[←hn]
 have u:(Ej m t=none∧n=[])∨∃k,Ej m t=some k∧n=[k]∧Ej k t=none:=by
  cases g:Ej m t with
  |none=>rw[g]at hn;exact .inl ⟨rfl,hn⟩
  |some k=>rw[g]at hn;exact .inr ⟨k,rfl,hn,Amg c.tie g⟩
 have am:∀y∈n,KC y t:=λy hy=>by
  rcases u with⟨_,h1⟩|⟨k,h1,h2,_⟩
  · rw[h1]at hy;cases hy
  · rw[h2,Bk]at hy
    obtain⟨cs,ap,_,g⟩:=So h1
    rw[hy,g]
    exact zS c.tie (mW ap (by rw[ad];exact ao.clubs))
 have ag:n.flatMap (λl=>l.flatMap λd=>d.ls)=[]:=by
  rcases u with⟨_,h1⟩|⟨k,h1,h2,_⟩
  · rw[h1];rfl
  · obtain⟨cs,_,_,g⟩:=So h1
    rw[h2,g,Eb,Oj,DR,xL]
    exactλd ai=>Qo cs d ai
 refine⟨⟨c.tie,An,?_,λy hy=>?_,hC n u c.chain ab,?_⟩,?_⟩
 · obtain⟨f,r,h1,h2,h3⟩:=c.clubs
   dsimp only at h1 ⊢
   cases rs with
   |nil=>
     rw[FE,Kb]at h1
     refine⟨m,n,rfl,by rw[Wr ab,h1.1];exact h2,?_⟩
     have:=ad
     unfold Em at this
     rw[this,h1.1];exact h3
   |cons a au=>
     rw[FW,Kb]at h1
     refine⟨a,au++m::n,rfl,by rw[h1.1];exact h2,by rw[h1.1];exact h3⟩
 · rcases AO.1 hy with w|w
   · exact c.rounds y (by simp[w])
   · rcases Bx.1 w with w|w
     · rw[w];exact an
     · exact am y w
 · have ac:∀y∈EP ⟨t,rs++m::n⟩,DM y x:=λy hy=>by
    unfold EP at hy
    dsimp only at hy
    rw[Ep,Eb,ag,DR,AO]at hy
    rcases hy with w|w
    · refine h y ?_
      unfold EP
      dsimp only
      rw[Ep,AO];exact .inl w
    · obtain⟨d2,hd2,j⟩:=GJ.1 w
      rw[e2,AO,Bx]at hd2
      rcases hd2 with w2|w2|w2
      · exact h y (GJ.2 ⟨l,An,GJ.2 ⟨d2,by rw[e1];simp[w2],j⟩⟩)
      · rw[w2,i]at j
        rcases AO.1 j with o|o
        · exact h y (ae y o)
        · rw[Bk]at o;rw[o];exact⟨rfl,rfl⟩
      · exact h y (GJ.2 ⟨l,An,GJ.2 ⟨d2,by rw[e1];simp[w2],j⟩⟩)
   intro y hy z ar
   have h1:=ac y hy
   have h2:=ac z ar
   exact⟨h1.1.trans h2.1.symm,h1.2.trans h2.2.symm⟩
 · unfold EP
   dsimp only
   rw[Ep,Ep,Eb,Eb,Oj,ag,Bt,Bt,Bt,Bt,al]
   simp;omega
def A00 (b:CQ):Prop:=∀y∈EP b,y.g.s=0∧y.g.c=8
theorem Acf:∀(ls:CX) (i:Nat) (l:Lp) (x:BC),Jo i l (ls++[x])=Kj (Jo i l ls) (i+ls.length) x
 |[],i,l,x=>rfl
 |y::r,i,l,x=>by rw[FW];unfold Jo;rw[Acf r (i+1) (Kj l i y) x,Do];congr 1;omega
def dU {b:CQ}(c:DW b):b.rs.getLastD []∈b.rs:=by have a:=c.some;rw[xI,List.getLast?_eq_some_getLast a,IQ];exact List.getLast_mem a
structure vA (b y:CQ) (x:BC):Prop where
 ok:DW y
 t:y.t=b.t
 legs:(EP y).length=(EP b).length+1
 first:Em (y.rs.headD [])=Em (b.rs.headD [])
 grow:b.rs.length≤y.rs.length∧y.rs.length≤b.rs.length+1
 same:∀i,i+1<b.rs.length→y.rs.getD i []=b.rs.getD i []
 mem:∀z∈EP y,z=x∨z∈EP b
def Yb {b:CQ}{x:BC}(h:(Dw b x).2=0):DW b∧vA b (Dw b x).1 x:=by
 unfold Dw at h ⊢;by_cases g:DW b
 ·rw[if_pos g]at h ⊢;by_cases hx:DS x
  ·rw[if_pos hx]at h ⊢;cases j:Fc (b.rs.getLastD []) b.t x with
   |none=>rw[j]at h;exact absurd (show(210:Int)=0 from h) BO
   |some w=>
    obtain⟨m,e⟩:=w;rw[j]at h;dsimp only at h ⊢;by_cases hw:8≤x.g.c∧(∀y∈EP b,DM y x)∧¬(DY e b.t∧Dd e b.t=none)
    ·rw[if_pos hw];have k:=Aqf g hx j hw.1 hw.2.1 hw.2.2;obtain⟨p,d,q,e1,e2,u,ai⟩:=aY j;have v:=g.some
     have key:∀n:Hs,n.length≤1→n.flatMap (λl=>l.flatMap λd=>d.ls)=[]→(DW ⟨b.t,b.rs.dropLast++(m::n)⟩∧(EP ⟨b.t,b.rs.dropLast++(m::n)⟩).length=(EP b).length+1)→DW b∧vA b ⟨b.t,b.rs.dropLast++(m::n)⟩ x:=by
      intro n ah af k;obtain⟨rs,l,c⟩:∃rs l,b.rs=rs++[l]:=⟨b.rs.dropLast,b.rs.getLast v,(xR v).symm⟩;(have ae:b.rs.getLastD []=l:=by rw[c];simp);(have ab:b.rs.dropLast=rs:=by rw[c];simp);rw[ae]at e1;rw[ab]at k ⊢;(have ag:Fo m l:=by rw[e1,e2,u];exact Aa2);refine⟨g,k.1,rfl,k.2,?_,?_,?_,?_⟩;{dsimp only;rw[c];cases rs with|nil=>exact aW ag|cons a r=>rfl};{dsimp only;rw[c,Bt,Bt,Do,Do,Jw];omega};{intro i hi;rw[c,Bt,IR]at hi;dsimp only;rw[c,Dr,Dr,GK J,GK J]};{intro z f;unfold EP at f;dsimp only at f;rw[Ep,Eb,af,DR,AO]at f;have t:∀d2∈l,∀z∈d2.ls,z∈EP b:=λd2 hd2 z f=>GJ.2 ⟨l,by rw[c];simp,GJ.2 ⟨d2,hd2,f⟩⟩;rcases f with w|w;{refine .inr ?_;unfold EP;rw[c,Ep,AO];exact .inl w};{obtain⟨d2,hd2,o⟩:=GJ.1 w;rw[e2,AO,Bx]at hd2;rcases hd2 with w2|w2|w2;{exact .inr (t d2 (by rw[e1];simp[w2]) z o)};{rw[w2,u]at o;rcases AO.1 o with s|s;{exact .inr (t d (by rw[e1];simp) z s)};{rw[Bk]at s;exact .inl s}};{exact .inr (t d2 (by rw[e1];simp[w2]) z o)}}}
     refine key _ ?_ ?_ k;{split<;>simp};{cases ac:Ej m b.t with|none=>rfl|some r=>obtain⟨cs,_,_,ad⟩:=So ac;dsimp only;rw[ad,Eb,Oj,DR,xL];exactλd aa=>Qo cs d aa}
    {rw[if_neg hw]at h;exact absurd (show(210:Int)=0 from h) BO}
  {rw[if_neg hx]at h;exact absurd (show(1:Int)=0 from h) BO}
 {rw[if_neg g]at h;exact absurd (show(210:Int)=0 from h) BO}
def Ayb {b:CQ}{x:BC}(h:(Dw b x).2=0):DW b∧DS x∧∃m e,Fc (b.rs.getLastD []) b.t x=some (m,e)∧(Dw b x).1=⟨b.t,b.rs.dropLast++(m::(Ej m b.t).toList)⟩:=by unfold Dw at h ⊢;by_cases a:DW b;{rw[if_pos a]at h ⊢;by_cases hx:DS x;{rw[if_pos hx]at h ⊢;cases c:Fc (b.rs.getLastD []) b.t x with|none=>rw[c]at h;exact absurd (show(210:Int)=0 from h) BO|some w=>obtain⟨m,e⟩:=w;rw[c]at h;dsimp only at h ⊢;by_cases hw:8≤x.g.c∧(∀y∈EP b,DM y x)∧¬(DY e b.t∧Dd e b.t=none);{rw[if_pos hw];refine⟨a,hx,m,e,rfl,?_⟩;cases Ej m b.t<;>rfl};{rw[if_neg hw]at h;exact absurd (show(210:Int)=0 from h) BO}};{rw[if_neg hx]at h;exact absurd (show(1:Int)=0 from h) BO}};{rw[if_neg a]at h;exact absurd (show(210:Int)=0 from h) BO}
theorem Aaz {t:AT}:∀{l:CM} {cs:AC},Fp l t=some cs→∀d∈l,Dd d t≠none
 |[],_,_,d,a=>by cases a
 |e::r,cs,h,d,a=>by unfold Fp at h;cases b:Dd e t with|none=>(rw[b]at h;cases h)|some c=>cases hr:Fp r t with|none=>(rw[b,hr]at h;cases h)|some q=>rcases Bx.1 a with w|w;{rw[w,b];simp};{exact Aaz hr d w}
def Ayp {d:Bv}{t:AT}{w:Int}:Mg d t=(w,0)↔KR d t∧Dd d t=some w:=by unfold Mg;by_cases h:Ie d t=0;{rw[if_neg (λk=>k h),NF.symm];cases hw:Dd d t with|none=>exact⟨λk=>(by cases k),λk=>(by cases k.2)⟩|some c=>exact⟨λk=>(by cases k;exact⟨h,rfl⟩),λk=>(by cases k.2;rfl)⟩};{rw[if_pos h];exact⟨λk=>absurd (congrArg Prod.snd k) h,λk=>absurd (NF.2 k.1) h⟩}
structure cX (cs:AC) (t:AT) (k:Nat) (b:CQ):Prop where
 ok:DW b
 t:b.t=t
 cup:A00 b
 first:Em (b.rs.headD [])=cs
 legs:(EP b).length=k
def Amh {cs:AC}{t:AT}(h:(DA cs t).2≠0):(DA cs t).1.rs=[]:=by unfold DA at h ⊢;by_cases h1:EN t;{by_cases h2:Fv cs.length∧Er cs;{rw[if_pos h1,if_pos h2]at h;exact absurd rfl h};{rw[if_pos h1,if_neg h2];rfl}};{rw[if_neg h1];rfl}
def zR {cs:AC}{t:AT}(h:(DA cs t).2=0):cX cs t 0 (DA cs t).1:=by unfold DA at h ⊢;by_cases h1:EN t;{by_cases h2:Fv cs.length∧Er cs;{rw[if_pos h1,if_pos h2];have hp:=h2.1;unfold Fv at hp;have b:Em (Df cs)=cs:=bD cs J;(have a:EP ⟨t,[Df cs]⟩=[]:=by{unfold EP;rw[Eb,Oj,DR,xL];exactλd e=>Qo cs d e});refine⟨⟨h1,An,⟨Df cs,[],rfl,?_,?_⟩,?_,?_,?_⟩,rfl,?_,b,by rw[a];rfl⟩;{rw[TJ];unfold Fv;omega};{have:(Df cs).flatMap (λd=>[d.a,d.b])=cs:=b;rw[this];exact h2.2};{intro l c;rw[Bk]at c;rw[c];exact zS h1 h2.2};{exact vG h1 J};{intro x hx;rw[a]at hx;cases hx};{intro x hx;rw[a]at hx;cases hx}};{rw[if_pos h1,if_neg h2]at h;exact absurd (show(190:Int)=0 from h) BO}};{rw[if_neg h1]at h;exact absurd (show(210:Int)=0 from h) BO}
def cX.le {cs:AC}{t:AT}{k:Nat}{b:CQ}(h:cX cs t k b):k+2≤2*cs.length:=by have:=kF h.ok;rw[h.first,h.legs]at this;exact this
theorem yC {t:AT}:∀{rs:Hs},I' t rs→(∀l∈rs,Qw l)→∀i,i<rs.length→(rs.getD i []).length*2^i=(rs.headD []).length
 |[],_,_,i,h=>by simp at h
 |[l],_,_,i,h=>by(have:i=0:=by simpa using h);rw[this];simp
 |l::m::r,hc,h0,0,_=>by simp
 |l::m::r,hc,h0,i+1,h=>by unfold I' at hc;obtain⟨⟨n,hn,hs⟩,a⟩:=hc;have b:=yC a (λx hx=>h0 x (Ey _ hx)) i RM;have h2:=(gJ (h0 l An) hn hs).2;rw[Yl,Nat.pow_succ,←Nat.mul_assoc,b];show m.length*2=l.length;omega
def Sj (s c:Int) (f:Al):Prop:=f.kind=7∧f.lS=s∧f.lC=c∧BT f
open Classical in
noncomputable def MF (L:Ax) (s c:Int):Ax:=L.filter λf=>decide (Sj s c f)
noncomputable def MG (L:Ax) (s c:Int):IF:=(MF L s c).foldl JL none
open Classical in
theorem gD {L:Ax}{s c:Int}{f:Al}:f∈MF L s c↔f∈L∧Sj s c f:=by unfold MF;rw[DQ,decide_eq_true_eq]
def Ave {L:Ax}(a:D' L)(s c:Int):LV (MF L s c) (MG L s c):=
 Ys (MF L s c) [] none (λf hf=>absurd hf An) (λf hf=>⟨(gD.1 hf).2.2.2.2,a f (gD.1 hf).1⟩) (.inl ⟨rfl,rfl⟩)
open Classical in
noncomputable def OH (o:AC) (cs:AC):AC:=if o.Perm cs then o else cs
noncomputable def Kp (L:Ax) (s c:Int) (e:Al):AC:=OH (match MG L s c with|none=>[]|some f=>f.lO) e.eClubs
def bC {o y cs:AC}(hp:y.Perm o)(hs:y.Pairwise (· ≤·))(hc:Ns cs):y=cs↔o.Perm cs:=by refine⟨λe=>e▸hp.symm,λh=>?_⟩;have h2:cs.Pairwise (· ≤·):=hc.imp λk=>eZ k;exact(hp.trans h).eq_of_pairwise (λa b _ _ h1 h2=>Int.le_antisymm h1 h2) hs h2
noncomputable def Ks (b:CQ):CX→Option CQ
 |[]=>none
 |x::r=>if(Dw b x).2=0 then some (Dw b x).1 else Ks b r
theorem XN {b y:CQ}:∀{l:CX},Ks b l=some y→∃x∈l,(Dw b x).2=0∧y=(Dw b x).1
 |[],h=>by cases h
 |x::r,h=>by unfold Ks at h;split at h;{rename_i k;cases h;exact⟨x,An,k,rfl⟩};{obtain⟨z,h1,h2⟩:=XN h;exact⟨z,Ey _ h1,h2⟩}
theorem aZ {b:CQ}:∀{l:CX},Ks b l=none↔∀x∈l,(Dw b x).2≠0
 |[]=>⟨λ_ x hx=>(by cases hx),λ_=>rfl⟩
 |x::r=>by unfold Ks;by_cases k:(Dw b x).2=0;{rw[if_pos k];exact⟨λh=>(by cases h),λh=>absurd k (h x An)⟩};{rw[if_neg k,aZ (l:=r)];refine⟨λh y hy=>?_,λh y hy=>h y (Ey _ hy)⟩;rcases Bx.1 hy with e|e;{rw[e];exact k};{exact h y e}}
theorem zQ {b:CQ}:∀{l:CX} {k:Nat},k<l.length→(∀i,i<k→(Dw b (l.getD i AV)).2≠0)→(Dw b (l.getD k AV)).2=0→Ks b l=some (Dw b (l.getD k AV)).1
 |[],k,h,_,_=>by simp at h
 |x::r,0,_,_,h=>by unfold Ks;rw[if_pos (show(Dw b x).2=0 from h)];rfl
 |x::r,k+1,h,h1,h2=>by unfold Ks;have h0:(Dw b x).2≠0:=h1 0 J;rw[if_neg h0,zQ (l:=r) (k:=k) RM (λi hi=>h1 (i+1) J) h2];rfl
noncomputable def Ja:Nat→CQ→CX→CQ
 |0,b,_=>b
 |n+1,b,l=>match Ks b l with
   |none=>b
   |some y=>Ja n y l
structure Lr (cs:AC) (t:AT) (l:CX) (k:Nat) (b:CQ):Prop where
 ok:DW b
 t:b.t=t
 first:Em (b.rs.headD [])=cs
 legs:(EP b).length=k
 mem:∀y∈EP b,y∈l
def Lr.le {cs:AC}{t:AT}{l:CX}{k:Nat}{b:CQ}(h:Lr cs t l k b):k+2≤2*cs.length:=by have:=kF h.ok;rw[h.first,h.legs]at this;exact this
def Lr.next {cs:AC}{t:AT}{l:CX}{k:Nat}{b:CQ}(h:Lr cs t l k b){x:BC}(hx:x∈l)(a:(Dw b x).2=0):Lr cs t l (k+1) (Dw b x).1:=by obtain⟨_,p⟩:=Yb a;refine⟨p.ok,by rw[p.t,h.t],by rw[p.first,h.first],by rw[p.legs,h.legs],λy hy=>?_⟩;rcases p.mem y hy with e|e;{rw[e];exact hx};{exact h.mem y e}
def hV {cs:AC}{t:AT}(l:CX)(h:(DA cs t).2=0):Lr cs t l 0 (DA cs t).1:=by have p:=zR h;refine⟨p.ok,p.t,p.first,p.legs,λy hy=>?_⟩;have:=p.legs;rw[eJ.1 this]at hy;cases hy
theorem Ajn {b:CQ}{l:CX}(h:Ks b l=none):∀n,Ja n b l=b
 |0=>rfl
 |n+1=>by unfold Ja;rw[h]
theorem Aa0 {cs:AC}{t:AT}{l:CX}:∀(n k:Nat) (b:CQ),Lr cs t l k b→2*cs.length≤n+k+1→Ja (n+1) b l=Ja n b l
 |0,k,b,h,hn=>by have:=h.le;omega
 |n+1,k,b,h,hn=>by rw[Ja,Ja];cases hf:Ks b l with|none=>rfl|some y=>obtain⟨x,h1,h2,rfl⟩:=XN hf;exact Aa0 n (k+1) _ (h.next h1 h2) J
def Ajm {cs:AC}{t:AT}{l:CX}{n k:Nat}{b y:CQ}(h:Lr cs t l k b)(hn:2*cs.length≤n+k)(hf:Ks b l=some y):Ja n b l=Ja n y l∧Lr cs t l (k+1) y:=by obtain⟨x,h1,h2,rfl⟩:=XN hf;have hv:=h.next h1 h2;refine⟨?_,hv⟩;obtain⟨m,rfl⟩:∃m,n=m+1:=⟨n-1,by have:=h.le;omega⟩;rw[Aa0 m (k+1) _ hv J];rw[Ja,hf]
theorem vQ {cs:AC}{t:AT}{l:CX}:∀(n k:Nat) (b:CQ),Lr cs t l k b→2*cs.length≤n+k+1→Ks (Ja n b l) l=none∧∃m,Lr cs t l m (Ja n b l)
 |0,k,b,h,hn=>by have:=h.le;omega
 |n+1,k,b,h,hn=>by rw[Ja];cases hf:Ks b l with|none=>exact⟨hf,k,h⟩|some y=>obtain⟨x,h1,h2,rfl⟩:=XN hf;exact vQ n (k+1) _ (h.next h1 h2) J
noncomputable def Iy (L:Ax) (s c:Int) (t:AT):CQ×Int:=
 if EN t then(if c<8 then(Gf,190)else match JN L s c with
  |none=>(Gf,190)
  |some e=>if(DA (Kp L s c e) t).2=0 then(Ja 256 (DA (Kp L s c e) t).1 (Ij L s c),0)else DA (Kp L s c e) t)else(Gf,210)
def mS {L:Ax}(a:D' L){s c:Int}{t:AT}:((Iy L s c t).2≠0→(Iy L s c t).1.rs=[])∧
  ((Iy L s c t).2=0→DW (Iy L s c t).1∧(∀x∈EP (Iy L s c t).1,FA L x.g=some x∧x.g.s=s∧x.g.c=c)∧∀x∈Ij L s c,(Dw (Iy L s c t).1 x).2≠0):=by
 unfold Iy
 by_cases h1:EN t
 · by_cases h2:c<8
   · rw[if_pos h1,if_pos h2];exact⟨λ_=>rfl,λh=>absurd (show(190:Int)=0 from h) BO⟩
   · rw[if_pos h1,if_neg h2]
     cases b:JN L s c with
     |none=>exact⟨λ_=>rfl,λh=>absurd (show(190:Int)=0 from h) BO⟩
     |some e=>
       dsimp only
       by_cases h3:(DA (Kp L s c e) t).2=0
       · rw[if_pos h3]
         refine⟨λh=>absurd rfl h,λ_=>?_⟩
         have hv:=hV (Ij L s c) h3
         have d:(Kp L s c e).length≤128:=by
          unfold DA at h3
          by_cases k:Fv (Kp L s c e).length∧Er (Kp L s c e)
          · have:=k.1;unfold Fv at this;omega
          · rw[if_pos h1,if_neg k]at h3;exact absurd (show(190:Int)=0 from h3) BO
         obtain⟨k1,m,k2⟩:=vQ 256 0 _ hv J
         refine⟨k2.ok,λx hx=>?_,aZ.1 k1⟩
         have:=((mI a s c).2 x).1 (k2.mem x hx)
         exact⟨this.2.2,this.1,this.2.1⟩
       · rw[if_neg h3]
         exact⟨λ_=>Amh h3,λh=>absurd h h3⟩
 · rw[if_neg h1];exact⟨λ_=>rfl,λh=>absurd (show(210:Int)=0 from h) BO⟩
structure Ic where
 f:Int
 s:Int
 af:Int
 as':Int
 pf:Int
 ps:Int
deriving DecidableEq
def Rf:Ic:=⟨0,0,0,0,0,0⟩
def QG (l:Ic) (i:Nat) (x:BC):Ic:=if i=0 then⟨l.f+x.hg,l.s+x.ag,l.af,l.as'+x.ag,x.hp,x.ap⟩else⟨l.f+x.ag,l.s+x.hg,l.af+x.ag,l.as',x.ap,x.hp⟩
def Lx:Nat→Ic→CX→Ic
 |_,l,[]=>l
 |i,l,x::r=>Lx (i+1) (QG l i x) r
def Mv (d:Bv):Ic:=Lx 0 Rf d.ls
theorem aE:∀(ls:CX) (i:Nat) (l:Ic) (x:BC),Lx i l (ls++[x])=QG (Lx i l ls) (i+ls.length) x
 |[],i,l,x=>rfl
 |y::r,i,l,x=>by rw[FW];unfold Lx;rw[aE r,Do,show i+1+r.length=i+(r.length+1) by omega]
def Ss (a:Lp) (b:Ic):Prop:=a.goals=b.f-b.s∧a.away=b.af-b.as'∧a.pens=b.pf-b.ps
def Avd {a:Lp}{b:Ic}(h:Ss a b)(i:Nat)(x:BC):Ss (Kj a i x) (QG b i x):=by obtain⟨h1,h2,h3⟩:=h;unfold Ss Kj QG;by_cases hi:i=0;{rw[if_pos hi,if_pos hi];dsimp only;omega};{rw[if_neg hi,if_neg hi];dsimp only;omega}
theorem zI:∀(ls:CX) (i:Nat) (a:Lp) (b:Ic),Ss a b→Ss (Jo i a ls) (Lx i b ls)
 |[],_,_,_,h=>h
 |x::r,i,a,b,h=>by unfold Jo Lx;exact zI r (i+1) _ _ (Avd h i x)
def Anm (d:Bv):Ss (HY d) (Mv d):=zI d.ls 0 _ _ ⟨rfl,rfl,rfl⟩
def Vm (d:Bv) (t:AT):Int×Int:=if(Mv d).f=(Mv d).s∧t.legs=2∧t.away=true then((Mv d).af,(Mv d).as')else((Mv d).f,(Mv d).s)
def HA (d:Bv) (t:AT):Int×Int:=if(Vm d t).1=(Vm d t).2 then((Mv d).pf,(Mv d).ps)else Vm d t
def Acs (d:Bv)(t:AT):Jp d t=(HA d t).1-(HA d t).2:=by obtain⟨h1,h2,h3⟩:=Anm d;unfold Jp HA Vm;generalize HY d=a at *;generalize Mv d=b at *;by_cases k1:a.goals=0;{have e1:¬a.goals≠0:=λw=>w k1;by_cases k2:t.legs=2∧t.away=true;{have e2:b.f=b.s∧t.legs=2∧t.away=true:=⟨J,k2⟩;rw[if_neg e1,if_pos e2];dsimp only;by_cases k3:a.away=0;{have e:¬(t.legs=2∧t.away=true∧a.away≠0):=λw=>w.2.2 k3;(have c:b.af=b.as':=by omega);rw[if_neg e,if_pos c];exact h3};{have e:t.legs=2∧t.away=true∧a.away≠0:=⟨k2.1,k2.2,k3⟩;(have c:¬b.af=b.as':=by omega);rw[if_pos e,if_neg c];exact h2}};{have e2:¬(b.f=b.s∧t.legs=2∧t.away=true):=λw=>k2 w.2;have e:¬(t.legs=2∧t.away=true∧a.away≠0):=λw=>k2 ⟨w.1,w.2.1⟩;(have c:b.f=b.s:=by omega);rw[if_neg e1,if_neg e2,if_neg e];dsimp only;rw[if_pos c];exact h3}};{have e2:¬(b.f=b.s∧t.legs=2∧t.away=true):=λw=>k1 J;(have c:¬b.f=b.s:=by omega);rw[if_pos k1,if_neg e2];dsimp only;rw[if_neg c];exact h1}
def Axp {d:Bv}{t:AT}(h:DY d t):Dd d t=if(HA d t).2<(HA d t).1 then some d.a else if(HA d t).1<(HA d t).2 then some d.b else none:=by unfold Dd;rw[if_pos h,Acs];by_cases k1:(HA d t).2<(HA d t).1;{rw[if_pos k1,if_pos J]};{rw[if_neg k1,if_neg J];by_cases k2:(HA d t).1<(HA d t).2;{rw[if_pos k2,if_pos J]};{rw[if_neg k2,if_neg J]}}
def Alr {d:Bv}{t:AT}(h:¬DY d t):Dd d t=none:=by unfold Dd;rw[if_neg h]
def Azn {l:AC}{x:Int}:Er (l++[x])↔Er l∧AY x 192∧x∉l:=by unfold Er;rw[Fm];constructor;{rintro⟨h1,h2,_,h3⟩;exact⟨⟨λc hc=>h1 c NS,h2⟩,h1 x An,λw=>h3 x w x An rfl⟩};{rintro⟨⟨h1,h2⟩,h3,d⟩;refine⟨λc hc=>?_,h2,An,λa e b f=>?_⟩;{rcases AO.1 hc with w|w;{exact h1 c w};{rw[Bk.1 w];exact h3}};{rw[Bk.1 f];exactλw=>d (w▸e)}}
def Axj {l r:AC}(h:Er (l++r)):Er l:=by unfold Er at *;rw[Fm]at h;exact⟨λc hc=>h.1 c NS,h.2.1⟩
theorem zV:∀(l:AC) (a b:Int),l.length%2=0→Df (l++[a,b])=Df l++[⟨a,b,[]⟩]
 |[],a,b,_=>rfl
 |[x],a,b,h=>by simp at h
 |x::y::r,a,b,h=>by rw[FW,FW];unfold Df;rw[zV r a b (by simp at h;omega)];rfl
theorem zX:∀(l:AC) (a:Int),l.length%2=0→Df (l++[a])=Df l
 |[],a,_=>rfl
 |[x],a,h=>by simp at h
 |x::y::r,a,h=>by rw[FW,FW];unfold Df;rw[zX r a (by simp at h;omega)]
theorem aN {t:AT}(d:Bv):∀(l:CM),Fp (l++[d]) t=match Fp l t,Dd d t with
  |some cs,some c=>some (cs++[c])
  |_,_=>none
 |[]=>by
   rw[FE]
   unfold Fp
   cases Dd d t<;>rfl
 |e::r=>by
   rw[FW]
   unfold Fp
   rw[aN d r]
   cases Dd e t<;>cases Fp r t<;>cases Dd d t<;>rfl
def Adh {t:AT}{d:Bv}{l:CM}(a:d∈l)(h:Dd d t=none):Fp l t=none:=by cases hw:Fp l t with|none=>rfl|some cs=>exact absurd h (Aaz hw d a)
theorem XL {t:AT}{x:BC}(d:Bv):∀(l:CM),Fc (l++[d]) t x=match Fc l t x with
  |some (q,e)=>some (q++[d],e)
  |none=>if Fw d t x then some (l++[⟨d.a,d.b,d.ls++[x]⟩],⟨d.a,d.b,d.ls++[x]⟩)else none
 |[]=>by
   rw[FE]
   unfold Fc
   split<;>rfl
 |e::r=>by
   rw[FW]
   unfold Fc
   by_cases h:Fw e t x
   · rw[if_pos h,if_pos h];rfl
   · rw[if_neg h,if_neg h,XL d r]
     cases Fc r t x with
     |some w=>rfl
     |none=>
       dsimp only
       by_cases k:Fw d t x
       · rw[if_pos k,if_pos k];rfl
       · rw[if_neg k,if_neg k]
theorem oN {t:AT}:∀{rs:Hs},I' t rs↔∀i,i<rs.length→(if i+1<rs.length then∃n,Ej (rs.getD i []) t=some n∧Fo n (rs.getD (i+1) [])else Ej (rs.getD i []) t=none)
 |[]=>⟨λ_ i hi=>(by simp at hi),λ_=>trivial⟩
 |[l]=>by unfold I';refine⟨λh i hi=>?_,λh=>?_⟩;{(have:i=0:=by simpa using hi);subst this;rw[if_neg An];exact h};{have:=h 0 An;rw[if_neg An]at this;exact this}
 |l::m::r=>by unfold I';rw[oN (rs:=m::r)];constructor;{rintro⟨h1,h2⟩ i hi;cases i with|zero=>rw[if_pos An];exact h1|succ i=>have:=h2 i Jq;by_cases k:i+1<(m::r).length;{rw[if_pos k]at this;rw[if_pos (by simpa using k)];exact this};{rw[if_neg k]at this;rw[if_neg (by simpa using k)];exact this}};{intro h;refine⟨?_,λi hi=>?_⟩;{have:=h 0 An;rw[if_pos An]at this;exact this};{have:=h (i+1) Jq;by_cases k:i+1<(m::r).length;{rw[if_pos (by simpa using k)]at this;rw[if_pos k];exact this};{rw[if_neg (by simpa using k)]at this;rw[if_neg k];exact this}}}
def oS {l:CX}:(∀x∈l,∀y∈l,DM x y)↔∀x∈l,DM x (l.headD AV):=by cases l with|nil=>exact⟨λ_ x hx=>(by cases hx),λ_ x hx=>(by cases hx)⟩|cons a r=>refine⟨λh x hx=>h x hx a An,λh x hx y hy=>?_⟩;have h1:=h x hx;have h2:=h y hy;exact⟨h1.1.trans h2.1.symm,h1.2.trans h2.2.symm⟩
def Tz (r:BC):Prop:=DL r.g∧AY r.hg 100∧AY r.ag 100∧AY r.hp 100∧AY r.ap 100∧AY r.hc 121∧AY r.ac 121∧AY r.day 1048577
instance (r:BC):Decidable (Tz r):=by unfold Tz;infer_instance
def dO (r:BC):Prop:=(r.g.c<8∧0<r.hp+r.ap)∨(r.forf=true∧0<r.hp+r.ap+r.hc+r.ac)
def fG (r:BC):Prop:=(r.hg=3∧r.ag=0)∨(r.hg=0∧r.ag=3)
def dP (r:BC):Prop:=(r.forf=true∧r.both=false∧¬fG r)∨(r.both=true∧(r.forf=false∨0<r.hg+r.ag))
def Akl (r:BC):DS r↔Tz r∧¬dO r∧¬dP r:=by unfold DS Tz dO dP fG;by_cases f:DL r.g∧AY r.hg 100∧AY r.ag 100∧AY r.hp 100∧AY r.ap 100∧AY r.hc 121∧AY r.ac 121∧AY r.day 1048577;{obtain⟨h1,h2,h3,a,b,c,d,e⟩:=f;simp only[h1,h2,h3,a,b,c,d,e,true_and];unfold AY at h2 h3 a b c d;cases hf:r.forf<;>cases g:r.both<;>simp<;>omega};{constructor;{rintro⟨h1,h2,h3,a,b,c,d,e,_⟩;exact absurd ⟨h1,h2,h3,a,b,c,d,e⟩ f};{exactλh=>absurd h.1 f}}
def Azo {l:AC}{k:Nat}(a:k<l.length):Er (l.take (k+1))↔Er (l.take k)∧AY (l.getD k 0) 192∧∀i,i<k→l.getD k 0≠l.getD i 0:=by(have e:l.take (k+1)=l.take k++[l.getD k 0]:=by{rw[LF,Bw a,Dr,Bw a];rfl});rw[e,Azn];refine and_congr_right λ_=>and_congr_right λ_=>?_;constructor;{intro h i hi w;refine h ?_;rw[w,Dr,Bw J,IQ];exact xB.2 ⟨i,J,rfl⟩};{intro h w;obtain⟨i,hi,e2⟩:=xB.1 w;refine h i J ?_;rw[←e2,Dr,Bw J,IQ]}
def Im (h a x y hp ap:Int):BC:={AV with g:=⟨0,8,h,a⟩,hg:=x,ag:=y,hp:=hp,ap:=ap}
def HC:AT:=⟨1,false⟩
def Rg:AT:=⟨2,true⟩
def NC (hp ap:Int):Bv:=⟨1,2,[Im 1 2 1 2 0 0,Im 2 1 1 2 hp ap]⟩
def lN {hp ap:Int}(h:(hp=0∧ap=0)∨(hp=4∧ap=3)):KR (NC hp ap) Rg:=by
 rcases h with⟨rfl,rfl⟩|⟨rfl,rfl⟩
 all_goals
  refine⟨BO,λx hx=>?_,λi hi=>?_⟩
  · simp only[NC,Bx,JX,or_false]at hx
    rcases hx with e|e<;>(rw[e];decide)
  · match i,hi with
    |0,_=>exact⟨rfl,rfl,BO,rfl,rfl⟩
    |1,_=>exact⟨rfl,rfl,BO,rfl,rfl⟩
def Aqc:Mg (NC 0 0) Rg=(0,210):=by unfold Mg;rw[if_neg (λk=>k (NF.2 (lN BO))),show Dd (NC 0 0) Rg=none by decide]
def Ap9:Mg (NC 4 3) Rg=(2,0):=Ayp.2 ⟨lN BO,BO⟩
def Ap7:DA [1,2,3] HC=(Gf,190):=by decide
def Ap8:DA [1,2] ⟨3,false⟩=(Gf,210):=by decide
def Aqa:Mg ⟨1,2,[]⟩ HC=(0,210):=by have h:KR ⟨1,2,[]⟩ HC:=⟨BO,λx hx=>(by cases hx),λi hi=>(by simp at hi)⟩;unfold Mg;rw[if_neg (λk=>k (NF.2 h)),show Dd ⟨1,2,[]⟩ HC=none by decide]
def Aqb:Kq Gf=(0,false,210):=by unfold Kq;rw[if_neg (λk=>k.some rfl)]
def Ln:CQ:=⟨HC,[[⟨5,3,[]⟩]]⟩
def Rl:CQ:=⟨HC,[[⟨5,3,[Im 5 3 0 1 0 0]⟩]]⟩
def Zy:DA [5,3] HC=(Ln,0):=by decide
def RD:Dw Ln (Im 5 3 0 1 0 0)=(Rl,0):=by(have a:DW Ln:=by{have:=(zR (cs:=[5,3]) (t:=HC) (by rw[Zy])).ok;rw[Zy]at this;exact this});unfold Dw;rw[if_pos a,if_pos BO,show Fc (Ln.rs.getLastD []) Ln.t (Im 5 3 0 1 0 0)=some ([⟨5,3,[Im 5 3 0 1 0 0]⟩],⟨5,3,[Im 5 3 0 1 0 0]⟩) by decide];dsimp only;rw[if_pos ⟨BO,λy hy=>(by cases hy),λw=>absurd w.2 BO⟩];rfl
def Aqd:Kq Rl=(3,true,0):=by have h:=(Yb (b:=Ln) (x:=Im 5 3 0 1 0 0) (by rw[RD])).2.ok;rw[RD]at h;unfold Kq;rw[if_pos h];rfl
def EX:AC→YY
 |a::b::r=>[a,b]::EX r
 |[a]=>[[a]]
 |[]=>[]
theorem Adl:∀{l:AC},l≠[]→EX l=l.take 2::EX (l.drop 2)
 |[],h=>absurd rfl h
 |[_],_=>rfl
 |_::_::_,_=>rfl
theorem bJ:∀(j:Nat) (l:AC),2*j≤l.length→EX l=EX (l.take (2*j))++EX (l.drop (2*j))
 |0,l,_=>by rw[Nat.mul_zero,Ia,J'];rfl
 |j+1,[],h=>by simp at h
 |j+1,[a],h=>by simp at h;omega
 |j+1,a::b::r,h=>by have c:=bJ j r (by simp at h;omega);rw[show 2*(j+1)=2*j+1+1 by omega,Ut,Ut,xQ,xQ];show[a,b]::EX r=([a,b]::EX (r.take (2*j)))++EX (r.drop (2*j));rw[c];rfl
theorem Abw:∀{l c:AC},c∈EX l→c.length=1∨c.length=2
 |[],c,h=>by cases h
 |[a],c,h=>by rw[show EX [a]=[[a]]from rfl,Bk]at h;rw[h];exact .inl rfl
 |a::b::r,c,h=>by rw[show EX (a::b::r)=[a,b]::EX r from rfl]at h;rcases Bx.1 h with e|e;{rw[e];exact .inr rfl};{exact Abw e}
def Ata {l:AC}{j:Nat}(h:2*j<l.length):EX l=EX (l.take (2*j))++(l.drop (2*j)).take 2::EX (l.drop (2*j+2)):=by rw[bJ j l J,Adl (l:=l.drop (2*j)) (by intro e;have:=congrArg List.length e;rw[Kw]at this;simp at this;omega),List.drop_drop]
def Axi {l:AC}{j:Nat}(h:2*j<l.length):EX (l.take (2*j+2))=EX (l.take (2*j))++[(l.drop (2*j)).take 2]:=by rw[bJ j (l.take (2*j+2)) OY];rw[eB,show min (2*j) (2*j+2)=2*j by omega,xP,show 2*j+2-2*j=2 by omega];rw[Adl (l:=(l.drop (2*j)).take 2) (by intro e;have:=congrArg List.length e;rw[CF,Kw]at this;simp at this;omega)];rw[eB,show min 2 2=2 from rfl,xP];rfl
def Ra (c:AC):CM:=match c with
 |[a,b]=>[⟨a,b,[]⟩]
 |_=>[]
def IP (cs:YY):CM:=cs.flatMap Ra
def Au6 (cs:YY)(c:AC):IP (cs++[c])=IP cs++Ra c:=by unfold IP;rw[Ep];simp
theorem Adz:∀l:AC,IP (EX l)=Df l
 |[]=>rfl
 |[_]=>rfl
 |a::b::r=>by have:=Adz r;show[⟨a,b,[]⟩]++IP (EX r)=_;rw[this];rfl
theorem zC:∀cs:YY,(IP cs).length≤cs.length
 |[]=>BU _
 |c::r=>by have:=zC r;(have h1:(Ra c).length≤1:=by unfold Ra;split<;>simp);show(Ra c++IP r).length≤_;rw[Bt,Do];omega
theorem nC:∀l:AC,(EX l).length≤l.length
 |[]=>BU _
 |[_]=>BU _
 |a::b::r=>by have:=nC r;show([a,b]::EX r).length≤_;simp only[Do];omega
def GN (l:CM):CX:=l.flatMap λd=>d.ls
def Ach (l:CM)(d:Bv):GN (l++[d])=GN l++d.ls:=by unfold GN;rw[Ep];simp
def EA (rs:Hs):CX:=rs.flatMap GN
def Acg (rs:Hs)(l:CM):EA (rs++[l])=EA rs++GN l:=by unfold EA;rw[Ep];simp
def Aai (b:CQ):EP b=EA b.rs:=rfl
def UT (t:AT) (d:Bv):Prop:=KR d t∧(DY d t→(d.ls.length:Int)=t.legs→Dd d t≠none)
def Lb (t:AT) (rs:Hs) (i:Nat):Prop:=if i+1<rs.length then∃n,Ej (rs.getD i []) t=some n∧Fo n (rs.getD (i+1) [])else Ej (rs.getD i []) t=none
def oM {t:AT}{rs:Hs}:I' t rs↔∀i,i<rs.length→Lb t rs i:=oN
def oI (b:CQ):DW b↔EN b.t∧b.rs≠[]∧(DA (Em (b.rs.headD [])) b.t).2=0∧(∀l∈b.rs,KC l b.t)∧(∀i,i<b.rs.length→Lb b.t b.rs i)∧∀x∈EA b.rs,DM x ((EA b.rs).headD AV):=by
 have hn:∀l:CM,EN b.t→((DA (Em l) b.t).2=0↔Fv (2*l.length)∧Er (Em l)):=λl f=>by
  unfold DA;rw[if_pos f,Ug];by_cases k:Fv (2*l.length)∧Er (Em l);{rw[if_pos k];exact⟨λ_=>k,λ_=>rfl⟩};{rw[if_neg k];exact⟨λh=>absurd (show(190:Int)=0 from h) BO,λh=>absurd h k⟩}
 constructor;{intro h;obtain⟨l,r,e,h1,h2⟩:=h.clubs;exact⟨h.tie,h.some,by rw[e];exact(hn l h.tie).2 ⟨h1,h2⟩,h.rounds,oM.1 h.chain,oS.1 h.cup⟩};{rintro⟨h1,h2,h3,a,c,d⟩;refine⟨h1,h2,?_,a,oM.2 c,oS.2 d⟩;cases e:b.rs with|nil=>exact absurd e h2|cons l r=>rw[e]at h3;obtain⟨g,j⟩:=(hn l h1).1 h3;exact⟨l,r,rfl,g,j⟩}
def Ami {cs:AC}{t:AT}(a:EN t):(DA cs t).2=0↔Fv cs.length∧Er cs:=by unfold DA;rw[if_pos a];by_cases k:Fv cs.length∧Er cs;{rw[if_pos k];exact⟨λ_=>k,λ_=>rfl⟩};{rw[if_neg k];exact⟨λh=>absurd (show(190:Int)=0 from h) BO,λh=>absurd h k⟩}
def Aak {l:CM}(h:∀d∈l,d.ls.length≤2):(GN l).length≤2*l.length:=by induction l with|nil=>exact BU _|cons d r a=>have h1:=h d An;have h2:=a λx hx=>h x L';show(d.ls++GN r).length≤_;rw[Bt,Do];omega
def Anj {rs:Hs}{m:Nat}(h:∀l∈rs,∀d∈l,d.ls.length≤2)(hm:∀l∈rs,l.length≤m):(EA rs).length≤2*m*rs.length:=by induction rs with|nil=>exact GT _|cons l r a=>have h1:=Aak (h l An);have h2:=a (λx hx=>h x L') λx hx=>hm x L';have h3:=hm l An;show(GN l++EA r).length≤_;rw[Bt,Do,Nat.mul_succ];have:2*l.length≤2*m:=Nat.mul_le_mul_left _ h3;omega
def Sn {d:Bv}{t:AT}(h:KR d t):d.ls.length≤2:=by have h1:=h.ok0.1;have h2:=h.ok0.2.2.2.2;unfold EN at h1;omega
def LA (t:AT) (x:BC):CM→Nat→Int
 |[],_=> -1
 |d::r,k=>if Fw d t x then k else LA t x r (k+1)
theorem mT {t:AT}{x:BC}:∀{l:CM} (k:Nat),Fc l t x=none→LA t x l k = -1
 |[],k,_=>rfl
 |d::r,k,h=>by unfold Fc at h;unfold LA;by_cases hw:Fw d t x;{rw[if_pos hw]at h;cases h};{rw[if_neg hw]at h ⊢;cases hr:Fc r t x with|none=>exact mT (k+1) hr|some w=>rw[hr]at h;cases h}
theorem mU {t:AT}{x:BC}:∀{l m:CM} {e:Bv} (k:Nat),Fc l t x=some (m,e)→∃i d,i<l.length∧LA t x l k=((k+i:Nat):Int)∧l[i]?=some d∧Fw d t x∧e=⟨d.a,d.b,d.ls++[x]⟩∧m=l.set i e
 |[],_,_,k,h=>by cases h
 |d::r,m,e,k,h=>by unfold Fc at h;by_cases hw:Fw d t x;{rw[if_pos hw]at h;cases h;exact⟨0,d,An,by unfold LA;rw[if_pos hw];rfl,rfl,hw,rfl,rfl⟩};{rw[if_neg hw]at h;cases hr:Fc r t x with|none=>(rw[hr]at h;cases h)|some w=>obtain⟨f,e2⟩:=w;rw[hr]at h;cases h;obtain⟨i,d2,h1,h2,h3,a,b,c⟩:=mU (k+1) hr;refine⟨i+1,d2,FC,?_,by simpa using h3,a,b,by rw[c];rfl⟩;unfold LA;rw[if_neg hw,h2];congr 1;omega}
def Aas {α:Type}{l:List (List α)}{n:Nat}(h:l.length=n)(h0:0<n):l.getLastD []=l.getD (n-1) []∧l.dropLast=l.take (n-1):=by subst h;refine⟨?_,List.dropLast_eq_take⟩;rw[xI,Ay1,Dr]
def Apc {rs:Hs}{x:BC}(hc:∀y∈EA rs,∀z∈EA rs,DM y z)(hh:∀l∈rs,∀d∈l,d.ls≠[]→DM (d.ls.headD AV) x):∀y∈EA rs,DM y x:=by intro y hy;obtain⟨l,c,h⟩:=GJ.1 hy;obtain⟨d,b,g⟩:=GJ.1 h;(have f:d.ls≠[]:=λe=>by rw[e]at g;cases g);have h1:=hh l c d b f;(have hm:d.ls.headD AV∈d.ls:=by{cases e:d.ls with|nil=>exact absurd e f|cons a r=>simp});have h2:=hc y hy (d.ls.headD AV) (GJ.2 ⟨l,c,GJ.2 ⟨d,b,hm⟩⟩);exact⟨h2.1.trans h1.1,h2.2.trans h1.2⟩
def Apd {rs:Hs}{l:CM}{d:Bv}(c:l∈rs)(b:d∈l)(h:d.ls≠[]):d.ls.headD AV∈EA rs:=by refine GJ.2 ⟨l,c,GJ.2 ⟨d,b,?_⟩⟩;cases e:d.ls with|nil=>exact absurd e h|cons a r=>simp
def Acy {b:CQ}{x:BC}(h:¬DW b):Dw b x=(Gf,210):=by unfold Dw;rw[if_neg h]
def Acz {b:CQ}{x:BC}(h:DW b)(k:¬DS x):Dw b x=(Gf,1):=by unfold Dw;rw[if_pos h,if_neg k]
def Ado {b:CQ}{x:BC}(h:DW b)(k:DS x)(e:Fc (b.rs.getLastD []) b.t x=none):Dw b x=(Gf,210):=by unfold Dw;rw[if_pos h,if_pos k,e]
def zM {b:CQ}{x:BC}(h:DW b)(k:DS x){m:CM}{d:Bv}(e:Fc (b.rs.getLastD []) b.t x=some (m,d))(c:¬(8≤x.g.c∧(∀y∈EP b,DM y x)∧¬(DY d b.t∧Dd d b.t=none))):Dw b x=(Gf,210):=by unfold Dw;rw[if_pos h,if_pos k,e];dsimp only;rw[if_neg c]
def Ac0 {b:CQ}{x:BC}(h:DW b)(k:DS x){m:CM}{d:Bv}(e:Fc (b.rs.getLastD []) b.t x=some (m,d))(c:8≤x.g.c∧(∀y∈EP b,DM y x)∧¬(DY d b.t∧Dd d b.t=none)):Dw b x=(⟨b.t,b.rs.dropLast++(m::(Ej m b.t).toList)⟩,0):=by unfold Dw;rw[if_pos h,if_pos k,e];dsimp only;rw[if_pos c];cases Ej m b.t<;>rfl
end Go.Hw
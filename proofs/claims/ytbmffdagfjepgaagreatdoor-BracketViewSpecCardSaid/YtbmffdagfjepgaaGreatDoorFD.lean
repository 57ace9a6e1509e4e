import Derived.Test.YtbmffdagfjepgaaGreatDoorFC
set_option linter.all false
namespace Go.Hw
open Go Go.Lib
def Ny {α:Type}{P:List α→Prop}(h0:P [])(h1:∀l x,P l→P (l++[x]))(l:List α):P l:=by rw[←List.reverse_reverse l];induction l.reverse with|nil=>exact h0|cons x r a=>rw[wZ];exact h1 _ _ a
theorem XY {α:Type}{lt:α→α→Prop}(d:∀a,¬lt a a)(g:∀a b c,lt a b→lt b c→lt a c):∀{a b:List α},a.Pairwise lt→b.Pairwise lt→(∀x,x∈a↔x∈b)→a=b
 |[],[],_,_,_=>rfl
 |[],y::b,_,_,h=>absurd ((h y).2 DX) An
 |x::a,[],_,_,h=>absurd ((h x).1 DX) An
 |x::a,y::b,h1,h2,h=>by
  rw[FD]at h1 h2
  have i:x=y:=by
   rcases Bx.1 ((h x).1 DX)with e|e;{exact e};{rcases Bx.1 ((h y).2 DX)with e2|e2;{exact e2.symm};{exact absurd (g _ _ _ (h2.1 _ e) (h1.1 _ e2)) (d _)}}
  subst i;congr 1;refine XY d g h1.2 h2.2 λz=>?_;have f:=h z;rw[Bx,Bx]at f;constructor;{intro m;rcases f.1 (.inr m)with e|e;{subst e;exact absurd (h1.1 _ m) (d _)};{exact e}};{intro m;rcases f.2 (.inr m)with e|e;{subst e;exact absurd (h2.1 _ m) (d _)};{exact e}}
def Jn:Al:={BQ with day:=-1,mTo:=-1}
def IS (pl:Int) (f:Al):Prop:=f.kind=6∧f.mP=pl∧BT f
open Classical in
noncomputable def SD (pl:Int) (L:Ax):Ax:=L.filter λf=>decide (IS pl f)
def QQ (day:Int) (z x:Al):Al:=if x.day≤day∧(z.day<x.day∨(x.day=z.day∧0<CO x z))then x else z
noncomputable def GS (L:Ax) (pl day:Int):Al:=(SD pl L).foldl (QQ day) Jn
def Jk (day:Int) (S:Al→Prop) (z:Al):Prop:=
 (z=Jn∧∀x,S x→¬x.day≤day)∨(S z∧z.day≤day∧∀x,S x→x.day≤day→x=z∨x.day<z.day∨(x.day=z.day∧Fa x z))
def Jk.uniq {day:Int}{S:Al→Prop}{z b:Al}(h:Jk day S z)(h':Jk day S b):z=b:=by rcases h with⟨rfl,h1⟩|⟨h1,h2,h3⟩;{rcases h' with⟨rfl,_⟩|⟨k1,k2,_⟩;{rfl};{exact absurd k2 (h1 _ k1)}};{rcases h' with⟨rfl,k1⟩|⟨k1,k2,k3⟩;{exact absurd h2 (k1 _ h1)};{rcases h3 b k1 k2 with e|e|⟨e,f⟩;{exact e.symm};{rcases k3 z h1 h2 with a|a|⟨a,c⟩;{exact a};{omega};{omega}};{rcases k3 z h1 h2 with a|a|⟨a,c⟩;{exact a};{omega};{exact absurd (Fa.trans f c) (Fa.irrefl _)}}}}
def Jk.congr {day:Int}{S a:Al→Prop}{z:Al}(b:∀x,S x↔a x)(h:Jk day S z):Jk day a z:=by have:S=a:=funext λx=>propext (b x);rwa [this]at h
def ZD {f:Al}(h:BT f):0≤f.day:=h.1.1
def Avu {day:Int}{ms:Ax}{z x:Al}(hm:∀y∈ms,Iu y)(hx:Iu x)(h:Jk day (· ∈ms) z):Jk day (· ∈ms++[x]) (QQ day z x):=by unfold QQ;split;{rename_i c;refine .inr ⟨An,c.1,λy hy a=>?_⟩;rcases AO.1 hy with hy|hy;{rcases h with⟨rfl,h1⟩|⟨h1,h2,h3⟩;{exact absurd a (h1 _ hy)};{have key:z.day<x.day∨(z.day=x.day∧Fa z x):=c.2.imp id λ⟨e,q⟩=>⟨e.symm,Lf.1 (by have:=Wl x z;omega)⟩;rcases h3 y hy a with e|e|⟨e,f⟩;{subst e;exact .inr key};{rcases key with k|⟨k,_⟩;{exact .inr (.inl J)};{exact .inr (.inl J)}};{rcases key with k|⟨k,g⟩;{exact .inr (.inl J)};{exact .inr (.inr ⟨J,f.trans g⟩)}}}};{rw[Bk]at hy;exact .inl hy}};{rename_i c;rcases h with⟨rfl,h1⟩|⟨h1,h2,h3⟩;{refine .inl ⟨rfl,λy hy=>?_⟩;rcases AO.1 hy with hy|hy;{exact h1 _ hy};{rw[Bk]at hy;subst hy;intro a;have h0:=ZD hx.1;have:Jn.day = -1:=rfl;exact c ⟨a,.inl J⟩}};{refine .inr ⟨xE _ h1,h2,λy hy a=>?_⟩;rcases AO.1 hy with hy|hy;{exact h3 y hy a};{rw[Bk]at hy;subst hy;rcases Fa.tri hx.1 (hm z h1).1 (by rw[hx.2,(hm z h1).2])with t|t|t;{rcases eY y.day z.day with d|d|d;{exact .inr (.inl d)};{exact .inr (.inr ⟨d,t⟩)};{exact absurd ⟨a,.inl d⟩ c}};{exact .inl t};{rcases eY y.day z.day with d|d|d;{exact .inr (.inl d)};{refine absurd ⟨a,.inr ⟨d,?_⟩⟩ c;have:=Lf.2 t;have:=Wl z y;omega};{exact absurd ⟨a,.inl d⟩ c}}}}}
def Au1 {day:Int}(ms:Ax)(hm:∀y∈ms,Iu y):Jk day (· ∈ms) (ms.foldl (QQ day) Jn):=by revert hm;refine Ny (P:=λms=>(∀y∈ms,Iu y)→Jk day (· ∈ms) (ms.foldl (QQ day) Jn)) (λ_=>.inl ⟨rfl,λx hx=>absurd hx An⟩) (λl x a hm=>?_) ms;rw[GL];exact Avu (λy hy=>hm y (by simp[hy])) (hm x An) (a λy hy=>hm y (by simp[hy]))
open Classical in
theorem Acj {pl:Int}{L:Ax}{x:Al}:x∈SD pl L↔x∈L∧IS pl x:=by unfold SD;rw[DQ,decide_eq_true_eq]
def Ako {L:Ax}(a:D' L)(pl day:Int):Jk day (λx=>x∈L∧IS pl x) (GS L pl day):=by refine Jk.congr (λx=>Acj) (Au1 (SD pl L) λy hy=>?_);rw[Acj]at hy;exact⟨hy.2.2.2,a y hy.1⟩
def Kn (pl day:Int) (z x:Al):Al:=if x.kind=6∧x.mP=pl∧x.day≤day∧z.day≤x.day then x else z
def Akm {pl day:Int}(C:Ax)(hs:Gn C)(g:∀f∈C,Iu f):Jk day (λx=>x∈C∧IS pl x) (C.foldl (Kn pl day) Jn):=by
 revert hs g;refine Ny (P:=λC=>Gn C→(∀f∈C,Iu f)→Jk day (λx=>x∈C∧IS pl x) (C.foldl (Kn pl day) Jn)) (λ_ _=>.inl ⟨rfl,λx hx=>absurd hx.1 An⟩) (λl x b hs g=>?_) C;have h:=Oh.1 hs;have b:=b h.1 (λy hy=>g y (by simp[hy]));have hx:=g x An;have j:∀y∈l,Fa y x:=λy hy=>h.2.2 y hy x An;rw[GL];generalize l.foldl (Kn pl day) Jn=z at b;show Jk day _ (Kn pl day z x);unfold Kn;split;{rename_i c;refine .inr ⟨⟨An,c.1,c.2.1,hx.1⟩,c.2.2.1,λy hy a=>?_⟩;rcases AO.1 hy.1 with h1|h1;{rcases b with⟨e,k⟩|⟨m,d,k⟩;{exact absurd a (k y ⟨h1,hy.2⟩)};{have:=c.2.2.2;have i:=j y h1;rcases eY y.day x.day with t|t|t;{exact .inr (.inl t)};{exact .inr (.inr ⟨t,i⟩)};{rcases k y ⟨h1,hy.2⟩ a with e|e|⟨e,_⟩;{subst e;omega};{omega};{omega}}}};{rw[Bk]at h1;exact .inl h1}}
 ·rename_i c;rcases b with⟨rfl,k⟩|⟨m,d,k⟩;{refine .inl ⟨rfl,λy hy a=>?_⟩;rcases AO.1 hy.1 with h1|h1;{exact k y ⟨h1,hy.2⟩ a};{rw[Bk]at h1;subst h1;have h0:=ZD hx.1;have:Jn.day = -1:=rfl;exact c ⟨hy.2.1,hy.2.2.1,a,J⟩}}
  ·refine .inr ⟨⟨by simp[m.1],m.2⟩,d,λy hy a=>?_⟩;rcases AO.1 hy.1 with h1|h1;{exact k y ⟨h1,hy.2⟩ a}
   ·rw[Bk]at h1;subst h1
    exact .inr (.inl (by
     refine JD λt=>c ⟨hy.2.1,hy.2.2.1,a,?_⟩
     omega))
def yB {L:Ax}(a:D' L):∀f∈BR L,Iu f:=λf hf=>by
 have:=((Ip L a).2 f).1 hf
 exact⟨this.2,a f this.1⟩
def Akn {L:Ax}(a:D' L)(pl day:Int):(BR L).foldl (Kn pl day) Jn=GS L pl day:=by have hc:=Ip L a;refine(Akm (pl:=pl) (day:=day) _ hc.1 (yB a)).uniq (Jk.congr (λx=>?_) (Ako a pl day));constructor;{rintro⟨h1,h2⟩;exact⟨(hc.2 x).2 ⟨h1,h2.2.2⟩,h2⟩};{rintro⟨h1,h2⟩;exact⟨((hc.2 x).1 h1).1,h2⟩}
def LO {L:Ax}(c:D' L){g:AL}(h:(CJ L g).kind=2):∃f∈L,BT f∧f.kind=3∧f.sh=(CJ L g).sh∧f.sh.g=g∧0≤(CJ L g).day:=by unfold CJ at h ⊢;cases h0:HH L g 0 with|none=>(rw[h0]at h;cases h1:HH L g 1 with|none=>rw[h1]at h;exact absurd h BO|some b=>rw[h1]at h;exact absurd (show(1:Int)=2 from h) BO)|some a=>rw[h0]at h;cases h1:HH L g 1 with|none=>rw[h1]at h;exact absurd (show(1:Int)=2 from h) BO|some b=>rw[h1]at h;unfold NP at h ⊢;obtain⟨m,q⟩:=ZS c h0;have d:=ZD q.2.1;by_cases hs:Jx a.sh b.sh;{simp only[hs,if_true];exact⟨a,m,q.2.1,q.1,rfl,q.2.2.1,by show(0:Int)≤max a.day b.day;omega⟩};{simp only[hs,if_false]at h;exact absurd h BO}
def Ea (a b:Dn):Prop:=a.day<b.day∨(a.day=b.day∧(a.sh.g.h<b.sh.g.h∨(a.sh.g.h=b.sh.g.h∧a.sh.g.a<b.sh.g.a)))
instance (a b:Dn):Decidable (Ea a b):=by unfold Ea;infer_instance
def Ea.irrefl (a:Dn):¬Ea a a:=by unfold Ea;omega
def Ea.trans (a b c:Dn)(h:Ea a b)(k:Ea b c):Ea a c:=by unfold Ea at *;omega
def AL.ext4 {a b:AL}(h1:a.s=b.s)(h2:a.c=b.c)(h3:a.h=b.h)(c:a.a=b.a):a=b:=by cases a;cases b;simp only at h1 h2 h3 c;subst h1;subst h2;subst h3;subst c;rfl
def Jj (L:Ax) (s c:Int) (ds:Ff):Prop:=ds.Pairwise Ea∧∀x,x∈ds↔∃g:AL,g.s=s∧g.c=c∧CJ L g=x∧x.kind=2
def Jj.uniq {L:Ax}{s c:Int}{a b:Ff}(h:Jj L s c a)(k:Jj L s c b):a=b:=
 XY Ea.irrefl Ea.trans h.1 k.1 λx=>(h.2 x).trans (k.2 x).symm
open Classical in
noncomputable def UX {α:Type} (P:List α→Prop):List α:=if h:∃ds,P ds then h.choose else[]
def bI {α:Type}{P:List α→Prop}{l:List α}(h:P l):P (UX P):=by have hx:∃ds,P ds:=⟨l,h⟩;unfold UX;rw[dif_pos hx];exact hx.choose_spec
noncomputable def Fl (L:Ax) (s c:Int):Ff:=UX (Jj L s c)
def lZ {L:Ax}{s c:Int}{ds:Ff}(h:Jj L s c ds):ds=Fl L s c:=by exact h.uniq (bI h)
structure Pl (L:Ax) (s c:Int) (x:Dn):Prop where
 sheet:GZ x.sh
 score:CJ L x.sh.g=x
 kind:x.kind=2
 day:0≤x.day
 s:x.sh.g.s=s
 c:x.sh.g.c=c
def Tl {L:Ax}(i:D' L){s c:Int}{x:Dn}(h:∃g:AL,g.s=s∧g.c=c∧CJ L g=x∧x.kind=2):Pl L s c x:=by obtain⟨g,h1,h2,rfl,a⟩:=h;obtain⟨f,m,ok,k,e,b,d⟩:=LO i a;(have hg:(CJ L g).sh.g=g:=by rw[←e];exact b);(have hs:GZ (CJ L g).sh:=by{have:=ok.2.2.1;unfold EW at this;rw[if_neg J,if_neg J,if_pos k,e]at this;exact this});exact⟨hs,by rw[hg],a,d,by rw[hg];exact h1,by rw[hg];exact h2⟩
def Jj.ok {L:Ax}(a:D' L){s c:Int}{ds:Ff}(h:Jj L s c ds){x:Dn}(hx:x∈ds):Pl L s c x:=Tl a ((h.2 x).1 hx)
def Ea.tri {L:Ax}{s c:Int}{x y:Dn}(hx:Pl L s c x)(hy:Pl L s c y):Ea x y∨x=y∨Ea y x:=by by_cases h1:Ea x y;{exact .inl h1};by_cases h2:Ea y x;{exact .inr (.inr h2)};refine .inr (.inl ?_);(have e:x.sh.g=y.sh.g:=by{unfold Ea at h1 h2;exact AL.ext4 (by rw[hx.s,hy.s]) (by rw[hx.c,hy.c]) J J});rw[←hx.score,←hy.score,e]
def Avo {L:Ax}(d:D' L){s c:Int}{xs ys:Ff}(hx:∀x,x∈xs↔∃g:AL,g.s=s∧g.c=c∧CJ L g=x∧x.kind=2)(hn:xs.Nodup)(hp:ys.Perm xs)(hs:ys.Pairwise λx y=>¬Ea y x):Jj L s c ys:=by have hm:∀x,x∈ys↔∃g:AL,g.s=s∧g.c=c∧CJ L g=x∧x.kind=2:=λx=>hp.mem_iff.trans (hx x);refine⟨?_,hm⟩;have h2:ys.Nodup:=hp.nodup_iff.2 hn;refine(eH.2 ⟨hs,h2⟩).imp_of_mem λ{a b} e f ⟨i,j⟩=>?_;rcases Ea.tri (Tl d ((hm a).1 e)) (Tl d ((hm b).1 f))with h|h|h;{exact h};{exact absurd h j};{exact absurd h i}
def Jj.len {L:Ax}(d:D' L){s c:Int}{ds:Ff}(h:Jj L s c ds):ds.length≤L.length:=by(have hn:(ds.map λx=>x.sh.g).Nodup:=by{refine Og.2 (h.1.imp_of_mem λ{a b} j l k e=>?_);have n:=h.ok d j;have p:=h.ok d l;(have:a=b:=by rw[←n.score,←p.score,e]);subst this;exact Ea.irrefl _ k});(have:=TI (b:=L.map λf=>f.sh.g) hn λg hg=>by{obtain⟨x,hx,rfl⟩:=CZ.1 hg;have o:=h.ok d hx;obtain⟨f,m,_,_,_,i,_⟩:=LO d (g:=x.sh.g) (by rw[o.score];exact o.kind);exact CZ.2 ⟨f,m,i⟩});simpa using this
def Hh (p:Int) (z:Int×Bool) (c:Jb):Int×Bool:=if c.p=p then(if c.red then(z.1,true)else(min 2 (z.1+1),z.2))else z
def GB (x:DV) (p:Int):Int×Bool:=(x.hc++x.ac).foldl (Hh p) (0,false)
def VW (p:Int)(cs:Fz):∀z:Int×Bool,0≤z.1∧z.1≤2→0≤(cs.foldl (Hh p) z).1∧(cs.foldl (Hh p) z).1≤2:=by induction cs with|nil=>intro z h;exact h|cons c r a=>intro z h;rw[Nf];refine a _ ?_;unfold Hh;split;{split;{exact h};{dsimp only;omega}};{exact h}
def Wk (x:DV)(p:Int):0≤(GB x p).1∧(GB x p).1≤2:=VW p _ (0,false) ⟨BO,BO⟩
theorem Abq {p:Int}:∀{cs:Fz} {z:Int×Bool},(∀c∈cs,c.p≠p)→cs.foldl (Hh p) z=z
 |[],_,_=>rfl
 |c::r,z,h=>by rw[Nf,Abq λd a=>h d (Ey _ a)];unfold Hh;rw[if_neg (h c DX)]
def Axg {x:DV}(hx:GZ x){p:Int}(h1:p∉x.hs)(h2:p∉x.asn):GB x p=(0,false):=by obtain⟨_,_,_,_,_,_,_,hc,ac,_⟩:=hx;refine Abq λc a=>?_;rcases AO.1 a with q|q;{intro e;exact h1 (e▸hc.2 c q)};{intro e;exact h2 (e▸ac.2 c q)}
def Iv (x:DV) (ms:He):Prop:=(ms.Pairwise λa b=>a.1<b.1)∧∀m:Int×Int,m∈ms↔(m.1∈x.hs∧m.2=x.g.h)∨(m.1∈x.asn∧m.2=x.g.a)
def Iv.uniq {x:DV}{a b:He}(h:Iv x a)(k:Iv x b):a=b:=
 XY (lt:=λa b:Int×Int=>a.1<b.1) (λa=>by omega) (λa b c h1 h2=>by omega) h.1 k.1 λm=>(h.2 m).trans (k.2 m).symm
noncomputable def Ex (x:DV):He:=UX (Iv x)
def dV {x:DV}{ms:He}(h:Iv x ms):ms=Ex x:=by exact h.uniq (bI h)
def Iv.here {x:DV}{ms:He}(h:Iv x ms):Iv x (Ex x):=dV h▸h
structure Sh where
 p:Int
 club:Int
 g:AL
deriving DecidableEq,Inhabited
abbrev Jd:=List Sh
def Ft (ds:Ff) (p:Int):Int:=ds.foldl (λn x=>n+(GB x.sh p).1) 0
def Wv (ds:Ff)(x:Dn)(p:Int):Ft (ds++[x]) p=Ft ds p+(GB x.sh p).1:=by unfold Ft;rw[GL];rfl
def eA (ds:Ff)(p:Int):0≤Ft ds p∧Ft ds p≤2*(ds.length:Int):=by refine Ny (P:=λds=>0≤Ft ds p∧Ft ds p≤2*(ds.length:Int)) ⟨by simp[Ft],by simp[Ft]⟩ (λl x a=>?_) ds;have:=Wk x.sh p;rw[Wv,Bt,IR];omega
def GP (ds:Ff) (club:Int):Option Dn:=ds.find? λz=>decide (z.sh.g.h=club∨z.sh.g.a=club)
def QZ (n y:Int) (a:Bool):Prop:=a=true∨(n+y) / 5≠n / 5
instance (n y:Int) (red:Bool):Decidable (QZ n y red):=by unfold QZ;infer_instance
def Gc (pre post:Ff) (x:Dn) (m:Int×Int):List Sh:=
 if QZ (Ft pre m.1) (GB x.sh m.1).1 (GB x.sh m.1).2 then(match GP post m.2 with|none=>[]|some z=>[⟨m.1,m.2,z.sh.g⟩])else[]
noncomputable def XP (ds:Ff) (i:Nat):Jd:=(Ex (ds.getD i FL).sh).flatMap (Gc (ds.take i) (ds.drop (i+1)) (ds.getD i FL))
noncomputable def Hj (ds:Ff) (k:Nat):Jd:=(List.range k).flatMap (XP ds)
noncomputable def EV (ds:Ff):Jd:=Hj ds ds.length
def aI (ds:Ff)(k:Nat):Hj ds (k+1)=Hj ds k++XP ds k:=by unfold Hj;rw[List.range_succ,Ep];simp
def Azl (pre post:Ff)(x:Dn)(m:Int×Int):(Gc pre post x m).length≤1:=by unfold Gc;split;{split<;>simp};{simp}
theorem nE {α b:Type}(f:α→List b)(h:∀a,(f a).length≤1):∀l:List α,(l.flatMap f).length≤l.length
 |[]=>by simp
 |a::r=>by have:=nE f h r;have:=h a;rw[Eb,Bt,Do];omega
def gF {x:DV}(hx:GZ x){ms:He}(h:Iv x ms):ms.length≤80:=by
 obtain⟨_,_,_,_,_,h1,h2,_,_,_⟩:=hx;(have hn:ms.Nodup:=h.1.imp λ{a b} c e=>by subst e;omega)
 have:=TI (b:=x.hs.map (λp=>(p,x.g.h))++x.asn.map λp=>(p,x.g.a)) hn (λm hm=>by
  rw[AO,CZ,CZ];rcases(h.2 m).1 hm with⟨q,e⟩|⟨q,e⟩;{exact .inl ⟨m.1,q,by rw[←e]⟩}
  ·exact .inr ⟨m.1,q,by rw[←e]⟩)
 rw[Bt,Dc,Dc]at this;have:=h1.1;have:=h2.1;omega
def Nz (pl day:Int) (r:Cu):Bool:=decide (r.kind=6∧r.player=pl∧r.lo≤day∧day≤r.hi)
noncomputable def MR (C:Ax) (pl day:Int):Bool:=((Ek C).map (·.ru)).any (Nz pl day)
def JO (L:Ax) (S:Jd) (g:AL) (day club p:Int):Prop:=
 ((∃x∈L,IS p x)∧¬(0≤(GS L p day).mTo∧(GS L p day).mTo=club))∨MR (BR L) p day=true∨∃s∈S,s.p=p∧s.g=g
open Classical in
noncomputable def EZ (L:Ax) (S:Jd) (g:AL) (day club:Int) (a:AC):AC:=a.filter λp=>decide (JO L S g day club p)
noncomputable def Hv (L:Ax) (g:AL):AC×List Int:=
 if(CJ L g).kind=2 then(EZ L (EV (Fl L g.s g.c)) g (CJ L g).day g.h (CJ L g).sh.hs,EZ L (EV (Fl L g.s g.c)) g (CJ L g).day g.a (CJ L g).sh.asn)else([],[])
open Classical in
theorem iA (L:Ax)(S:Jd)(g:AL)(day club:Int)(a:AC)(p:Int):EZ L S g day club (a++[p])=if JO L S g day club p then EZ L S g day club a++[p]else EZ L S g day club a:=by unfold EZ;rw[Gl];by_cases h:JO L S g day club p<;>simp[h]
def Tr (L:Ax)(S:Jd)(g:AL)(day club:Int)(a:AC):(EZ L S g day club a).length≤a.length:=Pn _ _
structure A1m (L:Ax) (se co:Int) (t:Sh):Prop where
 kind:(CJ L t.g).kind=2
 s:t.g.s=se
 c:t.g.c=co
 club:t.club=t.g.h∨t.club=t.g.a
 before:∃g:AL,g.s=se∧g.c=co∧(CJ L g).kind=2∧(0<(GB (CJ L g).sh t.p).1∨(GB (CJ L g).sh t.p).2=true)∧g≠t.g∧(CJ L g).day≤(CJ L t.g).day
end Go.Hw
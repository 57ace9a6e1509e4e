import Derived.Test.YtbmffdagfjepgaaGreatDoorHA
import Derived.Lib.ItoaMem
set_option linter.all false
namespace Go.Hw
open Go Go.Lib
def SM (l:Bj):Nat:=l.foldl (λa d=>10*a+(d.toNat-48)) 0
def Avy (l:Bj)(d:UInt8):SM (l++[d])=10*SM l+(d.toNat-48):=by unfold SM;rw[GL];rfl
def Aau (u:Nat):SM (decDigits u)=u:=by induction u using Nat.strongRecOn with|_ u a=>rw[decDigits];split;{rename_i h;(have:(UInt8.ofNat (48+u)).toNat=48+u:=by rw[Wt];omega);simp[SM];omega};{rename_i h;rw[Avy,a (u / 10) (by omega)];(have:(UInt8.ofNat (48+u%10)).toNat=48+u%10:=by rw[Wt];omega);rw[this];omega}
def lY {u v:Nat}(h:decDigits u=decDigits v):u=v:=by rw[←Aau u,h,Aau]
def A0y (c:UInt8):Prop:=c=45∨(48≤c.toNat∧c.toNat≤57)
def dK (u:Nat):∀c∈decDigits u,48≤c.toNat∧c.toNat≤57:=by induction u using Nat.strongRecOn with|_ u a=>rw[decDigits];split;{rename_i h;intro c hc;rw[Bk]at hc;subst hc;rw[Wt];omega};{rename_i h;intro c hc;rw[AO,Bk]at hc;rcases hc with hc|hc;{exact a (u / 10) (by omega) c hc};{subst hc;rw[Wt];omega}}
def Aor (n:Int):∀c∈itoa n,A0y c:=by unfold itoa;split;{intro c hc;rw[Bx]at hc;rcases hc with hc|hc;{exact .inl hc};{exact .inr (dK _ c hc)}};{exactλc hc=>.inr (dK _ c hc)}
def uV {m n:Int}(h:itoa m=itoa n):m=n:=by(have key:∀u v,(45:UInt8)::decDigits u≠decDigits v:=λu v e=>by{have h1:=dK v 45 (by rw[←e];simp);have:(45:UInt8).toNat=45:=rfl;omega});unfold itoa at h;split at h<;>split at h;{have:=lY (LH h).2;omega};{exact absurd h (key _ _)};{exact absurd h.symm (key _ _)};{have:=lY h;omega}
def KO {α:Type} (P:α→Prop) (e:α→Bj):Prop:=∀a b s t,P a→P b→e a++s=e b++t→a=b∧s=t
def KO.mono {α:Type}{P Q:α→Prop}{e:α→Bj}(h:KO Q e)(hp:∀a,P a→Q a):KO P e:=λa b s t c d=>h a b s t (hp a c) (hp b d)
def KO.inj {α:Type}{P:α→Prop}{e:α→Bj}(h:KO P e){a b:α}(c:P a)(d:P b)(f:e a=e b):a=b:=
 (h a b [] [] c d (by rw[f])).1
theorem gU {x:UInt8}:∀{a b s t:Bj},x∉a→x∉b→a++x::s=b++x::t→a=b∧s=t
 |[],[],_,_,_,_,h=>⟨rfl,(LH h).2⟩
 |[],c::b,_,_,_,f,h=>by have:=(LH h).1;subst this;exact absurd DX f
 |c::a,[],_,_,e,_,h=>by have:=(LH h).1;subst this;exact absurd DX e
 |c::a,d::b,s,t,e,f,h=>by obtain⟨h1,h2⟩:=LH h;subst h1;obtain⟨rfl,h3⟩:=gU (λhh=>e (Ey _ hh)) (λhh=>f (Ey _ hh)) h2;exact⟨rfl,h3⟩
def YH {c:UInt8}(h1:c≠45)(h2:57<c.toNat)(n:Int):c∉itoa n:=λh=>by
 rcases Aor n c h with h|h
 · exact h1 h
 · omega
def Bl (n:Int):Bj:=105::(itoa n++[101])
def Du (s:Bj):Bj:=itoa s.length++58::s
def MY:KO (λ_=>True) Bl:=by intro a b s t _ _ h;unfold Bl at h;rw[FW,FW,Ck,Ck]at h;obtain⟨h1,h2⟩:=gU (YH (by decide) (by decide) a) (YH (by decide) (by decide) b) (LH h).2;exact⟨uV h1,h2⟩
def oD:KO (λ_=>True) Du:=by intro a b s t _ _ h;unfold Du at h;rw[Ck,Ck,FW,FW]at h;obtain⟨h1,h2⟩:=gU (YH (by decide) (by decide) _) (YH (by decide) (by decide) _) h;have h3:=uV h1;exact Yn h2 (by omega)
def Ov {α:Type} (e:α→Bj) (l:List α):Bj:=108::(l.flatMap e++[101])
def dC (e:Bj):Prop:=∃c r,e=c::r∧c≠101
def oA {α:Type}{P:α→Prop}{e:α→Bj}(j:KO P e)(i:∀a,P a→dC (e a)):KO (λl=>∀a∈l,P a) (Ov e):=by(have key:∀(a b:List α) (s t:Bj),(∀x∈a,P x)→(∀x∈b,P x)→a.flatMap e++101::s=b.flatMap e++101::t→a=b∧s=t:=by{intro a;induction a with|nil=>(intro b s t _ d h;cases b with|nil=>exact⟨rfl,(LH h).2⟩|cons y b=>obtain⟨c,r,h1,h2⟩:=i y (d y DX);rw[Eb,h1]at h;exact absurd (LH h).1.symm h2)|cons x a k=>intro b s t f d h;cases b with|nil=>(obtain⟨c,r,h1,h2⟩:=i x (f x DX);rw[Eb,h1]at h;exact absurd (LH h).1 h2)|cons y b=>rw[Eb,Eb,Ck,Ck]at h;obtain⟨rfl,h2⟩:=j x y _ _ (f x DX) (d y DX) h;obtain⟨rfl,h3⟩:=k b s t (λz g=>f z (Ey _ g)) (λz g=>d z (Ey _ g)) h2;exact⟨rfl,h3⟩});intro a b s t f d h;unfold Ov at h;rw[FW,FW,Ck,Ck]at h;exact key a b s t f d (LH h).2
def At8 (n:Int):dC (Bl n):=⟨105,_,rfl,by decide⟩
def Axf {α:Type}(e:α→Bj)(l:List α):dC (Ov e l):=⟨108,_,rfl,by decide⟩
def BJ (a b:Int):Int:=if a<b then -1 else if b<a then 1 else 0
def EL:Bj→Bj→Int
 |[],[]=>0
 |[],_::_=> -1
 |_::_,[]=>1
 |a::x,b::y=>if a.toNat<b.toNat then -1 else if b.toNat<a.toNat then 1 else EL x y
theorem Yx:∀{a b:Bj},EL a b=0↔a=b
 |[],[]=>by simp[EL]
 |[],_::_=>by simp[EL]
 |_::_,[]=>by simp[EL]
 |a::x,b::y=>by have c:=@Yx x y;unfold EL;constructor;{intro h;split at h;{cases h};{split at h;{cases h};{have:a=b:=nN.1 (by omega);rw[this,c.1 h]}}};{intro h;obtain⟨h1,h2⟩:=LH h;subst h1;rw[if_neg (by omega),if_neg (by omega)];exact c.2 h2}
theorem hD:∀(a b:Bj),EL b a = - EL a b
 |[],[]=>by simp[EL]
 |[],_::_=>by simp[EL]
 |_::_,[]=>by simp[EL]
 |a::x,b::y=>by have c:=hD x y;unfold EL;by_cases h1:a.toNat<b.toNat;{rw[if_neg (by omega),if_pos h1,if_pos h1];rfl};{by_cases h2:b.toNat<a.toNat;{rw[if_pos h2,if_neg h1,if_pos h2]};{rw[if_neg h2,if_neg h1,if_neg h1,if_neg h2];exact c}}
theorem Aby:∀{a b c:Bj},EL a b<0→EL b c<0→EL a c<0
 |[],[],_,h,_=>by simp[EL]at h
 |_::_,[],_,h,_=>by simp[EL]at h
 |_,_::_,[],_,h=>by simp[EL]at h
 |[],_::_,_::_,_,_=>by simp[EL]
 |a::x,b::y,c::z,h1,h2=>by have d:=@Aby x y z;unfold EL at h1 h2 ⊢;split at h1;{split at h2;{rw[if_pos (by omega)];decide};{split at h2;{omega};{rw[if_pos (by omega)];decide}}};{split at h1;{omega};{split at h2;{rw[if_pos (by omega)];decide};{split at h2;{omega};{rw[if_neg (by omega),if_neg (by omega)];exact d h1 h2}}}}
theorem Abx:∀(a b:Bj),EL a b = -1∨EL a b=0∨EL a b=1
 |[],[]=>by simp[EL]
 |[],_::_=>by simp[EL]
 |_::_,[]=>by simp[EL]
 |a::x,b::y=>by have c:=Abx x y;unfold EL;split;{exact .inl rfl};{split;{exact .inr (.inr rfl)};{exact c}}
structure AL where
 s:Int
 c:Int
 h:Int
 a:Int
deriving DecidableEq,Inhabited
abbrev CY:=List AL
structure Jb where
 p:Int
 red:Bool
deriving DecidableEq,Inhabited
abbrev Fz:=List Jb
structure DV where
 g:AL
 ref:Int
 hg:Int
 ag:Int
 hp:Int
 ap:Int
 hs:AC
 asn:AC
 hc:Fz
 ac:Fz
deriving DecidableEq,Inhabited
structure Cu where
 case:Int
 inst:Int
 kind:Int
 g:AL
 club:Int
 player:Int
 season:Int
 comp:Int
 points:Int
 amount:Int
 hg:Int
 ag:Int
 lo:Int
 hi:Int
deriving DecidableEq,Inhabited
structure Al where
 kind:Int
 day:Int
 known:Int
 eS:Int
 eC:Int
 eClubs:AC
 eRules:Bj
 fg:AL
 venue:Int
 sh:DV
 ru:Cu
 aCase:Int
 aInst:Int
 aSusp:Bool
 mP:Int
 mTo:Int
 lS:Int
 lC:Int
 lO:AC
 void:Bj
deriving DecidableEq,Inhabited
abbrev Ax:=List Al
abbrev IF:=Option Al
def Ga:AL:=⟨0,0,0,0⟩
def IB:DV:=⟨Ga,0,0,0,0,0,[],[],[],[]⟩
def DB:Cu:=⟨0,0,0,Ga,0,0,0,0,0,0,0,0,0,0⟩
def BQ:Al:=⟨0,0,0,0,0,[],[],Ga,0,IB,DB,0,0,false,0,0,0,0,[],List.replicate 32 0⟩
def AY (n a:Int):Prop:=0≤n∧n<a
def DL (g:AL):Prop:=AY g.s 64∧AY g.c 16∧AY g.h 192∧AY g.a 192∧g.h≠g.a
def Ns (l:AC):Prop:=l.Pairwise (· < ·)
def NL (s:Bj):Prop:=s≠[]∧s.length≤24∧(∀c,s.head?=some c→97≤c.toNat∧c.toNat≤122)∧∀c∈s,(97≤c.toNat∧c.toNat≤122)∨(48≤c.toNat∧c.toNat≤57)∨c.toNat=95
def Oc (l:AC):Prop:=l.length≤40∧(∀p∈l,AY p 8192)∧Ns l
def Rp (l:Fz) (a:AC):Prop:=l.length≤40∧∀c∈l,c.p∈a
def GZ (x:DV):Prop:=
 DL x.g∧AY x.ref 2∧AY x.hg 100∧AY x.ag 100∧
 ((x.hp=0∧x.ap=0)∨(8≤x.g.c∧AY x.hp 100∧AY x.ap 100∧x.hp≠x.ap))∧
 Oc x.hs∧Oc x.asn∧Rp x.hc x.hs∧Rp x.ac x.asn∧∀p∈x.hs,p∉x.asn
def SB (x:Al):Prop:=
 AY x.eS 64∧AY x.eC 16∧(2≤x.eClubs.length∧x.eClubs.length≤24∧∀c∈x.eClubs,AY c 192)∧Ns x.eClubs∧(if x.eC<8 then NL x.eRules else x.eRules=[])
def Si (x:Al):Prop:=AY x.lS 64∧AY x.lC 16∧(2≤x.lO.length∧x.lO.length≤24∧∀c∈x.lO,AY c 192)∧x.lO.Nodup
def IT (lo hi:Int):Prop:=0≤lo∧lo≤hi∧hi≤1048576
def GO (r:Cu):Cu:=
 let z:Cu:={DB with case:=r.case,inst:=r.inst,kind:=r.kind}
 if r.kind=1 then{z with g:=r.g,club:=r.club}
 else if r.kind=2 then{z with g:=r.g}
 else if r.kind=3 then{z with g:=r.g,hg:=r.hg,ag:=r.ag}
 else if r.kind=4 then{z with club:=r.club,season:=r.season,comp:=r.comp,points:=r.points}
 else if r.kind=5 then{z with club:=r.club,lo:=r.lo,hi:=r.hi}
 else if r.kind=6 then{z with player:=r.player,lo:=r.lo,hi:=r.hi}
 else if r.kind=7 then{z with club:=r.club,amount:=r.amount}
 else z
def GY (r:Cu):Prop:=
 if r.kind=1 then DL r.g∧(r.club=r.g.h∨r.club=r.g.a)
 else if r.kind=2 then DL r.g
 else if r.kind=3 then DL r.g∧AY r.hg 100∧AY r.ag 100
 else if r.kind=4 then AY r.club 192∧AY r.season 64∧AY r.comp 16∧1≤r.points∧r.points≤99
 else if r.kind=5 then AY r.club 192∧IT r.lo r.hi
 else if r.kind=6 then AY r.player 8192∧IT r.lo r.hi
 else if r.kind=7 then AY r.club 192∧1≤r.amount∧r.amount≤1125899906842624
 else r.kind=8
def Gm (r:Cu):Prop:=1≤r.case∧r.case≤1048576∧1≤r.inst∧r.inst≤3∧GY r∧GO r=r
def HZ (f:Al):Al:=
 let z:Al:={BQ with kind:=f.kind,day:=f.day,known:=f.known}
 if f.kind=1 then{z with eS:=f.eS,eC:=f.eC,eClubs:=f.eClubs,eRules:=f.eRules}
 else if f.kind=2 then{z with fg:=f.fg,venue:=f.venue}
 else if f.kind=3 then{z with sh:=f.sh}
 else if f.kind=4 then{z with ru:=f.ru}
 else if f.kind=5 then{z with aCase:=f.aCase,aInst:=f.aInst,aSusp:=f.aSusp}
 else if f.kind=6 then{z with mP:=f.mP,mTo:=f.mTo}
 else if f.kind=7 then{z with lS:=f.lS,lC:=f.lC,lO:=f.lO}
 else{z with void:=f.void}
def EW (f:Al):Prop:=
 if f.kind=1 then SB f
 else if f.kind=2 then DL f.fg∧AY f.venue 4096
 else if f.kind=3 then GZ f.sh
 else if f.kind=4 then Gm f.ru
 else if f.kind=5 then 1≤f.aCase∧f.aCase≤1048576∧1≤f.aInst∧f.aInst<3
 else if f.kind=6 then AY f.mP 8192∧(f.mTo = -1∨AY f.mTo 192)
 else if f.kind=7 then Si f
 else f.kind=8
def BT (f:Al):Prop:=AY f.day 1048577∧AY f.known 1048577∧EW f∧HZ f=f
def DK (l:AC):Bj:=Ov Bl l
def GU (g:AL):AC:=[g.s,g.c,g.h,g.a]
def Ki (c:Jb):AC:=[c.p,if c.red then 1 else 0]
def IU (l:Fz):Bj:=Ov (λc=>DK (Ki c)) l
def NB (l:AC):Bj:=l.flatMap Bl
def RC (f:Al):List UInt8:=
 if f.kind=1 then Bl f.eS++(Bl f.eC++(DK f.eClubs++Du f.eRules))
 else if f.kind=2 then DK (GU f.fg)++Bl f.venue
 else if f.kind=3 then DK (GU f.sh.g)++(NB [f.sh.ref,f.sh.hg,f.sh.ag,f.sh.hp,f.sh.ap]++(DK f.sh.hs++(DK f.sh.asn++(IU f.sh.hc++IU f.sh.ac))))
 else if f.kind=4 then NB [f.ru.case,f.ru.inst,f.ru.kind]++(DK (GU f.ru.g)++NB [f.ru.club,f.ru.player,f.ru.season,f.ru.comp,f.ru.points,f.ru.amount,f.ru.hg,f.ru.ag,f.ru.lo,f.ru.hi])
 else if f.kind=5 then NB [f.aCase,f.aInst,if f.aSusp then 1 else 0]
 else if f.kind=6 then NB [f.mP,f.mTo]
 else if f.kind=7 then Bl f.lS++(Bl f.lC++DK f.lO)
 else Du f.void
def Ev (f:Al):List UInt8:=
 100::(Du "day".toUTF8.data.toList++(Bl f.day++(Du "kind".toUTF8.data.toList++(Bl f.kind++(Du "known".toUTF8.data.toList++(Bl f.known++(Du "what".toUTF8.data.toList++(108::(RC f++[101]++[101])))))))))
def Pg:KO (λ_=>True) DK:=(oA MY λa _=>At8 a).mono λ_ _ _ _=>trivial
def Vj {l m:AC}{s t:Bj}(c:l.length=m.length)(h:NB l++s=NB m++t):l=m∧s=t:=by induction l generalizing m with|nil=>(cases m with|nil=>exact⟨rfl,h⟩|cons _ _=>cases c)|cons a l d=>cases m with|nil=>(cases c)|cons b m=>unfold NB at h;rw[Eb,Eb,Ck,Ck]at h;obtain⟨rfl,h2⟩:=MY a b _ _ trivial trivial h;obtain⟨rfl,h3⟩:=d (by simpa using c) h2;exact⟨rfl,h3⟩
def Atq {a b:Jb}(h:Ki a=Ki b):a=b:=by obtain⟨p,r⟩:=a;obtain⟨q,t⟩:=b;simp only[Ki,Kb,and_true]at h;obtain⟨rfl,h2⟩:=h;cases r<;>cases t<;>simp_all
def iH {a b:AL}(h:GU a=GU b):a=b:=by obtain⟨_,_,_,_⟩:=a;obtain⟨_,_,_,_⟩:=b;simp_all[GU]
def Atn:KO (λ_=>True) (λc:Jb=>DK (Ki c)):=λa b s t _ _ h=>by
 obtain⟨h1,h2⟩:=Pg _ _ _ _ trivial trivial h
 exact⟨Atq h1,h2⟩
def xY:KO (λ_=>True) IU:=(oA Atn λa _=>Axf _ _).mono λ_ _ _ _=>trivial
def Axo {a b:Al}{s t:Bj}(j:a.kind=b.kind)(hv:a.void.length=b.void.length)(h:RC a++s=RC b++t)(i:a.day=b.day)(hn:a.known=b.known):HZ a=HZ b∧s=t:=by unfold RC at h;unfold HZ;rw[←j]at h ⊢;rw[←i,←hn];dsimp only;by_cases h1:a.kind=1;{rw[if_pos h1,if_pos h1]at h ⊢;simp only[Ck]at h;obtain⟨e1,h⟩:=MY _ _ _ _ trivial trivial h;obtain⟨e2,h⟩:=MY _ _ _ _ trivial trivial h;obtain⟨c,h⟩:=Pg _ _ _ _ trivial trivial h;obtain⟨d,h⟩:=oD _ _ _ _ trivial trivial h;rw[e1,e2,c,d];exact⟨rfl,h⟩};rw[if_neg h1,if_neg h1]at h ⊢;by_cases h1:a.kind=2;{rw[if_pos h1,if_pos h1]at h ⊢;simp only[Ck]at h;obtain⟨e1,h⟩:=Pg _ _ _ _ trivial trivial h;obtain⟨e2,h⟩:=MY _ _ _ _ trivial trivial h;rw[iH e1,e2];exact⟨rfl,h⟩};rw[if_neg h1,if_neg h1]at h ⊢;by_cases h1:a.kind=3;{rw[if_pos h1,if_pos h1]at h ⊢;simp only[Ck]at h;obtain⟨e1,h⟩:=Pg _ _ _ _ trivial trivial h;obtain⟨e2,h⟩:=Vj (by rfl) h;obtain⟨c,h⟩:=Pg _ _ _ _ trivial trivial h;obtain⟨d,h⟩:=Pg _ _ _ _ trivial trivial h;obtain⟨k,h⟩:=xY _ _ _ _ trivial trivial h;obtain⟨l,h⟩:=xY _ _ _ _ trivial trivial h;have g:=iH e1;(have:a.sh=b.sh:=by{cases e:a.sh;cases f:b.sh;simp_all});rw[this];exact⟨rfl,h⟩};rw[if_neg h1,if_neg h1]at h ⊢;by_cases h1:a.kind=4;{rw[if_pos h1,if_pos h1]at h ⊢;simp only[Ck]at h;obtain⟨e1,h⟩:=Vj (by rfl) h;obtain⟨e2,h⟩:=Pg _ _ _ _ trivial trivial h;obtain⟨c,h⟩:=Vj (by rfl) h;have g:=iH e2;(have:a.ru=b.ru:=by{cases e:a.ru;cases f:b.ru;simp_all});rw[this];exact⟨rfl,h⟩};rw[if_neg h1,if_neg h1]at h ⊢;by_cases h1:a.kind=5;{rw[if_pos h1,if_pos h1]at h ⊢;obtain⟨e1,h⟩:=Vj (by rfl) h;simp only[Kb,and_true]at e1;obtain⟨e1,e2,c⟩:=e1;(have:a.aSusp=b.aSusp:=by{cases e:a.aSusp<;>cases f:b.aSusp<;>simp_all});rw[e1,e2,this];exact⟨rfl,h⟩};rw[if_neg h1,if_neg h1]at h ⊢;by_cases h1:a.kind=6;{rw[if_pos h1,if_pos h1]at h ⊢;obtain⟨e1,h⟩:=Vj (by rfl) h;simp only[Kb,and_true]at e1;rw[e1.1,e1.2];exact⟨rfl,h⟩};rw[if_neg h1,if_neg h1]at h ⊢;by_cases h1:a.kind=7;{rw[if_pos h1,if_pos h1]at h ⊢;simp only[Ck]at h;obtain⟨e1,h⟩:=MY _ _ _ _ trivial trivial h;obtain⟨e2,h⟩:=MY _ _ _ _ trivial trivial h;obtain⟨c,h⟩:=Pg _ _ _ _ trivial trivial h;rw[e1,e2,c];exact⟨rfl,h⟩};rw[if_neg h1,if_neg h1]at h ⊢;obtain⟨e1,h⟩:=oD _ _ _ _ trivial trivial h;rw[e1];exact⟨rfl,h⟩
def Aqs {a b:Al}(d:BT a)(e:BT b)(hv:a.void.length=b.void.length)(h:Ev a=Ev b):a=b:=by unfold Ev at h;have h:=(LH h).2;have h:=(Yn h rfl).2;obtain⟨e1,h⟩:=MY _ _ _ _ trivial trivial h;have h:=(Yn h rfl).2;obtain⟨e2,h⟩:=MY _ _ _ _ trivial trivial h;have h:=(Yn h rfl).2;obtain⟨c,h⟩:=MY _ _ _ _ trivial trivial h;have h:=(Yn h rfl).2;have h:=(LH h).2;simp only[Ck]at h;have:=(Axo e2 hv h e1 c).1;rw[d.2.2.2,e.2.2.2]at this;exact this
open Go
instance (n m:Int):Decidable (AY n m):=by unfold AY;infer_instance
instance (g:AL):Decidable (DL g):=by unfold DL;infer_instance
def CO (a b:Al):Int:=
 if BJ a.known b.known≠0 then BJ a.known b.known
 else if BJ a.day b.day≠0 then BJ a.day b.day
 else if BJ a.kind b.kind≠0 then BJ a.kind b.kind
 else EL (Ev a) (Ev b)
def QF {a b:Int}:BJ a b=0↔a=b:=by unfold BJ;split;{constructor;{intro h;cases h};{intro h;omega}};{split;{constructor;{intro h;cases h};{intro h;omega}};{constructor;{intro _;omega};{intro _;rfl}}}
def hH (a b:Int):BJ b a = - BJ a b:=by unfold BJ;by_cases h1:a<b;{rw[if_neg (by omega),if_pos h1,if_pos h1];rfl};{by_cases h2:b<a;{rw[if_pos h2,if_neg h1,if_pos h2]};{rw[if_neg h2,if_neg h1,if_neg h1,if_neg h2];rfl}}
def UY {a b:Int}:BJ a b<0↔a<b:=by unfold BJ;split;{exact⟨λ_=>by assumption,λ_=>by decide⟩};{split;{exact⟨λh=>by omega,λh=>by omega⟩};{exact⟨λh=>by omega,λh=>by omega⟩}}
def Fa (a b:Al):Prop:=a.known<b.known∨(a.known=b.known∧(a.day<b.day∨(a.day=b.day∧(a.kind<b.kind∨(a.kind=b.kind∧EL (Ev a) (Ev b)<0)))))
def Lf {a b:Al}:CO a b<0↔Fa a b:=by unfold CO Fa;have e1:=@QF a.known b.known;have e2:=@QF a.day b.day;have c:=@QF a.kind b.kind;have l1:=@UY a.known b.known;have l2:=@UY a.day b.day;have l3:=@UY a.kind b.kind;by_cases h1:BJ a.known b.known=0;{rw[if_neg (λh=>h h1)];by_cases h2:BJ a.day b.day=0;{rw[if_neg (λh=>h h2)];by_cases h3:BJ a.kind b.kind=0;{rw[if_neg (λh=>h h3)];have:=e1.1 h1;have:=e2.1 h2;have:=c.1 h3;constructor;{intro h;exact .inr ⟨by assumption,.inr ⟨by assumption,.inr ⟨by assumption,h⟩⟩⟩};{rintro(h|⟨_,h|⟨_,h|⟨_,h⟩⟩⟩);{omega};{omega};{omega};{exact h}}};{rw[if_pos h3,l3];have:=e1.1 h1;have:=e2.1 h2;constructor;{intro h;exact .inr ⟨by assumption,.inr ⟨by assumption,.inl h⟩⟩};{rintro(h|⟨_,h|⟨_,h|⟨h,_⟩⟩⟩);{omega};{omega};{exact h};{exact absurd (c.2 h) h3}}}};{rw[if_pos h2,l2];have:=e1.1 h1;constructor;{intro h;exact .inr ⟨by assumption,.inl h⟩};{rintro(h|⟨_,h|⟨h,_⟩⟩);{omega};{exact h};{exact absurd (e2.2 h) h2}}}};{rw[if_pos h1,l1];constructor;{exact .inl};{rintro(h|⟨h,_⟩);{exact h};{exact absurd (e1.2 h) h1}}}
def Wl (a b:Al):CO b a = - CO a b:=by unfold CO;rw[hH a.known,hH a.day,hH a.kind,hD (Ev a)];(have k:∀n:Int,(-n≠0)↔(n≠0):=λn=>by omega);simp only[k];split;{rfl};{split;{rfl};{split<;>rfl}}
def Wm {a b:Al}(c:BT a)(d:BT b)(hv:a.void.length=b.void.length):CO a b=0↔a=b:=by constructor;{intro h;unfold CO at h;split at h;{contradiction};{split at h;{contradiction};{split at h;{contradiction};{exact Aqs c d hv (Yx.1 h)}}}};{rintro rfl;unfold CO;rw[if_neg (λh=>h (QF.2 rfl)),if_neg (λh=>h (QF.2 rfl)),if_neg (λh=>h (QF.2 rfl))];exact Yx.2 rfl}
def Fa.trans {a b c:Al}(h1:Fa a b)(h2:Fa b c):Fa a c:=by rcases h1 with h1|⟨e1,h1⟩<;>rcases h2 with h2|⟨e2,h2⟩;{exact .inl (by omega)};{exact .inl (by omega)};{exact .inl (by omega)};refine .inr ⟨by omega,?_⟩;rcases h1 with h1|⟨d,h1⟩<;>rcases h2 with h2|⟨e,h2⟩;{exact .inl (by omega)};{exact .inl (by omega)};{exact .inl (by omega)};refine .inr ⟨by omega,?_⟩;rcases h1 with h1|⟨g1,h1⟩<;>rcases h2 with h2|⟨f,h2⟩;{exact .inl (by omega)};{exact .inl (by omega)};{exact .inl (by omega)};exact .inr ⟨by omega,Aby h1 h2⟩
def Fa.irrefl (a:Al):¬Fa a a:=λh=>by
 have:=Lf.2 h
 have h2:=Wl a a
 omega
def Fa.tri {a b:Al}(c:BT a)(d:BT b)(hv:a.void.length=b.void.length):Fa a b∨a=b∨Fa b a:=by have h:=Wl a b;by_cases h1:CO a b<0;{exact .inl (Lf.1 h1)};{by_cases h2:CO a b=0;{exact .inr (.inl ((Wm c d hv).1 h2))};{exact .inr (.inr (Lf.1 (by omega)))}}
def Iu (f:Al):Prop:=BT f∧f.void.length=32
def JQ (x:Al):Ax→Ax
 |[]=>[x]
 |y::r=>if CO y x<0 then y::JQ x r else if y=x then y::r else x::y::r
def uQ {x z:Al}{l:Ax}:z∈JQ x l↔z=x∨z∈l:=by induction l with|nil=>simp[JQ]|cons y r a=>unfold JQ;split;{rw[Bx,a,Bx];constructor;{rintro(h|h|h);{exact .inr (.inl h)};{exact .inl h};{exact .inr (.inr h)}};{rintro(h|h|h);{exact .inr (.inl h)};{exact .inl h};{exact .inr (.inr h)}}};{split;{rename_i h;subst h;exact⟨.inr,λh=>by rcases h with h|h;subst h;exact DX;exact h⟩};{exact Bx}}
def Gn (l:Ax):Prop:=l.Pairwise Fa
theorem Axw {x:Al}(hx:Iu x){l:Ax}(b:∀y∈l,Iu y)(hs:Gn l):Gn (JQ x l):=by
 unfold Gn at hs ⊢;induction l with
 |nil=>simp[JQ]
 |cons y r c=>
  rw[FD]at hs;have hy:=b y DX;unfold JQ;split;{rename_i h;rw[FD];refine⟨λz a=>?_,c (λw hw=>b w (Ey _ hw)) hs.2⟩;rcases uQ.1 a with h1|h1;{subst h1;exact Lf.1 h};{exact hs.1 z h1}}
  ·split;{rw[FD];exact hs}
   ·rename_i h1 h2
    have h3:Fa x y:=by
     rcases Fa.tri hx.1 hy.1 (by rw[hx.2,hy.2])with h|h|h;{exact h};{exact absurd h.symm h2};{exact absurd (Lf.2 h) h1}
    rw[FD,FD];refine⟨λz a=>?_,hs⟩;rcases Bx.1 a with h|h;{subst h;exact h3};{exact h3.trans (hs.1 z h)}
theorem Ws:∀{a b:Ax},Gn a→Gn b→(∀x,x∈a↔x∈b)→a=b
 |[],[],_,_,_=>rfl
 |[],y::b,_,_,h=>by have:=(h y).2 DX;cases this
 |x::a,[],_,_,h=>by have:=(h x).1 DX;cases this
 |x::a,y::b,c,d,h=>by
  unfold Gn at c d;rw[FD]at c d
  have e:x=y:=by
   rcases Bx.1 ((h x).1 DX)with h1|h1;{exact h1};{rcases Bx.1 ((h y).2 DX)with h2|h2;{exact h2.symm};{exact absurd ((d.1 x h1).trans (c.1 y h2)) (Fa.irrefl _)}}
  subst e
  have:a=b:=Ws c.2 d.2 λz=>by
   constructor;{intro f;rcases Bx.1 ((h z).1 (Ey _ f))with h1|h1;{subst h1;exact absurd (c.1 z f) (Fa.irrefl _)};{exact h1}};{intro f;rcases Bx.1 ((h z).2 (Ey _ f))with h1|h1;{subst h1;exact absurd (d.1 z f) (Fa.irrefl _)};{exact h1}}
  rw[this]
open Classical in
noncomputable def BR (l:Ax):Ax:=l.foldl (λout x=>if BT x then JQ x out else out) []
open Classical in
theorem aV (l:Ax)(x:Al):BR (l++[x])=if BT x then JQ x (BR l)else BR l:=by unfold BR;rw[GL];rfl
def Ip (l:Ax)(a:∀f∈l,f.void.length=32):Gn (BR l)∧∀x,x∈BR l↔x∈l∧BT x:=by(have key:∀n,n≤l.length→Gn (BR (l.take n))∧∀x,x∈BR (l.take n)↔x∈l.take n∧BT x:=by{intro n;induction n with|zero=>intro _;exact⟨by simp[BR,Gn],by simp[BR]⟩|succ n c=>intro hn;obtain⟨h1,h2⟩:=c (by omega);(have b:l.take (n+1)=l.take n++[l[n]]:=by rw[wY]);rw[b,aV];have hm:l[n]∈l:=Po _;generalize l[n]=x at *;split;{rename_i hx;refine⟨Axw ⟨hx,a x hm⟩ (λy hy=>⟨((h2 y).1 hy).2,a y (Mh ((h2 y).1 hy).1)⟩) h1,λz=>?_⟩;rw[uQ,h2,AO,Bk];constructor;{rintro(h|⟨h,h'⟩);{subst h;exact⟨.inr rfl,hx⟩};{exact⟨.inl h,h'⟩}};{rintro⟨h|h,h'⟩;{exact .inr ⟨h,h'⟩};{exact .inl h}}};{rename_i hx;refine⟨h1,λz=>?_⟩;rw[h2,AO,Bk];constructor;{rintro⟨h,h'⟩;exact⟨.inl h,h'⟩};{rintro⟨h|h,h'⟩;{exact⟨h,h'⟩};{subst h;exact absurd h' hx}}}});have:=key l.length (BU _);rw[Ye]at this;exact this
def Ats {a b:Ax}(c:∀f∈a,f.void.length=32)(d:∀f∈b,f.void.length=32)(h:∀x,BT x→(x∈a↔x∈b)):BR a=BR b:=by obtain⟨a1,a2⟩:=Ip a c;obtain⟨b1,b2⟩:=Ip b d;refine Ws a1 b1 λx=>?_;rw[a2,b2];constructor;{rintro⟨h1,h2⟩;exact⟨(h x h2).1 h1,h2⟩};{rintro⟨h1,h2⟩;exact⟨(h x h2).2 h1,h2⟩}
def JL (o:IF) (f:Al):IF:=match o with
 |none=>some f
 |some p=>if CO p f<0 then some f else some p
def LV (l:Ax) (o:IF):Prop:=(o=none∧l=[])∨∃m,o=some m∧m∈l∧∀x∈l,x=m∨Fa x m
def Ayh {l:Ax}{o:IF}{f:Al}(b:∀x∈l,Iu x)(hf:Iu f)(h:LV l o):LV (l++[f]) (JL o f):=by rcases h with⟨rfl,rfl⟩|⟨m,rfl,hm,hx⟩;{exact .inr ⟨f,rfl,by simp,λx h=>by simp at h;exact .inl h⟩};{have a:=b m hm;unfold JL;dsimp only;split;{rename_i h;have h:=Lf.1 h;refine .inr ⟨f,rfl,by simp,λx hx2=>?_⟩;rw[AO,Bk]at hx2;rcases hx2 with h2|h2;{rcases hx x h2 with h3|h3;{subst h3;exact .inr h};{exact .inr (h3.trans h)}};{exact .inl h2}};{rename_i h;refine .inr ⟨m,rfl,by simp[hm],λx hx2=>?_⟩;rw[AO,Bk]at hx2;rcases hx2 with h2|h2;{exact hx x h2};{subst h2;rcases Fa.tri a.1 hf.1 (by rw[a.2,hf.2])with h3|h3|h3;{exact absurd (Lf.2 h3) h};{exact .inl h3.symm};{exact .inr h3}}}}
def LV.uniq {a b:Ax}{o o':IF}(h:LV a o)(h':LV b o')(c:∀x,x∈a↔x∈b):o=o':=by rcases h with⟨rfl,rfl⟩|⟨m,rfl,hm,hx⟩<;>rcases h' with⟨rfl,rfl⟩|⟨d,rfl,e,f⟩;{rfl};{exact absurd ((c d).2 e) (by simp)};{exact absurd ((c m).1 hm) (by simp)};{rcases hx d ((c d).2 e)with h1|h1;{rw[h1]};{rcases f m ((c m).1 hm)with h2|h2;{rw[h2]};{exact absurd (h1.trans h2) (Fa.irrefl _)}}}
def Z' {l:Ax}(hs:Gn l):LV l l.getLast?:=by rcases Ay4 l with rfl|⟨r,x,rfl⟩;{exact .inl ⟨rfl,rfl⟩};{refine .inr ⟨x,by simp,by simp,λy hy=>?_⟩;unfold Gn at hs;rw[Ay7]at hs hy;rw[Oh]at hs;rw[AO,Bk]at hy;rcases hy with hy|hy;{exact .inr (hs.2.2 y hy x (by simp))};{exact .inl hy}}
structure Dn where
 kind:Int
 sh:DV
 day:Int
deriving DecidableEq,Inhabited
abbrev Ff:=List Dn
def FL:Dn:=⟨0,IB,0⟩
def Jx (a b:DV):Prop:={a with ref:=0} = {b with ref:=0}
instance (a b:DV):Decidable (Jx a b):=by unfold Jx;infer_instance
def Jx.symm {a b:DV}(h:Jx a b):Jx b a:=Eq.symm h
def Abi {a b:DV}:Jx a b↔a.g=b.g∧a.hg=b.hg∧a.ag=b.ag∧a.hp=b.hp∧a.ap=b.ap∧a.hs=b.hs∧a.asn=b.asn∧a.hc=b.hc∧a.ac=b.ac:=by unfold Jx;cases a;cases b;simp
def NP:IF→IF→Dn
 |none,none=>FL
 |some a,none=>⟨1,a.sh,a.day⟩
 |none,some b=>⟨1,b.sh,b.day⟩
 |some a,some b=>if Jx a.sh b.sh then⟨2,a.sh,max a.day b.day⟩else⟨3,IB,max a.day b.day⟩
def Sb (g:AL) (r:Int) (f:Al):Prop:=f.kind=3∧BT f∧f.sh.g=g∧f.sh.ref=r
open Classical in
noncomputable def My (l:Ax) (g:AL) (r:Int):Ax:=l.filter λf=>decide (Sb g r f)
noncomputable def HH (l:Ax) (g:AL) (r:Int):IF:=(My l g r).foldl JL none
noncomputable def CJ (l:Ax) (g:AL):Dn:=NP (HH l g 0) (HH l g 1)
theorem Ys:∀(l pre:Ax) (o:IF),(∀f∈pre,Iu f)→(∀f∈l,Iu f)→LV pre o→LV (pre++l) (l.foldl JL o)
 |[],pre,o,_,_,h=>by simpa using h
 |x::l,pre,o,hp,a,h=>by
  have h2:=Ys l (pre++[x]) (JL o x) (λf hf=>by
   rw[AO,Bk]at hf;rcases hf with hf|rfl;{exact hp f hf}
   ·exact a _ DX) (λf hf=>a f (Ey _ hf)) (Ayh hp (a x DX) h)
  rw[Ck]at h2;exact h2
open Classical in
theorem Tt {l:Ax}{g:AL}{r:Int}{f:Al}:f∈My l g r↔f∈l∧Sb g r f:=by unfold My;rw[DQ,decide_eq_true_eq]
def Adi {l:Ax}{g:AL}{r:Int}(a:∀f∈l,f.void.length=32):LV (My l g r) (HH l g r):=
 Ys (My l g r) [] none (λf hf=>absurd hf (by simp)) (λf hf=>⟨(Tt.1 hf).2.2.1,a f (Tt.1 hf).1⟩) (.inl ⟨rfl,rfl⟩)
def ZS {l:Ax}{g:AL}{r:Int}(a:∀f∈l,f.void.length=32){m:Al}(h:HH l g r=some m):m∈l∧Sb g r m:=by rcases Adi (g:=g) (r:=r) a with⟨h1,_⟩|⟨b,h1,h2,_⟩;{rw[h]at h1;cases h1};{rw[h]at h1;injection h1 with h1;subst h1;exact Tt.1 h2}
def jH {f:Al}(b:BT f)(a:f.kind=3):f.sh.ref=0∨f.sh.ref=1:=by have h:=b.2.2.1;unfold EW at h;rw[a]at h;simp only[show¬((3:Int)=1) by decide,show¬((3:Int)=2) by decide,if_false,if_true]at h;have h2:=h.2.1;unfold AY at h2;omega
end Go.Hw
import Derived.Test.YtbmffdagfjepgaaGreatDoorNT
import Derived.Test.YtbmffdagfjepgaaGreatDoorFB
set_option linter.all false
namespace Go.Hw
open Go
def Px (y:Int):Prop:=y%4=0∧(y%100≠0∨y%400=0)
instance (y:Int):Decidable (Px y):=by unfold Px;infer_instance
def Rj (y m:Int):Int:=if m=2 then(if Px y then 29 else 28)else if m=4∨m=6∨m=9∨m=11 then 30 else 31
def OI (y:Int):Int:=if Px y then 366 else 365
def Hf (y:Int):Int:=(y-2000)*365+((y-1) / 4-(y-1) / 100+(y-1) / 400)-484
def At3:Hf 2000=0:=by decide
def fI (y:Int):Hf (y+1)=Hf y+OI y:=by unfold Hf OI;by_cases h:Px y;{rw[if_pos h];unfold Px at h;omega};{rw[if_neg h];unfold Px at h;omega}
def Anf (y:Int):365≤OI y∧OI y≤366:=by unfold OI;split<;>omega
def At1 (y:Int):Hf y<Hf (y+1):=by rw[fI];have:=Anf y;omega
def oG {a b:Int}(h:a≤b):Hf a≤Hf b:=by obtain⟨k,rfl⟩:∃k:Nat,b=a+k:=⟨(b-a).toNat,J⟩;induction k with|zero=>simp|succ k c=>have:=c J;have h2:=At1 (a+k);rw[show a+((k+1:Nat):Int)=a+k+1 by omega];omega
def II (y m:Int):Int:=if m≤1 then 0 else if m=2 then 31 else 31+28+(if Px y then 1 else 0)+(if m=3 then 0 else if m=4 then 31 else if m=5 then 61 else if m=6 then 92 else if m=7 then 122 else if m=8 then 153 else if m=9 then 184 else if m=10 then 214 else if m=11 then 245 else if m=12 then 275 else 306)
def Tp (y m:Int)(h1:1≤m)(h2:m≤12):II y (m+1)=II y m+Rj y m:=by(have:m=1∨m=2∨m=3∨m=4∨m=5∨m=6∨m=7∨m=8∨m=9∨m=10∨m=11∨m=12:=by omega);rcases this with rfl|rfl|rfl|rfl|rfl|rfl|rfl|rfl|rfl|rfl|rfl|rfl<;>simp[II,Rj]<;>split<;>omega
def jY (y:Int):II y 13=OI y:=by simp[II,OI];split<;>omega
def Ang (y m:Int):28≤Rj y m∧Rj y m≤31:=by unfold Rj;split<;>(try split)<;>omega
def Wa {y a b:Int}(h1:1≤a)(h:a≤b)(h2:b≤13):II y a≤II y b:=by obtain⟨k,rfl⟩:∃k:Nat,b=a+k:=⟨(b-a).toNat,J⟩;induction k with|zero=>simp|succ k c=>have:=c J J;have h3:=Tp y (a+k) J J;have d:=Ang y (a+k);rw[show a+((k+1:Nat):Int)=a+k+1 by omega];omega
structure OL (n y m d:Int):Prop where
 lo:Hf y+II y m+d=n+1
 m1:1≤m
 m2:m≤12
 d1:1≤d
 d2:d≤Rj y m
def OL.year {n y m d:Int}(h:OL n y m d):Hf y≤n∧n<Hf (y+1):=by have h1:=Wa (y:=y) (show(1:Int)≤1 by omega) h.m1 (by have:=h.m2;omega);have h2:=Tp y m h.m1 h.m2;have h3:=Wa (y:=y) (show(1:Int)≤m+1 by have:=h.m1;omega) (show m+1≤13 by have:=h.m2;omega) J;rw[jY]at h3;(have e1:II y 1=0:=by simp[II]);have:=h.lo;have:=h.d1;have:=h.d2;rw[fI];omega
def OL.unique {n y m d e c f:Int}(h:OL n y m d)(k:OL n e c f):y=e∧m=c∧d=f:=by
 have hy:y=e:=by
  have a:=h.year;have b:=k.year;by_cases i:y<e;{have:=oG (show y+1≤e by omega);omega};{by_cases g:e<y;{have:=oG (show e+1≤y by omega);omega};{omega}}
 subst hy
 have hm:m=c:=by
  have a:=Tp y m h.m1 h.m2;have b:=Tp y c k.m1 k.m2;have:=h.lo;have:=k.lo;have:=h.d1;have:=h.d2;have:=k.d1;have:=k.d2;have:=h.m1;have:=h.m2;have:=k.m1;have:=k.m2;by_cases i:m<c;{have:=Wa (y:=y) (show(1:Int)≤m+1 by omega) (show m+1≤c by omega) J;omega};{by_cases g:c<m;{have:=Wa (y:=y) (show(1:Int)≤c+1 by omega) (show c+1≤m by omega) J;omega};{omega}}
 subst hm;have:=h.lo;have:=k.lo;exact⟨rfl,rfl,J⟩
def OA:Nat→Int→Int→Int
 |0,y,_=>y
 |k+1,y,n=>if n<Hf (y+1)then y else OA k (y+1) n
theorem wB:∀(k:Nat) (y n:Int),Hf y≤n→n<Hf (y+k)→Hf (OA k y n)≤n∧n<Hf (OA k y n+1)∧y≤OA k y n∧OA k y n≤y+k
 |0,y,n,h1,h2=>by simp at h2;omega
 |k+1,y,n,h1,h2=>by unfold OA;split;{rename_i h;exact⟨h1,h,J,J⟩};{rename_i h;have:=wB k (y+1) n J (by rw[show y+1+(k:Int)=y+((k+1:Nat):Int) by omega];exact h2);exact⟨this.1,this.2.1,J,J⟩}
def MD:Nat→Int→Int→Int→Int
 |0,_,m,_=>m
 |k+1,y,m,n=>if n<II y (m+1)then m else MD k y (m+1) n
theorem jZ:∀(k:Nat) (y m n:Int),II y m≤n→n<II y (m+k)→II y (MD k y m n)≤n∧n<II y (MD k y m n+1)∧m≤MD k y m n∧MD k y m n<m+k
 |0,y,m,n,h1,h2=>by simp at h2;omega
 |k+1,y,m,n,h1,h2=>by unfold MD;split;{rename_i h;exact⟨h1,h,J,J⟩};{rename_i h;have:=jZ k y (m+1) n J (by rw[show m+1+(k:Int)=m+((k+1:Nat):Int) by omega];exact h2);exact⟨this.1,this.2.1,J,J⟩}
def Mt (n:Int):Int:=OA 4000 2000 n
def Rn (n:Int):Int:=MD 12 (Mt n) 1 (n-Hf (Mt n))
def Tf (n:Int):Int:=n-Hf (Mt n)-II (Mt n) (Rn n)+1
def At2:Hf 6000=1460970:=by decide
def Aro {n:Int}(h0:0≤n)(h1:n≤1048576):OL n (Mt n) (Rn n) (Tf n):=by
 have hy:=wB 4000 2000 n (by rw[At3];exact h0) (by rw[show(2000:Int)+(4000:Nat)=6000 by omega,At2];omega)
 have hm:=jZ 12 (Mt n) 1 (n-Hf (Mt n)) (by simp[II];exact hy.1) (by
  rw[show(1:Int)+(12:Nat)=13 by omega,jY];have h2:=hy.2.1;rw[fI]at h2;show n-Hf (OA 4000 2000 n)<OI (OA 4000 2000 n);omega)
 have hs:=Tp (Mt n) (Rn n) hm.2.2.1 (by have:=hm.2.2.2;show MD _ _ _ _≤12;omega);refine⟨by unfold Tf;omega,hm.2.2.1,?_,?_,?_⟩;{have:=hm.2.2.2;show MD _ _ _ _≤12;omega};{have:=hm.1;unfold Tf Rn;omega};{have h3:=hm.2.1;rw[show MD 12 (Mt n) 1 (n-Hf (Mt n))+1=Rn n+1 from rfl,hs]at h3;unfold Tf;omega}
def OL.eq {n y m d:Int}(h0:0≤n)(h1:n≤1048576)(h:OL n y m d):y=Mt n∧m=Rn n∧d=Tf n:=h.unique (Aro h0 h1)
structure Yt where
 lo:Int
 hi:Int
deriving DecidableEq
structure Sa where
 player:Int
 born:Int
 home:Bool
 wage:Int
deriving DecidableEq
structure oF where
 size:Int
 grown:Int
 young:Int
 inn:Int
 out:Int
 cap:Int
 wins:List Yt
def eW (i:Yt):Prop:=0≤i.lo∧i.lo≤1048576∧0≤i.hi∧i.hi≤1048576∧i.lo≤i.hi
instance (i:Yt):Decidable (eW i):=by unfold eW;infer_instance
def oE (q:oF):Prop:=1≤q.size∧q.size≤40∧0≤q.grown∧q.grown≤q.size∧0≤q.young∧q.young≤40∧0≤q.inn∧q.inn≤40∧0≤q.out∧q.out≤40∧0≤q.cap∧q.cap≤1125899906842624∧q.wins.length≤16∧∀w∈q.wins,eW w
instance (q:oF):Decidable (oE q):=by unfold oE;infer_instance
def XF (p:Sa):Prop:=0≤p.player∧p.player≤8191∧0≤p.born∧p.born≤1048576∧0≤p.wage∧p.wage≤1099511627776
instance (p:Sa):Decidable (XF p):=by unfold XF;infer_instance
def vI (l:List Sa):Prop:=(∀p∈l,XF p)∧l.Pairwise λa b=>a.player<b.player
instance (l:List Sa):Decidable (vI l):=by unfold vI;infer_instance
def Ad6 (p:Sa) (day:Int):Prop:=XF p∧p.born≤day∧day≤1048576
instance (p:Sa) (day:Int):Decidable (Ad6 p day):=by unfold Ad6;infer_instance
end Go.Hw
set_option maxRecDepth 100000
set_option maxHeartbeats 1600000
namespace Go.Hw
open Go
attribute [local irreducible] AI Bz BV Aq AP Az Au CH Ap Ar BG
open Go.Proofs.Tryz (prog)
def Anh:Ao:=[O 31,O 28,O 31,O 30,O 31,O 30,O 31,O 31,O 30,O 31,O 30,O 31]
def eU (h:U):Prop:=Au h ⟨0,0,none⟩ Anh
def eU.le {h h':U}(g:eU h)(a:V h h'):eU h':=Au.le a g
def v0:Yt:=⟨0,0⟩
def Tm {α:Type}(d:α){l:List α}{i:Nat}(h:i<l.length):l.getD i d∈l:=by simp[List.getD,Bw h]
end Go.Hw
set_option maxHeartbeats 4000000
namespace Go.Hw
open Go
attribute [local irreducible] AI Bz BV Aq AP Az Au CH Ap Ar BG
open Go.Proofs.Tryz (prog)
def FO {α:Type} (p:α→Bool):List α→Nat→Int
 |[],_=> -1
 |x::r,k=>if p x then k else FO p r (k+1)
def ZX {α:Type}(d:α){xs:List α}{k n:Nat}(b:xs.length=n)(a:k<n):xs.drop k=xs.getD k d::xs.drop (k+1):=by rw[LG J];simp[List.getD,Bw (show k<xs.length by omega)]
def wS (l:AC):Prop:=l.length≤64∧∀n∈l,0≤n∧n≤1125899906842624
instance (l:AC):Decidable (wS l):=by unfold wS;infer_instance
end Go.Hw
namespace Go.Hw
open Go Go.Lib
def CI (n:Int) (f:Al):Prop:=f.kind=4∧f.ru.case=n
instance (n:Int) (f:Al):Decidable (CI n f):=by unfold CI;infer_instance
def Dj (C:Ax) (n:Int):Int:=C.foldl (λm f=>if CI n f then max m f.ru.inst else m) 0
def Gb (C:Ax) (n i:Int):IF:=C.find? λf=>decide (CI n f∧f.ru.inst=i)
def Gz (C:Ax) (n:Int):Prop:=0<Dj C n∧∃f∈C,f.kind=5∧f.aCase=n∧f.aInst=Dj C n∧f.aSusp=true
def IC (n:Int):AC→AC
 |[]=>[n]
 |m::r=>if m<n then m::IC n r else if m=n then m::r else n::m::r
def EB (C:Ax):AC:=C.foldl (λo f=>if f.kind=4 then IC f.ru.case o else o) []
open Classical in
noncomputable def Ek (C:Ax):Ax:=(EB C).filterMap λn=>if Gz C n then none else Gb C n (Dj C n)
theorem fY {n x:Int}:∀{l:AC},x∈IC n l↔x=n∨x∈l
 |[]=>by simp[IC]
 |m::r=>by unfold IC;split;{rw[Bx,fY,Bx];constructor;{rintro(h|h|h);{exact .inr (.inl h)};{exact .inl h};{exact .inr (.inr h)}};{rintro(h|h|h);{exact .inr (.inl h)};{exact .inl h};{exact .inr (.inr h)}}};{split;{rename_i h;subst h;simp};{simp}}
theorem Aea {n:Int}:∀{l:AC},l.Pairwise (· < ·)→(IC n l).Pairwise (· < ·)
 |[],_=>by simp[IC]
 |m::r,h=>by obtain⟨h1,h2⟩:=FD.1 h;unfold IC;split;{rename_i a;refine FD.2 ⟨λx hx=>?_,Aea h2⟩;rcases fY.1 hx with e|e;{rw[e];exact a};{exact h1 x e}};{split;{exact h};{refine FD.2 ⟨λx hx=>?_,h⟩;rcases Bx.1 hx with e|e;{omega};{have:=h1 x e;omega}}}
def Su (C:Ax)(f:Al):EB (C++[f])=if f.kind=4 then IC f.ru.case (EB C)else EB C:=by unfold EB;rw[GL];rfl
def Uj (C:Ax)(f:Al)(n:Int):Dj (C++[f]) n=if CI n f then max (Dj C n) f.ru.inst else Dj C n:=by unfold Dj;rw[GL];rfl
def OS {P:Ax→Prop}(h0:P [])(h1:∀C f,P C→P (C++[f]))(C:Ax):P C:=by(have:∀n,∀C:Ax,C.length=n→P C:=by{intro n;induction n with|zero=>intro C h;rw[eJ.1 h];exact h0|succ n b=>intro C h;(have a:C≠[]:=λe=>by rw[e]at h;cases h);rw[←xR a];exact h1 _ _ (b _ (by rw[List.length_dropLast,h];rfl))});exact this _ C rfl
def Yp (C:Ax):(EB C).Pairwise (· < ·):=by refine OS (P:=λC=>(EB C).Pairwise (· < ·)) List.Pairwise.nil (λC f a=>?_) C;show(EB (C++[f])).Pairwise (· < ·);rw[Su];split;{exact Aea a};{exact a}
def Sl (C:Ax)(n:Int):n∈EB C↔∃f∈C,CI n f:=by
 refine OS (P:=λC=>n∈EB C↔∃f∈C,CI n f) (by simp[EB]) (λC f c=>?_) C;show n∈EB (C++[f])↔_
 have e:(∃g∈C++[f],CI n g)↔(∃g∈C,CI n g)∨CI n f:=by
  constructor;{rintro⟨g,hg,a⟩;rcases AO.1 hg with h|h;{exact .inl ⟨g,h,a⟩};{rw[Bk]at h;subst h;exact .inr a}};{rintro(⟨g,hg,a⟩|a);{exact⟨g,AO.2 (.inl hg),a⟩};{exact⟨f,An,a⟩}}
 rw[e,←c,Su];split;{rename_i b;rw[fY];unfold CI;constructor;{rintro(h|h);{exact .inr ⟨b,h.symm⟩};{exact .inl h}};{rintro(h|h);{exact .inr h};{exact .inl h.2.symm}}};{rename_i b;exact⟨.inl,λh=>h.elim id λh=>absurd h.1 b⟩}
def Anu {C:Ax}{n:Int}:0≤Dj C n∧∀f∈C,CI n f→f.ru.inst≤Dj C n:=by refine OS (P:=λC=>0≤Dj C n∧∀f∈C,CI n f→f.ru.inst≤Dj C n) ⟨Int.le_refl _,An⟩ (λC f d=>?_) C;show 0≤Dj (C++[f]) n∧∀g∈C++[f],CI n g→g.ru.inst≤Dj (C++[f]) n;obtain⟨c,b⟩:=d;rw[Uj];split;{refine⟨J,λg hg a=>?_⟩;rcases AO.1 hg with h|h;{have:=b g h a;omega};{rw[Bk]at h;subst h;omega}};{rename_i hn;refine⟨c,λg hg a=>?_⟩;rcases AO.1 hg with h|h;{exact b g h a};{rw[Bk]at h;subst h;exact absurd a hn}}
def Anv {C:Ax}{n:Int}:Dj C n=0∨∃f∈C,CI n f∧f.ru.inst=Dj C n:=by refine OS (P:=λC=>Dj C n=0∨∃f∈C,CI n f∧f.ru.inst=Dj C n) (.inl rfl) (λC f a=>?_) C;show Dj (C++[f]) n=0∨∃g∈C++[f],CI n g∧g.ru.inst=Dj (C++[f]) n;rw[Uj];split;{rename_i b;rcases Int.le_total (Dj C n) f.ru.inst with h|h;{exact .inr ⟨f,An,b,J⟩};{rw[show max (Dj C n) f.ru.inst=Dj C n by omega];exact a.imp id λ⟨g,hg,h⟩=>⟨g,AO.2 (.inl hg),h⟩}};{exact a.imp id λ⟨g,hg,h⟩=>⟨g,AO.2 (.inl hg),h⟩}
def XU {C:Ax}{n i:Int}{f:Al}(h:Gb C n i=some f):f∈C∧CI n f∧f.ru.inst=i:=by unfold Gb at h;have:=List.find?_some h;exact⟨Ayv h,(of_decide_eq_true this).1,(of_decide_eq_true this).2⟩
def Azh {C:Ax}{n i:Int}(h:Gb C n i=none):∀f∈C,¬(CI n f∧f.ru.inst=i):=λf hf q=>by
 unfold Gb at h
 have:=List.find?_eq_none.1 h f hf
 exact this (decide_eq_true q)
def fO {f:Al}(h:BT f)(a:f.kind=4):1≤f.ru.inst∧f.ru.inst≤3:=by have:=h.2.2.1;unfold EW at this;rw[if_neg J,if_neg J,if_neg J,if_pos a]at this;exact⟨this.2.2.1,this.2.2.2.1⟩
def aH {C:Ax}(c:∀f∈C,BT f){n:Int}(h:∃f∈C,CI n f):0<Dj C n∧∃f,Gb C n (Dj C n)=some f:=by obtain⟨f,hf,a⟩:=h;have h1:=fO (c f hf) a.1;have h2:=(Anu (C:=C) (n:=n)).2 f hf a;(have h0:0<Dj C n:=by omega);refine⟨h0,?_⟩;cases hs:Gb C n (Dj C n)with|some g=>exact⟨g,rfl⟩|none=>rcases Anv (C:=C) (n:=n)with e|⟨g,hg,b,hi⟩;{omega};{exact absurd ⟨b,hi⟩ (Azh hs g hg)}
def Au2 (C:Ax)(f:Al):f∈Ek C↔f∈C∧f.kind=4∧¬Gz C f.ru.case∧Gb C f.ru.case (Dj C f.ru.case)=some f:=by unfold Ek;rw[xD];constructor;{rintro⟨n,hn,e⟩;split at e;{cases e};{rename_i hh;obtain⟨h1,h2,h3⟩:=XU e;have hc:f.ru.case=n:=h2.2;subst hc;exact⟨h1,h2.1,hh,e⟩}};{rintro⟨h1,h2,h3,a⟩;exact⟨f.ru.case,(Sl C _).2 ⟨f,h1,h2,rfl⟩,by rw[if_neg h3];exact a⟩}
def Qp (n:Int) (f:Al):Prop:=¬(f.kind=4∧f.ru.case=n)∧¬(f.kind=5∧f.aCase=n)
instance (n:Int) (f:Al):Decidable (Qp n f):=by unfold Qp;infer_instance
def KU (n:Int) (C:Ax):Ax:=C.filter λf=>decide (Qp n f)
def Axc (n:Int)(C:Ax)(f:Al):KU n (C++[f])=if Qp n f then KU n C++[f]else KU n C:=by unfold KU;rw[Gl];by_cases h:Qp n f<;>simp[h]
def fH {n m:Int}(hm:m≠n){f:Al}(h:CI m f):Qp n f:=⟨λq=>hm (h.2.symm.trans q.2),λq=>by have:=h.1;omega⟩
def Abm {n m:Int}(hm:m≠n)(C:Ax):Dj (KU n C) m=Dj C m:=by refine OS (P:=λC=>Dj (KU n C) m=Dj C m) rfl (λC f a=>?_) C;show Dj (KU n (C++[f])) m=Dj (C++[f]) m;rw[Axc,Uj];split;{rw[Uj,a]};{rename_i h;rw[if_neg (λq=>h (fH hm q)),a]}
def Axe {n m:Int}(hm:m≠n)(C:Ax)(i:Int):Gb (KU n C) m i=Gb C m i:=by unfold Gb KU;rw[List.find?_filter];congr 1;funext f;by_cases h:CI m f∧f.ru.inst=i;{simp[h,fH hm h.1]};{simp[h]}
def Abl {n m:Int}(hm:m≠n)(C:Ax):Gz (KU n C) m↔Gz C m:=by unfold Gz;rw[Abm hm];refine and_congr_right λ_=>⟨λ⟨f,hf,h⟩=>⟨f,(DQ.1 hf).1,h⟩,λ⟨f,hf,h⟩=>⟨f,DQ.2 ⟨hf,decide_eq_true ⟨λq=>?_,λq=>hm (h.2.1.symm.trans q.2)⟩⟩,h⟩⟩;have:=h.1;omega
theorem aG:∀{a b:AC},a.Pairwise (· < ·)→b.Pairwise (· < ·)→(∀x,x∈a↔x∈b)→a=b
 |[],[],_,_,_=>rfl
 |[],y::r,_,_,h=>absurd ((h y).2 An) An
 |x::l,[],_,_,h=>absurd ((h x).1 An) An
 |x::l,y::r,d,f,h=>by
  obtain⟨a1,a2⟩:=FD.1 d;obtain⟨b1,b2⟩:=FD.1 f
  have g:x=y:=by
   rcases Bx.1 ((h x).1 An)with e|e;{exact e};{rcases Bx.1 ((h y).2 An)with e2|e2;{exact e2.symm};{have:=b1 x e;have:=a1 y e2;omega}}
  subst g;rw[aG a2 b2 λz=>⟨λc=>?_,λc=>?_⟩];{rcases Bx.1 ((h z).1 (Ey _ c))with e|e;{have:=a1 z c;omega};{exact e}};{rcases Bx.1 ((h z).2 (Ey _ c))with e|e;{have:=b1 z c;omega};{exact e}}
def Axd (n:Int)(C:Ax):EB (KU n C)=(EB C).filter λm=>decide (m≠n):=by refine aG (Yp _) (Yo _ (Yp C)) λm=>?_;rw[Sl,DQ,Sl,decide_eq_true_eq];constructor;{rintro⟨f,hf,a⟩;obtain⟨h1,h2⟩:=DQ.1 hf;have h3:Qp n f:=of_decide_eq_true h2;exact⟨⟨f,h1,a⟩,λe=>h3.1 ⟨a.1,a.2.trans e⟩⟩};{rintro⟨⟨f,hf,a⟩,hm⟩;exact⟨f,DQ.2 ⟨hf,decide_eq_true (fH hm a)⟩,a⟩}
open Classical in
theorem A1k (n:Int)(C:Ax):Ek (KU n C)=(Ek C).filter λf=>decide (f.ru.case≠n):=by
 unfold Ek;rw[Axd,List.filterMap_filter,List.filter_filterMap];congr 1;funext m;by_cases hm:m=n
 ·subst hm;simp only[ne_eq,not_true_eq_false,decide_false,Ir,if_false];symm;cases h:(if Gz C m then none else Gb C m (Dj C m))with
  |none=>rfl
  |some f=>
   have:f.ru.case=m:=by
    split at h;{cases h};{exact(XU h).2.1.2}
   simp[this]
 ·simp only[ne_eq,hm,not_false_eq_true,decide_true,if_true];rw[Abm hm,Axe hm]
  have a:(if Gz (KU n C) m then none else Gb C m (Dj C m))=(if Gz C m then none else Gb C m (Dj C m)):=by
   by_cases hh:Gz C m;{rw[if_pos hh,if_pos ((Abl hm C).2 hh)]};{rw[if_neg hh,if_neg λq=>hh ((Abl hm C).1 q)]}
  rw[a];cases h:(if Gz C m then none else Gb C m (Dj C m))with
  |none=>rfl
  |some f=>
   have:f.ru.case=m:=by
    split at h;{cases h};{exact(XU h).2.1.2}
   simp[Option.filter,this,hm]
def LK (f:Al):Prop:=f.kind=4∨f.kind=5
instance (f:Al):Decidable (LK f):=by unfold LK;infer_instance
def IM (C:Ax):Ax:=C.filter λf=>decide (LK f)
def Atl (C:Ax)(f:Al):IM (C++[f])=if LK f then IM C++[f]else IM C:=by unfold IM;rw[Gl];by_cases h:LK f<;>simp[h]
def CI.k45 {n:Int}{f:Al}(h:CI n f):LK f:=.inl h.1
def Atk (C:Ax):EB (IM C)=EB C:=by refine OS (P:=λC=>EB (IM C)=EB C) rfl (λC f a=>?_) C;show EB (IM (C++[f]))=EB (C++[f]);rw[Atl,Su];by_cases h:LK f;{rw[if_pos h,Su,a]};{rw[if_neg h,if_neg (λq=>h (.inl q)),a]}
open Go
def FB (l:Ax):IF:=l.foldl (λm f=>match m with|none=>some f|some b=>if 0<CO f b then some f else some b) none
def TH (l:Ax)(f:Al):FB (l++[f])=match FB l with|none=>some f|some b=>if 0<CO f b then some f else some b:=by unfold FB;rw[GL];rfl
def Am1 {l:Ax}{m:Al}(h:FB l=some m):m∈l:=by(have:∀l:Ax,∀m,FB l=some m→m∈l:=λl=>by{refine OS (P:=λl=>∀m,FB l=some m→m∈l) (by intro m h;cases h) (λC f a=>?_) l;intro m h;rw[TH]at h;cases hq:FB C with|none=>(rw[hq]at h;cases h;simp)|some b=>rw[hq]at h;dsimp only at h;split at h;{cases h;simp};{cases h;exact AO.2 (.inl (a _ hq))}});exact this l m h
def Hk (g:AL) (r:Cu):Prop:=r.g=g∧(r.kind=1∨r.kind=2∨r.kind=3)
instance (g:AL) (r:Cu):Decidable (Hk g r):=by unfold Hk;infer_instance
noncomputable def KT (C:Ax) (g:AL):Ax:=(Ek C).filter λf=>decide (Hk g f.ru)
noncomputable def Fx (C:Ax) (g:AL):Cu×Int×Bool:=match FB (KT C g)with
 |none=>(DB,0,false)
 |some f=>(f.ru,f.day,true)
def uT (s c k:Int) (r:Cu):Prop:=r.kind=4∧r.season=s∧r.comp=c∧r.club=k
instance (s c k:Int) (r:Cu):Decidable (uT s c k r):=by unfold uT;infer_instance
def Apq {C:Ax}(b:∀f∈C,BT f){f:Al}(h:f∈Ek C):f∈C∧BT f∧f.kind=4∧Gm f.ru:=by obtain⟨h1,h2,_⟩:=(Au2 C f).1 h;have h3:=b f h1;have a:=h3.2.2.1;unfold EW at a;rw[if_neg J,if_neg J,if_neg J,if_pos h2]at a;exact⟨h1,h3,h2,a⟩
def aP (C:Ax) (f:Al):Prop:=f.kind=4∧Gb C f.ru.case f.ru.inst≠some f
instance (C:Ax) (f:Al):Decidable (aP C f):=by unfold aP;infer_instance
def Aew (C:Ax):Ax:=C.filter λf=>decide (aP C f)
instance (C:Ax) (n:Int):Decidable (Gz C n):=by unfold Gz;infer_instance
def Atr {l:Ax}(a:∀f∈l,f.void.length=32):BR (IM l)=IM (BR l):=by obtain⟨h1,h2⟩:=Ip l a;obtain⟨h3,b⟩:=Ip (IM l) λf hf=>a f (DQ.1 hf).1;refine Ws h3 (Yo _ h1) λx=>?_;rw[b];unfold IM;rw[DQ,DQ,h2];exact⟨λh=>⟨⟨h.1.1,h.2⟩,h.1.2⟩,λh=>⟨⟨h.1.1,h.2⟩,h.1.2⟩⟩
end Go.Hw
import Derived.Test.YtbmffdagfjepgaaGreatDoorXA
import Derived.Test.YtbmffdagfjepgaaGreatDoorRF
import Derived.Test.YtbmffdagfjepgaaGreatDoorVF
set_option linter.all false
set_option maxRecDepth 100000
set_option maxHeartbeats 8000000
namespace Go.Hw
open Go
attribute [local irreducible] AI Bz BV Aq AP Az Au CH Ap Ar BG Cm BP Dg El Ek Fl Ex EV Hj Gc Ft GB GP GS
open Go.Proofs.Tryz
def A0t (h:U)(A:At)(n c:Nat)(l:AN)(hx:Cz h A n l)(hn:n≤65536)(pl day:Int):Az prog 262 #[.slice A n c,O pl,O day] h (λu _=>u=.tuple #[O (if(GS (Ae l) pl day).mTo<0 then 0 else(GS (Ae l) pl day).mTo),.bool (decide (0≤(GS (Ae l) pl day).mTo))]):=by
 refine BB func262 λ_ _=>?_;have i:D' (Ae l):=Rr hx.fat;have hcan:=λh' (o:V h h')=>Qk h' A n c l (hx.le o) hn;rw[←Akn i];generalize BR (Ae l)=C at *;(repeat'(first|refine Aa ?_|(refine Ac ?_;first|(refine RZ ?_;rintro ab h1 v ⟨A3,k3,c3,l3,rfl,hL⟩))|fail));obtain⟨_,a,j⟩:=hL;have p:=a.row.len;have s:=a.small;rw[←j];clear hcan j i;refine Bg (X:=Nat) (λk=>k≤k3) (λk=>k3-k) (λk=>[(10,O k),(9,O ((Ae (l3.take k)).foldl (Kn pl day) Jn).day),(8,O ((Ae (l3.take k)).foldl (Kn pl day) Jn).mTo),(0,.slice A3 k3 c3),(1,O pl),(2,O day)]) (λ_=>[]) (λ_=>h1) 0 J Af Ad rfl ?_;rintro k r f;by_cases e:k<k3
 ·have a1:=a.row.addrD e;have cc:Au h1 ((addrD A3).add (k*F'.size)) (BM (l3.getD k AS)):=a.row.cellsD AS e;have g:=BY AS p e;generalize l3.getD k AS=q at *;have h3:=f (k+1) J J;(have hsn:(Ae (l3.take (k+1))).foldl (Kn pl day) Jn=Kn pl day ((Ae (l3.take k)).foldl (Kn pl day) Jn) q.2:=by rw[g,Nh,GL];rfl);rw[hsn]at h3;generalize(Ae (l3.take k)).foldl (Kn pl day) Jn=z at *;clear f hsn g;unfold Kn at h3;by_cases d:q.2.kind=6∧q.2.mP=pl∧q.2.day≤day∧z.day≤q.2.day
  ·rw[if_pos d]at h3;obtain⟨w,x,y,aa⟩:=d;(repeat'(first|refine AH ?_|refine Z Bf ?_|refine Z HG ?_|(refine Aj ?_;intro b)|(refine Y ?_ ?_<;>intro hc<;>try omega)|refine AF ?_|(refine AG ?_ ?_<;>intro hc<;>try omega)|fail))
   all_goals first
    |omega
    |contradiction
    |(refine AB Af Ad h3)
  ·rw[if_neg d]at h3;(repeat'(first|refine AH ?_|refine Z Bf ?_|refine Z HG ?_|(refine Aj ?_;intro b)|(refine Y ?_ ?_<;>intro hc<;>try omega)|refine AF ?_|(refine AG ?_ ?_<;>intro hc<;>try omega)|fail))
   all_goals first
    |(exfalso;exact d ⟨Cn,Cn,Cn,Cn⟩)
    |omega
    |contradiction
    |(refine AB Af Ad h3)
 ·rw[By J];clear f;generalize((Ae l3).foldl (Kn pl day) Jn).mTo=t at *;by_cases m:t<0
  ·rw[if_pos m,decide_eq_false J];(repeat'(first|refine Aa ?_|(refine Y ?_ ?_<;>intro hc<;>try omega)|fail))
   all_goals first
    |omega
    |(exact EG rfl rfl rfl rfl rfl)
  ·rw[if_neg m,decide_eq_true J];(repeat'(first|refine Aa ?_|(refine Y ?_ ?_<;>intro hc<;>try omega)|fail))
   all_goals first
    |omega
    |(exact EG rfl rfl rfl rfl rfl)
open Classical in
theorem Amp (h:U)(A:At)(n c:Nat)(l:AN)(hx:Cz h A n l)(hn:n≤65536)(pl:Int):Az prog 263 #[.slice A n c,O pl] h (λu _=>u=.bool (decide (∃x∈Ae l,IS pl x))):=by
 refine BB func263 λ_ _=>?_;have o:D' (Ae l):=Rr hx.fat;have hcan:=λh' (s:V h h')=>Qk h' A n c l (hx.le s) hn;have j:=(Ip (Ae l) o).2;(repeat'(first|refine Aa ?_|(refine Ac ?_;first|(refine RZ ?_;rintro af h1 ac ⟨A3,k3,c3,l3,rfl,hL⟩))|fail));obtain⟨_,a,g⟩:=hL;have t:=a.row.len;have ab:=a.small
 have p:(∃x∈Ae l,IS pl x)↔∃q∈l3,q.2.kind=6∧q.2.mP=pl:=by
  constructor;{rintro⟨x,m,q⟩;(have:x∈Ae l3:=by rw[g];exact(j x).2 ⟨m,q.2.2⟩);obtain⟨y,hy,e⟩:=CZ.1 this;exact⟨y,hy,by rw[show y.2=x from e];exact⟨q.1,q.2.1⟩⟩};{rintro⟨y,hy,v,z⟩;(have:y.2∈BR (Ae l):=by rw[←g];exact CZ.2 ⟨y,hy,rfl⟩);have:=(j y.2).1 this;exact⟨y.2,this.1,v,z,this.2⟩}
 have hde:decide (∃x∈Ae l,IS pl x)=decide (∃q∈l3,q.2.kind=6∧q.2.mP=pl):=decide_eq_decide.2 p;rw[hde];clear hcan g o j p hde;refine Bg (X:=Nat) (λk=>k≤k3∧∀q∈l3.take k,¬(q.2.kind=6∧q.2.mP=pl)) (λk=>k3-k) (λk=>[(5,O k),(0,.slice A3 k3 c3),(1,O pl)]) (λ_=>[]) (λ_=>h1) 0 ⟨J,An⟩ Af Ad rfl ?_;rintro k ⟨aa,f⟩ d;by_cases i:k<k3
 ·have a1:=a.row.addrD i;have cc:Au h1 ((addrD A3).add (k*F'.size)) (BM (l3.getD k AS)):=a.row.cellsD AS i;have r:=BY AS t i;have hm:=Ce AS (show k<l3.length by omega);generalize l3.getD k AS=q at *;by_cases b:q.2.kind=6∧q.2.mP=pl
  ·rw[decide_eq_true ⟨q,hm,b⟩];obtain⟨ad,ae⟩:=b;clear d;(repeat'(first|refine Aa ?_|refine Z Bf ?_|refine Z HG ?_|refine Z Cb ?_|(refine Y ?_ ?_<;>intro hc<;>try omega)|refine AF ?_|(refine AG ?_ ?_<;>intro hc<;>try omega)|fail))
   all_goals first
    |omega
    |contradiction
    |(exact BL rfl rfl rfl rfl)
  ·have h3:=d (k+1) ⟨J,λy hy=>by
    rw[r,AO,Bk]at hy;rcases hy with w|w;{exact f y w}
    ·rw[w];exact b⟩ J
   clear d;(repeat'(first|refine Aa ?_|refine Z Bf ?_|refine Z HG ?_|refine Z Cb ?_|(refine Y ?_ ?_<;>intro hc<;>try omega)|refine AF ?_|(refine AG ?_ ?_<;>intro hc<;>try omega)|fail))
   all_goals first
    |(exfalso;exact b ⟨Cn,Cn⟩)
    |omega
    |contradiction
    |(refine AB Af Ad h3)
 ·rw[By J]at f;rw[decide_eq_false (λ⟨q,m,w⟩=>f q m w)];clear d;(repeat'(first|refine Aa ?_|(refine Y ?_ ?_<;>intro hc<;>try omega)|fail))
  all_goals first
   |omega
   |(exact BL rfl rfl rfl rfl)
def Auu (h:U)(A:At)(n c:Nat)(l:AN)(hx:Cz h A n l)(hn:n≤65536)(pl day:Int):Az prog 264 #[.slice A n c,O pl,O day] h (λu _=>u=.bool (MR (BR (Ae l)) pl day)):=by
 refine BB func264 λ_ _=>?_;have e:MR (BR (Ae l)) pl day=((Ek (BR (Ae l))).map (·.ru)).any (Nz pl day):=rfl;rw[e];obtain⟨L,hL⟩:∃L,L=(Ek (BR (Ae l))).map (·.ru):=⟨_,rfl⟩;have i:=λh' (o:V h h')=>Az2 h' A n c l (hx.le o) hn;rw[←hL]at i ⊢;clear hL e;(repeat'(first|refine Aa ?_|(refine Ac ?_;first|(apply AR;exact F;exact Ab func320;exact i _ Ag;rintro y h1 q ⟨A3,c3,a,rfl,hsl,rfl,s⟩))|fail));clear i;refine Bg (X:=Nat) (λk=>k≤a.length∧(a.take k).any (Nz pl day)=false) (λk=>a.length-k) (λk=>[(8,O k),(7,.slice A3 a.length c3),(1,O pl),(2,O day)]) (λ_=>[]) (λ_=>h1) 0 ⟨J,rfl⟩ Af Ad rfl ?_;rintro k ⟨p,g⟩ f;by_cases d:k<a.length
 ·have a1:=hsl.addrD d;have cc:Au h1 ((addrD A3).add (k*iQ.size)) (DH (a.getD k DB)):=hsl.cellsD DB d;have m:=BY DB (xs:=a) rfl d;have hm:=Ce DB d;generalize a.getD k DB=r at *;by_cases b:r.kind=6∧r.player=pl∧r.lo≤day∧day≤r.hi
  ·have j:a.any (Nz pl day)=true:=Uy.2 ⟨r,hm,decide_eq_true b⟩;rw[j];obtain⟨t,v,w,x⟩:=b;clear f;(repeat'(first|refine Aa ?_|refine Z Bf ?_|refine Z Cb ?_|(refine Y ?_ ?_<;>intro hc<;>try omega)|refine AF ?_|(refine AG ?_ ?_<;>intro hc<;>try omega)|fail))
   all_goals first
    |omega
    |contradiction
    |(exact BL rfl rfl rfl rfl)
  ·have h3:=f (k+1) ⟨J,by rw[m,List.any_append,g,List.any_cons,show Nz pl day r=false from decide_eq_false b];rfl⟩ J;clear f;(repeat'(first|refine Aa ?_|refine Z Bf ?_|refine Z Cb ?_|(refine Y ?_ ?_<;>intro hc<;>try omega)|refine AF ?_|(refine AG ?_ ?_<;>intro hc<;>try omega)|fail))
   all_goals first
    |(exfalso;exact b ⟨Cn,Cn,Cn,Cn⟩)
    |omega
    |contradiction
    |(refine AB Af Ad h3)
 ·rw[By J]at g;rw[g];clear f;(repeat'(first|refine Aa ?_|(refine Y ?_ ?_<;>intro hc<;>try omega)|fail))
  all_goals first
   |omega
   |(exact BL rfl rfl rfl rfl)
def oH (h:U)(x y:AA×Dn):Aq prog 348 #[.agg (Eg x).toArray,.agg (Eg y).toArray] h (.bool (decide (Ea x.2 y.2))):=by refine AK func348 λ_ _=>?_;(repeat'(first|refine AH ?_|(refine Aj ?_;intro b)|(refine Y ?_ ?_<;>intro hc<;>try omega)|fail));(all_goals(first|(apply BS;(iterate 3 exact F))));all_goals(refine Cv ?_;(try simp only[Lw,PD,Fb,Tc]at *);unfold Ea;omega)
def nU (h:U)(s:AA)(x:DV)(hx:Ef h s x)(af:x.hc.length≤1000∧x.ac.length≤1000)(p:Int):Az prog 323 #[KV s x,O p] h (λu _=>u=.tuple #[O (GB x p).1,.bool (GB x p).2]):=by
 refine BB func323 λ_ _=>?_;have v:=hx.hc.len;have w:=hx.ac.len;have hh:=hx.hc;have o:=hx.ac;obtain⟨cs,a⟩:∃cs,cs=x.hc++x.ac:=⟨_,rfl⟩;(have l:cs.length=s.hc.n+s.ac.n:=by rw[a,Bt,v,w]);(have t:GB x p=cs.foldl (Hh p) (0,false):=by rw[a];unfold GB;rfl);(repeat'(first|refine Aa ?_|(refine Aj ?_;intro b)|(apply AU (n:=3) 8 [1,2,4,5,99,0,3,6,99,7];kernel_rfl)|(refine Bn ?_;first|(refine Gi ?_;intro ad;refine⟨V.refl _,Ak,?_⟩)|(apply CE (enc:=Fk) (n:=0) (xs:=[]) (ys:=x.hc);(iterate 7 exact F);exact hh.le Ag;exactλ_=>rfl;exactλ_=>En rfl;intro v1;exact Bp;omega;exact F;intro ab c1;refine⟨V.refl _,Ak,?_⟩)|(apply CE (enc:=Fk) (n:=0+s.hc.n) (xs:=[]++x.hc) (ys:=x.ac);(iterate 7 exact F);exact o.le Ag;exactλ_=>rfl;exactλ_=>En rfl;intro v1;exact Bp;omega;exact F;intro f c2;refine⟨V.refl _,Ak,?_⟩))|fail));(all_goals try omega);rw[FE,Dy,←a];refine EE (enc:=Fk) (e:=186) (sz:=2) (n:=s.hc.n+s.ac.n) (xs:=cs) (λ_=>rfl) l Bh ?_;intro ac c7 i ag m ah hs7;cases m;rw[t];refine Bg (X:=Nat) (λk=>k≤s.hc.n+s.ac.n∧0≤((cs.take k).foldl (Hh p) (0,false)).1∧((cs.take k).foldl (Hh p) (0,false)).1≤2) (λk=>s.hc.n+s.ac.n-k) (λk=>[(9,O k),(8,.slice f (s.hc.n+s.ac.n) c2),(6,O ((cs.take k).foldl (Hh p) (0,false)).1),(7,.bool ((cs.take k).foldl (Hh p) (0,false)).2),(1,O p)]) (λ_=>[]) (λ_=>i) 0 ⟨J,VW p (cs.take 0) (0,false) ⟨BO,BO⟩⟩ Af Ad rfl ?_;rintro k ⟨ae,r⟩ d;by_cases c:k<s.hc.n+s.ac.n
 ·have a1:=hs7.addrD c;have cc:Au i ((addrD f).add (k*Tx.size)) (Fk (cs.getD k De)):=hs7.cellsD De c;have g:=BY De l c;generalize cs.getD k De=q at *;(have hsn:(cs.take (k+1)).foldl (Hh p) (0,false)=Hh p ((cs.take k).foldl (Hh p) (0,false)) q:=by rw[g,GL];rfl);have j:=VW p (cs.take (k+1)) (0,false) ⟨BO,BO⟩;have h3:=d (k+1) ⟨J,j⟩ J;rw[hsn]at h3;clear d j hsn g;generalize(cs.take k).foldl (Hh p) (0,false)=z at *;obtain⟨aj,ak⟩:=z;obtain⟨y,aa⟩:=q;dsimp only at r h3 cc;unfold Hh at h3;by_cases hq:y=p
  ·rw[if_pos hq]at h3;cases aa
   ·simp only[Ir,if_false]at h3;(repeat'(first|refine Ba ?_|(apply Aa7;(iterate 3 exact F);intro ai hwn)|refine Eo ?_|refine Z Bf ?_|refine Z HG ?_|refine Z Cb ?_|(refine Y ?_ ?_<;>intro hc<;>try omega)|refine AF ?_|(refine AG ?_ ?_<;>intro hc<;>try omega)|fail))
    all_goals first
     |omega
     |(exfalso;simp at hc;done)
     |(rw[hwn];refine AB Af Ad h3)
   ·rw[if_pos rfl]at h3;dsimp only at h3;(repeat'(first|refine Aa ?_|refine Z Bf ?_|refine Z HG ?_|refine Z Cb ?_|(refine Y ?_ ?_<;>intro hc<;>try omega)|refine AF ?_|(refine AG ?_ ?_<;>intro hc<;>try omega)|fail))
    all_goals first
     |omega
     |(exfalso;simp at hc;done)
     |(refine AB Af Ad h3)
  ·rw[if_neg hq]at h3;dsimp only at h3;(repeat'(first|refine Aa ?_|refine Z Bf ?_|refine Z HG ?_|(refine Y ?_ ?_<;>intro hc<;>try omega)|refine AF ?_|(refine AG ?_ ?_<;>intro hc<;>try omega)|fail))
   all_goals first
    |omega
    |(exfalso;simp at hc;done)
    |(refine AB Af Ad h3)
 ·rw[By J];clear d;(repeat'(first|refine Aa ?_|(refine Y ?_ ?_<;>intro hc<;>try omega)|fail))
  all_goals first
   |omega
   |(exact EG rfl rfl rfl rfl rfl)
structure LC (x:DV) (i k:Nat) (o:He):Prop where
 sorted:o.Pairwise fun a b=>a.1<b.1
 mem:∀m:Int×Int,m∈o↔(m.1∈x.hs.take i∧m.2=x.g.h)∨(m.1∈x.asn.take k∧m.2=x.g.a)
 hs:∀m∈o,∀p∈x.hs.drop i,m.1<p
 asd:∀m∈o,∀p∈x.asn.drop k,m.1<p
 len:o.length=i+k
def LC.zero (x:DV):LC x 0 0 []:=⟨.nil,λm=>by simp,λm hm=>absurd hm An,λm hm=>absurd hm An,rfl⟩
def iJ {l:AC}(h:l.Pairwise (· < ·)){i:Nat}(hi:i<l.length):∀p∈l.drop (i+1),l[i]<p:=λp hp=>by
 rw[←GW i l,LG hi,Oh,FD]at h
 exact h.2.1.1 p hp
def LC.stepH {x:DV}{i k:Nat}{o:He}(h:LC x i k o)(g:x.hs.Pairwise (· < ·))(hi:i<x.hs.length)(j:∀p∈x.asn.drop k,x.hs[i]<p):LC x (i+1) k (o++[(x.hs[i],x.g.h)]):=by(have f:x.hs[i]∈x.hs.drop i:=by rw[LG hi];exact DX);refine⟨Oh.2 ⟨h.sorted,An,λa d b c=>?_⟩,λm=>?_,λm hm p hp=>?_,λm hm p hp=>?_,by rw[Bt,h.len,IR];omega⟩;{rw[Bk]at c;subst c;exact h.hs a d _ f};{rw[AO,Bk,h.mem m,←wY hi,AO,Bk];obtain⟨l,n⟩:=m;simp only[Mb];constructor;{rintro((⟨q,e⟩|q)|⟨e1,e2⟩);{exact .inl ⟨.inl q,e⟩};{exact .inr q};{exact .inl ⟨.inr e1,e2⟩}};{rintro(⟨q|q,e⟩|q);{exact .inl (.inl ⟨q,e⟩)};{exact .inr ⟨q,e⟩};{exact .inl (.inr q)}}};{rcases AO.1 hm with w|w;{exact h.hs m w p (by rw[LG hi];exact Ey _ hp)};{rw[Bk]at w;subst w;exact iJ g hi p hp}};{rcases AO.1 hm with w|w;{exact h.asd m w p hp};{rw[Bk]at w;subst w;exact j p hp}}
def LC.stepA {x:DV}{i k:Nat}{o:He}(h:LC x i k o)(j:x.asn.Pairwise (· < ·))(c:k<x.asn.length)(hi:∀p∈x.hs.drop i,x.asn[k]<p):LC x i (k+1) (o++[(x.asn[k],x.g.a)]):=by(have g:x.asn[k]∈x.asn.drop k:=by rw[LG c];exact DX);refine⟨Oh.2 ⟨h.sorted,An,λa f b d=>?_⟩,λm=>?_,λm hm p hp=>?_,λm hm p hp=>?_,by rw[Bt,h.len,IR];omega⟩;{rw[Bk]at d;subst d;exact h.asd a f _ g};{rw[AO,Bk,h.mem m,←wY c,AO,Bk];obtain⟨l,n⟩:=m;simp only[Mb];constructor;{rintro((q|⟨q,e⟩)|⟨e1,e2⟩);{exact .inl q};{exact .inr ⟨.inl q,e⟩};{exact .inr ⟨.inr e1,e2⟩}};{rintro(q|⟨q|q,e⟩);{exact .inl (.inl q)};{exact .inl (.inr ⟨q,e⟩)};{exact .inr ⟨q,e⟩}}};{rcases AO.1 hm with w|w;{exact h.hs m w p hp};{rw[Bk]at w;subst w;exact hi p hp}};{rcases AO.1 hm with w|w;{exact h.asd m w p (by rw[LG c];exact Ey _ hp)};{rw[Bk]at w;subst w;exact iJ j c p hp}}
def LC.done {x:DV}{i k:Nat}{o:He}(h:LC x i k o)(hi:x.hs.length≤i)(a:x.asn.length≤k):Iv x o:=⟨h.sorted,λm=>by rw[h.mem m,By hi,By a]⟩
def lW {l:AC}{v:Int}(a:l.Pairwise (· < ·)){i:Nat}(h:i<l.length→v<l.getD i 0):∀p∈l.drop i,v<p:=λp hp=>by
 by_cases hi:i<l.length
 · have h1:=h hi
   rw[Dr,Bw hi,IQ]at h1
   rw[LG hi]at hp
   rcases Bx.1 hp with e|e
   · rw[e];exact h1
   · have:=iJ a hi p e
     omega
 · rw[Ym J]at hp
   cases hp
def YM {l:AC}{i:Nat}(hi:i<l.length):l[i]=l.getD i 0:=by simp[List.getD,Bw hi]
def Awd (h:U)(s:AA)(x:DV)(hx:Ef h s x)(ag:GZ x):Az prog 322 #[KV s x] h (λu h'=>∃aa c1 ab c2,u=.tuple #[.slice aa (Ex x).length c1,.slice ab (Ex x).length c2]∧Ai AQ 1 h' aa (Ex x).length ((Ex x).map (·.1))∧Ai AQ 1 h' ab (Ex x).length ((Ex x).map (·.2))):=by
 refine BB func322 λ_ _=>?_;have a4:=hx.hs.len;have a5:=hx.asn.len;obtain⟨⟨l1,_,ah⟩,⟨l2,_,ai⟩⟩:Oc x.hs∧Oc x.asn:=⟨ag.2.2.2.2.2.1,ag.2.2.2.2.2.2.1⟩;have ao:∀p∈x.hs,p∉x.asn:=ag.2.2.2.2.2.2.2.2.2;have hh:=hx.hs;have ac:=hx.asn;(repeat'(first|refine Aa ?_|(refine Aj ?_;intro b)|(refine Ac ?_;first|(refine Gi ?_;intro al))|fail));rename_i aj;generalize al=ak;generalize b=b1;refine Bg (X:=Nat×Nat×He×Nat×At×Nat×At×Nat×U) (λy=>y.1≤s.hs.n∧y.2.1≤s.asn.n∧LC x y.1 y.2.1 y.2.2.1∧y.2.2.2.1=y.1+y.2.1∧V h y.2.2.2.2.2.2.2.2) (λy=>s.hs.n+s.asn.n-(y.1+y.2.1)) (λy=>[(6,O y.1),(7,O y.2.1),(4,.slice y.2.2.2.2.1 y.2.2.2.1 y.2.2.2.2.2.1),(5,.slice y.2.2.2.2.2.2.1 y.2.2.2.1 y.2.2.2.2.2.2.2.1),(1,Dt b1)]) (λy=>[Ar 3 1 (.slice y.2.2.2.2.1 y.2.2.2.1 y.2.2.2.2.2.1) y.2.2.2.1 ((y.2.2.1.map (·.1)).flatMap AQ),Ar 3 1 (.slice y.2.2.2.2.2.2.1 y.2.2.2.1 y.2.2.2.2.2.2.2.1) y.2.2.2.1 ((y.2.2.1.map (·.2)).flatMap AQ),Ap b1 57 (LZ s x)]) (λy=>y.2.2.2.2.2.2.2.2) (0,0,[],0,some (Av aj),0,some (Av ak),0,h) ⟨Ah,Ah,LC.zero x,rfl,V.refl _⟩ Af Ad rfl ?_;rintro⟨i,k,o,m,aa,c1,ab,c2,h1⟩ ⟨hi,aq,t,hm,a⟩ l;dsimp only at hi aq t hm a l ⊢;have a8:=t.len;by_cases ad:i<s.hs.n∨k<s.asn.n
 ·by_cases z:k=s.asn.n∨(i<s.hs.n∧x.hs.getD i 0<x.asn.getD k 0)
  ·(have j:i<s.hs.n:=by omega);have a1:=hh.addrD j;have d1:Au h1 ((addrD s.hs.A).add (i*JG.size)) (AQ (x.hs.getD i 0)):=(hh.cellsD 0 j).le a;have hdr:∀p∈x.asn.drop k,x.hs.getD i 0<p:=lW ai λq=>z.elim (λw=>absurd q J) (λw=>w.2);have hnew:=t.stepH ah J (by rw[YM];exact hdr);rw[YM]at hnew;by_cases v:k<s.asn.n
   ·(have au:x.hs.getD i 0<x.asn.getD k 0:=by omega);have a2:=ac.addrD v;have d2:Au h1 ((addrD s.asn.A).add (k*JG.size)) (AQ (x.asn.getD k 0)):=(ac.cellsD 0 v).le a;clear ad z;generalize x.hs.getD i 0=p at *;generalize x.asn.getD k 0=r at *;(repeat'(first|refine Aa ?_|refine Z Xd ?_|refine Z Qe ?_|(refine Ac ?_;first|(refine Uc ?_;intro b6 af g hs6)|(refine rM ?_;intro b7 c d hs7)|(refine tC ?_;intro A5 c5)|(refine sN ?_;intro A6 f))|(apply AU (n:=6) 25 [0,1,2,3,4,5,6,7,8,9,10,11,12,13,14,15,16,17,18,19,20,21,22,23,24];kernel_rfl)|(apply Be;exact Bd;(first|exact Xd|exact Qe|exact Xe|exact WZ);exact AX)|(refine Db ?_ ?_<;>intro hc<;>try omega)|(refine Y ?_ ?_<;>intro hc<;>try omega)|refine AF ?_|(refine AG ?_ ?_<;>intro hc<;>try omega)|fail))
    all_goals first
     |omega
     |contradiction
     |(
        have h3:=l (i+1,k,o++[(p,x.g.h)],m+1,A5,c5,A6,f,c) ⟨Ah,Ah,hnew,Ah,a.trans (g.trans d)⟩ Ah
        dsimp only at h3
        rw[DI,DI]at h3
        refine AB Af Ad h3)
   ·clear ad z;generalize x.hs.getD i 0=p at *;(repeat'(first|refine Aa ?_|refine Z Xd ?_|refine Z Qe ?_|(refine Ac ?_;first|(refine Uc ?_;intro b6 af g hs6)|(refine rM ?_;intro b7 c d hs7)|(refine tC ?_;intro A5 c5)|(refine sN ?_;intro A6 f))|(apply AU (n:=6) 25 [0,1,2,3,4,5,6,7,8,9,10,11,12,13,14,15,16,17,18,19,20,21,22,23,24];kernel_rfl)|(refine Db ?_ ?_<;>intro hc<;>try omega)|(refine Y ?_ ?_<;>intro hc<;>try omega)|refine AF ?_|(refine AG ?_ ?_<;>intro hc<;>try omega)|fail))
    all_goals first
     |omega
     |contradiction
     |(
        have h3:=l (i+1,k,o++[(p,x.g.h)],m+1,A5,c5,A6,f,c) ⟨Ah,Ah,hnew,Ah,a.trans (g.trans d)⟩ Ah
        dsimp only at h3
        rw[DI,DI]at h3
        refine AB Af Ad h3)
  ·(have v:k<s.asn.n:=by omega);have a2:=ac.addrD v;have d2:Au h1 ((addrD s.asn.A).add (k*JG.size)) (AQ (x.asn.getD k 0)):=(ac.cellsD 0 v).le a;(have ae:i<s.hs.n→x.asn.getD k 0<x.hs.getD i 0:=λq=>by{have h1:x.hs.getD i 0∈x.hs:=Ce 0 J;have h2:x.asn.getD k 0∈x.asn:=Ce 0 J;have h3:x.hs.getD i 0≠x.asn.getD k 0:=λe=>ao _ h1 (e▸h2);omega});have hnew:=t.stepA ai J (by rw[YM];exact lW ah λq=>ae J);rw[YM]at hnew;by_cases j:i<s.hs.n
   ·have au:=ae j;have a1:=hh.addrD j;have d1:Au h1 ((addrD s.hs.A).add (i*JG.size)) (AQ (x.hs.getD i 0)):=(hh.cellsD 0 j).le a;clear ad z ae;generalize x.hs.getD i 0=p at *;generalize x.asn.getD k 0=r at *;(repeat'(first|refine Aa ?_|refine Z Xe ?_|refine Z WZ ?_|(refine Ac ?_;first|(refine sJ ?_;intro b6 af g hs6)|(refine rL ?_;intro b7 c d hs7)|(refine tB ?_;intro A5 c5)|(refine sM ?_;intro A6 f))|(apply AU (n:=6) 25 [0,1,2,3,4,5,6,7,8,9,10,11,12,13,14,15,16,17,18,19,20,21,22,23,24];kernel_rfl)|(apply Be;exact Bd;(first|exact Xd|exact Qe|exact Xe|exact WZ);exact AX)|(refine Db ?_ ?_<;>intro hc<;>try omega)|(refine Y ?_ ?_<;>intro hc<;>try omega)|refine AF ?_|(refine AG ?_ ?_<;>intro hc<;>try omega)|fail))
    all_goals first
     |omega
     |contradiction
     |(
        have h3:=l (i,k+1,o++[(r,x.g.a)],m+1,A5,c5,A6,f,c) ⟨Ah,Ah,hnew,Ah,a.trans (g.trans d)⟩ Ah
        dsimp only at h3
        rw[DI,DI]at h3
        refine AB Af Ad h3)
   ·clear ad z ae;generalize x.asn.getD k 0=r at *;(repeat'(first|refine Aa ?_|refine Z Xe ?_|refine Z WZ ?_|(refine Ac ?_;first|(refine sJ ?_;intro b6 af g hs6)|(refine rL ?_;intro b7 c d hs7)|(refine tB ?_;intro A5 c5)|(refine sM ?_;intro A6 f))|(apply AU (n:=6) 25 [0,1,2,3,4,5,6,7,8,9,10,11,12,13,14,15,16,17,18,19,20,21,22,23,24];kernel_rfl)|(refine Db ?_ ?_<;>intro hc<;>try omega)|(refine Y ?_ ?_<;>intro hc<;>try omega)|refine AF ?_|(refine AG ?_ ?_<;>intro hc<;>try omega)|fail))
    all_goals first
     |omega
     |contradiction
     |(
        have h3:=l (i,k+1,o++[(r,x.g.a)],m+1,A5,c5,A6,f,c) ⟨Ah,Ah,hnew,Ah,a.trans (g.trans d)⟩ Ah
        dsimp only at h3
        rw[DI,DI]at h3
        refine AB Af Ad h3)
 ·have ap:=t.done J J;have ax:=dV ap;rw[←ax];clear l;refine EE (enc:=AQ) (e:=3) (sz:=1) (n:=m) (xs:=o.map (·.1)) (λ_=>rfl) WQ Bh ?_;intro ay c7 c d am a6 hs7;cases am;refine EE (enc:=AQ) (e:=3) (sz:=1) (n:=m) (xs:=o.map (·.2)) (λ_=>rfl) WQ Bh ?_;intro az a0 a3 ar an a7 aw;cases an;(have av:m=o.length:=by omega);subst av;(repeat'(first|refine Aa ?_|(refine Y ?_ ?_<;>intro hc<;>try omega)|refine AF ?_|(refine AG ?_ ?_<;>intro hc<;>try omega)|fail))
  all_goals first
   |omega
   |(exact EG rfl rfl rfl rfl ⟨aa,c1,ab,c2,rfl,hs7.le ar,aw⟩)
def Aot {L:Ax}{s c:Int}{D:Ff}{x:Dn}{n:Nat}(hs:D.Pairwise Ea)(i:∀y∈D,Pl L s c y)(hx:Pl L s c x)(hn:n≤D.length)(h1:∀t,t<n→Ea (D.getD t FL) x)(h2:n<D.length→¬Ea (D.getD n FL) x)(l:x∉D):(D.take n++x::D.drop n).Pairwise Ea:=by
 have hp:=hs;rw[←GW n D,Oh]at hp;obtain⟨o,d,p⟩:=hp;(have k:∀y∈D.take n,Ea y x:=λy hy=>by{obtain⟨t,m,e⟩:=Yk hy;rw[CF]at m;have:=h1 t J;rw[Dr,Bw (show t<D.length by omega),IQ]at this;rw[←e,List.getElem_take];exact this})
 have hhi:∀y∈D.drop n,Ea x y:=λy hy=>by
  by_cases f:n<D.length
  ·have h3:=h2 f;rw[Dr,Bw f,IQ]at h3;have hm:D[n]∈D:=Po _
   have g:Ea x D[n]:=by
    rcases Ea.tri (i _ hm) hx with w|w|w;{exact absurd w h3};{exact absurd (w▸hm) l};{exact w}
   rw[LG f]at hy d;rw[FD]at d;rcases Bx.1 hy with e|e;{rw[e];exact g};{exact Ea.trans _ _ _ g (d.1 y e)}
  {rw[Ym J]at hy;cases hy}
 refine Oh.2 ⟨o,FD.2 ⟨hhi,d⟩,λa h b j=>?_⟩;rcases Bx.1 j with e|e;{rw[e];exact k a h};{exact p a h b e}
def Aou {α:Type}{D:List α}{x y:α}(n:Nat):y∈D.take n++x::D.drop n↔y=x∨y∈D:=by(conv=>rhs;rw[←GW n D]);rw[AO,Bx,AO];constructor;{rintro(h|h|h);{exact .inr (.inl h)};{exact .inl h};{exact .inr (.inr h)}};{rintro(h|h|h);{exact .inr (.inl h)};{exact .inl h};{exact .inr (.inr h)}}
def Aui {L:Ax}(a:D' L){gs:CY}(hn:gs.Nodup){k:Nat}(d:k<gs.length)(h2:(CJ L gs[k]).kind=2):CJ L gs[k]∉JB L (gs.take k):=λhm=>by
 obtain⟨g,hg,e,_⟩:=aT.1 hm
 obtain⟨_,_,_,_,e1,g1,_⟩:=LO a h2
 obtain⟨_,_,_,_,b,c,_⟩:=LO a (g:=g) (by rw[e];exact h2)
 have:g=gs[k]:=by rw[←g1,e1,←e,←b,c]
 rw[←GW k gs,LG d,Fm]at hn
 exact hn.2.2 g hg gs[k] DX this
def Ark (h:U)(A:At)(n c:Nat)(l:AN)(hx:Cz h A n l)(a4:n≤65536)(season comp:Int):Az prog 321 #[.slice A n c,O season,O comp] h (λu h'=>∃A' ab ds,u=.slice A' ds.length ab∧Ai Eg 15 h' A' ds.length ds∧(∀p∈ds,PW h' p)∧Jj (Ae l) season comp (ds.map (·.2))∧ds.length≤n∧ds.length≤ab):=by
 refine BB func321 λ_ _=>?_;have ad:=JC hx;(have bk:(Ae l).length=n:=by unfold Ae;rw[Dc,hx.row.len]);have ax:=λh' (d:V h h')=>Apl h' A n c l (hx.le d) a4 season comp;have hsc:=λh' (d:V h h') g=>gM h' A n c l (hx.le d) a4 g;have br:=Ad8 hx season comp;have ao:=λx=>nF (l:=l) ad (s:=season) (c:=comp) (x:=x);(have bn:(If l season comp).Nodup:=(iI l season comp).imp λ{a b} bh e=>by subst e;exact CC.irrefl _ bh);have az:∀g∈If l season comp,g.s=season∧g.c=comp:=λg hg=>⟨(Ui.1 hg).1,(Ui.1 hg).2.1⟩;rw[show EM l=Ae l from rfl]at hsc;generalize If l season comp=gs at *;generalize hL:Ae l=L at *;clear hL hx;(repeat'(first|refine Aa ?_|(refine Ac ?_;first|(refine RV ?_;intro b1 h1 bs hcs1)|(apply AR;exact F;exact Ab func347;exact ax _ Ag;rintro bv h2 bt ⟨A3,c3,rfl,hsl⟩))|fail));clear ax;refine Bg (X:=Nat×Re×At×Nat×U) (λx=>x.1≤gs.length∧V h2 x.2.2.2.2∧(∀p∈x.2.1,PW x.2.2.2.2 p)∧(x.2.1.map (·.2)).Pairwise Ea∧(∀y,y∈x.2.1.map (·.2)↔y∈JB L (gs.take x.1))∧x.2.1.length≤x.1∧Ai Eg 15 x.2.2.2.2 x.2.2.1 x.2.1.length x.2.1∧x.2.1.length≤x.2.2.2.1) (λx=>gs.length-x.1) (λx=>[(9,O x.1),(8,.slice A3 gs.length c3),(7,.slice x.2.2.1 x.2.1.length x.2.2.2.1),(0,.slice A n c)]) (λx=>[]) (λx=>x.2.2.2.2) (0,[],some (Av b1),0,h2) ⟨Ah,V.refl _,An,An,by simp[JB],An,Ai.nil,BU _⟩ Af Ad rfl ?_;rintro⟨k,out,aa,c4,hh⟩ ⟨bj,aj,af,hso,i,a5,ah,hoc⟩ z;dsimp only at bj aj af hso i a5 ah hoc z ⊢;obtain⟨m,hm⟩:∃m,m=out.length:=⟨_,rfl⟩;rw[←hm]at a5 ah hoc ⊢;by_cases r:k<gs.length
 ·have a1:=hsl.addrD r;have d1:Au hh ((addrD A3).add (k*SO.size)) (CG (gs.getD k Jg)):=(hsl.cellsD Jg r).le aj;have bc:=BY Jg (xs:=gs) rfl r;(have bb:gs.getD k Jg=gs[k]:=by simp[List.getD,Bw r]);have hnew:=Aui ad bn r;have hgm:=az _ (Ce Jg r);rw[←bb]at hnew;generalize gs.getD k Jg=g at *;have ac:=nA L (gs.take k) g;rw[←bc]at ac;have hsg:=λh' (d:V h h')=>hsc h' d g;have ak:(CJ L g).kind=2→Pl L season comp (CJ L g):=λq=>Tl ad ⟨g,hgm.1,hgm.2,rfl,q⟩;(have bg:∀y∈out.map (·.2),Pl L season comp y:=λy hy=>by{have:=(i y).1 hy;obtain⟨au,bi,e1,e2⟩:=aT.1 this;have:=az au (Mh bi);exact Tl ad ⟨au,this.1,this.2,e1,e2⟩});generalize CJ L g=x at *;by_cases ai:x.kind=2
  ·rw[if_pos ai]at ac;have hnew:=hnew ai;have ak:=ak ai;clear ao hsc;(repeat'(first|refine Ba ?_|(apply AE;(iterate 3 exact F);apply Bo (e:=172);exact F;intro aq)|refine BF ?_|refine Z Bf ?_|(refine Z (by apply BA;exact F;exact BH rfl d1 rfl) ?_)|(refine Ac ?_;first|(refine rG ?_;rintro w2 h3 f ⟨s,rfl,hs1,hs2⟩))|(refine Y ?_ ?_<;>intro hc<;>try omega)|fail));(all_goals try omega);have v:=ah.le f;refine Bg (X:=Nat) (λj=>j≤m∧∀t,t<j→Ea ((out.map (·.2)).getD t FL) x) (λj=>m-j) (λj=>[(11,O j),(9,O k),(8,.slice A3 gs.length c3),(7,.slice aa m c4),(10,Dt aq),(0,.slice A n c)]) (λj=>[Ap aq 172 (Eg (s,x))]) (λj=>h3) 0 ⟨J,λt a6=>absurd a6 J⟩ Af Ad rfl ?_;rintro j ⟨hj,av⟩ ap
   have ay:(out.map (·.2)).getD j FL=(out.getD j Ee).2:=by
    rcases KY j out.length with w|w;{simp[List.getD,Bw w]};{simp[List.getD,Mj w];rfl}
   by_cases al:j<m∧Ea (out.getD j Ee).2 x
   ·obtain⟨o,a3⟩:=al;have b1':=v.addrD o;have e1:Au h3 ((addrD aa).add (j*QW.size)) (Eg (out.getD j Ee)):=v.cellsD Ee o;have ag:=oH h3 (out.getD j Ee) (s,x);rw[decide_eq_true a3]at ag
    have ae:=ap (j+1) ⟨J,λt a6=>by
     rcases KY t j with w|w;{exact av t w}
     ·(have:t=j:=by omega)
      subst this;rw[ay];exact a3⟩ J
    generalize out.getD j Ee=y at *;clear ap z;(repeat'(first|refine Aa ?_|(apply AU (n:=9) 12 [0,1,2,3,4,5,6,7,8,9,99,10,99,11];kernel_rfl)|(apply Be;exact Bd;(first|exact pE|(apply BA;exact F;apply BH;exact F;(with_reducible exact e1);exact F));exact AX)|(refine Bn ?_;first|(apply Aw;exact F;exact Ab func348;exact ag;refine⟨V.refl _,Ak,?_⟩))|(refine Db ?_ ?_<;>intro hc<;>try omega)|(refine Y ?_ ?_<;>intro hc<;>try omega)|fail))
    all_goals first
     |omega
     |(refine AB Af Ad ae)
   ·have a2:=Aot hso bg ak (n:=j) WQ av (λq=>by rw[ay];rw[Dc]at q;exactλw=>al ⟨J,w⟩) (λq=>hnew ((i x).1 q));rw[←Yi,←eI]at a2;have a0:=λy=>Aou (D:=out.map (·.2)) (x:=x) (y:=y) j;rw[←Yi,←eI]at a0;clear ap
    have am:=λA' ab h' (d:V h3 h') (hs':Ai Eg 15 h' A' (j+1+(m-j)) (out.take j++[(s,x)]++out.drop j)) (hc':j+1+(m-j)≤ab)=>z (k+1,out.take j++[(s,x)]++out.drop j,A',ab,h') ⟨Ah,aj.trans (f.trans d),λq hq=>by
     rw[Ck,AO,AO,Bk]at hq;rcases hq with w|w|w;{exact(af q (Mh w)).le (f.trans d)};{subst w;exact⟨hs1.le d,hs2⟩}
     ·exact(af q (List.mem_of_mem_drop w)).le (f.trans d),by
     dsimp only;rw[Ck,DI,DI]
     exact a2,λy=>by
     dsimp only;rw[Ck,DI,DI,ac,AO (s:=JB L (gs.take k)),Bk,←i y]
     exact(a0 y).trans or_comm,by dsimp only;simp;omega,by
     (have e:(out.take j++[(s,x)]++out.drop j).length=j+1+(m-j):=by simp;omega);dsimp only
     rw[e];exact hs',by
     (have e:(out.take j++[(s,x)]++out.drop j).length=j+1+(m-j):=by simp;omega);dsimp only
     rw[e];exact hc'⟩ Ah
    (have ar:(out.take j++[(s,x)]++out.drop j).length=j+1+(m-j):=by simp;omega);dsimp only at am;rw[ar]at am;clear z;have hhi:=v.high (hi:=j) (c:=c4) hj hoc;have bl:=v.low (lo:=j) (c:=c4) hj hoc;by_cases o:j<m
    case' pos=>
     have b1':=v.addrD o
     have e1:Au h3 ((addrD aa).add (j*QW.size)) (Eg (out.getD j Ee)):=v.cellsD Ee o
     have ag:=oH h3 (out.getD j Ee) (s,x)
     rw[decide_eq_false (λw=>al ⟨o,w⟩)]at ag
    (all_goals(repeat'(first|refine Aa ?_|(apply AU (n:=9) 12 [0,1,2,3,4,5,6,7,8,9,99,10,99,11];kernel_rfl)|(apply Da (n:=11) [0,1,2,3,4,5,6,7,8,9,10,11,12] [(1,0),(2,0),(3,0),(5,0),(8,0),(9,0),(10,0),(0,2),(10,6),(4,2),(4,6),(6,1),(7,1),(11,1),(12,0),(4,1),(7,1),(11,1),(12,0),(0,1),(4,1),(7,1),(11,1),(12,0)];kernel_rfl)|(apply Be;exact Bd;(first|exact pE|(apply BA;exact F;apply BH;exact F;(with_reducible exact e1);exact F)|(apply PA (hi:=j) (n:=m) (c:=c4);(iterate 6 exact F);omega;omega)|(apply Ml (lo:=j) (n:=m) (c:=c4);(iterate 6 exact F);omega));exact AX)|(refine Bn ?_;first|(apply Aw;exact F;exact Ab func348;exact ag;refine⟨V.refl _,Ak,?_⟩)|(refine Gi ?_;intro a';refine⟨V.refl _,Ak,?_⟩)|(refine cQ ?_;intro a9 bd an hs5;refine⟨an,Ak,?_⟩)|(refine uB ?_;intro A5 c5;refine⟨V.refl _,Ak,?_⟩)|(apply CE (enc:=Eg) (n:=0+j) (m:=1) (xs:=[]++out.take j) (ys:=[(s,x)]);(iterate 7 exact F);exact hs5.le Ag;exact QH;exactλx=>En rfl;intro v1;exact Bp;omega;exact F;intro A6 bp;refine⟨V.refl _,Ak,?_⟩)|(apply CE (enc:=Eg) (n:=0+j+1) (m:=m-j) (xs:=[]++out.take j++[(s,x)]) (ys:=out.drop j);(iterate 7 exact F);exact bl.le Ag;exact QH;exactλx=>En rfl;intro v1;exact Bp;omega;exact F;intro a8 c7;refine⟨V.refl _,Ak,?_⟩))|(apply GQ;kernel_rfl;exact F;exact F)|(apply HP;(iterate 4 exact F);(first|(refine Gi ?_;intro a';refine⟨V.refl _,Ak,?_⟩)|(refine cQ ?_;intro a9 bd an hs5;refine⟨an,Ak,?_⟩)|(refine uB ?_;intro A5 c5;refine⟨V.refl _,Ak,?_⟩)))|(refine Db ?_ ?_<;>intro hc<;>try omega)|(refine Y ?_ ?_<;>intro hc<;>try omega)|(apply KS;exact F;kernel_rfl;exact F;exact F))));(all_goals try omega)
    all_goals
     rw[FE,Dy]
     refine EE (enc:=Eg) (e:=172) (sz:=15) (n:=j+1+(m-j)) (xs:=out.take j++[(s,x)]++out.drop j) QH ar Bh ?_
     intro bo bq bf bu ba bm hs9
     cases ba
     have be:=am a8 c7 bf Ag hs9 bm
     refine AB Af Ad be
  ·rw[if_neg ai]at ac;clear ao hsc;(repeat'(first|refine AH ?_|refine Z Bf ?_|(refine Z (by apply BA;exact F;exact BH rfl d1 rfl) ?_)|(refine Aj ?_;intro b)|(refine Ac ?_;first|(refine rG ?_;rintro w2 h3 f ⟨s,rfl,hs1,hs2⟩))|(refine Y ?_ ?_<;>intro hc<;>try omega)|fail))
   all_goals first
    |omega
    |(
       have ae:=z (k+1,out,aa,c4,h3) ⟨Ah,aj.trans f,λq hq=>(af q hq).le f,hso,λy=>by dsimp only;rw[ac];exact i y,Ah,by dsimp only;rw[←hm];exact ah.le f,Ah⟩ Ah
       dsimp only at ae
       rw[←hm]at ae
       refine AB Af Ad ae)
 ·rw[By J]at i;clear z hsc;have aw:Jj L season comp (out.map (·.2)):=⟨hso,λy=>(i y).trans (ao y)⟩;have a7:=aw.len ad;rw[Dc,bk]at a7;subst hm;(repeat'(first|refine Aa ?_|(refine Y ?_ ?_<;>intro hc<;>try omega)|fail))
  all_goals first
   |omega
   |(exact BL rfl rfl rfl ⟨aa,c4,out,rfl,ah,af,aw,a7,hoc⟩)
end Go.Hw
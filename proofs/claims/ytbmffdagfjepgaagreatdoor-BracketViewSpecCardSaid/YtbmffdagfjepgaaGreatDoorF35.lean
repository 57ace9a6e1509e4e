import Derived.Test.YtbmffdagfjepgaaGreatDoorXE
import Derived.Test.YtbmffdagfjepgaaGreatDoorPA
import Derived.Test.YtbmffdagfjepgaaGreatDoorBE
set_option linter.all false
set_option maxRecDepth 100000
set_option maxHeartbeats 8000000
namespace Go.Hw
open Go
attribute [local irreducible] AI Bz BV Aq AP Az Au CH Ap Ar BG Cm BP Dg El Ek Rk Aew KT FB
open Go.Proofs.Tryz
def IA (g:AL) (l:Ax):Ax:=l.filter λf=>decide (Hk g f.ru)
def XI (g:AL)(l:Ax)(f:Al):IA g (l++[f])=if Hk g f.ru then IA g l++[f]else IA g l:=by unfold IA;rw[Gl];by_cases h:Hk g f.ru<;>simp[h]
def Azu (C:Ax)(g:AL):KT C g=IA g (Ek C):=by unfold KT IA;rfl
def Amx {g:AL}{l:Ax}{f:Al}(h:¬Hk g f.ru):FB (IA g (l++[f]))=FB (IA g l):=by rw[XI,if_neg h]
def Amy {g:AL}{l:Ax}{f:Al}(h:Hk g f.ru)(hm:FB (IA g l)=none):FB (IA g (l++[f]))=some f:=by rw[XI,if_pos h,TH,hm]
def Amz {g:AL}{l:Ax}{f b:Al}(h:Hk g f.ru)(hm:FB (IA g l)=some b)(hc:0<CO f b):FB (IA g (l++[f]))=some f:=by rw[XI,if_pos h,TH,hm];dsimp only;rw[if_pos hc]
def Am0 {g:AL}{l:Ax}{f b:Al}(h:Hk g f.ru)(hm:FB (IA g l)=some b)(hc:¬0<CO f b):FB (IA g (l++[f]))=some b:=by rw[XI,if_pos h,TH,hm];dsimp only;rw[if_neg hc]
def WG (l:AN) (g:AL) (k:Nat) (b:Int):Prop:=(b = -1∧FB (IA g (Ae (l.take k)))=none)∨∃j:Nat,b=(j:Int)∧j<k∧FB (IA g (Ae (l.take k)))=some (l.getD j AS).2
def Awx (h:U)(A:At)(n c:Nat)(l:AN)(hx:Cz h A n l)(ar:n≤65536)(g:AL):Az prog 109 #[.slice A n c,Di g] h (λu _=>u=.tuple #[.agg (DH (Fx (BR (Ae l)) g).1).toArray,O (Fx (BR (Ae l)) g).2.1,.bool (Fx (BR (Ae l)) g).2.2]):=by
 refine BB func109 λ_ _=>?_;obtain⟨C,ao⟩:∃C,C=BR (Ae l):=⟨_,rfl⟩;have o:=λh' (y:V h h')=>Ac2 h' A n c l (hx.le y) ar;rw[←ao]at o ⊢;clear hx;(repeat'(first|refine Aa ?_|(refine Aj ?_;intro b)|(refine Ac ?_;first|(refine Gt (e:=36) Bh ?_;intro h1 av ac;apply AR;exact F;exact Ab func184;exact o _ Ag;rintro ay h2 aq ⟨A3,c3,l3,rfl,hL⟩))|fail));rename_i b3;generalize b=ae;have aw:l3.length=l3.length:=rfl;have ax:=hL.2.1.small;have ac:Au h2 (Av b3) (CG g):=ac.le aq;(have hfo:KT C g=IA g (Ae l3):=by rw[hL.2.2];exact Azu C g);refine Bg (X:=Nat×Int×U) (λx=>x.1≤l3.length∧V h2 x.2.2∧WG l3 g x.1 x.2.1) (λx=>l3.length-x.1) (λx=>[(9,O x.1),(8,O x.2.1),(7,.slice A3 l3.length c3),(3,Dt b3),(4,Dt ae),(5,O 0),(6,.bool false)]) (λ_=>[Ap ae 61 (DH DB)]) (λx=>x.2.2) (0,-1,h2) ⟨Ah,V.refl _,.inl ⟨rfl,by rw[Ia];unfold FB;rfl⟩⟩ Af Ad rfl ?_;rintro⟨k,aj,hh⟩ ⟨ap,d,v⟩ r;dsimp only at ap d v r ⊢;have au:Au hh (Av b3) (CG g):=ac.le d;by_cases w:k<l3.length
 ·have a1:=hL.2.1.row.addrD w;have c1:Au hh ((addrD A3).add (k*F'.size)) (BM (l3.getD k AS)):=(hL.2.1.row.cellsD AS w).le d;have am:=BY AS rfl w;(have m:Ae (l3.take (k+1))=Ae (l3.take k)++[(l3.getD k AS).2]:=by rw[am,Nh]);have af:=(hL.2.1.good _ (Ce AS w)).le d;obtain⟨p,hp⟩:∃p,l3.getD k AS=p:=⟨_,rfl⟩;rw[hp]at c1 m af;have hge:=MZ p.2.ru.g g;by_cases f:Hk g p.2.ru
  ·rcases v with⟨rfl,hm⟩|⟨j,rfl,hj,hm⟩
   ·have h3:=r (k+1,(k:Int),hh) ⟨Ah,d,.inr ⟨k,rfl,Ah,by dsimp only;rw[m,hp];exact Amy f hm⟩⟩ Ah;dsimp only at h3;obtain⟨i,a⟩:=f;rw[decide_eq_true i]at hge;clear hm o;rcases a with a|a|a;(all_goals(repeat'(first|refine Aa ?_|refine Z Bf ?_|refine Z Cb ?_|(apply AU (n:=7) 36 [0,1,2,3,4,5,6,7,8,9,10,11,12,13,14,15,16,17,18,19,20,21,22,23,24,25,26,27,28,29,30,31,99,32,99,33,34,35];kernel_rfl)|(apply Be;exact Bd;(first|exact Bf|exact MV|exact Cb);exact AX)|(refine Db ?_ ?_<;>intro hc<;>try omega)|(refine Y ?_ ?_<;>intro hc<;>try omega)|(apply KS;exact F;kernel_rfl;exact F;exact F))))
    all_goals first
     |omega
     |contradiction
     |(refine AB Af Ad h3)
   ·(have hjn:j<l3.length:=by omega);have a2:=hL.2.1.row.addrD hjn;have c2:Au hh ((addrD A3).add (j*F'.size)) (BM (l3.getD j AS)):=(hL.2.1.row.cellsD AS hjn).le d;have ag:=(hL.2.1.good _ (Ce AS hjn)).le d;(have t:∀z,Ae (l3.take (k+1))=Ae (l3.take k)++[p.2]→FB (IA g (Ae (l3.take k)++[p.2]))=some (l3.getD j AS).2→j<z→z=k+1→WG l3 g z (j:Int):=λz e1 e2 ak al=>by{subst al;exact .inr ⟨j,rfl,ak,by rw[e1,e2]⟩});obtain⟨q,hq⟩:∃q,l3.getD j AS=q:=⟨_,rfl⟩;rw[hq]at c2 ag hm t;have hcm:=λh' (y:V hh h')=>Abz h' p q (af.le y) (ag.le y);have an:=f;obtain⟨i,a⟩:=an;rw[decide_eq_true i]at hge;by_cases ah:0<CO p.2 q.2
    ·have ab:WG l3 g (k+1) (k:Int):=.inr ⟨k,rfl,J,by rw[m,hp];exact Amz f hm ah⟩;clear o hm t;rcases a with a|a|a;(all_goals(repeat'(first|refine Aa ?_|(refine Z (by first|exact Bf|exact Pc) ?_)|refine Z Cb ?_|(apply AU (n:=7) 36 [0,1,2,3,4,5,6,7,8,9,10,11,12,13,14,15,16,17,18,19,20,21,22,23,24,25,26,27,28,29,30,31,99,32,99,33,34,35];kernel_rfl)|(apply Be;exact Bd;(first|(first|exact Bf|exact Pc)|(first|exact W'|(apply BA;exact F;apply BH;exact F;(with_reducible exact c2);exact F))|exact MV|exact Cb);exact AX)|(refine Bn ?_;first|(refine pZ ?_;rintro vr ad s rfl;refine⟨s,Ak,?_⟩))|(refine Db ?_ ?_<;>intro hc<;>try omega)|(refine Y ?_ ?_<;>intro hc<;>try omega)|fail)))
     all_goals first
      |omega
      |contradiction
      |(
         have h3:=r (k+1,(k:Int),ad) ⟨Ah,d.trans s,ab⟩ Ah
         dsimp only at h3
         refine AB Af Ad h3)
    ·have ab:WG l3 g (k+1) (j:Int):=t _ m (Am0 f hm ah) J rfl;clear o hm t;rcases a with a|a|a;(all_goals(repeat'(first|refine Aa ?_|(refine Z (by first|exact Bf|exact Pc) ?_)|refine Z Cb ?_|(apply AU (n:=7) 36 [0,1,2,3,4,5,6,7,8,9,10,11,12,13,14,15,16,17,18,19,20,21,22,23,24,25,26,27,28,29,30,31,99,32,99,33,34,35];kernel_rfl)|(apply Be;exact Bd;(first|(first|exact Bf|exact Pc)|(first|exact W'|(apply BA;exact F;apply BH;exact F;(with_reducible exact c2);exact F))|exact MV|exact Cb);exact AX)|(refine Bn ?_;first|(refine pZ ?_;rintro vr ad s rfl;refine⟨s,Ak,?_⟩))|(refine Db ?_ ?_<;>intro hc<;>try omega)|(refine Y ?_ ?_<;>intro hc<;>try omega)|fail)))
     all_goals first
      |omega
      |contradiction
      |(
         have h3:=r (k+1,(j:Int),ad) ⟨Ah,d.trans s,ab⟩ Ah
         dsimp only at h3
         refine AB Af Ad h3)
  ·have ai:=Amx (l:=Ae (l3.take k)) f
   have h3:=r (k+1,aj,hh) ⟨Ah,d,by
    rcases v with⟨rfl,hm⟩|⟨j,rfl,hj,hm⟩;{exact .inl ⟨rfl,by dsimp only;rw[m,ai,hm]⟩}
    ·exact .inr ⟨j,rfl,Ah,by dsimp only;rw[m,ai,hm]⟩⟩ Ah
   dsimp only at h3;by_cases i:p.2.ru.g=g
   ·rw[decide_eq_true i]at hge;have k1:p.2.ru.kind≠1:=λe=>f ⟨i,.inl e⟩;have k2:p.2.ru.kind≠2:=λe=>f ⟨i,.inr (.inl e)⟩;have k3:p.2.ru.kind≠3:=λe=>f ⟨i,.inr (.inr e)⟩;(repeat'(first|refine Aa ?_|refine Z Bf ?_|refine Z Cb ?_|(apply AU (n:=7) 36 [0,1,2,3,4,5,6,7,8,9,10,11,12,13,14,15,16,17,18,19,20,21,22,23,24,25,26,27,28,29,30,31,99,32,99,33,34,35];kernel_rfl)|(apply Be;exact Bd;(first|exact Bf|exact MV|exact Cb);exact AX)|(refine Db ?_ ?_<;>intro hc<;>try omega)|(refine Y ?_ ?_<;>intro hc<;>try omega)|(apply KS;exact F;kernel_rfl;exact F;exact F)))
    all_goals first
     |omega
     |contradiction
     |(refine AB Af Ad h3)
   ·rw[decide_eq_false i]at hge;(repeat'(first|refine Aa ?_|refine Z Bf ?_|refine Z Cb ?_|(apply AU (n:=7) 36 [0,1,2,3,4,5,6,7,8,9,10,11,12,13,14,15,16,17,18,19,20,21,22,23,24,25,26,27,28,29,30,31,99,32,99,33,34,35];kernel_rfl)|(apply Be;exact Bd;(first|exact Bf|exact MV|exact Cb);exact AX)|(refine Y ?_ ?_<;>intro hc<;>try omega)|(apply KS;exact F;kernel_rfl;exact F;exact F)))
    all_goals first
     |omega
     |contradiction
     |(refine AB Af Ad h3)
 ·(have ek:k=l3.length:=by omega);subst ek;clear r o;rcases v with⟨rfl,hm⟩|⟨j,rfl,hj,hm⟩
  ·rw[Ye]at hm;(have aa:Fx C g=(DB,0,false):=by unfold Fx;rw[hfo,hm]);rw[aa];(repeat'(first|refine AH ?_|(refine Y ?_ ?_<;>intro hc<;>try omega)|fail))
   all_goals first
    |omega
    |(exact Ty rfl rfl rfl Bc rfl rfl rfl rfl rfl)
  ·rw[Ye]at hm;have a2:=hL.2.1.row.addrD hj;have c2:Au hh ((addrD A3).add (j*F'.size)) (BM (l3.getD j AS)):=(hL.2.1.row.cellsD AS hj).le d;generalize l3.getD j AS=q at *;(have aa:Fx C g=(q.2.ru,q.2.day,true):=by unfold Fx;rw[hfo,hm]);rw[aa];(repeat'(first|refine AH ?_|(apply Da (n:=11) [0,1,2,3,4,10,5,6,7,8,9,11,12] [(0,0),(1,0),(2,0),(3,0),(4,0),(5,0),(6,0),(7,0),(8,0),(9,0),(10,1),(11,0),(12,0)];kernel_rfl)|(apply Be;exact Bd;(first|exact Pc|exact Cb);exact AX)|(refine Y ?_ ?_<;>intro hc<;>try omega)|fail))
   all_goals first
    |omega
    |(exact Ty rfl rfl rfl Bc rfl rfl rfl rfl rfl)
end Go.Hw
namespace Go.Hw
open Go
attribute [local irreducible] AI Bz BV Aq AP Az Au CH Ap Ar BG Cm BP Dg El Ek Fl Ex EV Hv Fx FJ
open Go.Proofs.Tryz
def Abr (h:U)(A:At)(n c:Nat)(l:Fz)(hx:Ai Fk 2 h A n l)(hn:n≤1000000):Aq prog 113 #[.slice A n c] h (O (FJ l)):=by
 refine AK func113 λ_ _=>?_;have f:=hx.len;(repeat'(first|refine Aa ?_|fail));refine Bg (X:=Nat) (λk=>k≤n) (λk=>n-k) (λk=>[(4,O k),(3,O (FJ (l.take k))),(0,.slice A n c)]) (λ_=>[]) (λ_=>h) 0 J (by rw[Ia,show FJ []=0 by unfold FJ;rfl];exact Af) Ad rfl ?_;rintro k g b;by_cases a:k<n
 ·have a1:=hx.addrD a;have c1:Au h ((addrD A).add (k*Tx.size)) (Fk (l.getD k De)):=hx.cellsD De a;have d:=BY De (xs:=l) f a;generalize l.getD k De=z at *;have h3:=b (k+1) J J;rw[d,ZV]at h3;have e:=VV (l.take k);rw[CF]at e;generalize FJ (l.take k)=m at *;obtain⟨zp,zr⟩:=z;unfold UD at h3;cases zr
  ·rw[if_neg An]at h3;(repeat'(first|refine Aa ?_|refine Z Bf ?_|refine Z Cb ?_|(refine Y ?_ ?_<;>intro hc<;>try omega)|fail))
   all_goals first
    |omega
    |(exfalso;simp at hc;done)
    |(refine AB Af Ad h3)
  ·rw[if_pos rfl,show m+3=m+1+2 by omega]at h3;(repeat'(first|refine Aa ?_|refine Z Bf ?_|refine Z Cb ?_|(refine Y ?_ ?_<;>intro hc<;>try omega)|fail))
   all_goals first
    |omega
    |(exfalso;simp at hc;done)
    |(refine AB Af Ad h3)
 ·rw[By J];clear b;(repeat'(first|refine Aa ?_|(refine Y ?_ ?_<;>intro hc<;>try omega)|refine Bm ?_|fail))
  all_goals first
   |omega
   |rfl
def Aca (h:U)(g:AL)(d:Int)(a:Bool):Aq prog 110 #[Di g,O d,.bool a] h (GE (JA g d a (!a))):=by
 refine AK func110 λ_ _=>?_;cases a;(all_goals(repeat'(first|refine AH ?_|(refine Aj ?_;intro b)|(refine Y ?_ ?_<;>intro hc<;>try omega)|(apply Ha;(iterate 3 exact F);exact Bc;exact F;exact F)|fail)))
 all_goals first
  |rfl
  |(exfalso;simp at hc;done)
def Axa {r:Cu}{g:AL}(hg:DL g)(hr:GY r)(b:r.g=g)(c:r.kind=1)(d:Int):JA g d (decide (r.club=g.h)) (decide (r.club=g.a))=JA g d (decide (r.club=g.h)) (!(decide (r.club=g.h))):=by have a:g.h≠g.a:=hg.2.2.2.2;unfold GY at hr;rw[if_pos c,b]at hr;congr 1;rcases hr.2 with e|e;{rw[e,decide_eq_true rfl,decide_eq_false a];rfl};{rw[e,decide_eq_true rfl,decide_eq_false (λw=>a w.symm)];rfl}
def Awv (h:U)(A:At)(n c:Nat)(l:AN)(hx:Cz h A n l)(ag:n≤65536)(g:AL):Az prog 63 #[.slice A n c,Di g] h (λu _=>u=Zg (FA (Ae l) g)):=by
 refine BB func63 λ_ _=>?_;have m:=JC hx;have hgm:=λh'=>gO h' g;have hog:=λh' (v:V h h')=>Awx h' A n c l (hx.le v) ag g;have hsc:=λh' (v:V h h')=>gM h' A n c l (hx.le v) ag g;have hof:=λh' (v:V h h')=>Ay8 h' A n c l (hx.le v) ag g;have y:=XQ (C:=BR (Ae l)) (Wy m) (g:=g);by_cases hg:DL g
 case' neg=>
  rw[jR hg]
  simp only[if_neg hg]at hgm
  clear hog hsc hof y hx m
  repeat'(first|refine Ba ?_|(apply AE;(iterate 3 exact F);apply Ci (e:=36);exact F;intro b3)|refine BF ?_|(refine Aj ?_;intro b)|(refine Ac ?_;first|(refine NU ?_))|(refine Y ?_ ?_<;>intro hc<;>try omega)|fail)
  all_goals first
   |omega
   |(exact Dl rfl rfl rfl Bc rfl rfl rfl rfl)
 simp only[if_pos hg]at hgm;have ai:=λr d q=>zU (L:=Ae l) hg (r:=r) (d:=d) q;have aa:=λq=>Acm (L:=Ae l) hg q;generalize Fx (BR (Ae l)) g=ax at *;obtain⟨r,d,ok⟩:=ax;dsimp only at hog aa y;cases ok
 case' true=>
  rw[ai r d rfl]
  obtain⟨f,_,_,_,an,ad,_,ak⟩:=y rfl
  have ab:r=f.ru:=congrArg (·.1) ak
  have j:r.kind=1∨r.kind=2∨r.kind=3:=by rw[ab];exact ad.2
  have t:r.kind=1→∀d,JA g d (decide (r.club=g.h)) (decide (r.club=g.a))=JA g d (decide (r.club=g.h)) (!(decide (r.club=g.h))):=λq d=>Axa hg (by rw[ab];exact an.2.2.2.2.1) (by rw[ab];exact ad.1) q d
  have hfo:=λh' d=>Aca h' g d (decide (r.club=g.h))
  unfold SG
  rcases j with j|j|j
  case' inl=>
   rw[if_pos j,t j]
  case' inr.inl=>
   rw[if_neg J,if_neg J]
  case' inr.inr=>
   rw[if_neg J,if_pos j]
  all_goals
   rw[←FP]at hfo
   clear hsc hof y hx m ai aa ad ak t an ab
   repeat'(first|refine Ba ?_|(apply AE;(iterate 3 exact F);apply Ci (e:=36);exact F;intro b3)|(apply AE;(iterate 3 exact F);apply Bo (e:=61);exact F;intro b6)|refine BF ?_|(refine Aj ?_;intro b)|(refine Ac ?_;first|(refine NU ?_)|(refine Xi ?_;rintro v1 h1 af rfl)|(apply Aw;exact F;exact Ab func110;exact hfo _ d))|(refine Y ?_ ?_<;>intro hc<;>try omega)|fail)
  all_goals first
   |omega
   |(exact Dl rfl rfl rfl Bc rfl rfl rfl rfl)
   |(rw[←FP];exact Dl rfl rfl rfl Bc rfl rfl rfl rfl)
 rw[aa rfl];have ah:=Acq (L:=Ae l) (g:=g);have ac:=λx o=>Ad4 (L:=Ae l) (g:=g) (x:=x) (o:=o);have z:=λq=>gN m (g:=g) q;have am:=vJ m g;rw[show EM l=Ae l from rfl]at hsc;generalize CJ (Ae l) g=x at *;generalize Hv (Ae l) g=o at *;clear hx m ai aa y;by_cases ae:x.kind=2
 case' neg=>
  rw[ah ae]
  clear hof ac z am
  repeat'(first|refine Ba ?_|(apply AE;(iterate 3 exact F);apply Ci (e:=36);exact F;intro b3)|(apply AE;(iterate 3 exact F);apply Bo (e:=61);exact F;intro b6)|(apply AE;(iterate 3 exact F);apply Bo (e:=172);exact F;intro b7)|refine BF ?_|(refine Aj ?_;intro b)|(refine Ac ?_;first|(refine NU ?_)|(refine Xi ?_;rintro v1 h1 af rfl)|(refine T' ?_;rintro w2 h2 al ⟨s,rfl,hs1,hs2⟩))|(refine Y ?_ ?_<;>intro hc<;>try omega)|fail)
  all_goals first
   |omega
   |(exfalso;simp at hc;done)
   |(exact Dl rfl rfl rfl Bc rfl rfl rfl rfl)
 rw[ac x o rfl rfl ae];obtain⟨⟨_,_,_,_,_,_,_,av,aw,_⟩,_,_⟩:=z ae;have az:=av.1;have a0:=aw.1;obtain⟨i,k⟩:=o;unfold XB at hof;dsimp only at hof am;unfold Ve;dsimp only;by_cases p:i=[]∧k=[]
 ·rw[if_pos p];obtain⟨rfl,rfl⟩:=p;clear ah ac z;(repeat'(first|refine Ba ?_|(apply AE;(iterate 3 exact F);apply Ci (e:=36);exact F;intro b3)|(apply AE;(iterate 3 exact F);apply Bo (e:=61);exact F;intro b6)|(apply AE;(iterate 3 exact F);apply Bo (e:=172);exact F;intro b7)|(apply AE;(iterate 3 exact F);apply Bo (e:=57);exact F;intro ay)|refine BF ?_|(refine Aj ?_;intro b)|(refine Ac ?_;first|(refine NU ?_)|(refine Xi ?_;rintro v1 h1 af rfl)|(refine T' ?_;rintro w2 h2 al ⟨s,rfl,hs1,hs2⟩;(have a1:=hs1.hc.len);(have a2:=hs1.ac.len))|(refine rD ?_;rintro v3 e1 au ⟨ao,d1,ap,d2,rfl,aq,ar⟩))|(apply AU (n:=20) 20 [0,1,2,3,4,5,6,7,8,9,10,11,12,14,15,99,13,16,99,17,99,18,99,19];kernel_rfl)|(refine Bn ?_;first|(apply Aw;exact F;exact Ab func113;(first|exact Abr _ _ _ _ x.sh.hc (hs1.hc.le Ag) J|exact Abr _ _ _ _ x.sh.ac (hs1.ac.le Ag) J);refine⟨V.refl _,Ak,?_⟩))|(refine Y ?_ ?_<;>intro hc<;>try omega)|refine AF ?_|(refine AG ?_ ?_<;>intro hc<;>try omega)|fail))
  all_goals first
   |omega
   |(exfalso;simp at hc;done)
   |(exact Dl rfl rfl rfl Bc rfl rfl rfl rfl)
 ·rw[if_neg p];clear ah ac z;(have t:JA g x.day (decide (i≠[])) (decide (k≠[]))=if 0<i.length∧0<k.length then{AV with g:=g,day:=x.day,forf:=true,both:=true}else JA g x.day (FR 0 (i.length:Int)) (!(FR 0 (i.length:Int))):=by{cases i with|nil=>(cases k with|nil=>exact absurd ⟨rfl,rfl⟩ p|cons a r=>simp[FR,JA])|cons a r=>cases k with|nil=>simp[FR,JA]|cons b a3=>simp[FR,JA,AV]});(have hp:0<i.length+k.length:=by{refine JD λw=>p ⟨Fu J,Fu J⟩});rw[t];have hfo:=λh'=>Aca h' g x.day (FR 0 (i.length:Int));clear p t;by_cases aj:0<i.length∧0<k.length
  case' pos=>
   rw[if_pos aj]
  case' neg=>
   rw[if_neg aj]
  all_goals
   repeat'(first|refine Ba ?_|(apply AE;(iterate 3 exact F);apply Ci (e:=36);exact F;intro b3)|(apply AE;(iterate 3 exact F);apply Bo (e:=61);exact F;intro b6)|(apply AE;(iterate 3 exact F);apply Bo (e:=172);exact F;intro b7)|refine BF ?_|(refine Aj ?_;intro b)|(refine Ac ?_;first|(refine NU ?_)|(refine Xi ?_;rintro v1 h1 af rfl)|(refine T' ?_;rintro w2 h2 al ⟨s,rfl,hs1,hs2⟩)|(refine rD ?_;rintro v3 e1 au ⟨ao,d1,ap,d2,rfl,aq,ar⟩)|(apply Aw;exact F;exact Ab func110;exact hfo _))|(refine Y ?_ ?_<;>intro hc<;>try omega)|refine AF ?_|(refine AG ?_ ?_<;>intro hc<;>try omega)|fail)
  all_goals first
   |omega
   |(exfalso;simp at hc;done)
   |(exact Dl rfl rfl rfl Bc rfl rfl rfl rfl)
end Go.Hw
namespace Go.Hw
def wN {α:Type}{P:List α→Prop}(nil:P [])(snoc:∀C f,P C→P (C++[f]))(C:List α):P C:=by(have key:∀n (C:List α),C.length=n→P C:=by{intro n;induction n with|zero=>intro C h;rw[eJ.1 h];exact nil|succ n a=>intro C h;rcases Ay4 C with e|⟨r,x,e⟩;{rw[e];exact nil};{rw[e,Ay7];exact snoc r x (a r (by rw[e]at h;simpa using h))}});exact key _ C rfl
open Classical in
noncomputable def Pv (s c:Int) (o:CY) (f:Al):CY:=if DL (DJ f)∧(DJ f).s=s∧(DJ f).c=c∧DJ f∉o then o++[DJ f]else o
noncomputable def IW (C:Ax) (s c:Int):CY:=C.foldl (Pv s c) []
def Ad9 (C:Ax)(f:Al)(s c:Int):IW (C++[f]) s c=Pv s c (IW C s c) f:=by unfold IW;rw[GL];rfl
def bB {s c:Int}(C:Ax):(IW C s c).Nodup∧(∀g,g∈IW C s c↔DL g∧g.s=s∧g.c=c∧∃f∈C,DJ f=g)∧(IW C s c).length≤C.length:=by induction C using wN with|nil=>exact⟨Yg,λg=>⟨λh=>(by cases h),λh=>(by obtain⟨_,_,_,f,hf,_⟩:=h;cases hf)⟩,BU _⟩|snoc C f m=>obtain⟨h1,h2,h3⟩:=m;rw[Ad9];unfold Pv;by_cases k:DL (DJ f)∧(DJ f).s=s∧(DJ f).c=c∧DJ f∉IW C s c;{rw[if_pos k];refine⟨?_,λg=>?_,FC⟩;{rw[Fm];exact⟨h1,An,λa j b l=>by rw[Bk.1 l];exactλw=>k.2.2.2 (w▸j)⟩};{rw[AO,Bk,h2 g];constructor;{rintro(⟨a,b,d,e,i,hm⟩|w);{exact⟨a,b,d,e,by simp[i],hm⟩};{rw[w];exact⟨k.1,k.2.1,k.2.2.1,f,An,rfl⟩}};{rintro⟨a,b,d,e,i,hm⟩;rcases AO.1 i with w|w;{exact .inl ⟨a,b,d,e,w,hm⟩};{rw[Bk.1 w]at hm;exact .inr hm.symm}}}};{rw[if_neg k];refine⟨h1,λg=>?_,FC⟩;rw[h2 g];constructor;{rintro⟨a,b,d,e,i,hm⟩;exact⟨a,b,d,e,by simp[i],hm⟩};{rintro⟨a,b,d,e,i,hm⟩;rcases AO.1 i with w|w;{exact⟨a,b,d,e,w,hm⟩};{rw[Bk.1 w]at hm;refine(h2 g).1 (JD λq=>k ?_);rw[hm];exact⟨a,b,d,q⟩}}}
def Ju (r:BC):CX→CX
 |[]=>[r]
 |a::q=>if DF a r then a::Ju r q else r::a::q
theorem lB {r:BC}:∀{l:CX} {k:Nat},k≤l.length→(∀i,i<k→DF (l.getD i AV) r)→(k<l.length→¬DF (l.getD k AV) r)→Ju r l=l.take k++r::l.drop k
 |[],k,h,_,_=>by(have:k=0:=by simpa using h);rw[this];rfl
 |a::q,0,_,_,h=>by unfold Ju;have h0:¬DF a r:=h An;rw[if_neg h0];rfl
 |a::q,k+1,h,h1,h2=>by unfold Ju;have h0:DF a r:=h1 0 J;rw[if_pos h0,lB (l:=q) (k:=k) RM (λi hi=>h1 (i+1) J) (λb=>h2 (by simpa using b))];rfl
theorem TF (r:BC):∀l:CX,(Ju r l).Perm (r::l)
 |[]=>.refl _
 |a::q=>by unfold Ju;split;{exact(Uz a (TF r q)).trans (List.Perm.swap _ _ _)};{exact .refl _}
theorem zB {r:BC}:∀{l:CX},(l.Pairwise λx y=>¬DF y x)→(Ju r l).Pairwise λx y=>¬DF y x
 |[],_=>by unfold Ju;simp
 |a::q,h=>by rw[FD]at h;unfold Ju;by_cases k:DF a r;{rw[if_pos k,FD];refine⟨λb c=>?_,zB h.2⟩;rcases Bx.1 ((TF r q).mem_iff.1 c)with w|w;{rw[w];unfold DF at *;omega};{exact h.1 b w}};{rw[if_neg k,FD,FD];refine⟨λb c=>?_,h⟩;rcases Bx.1 c with w|w;{rw[w];exact k};{have:=h.1 b w;unfold DF at *;omega}}
noncomputable def VP (L:Ax) (o:CX) (g:AL):CX:=match FA L g with|none=>o|some r=>Ju r o
noncomputable def Lo (L:Ax) (gs:CY):CX:=gs.foldl (VP L) []
def yS (L:Ax)(gs:CY)(g:AL):Lo L (gs++[g])=VP L (Lo L gs) g:=by unfold Lo;rw[GL];rfl
def xW (L:Ax)(gs:CY):(Lo L gs).Perm (Hn L gs)∧((Lo L gs).Pairwise λx y=>¬DF y x)∧(Lo L gs).length≤gs.length:=by induction gs using wN with|nil=>exact⟨.refl _,.nil,BU _⟩|snoc gs g a=>obtain⟨h1,h2,h3⟩:=a;rw[yS,Aaf];unfold VP;cases FA L g with|none=>exact⟨h1,h2,FC⟩|some r=>dsimp only;refine⟨(TF r _).trans ?_,zB h2,?_⟩;{exact(Uz r h1).trans (by simpa using(JW (l₁:=[r]) (l₂:=Hn L gs)))};{rw[(TF r _).length_eq];simp;omega}
def Auf {L:Ax}(d:D' L)(s c:Int):Lo L (IW (BR L) s c)=Ij L s c:=by obtain⟨h1,h2,_⟩:=bB (s:=s) (c:=c) (BR L);obtain⟨h,i,_⟩:=xW L (IW (BR L) s c);refine dI (aF (Wd d (λg hg=>⟨((h2 g).1 hg).2.1,((h2 g).1 hg).2.2.1⟩) λf hf e hg a b=>?_) (aD d h1) h i);exact(h2 _).2 ⟨hg,a,b,f,((Ip L d).2 f).2 ⟨hf,e⟩,rfl⟩
def No (s c:Int) (f:Al):Prop:=f.kind=1∧f.eS=s∧f.eC=c
def QL (s c:Int) (f:Al):Prop:=f.kind=7∧f.lS=s∧f.lC=c
instance (s c:Int) (f:Al):Decidable (No s c f):=by unfold No;infer_instance
instance (s c:Int) (f:Al):Decidable (QL s c f):=by unfold QL;infer_instance
def Adp {C:Ax}(h:Gn C)(p:Al→Bool):Gn (C.filter p):=Yo p h
def Aqj {L:Ax}(a:D' L)(s c:Int):((BR L).filter λf=>decide (No s c f)).getLast?=JN L s c:=
 (Z' (Adp (Ip L a).1 _)).uniq (Acx a s c) λx=>by
   rw[DQ,decide_eq_true_eq,(Ip L a).2,VY]
   exact⟨λq=>⟨q.1.1,q.2.1,q.2.2.1,q.2.2.2,q.1.2⟩,λq=>⟨⟨q.1,q.2.2.2.2⟩,q.2.1,q.2.2.1,q.2.2.2.1⟩⟩
def Am4 {L:Ax}(a:D' L)(s c:Int):((BR L).filter λf=>decide (QL s c f)).getLast?=MG L s c:=
 (Z' (Adp (Ip L a).1 _)).uniq (Ave a s c) λx=>by
   rw[DQ,decide_eq_true_eq,(Ip L a).2,gD]
   exact⟨λq=>⟨q.1.1,q.2.1,q.2.2.1,q.2.2.2,q.1.2⟩,λq=>⟨⟨q.1,q.2.2.2.2⟩,q.2.1,q.2.2.1,q.2.2.2.1⟩⟩
theorem kK (p:Al→Bool):∀{C:Ax} {k:Nat},k<C.length→p (C.getD k BQ)=true→(∀i,k<i→i<C.length→p (C.getD i BQ)=false)→(C.filter p).getLast?=some (C.getD k BQ)
 |[],k,h,_,_=>by simp at h
 |a::q,0,_,h,h2=>by(have hq:q.filter p=[]:=xO.2 λx hx=>by{obtain⟨i,hi,rfl⟩:=xC.1 hx;have:=h2 (i+1) J Jq;rw[Yl,Dr,Bw hi,IQ]at this;rw[this];simp});have h:p a=true:=h;rw[Ky,if_pos h,hq];rfl
 |a::q,k+1,c,h,h2=>by have b:=kK p (C:=q) (k:=k) (by simpa using c) h λi h1 h3=>h2 (i+1) J (by simpa using h3);rw[Ky,Yl];split;{rw[List.getLast?_cons,b];rfl};{exact b}
def Anr (p:Al→Bool){C:Ax}(h:∀i,i<C.length→p (C.getD i BQ)=false):(C.filter p).getLast?=none:=by(have hq:C.filter p=[]:=xO.2 λx hx=>by{obtain⟨i,hi,rfl⟩:=xC.1 hx;have:=h i hi;rw[Dr,Bw hi,IQ]at this;rw[this];simp});rw[hq];rfl
def zG (p:Al→Bool)(C:Ax)(x:Al):((C++[x]).filter p).getLast?=if p x then some x else(C.filter p).getLast?:=by rw[Gl];by_cases h:p x;{rw[if_pos h,Ky,if_pos h];simp};{rw[if_neg h,Ky,if_neg h];simp}
end Go.Hw
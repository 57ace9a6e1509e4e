import Derived.Test.YtbmffdagfjepgaaGreatDoorEC
set_option linter.all false
set_option maxRecDepth 100000
set_option maxHeartbeats 4000000
namespace Go.Hw
open Go
attribute [local irreducible] AI Bz BV Aq AP Az Au CH Ap Ar BG Cm BP
open Go.Proofs.Tryz
def Rv (h:U)(n:Int):Aq prog 180 #[O n] h (Et (DT n)):=by refine AK func180 λ_ _=>?_;(repeat'(first|refine AH ?_|(refine Aj ?_;intro b)|fail));exact Ha rfl rfl rfl Bc rfl rfl rfl
def To (h:U)(A:At)(n c:Nat):Aq prog 248 #[.slice A n c] h (Et (FQ A n c)):=by refine AK func248 λ_ _=>?_;(repeat'(first|refine AH ?_|(refine Aj ?_;intro b)|fail));exact Ha rfl rfl rfl Bc rfl rfl rfl
def vX (h:U)(s:Bj):Aq prog 250 #[.string (Cj s)] h (Et (SH s)):=by refine AK func250 λ_ _=>?_;(repeat'(first|refine AH ?_|(refine Aj ?_;intro b)|fail));exact Ha rfl rfl rfl Bc rfl rfl rfl
def vZ (h:U)(b:Bool):Aq prog 253 #[.bool b] h (O (if b then 1 else 0)):=by refine AK func253 λ_ _=>?_;(repeat'(first|refine Aa ?_|(refine Y ?_ ?_<;>intro hc<;>try omega)|refine Bm ?_|fail));all_goals(subst hc;rfl)
def lA (h:U)(A:At)(n c:Nat)(l:AC)(hx:Ai AQ 1 h A n l)(hn:n≤1000000):AP prog 249 #[.slice A n c] [] h (vH l):=by
 refine Cx func249 λ_ _=>?_;have o:=hx.len;(repeat'(first|refine AH ?_|(refine Aj ?_;intro b)|fail));rename_i b2;generalize b=b3;refine FN 193 5 ?_;refine Bg (X:=Nat×At×Nat×U) (λx=>x.1≤n∧V h x.2.2.2) (λx=>n-x.1) (λx=>[(4,O x.1),(0,.slice A n c),(3,AD b3),(2,AD b2)]) (λx=>[Ap b3 193 (Cp (FQ x.2.1 x.1 x.2.2.1)),Ar 193 5 (.slice x.2.1 x.1 x.2.2.1) x.1 (((l.take x.1).map DT).flatMap Cp),Ap b2 193 (Cp FY)]) (λx=>x.2.2.2) (0,none,0,h) ⟨Ah,V.refl _⟩ Af Ad rfl ?_;rintro⟨k,f,c1,hh⟩ ⟨j,d⟩ e;dsimp only at j d e ⊢;by_cases a:k<n
 ·have a1:=hx.addrD a;have cc:=(hx.cellsD 0 a).le d;have p:=BY 0 o a;generalize l.getD k 0=u at *;(repeat'(first|refine AH ?_|(apply AU (n:=5) 11 [0,1,2,3,4,5,99,6,7,8,99,9,99,10];kernel_rfl)|(apply Be;exact Bd;(first|exact Bf|exact HG);exact AX)|(refine Bn ?_;first|(refine sK ?_;intro b1 h1 g hs1;refine⟨g,Ak,?_⟩)|(refine qU ?_;intro i c2;refine⟨V.refl _,Ak,?_⟩)|(apply Aw;exact F;exact Ab func180;exact Rv _ _;refine⟨V.refl _,Ak,?_⟩))|(refine Y ?_ ?_<;>intro hc<;>try omega)|fail))
  all_goals
   have h3:=e (k+1,i,c2,h1) ⟨Ah,by dsimp only;exact d.trans g⟩ Ah
   dsimp only at h3
   rw[p,DI]at h3
   refine AB Af Ad h3
 {rw[By J];clear e;(have m:k=l.length:=by omega);subst m;(repeat'(first|refine AH ?_|(refine Y ?_ ?_<;>intro hc<;>try omega)|fail));exact Me (rs:=[.cell 2 193]) (vs:=[Et (FQ f l.length c1)]) rfl rfl ⟨⟨_,rfl,JS rfl Bc rfl⟩,trivial⟩ (.cons _ (.cons_cons _ (Hi _))) ⟨f,c1,rfl,rfl⟩}
def Tn (h:U)(A:At)(n c:Nat)(l:AC)(hx:Ai AQ 1 h A n l)(hn:n≤1000000):Az prog 249 #[.slice A n c] h λu h'=>∃A' a,u=Et (FQ A' l.length a)∧Ai Cp 5 h' A' l.length (l.map DT):=by
 unfold Az
 exact Abc (lA h A n c l hx hn) λv Es h' k ⟨A',a,e1,e2⟩=>⟨_,_,e2,λD i j f=>by
  obtain⟨g,c2,b,hs⟩:=Wj Fy An f;injection b with d _ e;subst d;subst e
  exact⟨rfl,A',a,e1,hs⟩⟩
def RF {d:Nat}(h:U)(A:At)(n c:Nat)(l:AC)(hx:Ai AQ 1 h A n l)(hn:n≤1000000)(a:∀x∈l,Bb x):Az prog 249 #[.slice A n c] h (JJ (d+2) (DK l)):=
 (Tn h A n c l hx hn).mono λv h' _ ⟨A',b,e1,e2⟩=>⟨_,e1,Aav e2 a (by have:=hx.len;omega)⟩
def gP {d:Nat}(h:U)(g:AL)(hg:IL g):Az prog 251 #[Di g] h (JJ (d+2) (DK (GU g))):=by refine BB func251 λ_ _=>?_;(repeat'(first|refine AH ?_|(refine Aj ?_;intro b)|(refine Ac ?_;first|(refine pQ ?_;intro b1 h1 a hcs1)|(apply AR;exact F;exact Ab func249;exact RF (d:=d) _ _ 4 4 (GU g) (Jc hcs1) J (iG hg);rintro e h2 c ⟨v,rfl,hv⟩))|fail));exact Gr rfl rfl rfl Bc rfl rfl ⟨v,rfl,hv⟩
def Aa5 {d:Nat}(h:U)(A:At)(n c:Nat)(l:Fz)(hx:Ai Fk 2 h A n l)(hn:n≤1000000)(ab:∀c∈l,Bb c.p):Az prog 252 #[.slice A n c] h (JJ (d+3) (IU l)):=by
 refine BB func252 λ_ _=>?_;have ae:=hx.len;(repeat'(first|refine AH ?_|(refine Aj ?_;intro b)|(refine Ac ?_;first|(apply Aw;exact F;exact Ab func248;exact To _ _ _ _))|fail));rename_i b2;generalize b=b3;refine FN 193 5 ?_;refine Bg (X:=Nat×KH×At×Nat×U) (λx=>x.1≤n∧x.2.1.length=x.1∧V h x.2.2.2.2∧Bi (DO (d+2) x.2.2.2.2) x.2.1 ((l.take x.1).map λc=>DK (Ki c))) (λx=>n-x.1) (λx=>[(4,O x.1),(0,.slice A n c),(3,AD b3),(2,AD b2)]) (λx=>[Ap b3 193 (Cp (FQ x.2.2.1 x.1 x.2.2.2.1)),Ar 193 5 (.slice x.2.2.1 x.1 x.2.2.2.1) x.1 (x.2.1.flatMap Cp),Ap b2 193 (Cp FY)]) (λx=>x.2.2.2.2) (0,[],none,0,h) ⟨Ah,rfl,V.refl _,⟨rfl,λi a b h1=>by simp at h1⟩⟩ Af Ad rfl ?_;rintro⟨k,vs,s,c1,hh⟩ ⟨z,m,j,f⟩ o;dsimp only at z m j f o ⊢;by_cases g:k<n
 ·have a1:=hx.addrD g;have cc:=(hx.cellsD De g).le j;have af:=BY De ae g;have y:=fJ _ (ab _ (Ce De (show k<l.length by omega)));generalize l.getD k De=u at *;(repeat'(first|refine AH ?_|(apply AU (n:=5) 19 [0,1,2,3,4,5,6,7,8,9,10,11,99,12,13,14,15,16,99,17,99,18];kernel_rfl)|(apply Be;exact Bd;(first|exact Bf|exact HG|exact Cb);exact AX)|(refine Bn ?_;first|(refine pU ?_;intro b1 h1 ac hcs1;refine⟨ac,Ak,?_⟩)|(apply AR;exact F;exact Ab func249;exact RF (d:=d) _ _ 2 2 (Ki u) (Jc hcs1) J y;rintro ah h2 ad ⟨v,rfl,hv⟩;refine⟨ad,Ak,?_⟩)|(refine qS ?_;intro ag r e hs4;refine⟨e,Ak,?_⟩)|(refine pN ?_;intro p c2;refine⟨V.refl _,Ak,?_⟩)|(apply Aw;exact F;exact Ab func253;exact vZ _ _;refine⟨V.refl _,Ak,?_⟩))|(refine Y ?_ ?_<;>intro hc<;>try omega)|fail))
  all_goals
   have h3:=o (k+1,vs++[v],p,c2,r) ⟨Ah,by simp[m],by dsimp only;exact j.trans Ag,by
    dsimp only;rw[af,DI];exact(f.imp λa b q=>q.le Ag).snoc (hv.le e)⟩ Ah
   dsimp only at h3
   refine AB Af Ad h3
 {rw[By J]at f;clear o;(have aa:k=n:=by omega);subst aa;(repeat'(first|refine AH ?_|(refine Y ?_ ?_<;>intro hc<;>try omega)|fail));refine OQ (enc:=Cp) (xs:=vs) Fy m Bh ?_;intro p c2 r e e2 hs4;injection e2 with t _ w;subst t;subst w;refine Gr rfl rfl rfl Bc rfl rfl ⟨FQ s k c1,rfl,?_⟩;rw[←Abo];exact LM hs4 (f.imp λa b q=>q.le e) hn}
def Aes (h:U)(s:AA)(f:Al)(hf:Cr h s f)(hs:Ih f)(e:f.kind=1)(k:Bb f.eS)(l:Bb f.eC)(i3:∀x∈f.eClubs,Bb x):Az prog 181 #[BW s f] h (JJ 5 (EY (CD f))):=by
 (have j:CD f=[Bl f.eS,Bl f.eC,DK f.eClubs,Du f.eRules]:=by unfold CD;rw[e];rfl);rw[j];refine BB func181 λ_ _=>?_;obtain⟨p,q,n3,r,t,n6⟩:=hf.small1 hs;(repeat'(first|refine AH ?_|(refine Aj ?_;intro b)|(apply AU (n:=4) 15 [0,1,3,4,6,7,9,10,99,2,5,8,11,12,13,14];kernel_rfl)|(refine Bn ?_;first|(apply AR;exact F;exact Ab func249;exact RF (d:=2) _ _ _ _ f.eClubs (hf.cl.le Ag) J i3;rintro u m c ⟨va,rfl,i⟩;refine⟨c,Ak,?_⟩)|(refine sR ?_;intro a o g hsl;refine⟨g,Ak,?_⟩)|(apply Aw;exact F;exact Ab func180;exact Rv _ _;refine⟨V.refl _,Ak,?_⟩)|(apply Aw;exact F;exact Ab func250;exact vX _ _;refine⟨V.refl _,Ak,?_⟩)|(apply Aw;exact F;exact Ab func248;exact To _ _ _ _;refine⟨V.refl _,Ak,?_⟩))|(refine Y ?_ ?_<;>intro hc<;>try omega)|fail));(all_goals try omega)
 all_goals
  refine Gr rfl rfl rfl Bc rfl rfl ⟨FQ (some (Av a)) 4 4,rfl,LM hsl (Bi.cons (CT k) (Bi.cons (CT l) (Bi.cons (i.le Ag) (Bi.cons (Wu) (Bi.nil))))) J⟩
def Aer (h:U)(s:AA)(f:Al)(hf:Cr h s f)(hs:Ih f)(e:f.kind=2)(k:IL f.fg)(l:Bb f.venue):Az prog 181 #[BW s f] h (JJ 5 (EY (CD f))):=by
 (have j:CD f=[DK (GU f.fg),Bl f.venue]:=by unfold CD;rw[e];rfl);rw[j];refine BB func181 λ_ _=>?_;obtain⟨p,q,n3,r,t,n6⟩:=hf.small1 hs;(repeat'(first|refine AH ?_|(refine Aj ?_;intro b)|(apply AU (n:=6) 11 [0,1,2,4,5,6,99,3,7,8,9,10];kernel_rfl)|(refine Bn ?_;first|(apply AR;exact F;exact Ab func251;exact gP (d:=2) _ f.fg k;rintro u m c ⟨va,rfl,i⟩;refine⟨c,Ak,?_⟩)|(refine rU ?_;intro a o g hsl;refine⟨g,Ak,?_⟩)|(apply Aw;exact F;exact Ab func180;exact Rv _ _;refine⟨V.refl _,Ak,?_⟩)|(apply Aw;exact F;exact Ab func248;exact To _ _ _ _;refine⟨V.refl _,Ak,?_⟩))|(refine Y ?_ ?_<;>intro hc<;>try omega)|fail));(all_goals try omega)
 all_goals
  refine Gr rfl rfl rfl Bc rfl rfl ⟨FQ (some (Av a)) 2 2,rfl,LM hsl (Bi.cons (i.le Ag) (Bi.cons (CT l) (Bi.nil))) J⟩
def Aeq (h:U)(s:AA)(f:Al)(hf:Cr h s f)(hs:Ih f)(e:f.kind=3)(z:IL f.sh.g)(a:∀x∈[f.sh.ref,f.sh.hg,f.sh.ag,f.sh.hp,f.sh.ap],Bb x)(i3:∀x∈f.sh.hs,Bb x)(i4:∀x∈f.sh.asn,Bb x)(i5:∀c∈f.sh.hc,Bb c.p)(aa:∀c∈f.sh.ac,Bb c.p):Az prog 181 #[BW s f] h (JJ 5 (EY (CD f))):=by
 (have y:CD f=[DK (GU f.sh.g),Bl f.sh.ref,Bl f.sh.hg,Bl f.sh.ag,Bl f.sh.hp,Bl f.sh.ap,DK f.sh.hs,DK f.sh.asn,IU f.sh.hc,IU f.sh.ac]:=by unfold CD;rw[e];rfl);rw[y];refine BB func181 λ_ _=>?_;obtain⟨an,ao,n3,ap,aq,n6⟩:=hf.small1 hs;(repeat'(first|refine AH ?_|(refine Aj ?_;intro b)|(refine Ac ?_;first|(refine cR ?_;intro ae hi aj hcs1)|(apply AR;exact F;exact Ab func249;exact Tn _ _ 5 5 [f.sh.ref,f.sh.hg,f.sh.ag,f.sh.hp,f.sh.ap] (Jc (hcs1.le Ag)) J;rintro au hn ak ⟨ad,ag,rfl,hsn⟩))|(apply AU (n:=10) 9 [0,1,4,5,99,2,3,6,99,7,99,8];kernel_rfl)|(apply AU (n:=11) 18 [0,1,2,3,5,6,8,9,11,12,99,4,7,10,13,14,15,99,16,99,17];kernel_rfl)|(refine Bn ?_;first|(apply AR;exact F;exact Ab func251;exact gP (d:=2) _ f.sh.g z;rintro ar hg l ⟨vg,rfl,r⟩;refine⟨l,Ak,?_⟩)|(refine cB ?_;intro bo;refine⟨V.refl _,Ak,?_⟩)|(refine tU ?_;intro ab c2;refine⟨V.refl _,Ak,?_⟩)|(apply AR;exact F;exact Ab func249;exact RF (d:=2) _ _ _ _ f.sh.hs (hf.sh.hs.le Ag) J i3;rintro av hp m ⟨vp,rfl,t⟩;refine⟨m,Ak,?_⟩)|(apply AR;exact F;exact Ab func249;exact RF (d:=2) _ _ _ _ f.sh.asn (hf.sh.asn.le Ag) J i4;rintro aw hq o ⟨vq,rfl,u⟩;refine⟨o,Ak,?_⟩)|(apply AR;exact F;exact Ab func252;exact Aa5 (d:=1) _ _ _ _ f.sh.hc (hf.sh.hc.le Ag) J i5;rintro ax hr p ⟨vr,rfl,v⟩;refine⟨p,Ak,?_⟩)|(apply AR;exact F;exact Ab func252;exact Aa5 (d:=1) _ _ _ _ f.sh.ac (hf.sh.ac.le Ag) J aa;rintro ay al q ⟨vt,rfl,w⟩;refine⟨q,Ak,?_⟩)|(refine rN ?_;intro af am k hs4;refine⟨k,Ak,?_⟩)|(refine tW ?_;intro A3 c3;refine⟨V.refl _,Ak,?_⟩))|(refine Y ?_ ?_<;>intro hc<;>try omega)|fail));(all_goals try omega)
 all_goals
  refine OQ (enc:=Cp) (xs:=([vg]++[f.sh.ref,f.sh.hg,f.sh.ag,f.sh.hp,f.sh.ap].map DT++[vp,vq,vr,vt])) Fy rfl Bh ?_
  intro ac c7 ah ai g hsl
  injection g with i _ j
  subst i;subst j
  refine Gr rfl rfl rfl Bc rfl rfl ⟨FQ A3 10 c3,rfl,LM hsl (Bi.cons (r.le Ag) (Bi.cons (CT (a _ An)) (Bi.cons (CT (a _ An)) (Bi.cons (CT (a _ An)) (Bi.cons (CT (a _ An)) (Bi.cons (CT (a _ An)) (Bi.cons (t.le Ag) (Bi.cons (u.le Ag) (Bi.cons (v.le Ag) (Bi.cons (w.le Ag) (Bi.nil))))))))))) J⟩
def Aep (h:U)(s:AA)(f:Al)(hf:Cr h s f)(hs:Ih f)(e:f.kind=4)(r:IL f.ru.g)(a:∀x∈[f.ru.case,f.ru.inst,f.ru.kind],Bb x)(i3:∀x∈[f.ru.club,f.ru.player,f.ru.season,f.ru.comp,f.ru.points,f.ru.amount,f.ru.hg,f.ru.ag,f.ru.lo,f.ru.hi],Bb x):Az prog 181 #[BW s f] h (JJ 5 (EY (CD f))):=by
 (have q:CD f=[Bl f.ru.case,Bl f.ru.inst,Bl f.ru.kind,DK (GU f.ru.g),Bl f.ru.club,Bl f.ru.player,Bl f.ru.season,Bl f.ru.comp,Bl f.ru.points,Bl f.ru.amount,Bl f.ru.hg,Bl f.ru.ag,Bl f.ru.lo,Bl f.ru.hi]:=by unfold CD;rw[e];rfl);rw[q];refine BB func181 λ_ _=>?_;obtain⟨aj,ak,n3,al,am,n6⟩:=hf.small1 hs;(repeat'(first|refine AH ?_|(refine Aj ?_;intro b)|(refine Ac ?_;first|(refine rS ?_;intro z hi ag hcs1)|(apply Ed;exact F;exact Ab func249;exact lA _ _ 3 3 [f.ru.case,f.ru.inst,f.ru.kind] (Jc (hcs1.le Ag)) J;exact Ad;rintro ap y hn ah ⟨w,ad,rfl,rfl⟩))|(apply AU (n:=16) 9 [0,1,2,3,99,4,5,6,99,7,99,8];kernel_rfl)|(apply AU (n:=17) 30 [0,1,2,3,4,5,6,7,8,9,10,11,12,13,14,15,16,17,18,19,20,21,22,23,99,24,25,99,26,99,27,99,28,99,29];kernel_rfl)|(refine Bn ?_;first|(apply AR;exact F;exact Ab func251;exact gP (d:=2) _ f.ru.g r;rintro an hg l ⟨vg,rfl,p⟩;refine⟨l,Ak,?_⟩)|(refine tR ?_;intro aa hj m j;refine⟨m,Ak,?_⟩)|(apply AR;exact F;exact Ab func249;exact Tn _ _ 10 10 [f.ru.club,f.ru.player,f.ru.season,f.ru.comp,f.ru.points,f.ru.amount,f.ru.hg,f.ru.ag,f.ru.lo,f.ru.hi] (Jc (j.le Ag)) J;rintro ao hm o ⟨v,ac,rfl,hsm⟩;refine⟨o,Ak,?_⟩)|(refine qT ?_;intro ab ai k hs4;refine⟨k,Ak,?_⟩)|(refine tS ?_;intro t c2;refine⟨V.refl _,Ak,?_⟩)|(refine uC ?_;intro A3 c3;refine⟨V.refl _,Ak,?_⟩))|(refine Y ?_ ?_<;>intro hc<;>try omega)|fail));(all_goals try omega)
 all_goals
  refine OQ (enc:=Cp) (xs:=([f.ru.case,f.ru.inst,f.ru.kind].map DT++[vg]++[f.ru.club,f.ru.player,f.ru.season,f.ru.comp,f.ru.points,f.ru.amount,f.ru.hg,f.ru.ag,f.ru.lo,f.ru.hi].map DT)) Fy rfl Bh ?_
  intro u c7 ae af c hsl
  injection c with g _ i
  subst g;subst i
  refine Gr rfl rfl rfl Bc rfl rfl ⟨FQ A3 14 c3,rfl,LM hsl (Bi.cons (CT (a _ An)) (Bi.cons (CT (a _ An)) (Bi.cons (CT (a _ An)) (Bi.cons (p.le Ag) (Bi.cons (CT (i3 _ An)) (Bi.cons (CT (i3 _ An)) (Bi.cons (CT (i3 _ An)) (Bi.cons (CT (i3 _ An)) (Bi.cons (CT (i3 _ An)) (Bi.cons (CT (i3 _ An)) (Bi.cons (CT (i3 _ An)) (Bi.cons (CT (i3 _ An)) (Bi.cons (CT (i3 _ An)) (Bi.cons (CT (i3 _ An)) (Bi.nil))))))))))))))) J⟩
def Aeo (h:U)(s:AA)(f:Al)(hf:Cr h s f)(hs:Ih f)(e:f.kind=5)(a:∀x∈[f.aCase,f.aInst,if f.aSusp then 1 else 0],Bb x):Az prog 181 #[BW s f] h (JJ 5 (EY (CD f))):=by
 (have j:CD f=[Bl f.aCase,Bl f.aInst,Bl (if f.aSusp then 1 else 0)]:=by unfold CD;rw[e];rfl);rw[j];refine BB func181 λ_ _=>?_;obtain⟨l,m,n3,o,p,n6⟩:=hf.small1 hs;(repeat'(first|refine AH ?_|(refine Aj ?_;intro b)|(apply AU (n:=20) 13 [0,1,2,3,4,5,6,7,8,99,9,10,11,12];kernel_rfl)|(refine Bn ?_;first|(refine sY ?_;intro k hi g hcs1;refine⟨g,Ak,?_⟩)|(apply AR;exact F;exact Ab func249;exact Tn _ _ 3 3 [f.aCase,f.aInst,if f.aSusp then 1 else 0] (Jc (hcs1.le Ag)) J;rintro q hn i ⟨c,d,rfl,hsn⟩;refine⟨i,Ak,?_⟩)|(apply Aw;exact F;exact Ab func253;exact vZ _ _;refine⟨V.refl _,Ak,?_⟩))|(refine Y ?_ ?_<;>intro hc<;>try omega)|fail));(all_goals try omega)
 all_goals
  refine Gr rfl rfl rfl Bc rfl rfl ⟨FQ c 3 d,rfl,LM hsn (Bi.cons (CT (a _ An)) (Bi.cons (CT (a _ An)) (Bi.cons (CT (a _ An)) (Bi.nil)))) J⟩
def Aen (h:U)(s:AA)(f:Al)(hf:Cr h s f)(hs:Ih f)(e:f.kind=6)(g:Bb f.mP)(j:Bb f.mTo):Az prog 181 #[BW s f] h (JJ 5 (EY (CD f))):=by
 (have d:CD f=[Bl f.mP,Bl f.mTo]:=by unfold CD;rw[e];rfl);rw[d];refine BB func181 λ_ _=>?_;obtain⟨n,o,n3,p,q,n6⟩:=hf.small1 hs;(repeat'(first|refine AH ?_|(refine Aj ?_;intro b)|(refine Ac ?_;first|(apply HQ (e:=3) (cs:=[f.mP,f.mTo].map λi=>O i);(iterate 3 exact F);exact Cf _ _;(iterate 4 exact F);intro k hi l hcs1)|(apply AR;exact F;exact Ab func249;exact Tn _ _ 2 2 [f.mP,f.mTo] (Jc (hcs1.le Ag)) J;rintro r hn m ⟨a,c,rfl,hsn⟩))|(refine Y ?_ ?_<;>intro hc<;>try omega)|fail));(all_goals try omega)
 all_goals
  refine Gr rfl rfl rfl Bc rfl rfl ⟨FQ a 2 c,rfl,LM hsn (Bi.cons (CT g) (Bi.cons (CT j) (Bi.nil))) J⟩
def Aem (h:U)(s:AA)(f:Al)(hf:Cr h s f)(hs:Ih f)(e:f.kind=7)(k:Bb f.lS)(l:Bb f.lC)(i3:∀x∈f.lO,Bb x):Az prog 181 #[BW s f] h (JJ 5 (EY (CD f))):=by
 (have j:CD f=[Bl f.lS,Bl f.lC,DK f.lO]:=by unfold CD;rw[e];rfl);rw[j];refine BB func181 λ_ _=>?_;obtain⟨p,q,n3,r,t,n6⟩:=hf.small1 hs;(repeat'(first|refine AH ?_|(refine Aj ?_;intro b)|(apply AU (n:=24) 15 [0,1,2,4,5,6,8,9,10,99,3,7,11,12,13,14];kernel_rfl)|(refine Bn ?_;first|(apply AR;exact F;exact Ab func249;exact RF (d:=2) _ _ _ _ f.lO (hf.lo.le Ag) J i3;rintro u m c ⟨va,rfl,i⟩;refine⟨c,Ak,?_⟩)|(refine sB ?_;intro a o g hsl;refine⟨g,Ak,?_⟩)|(apply Aw;exact F;exact Ab func180;exact Rv _ _;refine⟨V.refl _,Ak,?_⟩)|(apply Aw;exact F;exact Ab func248;exact To _ _ _ _;refine⟨V.refl _,Ak,?_⟩))|(refine Y ?_ ?_<;>intro hc<;>try omega)|fail));(all_goals try omega)
 all_goals
  refine Gr rfl rfl rfl Bc rfl rfl ⟨FQ (some (Av a)) 3 3,rfl,LM hsl (Bi.cons (CT k) (Bi.cons (CT l) (Bi.cons (i.le Ag) (Bi.nil)))) J⟩
def Aev {h:U}{a:Nat}{s:AA}{f:Al}(c:Au h (Av a) (BX (BW s f)))(hv:f.void.length=32):Ai BZ 1 h (some ⟨a,50,none⟩) 32 f.void:=
 Ai.of_flat (λ_=>rfl) hv (by
  have hb1:Au h (Av a) (CS s f):=c
  have b:=hb1.shift 50
  rw[GC,Dy]at b
  rw[←wA f.void hv];exact b)
def Ael (h:U)(s:AA)(f:Al)(hf:Cr h s f)(hs:Ih f)(e:f.kind=8)  :Az prog 181 #[BW s f] h (JJ 5 (EY (CD f))):=by
 (have d:CD f=[Du f.void]:=by unfold CD;rw[e];rfl);rw[d];refine BB func181 λ_ _=>?_;obtain⟨m,n,n3,o,p,n6⟩:=hf.small1 hs;(repeat'(first|refine Ba ?_|(have k:f.kind≠7:=Cn;refine fS (e:=71) (cs:=BX (BW s f)) Bh ?_;intro g i c;have hvs:=Aev c hf.void)|refine BF ?_|(refine Z (by apply Ada;(iterate 4 exact F)) ?_)|refine Z tD ?_|(refine Aj ?_;intro b)|(refine Ac ?_;first|(refine rP ?_;intro a l j hsl)|(apply Aw;exact F;exact Ab func250;exact vX _ _)|(apply Aw;exact F;exact Ab func248;exact To _ _ _ _))|(refine Y ?_ ?_<;>intro hc<;>try omega)|fail));(all_goals try omega)
 all_goals
  refine Gr rfl rfl rfl Bc rfl rfl ⟨FQ (some (Av a)) 1 1,rfl,LM hsl (Bi.cons (Wu) (Bi.nil)) J⟩
def Aek (h:U)(s:AA)(f:Al)(hf:Cr h s f)(hs:Eu f)(o:BT f):Az prog 181 #[BW s f] h (JJ 5 (EY (CD f))):=by
 have hs:=o.sm1;have hco:=o.2.2.1;(have l:1≤f.kind∧f.kind≤8:=by{refine JD λl=>(Pi f l).2 hco});have mx:∀{n m:Int},AY n m→m≤1000000→Bb n:=λh1 h2=>Ls h1 J;(have:f.kind=1∨f.kind=2∨f.kind=3∨f.kind=4∨f.kind=5∨f.kind=6∨f.kind=7∨f.kind=8:=by omega);(have k:∀{n:Int},n=0→Bb n:=λh=>by subst h;unfold Bb;omega);rcases this with e|e|e|e|e|e|e|e;{rw[EW,if_pos e]at hco;exact Aes h s f hf hs e (mx hco.1 J) (mx hco.2.1 J) (λx hx=>mx (hco.2.2.1.2.2 x hx) J)};{rw[EW,if_neg J,if_pos e]at hco;exact Aer h s f hf hs e (JT hco.1) (mx hco.2 J)}
 ·rw[EW,if_neg J,if_neg J,if_pos e]at hco;obtain⟨g1,p,q,r,t,i,j,u,Jg,w⟩:=hco;refine Aeq h s f hf hs e (JT g1) ?_ (λx hx=>mx (i.2.1 x hx) J) (λx hx=>mx (j.2.1 x hx) J) (λc hc=>mx (i.2.1 _ (u.2 c hc)) J) (λc hc=>mx (j.2.1 _ (Jg.2 c hc)) J);intro x hx
  have hp:Bb f.sh.hp∧Bb f.sh.ap:=by
   rcases t with⟨d,g⟩|⟨_,d,g,_⟩;{exact⟨k d,k g⟩};{exact⟨mx d J,mx g J⟩}
  simp only[Bx,JX,or_false]at hx;rcases hx with rfl|rfl|rfl|rfl|rfl;{exact mx p J};{exact mx q J};{exact mx r J};{exact hp.1};{exact hp.2}
 ·rw[EW,if_neg J,if_neg J,if_neg J,if_pos e]at hco;obtain⟨y,r2,aa,ab,a,v⟩:=hco
  have b:IL f.ru.g∧∀x∈[f.ru.kind,f.ru.club,f.ru.player,f.ru.season,f.ru.comp,f.ru.points,f.ru.amount,f.ru.hg,f.ru.ag,f.ru.lo,f.ru.hi],Bb x:=by
   rw[←v];(have z:Bb 0:=by unfold Bb;omega);unfold GY at a;unfold GO;unfold IT AY at a;by_cases k1:f.ru.kind=1;{rw[if_pos k1]at a ⊢;refine⟨JT a.1,λx hx=>?_⟩;have:=a.1;unfold DL AY at this;simp[DB]at hx;unfold Bb;omega};rw[if_neg k1]at a ⊢;by_cases k1:f.ru.kind=2;{rw[if_pos k1]at a ⊢;refine⟨JT a,λx hx=>?_⟩;simp[DB]at hx;unfold Bb;omega};rw[if_neg k1]at a ⊢;by_cases k1:f.ru.kind=3;{rw[if_pos k1]at a ⊢;refine⟨JT a.1,λx hx=>?_⟩;simp[DB]at hx;unfold Bb;omega};rw[if_neg k1]at a ⊢;by_cases k1:f.ru.kind=4;{rw[if_pos k1]at a ⊢;refine⟨Kc,λx hx=>?_⟩;simp[DB]at hx;unfold Bb;omega};rw[if_neg k1]at a ⊢;by_cases k1:f.ru.kind=5;{rw[if_pos k1]at a ⊢;refine⟨Kc,λx hx=>?_⟩;simp[DB]at hx;unfold Bb;omega};rw[if_neg k1]at a ⊢;by_cases k1:f.ru.kind=6;{rw[if_pos k1]at a ⊢;refine⟨Kc,λx hx=>?_⟩;simp[DB]at hx;unfold Bb;omega};rw[if_neg k1]at a ⊢;by_cases k1:f.ru.kind=7;{rw[if_pos k1]at a ⊢;refine⟨Kc,λx hx=>?_⟩;simp[DB]at hx;unfold Bb;omega};rw[if_neg k1]at a ⊢;refine⟨Kc,λx hx=>?_⟩;simp[DB]at hx;unfold Bb;omega
  refine Aep h s f hf hs e b.1 (λx hx=>?_) (λx hx=>b.2 x (Ey _ hx));simp only[Bx,JX,or_false]at hx;rcases hx with rfl|rfl|rfl;{unfold Bb;omega};{unfold Bb;omega};{exact b.2 _ An}
 {rw[EW,if_neg J,if_neg J,if_neg J,if_neg J,if_pos e]at hco;refine Aeo h s f hf hs e λx hx=>?_;simp only[Bx,JX,or_false]at hx;rcases hx with rfl|rfl|rfl;{unfold Bb;omega};{unfold Bb;omega};{unfold Bb;split<;>omega}};{rw[EW,if_neg J,if_neg J,if_neg J,if_neg J,if_neg J,if_pos e]at hco;exact Aen h s f hf hs e (mx hco.1 J) bZ};{rw[EW,if_neg J,if_neg J,if_neg J,if_neg J,if_neg J,if_neg J,if_pos e]at hco;exact Aem h s f hf hs e (mx hco.1 J) (mx hco.2.1 J) (λx hx=>mx (hco.2.2.1.2.2 x hx) J)};{exact Ael h s f hf hs e}
section
variable {C:Bu} {ds:CL} {l:AW} {Es:Am} {h:U} {K:CB}
def fD {f:Bool}{e:TypeId}{v:Value}{n:Nat}{l8:Bj}{Es':Am}(hn:l8.length=n)(hT:C' Es (Cm f e v n (l8.flatMap BZ)) Es')
  (g:∀A c h',V h h'→v=.slice A n c→n≤c→Ai BZ 1 h' A n l8→AI C ds l Es' h' K):AI C ds l Es h K:=
 Ue hT λD h' d b=>by
  obtain⟨A,c,e1,e2,a⟩:=yP hn b
  exact g A c h' d e1 e2 a
end
theorem lX:∀(k u:Nat),u<10^(k+1)→(Lib.decDigits u).length≤k+1
 |0,u,h=>by rw[Lib.decDigits,dif_pos RM];simp
 |k+1,u,h=>by rw[Lib.decDigits];split;{simp};{rw[Bt];have:=lX k (u / 10) (by rw[Nat.pow_succ]at h;omega);simp;omega}
def TD {u:Nat}(h:u≤18446744073709551615):(Lib.decDigits u).length≤20:=lX 19 u J
def Te:Bj:=[48,49,50,51,52,53,54,55,56,57]
def Are:∀d,d<10→(Te.take (d+1)).drop d=[UInt8.ofNat (48+d)]:=by decide
def oT:∀(u:Nat),u≤18446744073709551615→∀(h:U),Aq prog 346 #[.int .u64 (u:Int)] h (.string (Cj (Lib.decDigits u))):=by intro u;induction u using Nat.strongRecOn with|_ u c=>intro d h;refine AK func346 λ_ _=>?_;have a:=Are (u%10) J;by_cases b:u<10;{(have e:Lib.decDigits u=(Te.take (u%10+1)).drop (u%10):=by rw[a,Lib.decDigits,dif_pos b,X' b]);rw[e];(repeat'(first|refine Ba ?_|(apply wW;(iterate 5 exact F))|(apply fR;(iterate 3 exact F);omega;exact F;exact F)|refine Eo ?_|refine Z qP ?_|(refine Y ?_ ?_<;>intro hc<;>try omega)|refine Bm ?_|fail));all_goals first|rfl|omega};{have f:=λh=>c (u / 10) J J h;have g:=TD (u:=u / 10) J;(have e:Lib.decDigits u=Lib.decDigits (u / 10)++(Te.take (u%10+1)).drop (u%10):=by{rw[a];conv=>lhs;rw[Lib.decDigits,dif_neg b]});(have i:((Te.take (u%10+1)).drop (u%10)).length=1:=by rw[a];rfl);rw[e];clear e a;(repeat'(first|refine Ba ?_|(apply wW;(iterate 5 exact F))|(apply A0g;(iterate 3 exact F);exact d;exact F;exact F)|(apply fR;(iterate 3 exact F);omega;exact F;exact F)|refine Eo ?_|refine Z qP ?_|(refine Z (by apply TB;(iterate 3 exact F);omega) ?_)|(refine Ac ?_;first|(apply Aw;exact F;exact Ab func346;exact f _))|(refine Y ?_ ?_<;>intro hc<;>try omega)|refine Bm ?_|fail));all_goals first|rfl|omega}
def yH (n:Int)(h1:0≤n)(h2:n≤18446744073709551615)(h:U):Aq prog 346 #[.int .u64 n] h (.string (Cj (Lib.decDigits n.toNat))):=by have:=oT n.toNat J h;rwa [Int.toNat_of_nonneg h1]at this
def uW {n:Int}(h:n<0):Lib.itoa n=45::Lib.decDigits (0-(n+1)+1).toNat:=by unfold Lib.itoa;rw[if_pos h,show n.natAbs=(0-(n+1)+1).toNat by omega]
def dT {n:Int}(h:0≤n):Lib.itoa n=Lib.decDigits n.toNat:=by unfold Lib.itoa;rw[if_neg J]
def Ari (n:Int)(hn:Bb n)(h:U):Aq prog 318 #[O n] h (.string (Cj (Lib.itoa n))):=by refine AK func318 λ_ _=>?_;unfold Bb at hn;by_cases h0:n<0;{have b:=TD (u:=(0-(n+1)+1).toNat) J;rw[uW h0];(repeat'(first|refine Ba ?_|(apply A0h;exact F;omega;exact F;exact F)|(apply gY;(iterate 3 exact F);omega;exact F;exact F)|(apply fR;(iterate 3 exact F);omega;exact F;exact F)|refine Eo ?_|(refine Z (by apply TB (a:=[45]);(iterate 3 exact F);(simp only[Do,Jw];omega)) ?_)|(refine Ac ?_;first|(apply Aw;exact F;exact Ab func346;exact yH (0-(n+1)+1) J J _))|(refine Y ?_ ?_<;>intro hc<;>try omega)|refine Bm ?_|fail));all_goals first|rfl|omega};{rw[dT J];(repeat'(first|refine Ba ?_|(apply gY;(iterate 3 exact F);omega;exact F;exact F)|refine Eo ?_|(refine Ac ?_;first|(apply Aw;exact F;exact Ab func346;exact yH n J J _))|(refine Y ?_ ?_<;>intro hc<;>try omega)|refine Bm ?_|fail));all_goals first|rfl|omega}
def At6 (s:Bj):Du s=Lib.decDigits s.length++[58]++s:=by unfold Du;rw[dT J];simp
def Aoq {n:Int}(hn:Bb n):(Lib.itoa n).length≤21:=by unfold Bb at hn;by_cases h0:n<0;{rw[uW h0,Do];have:=TD (u:=(0-(n+1)+1).toNat) J;omega};{rw[dT J];have:=TD (u:=n.toNat) J;omega}
def SI (a:Bj) (u:Value) (h:U):Prop:=∃A c,u=.slice A a.length c∧Ai BZ 1 h A a.length a
def iU (h:U)(s:Bj)(hs:s.length≤900000000):Az prog 319 #[.string (Cj s)] h (SI (Du s)):=by refine BB func319 λ_ _=>?_;have p:=TD (u:=s.length) J;have j:=At6 s;have r:(Cj s).size=s.length:=rfl;(have o:(Lib.decDigits s.length++[58]).length≤21:=by rw[Bt,IR];omega);(repeat'(first|refine Ba ?_|(apply gY;(iterate 3 exact F);omega;exact F;exact F)|refine Eo ?_|(refine Z (by apply TB (b:=[58]);(iterate 3 exact F);(simp only[Do,Jw];omega)) ?_)|(refine Ac ?_;first|(apply Aw;exact F;exact Ab func346;exact oT s.length J _)|(apply Ab7 (s:=Lib.decDigits s.length++[58]);(iterate 6 exact F);omega;intro b1 c1)|(apply Axv (n:=(Lib.decDigits s.length++[58]).length) (xs:=(Lib.decDigits s.length++[58]).flatMap BZ) (s:=s);(iterate 10 exact F);intro v1;exact Bp;omega;intro c c2))|fail));rw[←Ep];refine fD (f:=true) (l8:=Lib.decDigits s.length++[58]++s) (n:=(Lib.decDigits s.length++[58]).length+s.length) (e:=5) (by rw[Bt]) Bh ?_;intro k l m q d hnc hs9;injection d with g _ i;subst g;subst i;refine BL rfl rfl rfl ?_;rw[j];have a:(Lib.decDigits s.length++[58]++s).length=(Lib.decDigits s.length++[58]).length+s.length:=Bt;exact⟨c,c2,by rw[a],by rw[a];exact hs9⟩
def Aox (h:U)(A:At)(n c:Nat)(d:Hr)(hK:Ai Qz 1 h A n d)(hp:d.Pairwise λa b=>Op.bytesLess a b=true)(hn:n≤1000000):Aq prog 345 #[.slice A n c] h (.bool true):=by
 refine AK func345 λ_ _=>?_;have o:=hK.len;(repeat'(first|refine Aa ?_|fail));refine Bg (X:=Nat) (λk=>1≤k∧(k≤n∨k=1)) (λk=>n+1-k) (λk=>[(3,O k),(0,.slice A n c)]) (λ_=>[]) (λ_=>h) 1 ⟨J,J⟩ Af Ad rfl ?_;rintro k ⟨g,m⟩ e;by_cases hkn2:k<n
 ·have a1:=hK.addrD hkn2;have c1:=hK.cellsD [] hkn2;have c2:=hK.cellsD [] (show k-1<n by omega);have l:=kE hp g J;generalize d.getD k []=k1 at *;generalize d.getD (k-1) []=k0 at *;(have i:k-1<n:=by omega);(have f:((k:Int)-1)=((k-1:Nat):Int):=by omega);(repeat'(first|refine Aa ?_|(apply AU (n:=4) 10 [0,1,2,3,4,5,6,7,8,9];kernel_rfl)|(apply Be;exact Bd;(first|exact pA|(apply Cs (j:=k-1);(iterate 5 exact F);exact a1;exact f;exact i)|exact BN|exact KQ);exact AX)|(refine Y ?_ ?_<;>intro hc<;>try omega)|fail))
  all_goals first
   |(exfalso;rw[Li,Li,l]at *;simp at *;done)
   |(
      have h3:=e (k+1) ⟨J,J⟩ J
      refine AB Af Ad h3)
 {clear e;(repeat'(first|refine Aa ?_|(refine Y ?_ ?_<;>intro hc<;>try omega)|refine Bm ?_|fail));all_goals rfl}
def Abb (d:Nat):Prop:=∀(h:U) (v:Gh) (bs:Bj),DO d h v bs→Az prog 316 #[Et v] h λu _=>u=.bool true
def Au3 (h:U)(m:Int):Az prog 316 #[Et ⟨1,m,[],Cl,Cl⟩] h λu _=>u=.bool true:=by
 refine BB func316 λ_ _=>?_;have hs:=UO;(repeat'(first|refine Aa ?_|(refine Aj ?_;intro b)|(refine Y ?_ ?_<;>intro hc<;>try omega)|refine AF ?_|(refine AG ?_ ?_<;>intro hc<;>try omega)|fail))
 all_goals first
  |(exfalso;simp_all[Cl];done)
  |(exact BL rfl rfl rfl (by simp[FP,Cl]))
def Au4 (h:U)(s:Bj):Az prog 316 #[Et ⟨2,0,s,Cl,Cl⟩] h λu _=>u=.bool true:=by
 refine BB func316 λ_ _=>?_;(repeat'(first|refine Aa ?_|(refine Aj ?_;intro b)|(refine Y ?_ ?_<;>intro hc<;>try omega)|refine AF ?_|(refine AG ?_ ?_<;>intro hc<;>try omega)|fail))
 all_goals first
  |(exfalso;simp_all[Cl];done)
  |(exact BL rfl rfl rfl (by simp[FP,Cl]))
def Acb (d:Nat)(r:Abb d)(h:U)(k:Int)(t:k=3∨k=4)(L K:Ca)(vs:KH)(i:Hr)(hL:Ai Cp 5 h L.A L.n vs)(q:Bi (DO d h) vs i)(hn:L.n≤1000000)(p:Hr)(hK:Ai Qz 1 h K.A K.n p)(hp:p.Pairwise λa b=>Op.bytesLess a b=true)(v:K.n≤1000000)(h3:k=3→K.n=0)(l:k=4→K.n=L.n) :
  Az prog 316 #[Et ⟨k,0,[],L,K⟩] h λu _=>u=.bool true:=by
 refine BB func316 λ_ _=>?_
 have hs:=UO
 have w:=hL.len
 have s:=Aox h K.A K.n K.c p hK hp v
 rcases t with rfl|rfl
 · have h3:=h3 rfl
   clear l
   repeat'(first|refine Aa ?_|(refine Aj ?_;intro b)|(refine Y ?_ ?_<;>intro hc<;>try omega)|fail)
   all_goals try omega
   generalize b=f
   refine Bg (X:=Nat×U) (λx=>x.1≤L.n∧V h x.2) (λx=>L.n-x.1) (λx=>[(3,O x.1),(1,AD f)]) (λ_=>[Ap f 193 (Cp ⟨3,0,[],L,K⟩)]) (λx=>x.2) (0,h) ⟨Ah,V.refl _⟩ Af Ad rfl ?_
   rintro⟨j,hh⟩ ⟨hj,c⟩ e
   dsimp only at hj c e ⊢
   by_cases hjn:j<L.n
   · have a1:=hL.addrD hjn
     have cc:=(hL.cellsD FY hjn).le c
     have o:=(OP q (show j<vs.length by omega)).le c
     generalize vs.getD j FY=u at *
     generalize i.getD j []=g at *
     have m:=r hh u g o
     repeat'(first|refine Aa ?_|refine Z Xh ?_|refine Z HG ?_|(refine Ac ?_;first|(apply AR;exact F;exact Ab func316;exact m;rintro v1 h1 n rfl))|(refine Y ?_ ?_<;>intro hc<;>try omega)|fail)
     have h3:=e (j+1,h1) ⟨Ah,c.trans n⟩ Ah
     dsimp only at h3
     refine AB Af Ad h3
   · clear e
     repeat'(first|refine Aa ?_|(refine Y ?_ ?_<;>intro hc<;>try omega)|refine AF ?_|(refine AG ?_ ?_<;>intro hc<;>try omega)|fail)
     all_goals first
      |(exfalso;simp_all[Cl];done)
      |(exact BL rfl rfl rfl (congrArg Value.bool UO))
 · have l:=l rfl
   clear h3
   repeat'(first|refine Aa ?_|(refine Aj ?_;intro b)|(refine Ac ?_;first|(apply Aw;exact F;exact Ab func345;exact s))|(refine Y ?_ ?_<;>intro hc<;>try omega)|refine AF ?_|(refine AG ?_ ?_<;>intro hc<;>try omega)|fail)
   all_goals try omega
   generalize b=f
   refine Bg (X:=Nat×U) (λx=>x.1≤L.n∧V h x.2) (λx=>L.n-x.1) (λx=>[(3,O x.1),(1,AD f)]) (λ_=>[Ap f 193 (Cp ⟨4,0,[],L,K⟩)]) (λx=>x.2) (0,h) ⟨Ah,V.refl _⟩ Af Ad rfl ?_
   rintro⟨j,hh⟩ ⟨hj,c⟩ e
   dsimp only at hj c e ⊢
   by_cases hjn:j<L.n
   · have a1:=hL.addrD hjn
     have cc:=(hL.cellsD FY hjn).le c
     have o:=(OP q (show j<vs.length by omega)).le c
     generalize vs.getD j FY=u at *
     generalize i.getD j []=g at *
     have m:=r hh u g o
     repeat'(first|refine Aa ?_|refine Z Xh ?_|refine Z HG ?_|(refine Ac ?_;first|(apply AR;exact F;exact Ab func316;exact m;rintro v1 h1 n rfl))|(refine Y ?_ ?_<;>intro hc<;>try omega)|fail)
     have h3:=e (j+1,h1) ⟨Ah,c.trans n⟩ Ah
     dsimp only at h3
     refine AB Af Ad h3
   · clear e
     repeat'(first|refine Aa ?_|(refine Y ?_ ?_<;>intro hc<;>try omega)|refine AF ?_|(refine AG ?_ ?_<;>intro hc<;>try omega)|fail)
     all_goals first
      |(exfalso;simp_all[Cl];done)
      |(exact BL rfl rfl rfl (congrArg Value.bool UO))
theorem Zv:∀d,Abb d
 |0=>λh v f hv=>hv.elim
 |d+1=>λh v f hv=>by rcases hv with⟨m,rfl,hm,rfl⟩|⟨s,rfl,rfl⟩|⟨L,vs,b,rfl,e2,c,a,rfl⟩|⟨L,K,vs,b,j,rfl,e2,c,a,k,g,i,rfl⟩;{exact Au3 h m};{exact Au4 h s};{exact Acb d (Zv d) h 3 (.inl rfl) L Cl vs b e2 c a [] Ai.nil .nil (by simp[Cl]) (λ_=>rfl) (λe=>by cases e)};{have h1:=e2.len;have h2:=a.len;exact Acb d (Zv d) h 4 (.inr rfl) L K vs b e2 c i j a g J (λe=>by cases e) (λ_=>by omega)}
def Aci (d:Nat):Prop:=∀(h:U) (v:Gh) (bs:Bj),DO d h v bs→Az prog 317 #[Et v] h λu _=>∃m:Int,u=O m∧0≤m∧m≤d
def Ab0 (h:U)(v:Gh)(a:v.k=1∨v.k=2):Az prog 317 #[Et v] h λu _=>u=O 0:=by
 refine BB func317 λ_ _=>?_;obtain⟨e,f,vs,d,c⟩:=v;dsimp only at a;rcases a with rfl|rfl
 ·(repeat'(first|refine Aa ?_|(refine Aj ?_;intro b)|(refine Y ?_ ?_<;>intro hc<;>try omega)|refine AF ?_|(refine AG ?_ ?_<;>intro hc<;>try omega)|fail))
  all_goals first
   |(exfalso;simp at *;done)
   |(exact BL rfl rfl rfl rfl)
 ·(repeat'(first|refine Aa ?_|(refine Aj ?_;intro b)|(refine Y ?_ ?_<;>intro hc<;>try omega)|refine AF ?_|(refine AG ?_ ?_<;>intro hc<;>try omega)|fail))
  all_goals first
   |(exfalso;simp at *;done)
   |(exact BL rfl rfl rfl rfl)
def Ab1 (d:Nat)(z:Aci d)(h:U)(v:Gh)(o:v.k=3∨v.k=4)(vs:KH)(i:Hr)(hL:Ai Cp 5 h v.L.A v.L.n vs)(y:Bi (DO d h) vs i)(hn:v.L.n≤1000000)(ad:d≤1000) :
  Az prog 317 #[Et v] h λu _=>∃m:Int,u=O m∧0≤m∧m≤(d+1:Nat):=by
 refine BB func317 λ_ _=>?_
 have r:=hL.len
 obtain⟨f,ab,ac,c,aa⟩:=v
 dsimp only at o hL hn r
 have p:¬f=1∧¬f=2:=by omega
 repeat'(first|refine Aa ?_|(refine Aj ?_;intro b)|(refine Y ?_ ?_<;>intro hc<;>try omega)|refine AF ?_|(refine AG ?_ ?_<;>intro hc<;>try omega)|fail)
 all_goals try omega
 all_goals(try(exfalso;simp[FP,p]at *;done))
 generalize b=g
 refine Bg (X:=Nat×Int×U) (λx=>x.1≤c.n∧0≤x.2.1∧x.2.1≤d∧V h x.2.2) (λx=>c.n-x.1) (λx=>[(4,O x.1),(3,O x.2.1),(1,AD g)]) (λ_=>[Ap g 193 (Cp ⟨f,ab,ac,c,aa⟩)]) (λx=>x.2.2) (0,0,h) ⟨Ah,Ah,Ah,V.refl _⟩ Af Ad rfl ?_
 rintro⟨j,HS,hh⟩ ⟨hj,s,t,a⟩ e
 dsimp only at hj s t a e ⊢
 by_cases hjn:j<c.n
 · have a1:=hL.addrD hjn
   have cc:=(hL.cellsD FY hjn).le a
   have w:=(OP y (show j<vs.length by omega)).le a
   generalize vs.getD j FY=u at *
   generalize i.getD j []=l at *
   have n:=z hh u l w
   repeat'(first|refine Aa ?_|refine Z Xh ?_|refine Z HG ?_|(refine Ac ?_;first|(apply AR;exact F;exact Ab func317;exact n;rintro v1 h1 q ⟨m,rfl,ae,af⟩))|(refine Y ?_ ?_<;>intro hc<;>try omega)|fail)
   have k:0≤max HS m∧max HS m≤d:=by rw[Int.max_def];split<;>omega
   have h3:=e (j+1,max HS m,h1) ⟨Ah,k.1,k.2,a.trans q⟩ Ah
   dsimp only at h3
   refine AB Af Ad h3
 · clear e
   repeat'(first|refine Aa ?_|(refine Y ?_ ?_<;>intro hc<;>try omega)|fail)
   all_goals exact BL rfl rfl rfl ⟨HS+1,rfl,J,J⟩
theorem ZC:∀d,d≤1000→Aci d
 |0,_=>λh v f hv=>hv.elim
 |d+1,k=>λh v f hv=>by rcases hv with⟨m,rfl,hm,rfl⟩|⟨s,rfl,rfl⟩|⟨L,vs,a,rfl,e2,b,c,rfl⟩|⟨L,K,vs,a,l,rfl,e2,b,c,i,j,g,rfl⟩;{exact(Ab0 h _ (.inl rfl)).mono λu _ _ e=>⟨0,e,J,J⟩};{exact(Ab0 h _ (.inr rfl)).mono λu _ _ e=>⟨0,e,J,J⟩};{exact Ab1 d (ZC d J) h _ (.inl rfl) vs a e2 b c J};{exact Ab1 d (ZC d J) h _ (.inr rfl) vs a e2 b g J}
def Atd (h:U)(d:Nat)(c:d≤16)(v:Gh)(a:Bj)(hv:DO d h v a):Az prog 254 #[Et v] h λu _=>u=O 0:=by
 refine BB func254 λ_ _=>?_;(repeat'(first|refine Aa ?_|(refine Aj ?_;intro b)|(refine Ac ?_;first|(apply AR;exact F;exact Ab func316;exact Zv d _ v a (hv.le Ag);rintro v1 h1 e rfl)|(apply AR;exact F;exact Ab func317;exact ZC d J _ v a (hv.le Ag);rintro j h2 f ⟨m,rfl,g,i⟩))|(refine Y ?_ ?_<;>intro hc<;>try omega)|fail))
 all_goals first
  |omega
  |(exact BL rfl rfl rfl rfl)
def gS (d:Nat):Prop:=∀(h:U) (v:Gh) (bs:Bj),DO d h v bs→bs.length≤500000000→Az prog 255 #[Et v] h (SI bs)
def Aqr (h:U)(m:Int)(hm:Bb m):Az prog 255 #[Et ⟨1,m,[],Cl,Cl⟩] h (SI (Bl m)):=by
 refine BB func255 λ_ _=>?_;have d:=Aoq hm;(have e:([105]++Lib.itoa m).length≤22:=by rw[Bt,IR];omega);(have f:([105]++Lib.itoa m++[101]).length≤23:=by rw[Bt,IR];omega);have e1:[105]++Lib.itoa m++[101]=Bl m:=rfl;(repeat'(first|refine Aa ?_|(refine Z (by apply TB (a:=[105]) (b:=Lib.itoa m);(iterate 3 exact F);(simp only[Do,Jw];omega)) ?_)|(refine Z (by apply TB (a:=[105]++Lib.itoa m) (b:=[101]);(iterate 3 exact F);(simp only[IR];omega)) ?_)|(refine Aj ?_;intro b)|(refine Ac ?_;first|(apply Aw;exact F;exact Ab func318;exact Ari m hm _)|(apply Adw (s:=[105]++Lib.itoa m++[101]);(iterate 6 exact F);omega;intro c c1 h1 g hs1))|(refine Y ?_ ?_<;>intro hc<;>try omega)|fail))
 all_goals first
  |(exfalso;simp at *;done)
  |(exact BL rfl rfl rfl ⟨_,_,rfl,hs1⟩)
def Aqq (h:U)(s:Bj)(hs:s.length≤900000000):Az prog 255 #[Et ⟨2,0,s,Cl,Cl⟩] h (SI (Du s)):=by
 refine BB func255 λ_ _=>?_;(repeat'(first|refine Aa ?_|(refine Aj ?_;intro b)|(refine Ac ?_;first|(apply AR;exact F;exact Ab func319;exact iU _ s hs;rintro v1 h1 c a))|(refine Y ?_ ?_<;>intro hc<;>try omega)|fail))
 all_goals first
  |(exfalso;simp at *;done)
  |(exact BL rfl rfl rfl a)
def Aqp (d:Nat)(ad:gS d)(h:U)(L:Ca)(vs:KH)(a:Hr)(hL:Ai Cp 5 h L.A L.n vs)(o:Bi (DO d h) vs a)(hn:L.n≤1000000)(ai:(EY a).length≤500000000)(ab:∀b∈a,0<b.length) :
  Az prog 255 #[Et ⟨3,0,[],L,Cl⟩] h (SI (EY a)):=by
 refine BB func255 λ_ _=>?_
 have an:=hL.len
 have ao:=o.1
 have aj:(EY a).length=a.flatten.length+2:=by unfold EY;simp
 repeat'(first|refine Aa ?_|(refine Aj ?_;intro b)|(refine Ac ?_;first|(refine pR ?_;intro bo)|(apply ZP (xs:=[(108:UInt8)].flatMap BZ);(iterate 5 exact F);exact Bp))|(refine Y ?_ ?_<;>intro hc<;>try omega)|fail)
 all_goals(try(exfalso;simp at *;done))
 generalize b=j
 refine Bg (X:=Nat×At×Nat×U) (λx=>x.1≤L.n∧V h x.2.2.2) (λx=>L.n-x.1)
  (λx=>[(4,O x.1),(1,AD j),(3,.slice x.2.1 (1+(a.take x.1).flatten.length) x.2.2.1)])
  (λx=>[Cm true 5 (.slice x.2.1 (1+(a.take x.1).flatten.length) x.2.2.1) (1+(a.take x.1).flatten.length) ((108::(a.take x.1).flatten).flatMap BZ),Ap j 193 (Cp ⟨3,0,[],L,Cl⟩)]) (λx=>x.2.2.2) (0,some (Av bo),1,h) ⟨Ah,V.refl _⟩ Af Ad rfl ?_
 rintro⟨k,A,c,hh⟩ ⟨y,g⟩ i
 dsimp only at y g i ⊢
 by_cases m:k<L.n
 · have a1:=hL.addrD m
   have cc:=(hL.cellsD FY m).le g
   have hv:=(OP o (show k<vs.length by omega)).le g
   have ak:=Yz (show k<a.length by omega)
   have ac:=BY [] rfl (show k<a.length by omega)
   have aa:=ab _ (Ce [] (show k<a.length by omega))
   generalize vs.getD k FY=u at *
   generalize a.getD k []=l at *
   have w:=ad hh u l hv J
   repeat'(first|refine Aa ?_|refine Z Bf ?_|refine Z HG ?_|(refine Ac ?_;first|(apply AR;exact F;exact Ab func255;exact w;rintro ap h2 z ⟨ae,c2,rfl,hs2⟩)|(apply UE (f:=true) (n:=1+(a.take k).flatten.length) (xs:=(108::(a.take k).flatten).flatMap BZ) (s:=l);(iterate 8 exact F);exact hs2.le Ag;exact aa;intro v9;exact Bp;omega;intro A3 c3))|(refine Y ?_ ?_<;>intro hc<;>try omega)|fail)
   all_goals(try(exfalso;simp at *;done))
   all_goals
    have h3:=i (k+1,A3,c3,h2) ⟨Ah,by dsimp only;exact g.trans z⟩ Ah
    dsimp only at h3
    rw[ac,Ib,eM,Bt,←Md,←FW,Ep]at h3
    refine AB Af Ad h3
 · rw[By J]
   clear i
   repeat'(first|refine Aa ?_|(refine Ac ?_;first|(refine sA ?_;intro b3 h3 al hs3)|(apply UE (f:=true) (n:=1+a.flatten.length) (xs:=(108::a.flatten).flatMap BZ) (s:=[(101:UInt8)]);(iterate 8 exact F);exact hs3.le Ag;omega;intro v9;exact Bp;omega;intro A3 c3))|(refine Y ?_ ?_<;>intro hc<;>try omega)|fail)
   have p:(108::a.flatten).flatMap BZ++[(101:UInt8)].flatMap BZ=(EY a).flatMap BZ:=by unfold EY;simp only[Eb,Ep,Ck,Oj,DR,FE]
   have q:1+a.flatten.length+1=(EY a).length:=by omega
   rw[p,q]
   refine fD (f:=true) (l8:=EY a) (n:=(EY a).length) (e:=5) rfl Bh ?_
   intro af ag ah am v hnc hs9
   injection v with r _ t
   subst r;subst t
   exact BL rfl rfl rfl ⟨_,_,rfl,hs9⟩
def Aqo (d:Nat)(an:gS d)(h:U)(L K:Ca)(vs:KH)(g i:Hr)(hL:Ai Cp 5 h L.A L.n vs)(aa:Bi (DO d h) vs g)(hK:Ai Qz 1 h K.A K.n i)(a3:i.length=vs.length)(hn:L.n≤1000000)(ax:(Iw i g).length≤500000000)(ak:∀b∈g,0<b.length) :
  Az prog 255 #[Et ⟨4,0,[],L,K⟩] h (SI (Iw i g)):=by
 refine BB func255 λ_ _=>?_
 have a8:=hL.len
 have a9:=hK.len
 have bb:=aa.1
 obtain⟨a,o⟩:∃a,a=(i.zip g).map (λp=>Du p.1++p.2):=⟨_,rfl⟩
 have v:(i.zip g).flatMap (λp=>Du p.1++p.2)=a.flatten:=by rw[o,eN]
 have ba:a.length=vs.length:=by rw[o,Dc,List.length_zip];omega
 have ay:(Iw i g).length=a.flatten.length+2:=by unfold Iw;rw[v];simp
 have am:∀k,k<vs.length→a.getD k []=Du (i.getD k [])++g.getD k []:=λk w=>by
  rw[o];simp[List.getD,Bw (show k<i.length by omega),Bw (show k<g.length by omega),List.zip_eq_zipWith,Ay2]
 repeat'(first|refine Aa ?_|(refine Aj ?_;intro b)|(refine Ac ?_;first|(refine pR ?_;intro bo)|(apply ZP (b:=t) (xs:=[(100:UInt8)].flatMap BZ);(iterate 5 exact F);exact Bp)|(apply PH (n:=1) (cs:=[(100:UInt8)].flatMap BZ);(iterate 3 exact F);exact Cf _ _;(iterate 6 exact F);intro t)|(apply ZP (b:=bo) (xs:=[(108:UInt8)].flatMap BZ);(iterate 5 exact F);exact Bp))|(refine Y ?_ ?_<;>intro hc<;>try omega)|fail)
 all_goals(try(exfalso;simp at *;done))
 generalize b=r
 refine Bg (X:=Nat×At×Nat×U) (λx=>x.1≤L.n∧V h x.2.2.2) (λx=>L.n-x.1)
  (λx=>[(4,O x.1),(1,AD r),(3,.slice x.2.1 (1+(a.take x.1).flatten.length) x.2.2.1)])
  (λx=>[Cm true 5 (.slice x.2.1 (1+(a.take x.1).flatten.length) x.2.2.1) (1+(a.take x.1).flatten.length) ((100::(a.take x.1).flatten).flatMap BZ),Ap r 193 (Cp ⟨4,0,[],L,K⟩)]) (λx=>x.2.2.2) (0,some (Av t),1,h) ⟨Ah,V.refl _⟩ Af Ad rfl ?_
 rintro⟨k,A,c,hh⟩ ⟨w,l⟩ q
 dsimp only at w l q ⊢
 by_cases y:k<L.n
 · have a1:=hL.addrD y
   have cc:=(hL.cellsD FY y).le l
   have hkK:k<K.n:=by omega
   have a2:=hK.addrD hkK
   have ab:=(hK.cellsD [] (show k<K.n by omega)).le l
   have hv:=(OP aa (show k<vs.length by omega)).le l
   have az:=Yz (show k<a.length by omega)
   have al:=BY [] rfl (show k<a.length by omega)
   have z:=am k J
   have aj:=ak _ (Ce [] (show k<g.length by omega))
   generalize vs.getD k FY=u at *
   generalize g.getD k []=m at *
   generalize i.getD k []=j at *
   have a':(a.getD k []).length=(Du j).length+m.length:=by rw[z,Bt]
   have a0:j.length<(Du j).length:=by unfold Du;simp;omega
   have ah:=λh' (ai:V hh h')=>an h' u m (hv.le ai) J
   repeat'(first|refine Aa ?_|refine Z Bf ?_|refine Z oZ ?_|refine Z NZ ?_|(refine Z (by apply BA;exact F;exact BH rfl (ab.le Ag) rfl) ?_)|(refine Ac ?_;first|(apply AR;exact F;exact Ab func319;exact iU _ j J;rintro v1 h1 a4 ⟨ao,c1,rfl,hs1⟩)|(apply UE (f:=true) (n:=1+(a.take k).flatten.length) (xs:=(100::(a.take k).flatten).flatMap BZ) (s:=Du j);(iterate 8 exact F);exact hs1.le Ag;omega;intro v9;exact Bp;omega;intro aq au)|(apply AR;exact F;exact Ab func255;exact ah _ Ag;rintro bc h2 a5 ⟨ap,c2,rfl,hs2⟩)|(apply UE (f:=true) (n:=1+(a.take k).flatten.length+(Du j).length) (xs:=(100::(a.take k).flatten).flatMap BZ++(Du j).flatMap BZ) (s:=m);(iterate 8 exact F);exact hs2.le Ag;exact aj;intro v9;exact Bp;omega;intro A3 c3))|(refine Y ?_ ?_<;>intro hc<;>try omega)|fail)
   all_goals(try(exfalso;simp at *;done))
   all_goals
    have h3:=q (k+1,A3,c3,h2) ⟨Ah,by dsimp only;exact l.trans Ag⟩ Ah
    dsimp only at h3
    rw[al,Ib,eM,z,Bt,Bt,←Md,←Md,←FW,Ep,Ep,←Ck]at h3
    refine AB Af Ad h3
 · rw[By J]
   clear q
   repeat'(first|refine Aa ?_|(refine Ac ?_;first|(refine sA ?_;intro b3 h3 a6 hs3)|(apply UE (f:=true) (n:=1+a.flatten.length) (xs:=(100::a.flatten).flatMap BZ) (s:=[(101:UInt8)]);(iterate 8 exact F);exact hs3.le Ag;omega;intro v9;exact Bp;omega;intro A3 c3))|(refine Y ?_ ?_<;>intro hc<;>try omega)|fail)
   have ac:(100::a.flatten).flatMap BZ++[(101:UInt8)].flatMap BZ=(Iw i g).flatMap BZ:=by unfold Iw;rw[v];simp only[Eb,Ep,Ck,Oj,DR,FE]
   have ad:1+a.flatten.length+1=(Iw i g).length:=by omega
   rw[ac,ad]
   refine fD (f:=true) (l8:=Iw i g) (n:=(Iw i g).length) (e:=5) rfl Bh ?_
   intro ar av aw a7 ag hnc hs9
   injection ag with ae _ af
   subst ae;subst af
   exact BL rfl rfl rfl ⟨_,_,rfl,hs9⟩
def DO.pos {d:Nat}{h:U}{v:Gh}{a:Bj}(e:DO d h v a):0<a.length:=by cases d with|zero=>exact e.elim|succ d=>rcases e with⟨m,rfl,hm,rfl⟩|⟨s,rfl,rfl⟩|⟨L,vs,b,rfl,e2,c,f,rfl⟩|⟨L,K,vs,b,k,rfl,e2,c,f,g,i,j,rfl⟩;{unfold Bl;simp};{unfold Du;simp only[Bt,Do];omega};{unfold EY;simp};{unfold Iw;simp}
def iK {d:Nat}{h:U}{vs:KH}{a:Hr}(z:Bi (DO d h) vs a):∀b∈a,0<b.length:=λb e=>by
 obtain⟨k,c,rfl⟩:=Yk e
 have f:k<vs.length:=z.1▸c
 exact(z.2 k vs[k] a[k] (Bw f) (Bw c)).pos
theorem ZA:∀d,gS d
 |0=>λh v f hv _=>hv.elim
 |d+1=>λh v f hv b=>by rcases hv with⟨m,rfl,hm,rfl⟩|⟨s,rfl,rfl⟩|⟨L,vs,c,rfl,e2,a,e,rfl⟩|⟨L,K,vs,c,j,rfl,e2,a,e,g,k,i,rfl⟩;{exact Aqr h m hm};{exact Aqq h s (by unfold Du at b;simp at b;omega)};{exact Aqp d (ZA d) h L vs c e2 a e b (iK a)};{exact Aqo d (ZA d) h L K vs c j e2 a e g i b (iK a)}
def Aqn (h:U)(d:Nat)(f:d≤16)(v:Gh)(a:Bj)(hv:DO d h v a)(e:a.length≤500000000):Az prog 182 #[Et v] h λu h'=>∃A c,u=.tuple #[.slice A a.length c,O 0]∧Ai BZ 1 h' A a.length a:=by
 refine BB func182 λ_ _=>?_;(repeat'(first|refine Aa ?_|(refine Aj ?_;intro b)|(refine Ac ?_;first|(apply AR;exact F;exact Ab func254;exact Atd _ d f v a (hv.le Ag);rintro v1 h1 i rfl)|(apply AR;exact F;exact Ab func255;exact ZA d _ v a (hv.le Ag) e;rintro k h2 j ⟨g,c2,rfl,hs2⟩))|(refine Y ?_ ?_<;>intro hc<;>try omega)|fail))
 all_goals first
  |omega
  |(exact EG rfl rfl rfl rfl ⟨_,_,rfl,hs2⟩)
end Go.Hw
set_option maxHeartbeats 8000000
namespace Go.Hw
open Go
attribute [local irreducible] AI Bz BV Aq AP Az Au CH Ap Ar BG Cm BP
open Go.Proofs.Tryz
theorem gC:∀(a b:Bj),Op.bytesLess a b=decide (EL a b<0)
 |[],[]=>rfl
 |[],_::_=>rfl
 |_::_,[]=>rfl
 |a::x,b::y=>by unfold Op.bytesLess EL;rw[gC x y];by_cases h1:a.toNat<b.toNat;{rw[if_pos h1];have:a<b:=nO.2 h1;simp[this]};{rw[if_neg h1];have h2:¬a<b:=λh=>h1 (nO.1 h);by_cases h3:b.toNat<a.toNat;{rw[if_pos h3];(have:a≠b:=λh=>by subst h;omega);simp[h2,this]};{rw[if_neg h3];have:a=b:=nN.1 J;simp[this]}}
def Asl (h:U)(a b:Int):Aq prog 104 #[O a,O b] h (O (BJ a b)):=by
 refine AK func104 λ_ _=>?_;(repeat'(first|refine Aa ?_|(refine Y ?_ ?_<;>intro hc<;>try omega)|refine Bm ?_|fail))
 all_goals first
  |(unfold BJ;rw[if_pos J];done)
  |(unfold BJ;rw[if_neg J,if_pos J];done)
  |(unfold BJ;rw[if_neg J,if_neg J];done)
open Classical in
theorem Ab4 (h:U)(s:AA)(f:Al)(hf:Cr h s f)(hs:Eu f)(hg:BT f):Az prog 105 #[BW s f] h (λu h'=>∃A c,u=.tuple #[.slice A (Ev f).length c,O 0]∧Ai BZ 1 h' A (Ev f).length (Ev f)):=by
 refine BB func105 λ_ _=>?_;have p:=hf.void;have z:=lQ f hg p;(have hch:=λh' (m:V h h')=>by{have:=fL h' s f (hf.le m) hs;rw[if_pos hg]at this;exact this});(have j:1≤f.kind∧f.kind≤8:=by{refine JD λj=>(Pi f j).2 hg.2.2.1});have r:Bb f.day:=Ls hg.1 J;(have t:Bb f.kind:=by unfold Bb;omega);have i3:Bb f.known:=Ls hg.2.1 J;(repeat'(first|refine AH ?_|(refine Aj ?_;intro b)|(refine Ac ?_;first|(refine cI ?_)|(apply AR;exact F;exact Ab func182;exact Aqn _ 6 J ⟨4,0,[],⟨some (Av d),4,4⟩,⟨some (Av a),4,4⟩⟩ (Ev f) (.inr (.inr (.inr ⟨⟨some (Av d),4,4⟩,⟨some (Av a),4,4⟩,[DT f.day,DT f.kind,DT f.known,v],[Bl f.day,Bl f.kind,Bl f.known,EY (CD f)],Rz,rfl,hs1.le Ag,Bi.cons (CT r) (Bi.cons (CT t) (Bi.cons (CT i3) (Bi.cons (hv.le Ag) Bi.nil))),k.le Ag,rfl,uX,lH,yJ f⟩))) J;rintro v4 y aa ⟨x,c4,rfl,o⟩))|(apply Da (n:=4) [0,1,2,3,4,5,6,7,8,9,10,11,12,13,14,15] [(1,0),(2,0),(4,0),(5,0),(7,0),(8,0),(10,0),(0,3),(38,3),(164,14),(3,2),(29,14),(6,2),(21,14),(9,2),(14,14),(11,2),(8,14),(12,2),(3,14),(13,0),(14,1),(15,1),(12,1),(13,0),(15,1),(11,1),(12,1),(13,0),(15,1),(9,1),(11,1),(12,1),(13,0),(15,1),(6,1),(9,1),(11,1),(12,1),(13,0),(15,1),(3,1),(6,1),(9,1),(11,1),(12,1),(13,0),(15,1),(0,3),(29,6),(103,14),(6,2),(21,14),(9,2),(14,14),(11,2),(8,14),(12,2),(3,14),(13,0),(14,1),(15,1),(12,1),(13,0),(15,1),(11,1),(12,1),(13,0),(15,1),(9,1),(11,1),(12,1),(13,0),(15,1),(6,1),(9,1),(11,1),(12,1),(13,0),(15,1),(0,3),(21,9),(58,14),(9,2),(14,14),(11,2),(8,14),(12,2),(3,14),(13,0),(14,1),(15,1),(12,1),(13,0),(15,1),(11,1),(12,1),(13,0),(15,1),(9,1),(11,1),(12,1),(13,0),(15,1),(0,3),(14,11),(27,14),(11,2),(8,14),(12,2),(3,14),(13,0),(14,1),(15,1),(12,1),(13,0),(15,1),(11,1),(12,1),(13,0),(15,1),(0,3),(8,12),(8,14),(12,2),(3,14),(13,0),(14,1),(15,1),(12,1),(13,0),(15,1),(0,2),(3,14),(13,0),(14,1),(15,1),(0,1),(13,0),(15,1),(0,2),(3,12),(12,1),(13,0),(15,1),(0,1),(13,0),(15,1),(0,2),(4,11),(11,1),(12,1),(13,0),(15,1),(0,2),(3,12),(12,1),(13,0),(15,1),(0,1),(13,0),(15,1),(0,2),(5,9),(9,1),(11,1),(12,1),(13,0),(15,1),(0,2),(4,11),(11,1),(12,1),(13,0),(15,1),(0,2),(3,12),(12,1),(13,0),(15,1),(0,1),(13,0),(15,1),(0,2),(6,6),(6,1),(9,1),(11,1),(12,1),(13,0),(15,1),(0,2),(5,9),(9,1),(11,1),(12,1),(13,0),(15,1),(0,2),(4,11),(11,1),(12,1),(13,0),(15,1),(0,2),(3,12),(12,1),(13,0),(15,1),(0,1),(13,0),(15,1),(0,2),(7,3),(3,1),(6,1),(9,1),(11,1),(12,1),(13,0),(15,1),(0,2),(6,6),(6,1),(9,1),(11,1),(12,1),(13,0),(15,1),(0,2),(5,9),(9,1),(11,1),(12,1),(13,0),(15,1),(0,2),(4,11),(11,1),(12,1),(13,0),(15,1),(0,2),(3,12),(12,1),(13,0),(15,1),(0,1),(13,0),(15,1)];kernel_rfl)|(refine Bn ?_;first|(refine Xr ?_;intro a l e k;refine⟨e,Ak,?_⟩)|(refine rT ?_;rintro w hw g ⟨v,rfl,hv⟩;refine⟨g,Ak,?_⟩)|(refine sV ?_;intro d q i hs1;refine⟨i,Ak,?_⟩)|(apply Aw;exact F;exact Ab func180;exact Rv _ _;refine⟨V.refl _,Ak,?_⟩))|(apply GQ;kernel_rfl;exact F;exact F)|(apply HP;(iterate 4 exact F);(first|(refine Xr ?_;intro a l e k;refine⟨e,Ak,?_⟩)|(refine rT ?_;rintro w hw g ⟨v,rfl,hv⟩;refine⟨g,Ak,?_⟩)|(refine sV ?_;intro d q i hs1;refine⟨i,Ak,?_⟩)|(apply Aw;exact F;exact Ab func180;exact Rv _ _;refine⟨V.refl _,Ak,?_⟩)))|(refine Y ?_ ?_<;>intro hc<;>try omega)|(apply uF;kernel_rfl;(iterate 4 exact F))))
 all_goals first
  |omega
  |(exact EG rfl rfl rfl rfl ⟨_,_,rfl,o⟩)
def Axn (h:U)(s t:AA)(f g:Al)(hf:Cr h s f)(hs:Eu f)(hg:Cr h t g)(a:Eu g)(of:BT f)(c:BT g):Az prog 57 #[BW s f,BW t g] h (λu h'=>u=O (CO f g)):=by refine BB func57 λ_ _=>?_;have i:=gC (Ev f) (Ev g);have j:=gC (Ev g) (Ev f);have p:=hD (Ev f) (Ev g);have hrg:=Abx (Ev f) (Ev g);(have e:(Ev f==Ev g)=decide (EL (Ev f) (Ev g)=0):=by rw[Lj,beq_iff_eq,decide_eq_true_eq,Yx]);(repeat'(first|refine Aa ?_|(refine Z (by apply fV (s:=Ev f) (A:=d);(iterate 7 exact F);exact k.le Ag) ?_)|(refine Z (by apply fV (s:=Ev g) (A:=A5);(iterate 7 exact F);exact hr5.le Ag) ?_)|(refine Aj ?_;intro b)|(refine Ac ?_;first|(apply Aw;exact F;exact Ab func104;exact Asl _ _ _)|(apply AR;exact F;exact Ab func105;exact Ab4 _ s f (hf.le Ag) hs of;rintro v4 l n ⟨d,c4,rfl,k⟩)|(apply AR;exact F;exact Ab func105;exact Ab4 _ t g (hg.le Ag) a c;rintro v5 m o ⟨A5,c5,rfl,hr5⟩))|(refine Y ?_ ?_<;>intro hc<;>try omega)|fail));(all_goals(refine BL rfl rfl rfl ?_));(all_goals(simp only[Li,i,j,e,Q',Bool.or_eq_false_iff,decide_eq_true_eq,decide_eq_false_iff_not,IE,YR]at *));(all_goals(refine congrArg (Value.int .i64) ?_));all_goals(clear hf hs hg a of c;unfold CO;(repeat' split)<;>omega)
attribute [local irreducible] Dg Rk
theorem dR {x:Al}:∀{L:Ax} {k:Nat},k≤L.length→(∀i,i<k→CO (L.getD i BQ) x<0)→(k<L.length→¬CO (L.getD k BQ) x<0)→JQ x L=if k<L.length∧L.getD k BQ=x then L else L.take k++x::L.drop k
 |[],k,a,_,_=>by(have:k=0:=by simpa using a);subst this;simp[JQ]
 |y::r,0,_,_,h2=>by have h2:=h2 An;simp only[List.getD_cons_zero]at h2;unfold JQ;rw[if_neg h2];simp
 |y::r,k+1,a,h1,h2=>by have h0:=h1 0 J;simp only[List.getD_cons_zero]at h0;have c:=dR (x:=x) (L:=r) (k:=k) (by simpa using a) (λi hi=>by have:=h1 (i+1) J;simpa using this) (λb=>by have:=h2 (by simpa using b);simpa using this);unfold JQ;rw[if_pos h0,c];simp only[Do,Nat.add_lt_add_iff_right,Yl,Ut,xQ];split;{rfl};{rfl}
def Ap4 (l:AN){k:Nat}(a:k<l.length):(Ae l).getD k BQ=(l.getD k AS).2:=by unfold Ae;simp[List.getD,Bw a]
def Abz (h:U)(p q:AA×Al)(hp:DU h p)(hq:DU h q):Az prog 57 #[BW p.1 p.2,BW q.1 q.2] h (λu _=>u=O (CO p.2 q.2)):=
 Axn h p.1 q.1 p.2 q.2 hp.1 hp.2.1 hq.1 hq.2.1 hp.2.2 hq.2.2
open Classical in
theorem Qk (h:U)(A:At)(n c:Nat)(l:AN)(hx:Cz h A n l)(hn:n≤65536):Az prog 21 #[.slice A n c] h (λu h'=>∃A' k ak l',u=.slice A' k ak∧Pp h' A' k ak l' (BR (Ae l))):=by
 refine BB func21 λ_ _=>?_;have a2:=hx.row.len;have av:D' (Ae l):=Rr hx.fat;(repeat'(first|refine Aa ?_|(refine Ac ?_;first|(refine RV ?_;intro b1 h1 b hcs1))|fail));have ax:Pp h1 (some (Av b1)) 0 0 [] (BR (Ae (l.take 0))):=⟨BU _,⟨Ai.of_flat (λ_=>rfl) rfl hcs1,λp hp=>absurd hp An,J⟩,rfl⟩;refine Bg (X:=Nat×At×Nat×Nat×AN×U) (λx=>x.1≤n∧V h x.2.2.2.2.2∧Pp x.2.2.2.2.2 x.2.1 x.2.2.1 x.2.2.2.1 x.2.2.2.2.1 (BR (Ae (l.take x.1)))) (λx=>n-x.1) (λx=>[(4,O x.1),(3,.slice x.2.1 x.2.2.1 x.2.2.2.1),(0,.slice A n c)]) (λ_=>[]) (λx=>x.2.2.2.2.2) (0,some (Av b1),0,0,[],h1) ⟨Ah,b,ax⟩ Af Ad rfl ?_;rintro⟨i,A3,k3,c3,l3,hh⟩ ⟨hi,m,hL⟩ s;dsimp only at hi m hL s ⊢;have a6:D' (Ae (l.take i)):=λf hf=>av f (Ap3 (λp hp=>Mh hp) f hf);have ay:=Sk a6;rw[←hL.2.2,Dc,Dc,hL.2.1.row.len,CF]at ay;by_cases ae:i<n
 ·have a1:=hx.row.addrD ae;have c1:Au hh ((addrD A).add (i*F'.size)) (BM (l.getD i AS)):=(hx.row.cellsD AS ae).le m;have au:=BY AS a2 ae;have hm:=Ce AS (show i<l.length by omega);have o:=hx.fat _ hm;generalize l.getD i AS=p at *;(have al:Ae (l.take (i+1))=Ae (l.take i)++[p.2]:=by rw[au];unfold Ae;rw[DI];rfl);by_cases hp:BT p.2
  ·(have hch:=λh' (r:V h h')=>by{have:=fL h' p.1 p.2 (o.1.le r) o.2;rw[if_pos hp]at this;exact this});(have v:BR (Ae (l.take (i+1)))=JQ p.2 (Ae l3):=by rw[al,aV,if_pos hp,hL.2.2]);have hgp:DU hh p:=⟨o.1.le m,o.2,hp⟩;have a3:=hL.2.1.row.len;(have a8:(Ae l3).length=k3:=by rw[Dc,a3]);(repeat'(first|refine Aa ?_|refine Z E' ?_|refine Z BN ?_|(refine Ac ?_;first|(refine cI ?_))|(refine Y ?_ ?_<;>intro hc<;>try omega)|fail));(all_goals try omega);refine Bg (X:=Nat×U) (λx=>x.1≤k3∧V hh x.2∧∀t,t<x.1→CO ((Ae l3).getD t BQ) p.2<0) (λx=>k3-x.1) (λx=>[(5,O x.1),(4,O i),(3,.slice A3 k3 c3),(0,.slice A n c)]) (λ_=>[]) (λx=>x.2) (0,hh) ⟨Ah,V.refl _,λt aj=>absurd aj Ah⟩ Af Ad rfl ?_;rintro⟨j,az⟩ ⟨hj,ah,y⟩ ad;dsimp only at hj ah y ad ⊢
   have am:∀(a:U) (d:At) (e:Nat),V hh a→JQ p.2 (Ae l3)=(Ae l3).take j++p.2::(Ae l3).drop j→Ai BM 82 a d (j+(1+(k3-j))) (l3.take j++([p]++l3.drop j))→j+(1+(k3-j))≤e→Pp a d (j+(1+(k3-j))) e (l3.take j++([p]++l3.drop j)) (BR (Ae (l.take (i+1)))):=λa d e af ar hs9 z=>by
    refine⟨z,⟨hs9,λq hq=>?_,J⟩,?_⟩;{rw[AO,AO,Bk]at hq;rcases hq with hq|rfl|hq;{exact(hL.2.1.good q (Mh hq)).le af};{exact hgp.le af};{exact(hL.2.1.good q (List.mem_of_mem_drop hq)).le af}};{rw[v,ar];unfold Ae;simp[Yi,eI]}
   by_cases an:j<k3
   ·have b1:=hL.2.1.row.addrD an;have d1:Au az ((addrD A3).add (j*F'.size)) (BM (l3.getD j AS)):=(hL.2.1.row.cellsD AS an).le ah;have a4:=Ce AS (show j<l3.length by omega);have g1:=hL.2.1.good _ a4;have ab:=Ap4 l3 (k:=j) J;generalize l3.getD j AS=q at *;by_cases z:CO q.2 p.2<0
    ·(repeat'(first|refine Aa ?_|(apply AU (n:=7) 16 [0,1,2,3,4,5,6,7,8,9,10,11,12,99,13,99,14,15];kernel_rfl)|(apply Be;exact Bd;(first|exact E'|exact bY|exact XA|exact Qe);exact AX)|(refine Bn ?_;first|(refine cW ?_;rintro vr ac b rfl;refine⟨b,Ak,?_⟩))|(refine Db ?_ ?_<;>intro hc<;>try omega)|(refine Y ?_ ?_<;>intro hc<;>try omega)|fail));(all_goals try omega)
     all_goals
      have h3:=ad (j+1,ac) ⟨Ah,by dsimp only;exact ah.trans b,λt aj=>by
       dsimp only at aj
       rcases KY t j with ao|ao
       · exact y t ao
       · have:t=j:=by omega
         subst this;rw[ab];exact z⟩ Ah
      dsimp only at h3
      refine AB Af Ad h3
    ·clear ad;have g:=dR (x:=p.2) (L:=Ae l3) (k:=j) J y (λ_=>by rw[ab];exact z);have hsm:=λh' (r:V hh h')=>jA h' q.1 q.2 ((g1.le r).1) g1.2.1 p.1 p.2 ((hgp.le r).1) hgp.2.1;by_cases aa:q.2=p.2
     ·rw[if_pos ⟨J,by rw[ab];exact aa⟩]at g;rw[decide_eq_true aa]at hsm;(repeat'(first|refine Aa ?_|(apply AU (n:=7) 16 [0,1,2,3,4,5,6,7,8,9,10,11,12,99,13,99,14,15];kernel_rfl)|(apply AU (n:=9) 15 [0,1,2,3,4,5,6,7,8,9,10,11,12,99,13,99,14];kernel_rfl)|(apply Be;exact Bd;(first|exact E'|exact bY|exact XA|exact sX);exact AX)|(refine Bn ?_;first|(refine cW ?_;rintro vr ac b rfl;refine⟨b,Ak,?_⟩)|(apply Aw;exact F;exact Ab func58;exact hsm _ Ag;refine⟨V.refl _,Ak,?_⟩))|(refine Db ?_ ?_<;>intro hc<;>try omega)|(refine Y ?_ ?_<;>intro hc<;>try omega)|fail));(all_goals try omega)
      all_goals
       have h3:=s (i+1,A3,k3,c3,l3,ac) ⟨Ah,by dsimp only;exact m.trans Ag,hL.1,hL.2.1.le Ag,by dsimp only;rw[v,g]⟩ Ah
       dsimp only at h3
       refine AB Af Ad h3
     ·rw[if_neg (λw=>aa (by rw[←ab];exact w.2))]at g;rw[decide_eq_false aa]at hsm;(repeat'(first|refine Aa ?_|(refine Ac ?_;first|(refine tK ?_;intro A6 hs6)|(refine tO ?_;intro d e a a0 ai hs9))|(apply AU (n:=7) 16 [0,1,2,3,4,5,6,7,8,9,10,11,12,99,13,99,14,15];kernel_rfl)|(apply AU (n:=9) 15 [0,1,2,3,4,5,6,7,8,9,10,11,12,99,13,99,14];kernel_rfl)|(apply AU (n:=10) 10 [0,1,2,3,5,6,7,99,4,8,99,9];kernel_rfl)|(apply Be;exact Bd;(first|exact E'|exact bY|exact XA|exact sX|exact Xb);exact AX)|(refine Bn ?_;first|(refine cW ?_;rintro vr ac b rfl;refine⟨b,Ak,?_⟩)|(apply Aw;exact F;exact Ab func58;exact hsm _ Ag;refine⟨V.refl _,Ak,?_⟩)|(refine qF ?_;intro aq;refine⟨V.refl _,Ak,?_⟩)|(refine tX ?_;intro ap c7 aw ag a5 hs7;refine⟨ag,Ak,?_⟩))|(refine Db ?_ ?_<;>intro hc<;>try omega)|(refine Y ?_ ?_<;>intro hc<;>try omega)|fail));(all_goals try omega)
      all_goals
       have h3:=s (i+1,d,j+(1+(k3-j)),e,l3.take j++([p]++l3.drop j),a) ⟨Ah,by dsimp only;exact m.trans Ag,am _ _ _ Ag g hs9 ai⟩ Ah
       dsimp only at h3
       refine AB Af Ad h3
   ·clear ad;(have a7:j=k3:=by omega);have g:=dR (x:=p.2) (L:=Ae l3) (k:=j) J y (λw=>by omega);rw[if_neg (λw=>by omega)]at g;(repeat'(first|refine Aa ?_|(refine Ac ?_;first|(refine tK ?_;intro A6 hs6)|(refine tO ?_;intro d e a a0 ai hs9))|(apply AU (n:=7) 16 [0,1,2,3,4,5,6,7,8,9,10,11,12,99,13,99,14,15];kernel_rfl)|(apply AU (n:=9) 15 [0,1,2,3,4,5,6,7,8,9,10,11,12,99,13,99,14];kernel_rfl)|(apply AU (n:=10) 10 [0,1,2,3,5,6,7,99,4,8,99,9];kernel_rfl)|(apply Be;exact Bd;(first|exact E'|exact XA|exact Xb);exact AX)|(refine Bn ?_;first|(refine qF ?_;intro aq;refine⟨V.refl _,Ak,?_⟩)|(refine tX ?_;intro ap c7 aw ag a5 hs7;refine⟨ag,Ak,?_⟩))|(refine Db ?_ ?_<;>intro hc<;>try omega)|(refine Y ?_ ?_<;>intro hc<;>try omega)|(apply KS;exact F;kernel_rfl;exact F;exact F)));(all_goals try omega)
    all_goals
     have h3:=s (i+1,d,j+(1+(k3-j)),e,l3.take j++([p]++l3.drop j),a) ⟨Ah,by dsimp only;exact m.trans Ag,am _ _ _ Ag g hs9 ai⟩ Ah
     dsimp only at h3
     refine AB Af Ad h3
  ·(have hch:=λh' (r:V h h')=>by{have:=fL h' p.1 p.2 (o.1.le r) o.2;rw[if_neg hp]at this;exact this});(have v:BR (Ae (l.take (i+1)))=Ae l3:=by rw[al,aV,if_neg hp,hL.2.2]);(repeat'(first|refine Aa ?_|refine Z E' ?_|refine Z BN ?_|(refine Ac ?_;first|(refine cI ?_))|(refine Y ?_ ?_<;>intro hc<;>try omega)|fail));(all_goals try omega)
   all_goals
    have h3:=s (i+1,A3,k3,c3,l3,hh) ⟨Ah,m,hL.1,hL.2.1,v.symm⟩ Ah
    dsimp only at h3
    refine AB Af Ad h3
 ·rw[By J]at hL;clear s;(repeat'(first|refine Aa ?_|(refine Y ?_ ?_<;>intro hc<;>try omega)|fail))
  all_goals first
   |omega
   |(exact BL rfl rfl rfl ⟨A3,k3,c3,l3,rfl,hL⟩)
end Go.Hw
import Derived.Test.YtbmffdagfjepgaaGreatDoorPA
import Derived.Test.YtbmffdagfjepgaaGreatDoorBD
set_option linter.all false
set_option maxRecDepth 100000
set_option maxHeartbeats 8000000
namespace Go.Hw
open Go
attribute [local irreducible] AI Bz BV Aq AP Az Au CH Ap Ar BG Cm BP Dg El Ek Fl Ex EV Hv Fx FJ FA
open Go.Proofs.Tryz
open Classical in
theorem A0w (h:U)(hG:DG h)(A:At)(n c:Nat)(l:AN)(hx:Cz h A n l)(s m:Int):Az prog 16 #[.slice A n c,O s,O m] h (λu _=>∃z ok,u=.tuple #[Py z.1 z.2,.bool ok]∧xU l (JN (Ae l) s m) z ok):=by
 refine BB Proofs.Tryz.func16 λ_ _=>?_;have ao:=hx.row.len;have hn:=hx.small;(repeat'(first|refine Ba ?_|(apply AE;(iterate 3 exact F);apply Bo (e:=52);exact F;intro b6)|(apply AE;(iterate 3 exact F);apply Bo (e:=71);exact F;intro ad)|refine Eo ?_|fail));refine Bg (X:=Nat×(AA×Al)×Bool×U) (λx=>x.1≤n∧V h x.2.2.2∧xU l (JN (Ae (l.take x.1)) s m) x.2.1 x.2.2.1) (λx=>n-x.1) (λx=>[(13,O x.1),(12,O n),(11,.slice A n c),(7,.bool x.2.2.1),(1,O s),(2,O m),(8,Dt ad),(6,Dt b6)]) (λx=>[Ap ad 71 (CS x.2.1.1 x.2.1.2),Ap b6 52 (BX Zc.zero)]) (λx=>x.2.2.2) (0,(CP,BQ),false,h) ⟨Ah,V.refl _,.inl ⟨by rw[Ia];unfold JN MK;rfl,rfl,rfl⟩⟩ Af Ad rfl ?_;rintro⟨k,z,ok,hh⟩ ⟨al,f,j⟩ g;dsimp only at al f j g ⊢;by_cases ah:k<n
 ·have a1:=hx.row.addrD ah;have c1:Au hh ((addrD A).add (k*F'.size)) (BM (l.getD k AS)):=(hx.row.cellsD AS ah).le f;have ak:=BY AS (xs:=l) rfl (show k<l.length by omega);have y:=Ce AS (show k<l.length by omega);have q:=(hx.fat _ y);(have aj:Ae (l.take (k+1))=Ae (l.take k)++[(l.getD k AS).2]:=by rw[ak,Nh]);have hsn:=Aql (Ae (l.take k)) s m (l.getD k AS).2;rw[←aj]at hsn
  have o:ok=true→Cr hh z.1 z.2∧Eu z.2∧BT z.2:=λe=>by
   rcases j with⟨_,_,w⟩|⟨_,ai,w2,_⟩;{rw[w]at e;cases e};{exact⟨(hx.fat _ ai).1.le f,(hx.fat _ ai).2,w2⟩}
  generalize l.getD k AS=p at *;obtain⟨ps,d⟩:=p;obtain⟨zs,t⟩:=z;dsimp only at hsn q o;have c1:Au hh ((addrD A).add (k*F'.size)) (CS ps d):=c1;have hck:=λh' (a:V hh h')=>Ql h' ps d (q.1.le (f.trans a)) q.2;by_cases hv:Qt s m d
  ·rw[if_pos hv]at hsn;obtain⟨e1,e2,ae,r⟩:=hv;simp only[if_pos r]at hck;rcases j with⟨ab,ac,rfl⟩|⟨ab,ac,i3,rfl⟩
   ·rw[ab]at hsn;have h3:=λh' (a:V hh h')=>g (k+1,(ps,d),true,h') ⟨Ah,f.trans a,.inr ⟨hsn,y,r,rfl⟩⟩ Ah;dsimp only at h3;cases ac;clear g o;(repeat'(first|refine AH ?_|refine Z Bf ?_|refine Z BN ?_|(refine Aj ?_;intro b)|(refine Ac ?_;first|(refine Pa ?_))|(refine Y ?_ ?_<;>intro hc<;>try omega)|refine AF ?_|(refine AG ?_ ?_<;>intro hc<;>try omega)|fail))
    all_goals first
     |omega
     |(exfalso;simp at hc;done)
     |(
        have i:=h3 _ Ag
        refine AB Af Ad i)
   ·obtain⟨am,an,z3⟩:=o rfl;have hcm:=λh' (a:V hh h')=>Sm h' (hG.le (f.trans a)) zs ps t d (am.le a) an (q.1.le (f.trans a)) q.2 z3 r;rw[ab]at hsn;unfold JL at hsn;dsimp only at hsn;by_cases ag:CO t d<0
    ·rw[if_pos ag]at hsn;have h3:=λh' (a:V hh h')=>g (k+1,(ps,d),true,h') ⟨Ah,f.trans a,.inr ⟨hsn,y,r,rfl⟩⟩ Ah;dsimp only at h3;clear g o;(repeat'(first|refine AH ?_|refine Z Bf ?_|refine Z BN ?_|(refine Aj ?_;intro b)|(refine Ac ?_;first|(refine Pa ?_)|(refine Xt ?_;rintro vr aa v rfl))|(refine Y ?_ ?_<;>intro hc<;>try omega)|refine AF ?_|(refine AG ?_ ?_<;>intro hc<;>try omega)|fail))
     all_goals first
      |omega
      |(exfalso;simp at hc;done)
      |(
         have i:=h3 aa v
         refine AB Af Ad i)
    ·rw[if_neg ag]at hsn;have h3:=λh' (a:V hh h')=>g (k+1,(zs,t),true,h') ⟨Ah,f.trans a,.inr ⟨hsn,ac,i3,rfl⟩⟩ Ah;dsimp only at h3;clear g o;(repeat'(first|refine AH ?_|refine Z Bf ?_|refine Z BN ?_|(refine Aj ?_;intro b)|(refine Ac ?_;first|(refine Pa ?_)|(refine Xt ?_;rintro vr aa v rfl))|(refine Y ?_ ?_<;>intro hc<;>try omega)|refine AF ?_|(refine AG ?_ ?_<;>intro hc<;>try omega)|fail))
     all_goals first
      |omega
      |(exfalso;simp at hc;done)
      |(
         have i:=h3 aa v
         refine AB Af Ad i)
  ·rw[if_neg hv]at hsn;have h3:=λh' (a:V hh h')=>g (k+1,(zs,t),ok,h') ⟨Ah,f.trans a,by dsimp only;rw[hsn];exact j⟩ Ah;dsimp only at h3;clear g o j;by_cases af:d.kind=1∧d.eS=s∧d.eC=m
   ·obtain⟨e1,e2,ae⟩:=af;simp only[if_neg (show¬BT d fromλw=>hv ⟨e1,e2,ae,w⟩)]at hck;(repeat'(first|refine AH ?_|refine Z Bf ?_|refine Z BN ?_|(refine Aj ?_;intro b)|(refine Ac ?_;first|(refine Pa ?_))|(refine Y ?_ ?_<;>intro hc<;>try omega)|refine AF ?_|(refine AG ?_ ?_<;>intro hc<;>try omega)|fail))
    all_goals first
     |omega
     |(exfalso;simp at hc;done)
     |(
        have i:=h3 _ Ag
        refine AB Af Ad i)
   ·(repeat'(first|refine AH ?_|refine Z Bf ?_|refine Z BN ?_|(refine Aj ?_;intro b)|(refine Y ?_ ?_<;>intro hc<;>try omega)|refine AF ?_|(refine AG ?_ ?_<;>intro hc<;>try omega)|fail))
    all_goals first
     |(exfalso;exact af ⟨Cn,Cn,Cn⟩)
     |omega
     |(
        have i:=h3 _ Ag
        refine AB Af Ad i)
 ·rw[By J]at j;clear g;(repeat'(first|refine AH ?_|(refine Y ?_ ?_<;>intro hc<;>try omega)|fail))
  all_goals first
   |omega
   |(exact Dl rfl rfl rfl Bc rfl rfl rfl ⟨z,ok,rfl,j⟩)
   |(exact EG rfl rfl rfl rfl ⟨z,ok,rfl,j⟩)
end Go.Hw
namespace Go.Hw
open Go
attribute [local irreducible] AI Bz BV Aq AP Az Au CH Ap Ar BG Cm BP Dg
open Go.Proofs.Tryz
open Classical in
theorem Am9 (L:Ax)(s c:Int)(f:Al):MF (L++[f]) s c=if Sj s c f then MF L s c++[f]else MF L s c:=by unfold MF;rw[Gl];by_cases q:Sj s c f<;>simp[q]
open Classical in
theorem Ana (L:Ax)(s c:Int)(f:Al):MG (L++[f]) s c=if Sj s c f then JL (MG L s c) f else MG L s c:=by unfold MG;rw[Am9];split;{rw[GL];rfl};{rfl}
def Ays (l:AN) (o:IF) (z:AA×Al):Prop:=(o=none∧z.2.kind=0∧z.2.lO=[]∧z.1.lo=Cl)∨(o=some z.2∧z∈l∧BT z.2∧z.2.kind=7)
open Classical in
theorem Alo (h:U)(hG:DG h)(A:At)(n c:Nat)(l:AN)(hx:Cz h A n l)(j:AA)(e:Al)(aq:Ai AQ 1 h j.cl.A j.cl.n e.eClubs)(a3:j.cl.n≤j.cl.c)(a4:Ns e.eClubs)(bc:e.eClubs.length≤24) :
  Az prog 17 #[.slice A n c,Py j e] h (λu h'=>∃A' al v,u=.slice A' al v∧al≤v∧Ai AQ 1 h' A' al (Kp (Ae l) e.eS e.eC e)):=by
 refine BB func17 λ_ _=>?_
 have bd:=hx.row.len
 have hn:=hx.small
 have bb:=aq.len
 repeat'(first|refine Ba ?_|(apply AE;(iterate 3 exact F);apply Ci (e:=52);exact F;intro b3)|(apply AE;(iterate 3 exact F);apply Bo (e:=71);exact F;intro am)|refine Eo ?_|fail)
 refine Bg (X:=Nat×(AA×Al)×U) (λx=>x.1≤n∧V h x.2.2∧Ays l (MG (Ae (l.take x.1)) e.eS e.eC) x.2.1) (λx=>n-x.1)
  (λx=>[(10,O x.1),(9,O n),(8,.slice A n c),(5,Dt am),(3,Dt b3)])
  (λx=>[Ap am 71 (CS x.2.1.1 x.2.1.2),Ap b3 52 (BX (Py j e))]) (λx=>x.2.2) (0,(CP,BQ),h) ⟨Ah,V.refl _,.inl ⟨by rw[Ia];unfold MG MF;rfl,rfl,rfl,rfl⟩⟩ Af Ad rfl ?_
 rintro⟨k,z,hh⟩ ⟨a5,f,o⟩ i
 dsimp only at a5 f o i ⊢
 by_cases au:k<n
 · have a1:=hx.row.addrD au
   have c1:Au hh ((addrD A).add (k*F'.size)) (BM (l.getD k AS)):=(hx.row.cellsD AS au).le f
   have a0:=BY AS (xs:=l) rfl (show k<l.length by omega)
   have ai:=Ce AS (show k<l.length by omega)
   have s:=(hx.fat _ ai)
   have az:Ae (l.take (k+1))=Ae (l.take k)++[(l.getD k AS).2]:=by rw[a0,Nh]
   have hsn:=Ana (Ae (l.take k)) e.eS e.eC (l.getD k AS).2
   rw[←az]at hsn
   have r:z.2.kind=7→Cr hh z.1 z.2∧Eu z.2∧BT z.2:=λaw=>by
    rcases o with⟨_,w,_⟩|⟨_,ax,w2,_⟩
    · rw[w]at aw;exact absurd aw BO
    · exact⟨(hx.fat _ ax).1.le f,(hx.fat _ ax).2,w2⟩
   generalize l.getD k AS=p at *
   obtain⟨ps,g⟩:=p
   obtain⟨zs,d⟩:=z
   dsimp only at hsn s r
   have c1:Au hh ((addrD A).add (k*F'.size)) (CS ps g):=c1
   have hck:=λh' (a:V hh h')=>Ql h' ps g (s.1.le (f.trans a)) s.2
   by_cases hv:Sj e.eS e.eC g
   · rw[if_pos hv]at hsn
     obtain⟨e1,e2,an,aa⟩:=hv
     simp only[if_pos aa]at hck
     rcases o with⟨q,t,i3,i4⟩|⟨q,t,i3,i4⟩
     · rw[q]at hsn
       dsimp only at t
       have h3:=λh' (a:V hh h')=>i (k+1,(ps,g),h') ⟨Ah,f.trans a,.inr ⟨hsn,ai,aa,e1⟩⟩ Ah
       dsimp only at h3
       clear i r
       repeat'(first|refine AH ?_|refine Z Bf ?_|refine Z BN ?_|(refine Aj ?_;intro b)|(refine Ac ?_;first|(refine Pa ?_))|(refine Y ?_ ?_<;>intro hc<;>try omega)|refine AF ?_|(refine AG ?_ ?_<;>intro hc<;>try omega)|fail)
       all_goals first
        |omega
        |(exfalso;simp at hc;done)
        |(
           have m:=h3 hh (V.refl _)
           refine AB Af Ad m)
     · dsimp only at i4
       obtain⟨a9,a',z3⟩:=r i4
       have hcm:=λh' (a:V hh h')=>Sm h' (hG.le (f.trans a)) zs ps d g (a9.le a) a' (s.1.le (f.trans a)) s.2 z3 aa
       rw[q]at hsn
       unfold JL at hsn
       dsimp only at hsn
       by_cases ap:CO d g<0
       · rw[if_pos ap]at hsn
         have h3:=λh' (a:V hh h')=>i (k+1,(ps,g),h') ⟨Ah,f.trans a,.inr ⟨hsn,ai,aa,e1⟩⟩ Ah
         dsimp only at h3
         clear i r
         repeat'(first|refine AH ?_|refine Z Bf ?_|refine Z BN ?_|(refine Aj ?_;intro b)|(refine Ac ?_;first|(refine Pa ?_)|(refine Xt ?_;rintro vr ak ah rfl))|(refine Y ?_ ?_<;>intro hc<;>try omega)|refine AF ?_|(refine AG ?_ ?_<;>intro hc<;>try omega)|fail)
         all_goals first
          |omega
          |(exfalso;simp at hc;done)
          |(
             have m:=h3 ak ah
             refine AB Af Ad m)
       · rw[if_neg ap]at hsn
         have h3:=λh' (a:V hh h')=>i (k+1,(zs,d),h') ⟨Ah,f.trans a,.inr ⟨hsn,t,i3,i4⟩⟩ Ah
         dsimp only at h3
         clear i r
         repeat'(first|refine AH ?_|refine Z Bf ?_|refine Z BN ?_|(refine Aj ?_;intro b)|(refine Ac ?_;first|(refine Pa ?_)|(refine Xt ?_;rintro vr ak ah rfl))|(refine Y ?_ ?_<;>intro hc<;>try omega)|refine AF ?_|(refine AG ?_ ?_<;>intro hc<;>try omega)|fail)
         all_goals first
          |omega
          |(exfalso;simp at hc;done)
          |(
             have m:=h3 ak ah
             refine AB Af Ad m)
   · rw[if_neg hv]at hsn
     have h3:=λh' (a:V hh h')=>i (k+1,(zs,d),h') ⟨Ah,f.trans a,by dsimp only;rw[hsn];exact o⟩ Ah
     dsimp only at h3
     clear i r o
     by_cases ao:g.kind=7∧g.lS=e.eS∧g.lC=e.eC
     · obtain⟨e1,e2,an⟩:=ao
       simp only[if_neg (show¬BT g fromλw=>hv ⟨e1,e2,an,w⟩)]at hck
       repeat'(first|refine AH ?_|refine Z Bf ?_|refine Z BN ?_|(refine Aj ?_;intro b)|(refine Ac ?_;first|(refine Pa ?_))|(refine Y ?_ ?_<;>intro hc<;>try omega)|refine AF ?_|(refine AG ?_ ?_<;>intro hc<;>try omega)|fail)
       all_goals first
        |omega
        |(exfalso;simp at hc;done)
        |(
           have m:=h3 hh (V.refl _)
           refine AB Af Ad m)
     · repeat'(first|refine AH ?_|refine Z Bf ?_|refine Z BN ?_|(refine Aj ?_;intro b)|(refine Y ?_ ?_<;>intro hc<;>try omega)|refine AF ?_|(refine AG ?_ ?_<;>intro hc<;>try omega)|fail)
       all_goals first
        |(exfalso;exact ao ⟨Cn,Cn,Cn⟩)
        |omega
        |(
           have m:=h3 hh (V.refl _)
           refine AB Af Ad m)
 · rw[By J]at o
   clear i
   obtain⟨zs,d⟩:=z
   have hq:Ai AQ 1 hh zs.lo.A zs.lo.n d.lO∧zs.lo.n≤zs.lo.c∧zs.lo.n≤100∧Kp (Ae l) e.eS e.eC e=OH d.lO e.eClubs:=by
    unfold Kp
    rcases o with⟨q,_,i3,i4⟩|⟨q,t,i3,_⟩
    · dsimp only at i3 i4
      rw[q,i3,i4]
      exact⟨Ai.nil,BU _,GT _,rfl⟩
    · dsimp only at q i3
      have ad:=(hx.fat _ t).1.le f
      rw[q]
      have a2:=ad.lo.len
      have ba:=(BT.sm1 i3).2.2.1
      dsimp only at a2
      exact⟨ad.lo,ad.lc,J,rfl⟩
   obtain⟨aj,a6,be,av⟩:=hq
   rw[av]
   clear av o hx
   have hor:=bC (y:=Gp d.lO) (by unfold Gp;exact Yh _ _) (nI d.lO) a4
   have ar:=aq.le f
   have a7:=aj.len
   have hsl:=ZL d.lO
   have hvs:=λh' (a:V hh h') b1 hb1=>iP h' zs.lo.A zs.lo.n zs.lo.c d.lO (aj.le a) J b1 hb1
   have hsor:=λh' b1 hb1=>Aaq h' b1 d.lO J hb1
   rw[a7]at hsor hsl
   unfold OH
   have heq:=λh' (a:V hh h') B v (hs:Ai AQ 1 h' B zs.lo.n (Gp d.lO))=>Qm h' B zs.lo.n v (Gp d.lO) hs J j.cl.A j.cl.n j.cl.c e.eClubs (ar.le a) J
   generalize Gp d.lO=ys at *
   by_cases ab:d.lO.Perm e.eClubs
   · rw[if_pos ab]
     simp only[decide_eq_true (hor.2 ab)]at heq
     repeat'(first|refine Aa ?_|(apply AU (n:=8) 8 [0,1,2,5,6,99,3,4,7];kernel_rfl)|(refine Bn ?_;first|(apply AR;exact F;exact Ab func49;exact ZN _ zs.lo.A zs.lo.n zs.lo.c;rintro v1 h1 ae ⟨b1,rfl,hb1⟩;refine⟨ae,Ak,?_⟩)|(refine tY ?_;rintro a8 ay h2 af rfl;refine⟨_,rfl,λac c2 h3 ag hnc3 hs3=>?_⟩;refine⟨af.trans ag,Ak,?_⟩)|(apply Aw;exact F;exact Ab func47;exact heq _ Ag ac c2 (hs3.le Ag);refine⟨V.refl _,Ak,?_⟩))|(refine Y ?_ ?_<;>intro hc<;>try omega)|fail)
     all_goals first
      |(exfalso;simp at hc;done)
      |(exact BL rfl rfl rfl ⟨_,_,_,rfl,a6,aj.le Ag⟩)
   · rw[if_neg ab]
     simp only[decide_eq_false (λw=>ab (hor.1 w))]at heq
     repeat'(first|refine Aa ?_|(apply AU (n:=8) 8 [0,1,2,5,6,99,3,4,7];kernel_rfl)|(refine Bn ?_;first|(apply AR;exact F;exact Ab func49;exact ZN _ zs.lo.A zs.lo.n zs.lo.c;rintro v1 h1 ae ⟨b1,rfl,hb1⟩;refine⟨ae,Ak,?_⟩)|(refine tY ?_;rintro a8 ay h2 af rfl;refine⟨_,rfl,λac c2 h3 ag hnc3 hs3=>?_⟩;refine⟨af.trans ag,Ak,?_⟩)|(apply Aw;exact F;exact Ab func47;exact heq _ Ag ac c2 (hs3.le Ag);refine⟨V.refl _,Ak,?_⟩))|(refine Y ?_ ?_<;>intro hc<;>try omega)|fail)
     all_goals first
      |(exfalso;simp at hc;done)
      |(exact BL rfl rfl rfl ⟨_,_,_,rfl,a3,ar.le Ag⟩)
attribute [local irreducible] FA
def vE {cs:AC}{t:AT}(h:(DA cs t).2=0):cs.length≤128:=by unfold DA at h;by_cases h1:EN t;{by_cases k:Fv cs.length∧Er cs;{have:=k.1;unfold Fv at this;omega};{rw[if_pos h1,if_neg k]at h;exact absurd (show(190:Int)=0 from h) BO}};{rw[if_neg h1]at h;exact absurd (show(210:Int)=0 from h) BO}
def ZH {h:U}{s:Ca}{l:EH}{t:AT}{zr:Hs}(a:HE h s l ⟨t,zr⟩):zr=rounds l:=a.is
structure HV (h:U) (cs:AC) (t:AT) (all:CX) (b0:CQ) (i k:Nat) (s:Ca) (l:EH):Prop where
 at_:HE h s l ⟨t,rounds l⟩
 vi:Lr cs t all k ⟨t,rounds l⟩
 no:∀j,j<i→(Dw ⟨t,rounds l⟩ (all.getD j AV)).2≠0
 run:Ja 256 b0 all=Ja 256 ⟨t,rounds l⟩ all
def HV.skip {h h':U}{cs:AC}{t:AT}{all:CX}{a:CQ}{i k:Nat}{s:Ca}{l:EH}(v:HV h cs t all a i k s l)(b:V h h')(hn:(Dw ⟨t,rounds l⟩ (all.getD i AV)).2≠0):HV h' cs t all a (i+1) k s l:=
 ⟨v.at_.le b,v.vi,λj hj=>by
  rcases Nat.lt_succ_iff_lt_or_eq.1 hj with w|w
  · exact v.no j w
  · rw[w];exact hn,v.run⟩
def HV.take {h h':U}{cs:AC}{t:AT}{all:CX}{a:CQ}{i k:Nat}{s s':Ca}{l l':EH}{zr:Hs}(v:HV h cs t all a i k s l)(hi:i<all.length)(f:cs.length≤128)(c:Dw ⟨t,rounds l⟩ (all.getD i AV)=(⟨t,zr⟩,0))(b:HE h' s' l' ⟨t,zr⟩):HV h' cs t all a 0 (k+1) s' l':=by have e:=ZH b;subst e;have hf:=zQ hi v.no (by rw[c]);rw[c]at hf;obtain⟨d,r2⟩:=Ajm (n:=256) v.vi J hf;exact⟨b,r2,λj hj=>absurd hj J,v.run.trans d⟩
def HV.fin {h:U}{cs:AC}{t:AT}{all:CX}{a:CQ}{k:Nat}{s:Ca}{l:EH}(v:HV h cs t all a all.length k s l):Ja 256 a all=⟨t,rounds l⟩:=by rw[v.run];refine Ajn (aZ.2 λx hx=>?_) 256;obtain⟨j,hj,e⟩:=xC.1 hx;have:=v.no j hj;rw[Dr,Bw hj]at this;rw[←e];exact this
def zL {t:AT}{rs:Hs}{x:BC}(h:(Dw ⟨t,rs⟩ x).2=0):∃zr,Dw ⟨t,rs⟩ x=(⟨t,zr⟩,0):=by have a:=(Yb h).2.t;have h3:Dw ⟨t,rs⟩ x=((Dw ⟨t,rs⟩ x).1,0):=Prod.ext rfl h;generalize(Dw ⟨t,rs⟩ x).1=b at *;obtain⟨c,zr⟩:=b;dsimp only at a;subst a;exact⟨zr,h3⟩
def wJ {b:CQ}{x:BC}(a:(Dw b x).2≠0):∃y e,Dw b x=(y,e)∧e≠0:=⟨_,_,rfl,a⟩
open Classical in
theorem Ae2 (h:U)(hG:DG h)(A:At)(n c:Nat)(l:AN)(hx:Cz h A n l)(bp:n≤65536)(bk:∀p∈l,p.1.cl.n≤p.1.cl.c)(s d:Int)(t:AT) :
  Az prog 6 #[.slice A n c,O s,O d,GF t] h (λu h'=>KJ h' u (Iy (Ae l) s d t).1 (Iy (Ae l) s d t).2):=by
 refine BB func6 λ_ _=>?_
 have hr:=λh'=>TG h' t
 have a0:=JC hx
 have hen:=λh' (a:V h h')=>A0w h' (hG.le a) A n c l (hx.le a) s d
 unfold Iy
 by_cases w:EN t
 case' neg=>
  rw[if_neg w]
  simp only[decide_eq_false w]at hr
  dsimp only
  clear hen
  repeat'(first|refine Ba ?_|(apply AE;(iterate 3 exact F);apply Ci (e:=24);exact F;intro b7)|(apply AE;(iterate 3 exact F);apply Bo (e:=29);exact F;intro r)|refine BF ?_|(refine Ac ?_;first|(refine TN ?_))|(refine Y ?_ ?_<;>intro hc<;>try omega)|fail)
  all_goals first
   |(exfalso;simp at hc;done)
   |(exact Dl rfl rfl rfl Bc rfl rfl rfl (Gu _ _))
 rw[if_pos w]
 simp only[decide_eq_true w]at hr
 by_cases hco:d<8
 · rw[if_pos hco]
   dsimp only
   repeat'(first|refine Ba ?_|(apply AE;(iterate 3 exact F);apply Ci (e:=24);exact F;intro b7)|(apply AE;(iterate 3 exact F);apply Bo (e:=29);exact F;intro r)|refine BF ?_|(refine Aj ?_;intro b)|(refine Ac ?_;first|(refine TN ?_)|(refine qA ?_;rintro ay h2 ao ⟨z,ok,rfl,_⟩))|(refine Y ?_ ?_<;>intro hc<;>try omega)|refine AF ?_|(refine AG ?_ ?_<;>intro hc<;>try omega)|fail)
   all_goals first
    |omega
    |(exfalso;simp at hc;done)
    |(exact Dl rfl rfl rfl Bc rfl rfl rfl (Gu _ _))
 rw[if_neg hco]
 cases af:JN (Ae l) s d with
 |none=>
   rw[af]at hen
   dsimp only
   repeat'(first|refine Ba ?_|(apply AE;(iterate 3 exact F);apply Ci (e:=24);exact F;intro b7)|(apply AE;(iterate 3 exact F);apply Bo (e:=29);exact F;intro r)|refine BF ?_|(refine Aj ?_;intro b)|(refine Ac ?_;first|(refine TN ?_)|(refine qA ?_;rintro ay h2 ao ⟨z,ok,rfl,(⟨_,_,rfl⟩|⟨m,_⟩)⟩;(first|(exfalso;cases m;done)|skip)))|(apply Da (n:=6) [0,1,2,3,4,5,6,8,7,9] [(0,0),(1,0),(3,0),(2,1),(4,1),(5,0),(6,0),(7,0),(8,1),(9,0)];kernel_rfl)|(refine Y ?_ ?_<;>intro hc<;>try omega)|refine AF ?_|(refine AG ?_ ?_<;>intro hc<;>try omega)|fail)
   all_goals first
    |omega
    |(exfalso;simp at hc;done)
    |(exfalso;cases m;done)
    |(exact Dl rfl rfl rfl Bc rfl rfl rfl (Gu _ _))
 |some e=>
   have hen2:∀h',V h h'→Az prog 16 #[.slice A n c,O s,O d] h' (λu _=>∃zs,u=.tuple #[Py zs e,.bool true]∧(zs,e)∈l):=λh' a=>(hen h' a).mono λu h2 _ ⟨z,ok,bb,q⟩=>by
    rw[af]at q
    rcases q with⟨m,_⟩|⟨m,bc,_,br⟩
    · cases m
    · obtain⟨zs,bz⟩:=z
      injection m with m
      dsimp only at m bc bb
      subst m;subst br
      exact⟨zs,bb,bc⟩
   obtain⟨_,k1,k2,k3,a9⟩:=yL a0 af
   obtain⟨bn,a8⟩:=zK a9 k1
   have hor:=λh' (a:V h h') zs (hm:(zs,e)∈l)=>Alo h' (hG.le a) A n c l (hx.le a) zs e ((hx.fat _ hm).1.cl.le a) (bk _ hm) a8 bn
   rw[k2,k3]at hor
   have a5:=λh' (a:V h h')=>A1d h' (hG.le a) A n c l (hx.le a) bp s d
   have bs:=uM a0 s d
   have bt:(Ae l).length≤65536:=by have:=hx.row.len;unfold Ae;rw[Dc];omega
   dsimp only
   generalize Kp (Ae l) s d e=cs at *
   generalize Ij (Ae l) s d=all at *
   have hnw:=λh' A' bq be hs bm=>SY h' A' bq be cs t hs bm
   clear hen a8 a9 k1 k2 k3 af
   by_cases v:(DA cs t).2=0
   case' neg=>
    rw[if_neg v]
    generalize DA cs t=N at *
    repeat'(first|refine Ba ?_|(apply AE;(iterate 3 exact F);apply Ci (e:=24);exact F;intro b7)|(apply AE;(iterate 3 exact F);apply Bo (e:=29);exact F;intro r)|(apply AE;(iterate 3 exact F);apply Bo (e:=52);exact F;intro bd)|refine BF ?_|(refine Ac ?_;first|(refine TN ?_)|(refine rH ?_;rintro ay h2 ao ⟨zs,rfl,hzm⟩))|(apply Da (n:=6) [0,1,2,3,4,5,6,8,7,9] [(0,0),(1,0),(3,0),(2,1),(4,1),(5,0),(6,0),(7,0),(8,1),(9,0)];kernel_rfl)|(refine Bn ?_;first|(refine qR ?_;rintro v3 h3 ap ⟨A3,n3,c3,rfl,hnc3,hs3⟩;refine⟨ap,Ak,?_⟩)|(refine rV ?_;rintro v4 bg aq ⟨ax,ah,rfl,am⟩;refine⟨aq,Ak,?_⟩))|(refine Y ?_ ?_<;>intro hc<;>try omega)|refine AF ?_|(refine AG ?_ ?_<;>intro hc<;>try omega)|fail)
    all_goals first
     |omega
     |(exfalso;simp at hc;done)
     |(exact Dl rfl rfl rfl Bc rfl rfl rfl ⟨ax,ah,rfl,am.le Ag⟩)
   rw[if_pos v]
   have a':=hV all v
   have bl:=vE v
   have a4:=a'.t
   have a3:DA cs t=((DA cs t).1,0):=Prod.ext rfl v
   generalize(DA cs t).1=N at *
   rw[a3]at hnw
   dsimp only at hnw
   obtain⟨o,bx⟩:=N
   dsimp only at a4
   subst a4
   repeat'(first|refine Ba ?_|(apply AE;(iterate 3 exact F);apply Ci (e:=24);exact F;intro b7)|(apply AE;(iterate 3 exact F);apply Bo (e:=29);exact F;intro r)|(apply AE;(iterate 3 exact F);apply Bo (e:=52);exact F;intro bd)|refine BF ?_|(refine Ac ?_;first|(refine TN ?_)|(refine rH ?_;rintro ay h2 ao ⟨zs,rfl,hzm⟩)|(apply AR;exact F;exact Ab func18;exact a5 _ Ag;rintro v5 a2 bo ⟨A5,c5,rfl,bu,hs5⟩))|(apply Da (n:=6) [0,1,2,3,4,5,6,8,7,9] [(0,0),(1,0),(3,0),(2,1),(4,1),(5,0),(6,0),(7,0),(8,1),(9,0)];kernel_rfl)|(refine Bn ?_;first|(refine qR ?_;rintro v3 h3 ap ⟨A3,n3,c3,rfl,hnc3,hs3⟩;refine⟨ap,Ak,?_⟩)|(refine rV ?_;rintro v4 bg aq ⟨ax,ah,rfl,am⟩;refine⟨aq,Ak,?_⟩))|(refine Y ?_ ?_<;>intro hc<;>try omega)|refine AF ?_|(refine AG ?_ ?_<;>intro hc<;>try omega)|fail)
   all_goals try omega
   all_goals(try(exfalso;simp at hc;done))
   have a6:=am.le bo
   have bf:=ZH a6
   subst bf
   clear hr hen2 hor a5 hnw a3 v hx
   refine Bg (X:=Nat×Nat×Ca×EH×U) (λy=>y.1≤all.length∧V a2 y.2.2.2.2∧HV y.2.2.2.2 cs o all ⟨o,rounds ah⟩ y.1 y.2.1 y.2.2.1 y.2.2.2.1) (λy=>(2*cs.length-y.2.1)*(all.length+1)+(all.length-y.1))
    (λy=>[(13,O y.1),(12,.slice A5 all.length c5),(8,DP r)])
    (λy=>[Ap r 29 (Ge y.2.2.1 o)]) (λy=>y.2.2.2.2) (0,0,ax,ah,a2) ⟨Ah,V.refl _,⟨a6,a',λj hj=>absurd hj J,rfl⟩⟩ Af Ad rfl ?_
   rintro⟨i,k,ak,aa,hh⟩ ⟨hi,ad,f⟩ ag
   dsimp only at hi ad f ag ⊢
   have bw:=f.vi.le
   by_cases an:i<all.length
   · have a1:=(hs5.le ad).addrD an
     have c1:Au hh ((addrD A5).add (i*ID.size)) (Cc (all.getD i AV)):=(hs5.le ad).cellsD AV an
     have hent:=λh' (a:V hh h') x=>zN h' ak aa o (f.at_.rs.le a) f.at_.nc (UW f.at_ f.vi.ok) x
     have au:=λh' (a:V hh h')=>f.skip (h':=h') a
     have av:=λh' s' l' zr=>f.take (h':=h') (s':=s') (l':=l') (zr:=zr) an bl
     have ar:=zL (t:=o) (rs:=rounds aa) (x:=all.getD i AV)
     have hent:=λh' (a:V hh h')=>hent h' a (all.getD i AV)
     generalize all.getD i AV=x at *
     by_cases ac:(Dw ⟨o,rounds aa⟩ x).2=0
     · obtain⟨zr,aw⟩:=ar ac
       rw[aw]at hent
       dsimp only at hent
       have w:=λh' s' l' (bj:HE h' s' l' ⟨o,zr⟩)=>av h' s' l' zr aw bj
       clear au av ar ac aw
       repeat'(first|refine AH ?_|(apply Da (n:=13) [0,1,2,3,4,5,6,7,9,10,8,11] [(0,0),(1,0),(2,0),(3,0),(4,0),(5,2),(6,9),(6,0),(7,0),(8,0),(9,1),(10,1),(11,0),(5,1),(6,0),(7,0),(8,0),(10,1),(11,0)];kernel_rfl)|(apply Be;exact Bd;(first|exact Xf|exact Pb);exact AX)|(refine Aj ?_;intro b)|(refine Bn ?_;first|(refine Xm ?_;rintro az ab g ⟨aj,ai,rfl,ae⟩;refine⟨g,Ak,?_⟩))|(apply GQ;kernel_rfl;exact F;exact F)|(apply HP;(iterate 4 exact F);(first|(refine Xm ?_;rintro az ab g ⟨aj,ai,rfl,ae⟩;refine⟨g,Ak,?_⟩)))|(refine Y ?_ ?_<;>intro hc<;>try omega)|fail)
       all_goals first
        |omega
        |(exfalso;simp at hc;done)
        |(
           have al:=ag (0,k+1,aj,ai,ab) ⟨Ah,ad.trans g,w _ _ _ ae⟩ (by
            dsimp only
            rw[show 2*cs.length-k=(2*cs.length-(k+1))+1 by omega,KZ,Nat.one_mul]
            omega)
           refine AB Af Ad al)
     · have bh:=λh' (a:V hh h')=>au h' a ac
       obtain⟨y,e,ba,bv⟩:=wJ ac
       rw[ba]at hent
       dsimp only at hent
       clear au av ar ac ba
       repeat'(first|refine AH ?_|(apply Da (n:=13) [0,1,2,3,4,5,6,7,9,10,8,11] [(0,0),(1,0),(2,0),(3,0),(4,0),(5,2),(6,9),(6,0),(7,0),(8,0),(9,1),(10,1),(11,0),(5,1),(6,0),(7,0),(8,0),(10,1),(11,0)];kernel_rfl)|(apply Be;exact Bd;(first|exact Xf|exact Pb);exact AX)|(refine Aj ?_;intro b)|(refine Bn ?_;first|(refine Xm ?_;rintro az ab g ⟨aj,ai,rfl,ae⟩;refine⟨g,Ak,?_⟩))|(apply GQ;kernel_rfl;exact F;exact F)|(apply HP;(iterate 4 exact F);(first|(refine Xm ?_;rintro az ab g ⟨aj,ai,rfl,ae⟩;refine⟨g,Ak,?_⟩)))|(refine Y ?_ ?_<;>intro hc<;>try omega)|fail)
       all_goals first
        |omega
        |(exfalso;simp at hc;done)
        |(
           have al:=ag (i+1,k,ak,aa,ab) ⟨Ah,ad.trans g,bh _ g⟩ Ah
           refine AB Af Ad al)
   · obtain rfl:i=all.length:=by omega
     have a7:=f.fin
     have bi:=f.at_
     rw[a7]
     clear ag f a7
     repeat'(first|refine AH ?_|(refine Y ?_ ?_<;>intro hc<;>try omega)|fail)
     all_goals first
      |omega
      |(exact Dl rfl rfl rfl Bc rfl rfl rfl ⟨ak,aa,rfl,bi⟩)
end Go.Hw
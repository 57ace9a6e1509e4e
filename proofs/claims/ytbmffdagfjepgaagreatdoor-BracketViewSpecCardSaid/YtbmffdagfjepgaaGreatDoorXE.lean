import Derived.Test.YtbmffdagfjepgaaGreatDoorXD
import Derived.Test.YtbmffdagfjepgaaGreatDoorXC
set_option linter.all false
set_option maxRecDepth 100000
set_option maxHeartbeats 8000000
namespace Go.Hw
open Go
attribute [local irreducible] AI Bz BV Aq AP Az Au CH Ap Ar BG Cm BP Dg El Ek Fl Ex EV Hj Gc Ft GB GP GS
open Go.Proofs.Tryz
def Amd {D:Ff}{m:Nat}{cl:Int}(hm:m<D.length)(h:¬((D.getD m FL).sh.g.h=cl∨(D.getD m FL).sh.g.a=cl)):GP (D.drop m) cl=GP (D.drop (m+1)) cl:=by rw[Lt FL rfl hm];unfold GP;rw[Ux,decide_eq_false h]
def Ame {D:Ff}{m:Nat}{cl:Int}(hm:m<D.length)(h:(D.getD m FL).sh.g.h=cl∨(D.getD m FL).sh.g.a=cl):GP (D.drop m) cl=some (D.getD m FL):=by rw[Lt FL rfl hm];unfold GP;rw[Ux,decide_eq_true h]
def Amf {D:Ff}{m:Nat}{cl:Int}(hm:D.length≤m):GP (D.drop m) cl=none:=by rw[Ym hm];unfold GP;rfl
def Aal {α a:Type}(f:α→a)(l:List α){k:Nat}(b:k<l.length)(d:α)(e:a):(l.map f).getD k e=f (l.getD k d):=by simp[List.getD,Bw b]
def A01 (h:U)(A:At)(n c:Nat)(l:AN)(hx:Cz h A n l)(ch:n≤65536)(season comp:Int):Az prog 265 #[.slice A n c,O season,O comp] h (λu h'=>∃A' ag,u=.slice A' (EV (Fl (Ae l) season comp)).length ag∧Ai Lu 6 h' A' (EV (Fl (Ae l) season comp)).length (EV (Fl (Ae l) season comp))∧(EV (Fl (Ae l) season comp)).length≤10000000):=by
 refine BB func265 λ_ _=>?_;have bq:=JC hx;have hde:=λh' (a:V h h')=>Ark h' A n c l (hx.le a) ch season comp;generalize Ae l=L at *;clear hx;(repeat'(first|refine Aa ?_|(refine Ac ?_;first|(refine Gi ?_;intro b2)|(apply AR;exact F;exact Ab func321;exact hde _ Ag;rintro dc h1 cv ⟨A3,c3,ds,rfl,hsl,br,aq,cu,hnc⟩))|fail));(all_goals try omega);rw[←lZ aq];clear hde;obtain⟨D,ba⟩:∃D,D=ds.map (·.2):=⟨_,rfl⟩;rw[←ba]at aq ⊢;(have b9:D.length=ds.length:=by rw[ba,Dc]);(have bb:∀t,t<ds.length→D.getD t FL=(ds.getD t Ee).2:=λt co=>by rw[ba];exact Aal _ _ co _ _);have az:∀x∈D,GZ x.sh∧Iv x.sh (Ex x.sh):=λx hx=>⟨(aq.ok bq hx).sheet,uU (aq.ok bq hx).sheet⟩;(have bt:∀x∈D,x.sh.hc.length≤1000∧x.sh.ac.length≤1000:=λx hx=>by{have h1:=(az x hx).1.2.2.2.2.2.2.2.1.1;have h2:=(az x hx).1.2.2.2.2.2.2.2.2.1.1;omega});refine Bg (X:=Nat×Jd×At×Nat×U) (λx=>x.1≤ds.length∧V h1 x.2.2.2.2∧x.2.1=Hj D x.1) (λx=>ds.length-x.1) (λx=>[(9,O x.1),(8,.slice A3 ds.length c3),(7,.slice x.2.2.1 x.2.1.length x.2.2.2.1)]) (λx=>[Ar 258 6 (.slice x.2.2.1 x.2.1.length x.2.2.2.1) x.2.1.length (x.2.1.flatMap Lu)]) (λx=>x.2.2.2.2) (0,[],some (Av b2),0,h1) ⟨Ah,V.refl _,by rw[iW]⟩ Af Ad rfl ?_;rintro⟨i,out,bl,c4,hh⟩ ⟨hi,aj,al⟩ an;dsimp only at hi aj al an ⊢;have ck:=ZM az (i:=i) J;rw[←al]at ck;by_cases ar:i<ds.length
 ·have a1:=hsl.addrD ar;have c1:Au hh ((addrD A3).add (i*QW.size)) (Eg (ds.getD i Ee)):=(hsl.cellsD Ee ar).le aj;have bd:=(br _ (Ce Ee ar)).le aj;have bc:=bb i ar;have bj:=Ce FL (show i<D.length by omega);have ae:=az _ bj;have au:=bt _ bj;have af:Hj D (i+1)=Hj D i++(Ex (D.getD i FL).sh).flatMap (Gc (D.take i) (D.drop (i+1)) (D.getD i FL)):=aI D i;rw[bc]at ae af au;have cp:ds.getD i Ee=((ds.getD i Ee).1,(ds.getD i Ee).2):=rfl;obtain⟨⟨s,x⟩,bw⟩:∃q,q=ds.getD i Ee:=⟨_,rfl⟩;rw[←bw]at c1 bd ae af au bc;clear bw cp bj;dsimp only at ae af bd au bc;have bx:=bd.1;(repeat'(first|refine Aa ?_|refine Z E' ?_|(refine Z (by apply BA;exact F;exact GA rfl c1 rfl) ?_)|(refine Ac ?_;first|(apply AR;exact F;exact Ab func322;exact Awd _ s x.sh (bx.le Ag) ae.1;rintro db h3 cw ⟨A5,c5,A6,a',rfl,bi,be⟩))|(refine Y ?_ ?_<;>intro hc<;>try omega)|fail));(all_goals try omega);have cf:=gF ae.1 ae.2;obtain⟨ms,cg⟩:∃ms,ms=Ex x.sh:=⟨_,rfl⟩;rw[←cg]at bi be af cf ⊢;refine Bg (X:=Nat×Jd×At×Nat×U) (λy=>y.1≤ms.length∧V h3 y.2.2.2.2∧y.2.1=Hj D i++(ms.take y.1).flatMap (Gc (D.take i) (D.drop (i+1)) x)∧y.2.1.length≤out.length+y.1) (λy=>ms.length-y.1) (λy=>[(12,O y.1),(10,.slice A5 ms.length c5),(11,.slice A6 ms.length a'),(9,O i),(8,.slice A3 ds.length c3),(7,.slice y.2.2.1 y.2.1.length y.2.2.2.1)]) (λy=>[Ar 258 6 (.slice y.2.2.1 y.2.1.length y.2.2.2.1) y.2.1.length (y.2.1.flatMap Lu)]) (λy=>y.2.2.2.2) (0,out,bl,c4,h3) ⟨Ah,V.refl _,by rw[al];simp,Ah⟩ Af Ad rfl ?_;rintro⟨k,ou,v,c7,aa⟩ ⟨ce,aw,am,cm⟩ a5;dsimp only at ce aw am cm a5 ⊢;by_cases ad:k<ms.length
  ·have a2:=bi.addrD ad;have a3:=be.addrD ad;have c2:Au aa ((addrD A5).add (k*JG.size)) (AQ ((ms.map (·.1)).getD k 0)):=(bi.cellsD 0 ad).le aw;have a9:Au aa ((addrD A6).add (k*JG.size)) (AQ ((ms.map (·.2)).getD k 0)):=(be.cellsD 0 ad).le aw;rw[Aal _ ms ad HS]at c2 a9;have bp:=BY HS (xs:=ms) rfl ad;have av:V hh aa:=Ag;have b3:=c1.le av;have cq:=bx.le av;generalize ms.getD k HS=y at *;obtain⟨p,cl⟩:=y;dsimp only at c2 a9;have hb1:=eA (D.take i) p;rw[CF]at hb1;have ca:=Wk x.sh p;(have bs:(ms.take (k+1)).flatMap (Gc (D.take i) (D.drop (i+1)) x)=(ms.take k).flatMap (Gc (D.take i) (D.drop (i+1)) x)++Gc (D.take i) (D.drop (i+1)) x (p,cl):=by rw[bp,Ep];simp);have r:=λao A' ag h' (a:V aa h') (he:ao=ou++Gc (D.take i) (D.drop (i+1)) x (p,cl)) (hl2:ao.length≤ou.length+1)=>a5 (k+1,ao,A',ag,h') ⟨Ah,aw.trans a,by dsimp only;rw[he,am,bs,Ck],Ah⟩ Ah;dsimp only at r;have ak:=Adb (pre:=D.take i) (post:=D.drop (i+1)) (x:=x) (m:=(p,cl));have bh:=nJ (pre:=D.take i) (post:=D.drop (i+1)) (x:=x) (m:=(p,cl));have a4:=λz=>mQ (pre:=D.take i) (post:=D.drop (i+1)) (x:=x) (m:=(p,cl)) (z:=z);dsimp only at ak bh a4;have hct:=λh' (a:V aa h')=>nU h' s x.sh (cq.le a) au p;clear a5 an bs bp am af al;(repeat'(first|refine Aa ?_|(refine Y ?_ ?_<;>intro hc<;>try omega)|fail));(all_goals try omega);refine Bg (X:=Nat×U) (λy=>y.1≤i∧V aa y.2) (λy=>i-y.1) (λy=>[(14,O y.1),(13,O (Ft (D.take y.1) p)),(12,O k),(10,.slice A5 ms.length c5),(11,.slice A6 ms.length a'),(9,O i),(8,.slice A3 ds.length c3),(7,.slice v ou.length c7)]) (λy=>[Ar 258 6 (.slice v ou.length c7) ou.length (ou.flatMap Lu)]) (λy=>y.2) (0,aa) ⟨Ah,V.refl _⟩ (by rw[Ia,iM];exact Af) Ad rfl ?_;rintro⟨nn,ac⟩ ⟨cj,o⟩ a6;dsimp only at cj o a6 ⊢;by_cases c6:nn<i
   ·(have ax:nn<ds.length:=by omega);have b1:=hsl.addrD ax;have b6:Au ac ((addrD A3).add (nn*QW.size)) (Eg (ds.getD nn Ee)):=(hsl.cellsD Ee ax).le (aj.trans (av.trans o));have bv:=((br _ (Ce Ee ax)).le (aj.trans (av.trans o))).1;have b8:=bb nn ax;have bf:=bt _ (Ce FL (show nn<D.length by omega));have ap:=BY FL (xs:=D) rfl (show nn<D.length by omega);rw[b8]at bf ap;have cK:=c2.le o;generalize ds.getD nn Ee=z at *;obtain⟨cr,a8⟩:=z;dsimp only at bv bf ap;have hy:=Wv (D.take nn) a8 p;rw[←ap]at hy;have cb:=eA (D.take nn) p;rw[CF]at cb;have ct:=Wk a8.sh p;have ab:=λh' (a:V ac h')=>a6 (nn+1,h') ⟨Ah,o.trans a⟩ Ah;dsimp only at ab;rw[hy]at ab;have cc:=λh' (a:V ac h')=>nU h' cr a8.sh (bv.le a) bf p;generalize Ft (D.take nn) p=dd at *;generalize GB a8.sh p=da at *;clear a6 r ak bh a4 hct hy ap;(repeat'(first|refine Aa ?_|(apply Da (n:=14) [0,1,2,3,4,5,6,7,8,9,10,11,13,12,14] [(0,0),(1,0),(2,0),(3,0),(4,0),(5,0),(6,0),(7,0),(8,0),(9,1),(10,0),(11,0),(12,0),(13,0),(14,0)];kernel_rfl)|(apply Be;exact Bd;(first|(apply Cs (j:=nn) (n:=ds.length);(iterate 5 exact F);exact b1;(with_reducible exact F);omega)|exact cE|(apply BA;exact F;apply GA;exact F;(with_reducible exact b6);exact F)|exact cF);exact AX)|(refine Bn ?_;first|(apply AR;exact F;exact Ab func323;exact cc _ Ag;rintro bz g f rfl;refine⟨f,Ak,?_⟩))|(refine Y ?_ ?_<;>intro hc<;>try omega)|fail))
    all_goals first
     |omega
     |(
        have ab:=ab g f
        refine AB Af Ad ab)
   ·(have ci:nn=i:=by omega);subst ci;clear a6;have cK:=c2.le o;have bm:=b3.le o;have hct:=λh' (a:V ac h')=>hct h' (o.trans a);have r:=λao A' ag h' (a:V ac h')=>r ao A' ag h' (o.trans a);generalize c9:GB x.sh p=q at *;generalize c':Ft (D.take nn) p=y0 at *;obtain⟨qy,bk⟩:=q;dsimp only at ca ak a4 hct;by_cases ai:QZ y0 qy bk
    ·cases bk;(case' false=>have b':=ai.resolve_left An);(all_goals(repeat'(first|refine Ba ?_|refine Z TQ ?_|refine Eo ?_|(apply Da (n:=16) [0,1,2,3,4,5,6,7,8,9,10,11,13,12,14] [(0,0),(1,0),(2,0),(3,0),(4,0),(5,0),(6,0),(7,0),(8,0),(9,1),(10,0),(11,0),(12,0),(13,0),(14,0)];kernel_rfl)|(apply Be;exact Bd;(first|exact qG|exact cE|(apply BA;exact F;apply GA;exact F;(with_reducible exact bm);exact F)|exact cF);exact AX)|(refine Bn ?_;first|(refine rF ?_;rintro bz g f rfl;refine⟨f,Ak,?_⟩))|(refine Y ?_ ?_<;>intro hc<;>try omega)|fail)));(all_goals try omega)
     all_goals
      clear hct ak
      refine Bg (X:=Nat) (λm=>nn+1≤m∧m≤ds.length∧GP (D.drop m) cl=GP (D.drop (nn+1)) cl) (λm=>ds.length-m)
       (λm=>[(19,O m),(12,O k),(10,.slice A5 ms.length c5),(11,.slice A6 ms.length a'),(9,O nn),(8,.slice A3 ds.length c3),(7,.slice v ou.length c7)])
       (λm=>[Ar 258 6 (.slice v ou.length c7) ou.length (ou.flatMap Lu)]) (λ_=>g) (nn+1) ⟨J,J,rfl⟩ Af Ad rfl ?_
      rintro m ⟨cy,cz,ay⟩ a7
      by_cases bg:m<ds.length
      · have aM:=hsl.addrD bg
        have bo:Au g ((addrD A3).add (m*QW.size)) (Eg (ds.getD m Ee)):=(hsl.cellsD Ee bg).le Ag
        have ah:=bb m bg
        have b5:=cK.le f
        have bn:=(a9.le o).le f
        by_cases a0:(ds.getD m Ee).2.sh.g.h=cl∨(ds.getD m Ee).2.sh.g.a=cl
        · have e:=Ame (D:=D) (m:=m) (cl:=cl) J (by rw[ah];exact a0)
          rw[ah]at e
          have hs1:=a4 _ ai (ay.symm.trans e)
          clear e ah a7
          generalize ds.getD m Ee=z at *
          by_cases cn:z.2.sh.g.h=cl
          all_goals(repeat'(first|refine AH ?_|refine Z qE ?_|(refine Z (by apply BA;exact F;apply LI;exact F;(with_reducible exact bo);exact F) ?_)|(refine Aj ?_;intro b)|(apply AU (n:=22) 16 [0,1,2,3,4,5,6,7,8,9,10,11,12,13,14,15];kernel_rfl)|(apply AU (n:=23) 14 [0,1,2,3,4,5,6,7,8,9,10,99,11,12,99,13];kernel_rfl)|(apply Be;exact Bd;(first|(apply Cs (j:=k) (n:=ms.length) (A:=A5);(iterate 5 exact F);exact a2;(with_reducible exact F);omega)|exact pO|(apply BA;exact F;apply BH;exact F;(with_reducible exact b5);exact F)|(apply BA;exact F;apply BH;exact F;(with_reducible exact bn);exact F));exact AX)|(refine Bn ?_;first|(refine sD ?_;intro cs ab bu hs9;refine⟨bu,Ak,?_⟩)|(refine sG ?_;intro b0 b4;refine⟨V.refl _,Ak,?_⟩))|(refine Db ?_ ?_<;>intro hc<;>try omega)|(refine Y ?_ ?_<;>intro hc<;>try omega)|fail))
          all_goals first
           |omega
           |(
              have d:=r (ou++[⟨p,cl,z.2.sh.g⟩]) b0 b4 ab (f.trans bu) (by rw[hs1]) An
              rw[Bt]at d
              refine AB Af Ad d)
        · have e:=Amd (D:=D) (m:=m) (cl:=cl) J (by rw[ah];exact a0)
          have d:=a7 (m+1) ⟨J,J,e.symm.trans ay⟩ J
          clear e ah a7 ay
          generalize ds.getD m Ee=z at *
          have cn:z.2.sh.g.h≠cl:=λw=>a0 (.inl w)
          have c8:z.2.sh.g.a≠cl:=λw=>a0 (.inr w)
          repeat'(first|refine AH ?_|refine Z qE ?_|(refine Z (by apply BA;exact F;apply LI;exact F;(with_reducible exact bo);exact F) ?_)|(refine Aj ?_;intro b)|(apply AU (n:=22) 16 [0,1,2,3,4,5,6,7,8,9,10,11,12,13,14,15];kernel_rfl)|(apply Be;exact Bd;(first|exact pO|(apply BA;exact F;apply BH;exact F;(with_reducible exact bn);exact F));exact AX)|(refine Db ?_ ?_<;>intro hc<;>try omega)|(refine Y ?_ ?_<;>intro hc<;>try omega)|fail)
          all_goals first
           |omega
           |(refine AB Af Ad d)
      · have hs1:=bh (ay.symm.trans (Amf J))
        have d:=r ou v c7 g f (by rw[hs1,DR]) J
        clear a7
        repeat'(first|refine Aa ?_|(refine Y ?_ ?_<;>intro hc<;>try omega)|fail)
        all_goals first
         |omega
         |(refine AB Af Ad d)
    ·have hs1:=ak ai;have r:=λg (a:V ac g)=>r ou v c7 g a (by rw[hs1,DR]) J;cases bk;(case' true=>exact absurd (.inl rfl) ai);have b':(y0+qy) / 5=y0 / 5:=JD λw=>ai (.inr w);(repeat'(first|refine Ba ?_|refine Z TQ ?_|refine Eo ?_|(apply Da (n:=16) [0,1,2,3,4,5,6,7,8,9,10,11,13,12,14] [(0,0),(1,0),(2,0),(3,0),(4,0),(5,0),(6,0),(7,0),(8,0),(9,1),(10,0),(11,0),(12,0),(13,0),(14,0)];kernel_rfl)|(apply Be;exact Bd;(first|exact qG|exact cE|(apply BA;exact F;apply GA;exact F;(with_reducible exact bm);exact F)|exact cF);exact AX)|(refine Bn ?_;first|(refine rF ?_;rintro bz g f rfl;refine⟨f,Ak,?_⟩))|(refine Y ?_ ?_<;>intro hc<;>try omega)|fail))
     all_goals first
      |omega
      |(exfalso;simp at hc;done)
      |(
         have d:=r g f
         refine AB Af Ad d)
  ·rw[show ms.take k=ms from By J,←af]at am;have d:=an (i+1,ou,v,c7,aa) ⟨Ah,Ag,am⟩ Ah;dsimp only at d;clear an a5;(repeat'(first|refine Aa ?_|(refine Y ?_ ?_<;>intro hc<;>try omega)|fail))
   all_goals first
    |omega
    |(refine AB Af Ad d)
 ·(have cd:i=ds.length:=by omega);(have hsc:EV D=out:=by{rw[al,cd,←b9];unfold EV;rfl});rw[hsc];clear an;refine EE (enc:=Lu) (e:=258) (sz:=6) (n:=out.length) (xs:=out) (λ_=>rfl) rfl Bh ?_;intro v c7 d cx b7 c0 hs7;cases b7;(repeat'(first|refine Aa ?_|(refine Y ?_ ?_<;>intro hc<;>try omega)|fail))
  all_goals first
   |omega
   |(exact BL rfl rfl rfl ⟨bl,c4,rfl,hs7,J⟩)
attribute [local irreducible] EZ
open Classical in
theorem Av9 (h:U)(A:At)(n c:Nat)(l:AN)(hx:Cz h A n l)(v:n≤65536)(g:AL)(p cl day:Int):Az prog 187 #[.slice A n c,Di g,O p,O cl,O day] h (λu _=>u=.bool (decide (JO (Ae l) (EV (Fl (Ae l) g.s g.c)) g day cl p))):=by
 refine BB func187 λ_ _=>?_;have hrg:=λh' (d:V h h')=>A0t h' A n c l (hx.le d) v p day;have hmv:=λh' (d:V h h')=>Amp h' A n c l (hx.le d) v p;have hun:=λh' (d:V h h')=>Auu h' A n c l (hx.le d) v p day;have o:=λh' (d:V h h')=>A01 h' A n c l (hx.le d) v g.s g.c;obtain⟨a,aj⟩:∃a:Bool,a=decide (JO (Ae l) (EV (Fl (Ae l) g.s g.c)) g day cl p):=⟨_,rfl⟩;obtain⟨i,ai⟩:∃i:Bool,i=decide (∃x∈Ae l,IS p x):=⟨_,rfl⟩;(have m:a=true↔((i=true∧¬(0≤(GS (Ae l) p day).mTo∧(GS (Ae l) p day).mTo=cl))∨MR (BR (Ae l)) p day=true∨∃s∈EV (Fl (Ae l) g.s g.c),s.p=p∧s.g=g):=by{rw[aj,ai,decide_eq_true_eq,decide_eq_true_eq];exact Yu});rw[←aj];simp only[←ai]at hmv;clear aj ai;generalize EV (Fl (Ae l) g.s g.c)=S at *;generalize MR (BR (Ae l)) p day=ap at *;generalize(GS (Ae l) p day).mTo=t at *;clear hx;by_cases j:i=true∧¬(0≤t∧t=cl)
 ·have e:a=true:=m.2 (.inl j);subst e;obtain⟨rfl,h2⟩:=j;clear m;by_cases f:0≤t
  ·have h3:t≠cl:=λe=>h2 ⟨f,e⟩;simp only[if_neg (show¬t<0 by omega),decide_eq_true f]at hrg;clear hun o;(repeat'(first|refine Aa ?_|(refine Aj ?_;intro b)|(refine Ac ?_;first|(refine Xl ?_;rintro v1 ac ag rfl)|(refine Xk ?_;rintro ak ad ah rfl))|(refine Y ?_ ?_<;>intro hc<;>try omega)|fail))
   all_goals first
    |omega
    |(exact BL rfl rfl rfl rfl)
  ·simp only[if_pos (show t<0 by omega),decide_eq_false f]at hrg;clear hun o;(repeat'(first|refine Aa ?_|(refine Aj ?_;intro b)|(refine Ac ?_;first|(refine Xl ?_;rintro v1 ac ag rfl)|(refine Xk ?_;rintro ak ad ah rfl))|(refine Y ?_ ?_<;>intro hc<;>try omega)|fail))
   all_goals first
    |omega
    |(exact BL rfl rfl rfl rfl)
 ·have af:i=true→0≤t∧t=cl:=λq=>JD λw=>j ⟨q,w⟩;cases ap with
  |true=>
   have e:a=true:=m.2 (.inr (.inl rfl));subst e;clear m o j;cases i
   case' true=>
    obtain⟨f,av⟩:=af rfl
    simp only[if_neg (show¬t<0 by omega),decide_eq_true f]at hrg
   (all_goals(repeat'(first|refine Aa ?_|(refine Aj ?_;intro b)|(refine Ac ?_;first|(refine Xl ?_;rintro v1 ac ag rfl)|(refine Xk ?_;rintro ak ad ah rfl)|(refine rE ?_;rintro v3 ar aw rfl))|(refine Y ?_ ?_<;>intro hc<;>try omega)|fail)))
   all_goals first
    |omega
    |(exfalso;simp at hc;done)
    |(exact BL rfl rfl rfl rfl)
  |false=>
   have am:a=true↔∃s∈S,s.p=p∧s.g=g:=m.trans ⟨λw=>(w.resolve_left j).resolve_left An,λw=>.inr (.inr w)⟩;clear m j;cases i
   case' true=>
    obtain⟨f,av⟩:=af rfl
    simp only[if_neg (show¬t<0 by omega),decide_eq_true f]at hrg
   (all_goals(repeat'(first|refine Ba ?_|(apply AE;(iterate 3 exact F);apply Ci (e:=36);exact F;intro b6)|refine Eo ?_|(refine Ac ?_;first|(refine Xl ?_;rintro v1 ac ag rfl)|(refine Xk ?_;rintro ak ad ah rfl)|(refine rE ?_;rintro v3 ar aw rfl)|(apply AR;exact F;exact Ab func265;exact o _ Ag;rintro v4 au a0 ⟨A5,c5,rfl,an,ay⟩))|(refine Y ?_ ?_<;>intro hc<;>try omega)|fail)));(all_goals try omega);(all_goals(try(exfalso;simp at hc;done)));(all_goals clear hrg hmv hun o af)
   all_goals
    refine Bg (X:=Nat) (λk=>k≤S.length∧∀s∈S.take k,¬(s.p=p∧s.g=g)) (λk=>S.length-k)
     (λk=>[(14,O k),(13,.slice A5 S.length c5),(6,Dt b6),(2,O p)])
     (λk=>[Ap b6 36 (CG g)]) (λ_=>au) 0 ⟨J,An⟩ Af Ad rfl ?_
    rintro k ⟨az,ae⟩ ab
    by_cases r:k<S.length
    · have a1:=an.addrD r
      have c1:=an.cellsD PN r
      have aq:=BY PN (xs:=S) rfl r
      have hzm:=Ce PN r
      generalize S.getD k PN=z at *
      have hge:=MZ z.g g
      by_cases aa:z.p=p∧z.g=g
      · have e:a=true:=am.2 ⟨z,hzm,aa⟩
        subst e
        obtain⟨ao,ax⟩:=aa
        rw[decide_eq_true ax]at hge
        clear ab
        repeat'(first|refine Aa ?_|(apply AU (n:=10) 16 [0,1,2,3,4,5,6,7,8,9,10,11,12,13,14,15];kernel_rfl)|(apply Be;exact Bd;(first|exact Bf|exact BN|exact MV|exact Cb);exact AX)|(refine Db ?_ ?_<;>intro hc<;>try omega)|(refine Y ?_ ?_<;>intro hc<;>try omega)|fail)
        all_goals first
         |omega
         |(exfalso;simp at hc;done)
         |(exact BL rfl rfl rfl rfl)
      · have al:=ab (k+1) ⟨J,λy hy=>by
         rw[aq,AO,Bk]at hy
         rcases hy with w|w
         · exact ae y w
         · rw[w];exact aa⟩ J
        clear ab
        by_cases ao:z.p=p
        · rw[decide_eq_false (λw=>aa ⟨ao,w⟩)]at hge
          repeat'(first|refine Aa ?_|(apply AU (n:=10) 16 [0,1,2,3,4,5,6,7,8,9,10,11,12,13,14,15];kernel_rfl)|(apply Be;exact Bd;(first|exact Bf|exact BN|exact MV|exact Cb);exact AX)|(refine Db ?_ ?_<;>intro hc<;>try omega)|(refine Y ?_ ?_<;>intro hc<;>try omega)|fail)
          all_goals first
           |omega
           |(exfalso;simp at hc;done)
           |(refine AB Af Ad al)
        · repeat'(first|refine Aa ?_|(apply AU (n:=10) 16 [0,1,2,3,4,5,6,7,8,9,10,11,12,13,14,15];kernel_rfl)|(apply Be;exact Bd;(first|exact Bf|exact BN);exact AX)|(refine Db ?_ ?_<;>intro hc<;>try omega)|(refine Y ?_ ?_<;>intro hc<;>try omega)|fail)
          all_goals first
           |omega
           |(exfalso;simp at hc;done)
           |(refine AB Af Ad al)
    · rw[By J]at ae
      have e:a=false:=by
       rw[←YR,am]
       rintro⟨s,hs,w⟩;exact ae s hs w
      subst e
      clear ab
      repeat'(first|refine Aa ?_|(refine Y ?_ ?_<;>intro hc<;>try omega)|fail)
      all_goals first
       |omega
       |(exact BL rfl rfl rfl rfl)
open Classical in
theorem Ay8 (h:U)(A:At)(n c:Nat)(l:AN)(hx:Cz h A n l)(a3:n≤65536)(g:AL):Az prog 112 #[.slice A n c,Di g] h (λu h'=>XB h' u (Hv (Ae l) g)):=by
 refine BB func112 λ_ _=>?_;have hsc:=λh' (a:V h h')=>gM h' A n c l (hx.le a) a3 g;have hof:=λh' (a:V h h') p cl day=>Av9 h' A n c l (hx.le a) a3 g p cl day;have au:=jP (L:=Ae l) (g:=g);have ag:=λx=>vK (L:=Ae l) (g:=g) (x:=x);have a4:=LO (JC hx) (g:=g);rw[show EM l=Ae l from rfl]at hsc;generalize bq:CJ (Ae l) g=x at *;generalize EV (Fl (Ae l) g.s g.c)=S at *;by_cases ap:x.kind=2
 case' neg=>
  rw[au ap]
  clear hof au ag
  repeat'(first|refine AH ?_|(refine Aj ?_;intro b)|(refine Ac ?_;first|(refine T' ?_;rintro w2 h2 w ⟨s,rfl,hs1,hs2⟩))|(refine Y ?_ ?_<;>intro hc<;>try omega)|fail)
  all_goals first
   |omega
   |(exact EG rfl rfl rfl rfl ⟨none,0,none,0,rfl,Ai.nil,Ai.nil⟩)
 have ag:=ag x rfl ap;(have br:x.sh.hs.length≤1000000∧x.sh.asn.length≤1000000:=by{obtain⟨f,_,ok,bi,e,_⟩:=a4 ap;have:=ok.2.2.1;unfold EW at this;rw[if_neg J,if_neg J,if_pos bi,e]at this;have h1:=this.2.2.2.2.2.1.1;have h2:=this.2.2.2.2.2.2.1.1;omega});rw[ag];have ac:=iA (Ae l) S g x.day g.h;have ai:=Tr (Ae l) S g x.day g.h;(have bg:EZ (Ae l) S g x.day g.h []=[]:=by unfold EZ;rfl);have t:=iA (Ae l) S g x.day g.a;have ab:=Tr (Ae l) S g x.day g.a;(have bh:EZ (Ae l) S g x.day g.a []=[]:=by unfold EZ;rfl);have aa:=λh' (a:V h h') p=>hof h' a p g.h x.day;have r:=λh' (a:V h h') p=>hof h' a p g.a x.day;obtain⟨ax,av⟩:∃az:Int→Bool,∀p,az p=decide (JO (Ae l) S g x.day g.h p):=⟨_,λ_=>rfl⟩;obtain⟨ay,aw⟩:∃az:Int→Bool,∀p,az p=decide (JO (Ae l) S g x.day g.a p):=⟨_,λ_=>rfl⟩;(have aa:∀h' (a:V h h') p,Az prog 187 #[.slice A n c,Di g,O p,O g.h,O x.day] h' (λu _=>u=.bool (ax p)):=λh' a p=>by rw[av p];exact aa h' a p);(have r:∀h' (a:V h h') p,Az prog 187 #[.slice A n c,Di g,O p,O g.a,O x.day] h' (λu _=>u=.bool (ay p)):=λh' a p=>by rw[aw p];exact r h' a p)
 have ac:∀m p,EZ (Ae l) S g x.day g.h (m++[p])=if ax p=true then EZ (Ae l) S g x.day g.h m++[p]else EZ (Ae l) S g x.day g.h m:=λm p=>by
  rw[ac m p,av p];by_cases q:JO (Ae l) S g x.day g.h p;{rw[if_pos q,decide_eq_true q,if_pos rfl]};{rw[if_neg q,decide_eq_false q,if_neg An]}
 have t:∀m p,EZ (Ae l) S g x.day g.a (m++[p])=if ay p=true then EZ (Ae l) S g x.day g.a m++[p]else EZ (Ae l) S g x.day g.a m:=λm p=>by
  rw[t m p,aw p];by_cases q:JO (Ae l) S g x.day g.a p;{rw[if_pos q,decide_eq_true q,if_pos rfl]};{rw[if_neg q,decide_eq_false q,if_neg An]}
 clear au ag a4 hof hx av aw;generalize EZ (Ae l) S g x.day g.h=a5 at *;generalize EZ (Ae l) S g x.day g.a=a6 at *;(repeat'(first|refine Ba ?_|(apply AE;(iterate 3 exact F);apply Ci (e:=36);exact F;intro b3)|(apply AE;(iterate 3 exact F);apply Bo (e:=172);exact F;intro b6)|refine BF ?_|(refine Ac ?_;first|(refine T' ?_;rintro w2 h3 bn ⟨s,rfl,hs1,hs2⟩)|(refine Gi ?_;intro ak))|(refine Y ?_ ?_<;>intro hc<;>try omega)|fail));(all_goals try omega);rename_i b7;have aq:V h h3:=Ag;have bc:=hs1.hs.len;have bd:=hs1.asn.len;have a2:=hs1.hs;have ah:=hs1.asn;refine Bg (X:=Nat×AC×At×Nat×U) (λy=>y.1≤s.hs.n∧V h3 y.2.2.2.2∧y.2.1=a5 (x.sh.hs.take y.1)) (λy=>s.hs.n-y.1) (λy=>[(9,O y.1),(7,.slice y.2.2.1 y.2.1.length y.2.2.2.1),(8,.slice (some (Av ak)) 0 0),(6,Dt b6),(3,Dt b3),(0,.slice A n c)]) (λy=>[Ar 3 1 (.slice y.2.2.1 y.2.1.length y.2.2.2.1) y.2.1.length (y.2.1.flatMap AQ),Ar 3 1 (.slice (some (Av ak)) 0 0) 0 [],Ap b6 172 (Eg (s,x)),Ap b3 36 (CG g)]) (λy=>y.2.2.2.2) (0,[],some (Av b7),0,h3) ⟨Ah,V.refl _,bg.symm⟩ Af Ad rfl ?_;rintro⟨k,out,aj,c4,hh⟩ ⟨ao,z,ae⟩ o;dsimp only at ao z ae o ⊢;(have be:out.length≤k:=by{rw[ae];refine Gj (ai _) ?_;rw[CF];omega});by_cases v:k<s.hs.n
 ·have a1:=a2.addrD v;have c1:Au hh ((addrD s.hs.A).add (k*JG.size)) (AQ (x.sh.hs.getD k 0)):=(a2.cellsD 0 v).le z;have al:=BY 0 (xs:=x.sh.hs) bc v;generalize x.sh.hs.getD k 0=p at *;have d:=ac (x.sh.hs.take k) p;rw[←al,←ae]at d;have hof:=λh' (a:V hh h')=>aa h' (aq.trans (z.trans a)) p;cases hq:ax p with
  |true=>
   rw[hq]at d hof;rw[if_pos rfl]at d;clear ac ai t ab aa r;(repeat'(first|refine Aa ?_|refine Z Bf ?_|refine Z RY ?_|(refine Ac ?_;first|(refine Uc ?_;intro a7 an ar hs5)|(refine sE ?_;intro A5 c5))|(apply AU (n:=9) 13 [0,1,2,3,4,5,6,7,8,9,10,11,99,12];kernel_rfl)|(apply Be;exact Bd;(first|exact Bf|exact RY);exact AX)|(refine Bn ?_;first|(refine Xj ?_;rintro v5 ad j rfl;refine⟨j,Ak,?_⟩))|(refine Y ?_ ?_<;>intro hc<;>try omega)|fail))
   all_goals first
    |omega
    |(exfalso;simp at hc;done)
    |(
       have i:=o (k+1,out++[p],A5,c5,an) ⟨Ah,z.trans (j.trans ar),by dsimp only;rw[d]⟩ Ah
       dsimp only at i
       rw[Bt]at i
       refine AB Af Ad i)
  |false=>
   rw[hq]at d hof;rw[if_neg An]at d;clear ac ai t ab aa r;(repeat'(first|refine Aa ?_|(apply AU (n:=9) 13 [0,1,2,3,4,5,6,7,8,9,10,11,99,12];kernel_rfl)|(apply Be;exact Bd;(first|exact Bf|exact RY);exact AX)|(refine Bn ?_;first|(refine Xj ?_;rintro v5 ad j rfl;refine⟨j,Ak,?_⟩))|(refine Y ?_ ?_<;>intro hc<;>try omega)|fail))
   all_goals first
    |omega
    |(exfalso;simp at hc;done)
    |(
       have i:=o (k+1,out,aj,c4,ad) ⟨Ah,z.trans j,by dsimp only;rw[d]⟩ Ah
       dsimp only at i
       refine AB Af Ad i)
 ·rw[By J]at ae;clear o ac ai aa;rw[←ae];refine EE (enc:=AQ) (e:=3) (sz:=1) (n:=out.length) (xs:=out) (λ_=>rfl) rfl Bh ?_;intro bj c7 am ba a9 bo hs7;cases a9;(repeat'(first|refine Aa ?_|(refine Y ?_ ?_<;>intro hc<;>try omega)|fail));(all_goals try omega);have aq:V h am:=Ag;have ah:=ah.le (z.trans ba);refine Bg (X:=Nat×AC×At×Nat×U) (λy=>y.1≤s.asn.n∧V am y.2.2.2.2∧y.2.1=a6 (x.sh.asn.take y.1)) (λy=>s.asn.n-y.1) (λy=>[(10,O y.1),(8,.slice y.2.2.1 y.2.1.length y.2.2.2.1),(7,.slice aj out.length c4),(6,Dt b6),(3,Dt b3),(0,.slice A n c)]) (λy=>[Ar 3 1 (.slice y.2.2.1 y.2.1.length y.2.2.2.1) y.2.1.length (y.2.1.flatMap AQ),Ap b6 172 (Eg (s,x)),Ap b3 36 (CG g)]) (λy=>y.2.2.2.2) (0,[],some (Av ak),0,am) ⟨Ah,V.refl _,bh.symm⟩ Af Ad rfl ?_;rintro⟨k,ou,A5,c5,a0⟩ ⟨ao,w,af⟩ o;dsimp only at ao w af o ⊢;(have be:ou.length≤k:=by{rw[af];refine Gj (ab _) ?_;rw[CF];omega});by_cases v:k<s.asn.n
  ·have a1:=ah.addrD v;have c1:Au a0 ((addrD s.asn.A).add (k*JG.size)) (AQ (x.sh.asn.getD k 0)):=(ah.cellsD 0 v).le w;have al:=BY 0 (xs:=x.sh.asn) bd v;generalize x.sh.asn.getD k 0=p at *;have d:=t (x.sh.asn.take k) p;rw[←al,←af]at d;have hof:=λh' (a:V a0 h')=>r h' (aq.trans (w.trans a)) p;cases hq:ay p with
   |true=>
    rw[hq]at d hof;rw[if_pos rfl]at d;clear t ab r;(repeat'(first|refine Aa ?_|refine Z Bf ?_|refine Z RY ?_|(refine Ac ?_;first|(refine Uc ?_;intro a7 an ar hs5)|(apply CE (enc:=AQ) (xs:=ou);(iterate 7 exact F);exact hs5;exactλ_=>rfl;exactλx=>En rfl;intro v1;exact Bp;omega;exact F;intro A6 a8))|(apply AU (n:=14) 13 [0,1,2,3,4,5,6,7,8,9,10,11,99,12];kernel_rfl)|(apply Be;exact Bd;(first|exact Bf|exact RY);exact AX)|(refine Bn ?_;first|(refine Xj ?_;rintro v5 ad j rfl;refine⟨j,Ak,?_⟩))|(refine Y ?_ ?_<;>intro hc<;>try omega)|fail))
    all_goals first
     |omega
     |(exfalso;simp at hc;done)
     |(
        have i:=o (k+1,ou++[p],A6,a8,an) ⟨Ah,w.trans (j.trans ar),by dsimp only;rw[d]⟩ Ah
        dsimp only at i
        rw[Bt]at i
        refine AB Af Ad i)
   |false=>
    rw[hq]at d hof;rw[if_neg An]at d;clear t ab r;(repeat'(first|refine Aa ?_|(apply AU (n:=14) 13 [0,1,2,3,4,5,6,7,8,9,10,11,99,12];kernel_rfl)|(apply Be;exact Bd;(first|exact Bf|exact RY);exact AX)|(refine Bn ?_;first|(refine Xj ?_;rintro v5 ad j rfl;refine⟨j,Ak,?_⟩))|(refine Y ?_ ?_<;>intro hc<;>try omega)|fail))
    all_goals first
     |omega
     |(exfalso;simp at hc;done)
     |(
        have i:=o (k+1,ou,A5,c5,ad) ⟨Ah,w.trans j,by dsimp only;rw[d]⟩ Ah
        dsimp only at i
        refine AB Af Ad i)
  ·rw[By J]at af;clear o t ab r;rw[←af];refine EE (enc:=AQ) (e:=3) (sz:=1) (n:=ou.length) (xs:=ou) (λ_=>rfl) rfl Bh ?_;intro bk bl bm bb a' bp bf;cases a';(repeat'(first|refine Aa ?_|(refine Y ?_ ?_<;>intro hc<;>try omega)|fail))
   all_goals first
    |omega
    |(exact EG rfl rfl rfl rfl ⟨aj,c4,A5,c5,rfl,hs7.le (w.trans bb),bf⟩)
end Go.Hw
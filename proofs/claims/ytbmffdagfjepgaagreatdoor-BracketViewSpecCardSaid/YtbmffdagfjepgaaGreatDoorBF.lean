import Derived.Test.YtbmffdagfjepgaaGreatDoorBE
import Derived.Test.YtbmffdagfjepgaaGreatDoorBC
set_option linter.all false
set_option maxRecDepth 100000
set_option maxHeartbeats 8000000
namespace Go.Hw
open Go
attribute [local irreducible] AI Bz BV Aq AP Az Au CH Ap Ar BG Cm BP Dg
open Go.Proofs.Tryz
def Ala (h:U)(n:Nat):Aq prog 59 #[O (n:Int),O 2,O 128] h (.bool (decide (Fv n))):=by
 refine AK func59 λ_ _=>?_;(repeat'(first|refine Ba ?_|(apply UU)|(apply Wg)|(refine Z (by apply wH;(iterate 3 exact F);(constructor<;>omega)) ?_)|refine Eo ?_|(refine Y ?_ ?_<;>intro hc<;>try omega)|fail))
 all_goals first
  |omega
  |(refine BS rfl rfl rfl ?_;refine Cv ?_;unfold Fv;simp only[true_iff,false_iff,Ir];omega)
def Awe (h:U)(n:Nat):Aq prog 59 #[O (n:Int),O 1,O 64] h (.bool (decide (Fv (2*n)))):=by
 refine AK func59 λ_ _=>?_;(repeat'(first|refine Ba ?_|(apply UU)|(apply Wg)|(refine Z (by apply wH;(iterate 3 exact F);(constructor<;>omega)) ?_)|refine Eo ?_|(refine Y ?_ ?_<;>intro hc<;>try omega)|fail))
 all_goals first
  |omega
  |(refine BS rfl rfl rfl ?_;refine Cv ?_;unfold Fv;simp only[true_iff,false_iff,Ir];omega)
def nM (h:U)(A:At)(n c:Nat)(l:AC)(hx:Ai AQ 1 h A n l)(hn:n≤1000000):Aq prog 60 #[.slice A n c] h (.bool (decide (Er l))):=by
 refine AK func60 λ_ _=>?_;have ad:=hx.len;obtain⟨q,o⟩:∃q:Bool,q=decide (Er l):=⟨_,rfl⟩;rw[←o];(have d:∀k,k≤n→¬Er (l.take k)→q=false:=λk _ w=>by{rw[o,decide_eq_false];intro v;rw[←GW k l]at v;exact w (Axj v)});(have hT:Er l→q=true:=λk=>by rw[o,decide_eq_true k]);clear o;(repeat'(first|refine Aa ?_|fail));refine Bg (X:=Nat) (λk=>k≤n∧Er (l.take k)) (λk=>n-k) (λk=>[(3,O k),(0,.slice A n c)]) (λ_=>[]) (λ_=>h) 0 ⟨J,by rw[Ia];exact⟨An,Yg⟩⟩ Af Ad rfl ?_;rintro k ⟨ac,t⟩ p;by_cases z:k<n
 ·have a1:=hx.addrD z;have c1:=hx.cellsD 0 z;have a:=Azo (l:=l) (k:=k) J;have m:=fM h (l.getD k 0);have b:=d (k+1) J;have r:=λ(w:Er (l.take (k+1)))=>p (k+1) ⟨J,w⟩ J;by_cases g:AY (l.getD k 0) 192
  ·rw[decide_eq_true g]at m;clear p hT d;(repeat'(first|refine Aa ?_|refine Z RU ?_|refine Z BN ?_|(refine Ac ?_;first|(apply Aw;exact F;exact Ab func107;exact m))|(refine Y ?_ ?_<;>intro hc<;>try omega)|fail));(all_goals(try(exfalso;simp at hc;done)));(all_goals try omega);refine Bg (X:=Nat) (λj=>j≤k∧∀i,i<j→l.getD k 0≠l.getD i 0) (λj=>k-j) (λj=>[(4,O j),(3,O k),(0,.slice A n c)]) (λ_=>[]) (λ_=>h) 0 ⟨J,λi hi=>absurd hi J⟩ Af Ad rfl ?_;rintro j ⟨hj,f⟩ y;by_cases ab:j<k
   ·have c2:=hx.cellsD 0 (show j<n by omega)
    have x:=λ(w:l.getD k 0≠l.getD j 0)=>y (j+1) ⟨J,λi hi=>by
     by_cases e:i=j;{rw[e];exact w}
     ·exact f i J⟩ J
    have s:l.getD k 0=l.getD j 0→q=false:=λe=>b λw=>(a.1 w).2.2 j ab e;clear y r a b f;generalize l.getD k 0=u at *;generalize l.getD j 0=v at *;by_cases aa:u=v
    ·have e:=s aa;clear x s;(repeat'(first|refine Aa ?_|(apply AU (n:=9) 9 [0,1,2,3,4,5,6,7,8];kernel_rfl)|(apply Be;exact Bd;(first|exact RU|exact pC|exact TU);exact AX)|(refine Y ?_ ?_<;>intro hc<;>try omega)|fail))
     all_goals first
      |omega
      |(exact BS rfl rfl rfl GG)
    ·have h3:=x aa;clear x s;(repeat'(first|refine Aa ?_|(apply AU (n:=9) 9 [0,1,2,3,4,5,6,7,8];kernel_rfl)|(apply Be;exact Bd;(first|exact RU|exact pC|exact TU);exact AX)|(refine Y ?_ ?_<;>intro hc<;>try omega)|fail))
     all_goals first
      |omega
      |(refine AB Af Ad h3)
   ·have h3:=r (a.2 ⟨t,g,λi hi=>f i J⟩);clear y r a b f;(repeat'(first|refine Aa ?_|(refine Y ?_ ?_<;>intro hc<;>try omega)|fail))
    all_goals first
     |omega
     |(refine AB Af Ad h3)
  ·rw[decide_eq_false g]at m;have e:=b λw=>g (a.1 w).2.1;clear p r hT d a b;(repeat'(first|refine Aa ?_|refine Z RU ?_|refine Z BN ?_|(refine Ac ?_;first|(apply Aw;exact F;exact Ab func107;exact m))|(refine Y ?_ ?_<;>intro hc<;>try omega)|fail))
   all_goals first
    |omega
    |(exfalso;simp at hc;done)
    |(exact BS rfl rfl rfl GG)
 ·rw[By J]at t;have e:=hT t;clear p hT d;(repeat'(first|refine Aa ?_|(refine Y ?_ ?_<;>intro hc<;>try omega)|fail))
  all_goals first
   |omega
   |(exact BS rfl rfl rfl GG)
def Ah6 {l:AC}{k:Nat}(h:2*k+1<l.length):l.take (2*k+2)=l.take (2*k)++[l.getD (2*k) 0,l.getD (2*k+1) 0]:=by rw[show 2*k+2=2*k+1+1 by omega,LF,LF,Bw h,Bw (show 2*k<l.length by omega),Dr,Dr,Bw h,Bw (show 2*k<l.length by omega),Ck];rfl
def Awa {l:AC}{k:Nat}(h1:2*k≤l.length)(h2:l.length≤2*k+1):Df (l.take (2*k))=Df l:=by by_cases h:l.length=2*k;{rw[By J]};{(have e:l=l.take (2*k)++[l.getD (2*k) 0]:=by{(have h3:2*k<l.length:=by omega);have:=LF (l:=l) (i:=2*k);rw[By J,Bw h3]at this;rw[Dr,Bw h3];exact this});(conv=>rhs;rw[e]);rw[zX _ _ OY]}
def iB (h:U)(A:At)(n c:Nat)(l:AC)(hx:Ai AQ 1 h A n l)(hn:n≤1000000):Az prog 61 #[.slice A n c] h (λu h'=>nX h' u (Df l)):=by
 refine BB func61 λ_ _=>?_;have ad:=hx.len;(repeat'(first|refine Aa ?_|(refine Ac ?_;first|(refine Gi ?_;intro b1))|fail));refine Bg (X:=Nat×At×Nat×U) (λx=>2*x.1≤n∧V h x.2.2.2) (λx=>n-2*x.1) (λx=>[(4,O ((2*x.1:Nat):Int)),(3,.slice x.2.1 (Df (l.take (2*x.1))).length x.2.2.1),(0,.slice A n c)]) (λx=>[Ar 42 3 (.slice x.2.1 (Df (l.take (2*x.1))).length x.2.2.1) (Df (l.take (2*x.1))).length ((Ik (Df (l.take (2*x.1)))).flatMap Dv)]) (λx=>x.2.2.2) (0,some (Av b1),0,h) ⟨Ah,V.refl _⟩ Af Ad rfl ?_;rintro⟨k,i,c1,h1⟩ ⟨q,a⟩ b;dsimp only at q a b ⊢;have f:=TJ (l.take (2*k));rw[CF]at f;by_cases r:2*k+1<n
 ·have a1:=hx.addrD (show 0<n by omega);have d1:=(hx.cellsD 0 (show 2*k<n by omega)).le a;have d2:=(hx.cellsD 0 r).le a;have g:=Ah6 (l:=l) (k:=k) J;have hpa:=zV (l.take (2*k)) (l.getD (2*k) 0) (l.getD (2*k+1) 0) OY;rw[←g]at hpa;generalize l.getD (2*k) 0=u at *;generalize l.getD (2*k+1) 0=v at *;have h3:=λA5 c5 h' (s:V h1 h')=>b (k+1,A5,c5,h') ⟨Ah,a.trans s⟩ Ah;dsimp only at h3;rw[show 2*(k+1)=2*k+2 by omega,hpa,oU,Bt]at h3;rw[show((2*k+2:Nat):Int)=((2*k:Nat):Int)+2 by omega]at h3;have ab:=VX (Df (l.take (2*k)));generalize Df (l.take (2*k))=P at *;clear b g hpa;(repeat'(first|refine Aa ?_|(apply AU (n:=5) 14 [0,1,2,3,4,5,6,7,8,9,10,99,11,12,99,13];kernel_rfl)|(apply Be;exact Bd;(first|(apply Cs (j:=2*k) (n:=n);(iterate 5 exact F);exact a1;(with_reducible exact F);omega)|(apply Cs (j:=2*k+1) (n:=n);(iterate 5 exact F);exact a1;omega;omega)|(apply BA;exact F;first|exact BH rfl (d1.le Ag) rfl|exact BH rfl (d2.le Ag) rfl));exact AX)|(refine Bn ?_;first|(apply DE (enc:=Dv) (n:=1) [((Cl,(⟨u,v,[]⟩:Bv)):HO)];(iterate 3 exact F);exact Cf _ _;(iterate 4 exact F);exactλ_=>rfl;exact F;exact F;intro y p d hs5;refine⟨d,Ak,?_⟩)|(apply CE (enc:=Dv) (xs:=Ik P);(iterate 7 exact F);exact hs5;exact Ke;exact TE;intro v1;exact Bp;omega;exact F;intro A5 c5;refine⟨V.refl _,Ak,?_⟩))|(refine Y ?_ ?_<;>intro hc<;>try omega)|fail))
  all_goals first
   |omega
   |(
      have o:=h3 A5 c5 p d
      refine AB Af Ad o)
 ·have e:=Awa (l:=l) (k:=k) J J;rw[e];clear b f;refine EE (enc:=Dv) (e:=42) (sz:=3) (n:=(Df l).length) (xs:=Ik (Df l)) Ke (VX _) Bh ?_;intro w z aa ac m t hs9;cases m;(repeat'(first|refine Aa ?_|(refine Y ?_ ?_<;>intro hc<;>try omega)|fail))
  all_goals first
   |omega
   |(exact BL rfl rfl rfl ⟨⟨⟨i,(Df l).length,c1⟩,Ik (Df l)⟩,rfl,⟨lU (Qo l) hs9,t⟩,Ab2 _⟩)
def jV (h:U)(A:At)(n c:Nat)(cs:AC)(t:AT)(hx:Ai AQ 1 h A n cs)(hn:n≤1000000):Az prog 24 #[.slice A n c,GF t] h (λu h'=>KJ h' u (DA cs t).1 (DA cs t).2):=by
 refine BB func24 λ_ _=>?_;have f:=hx.len;have hr:=Wq h t;have hpo:=Ala h n;have hdi:=nM h A n c cs hx hn;have hpa:=iB h A n c cs hx hn;by_cases hT:EN t
 ·rw[decide_eq_true hT]at hr;by_cases a:Fv cs.length∧Er cs
  ·rw[Aap hT a];rw[f]at a;rw[decide_eq_true a.1]at hpo;rw[decide_eq_true a.2]at hdi;dsimp only;(repeat'(first|refine Ba ?_|(apply AE;(iterate 3 exact F);apply Ci (e:=24);exact F;intro b3)|(apply AE;(iterate 3 exact F);apply Bo (e:=29);exact F;intro b)|refine BF ?_|(refine Ac ?_;first|(refine MT ?_)|(refine TL ?_)|(refine WM ?_))|(apply AU (n:=5) 7 [0,1,99,2,3,99,4,99,5,99,6];kernel_rfl)|(refine Bn ?_;first|(apply AR;exact F;exact Ab func61;exact hpa;rintro v3 h3 g ⟨r,rfl,i,hd3⟩;refine⟨g,Ak,?_⟩)|(refine rJ ?_;intro j k d hs5;refine⟨d,Ak,?_⟩))|(refine Y ?_ ?_<;>intro hc<;>try omega)|fail))
   all_goals first
    |(exfalso;simp at hc;done)
    |(exact Dl rfl rfl rfl Bc rfl rfl rfl (yA hs5 (i.le d) hd3))
  ·rw[Wb hT a];rw[f]at a;dsimp only;clear hpa;by_cases hp:Fv n
   ·rw[decide_eq_true hp]at hpo;rw[decide_eq_false (λw=>a ⟨hp,w⟩)]at hdi;(repeat'(first|refine Ba ?_|(apply AE;(iterate 3 exact F);apply Ci (e:=24);exact F;intro b3)|(apply AE;(iterate 3 exact F);apply Bo (e:=29);exact F;intro b)|refine BF ?_|(refine Ac ?_;first|(refine MT ?_)|(refine TL ?_)|(refine WM ?_))|(refine Y ?_ ?_<;>intro hc<;>try omega)|fail))
    all_goals first
     |(exfalso;simp at hc;done)
     |(exact Dl rfl rfl rfl Bc rfl rfl rfl (Gu _ _))
   ·rw[decide_eq_false hp]at hpo;clear hdi;(repeat'(first|refine Ba ?_|(apply AE;(iterate 3 exact F);apply Ci (e:=24);exact F;intro b3)|(apply AE;(iterate 3 exact F);apply Bo (e:=29);exact F;intro b)|refine BF ?_|(refine Ac ?_;first|(refine MT ?_)|(refine TL ?_))|(refine Y ?_ ?_<;>intro hc<;>try omega)|fail))
    all_goals first
     |(exfalso;simp at hc;done)
     |(exact Dl rfl rfl rfl Bc rfl rfl rfl (Gu _ _))
 ·rw[decide_eq_false hT]at hr;rw[vF hT];dsimp only;(repeat'(first|refine Ba ?_|(apply AE;(iterate 3 exact F);apply Ci (e:=24);exact F;intro b3)|(apply AE;(iterate 3 exact F);apply Bo (e:=29);exact F;intro b)|refine BF ?_|(refine Ac ?_;first|(refine MT ?_))|(refine Y ?_ ?_<;>intro hc<;>try omega)|fail))
  all_goals first
   |(exfalso;simp at hc;done)
   |(exact Dl rfl rfl rfl Bc rfl rfl rfl (Gu _ _))
def Rt (h:U) (u:Value):Option (List Int)→Prop
 |none=>u=.tuple #[.slice none 0 0,.bool false]
 |some cs=>∃A c,u=.tuple #[.slice A cs.length c,.bool true]∧cs.length≤c∧Ai AQ 1 h A cs.length cs
def mV (h:U)(A:At)(n c:Nat)(l:Fj)(t:AT)(hx:Qs h A n l)(hn:n≤128)(hg:∀p∈l,FM h p.1 p.2):Az prog 70 #[.slice A n c,GF t] h (λu h'=>Rt h' u (Fp (AZ l) t)):=by
 refine BB func70 λ_ _=>?_;have ak:=hx.row.len;have o:=hx.row;(repeat'(first|refine Ba ?_|(apply AE;(iterate 3 exact F);apply Ci (e:=24);exact F;intro b3)|refine Eo ?_|(refine Ac ?_;first|(refine Gi ?_;intro b1))|fail));refine Bg (X:=Nat×AC×At×Nat×U) (λx=>x.1≤n∧V h x.2.2.2.2∧Fp (AZ (l.take x.1)) t=some x.2.1) (λx=>n-x.1) (λx=>[(7,O x.1),(6,.slice x.2.2.1 x.2.1.length x.2.2.2.1),(0,.slice A n c),(3,DP b3)]) (λx=>[Ap b3 24 (Mw t),Ar 3 1 (.slice x.2.2.1 x.2.1.length x.2.2.2.1) x.2.1.length (x.2.1.flatMap AQ)]) (λx=>x.2.2.2.2) (0,[],some (Av b1),0,h) ⟨Ah,V.refl _,rfl⟩ Af Ad rfl ?_;rintro⟨k,cs,r,c1,h1⟩ ⟨z,f,hw⟩ d;dsimp only at z f hw d ⊢;have ae:=QK hw;rw[GD,CF]at ae;by_cases m:k<n
 ·have a1:=o.addrD m;have c7:Au h1 ((addrD A).add (k*Iq.size)) (Dv (l.getD k BE)):=(o.cellsD BE m).le f;have hm:=Ce BE (show k<l.length by omega);have hsn:=Mk l (j:=k) J;generalize l.getD k BE=p at *;have hgp:=(hg p hm).le f;obtain⟨ps,pd⟩:=p;dsimp only at hgp hsn;have hde:Az prog 68 #[IN ps pd,GF t] h1 (λu _=>u=HD pd t):=(bK h1 ps pd t hgp.at' (by have:=hgp.few;omega)).mono λu h' _ ⟨c,b,e,k⟩=>k hgp;have a:=aN (t:=t) pd (AZ (l.take k));rw[hw,←hsn]at a;have ac:pd∈AZ l:=CZ.2 ⟨(ps,pd),hm,rfl⟩;cases i:Dd pd t with
  |none=>
   rw[Adh ac i];obtain⟨q,hq⟩:=Oo i;rw[hq]at hde;clear d a hq;(repeat'(first|refine Aa ?_|(apply Da (n:=5) [0,1,2,3,4,5,6,7,9,8,10] [(0,0),(1,0),(2,0),(3,0),(4,0),(5,1),(6,0),(7,0),(8,0),(9,0),(10,0)];kernel_rfl)|(apply Be;exact Bd;(first|exact RU|exact NV);exact AX)|(refine Bn ?_;first|(apply AR;exact F;exact Ab func68;exact hde;rintro af h2 g rfl;refine⟨g,Ak,?_⟩))|(refine Y ?_ ?_<;>intro hc<;>try omega)|fail))
   all_goals first
    |omega
    |(exfalso;simp at hc;done)
    |(exact EG rfl rfl rfl rfl rfl)
  |some w=>
   rw[QJ i]at hde;rw[i]at a;dsimp only at a;have h3:=λA5 c5 h' (aa:V h1 h')=>d (k+1,cs++[w],A5,c5,h') ⟨Ah,f.trans aa,a⟩ Ah;dsimp only at h3;rw[Bt]at h3;clear d a;(repeat'(first|refine Aa ?_|(refine Ac ?_;first|(refine sL ?_;intro ah y ab hs5)|(refine Xp ?_;intro A5 c5))|(apply Da (n:=5) [0,1,2,3,4,5,6,7,9,8,10] [(0,0),(1,0),(2,0),(3,0),(4,0),(5,1),(6,0),(7,0),(8,0),(9,0),(10,0)];kernel_rfl)|(apply Be;exact Bd;(first|exact RU|exact NV);exact AX)|(refine Bn ?_;first|(apply AR;exact F;exact Ab func68;exact hde;rintro af h2 g rfl;refine⟨g,Ak,?_⟩))|(refine Y ?_ ?_<;>intro hc<;>try omega)|fail))
   all_goals first
    |omega
    |(exfalso;simp at hc;done)
    |(
       have v:=h3 A5 c5 y (g.trans ab)
       refine AB Af Ad v)
 ·rw[By J]at hw;rw[hw];clear d;refine EE (enc:=AQ) (e:=3) (sz:=1) (n:=cs.length) (xs:=cs) (λ_=>rfl) rfl Bh ?_;intro ag c7 ai aj s ad hs7;cases s;(repeat'(first|refine Aa ?_|(refine Y ?_ ?_<;>intro hc<;>try omega)|fail))
  all_goals first
   |omega
   |(exact EG rfl rfl rfl rfl ⟨r,c1,rfl,ad,hs7⟩)
def uY (h:U)(s:Ca)(l:EH)(t:AT)(o:Mu h s.A s.n l)(hs:Ms s l)(ae:∀r∈rounds l,KC r t):Az prog 69 #[Jh s t] h (λu h'=>∃A c,u=.slice A (EA (rounds l)).length c∧Ai Cc 13 h' A (EA (rounds l)).length (EA (rounds l))):=by
 refine BB func69 λ_ _=>?_;have w:=o.row;have ap:=w.len;have ar:=hs.few;(repeat'(first|refine Ba ?_|(apply AE;(iterate 3 exact F);apply Ci (e:=29);exact F;intro b2)|refine Eo ?_|(refine Ac ?_;first|(refine Gi ?_;intro b1))|fail));refine Bg (X:=Nat×At×Nat) (λx=>x.1≤s.n) (λx=>s.n-x.1) (λx=>[(4,O x.1),(3,.slice x.2.1 (EA ((rounds l).take x.1)).length x.2.2),(1,DP b2)]) (λx=>[Ap b2 29 (Ge s t),Ar 38 13 (.slice x.2.1 (EA ((rounds l).take x.1)).length x.2.2) (EA ((rounds l).take x.1)).length ((EA ((rounds l).take x.1)).flatMap Cc)]) (λ_=>h) (0,some (Av b1),0) Ah Af Ad rfl ?_;rintro⟨i,ah,c1⟩ hi g;dsimp only at hi g ⊢;have an:=gA hs o (i:=i) λr hr=>ae r (Mh hr);by_cases ad:i<s.n
 ·have ra:=w.addrD ad;have rc:Au h ((addrD s.A).add (i*JV.size)) (Ez (l.getD i CA)):=w.cellsD CA ad;have v:=Ce CA (show i<l.length by omega);have q:=o.each _ v;have aw:=hs.each _ v;have ag:=XV l (i:=i) J;have af:=ae (AZ (l.getD i CA).2) (CZ.2 ⟨_,v,rfl⟩);generalize l.getD i CA=R at *;have am:=q.1.row.len;have y:=q.1.row;have a:=λA5 c5=>g (i+1,A5,c5) Ah Ah;dsimp only at a;rw[ag,Acg]at a;generalize EA ((rounds l).take i)=P at *;clear g ag;(repeat'(first|refine Aa ?_|(refine Y ?_ ?_<;>intro hc<;>try omega)|fail));(all_goals try omega);refine Bg (X:=Nat×At×Nat) (λx=>x.1≤R.1.n) (λx=>R.1.n-x.1) (λx=>[(5,O x.1),(4,O i),(3,.slice x.2.1 (P++GN (AZ (R.2.take x.1))).length x.2.2),(1,DP b2)]) (λx=>[Ap b2 29 (Ge s t),Ar 38 13 (.slice x.2.1 (P++GN (AZ (R.2.take x.1))).length x.2.2) (P++GN (AZ (R.2.take x.1))).length ((P++GN (AZ (R.2.take x.1))).flatMap Cc)]) (λ_=>h) (0,ah,c1) Ah (by rw[show GN (AZ (R.2.take 0))=[]from rfl,DR];exact Af) pK rfl ?_;rintro⟨j,ai,c2⟩ hj k;dsimp only at hj k ⊢;have av:=Aaj (t:=t) (l:=AZ (R.2.take j)) (λd z=>af d (by rw[Auw]at z;exact Mh z)) (by rw[GD,CF];omega);by_cases hjn:j<R.1.n
  ·have a1:=y.addrD hjn;have c7:Au h ((addrD R.1.A).add (j*Iq.size)) (Dv (R.2.getD j BE)):=y.cellsD BE hjn;have hm:=Ce BE (show j<R.2.length by omega);have aa:=q.1.each _ hm;have hsn:=Mk R.2 (j:=j) J;have ab:=(af (R.2.getD j BE).2 (CZ.2 ⟨_,hm,rfl⟩)).1;generalize R.2.getD j BE=p at *;obtain⟨ps,pd⟩:=p;have ac:=aa.len;have hsl:=aa.1;dsimp only at ac hsn ab hsl;have au:=Sn ab;have b:=λA5 c5=>k (j+1,A5,c5) Ah Ah;dsimp only at b;rw[hsn,Ach,←Ck]at b;(have al:(P++GN (AZ (R.2.take j))).length≤30000:=by rw[Bt];omega);generalize P++GN (AZ (R.2.take j))=Q at *;(have m:(Q++pd.ls).length=Q.length+ps.n:=by rw[Bt,ac]);rw[m]at b;(have hq63:Q.length+ps.n≤1000000000:=by omega);clear k a;(repeat'(first|refine Aa ?_|refine Z Gx ?_|refine Z NW ?_|(refine Z (by apply BA;exact F;first|exact BH rfl rc rfl|exact GA rfl c7 rfl) ?_)|(refine Ac ?_;first|(apply CE (enc:=Cc) (xs:=Q) (ys:=pd.ls);(iterate 7 exact F);exact hsl;exact Gd;exact Lg;intro v1;exact Bp;exact hq63;exact F;intro A5 c5))|(refine Y ?_ ?_<;>intro hc<;>try omega)|fail))
   all_goals first
    |omega
    |(
       have f:=b A5 c5
       refine AB Af Ad f)
  ·rw[By J];have f:=a ai c2;clear k a;(repeat'(first|refine Aa ?_|refine Z Gx ?_|refine Z RQ ?_|(refine Y ?_ ?_<;>intro hc<;>try omega)|fail))
   all_goals first
    |omega
    |(refine AB Af Ad f)
 ·rw[By (by rw[KG];omega)];clear g;refine EE (enc:=Cc) (e:=38) (sz:=13) (n:=(EA (rounds l)).length) (xs:=EA (rounds l)) Gd rfl Bh ?_;intro aj ak f ao m aq hs9;cases m;(repeat'(first|refine Aa ?_|(refine Y ?_ ?_<;>intro hc<;>try omega)|fail))
  all_goals first
   |omega
   |(exact BL rfl rfl rfl ⟨_,_,rfl,hs9⟩)
def Ajg {x y:Fj}{k:Nat}(hx:k<x.length)(hy:k<y.length)(q:¬((x.getD k BE).2.a=(y.getD k BE).2.a∧(x.getD k BE).2.b=(y.getD k BE).2.b)):¬Fo (AZ x) (AZ y):=λw=>q (by
 unfold Fo AZ at w
 rw[Nc,Nc]at w
 have:(x.map ((λd:Bv=>(d.a,d.b))∘λp=>p.2))[k]?=(y.map ((λd:Bv=>(d.a,d.b))∘λp=>p.2))[k]?:=by rw[w]
 rw[FG,FG,Bw hx,Bw hy]at this
 rw[Dr,Dr,Bw hx,Bw hy]
 simpa using this)
def Avl {x y:Fj}{k:Nat}(hx:k<x.length)(hy:k<y.length)(a:Fo (AZ (x.take k)) (AZ (y.take k)))(b:(x.getD k BE).2.a=(y.getD k BE).2.a∧(x.getD k BE).2.b=(y.getD k BE).2.b):Fo (AZ (x.take (k+1))) (AZ (y.take (k+1))):=by rw[Mk x hx,Mk y hy];generalize x.getD k BE=u at *;generalize y.getD k BE=v at *;unfold Fo at a ⊢;rw[DI,DI,a];simp[b.1,b.2]
open Classical in
theorem Ae8 (h:U)(s:Ca)(l:EH)(t:AT)(ay:Mu h s.A s.n l)(hs:Ms s l):Az prog 65 #[Jh s t] h (λu _=>u=.bool (decide (DW ⟨t,rounds l⟩))):=by
 refine BB func65 λ_ _=>?_;have az:=ay.row;have c9:=az.len;have hn:=hs.few;(have b9:(rounds l).length=s.n:=by rw[KG,c9]);obtain⟨q,bq⟩:∃q:Bool,q=decide (DW ⟨t,rounds l⟩):=⟨_,rfl⟩;rw[←bq];have ab:=λ(_:Unit)=>oI ⟨t,rounds l⟩;dsimp only at ab;(have ac:¬DW ⟨t,rounds l⟩→q=false:=λk=>by rw[bq,decide_eq_false k]);(have hT:DW ⟨t,rounds l⟩→q=true:=λk=>by rw[bq,decide_eq_true k]);clear bq;have hr:=Wq h t;by_cases bf:EN t
 case' neg=>
  rw[decide_eq_false bf]at hr
  have e:=ac λk=>bf ((ab ()).1 k).1
  clear ab ac hT
  repeat'(first|refine Aa ?_|(refine Aj ?_;intro b)|(refine Ac ?_;first|(refine MT ?_))|(refine Y ?_ ?_<;>intro hc<;>try omega)|fail)
  all_goals first
   |(exfalso;simp at hc;done)
   |(exact BL rfl rfl rfl GG)
 rw[decide_eq_true bf]at hr;by_cases h0:s.n=0
 ·have e:=ac λk=>((ab ()).1 k).2.1 (Fu J);clear ab ac hT;(repeat'(first|refine Aa ?_|(refine Aj ?_;intro b)|(refine Ac ?_;first|(refine MT ?_))|(refine Y ?_ ?_<;>intro hc<;>try omega)|refine AF ?_|(refine AG ?_ ?_<;>intro hc<;>try omega)|fail))
  all_goals first
   |(exfalso;simp at hc;done)
   |omega
   |(exact BL rfl rfl rfl GG)
 have hh:=Ad5 l;have ra:=az.addrD (show 0<s.n by omega);have rc:Au h ((addrD s.A).add (0*JV.size)) (Ez (l.getD 0 CA)):=az.cellsD CA (show 0<s.n by omega);have aq:=Ce CA (show 0<l.length by omega);have cm:=ay.each _ aq;have db:=hs.each _ aq;rw[hh]at ab;generalize l.getD 0 CA=R0 at *;have bh:=cm.1.row;have cf:=bh.len;have hpo:=Awe h R0.1.n;(have cz:(Em (AZ R0.2)).length=2*R0.1.n:=by rw[Ug,GD,cf]);have bb:=Ami (cs:=Em (AZ R0.2)) bf;rw[cz]at bb;by_cases bd:Fv (2*R0.1.n)
 case' neg=>
  rw[decide_eq_false bd]at hpo
  have e:=ac λk=>bd (bb.1 ((ab ()).1 k).2.2.1).1
  clear ab ac hT bb
  repeat'(first|refine Aa ?_|refine Z Qd ?_|refine Z RQ ?_|(refine Aj ?_;intro b)|(refine Ac ?_;first|(refine MT ?_)|(refine TL ?_))|(refine Y ?_ ?_<;>intro hc<;>try omega)|refine AF ?_|(refine AG ?_ ?_<;>intro hc<;>try omega)|fail)
  all_goals first
   |(exfalso;simp at hc;done)
   |omega
   |(exact BL rfl rfl rfl GG)
 rw[decide_eq_true bd]at hpo;have bc:(DA (Em (AZ R0.2)) t).2=0↔Er (Em (AZ R0.2)):=bb.trans ⟨λk=>k.2,λk=>⟨bd,k⟩⟩;clear bb;(repeat'(first|refine Ba ?_|(apply AE;(iterate 3 exact F);apply Ci (e:=29);exact F;intro b1)|refine Eo ?_|refine Z Qd ?_|refine Z RQ ?_|(refine Ac ?_;first|(refine MT ?_)|(refine TL ?_)|(refine Gi ?_;intro ce))|(refine Y ?_ ?_<;>intro hc<;>try omega)|refine AF ?_|(refine AG ?_ ?_<;>intro hc<;>try omega)|fail));(all_goals try omega);(all_goals(try(exfalso;simp at hc;done)));refine Bg (X:=Nat×At×Nat×U) (λx=>x.1≤R0.1.n∧V h x.2.2.2) (λx=>R0.1.n-x.1) (λx=>[(4,O x.1),(3,.slice x.2.1 (2*x.1) x.2.2.1),(1,DP b1)]) (λx=>[Ap b1 29 (Ge s t),Ar 3 1 (.slice x.2.1 (2*x.1) x.2.2.1) (2*x.1) ((Em (AZ (R0.2.take x.1))).flatMap AQ)]) (λx=>x.2.2.2) (0,some (Av ce),0,h) ⟨Ah,V.refl _⟩ Af Ad rfl ?_;rintro⟨k,ct,c1,h1⟩ ⟨bn,a'⟩ al;dsimp only at bn a' al ⊢;(have a5:(Em (AZ (R0.2.take k))).length=2*k:=by rw[Ug,GD,CF];omega);by_cases ak:k<R0.1.n
 ·have a1:=bh.addrD ak;have c7:Au h1 ((addrD R0.1.A).add (k*Iq.size)) (Dv (R0.2.getD k BE)):=(bh.cellsD BE ak).le a';have rc1:=rc.le a';have hsn:=Mk R0.2 (j:=k) J;generalize R0.2.getD k BE=p at *;have h3:=λA5 c5 h' (z:V h1 h')=>al (k+1,A5,c5,h') ⟨Ah,a'.trans z⟩ Ah;dsimp only at h3;rw[hsn,Adm]at h3;rw[show 2*(k+1)=2*k+2 by omega]at h3;generalize Em (AZ (R0.2.take k))=cs at *;clear al ab ac hT hsn bc;(repeat'(first|refine Aa ?_|refine Z Qd ?_|(refine Z (by apply BA;exact F;first|exact BH rfl rc1 rfl|exact GA rfl c7 rfl) ?_)|(apply AU (n:=7) 20 [0,1,2,3,4,5,6,7,8,9,10,11,12,13,14,15,16,99,17,18,99,19];kernel_rfl)|(apply Be;exact Bd;(first|exact Qd|exact qC|(apply BA;exact F;first|exact BH rfl rc1 rfl|exact GA rfl c7 rfl));exact AX)|(refine Bn ?_;first|(refine rW ?_;intro ce g f hs5;refine⟨f,Ak,?_⟩)|(refine Xp ?_;intro A5 c5;refine⟨V.refl _,Ak,?_⟩))|(refine Y ?_ ?_<;>intro hc<;>try omega)|fail))
  all_goals first
   |omega
   |(
      have o:=h3 A5 c5 g f
      refine AB Af Ad o)
 rw[By J]at a5 ⊢;(have ek:k=R0.1.n:=by omega);subst ek;clear al;generalize Em (AZ R0.2)=cs at *;refine EE (enc:=AQ) (e:=3) (sz:=1) (n:=2*R0.1.n) (xs:=cs) (λ_=>rfl) a5 Bh ?_;intro dg c7 ah c6 cw dp hs7;cases cw;have hdi:=nM ah ct (2*R0.1.n) c1 cs hs7 J;have cj:V h ah:=a'.trans c6;have cd:=rc.le cj;by_cases a4:Er cs
 case' neg=>
  rw[decide_eq_false a4]at hdi
  have e:=ac λk=>a4 (bc.1 ((ab ()).1 k).2.2.1)
  clear ab ac hT bc
  repeat'(first|refine Aa ?_|refine Z Qd ?_|(refine Z (by apply BA;exact F;exact BH rfl cd rfl) ?_)|(refine Ac ?_;first|(refine WM ?_))|(refine Y ?_ ?_<;>intro hc<;>try omega)|fail)
  all_goals first
   |omega
   |(exfalso;simp at hc;done)
   |(exact BL rfl rfl rfl GG)
 rw[decide_eq_true a4]at hdi;have b2:=λa b c=>hT ((ab ()).2 ⟨bf,λk=>h0 (by rw[k]at b9;exact b9.symm),bc.2 a4,a,b,c⟩)
 have bz:∀i,i<s.n→¬KC ((rounds l).getD i []) t→q=false:=λi hi k=>ac λw=>k (((ab ()).1 w).2.2.2.1 _ (by
  rw[Dr,Bw (show i<(rounds l).length by omega)]
  exact Po _))
 have b0:∀i,i<s.n→¬Lb t (rounds l) i→q=false:=λi hi k=>ac λw=>k (((ab ()).1 w).2.2.2.2.1 i J);have bi:∀x∈EA (rounds l),¬DM x ((EA (rounds l)).headD AV)→q=false:=λx hx k=>ac λw=>k (((ab ()).1 w).2.2.2.2.2 x hx);(repeat'(first|refine Aa ?_|refine Z Qd ?_|(refine Z (by apply BA;exact F;exact BH rfl cd rfl) ?_)|(refine Ac ?_;first|(refine WM ?_))|(refine Y ?_ ?_<;>intro hc<;>try omega)|fail));(all_goals try omega);(all_goals(try(exfalso;simp at hc;done)));clear ab ac hT hh hs7 cm bh cf rc cd ra aq db a5 bn ak bc hdi a4 hpo bd;refine Bg (X:=Nat×U) (λx=>x.1≤s.n∧V h x.2∧Ac8 t l x.1) (λx=>s.n-x.1) (λx=>[(5,O x.1),(1,DP b1)]) (λx=>[Ap b1 29 (Ge s t)]) (λx=>x.2) (0,ah) ⟨Ah,cj,⟨An,λj hj=>absurd hj Ah⟩⟩ Af Ad rfl ?_;rintro⟨i,h3⟩ ⟨hi,ap,an⟩ al;dsimp only at hi ap an al ⊢;by_cases bm:i<s.n
 case' neg=>
  have di:i=s.n:=by omega
  have e1:∀r∈rounds l,KC r t:=λr hr=>an.rounds r (by rw[By J];exact hr)
  have e2:∀j,j<(rounds l).length→Lb t (rounds l) j:=λj hj=>an.chain j J
  have b3:=b2 e1 e2
  have c2:=gA hs ay (t:=t) (i:=s.n) λr hr=>e1 r (Mh hr)
  rw[By J]at c2
  have hlg:=uY h3 s l t (ay.le ap) hs e1
  clear al an bz b0 b2 e1 e2
  generalize EA (rounds l)=L at *
  repeat'(first|refine Aa ?_|(refine Ac ?_;first|(apply AR;exact F;exact Ab func69;exact hlg;rintro v4 o aj ⟨bu,c4,rfl,hs4⟩))|(refine Y ?_ ?_<;>intro hc<;>try omega)|fail)
  all_goals try omega
  refine Bg (X:=Nat) (λk=>k≤L.length∧∀x∈L.take k,DM x (L.headD AV)) (λk=>L.length-k) (λk=>[(16,O k),(15,.slice bu L.length c4)]) (λ_=>[]) (λ_=>o) 0 ⟨J,An⟩ Af Ad rfl ?_
  rintro k ⟨bn,hK⟩ av
  by_cases ak:k<L.length
  · have a1:=hs4.addrD ak
    have d1:Au o ((addrD bu).add (k*ID.size)) (Cc (L.getD k AV)):=hs4.cellsD AV ak
    have bw:Au o ((addrD bu).add (0*ID.size)) (Cc (L.getD 0 AV)):=hs4.cellsD AV (show 0<L.length by omega)
    have cv:L.getD 0 AV=L.headD AV:=by cases L<;>rfl
    have da:=Ce AV (show k<L.length by omega)
    have cx:=BY AV (xs:=L) rfl ak
    rw[cv]at bw
    have bj:=bi _ da
    have aa:=λ(w:DM (L.getD k AV) (L.headD AV))=>av (k+1) ⟨J,by
     rw[cx]
     intro x hx
     rcases AO.1 hx with v|v
     · exact hK x v
     · rw[Bk.1 v];exact w⟩ J
    generalize L.getD k AV=x at *
    generalize L.headD AV=y at *
    unfold DM at aa bj
    clear av hK b3 bi
    by_cases bk:x.g.s=y.g.s∧x.g.c=y.g.c
    · have cy:=aa bk
      obtain⟨dl,dm⟩:=bk
      clear aa bj
      repeat'(first|refine Aa ?_|(apply AU (n:=37) 26 [0,1,2,3,4,5,6,7,8,9,10,11,12,13,14,15,16,17,18,19,20,21,22,23,24,25];kernel_rfl)|(apply Be;exact Bd;(first|exact qD|(apply Cs (j:=0) (n:=L.length);(iterate 5 exact F);exact a1;omega;omega)|(apply BA;exact F;first|exact LI rfl d1 rfl|exact LI rfl bw rfl));exact AX)|(refine Db ?_ ?_<;>intro hc<;>try omega)|(refine Y ?_ ?_<;>intro hc<;>try omega)|fail)
      all_goals first
       |omega
       |(refine AB Af Ad cy)
    · have e:=bj bk
      clear aa bj
      repeat'(first|refine Aa ?_|(apply AU (n:=37) 26 [0,1,2,3,4,5,6,7,8,9,10,11,12,13,14,15,16,17,18,19,20,21,22,23,24,25];kernel_rfl)|(apply Be;exact Bd;(first|exact qD|(apply Cs (j:=0) (n:=L.length);(iterate 5 exact F);exact a1;omega;omega)|(apply BA;exact F;first|exact LI rfl d1 rfl|exact LI rfl bw rfl));exact AX)|(refine Db ?_ ?_<;>intro hc<;>try omega)|(refine Y ?_ ?_<;>intro hc<;>try omega)|fail)
      all_goals first
       |(exact BL rfl rfl rfl GG)
       |(exfalso;exact bk ⟨Cn,Cn⟩)
       |omega
  · rw[By J]at hK
    have e:=b3 hK
    clear av bi b3
    repeat'(first|refine Aa ?_|(refine Y ?_ ?_<;>intro hc<;>try omega)|fail)
    all_goals first
     |omega
     |(exact BL rfl rfl rfl GG)
 have ra:=az.addrD bm;have rc:Au h3 ((addrD s.A).add (i*JV.size)) (Ez (l.getD i CA)):=(az.cellsD CA bm).le ap;have aq:=Ce CA (show i<l.length by omega);have be:=(ay.each _ aq).le ap;have de:=hs.each _ aq;have dd:=hs.legs _ aq;have ci:=PF l i;have c3:=PF l (i+1);have cr:=XV l (i:=i) J;have am:=bz i bm;have ai:=b0 i bm;rw[ci]at am;generalize l.getD i CA=R at *;have dk:=be.1.row.len;have ch:=be.1.row
 have ar:=λh' (z:V h3 h') (hro:KC (AZ R.2) t) (hch:Lb t (rounds l) i)=>al (i+1,h') ⟨Ah,ap.trans z,⟨λr hr=>by
  dsimp only at hr;rw[cr,AO,Bk]at hr;rcases hr with hr|hr;{exact an.rounds r hr}
  ·rw[hr];exact hro,λj hj=>by
  dsimp only at hj;by_cases e:j=i;{rw[e];exact hch}
  ·exact an.chain j J⟩⟩ Ah
 dsimp only at ar;clear al an b2 bz b0 bi cr;(repeat'(first|refine Aa ?_|(refine Y ?_ ?_<;>intro hc<;>try omega)|fail));(all_goals try omega);refine Bg (X:=Nat×U) (λx=>x.1≤R.1.n∧V h3 x.2∧∀d∈AZ (R.2.take x.1),UT t d) (λx=>R.1.n-x.1) (λx=>[(6,O x.1),(5,O i),(1,DP b1)]) (λx=>[Ap b1 29 (Ge s t)]) (λx=>x.2) (0,h3) ⟨Ah,V.refl _,λd ao=>absurd ao (by dsimp only;rw[Ia];simp[AZ])⟩ Af Ad rfl ?_;rintro⟨j,o⟩ ⟨hj,aj,ax⟩ au;dsimp only at hj aj ax au ⊢;have rc4:=rc.le aj;by_cases hjn:j<R.1.n
 ·have a1:=ch.addrD hjn;have c7:Au o ((addrD R.1.A).add (j*Iq.size)) (Dv (R.2.getD j BE)):=(ch.cellsD BE hjn).le aj;have hm:=Ce BE (show j<R.2.length by omega);have bl:=(be.1.each _ hm).le aj;have c8:=dd _ hm;have hsn:=Mk R.2 (j:=j) J;generalize R.2.getD j BE=p at *;obtain⟨ps,pd⟩:=p;have hck:=λh' (z:V o h')=>Atf h' ps pd t (bl.le z);have hde:=bK o ps pd t bl c8;have a0:=NF (d:=pd) (t:=t);have cl:pd∈AZ R.2:=CZ.2 ⟨_,hm,rfl⟩;have c0:=bl.len;dsimp only at c0 hsn;generalize Ie pd t=cu at *;by_cases bx:cu=0
  case' neg=>
   have e:=am λk=>bx (a0.2 (k pd cl).1)
   clear au ar a0 am ai
   repeat'(first|refine Ba ?_|(apply AE;(iterate 3 exact F);apply Bo (e:=42);exact F;intro bv)|refine BF ?_|refine Z Gx ?_|refine Z NW ?_|refine Z WY ?_|(refine Ac ?_;first|(apply AR;exact F;exact Ab func68;exact hde;rintro v5 g f ⟨dh,dt,rfl,dr⟩)|(refine Xn ?_))|(refine Y ?_ ?_<;>intro hc<;>try omega)|refine AF ?_|(refine AG ?_ ?_<;>intro hc<;>try omega)|fail)
   all_goals first
    |(exact BL rfl rfl rfl GG)
    |omega
  have b7:=a0.1 bx;subst bx;have a7:Az prog 68 #[IN ps pd,GF t] o (λu _=>u=HD pd t):=hde.mono λu h' _ ⟨c,b,e,k⟩=>k (FM.of bl b7)
  have g:=λh' (z:V o h') (hfit:UT t pd)=>au (j+1,h') ⟨Ah,aj.trans z,λd ao=>by
   dsimp only at ao;rw[hsn,AO,Bk]at ao;rcases ao with ao|rfl;{exact ax d ao}
   ·exact hfit⟩ Ah
  dsimp only at g;cases bt:Dd pd t with
  |none=>
   obtain⟨w,hw⟩:=Oo bt;rw[hw]at a7;by_cases dn:(ps.n:Int)=t.legs
   ·have e:=am λk=>(k pd cl).2 (by unfold DY;omega) J bt;clear au ar a0 am ai g hde;(repeat'(first|refine Ba ?_|(apply AE;(iterate 3 exact F);apply Bo (e:=42);exact F;intro bv)|refine BF ?_|refine Z Gx ?_|refine Z NW ?_|refine Z WY ?_|(refine Ac ?_;first|(apply AR;exact F;exact Ab func68;exact a7;rintro v5 ag f rfl)|(refine Xn ?_))|(refine Y ?_ ?_<;>intro hc<;>try omega)|refine AF ?_|(refine AG ?_ ?_<;>intro hc<;>try omega)|fail))
    all_goals first
     |omega
     |(exfalso;simp at hc;done)
     |(exact BL rfl rfl rfl GG)
   ·have ah:=λh' z=>g h' z ⟨b7,λ_ k=>absurd k J⟩;clear au ar a0 am ai g hde;(repeat'(first|refine Ba ?_|(apply AE;(iterate 3 exact F);apply Bo (e:=42);exact F;intro bv)|refine BF ?_|refine Z Gx ?_|refine Z NW ?_|refine Z WY ?_|(refine Ac ?_;first|(apply AR;exact F;exact Ab func68;exact a7;rintro v5 ag f rfl)|(refine Xn ?_))|(refine Y ?_ ?_<;>intro hc<;>try omega)|refine AF ?_|(refine AG ?_ ?_<;>intro hc<;>try omega)|fail))
    all_goals first
     |omega
     |(exfalso;simp at hc;done)
     |(
        have aa:=ah ag f
        refine AB Af Ad aa)
  |some w=>
   rw[QJ bt]at a7;have ah:=λh' z=>g h' z ⟨b7,λ_ _ k=>by rw[bt]at k;cases k⟩;clear au ar a0 am ai g hde;(repeat'(first|refine Ba ?_|(apply AE;(iterate 3 exact F);apply Bo (e:=42);exact F;intro bv)|refine BF ?_|refine Z Gx ?_|refine Z NW ?_|refine Z WY ?_|(refine Ac ?_;first|(apply AR;exact F;exact Ab func68;exact a7;rintro v5 ag f rfl)|(refine Xn ?_))|(refine Y ?_ ?_<;>intro hc<;>try omega)|refine AF ?_|(refine AG ?_ ?_<;>intro hc<;>try omega)|fail))
   all_goals first
    |omega
    |(exfalso;simp at hc;done)
    |(
       have aa:=ah ag f
       refine AB Af Ad aa)
 rw[By J]at ax;clear au am rc;have hwi:=mV o R.1.A R.1.n R.1.c R.2 t (be.1.le aj) de λp hp=>FM.of ((be.1.each p hp).le aj) (ax p.2 (CZ.2 ⟨p,hp,rfl⟩)).1;have a3:=λh' (z:V o h') hch=>ar h' (aj.trans z) ax hch;clear ar ax;(have ad:∀x,Ej (AZ R.2) t=x→(Lb t (rounds l) i↔if i+1<s.n then∃n,x=some n∧Fo n (AZ (l.getD (i+1) CA).2)else x=none):=λx e=>by{unfold Lb;rw[b9,ci,c3,e]})
 have a8:Ej (AZ R.2) t=none→i+1<s.n→q=false:=λb6 ae=>ai (λk=>by
  have h2:=(ad none b6).1 k;rw[if_pos ae]at h2;obtain⟨m,h3,_⟩:=h2
  cases h3)
 have a9:=λ(b6:Ej (AZ R.2) t=none) (ae:¬i+1<s.n) (h':U) (z:V o h')=>a3 h' z ((ad none b6).2 (by rw[if_neg ae]));cases hwn:Fp (AZ R.2) t with
 |none=>
  rw[hwn]at hwi;unfold Rt at hwi;have bg:=a8 (Wc hwn);have aw:=a9 (Wc hwn);clear a3 ai ad a8 a9;by_cases ae:i+1<s.n
  ·have e:=bg ae;(have af:¬((false==FR ((i:Int)+1) (s.n:Int))=true):=by rw[(Lw _ _).mpr J];simp);clear aw;(repeat'(first|refine Aa ?_|refine Z Gx ?_|refine Z MU ?_|(apply Da (n:=20) [0,1,2,3,4,5,6,7,8,9,11,10,12] [(0,0),(1,0),(2,0),(3,0),(4,0),(5,0),(6,0),(7,1),(8,0),(9,0),(10,0),(11,0),(12,0)];kernel_rfl)|(apply Be;exact Bd;(first|exact Gx|exact MU);exact AX)|(refine Bn ?_;first|(refine PX ?_;rintro v5 g f rfl;refine⟨f,Ak,?_⟩))|(refine Y ?_ ?_<;>intro hc<;>try omega)|fail))
   all_goals first
    |omega
    |(exfalso;exact af Cn)
    |(exfalso;simp at hc;done)
    |(exact BL rfl rfl rfl GG)
  ·have ah:=aw ae;(have af:¬((false==FR ((i:Int)+1) (s.n:Int))=false):=by rw[(PD _ _).mpr J];simp);clear aw bg;(repeat'(first|refine Aa ?_|refine Z Gx ?_|refine Z MU ?_|(apply Da (n:=20) [0,1,2,3,4,5,6,7,8,9,11,10,12] [(0,0),(1,0),(2,0),(3,0),(4,0),(5,0),(6,0),(7,1),(8,0),(9,0),(10,0),(11,0),(12,0)];kernel_rfl)|(apply Be;exact Bd;(first|exact Gx|exact MU);exact AX)|(refine Bn ?_;first|(refine PX ?_;rintro v5 g f rfl;refine⟨f,Ak,?_⟩))|(refine Y ?_ ?_<;>intro hc<;>try omega)|fail))
   all_goals first
    |omega
    |(exfalso;exact af Cn)
    |(exfalso;simp at hc;done)
    |(
       have aa:=ah g f
       refine AB Af Ad aa)
 |some cs=>
 rw[hwn]at hwi;unfold Rt at hwi;have a5:=QK hwn;rw[GD]at a5;have ba:=gG hwn;by_cases h2:2≤cs.length
 case' neg=>
  rw[if_neg h2]at ba
  have bg:=a8 ba
  have aw:=a9 ba
  clear a3 ai ad a8 a9
  by_cases ae:i+1<s.n
  · have e:=bg ae
    have af:¬((Lm 2 (cs.length:Int)==FR ((i:Int)+1) (s.n:Int))=true):=by rw[(Lw _ _).mpr J,(SZ _ _).mpr J];simp
    clear aw
    repeat'(first|refine Aa ?_|refine Z Gx ?_|refine Z MU ?_|(apply Da (n:=20) [0,1,2,3,4,5,6,7,8,9,11,10,12] [(0,0),(1,0),(2,0),(3,0),(4,0),(5,0),(6,0),(7,1),(8,0),(9,0),(10,0),(11,0),(12,0)];kernel_rfl)|(apply Be;exact Bd;(first|exact Gx|exact MU);exact AX)|(refine Bn ?_;first|(refine PX ?_;rintro v5 g f ⟨A5,c5,rfl,bo,hs5⟩;refine⟨f,Ak,?_⟩))|(refine Y ?_ ?_<;>intro hc<;>try omega)|fail)
    all_goals first
     |omega
     |(exfalso;exact af Cn)
     |(exfalso;simp at hc;done)
     |(exact BL rfl rfl rfl GG)
  · have ah:=aw ae
    have af:¬((Lm 2 (cs.length:Int)==FR ((i:Int)+1) (s.n:Int))=false):=by rw[(PD _ _).mpr J,(SZ _ _).mpr J];simp
    clear aw bg
    repeat'(first|refine Aa ?_|refine Z Gx ?_|refine Z MU ?_|(apply Da (n:=20) [0,1,2,3,4,5,6,7,8,9,11,10,12] [(0,0),(1,0),(2,0),(3,0),(4,0),(5,0),(6,0),(7,1),(8,0),(9,0),(10,0),(11,0),(12,0)];kernel_rfl)|(apply Be;exact Bd;(first|exact Gx|exact MU);exact AX)|(refine Bn ?_;first|(refine PX ?_;rintro v5 g f ⟨A5,c5,rfl,bo,hs5⟩;refine⟨f,Ak,?_⟩))|(refine Y ?_ ?_<;>intro hc<;>try omega)|fail)
    all_goals first
     |omega
     |(exfalso;exact af Cn)
     |(exfalso;simp at hc;done)
     |(
        have aa:=ah g f
        refine AB Af Ad aa)
 rw[if_pos h2]at ba;have ad:=ad _ ba;clear a8 a9;by_cases ae:i+1<s.n
 case' neg=>
  rw[if_neg ae]at ad
  have e:=ai λk=>by have:=ad.1 k;cases this
  have af:¬((Lm 2 (cs.length:Int)==FR ((i:Int)+1) (s.n:Int))=true):=by rw[(PD _ _).mpr J,(GV _ _).mpr J];simp
  clear a3 ai ad
  repeat'(first|refine Aa ?_|refine Z Gx ?_|refine Z MU ?_|(refine Ac ?_;first|(exfalso;exact af Cn))|(apply Da (n:=20) [0,1,2,3,4,5,6,7,8,9,11,10,12] [(0,0),(1,0),(2,0),(3,0),(4,0),(5,0),(6,0),(7,1),(8,0),(9,0),(10,0),(11,0),(12,0)];kernel_rfl)|(apply Be;exact Bd;(first|exact Gx|exact MU);exact AX)|(refine Bn ?_;first|(refine PX ?_;rintro v5 g f ⟨A5,c5,rfl,bo,hs5⟩;refine⟨f,Ak,?_⟩))|(refine Y ?_ ?_<;>intro hc<;>try omega)|fail)
  all_goals first
   |omega
   |(exfalso;exact af Cn)
   |(exfalso;simp at hc;done)
   |(exact BL rfl rfl rfl GG)
 rw[if_pos ae]at ad;have rc1:Au o ((addrD s.A).add ((i+1)*JV.size)) (Ez (l.getD (i+1) CA)):=((az.cellsD CA ae).le ap).le aj;have co:=Ce CA (show i+1<l.length by omega);have cn:=((ay.each _ co).le ap).le aj;have dq:=hs.each _ co;generalize l.getD (i+1) CA=R1 at *;have hpa:=λh' A5 c5 hs5=>iB h' A5 cs.length c5 cs hs5 J;(have af:¬((Lm 2 (cs.length:Int)==FR ((i:Int)+1) (s.n:Int))=false):=by rw[(Lw _ _).mpr J,(GV _ _).mpr J];simp);(have bp:=λ(k:¬Fo (Df cs) (AZ R1.2))=>ai λw=>by{obtain⟨ds,k1,k2⟩:=ad.1 w;cases k1;exact k k2});have b':=λ(h':U) (z:V o h') (k:Fo (Df cs) (AZ R1.2))=>a3 h' z (ad.2 ⟨Df cs,rfl,k⟩);clear a3 ai ad;have dj:=cn.1.row.len;by_cases c':(Df cs).length=R1.1.n
 case' neg=>
  have e:=bp λw=>c' (by have:=Wr w;rw[GD]at this;omega)
  clear bp b'
  repeat'(first|refine Aa ?_|refine Z Gx ?_|refine Z RW ?_|refine Z Xz ?_|(refine Ac ?_;first|(refine rK ?_;rintro df ag ck ⟨r,rfl,br,a6⟩;(have dc:=br.1.row.len);(have b8:=GD r.2);rw[a6]at b8))|(apply Da (n:=20) [0,1,2,3,4,5,6,7,8,9,11,10,12] [(0,0),(1,0),(2,0),(3,0),(4,0),(5,0),(6,0),(7,1),(8,0),(9,0),(10,0),(11,0),(12,0)];kernel_rfl)|(apply Be;exact Bd;(first|exact Gx|exact Xz);exact AX)|(refine Bn ?_;first|(refine PX ?_;rintro v5 g f ⟨A5,c5,rfl,bo,hs5⟩;refine⟨f,Ak,?_⟩))|(refine Y ?_ ?_<;>intro hc<;>try omega)|fail)
  all_goals first
   |omega
   |(exfalso;exact af Cn)
   |(exfalso;simp at hc;done)
   |(exact BL rfl rfl rfl GG)
 (repeat'(first|refine Aa ?_|refine Z Gx ?_|refine Z RW ?_|refine Z Xz ?_|(refine Ac ?_;first|(refine rK ?_;rintro df ag ck ⟨r,rfl,br,a6⟩;(have dc:=br.1.row.len);(have b8:=GD r.2);rw[a6]at b8))|(apply Da (n:=20) [0,1,2,3,4,5,6,7,8,9,11,10,12] [(0,0),(1,0),(2,0),(3,0),(4,0),(5,0),(6,0),(7,1),(8,0),(9,0),(10,0),(11,0),(12,0)];kernel_rfl)|(apply Be;exact Bd;(first|exact Gx|exact Xz);exact AX)|(refine Bn ?_;first|(refine PX ?_;rintro v5 g f ⟨A5,c5,rfl,bo,hs5⟩;refine⟨f,Ak,?_⟩))|(refine Y ?_ ?_<;>intro hc<;>try omega)|fail));(all_goals try omega);(all_goals(try(exfalso;exact af Cn)));(all_goals(try(exfalso;simp at hc;done)));have b4:V o ag:=f.trans ck;have cp:=br.1.row;have rc16:=rc1.le b4;have cg:=(cn.1.row.le b4);have b5:=λ(k:¬Fo (AZ r.2) (AZ R1.2))=>bp λw=>k (by rw[a6];exact w);have ca:=λ(k:Fo (AZ r.2) (AZ R1.2))=>b' ag b4 (by rw[←a6];exact k);clear bp b' hwi hpa;refine Bg (X:=Nat) (λk=>k≤r.1.n∧Fo (AZ (r.2.take k)) (AZ (R1.2.take k))) (λk=>r.1.n-k) (λk=>[(14,O k),(13,.slice r.1.A r.1.n r.1.c),(5,O i),(1,DP b1)]) (λ_=>[Ap b1 29 (Ge s t)]) (λ_=>ag) 0 ⟨J,rfl⟩ Af Ad rfl ?_;rintro k ⟨bn,hK⟩ av;by_cases ak:k<r.1.n
 ·have a1:=cp.addrD ak;have a2:=cg.addrD (show k<R1.1.n by omega);have d1:Au ag ((addrD r.1.A).add (k*Iq.size)) (Dv (r.2.getD k BE)):=cp.cellsD BE ak;have d2:Au ag ((addrD R1.1.A).add (k*Iq.size)) (Dv (R1.2.getD k BE)):=cg.cellsD BE (show k<R1.1.n by omega);have cq:=Avl (x:=r.2) (y:=R1.2) (k:=k) J J hK;have hsn:=Ajg (x:=r.2) (y:=R1.2) (k:=k) J J;have cb:=λ(w:(r.2.getD k BE).2.a=(R1.2.getD k BE).2.a∧(r.2.getD k BE).2.b=(R1.2.getD k BE).2.b)=>av (k+1) ⟨J,cq w⟩ J;have cc:=λ(w:¬((r.2.getD k BE).2.a=(R1.2.getD k BE).2.a∧(r.2.getD k BE).2.b=(R1.2.getD k BE).2.b))=>b5 (hsn w);generalize r.2.getD k BE=u at *;generalize R1.2.getD k BE=v at *;clear av cq hsn b5 ca hK;by_cases bs:u.2.a=v.2.a∧u.2.b=v.2.b
  ·have aa:=cb bs;obtain⟨du,dv⟩:=bs;clear cb cc;(repeat'(first|refine Aa ?_|(apply AU (n:=31) 34 [0,1,2,3,4,5,6,7,8,9,10,11,12,13,14,15,16,17,18,19,20,21,22,23,24,25,26,27,28,29,30,31,32,33];kernel_rfl)|(apply Be;exact Bd;(first|exact pL|exact pM|exact RW|exact qI);exact AX)|(refine Db ?_ ?_<;>intro hc<;>try omega)|(refine Y ?_ ?_<;>intro hc<;>try omega)|fail))
   all_goals first
    |omega
    |(refine AB Af Ad aa)
  ·have e:=cc bs;clear cb cc;(repeat'(first|refine Aa ?_|(apply AU (n:=31) 34 [0,1,2,3,4,5,6,7,8,9,10,11,12,13,14,15,16,17,18,19,20,21,22,23,24,25,26,27,28,29,30,31,32,33];kernel_rfl)|(apply Be;exact Bd;(first|exact pL|exact pM|exact RW|exact qI);exact AX)|(refine Db ?_ ?_<;>intro hc<;>try omega)|(refine Y ?_ ?_<;>intro hc<;>try omega)|fail))
   all_goals first
    |(exact BL rfl rfl rfl GG)
    |(exfalso;exact bs ⟨Cn,Cn⟩)
    |omega
 ·rw[By J,By J]at hK;have aa:=ca hK;clear av b5 ca;(repeat'(first|refine Aa ?_|(refine Y ?_ ?_<;>intro hc<;>try omega)|fail))
  all_goals first
   |omega
   |(refine AB Af Ad aa)
end Go.Hw
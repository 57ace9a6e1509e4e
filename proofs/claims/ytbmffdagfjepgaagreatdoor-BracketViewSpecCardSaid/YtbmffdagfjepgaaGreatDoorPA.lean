import Derived.Test.YtbmffdagfjepgaaGreatDoorXC
import Derived.Test.YtbmffdagfjepgaaGreatDoorBA
import Derived.Test.YtbmffdagfjepgaaGreatDoorVF
set_option linter.all false
set_option maxRecDepth 100000
set_option maxHeartbeats 8000000
namespace Go.Hw
open Go
attribute [local irreducible] AI Bz BV Aq AP Az Au CH Ap Ar BG Cm BP Dg El Ek Fl Ex EV Hv Fx FJ
open Go.Proofs.Tryz
def oK (h:U)(A:At)(n c:Nat)(l:Fz)(hx:Ai Fk 2 h A n l)(hn:n≤1000000):Aq prog 162 #[.slice A n c] h (O (FJ l)):=by
 refine AK func162 λ_ _=>?_;have i:=hx.len;(repeat'(first|refine Aa ?_|fail));refine Bg (X:=Nat) (λk=>k≤n) (λk=>n-k) (λk=>[(7,O k),(6,O n),(5,.slice A n c),(2,O (FJ (l.take k)))]) (λ_=>[]) (λ_=>h) 0 J (by rw[Ia,show FJ []=0 by unfold FJ;rfl];exact Af) Ad rfl ?_;rintro k j b;by_cases a:k<n
 ·have a1:=hx.addrD a;have c1:Au h ((addrD A).add (k*Tx.size)) (Fk (l.getD k De)):=hx.cellsD De a;have f:=BY De (xs:=l) i a;generalize l.getD k De=z at *;have h3:=b (k+1) J J;rw[f,ZV]at h3;have g:=VV (l.take k);rw[CF]at g;generalize FJ (l.take k)=m at *;obtain⟨zp,zr⟩:=z;unfold UD at h3;cases zr
  ·rw[if_neg An]at h3;(repeat'(first|refine Ba ?_|(apply AE;(iterate 3 exact F);apply Bo (e:=186);exact F;intro d)|refine BF ?_|refine Z Bf ?_|refine Z BN ?_|(refine Y ?_ ?_<;>intro hc<;>try omega)|fail))
   all_goals first
    |omega
    |(exfalso;simp at hc;done)
    |(refine AB Af Ad h3)
  ·rw[if_pos rfl]at h3;(repeat'(first|refine Ba ?_|(apply AE;(iterate 3 exact F);apply Bo (e:=186);exact F;intro d)|refine BF ?_|refine Z Bf ?_|refine Z BN ?_|(refine Y ?_ ?_<;>intro hc<;>try omega)|fail))
   all_goals first
    |omega
    |(exfalso;simp at hc;done)
    |(refine AB Af Ad h3)
 ·rw[By J];clear b;(repeat'(first|refine Aa ?_|(refine Y ?_ ?_<;>intro hc<;>try omega)|refine Bm ?_|fail))
  all_goals first
   |omega
   |rfl
def yR (h:U)(g:AL)(d:Int)(a b:Bool):Aq prog 157 #[Di g,O d,.bool a,.bool b] h (GE (JA g d a b)):=by
 refine AK func157 λ_ _=>?_;cases a;(all_goals cases b);(all_goals(repeat'(first|refine AH ?_|(refine Aj ?_;intro b)|(refine Y ?_ ?_<;>intro hc<;>try omega)|(apply Ha;(iterate 3 exact F);exact Bc;exact F;exact F)|fail)))
 all_goals first
  |rfl
  |(exfalso;simp at hc;done)
def Aq7 (h:U)(g:AL)(r:Cu)(d:Int):Aq prog 156 #[Di g,Ew r,O d] h (.tuple #[GE (JA g d (decide (r.club=g.h)) (decide (r.club=g.a))),.bool true]):=by
 refine AK func156 λ_ _=>?_;rw[←FP,←FP];(repeat'(first|refine AH ?_|(refine Aj ?_;intro b)|(refine Ac ?_;first|(apply Aw;exact F;exact Ab func157;exact yR _ g d _ _))|(apply Qi;(iterate 3 exact F);exact Bc;(iterate 3 exact F))|fail))
 all_goals first
  |rfl
def Aq6 (h:U)(g:AL)(r:Cu)(d:Int):Aq prog 158 #[Di g,Ew r,O d] h (.tuple #[GE AV,.bool false]):=by
 refine AK func158 λ_ _=>?_;(repeat'(first|refine AH ?_|(refine Aj ?_;intro b)|(apply Qi;(iterate 3 exact F);exact Bc;(iterate 3 exact F))|fail))
 all_goals first
  |rfl
def Aq5 (h:U)(g:AL)(r:Cu)(d:Int):Aq prog 159 #[Di g,Ew r,O d] h (.tuple #[GE {AV with g:=g,day:=d,hg:=r.hg,ag:=r.ag},.bool true]):=by
 refine AK func159 λ_ _=>?_;(repeat'(first|refine AH ?_|(refine Aj ?_;intro b)|(apply Qi;(iterate 3 exact F);exact Bc;(iterate 3 exact F))|fail))
 all_goals first
  |rfl
def Rm:HR→Value
 |none=>.nilFunc
 |some f=>.func (.func f) #[] #[]
def VI:List (Int×HR):=Dk 3 (some 159) (Dk 2 (some 158) (Dk 1 (some 156) []))
def ZB (k:Int):HR:=if k=1 then some 156 else if k=2 then some 158 else if k=3 then some 159 else none
def Aq4 (k:Int):(Co k VI).getD none=ZB k:=by unfold VI ZB;rw[KM,KM,KM];by_cases h3:(3:Int)=k;{subst h3;simp};{by_cases h2:(2:Int)=k;{subst h2;simp};{by_cases h1:(1:Int)=k;{subst h1;simp};{rw[if_neg h3,if_neg h2,if_neg h1,if_neg (KX h1),if_neg (KX h2),if_neg (KX h3)];rfl}}}
def Aq3 (h:U):AP prog 96 #[] [] h λv Es h'=>∃bm,v=.map (some bm)∧Es=[BG Dq Rm bm VI]:=by
 refine Cx func96 λ_ _=>?_;have hK:=St;(repeat'(first|refine Aa ?_|(refine Ac ?_;first|(apply Nn Dq Rm;intro bm)|(apply XG (ek:=Dq) (ev:=Rm) (b:=bm) hK (u:=some 156);(iterate 6 exact F);exact Bp)|(apply XG (ek:=Dq) (ev:=Rm) (b:=bm) hK (u:=some 158);(iterate 6 exact F);exact Bp)|(apply XG (ek:=Dq) (ev:=Rm) (b:=bm) hK (u:=some 159);(iterate 6 exact F);exact Bp))|fail))
 all_goals first
  |(exact DD rfl rfl rfl NY ⟨_,rfl,rfl⟩)
def Acq {L:Ax}{g:AL}(h:(CJ L g).kind≠2):Mf L g=none:=by unfold Mf;rw[if_neg h]
def Ad4 {L:Ax}{g:AL}{x:Dn}{o:AC×AC}(hx:CJ L g=x)(a:Hv L g=o)(h:x.kind=2):Mf L g=some (Ve g x o):=by unfold Mf;rw[hx,if_pos h,a]
def Alf (h:U)(hG:DG h)(A:At)(n c:Nat)(l:AN)(hx:Cz h A n l)(af:n≤65536)(g:AL):Az prog 97 #[.slice A n c,Di g] h (λu _=>u=Zg (Mf (Ae l) g)):=by
 refine BB func97 λ_ _=>?_;have m:=JC hx;have hsc:=λh' (d:V h h')=>gL h' (hG.le d) A n c l (hx.le d) g;have hof:=λh' (d:V h h')=>Axu h' (hG.le d) A n c l (hx.le d) af g;have r:=Acq (L:=Ae l) (g:=g);have k:=λx o=>Ad4 (L:=Ae l) (g:=g) (x:=x) (o:=o);have j:=λq=>gN m (g:=g) q;have v:=vJ m g;rw[show EM l=Ae l from rfl]at hsc;generalize CJ (Ae l) g=x at *;generalize Hv (Ae l) g=o at *;clear hx m;by_cases p:x.kind=2
 case' neg=>
  rw[r p]
  clear hof k j v
  repeat'(first|refine Ba ?_|(apply AE;(iterate 3 exact F);apply Ci (e:=36);exact F;intro b3)|(apply AE;(iterate 3 exact F);apply Bo (e:=172);exact F;intro b6)|refine BF ?_|(refine Aj ?_;intro b)|(refine Ac ?_;first|(refine Ua ?_;rintro w2 h2 t ⟨s,rfl,hs1,hs2⟩))|(refine Y ?_ ?_<;>intro hc<;>try omega)|fail)
  all_goals first
   |omega
   |(exact Dl rfl rfl rfl Bc rfl rfl rfl rfl)
   |(exact EG rfl rfl rfl rfl rfl)
 rw[k x o rfl rfl p];obtain⟨⟨_,_,_,_,_,_,_,ag,ah,_⟩,_,_⟩:=j p;have ai:=ag.1;have aj:=ah.1;obtain⟨f,i⟩:=o;unfold XB at hof;dsimp only at hof v;unfold Ve;dsimp only;by_cases a:f=[]∧i=[]
 ·rw[if_pos a];obtain⟨rfl,rfl⟩:=a;clear r k j;(repeat'(first|refine Ba ?_|(apply AE;(iterate 3 exact F);apply Ci (e:=36);exact F;intro b3)|(apply AE;(iterate 3 exact F);apply Bo (e:=172);exact F;intro b6)|(apply AE;(iterate 3 exact F);apply Bo (e:=57);exact F;intro b7)|refine BF ?_|(refine Aj ?_;intro b)|(refine Ac ?_;first|(refine Ua ?_;rintro w2 h2 t ⟨s,rfl,hs1,hs2⟩;(have ak:=hs1.hc.len);(have al:=hs1.ac.len))|(refine rI ?_;rintro v1 e1 ae ⟨aa,d1,ab,d2,rfl,ac,ad⟩))|(apply AU (n:=8) 20 [0,1,2,3,4,5,6,7,8,9,10,11,12,14,15,99,13,16,99,17,99,18,99,19];kernel_rfl)|(refine Bn ?_;first|(apply Aw;exact F;exact Ab func162;(first|exact oK _ _ _ _ x.sh.hc (hs1.hc.le Ag) J|exact oK _ _ _ _ x.sh.ac (hs1.ac.le Ag) J);refine⟨V.refl _,Ak,?_⟩))|(refine Y ?_ ?_<;>intro hc<;>try omega)|fail))
  all_goals first
   |omega
   |(exfalso;simp at hc;done)
   |(exact Dl rfl rfl rfl Bc rfl rfl rfl rfl)
   |(exact EG rfl rfl rfl rfl rfl)
 ·rw[if_neg a];(have hp:0<f.length+i.length:=by{refine JD λw=>a ⟨Fu J,Fu J⟩});(have y:decide (f≠[])=FR 0 (f.length:Int):=by cases f<;>simp[FR]);(have z:decide (i≠[])=FR 0 (i.length:Int):=by cases i<;>simp[FR]);rw[y,z];clear r k j a y z;(repeat'(first|refine Ba ?_|(apply AE;(iterate 3 exact F);apply Ci (e:=36);exact F;intro b3)|(apply AE;(iterate 3 exact F);apply Bo (e:=172);exact F;intro b6)|refine BF ?_|(refine Aj ?_;intro b)|(refine Ac ?_;first|(refine Ua ?_;rintro w2 h2 t ⟨s,rfl,hs1,hs2⟩)|(refine rI ?_;rintro v1 e1 ae ⟨aa,d1,ab,d2,rfl,ac,ad⟩)|(apply Aw;exact F;exact Ab func157;exact yR _ g x.day _ _))|(refine Y ?_ ?_<;>intro hc<;>try omega)|fail))
  all_goals first
   |omega
   |(exfalso;simp at hc;done)
   |(exact Dl rfl rfl rfl Bc rfl rfl rfl rfl)
   |(exact EG rfl rfl rfl rfl rfl)
def jR {L:Ax}{g:AL}(h:¬DL g):FA L g=none:=by unfold FA;rw[if_neg h]
def Awy (h:U)(hG:DG h)(A:At)(n c:Nat)(l:AN)(hx:Cz h A n l)(ab:n≤65536)(g:AL):Az prog 51 #[.slice A n c,Di g] h (λu _=>u=Zg (FA (Ae l) g)):=by
 refine BB func51 λ_ _=>?_;have w:=JC hx;have hgm:=λh'=>Va h' g;have hog:=λh' (i:V h h')=>Aww h' (hG.le i) A n c l (hx.le i) g;have p:=λh' (i:V h h')=>Alf h' (hG.le i) A n c l (hx.le i) ab g;have k:=XQ (C:=BR (Ae l)) (Wy w) (g:=g);by_cases hg:DL g
 ·simp only[if_pos hg]at hgm;have s:=λr d q=>zU (L:=Ae l) hg (r:=r) (d:=d) q;have m:=λq=>Acm (L:=Ae l) hg q;generalize Fx (BR (Ae l)) g=ac at *;obtain⟨r,d,ok⟩:=ac;dsimp only at hog m k;clear hx w;cases ok
  ·rw[m rfl];generalize Mf (Ae l) g=ae at *;clear s m k;(repeat'(first|refine AH ?_|(refine Aj ?_;intro b)|(refine Ac ?_;first|(refine OX ?_)|(refine Xu ?_;rintro v1 h1 o rfl)|(apply AR;exact F;exact Ab func97;exact p _ Ag;rintro af h2 ad rfl))|(refine Y ?_ ?_<;>intro hc<;>try omega)|fail))
   all_goals first
    |omega
    |(exfalso;simp at hc;done)
    |(exact Dl rfl rfl rfl Bc rfl rfl rfl rfl)
    |(exact EG rfl rfl rfl rfl rfl)
  ·rw[s r d rfl];obtain⟨f,_,_,_,_,y,_,z⟩:=k rfl;(have a:r.kind=1∨r.kind=2∨r.kind=3:=by{have:=congrArg (·.1) z;dsimp only at this;rw[this];exact y.2});have hlk:=Aq4 r.kind;clear s m k p y z;unfold ZB at hlk;unfold SG;rcases a with a|a|a
   ·rw[if_pos a]at hlk ⊢;(repeat'(first|refine Ba ?_|(apply AE;(iterate 3 exact F);apply Ci (e:=36);exact F;intro b3)|(apply AE;(iterate 3 exact F);apply Bo (e:=38);exact F;intro v)|(apply AE;(iterate 3 exact F);apply Bo (e:=61);exact F;intro b6)|refine BF ?_|(refine Ac ?_;first|(refine OX ?_)|(refine Xu ?_;rintro v1 h1 o rfl)|(apply Hb;exact F;exact F;exact Ab func156;exact Aq7 _ g r d))|(apply AU (n:=5) 5 [1,2,99,0,99,3,4];kernel_rfl)|(apply Be;exact Bd;exact cH;exact AX)|(refine Bn ?_;first|(refine bP ?_;rintro aa t x j ⟨bm,rfl,rfl⟩;refine⟨j,Ak,?_⟩))|(refine Y ?_ ?_<;>intro hc<;>try omega)|fail))
    all_goals first
     |omega
     |(exfalso;simp at hc;done)
     |(exact Dl rfl rfl rfl Bc rfl rfl rfl rfl)
   ·rw[if_neg J,if_pos a]at hlk;rw[if_neg J,if_neg J];(repeat'(first|refine Ba ?_|(apply AE;(iterate 3 exact F);apply Ci (e:=36);exact F;intro b3)|(apply AE;(iterate 3 exact F);apply Bo (e:=38);exact F;intro v)|(apply AE;(iterate 3 exact F);apply Bo (e:=61);exact F;intro b6)|refine BF ?_|(refine Ac ?_;first|(refine OX ?_)|(refine Xu ?_;rintro v1 h1 o rfl)|(apply Hb;exact F;exact F;exact Ab func158;exact Aq6 _ g r d))|(apply AU (n:=5) 5 [1,2,99,0,99,3,4];kernel_rfl)|(apply Be;exact Bd;exact cH;exact AX)|(refine Bn ?_;first|(refine bP ?_;rintro aa t x j ⟨bm,rfl,rfl⟩;refine⟨j,Ak,?_⟩))|(refine Y ?_ ?_<;>intro hc<;>try omega)|fail))
    all_goals first
     |omega
     |(exfalso;simp at hc;done)
     |(exact Dl rfl rfl rfl Bc rfl rfl rfl rfl)
   ·rw[if_neg J,if_neg J,if_pos a]at hlk;rw[if_neg J,if_pos a];(repeat'(first|refine Ba ?_|(apply AE;(iterate 3 exact F);apply Ci (e:=36);exact F;intro b3)|(apply AE;(iterate 3 exact F);apply Bo (e:=38);exact F;intro v)|(apply AE;(iterate 3 exact F);apply Bo (e:=61);exact F;intro b6)|refine BF ?_|(refine Ac ?_;first|(refine OX ?_)|(refine Xu ?_;rintro v1 h1 o rfl)|(apply Hb;exact F;exact F;exact Ab func159;exact Aq5 _ g r d))|(apply AU (n:=5) 5 [1,2,99,0,99,3,4];kernel_rfl)|(apply Be;exact Bd;exact cH;exact AX)|(refine Bn ?_;first|(refine bP ?_;rintro aa t x j ⟨bm,rfl,rfl⟩;refine⟨j,Ak,?_⟩))|(refine Y ?_ ?_<;>intro hc<;>try omega)|fail))
    all_goals first
     |omega
     |(exfalso;simp at hc;done)
     |(exact Dl rfl rfl rfl Bc rfl rfl rfl rfl)
 ·simp only[if_neg hg]at hgm;rw[jR hg];clear hog p k;(repeat'(first|refine AH ?_|(refine Aj ?_;intro b)|(refine Ac ?_;first|(refine OX ?_))|(refine Y ?_ ?_<;>intro hc<;>try omega)|fail))
  all_goals first
   |omega
   |(exact Dl rfl rfl rfl Bc rfl rfl rfl rfl)
   |(exact EG rfl rfl rfl rfl rfl)
attribute [local irreducible] FA
def Abf (x:AL) (u:Ao) (h:U):Prop:=u=[Di x]
def TA (h:U) (b d a:Nat) (A:At) (n c:Nat) (s e:Int):Prop:=Au h (Av b) [.slice A n c]∧Au h (Av d) [O s]∧Au h (Av a) [O e]
def TA.le {h h':U}{d e b:Nat}{A:At}{n c:Nat}{s f:Int}(r:TA h d e b A n c s f)(a:V h h'):TA h' d e b A n c s f:=⟨r.1.le a,r.2.1.le a,r.2.2.le a⟩
def Axy (h:U)(A:At)(n c:Nat)(s a:Int):Az prog 50 #[.slice A n c,O s,O a] h (λu h'=>∃e f d,u=.func (.func 94) #[] #[AD e,AD f,AD d]∧TA h' e f d A n c s a):=by refine BB func50 λ_ _=>?_;(repeat'(first|refine Aa ?_|(refine Aj ?_;intro b)|fail));refine Ii (cs:=[.slice A n c]) Bh ?_;intro h1 m i;refine Ii (cs:=[O s]) Bh ?_;intro h2 l j;refine Ii (cs:=[O a]) Bh ?_;intro h3 g k;(first|(apply BL;(iterate 3 exact F)));exact⟨_,_,_,rfl,i.le (l.trans g),j.le g,k⟩
def Ams (h:U)(A:At)(n c:Nat)(l:AN)(hx:Cz h A n l)(s a:Int)(am ah ag:Nat)(f:TA h am ah ag A n c s a):HB prog 94 [AD am,AD ah,AD ag] Abf (Fh (Ae l) s a) h:=by
 intro lid I Ix az a0 ax Es h1 aq h0;refine Cx func94 λ_ _=>?_;have ay:=hx.row.len;have hn:=hx.small;obtain⟨hb1,au,av⟩:=f.le aq;have hK:=Yr;(repeat'(first|refine Aa ?_|(refine Z (by apply BA;exact F;exact BH rfl hb1 rfl) ?_)|(refine Ac ?_;first|(apply Nn Di Value.bool;intro bm))|fail));refine Pd (X:=Nat×Am×U) (λx=>x.1≤n∧V h1 x.2.2∧I (Fh (Ae (l.take x.1)) s a) x.2.1 x.2.2) (λx=>n-x.1) (λx=>[(12,O x.1),(11,O n),(10,.slice A n c),(5,.map (some bm)),(0,.func (.yield lid) #[] #[]),(2,AD ah),(3,AD ag)]) (λx=>BG Di Value.bool bm (LQ (Fh (Ae (l.take x.1)) s a))::x.2.1) (λx=>x.2.2) (0,Es,h1) ⟨J,V.refl _,h0⟩ Af rfl rfl ?_;rintro⟨k,ad,af⟩ ⟨aw,hlk,z⟩ al;dsimp only at aw hlk z al ⊢;have ap:V h af:=aq.trans hlk;have hd2:=au.le hlk;have hd3:=av.le hlk;by_cases hkn2:k<n
 ·have a1:=hx.row.addrD hkn2;have c1:Au af ((addrD A).add (k*F'.size)) (BM (l.getD k AS)):=(hx.row.cellsD AS hkn2).le ap;have ao:=BY AS (xs:=l) rfl (show k<l.length by omega);have t:=Amu (Ae (l.take (k+1))) (Ae (l.drop (k+1))) s a;(have an:Ae (l.take (k+1))++Ae (l.drop (k+1))=Ae l:=by{unfold Ae;rw[←DI,GW]});rw[an]at t;(have ai:Ae (l.take (k+1))=Ae (l.take k)++[(l.getD k AS).2]:=by rw[ao,Nh]);rw[ai,WB]at t;have d:=λar h2=>al (k+1,ar,h2);dsimp only at d;rw[ai,WB]at d;clear an ai ao al;generalize l.getD k AS=p at *;have ak:=λpre post (e:Fh (Ae l) s a=pre++DJ p.2::post)=>ax pre (DJ p.2) post [Di (DJ p.2)] ad af e ap rfl;have hlk2:=Aao (DJ p.2) (Fh (Ae (l.take k)) s a);have i:=λw=>uZ (g:=DJ p.2) (o:=Fh (Ae (l.take k)) s a) w;generalize Fh (Ae (l.take k)) s a=o at *;unfold Oz at t d;by_cases hy:(DJ p.2).s=s∧(DJ p.2).c=a∧DJ p.2∉o
  ·rw[if_pos hy]at t d;obtain⟨post,q⟩:=t;rw[Ck]at q;have ac:=ak o post q z;rw[decide_eq_false hy.2.2]at hlk2;have i:=i hy.2.2;have aa:=hy.1;have ab:=hy.2.1;clear ak hy;unfold DJ at ac d hlk2 i aa ab q;by_cases y:p.2.kind=4
   ·simp only[if_pos y]at ac d hlk2 i aa ab q;(repeat'(first|refine AH ?_|refine Z Bf ?_|refine Z BN ?_|refine Z PZ ?_|refine Z RR ?_|refine Z qX ?_|(refine Aj ?_;intro b)|(refine Ac ?_;first|(apply Nq (ek:=Di) (ev:=Value.bool) (b:=bm) (m:=LQ o) (key:=p.2.ru.g) (u:=true) hK;(iterate 6 exact F);exact Bp)|(refine Nj (JW (l₁:=[_,_,_])) ?_;apply QR (Es0:=ad) (Fs:=[_,_,_]);(iterate 3 exact F);exact ac;rintro v j h2 aj (⟨rfl,r⟩|⟨rfl,r⟩);all_goals skip))|(refine Y ?_ ?_<;>intro hc<;>try omega)|refine AF ?_|(refine AG ?_ ?_<;>intro hc<;>try omega)|fail))
    all_goals first
     |omega
     |(exfalso;simp at hc;done)
     |(
        have h3:=d j h2 ⟨J,hlk.trans aj,r⟩ J
        rw[←i]at h3
        refine Lc (JW (l₁:=j) (l₂:=[_,_,_])) (HM .here (HM .here ?_))
        exact Jz Af h3)
     |(
        refine Me (rs:=[]) (vs:=[]) (Fs:=j) rfl rfl trivial (Pm _ _) (.inr ⟨_,post,?_,r⟩)
        rw[Ck];exact q)
   ·simp only[if_neg y]at ac d hlk2 i aa ab q;(repeat'(first|refine AH ?_|refine Z Bf ?_|refine Z BN ?_|refine Z PZ ?_|refine Z RR ?_|refine Z qW ?_|(refine Aj ?_;intro b)|(refine Ac ?_;first|(apply Nq (ek:=Di) (ev:=Value.bool) (b:=bm) (m:=LQ o) (key:=p.2.sh.g) (u:=true) hK;(iterate 6 exact F);exact Bp)|(refine Nj (JW (l₁:=[_,_,_])) ?_;apply QR (Es0:=ad) (Fs:=[_,_,_]);(iterate 3 exact F);exact ac;rintro v j h2 aj (⟨rfl,r⟩|⟨rfl,r⟩);all_goals skip))|(refine Y ?_ ?_<;>intro hc<;>try omega)|refine AF ?_|(refine AG ?_ ?_<;>intro hc<;>try omega)|fail))
    all_goals first
     |omega
     |(exfalso;simp at hc;done)
     |(
        have h3:=d j h2 ⟨J,hlk.trans aj,r⟩ J
        rw[←i]at h3
        refine Lc (JW (l₁:=j) (l₂:=[_,_,_])) (HM .here (HM .here ?_))
        exact Jz Af h3)
     |(
        refine Me (rs:=[]) (vs:=[]) (Fs:=j) rfl rfl trivial (Pm _ _) (.inr ⟨_,post,?_,r⟩)
        rw[Ck];exact q)
  ·rw[if_neg hy]at d;have ae:=d ad af ⟨J,hlk,z⟩ J;clear ak t i d;unfold DJ at hlk2 hy;by_cases y:p.2.kind=4
   ·simp only[if_pos y]at hlk2 hy;by_cases f:p.2.ru.g.s=s∧p.2.ru.g.c=a
    ·rw[decide_eq_true (JD λw=>hy ⟨f.1,f.2,w⟩)]at hlk2;obtain⟨aa,ab⟩:=f;(repeat'(first|refine AH ?_|refine Z Bf ?_|refine Z BN ?_|refine Z PZ ?_|refine Z RR ?_|refine Z qX ?_|(refine Aj ?_;intro b)|(refine Y ?_ ?_<;>intro hc<;>try omega)|refine AF ?_|(refine AG ?_ ?_<;>intro hc<;>try omega)|fail))
     all_goals first
      |omega
      |(exfalso;simp at hc;done)
      |(
         refine HM .here (HM .here ?_)
         exact Jz Af ae)
    ·(repeat'(first|refine AH ?_|refine Z Bf ?_|refine Z BN ?_|refine Z PZ ?_|refine Z RR ?_|(refine Aj ?_;intro b)|(refine Y ?_ ?_<;>intro hc<;>try omega)|refine AF ?_|(refine AG ?_ ?_<;>intro hc<;>try omega)|fail))
     all_goals first
      |omega
      |(exfalso;simp at hc;done)
      |(
         refine HM .here (HM .here ?_)
         exact Jz Af ae)
   ·simp only[if_neg y]at hlk2 hy;by_cases f:p.2.sh.g.s=s∧p.2.sh.g.c=a
    ·rw[decide_eq_true (JD λw=>hy ⟨f.1,f.2,w⟩)]at hlk2;obtain⟨aa,ab⟩:=f;(repeat'(first|refine AH ?_|refine Z Bf ?_|refine Z BN ?_|refine Z PZ ?_|refine Z RR ?_|refine Z qW ?_|(refine Aj ?_;intro b)|(refine Y ?_ ?_<;>intro hc<;>try omega)|refine AF ?_|(refine AG ?_ ?_<;>intro hc<;>try omega)|fail))
     all_goals first
      |omega
      |(exfalso;simp at hc;done)
      |(
         refine HM .here (HM .here ?_)
         exact Jz Af ae)
    ·(repeat'(first|refine AH ?_|refine Z Bf ?_|refine Z BN ?_|refine Z PZ ?_|refine Z RR ?_|(refine Aj ?_;intro b)|(refine Y ?_ ?_<;>intro hc<;>try omega)|refine AF ?_|(refine AG ?_ ?_<;>intro hc<;>try omega)|fail))
     all_goals first
      |omega
      |(exfalso;simp at hc;done)
      |(
         refine HM .here (HM .here ?_)
         exact Jz Af ae)
 {rw[By J]at z;(repeat'(first|refine Aa ?_|(refine Y ?_ ?_<;>intro hc<;>try omega)|fail));refine HM .here ?_;exact FK (rs:=[]) (vs:=[]) rfl rfl trivial (.inl z)}
def LS (a b:BC):Int:=HF [BJ a.day b.day,BJ a.g.h b.g.h,BJ a.g.a b.g.a]
def Asj {a b:BC}:LS a b<0↔DF a b:=by unfold LS DF;simp only[Ts,show HF []=0 from rfl];unfold BJ;(repeat' split)<;>omega
def Vv (a b:BC):Go.Proofs.ltOf LS a b=decide (DF a b):=by unfold Go.Proofs.ltOf;rw[decide_eq_decide];exact Asj
def Aib:Go.Sort.SWO (Go.Proofs.ltOf LS) where
 irrefl x:=by rw[Vv];exact decide_eq_false (DF.irrefl x)
 trans x y z h1 h2:=by rw[Vv,decide_eq_true_eq]at *;exact DF.trans _ _ _ h1 h2
 ntrans x y z h1 h2:=by rw[Vv,decide_eq_false_iff_not]at *;unfold DF at *;omega
def Aug (h:U)(x y:BC):Az prog 53 #[GE x,GE y] h (λu _=>u=O (LS x y)):=by refine BB func53 λ_ _=>?_;unfold LS;generalize hor:HF [BJ x.day y.day,BJ x.g.h y.g.h,BJ x.g.a y.g.a]=o at *;(repeat'(first|refine Aa ?_|(refine Aj ?_;intro b)|(apply AU (n:=1) 22 [0,1,2,3,5,6,7,8,9,10,12,13,14,15,16,17,99,4,11,18,19,20,99,21];kernel_rfl)|(refine Bn ?_;first|(apply Aw;exact F;exact Ab func55;exact Ru _ _ _;refine⟨V.refl _,Ak,?_⟩)|(apply HQ (e:=3) (cs:=[BJ x.day y.day,BJ x.g.h y.g.h,BJ x.g.a y.g.a].map λi=>O i);(iterate 3 exact F);exact Cf _ _;(iterate 4 exact F);intro b1 h1 c hcs1;refine⟨c,Ak,?_⟩)|(apply Aw;exact F;exact Ab func54;(have a:=Vq _ _ 3 3 [BJ x.day y.day,BJ x.g.h y.g.h,BJ x.g.a y.g.a] (Jc hcs1) J;rw[hor]at a;exact a);refine⟨V.refl _,Ak,?_⟩))|(apply BL;(iterate 3 exact F))));all_goals rfl
def Aip (h:U)(v:Value)(xs:CX)(n:Nat)(hn:n≤1000000)(hx:xs.length=n) :
  AP prog 52 #[v,.func (.func 53) #[] #[]] [Ar 38 13 v n (xs.flatMap Cc)] h λu Es _=>u=.tuple #[]∧∃ys:CX,ys.Perm xs∧(ys.Pairwise λx y=>¬DF y x)∧Es=[Ar 38 13 v n (ys.flatMap Cc)]:=by
 have m:∀(p:At) (c:Nat) (w:World),Calls prog 52 #[.slice p 0 c,.func (.func 53) #[] #[]] w λe i=>e=.returned (.tuple #[])∧i=w:=λp c w=>Go.Proofs.AnyF.slices_SortFunc_none Go.Proofs.Tryz.sortResults p c _ w
 have k:∀(blk off c:Nat) (d:Array BC) (w:World),Go.Proofs.CmpLays prog 53 #[] Cc 13 LS blk off d.size w→Go.Sort.HoldsK Cc 13 w blk off d→blk<w.heap.size→d.size<4611686018427387904→
  Calls prog 52 #[.slice (some ⟨blk,off,none⟩) d.size c,.func (.func 53) #[] #[]] w λe i=>e=.returned (.tuple #[])∧∃g n os,Go.Sort.PermIn 0 d.size d g∧Go.Sort.SortedIn (Go.Proofs.ltOf LS) 0 d.size g∧i=Go.Proofs.sortWorldK Cc 13 w blk off n g os:=λblk off c d w hc l o hs=>
  Go.Proofs.AnyQ.slices_SortFunc Go.Proofs.Tryz.sortResults 13 (λw=>It.run_agg (n:=38) rfl w) (λw=>It.run_size (n:=38) rfl w) Cc (λ_=>rfl) (λa=>En rfl) LS Aib 53 #[] blk off c d w (Go.Proofs.enters_of Go.Proofs.Tryz.func53 GH rfl) hc l o hs
 have q:∀x y:BC,Az prog 53 (#[GE x,GE y]++#[]) h λu _=>u=O (LS x y):=λx y=>by
  rw[YV]
  exact Aug h x y
 have key:=YK (α:=BC) (P:=prog) (f:=52) (gf:=53) (cb:=#[]) Cc 13 (λ_=>rfl) BO LS h k m q 38 v xs n J hx
 refine key.mono ?_
 rintro u Es h' r ⟨rfl,ys,hp,hso,rfl⟩
 refine⟨rfl,ys,hp,hso.imp λ{a b} j=>?_,rfl⟩
 rw[Vv,decide_eq_false_iff_not]at j
 exact j
def A1d (h:U)(hG:DG h)(A:At)(n c:Nat)(l:AN)(hx:Cz h A n l)(ah:n≤65536)(s d:Int):Az prog 18 #[.slice A n c,O s,O d] h (λu h'=>∃A' i,u=.slice A' (Ij (Ae l) s d).length i∧(Ij (Ae l) s d).length≤i∧Ai Cc 13 h' A' (Ij (Ae l) s d).length (Ij (Ae l) s d)):=by
 refine BB func18 λ_ _=>?_;have w:=JC hx;have hm:=aA (Ae l) s d;have ag:=Wd w (s:=s) (c:=d) (gs:=Fh (Ae l) s d) (λg hg=>⟨((hm.2 g).1 hg).1,((hm.2 g).1 hg).2.1⟩) (λf hf _ _ a b=>(hm.2 _).2 ⟨a,b,f,hf,rfl⟩);have ai:=aD w hm.1;(have aw:(Fh (Ae l) s d).length≤n:=by{have h1:=Aan (Ae l) s d;have h2:=hx.row.len;unfold Ae at h1;rw[Dc]at h1;unfold Ae;omega});have ab:=λgs=>wM (Ae l) gs;(repeat'(first|refine Ba ?_|(apply AE;(iterate 3 exact F);apply Ci (e:=22);exact F;intro b3)|(apply AE;(iterate 3 exact F);apply Bo (e:=40);exact F;intro b6)|refine Eo ?_|(refine Ac ?_;first|(apply AR;exact F;exact Ab func50;exact Axy _ A n c s d;rintro vr h1 o ⟨t,v,q,rfl,hr⟩))|fail));refine FN 38 13 ?_;refine EF (Es':=[Ap b6 40 [.slice none 0 0],Ar 38 13 (.slice none 0 0) 0 [],Ap b3 22 [.slice A n c]]) Ad ?_;refine QY (R:=Abf) (xs:=Fh (Ae l) s d) (gf:=94) (lb:=[AD t,AD v,AD q]) rfl rfl (Ab func94) (Ams _ A n c l (hx.le o) s d t v q hr) TK rfl (λpre Es h2=>∃(A':At) (i:Nat),Es=[Ap b6 40 [.slice A' (Hn (Ae l) pre).length i],Ar 38 13 (.slice A' (Hn (Ae l) pre).length i) (Hn (Ae l) pre).length ((Hn (Ae l) pre).flatMap Cc),Ap b3 22 [.slice A n c]]) (λ_ _ _ _=>False) (λpre Es h2 h3 k e=>e) (λ_ _ _ _ _ _ h=>h.elim) ⟨none,0,rfl⟩ ?_ ?_ (λ_ _ _ _ _ _ _ _ h=>h.elim)
 ·rintro lid r0 ay ao pre x post u ad h2 ak rfl ⟨A',i,rfl⟩ m ac;(have ax:pre.length+1≤(Fh (Ae l) s d).length:=by rw[ak];simp);have aj:=ab pre;have hof:=λh' (k:V h2 h')=>Awy h' (hG.le (o.trans (m.trans k))) A n c l (hx.le (o.trans (m.trans k))) ah x;have hsn:=Aaf (Ae l) pre x;cases aa:FA (Ae l) x with
  |none=>
   rw[aa]at hsn hof;dsimp only at hsn;(repeat'(first|refine Ba ?_|(apply Ng;exact F;exact Bh;exact ac)|(apply AE;(iterate 3 exact F);apply Bo (e:=36);exact F;intro b7)|(apply AE;(iterate 3 exact F);apply Bo (e:=38);exact F;intro ae)|refine BF ?_|(refine Ac ?_;first|(refine qB ?_;rintro al h3 y rfl))|(refine Y ?_ ?_<;>intro hc<;>try omega)|fail));(all_goals(try(exfalso;simp at hc;done)))
   all_goals
    refine EF (Es':=[FI lid {r0 with state:=.busy},Ap b6 40 [.slice A' (Hn (Ae l) pre).length i],Ar 38 13 (.slice A' (Hn (Ae l) pre).length i) (Hn (Ae l) pre).length ((Hn (Ae l) pre).flatMap Cc),Ap b3 22 [.slice A n c]]) Ad (Oa (r0:=r0) rfl .here ⟨A',i,?_⟩)
    rw[hsn]
  |some r=>
   rw[aa]at hsn hof;dsimp only at hsn;generalize Hn (Ae l) pre=P at *;(repeat'(first|refine Ba ?_|(apply Ng;exact F;exact Bh;exact ac)|(apply AE;(iterate 3 exact F);apply Bo (e:=36);exact F;intro b7)|(apply AE;(iterate 3 exact F);apply Bo (e:=38);exact F;intro ae)|refine BF ?_|(refine Ac ?_;first|(refine qB ?_;rintro al h3 y rfl)|(refine cT ?_;intro ap aq au hs5)|(apply CE (enc:=Cc) (xs:=P) (ys:=[r]);(iterate 7 exact F);exact hs5;exact Gd;exact Lg;intro v1;exact Bp;omega;exact F;intro A3 c3))|(refine Y ?_ ?_<;>intro hc<;>try omega)|fail));(all_goals(try(exfalso;simp at hc;done)))
   all_goals
    refine EF (Es':=[FI lid {r0 with state:=.busy},Ap b6 40 [.slice A3 (P.length+1) c3],Ar 38 13 (.slice A3 (P.length+1) c3) (P.length+1) ((P++[r]).flatMap Cc),Ap b3 22 [.slice A n c]]) Ad (Oa (r0:=r0) rfl .here ⟨A3,c3,?_⟩)
    rw[hsn,Bt];rfl
 ·rintro D h2 ad m ⟨A',i,rfl⟩;have aj:=ab (Fh (Ae l) s d);generalize Hn (Ae l) (Fh (Ae l) s d)=P at *;(repeat'(first|refine AH ?_|(refine Ac ?_;first|(apply Ed;exact F;exact Ab func52;exact Aip _ _ P P.length J rfl;exact Ad;rintro v3 an h3 y ⟨rfl,ys,hp,hso,rfl⟩))|fail))
  all_goals
   have j:=dI (aF ag ai hp hso)
   have p:ys.length=P.length:=hp.length_eq
   refine EE (enc:=Cc) (e:=38) (sz:=13) (n:=P.length) (xs:=ys) Gd p Bh ?_
   intro am c7 ar av af z hs7
   cases af
   rw[←p]at z hs7
   refine Oq (Ob rfl Bh (NQ (rs:=[.cell 6 40]) (vs:=[.slice A' P.length i]) rfl rfl ⟨⟨_,rfl,JS rfl Bc rfl⟩,trivial⟩ (Hi _) ⟨rfl,A',i,?_,?_,?_⟩))
   · rw[←j,p];rfl
   · rw[←j];exact z
   · rw[←j];exact hs7
end Go.Hw
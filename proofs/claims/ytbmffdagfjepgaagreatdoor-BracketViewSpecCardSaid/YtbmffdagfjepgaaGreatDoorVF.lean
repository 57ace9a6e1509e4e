import Derived.Test.YtbmffdagfjepgaaGreatDoorRB
set_option linter.all false
set_option maxRecDepth 100000
set_option maxHeartbeats 8000000
namespace Go.Hw
open Go
attribute [local irreducible] AI Bz BV Aq AP Az Au CH Ap Ar BG Cm BP Dg El Ek
open Go.Proofs.Tryz
def Nh (l:AN)(p:AA×Al):Ae (l++[p])=Ae l++[p.2]:=by unfold Ae;rw[DI];rfl
def zF (h:U)(A:At)(n c:Nat)(l:AN)(hx:Cz h A n l)(a:Int):Aq prog 259 #[.slice A n c,O a] h (O (Dj (Ae l) a)):=by
 refine AK func259 λ_ _=>?_;have i:=hx.row.len;have hn:=hx.small;(repeat'(first|refine Aa ?_|fail));refine Bg (X:=Nat) (λk=>k≤n) (λk=>n-k) (λk=>[(6,O k),(5,O (Dj (Ae (l.take k)) a)),(0,.slice A n c),(1,O a)]) (λ_=>[]) (λ_=>h) 0 J Af Ad rfl ?_;rintro k j e;by_cases d:k<n
 ·have a1:=hx.row.addrD d;have cc:Au h ((addrD A).add (k*F'.size)) (BM (l.getD k AS)):=hx.row.cellsD AS d;have f:=BY AS i d;generalize l.getD k AS=p at *;(have hsn:Dj (Ae (l.take (k+1))) a=if CI a p.2 then max (Dj (Ae (l.take k)) a) p.2.ru.inst else Dj (Ae (l.take k)) a:=by rw[f,Nh,Uj]);generalize Dj (Ae (l.take k)) a=q at *;have h3:=e (k+1) J J;by_cases b:CI a p.2
  ·rw[if_pos b]at hsn;obtain⟨m,o⟩:=b;rw[hsn]at h3;(repeat'(first|refine Aa ?_|refine Z Bf ?_|refine Z Cb ?_|(refine Y ?_ ?_<;>intro hc<;>try omega)|refine AF ?_|(refine AG ?_ ?_<;>intro hc<;>try omega)|fail))
   all_goals first
    |omega
    |contradiction
    |(refine AB Af Ad h3)
  ·rw[if_neg b]at hsn;have g:¬(p.2.kind=4∧p.2.ru.case=a):=b;rw[hsn]at h3;(repeat'(first|refine Aa ?_|refine Z Bf ?_|refine Z Cb ?_|(refine Y ?_ ?_<;>intro hc<;>try omega)|refine AF ?_|(refine AG ?_ ?_<;>intro hc<;>try omega)|fail))
   all_goals first
    |omega
    |(exfalso;exact g ⟨Cn,Cn⟩)
    |(refine AB Af Ad h3)
 {rw[By J];clear e;(repeat'(first|refine Aa ?_|(refine Y ?_ ?_<;>intro hc<;>try omega)|refine Bm ?_|fail));all_goals rfl}
def Avp (h:U)(A:At)(n c:Nat)(l:AN)(hx:Cz h A n l)(a i:Int):Aq prog 258 #[.slice A n c,O a,O i] h (O (FO (λp:AA×Al=>decide (CI a p.2∧p.2.ru.inst=i)) l 0)):=by
 refine AK func258 λ_ _=>?_;have q:=hx.row.len;have hn:=hx.small;obtain⟨P,g⟩:∃P,P=λp:AA×Al=>decide (CI a p.2∧p.2.ru.inst=i):=⟨_,rfl⟩;rw[←g];(repeat'(first|refine Aa ?_|fail));refine Bg (X:=Nat) (λk=>k≤n∧FO P (l.drop k) k=FO P l 0) (λk=>n-k) (λk=>[(7,O k),(0,.slice A n c),(1,O a),(2,O i)]) (λ_=>[]) (λ_=>h) 0 ⟨J,rfl⟩ Af Ad rfl ?_;rintro k ⟨r,b⟩ o;by_cases f:k<n
 ·have a1:=hx.row.addrD f;have cc:Au h ((addrD A).add (k*F'.size)) (BM (l.getD k AS)):=hx.row.cellsD AS f;have m:=ZX AS q f;generalize l.getD k AS=p at *;(have j:P p=decide (CI a p.2∧p.2.ru.inst=i):=by rw[g]);by_cases d:CI a p.2∧p.2.ru.inst=i
  ·(have e:FO P l 0=k:=by rw[←b,m,FO,j,decide_eq_true d];rfl);rw[e];obtain⟨⟨s,t⟩,u⟩:=d;(repeat'(first|refine Aa ?_|refine Z Bf ?_|refine Z Cb ?_|(refine Y ?_ ?_<;>intro hc<;>try omega)|refine AF ?_|(refine AG ?_ ?_<;>intro hc<;>try omega)|fail))
   all_goals first
    |omega
    |contradiction
    |(exact BS rfl rfl rfl rfl)
  ·have h3:=o (k+1) ⟨J,by rw[←b,m,FO,j,decide_eq_false d];rfl⟩ J;(repeat'(first|refine Aa ?_|refine Z Bf ?_|refine Z Cb ?_|(refine Y ?_ ?_<;>intro hc<;>try omega)|refine AF ?_|(refine AG ?_ ?_<;>intro hc<;>try omega)|fail))
   all_goals first
    |omega
    |(exfalso;exact d ⟨⟨Cn,Cn⟩,Cn⟩)
    |(refine AB Af Ad h3)
 {rw[show k=l.length by omega,Ok]at b;have e:FO P l 0 = -1:=b.symm;rw[e];clear o;(repeat'(first|refine Aa ?_|(refine Y ?_ ?_<;>intro hc<;>try omega)|refine Bm ?_|fail));all_goals rfl}
def Aid (h:U)(A:At)(n c:Nat)(l:AN)(hx:Cz h A n l)(a:Int):Aq prog 257 #[.slice A n c,O a] h (.bool (decide (Gz (Ae l) a))):=by
 refine AK func257 λ_ _=>?_;have s:=hx.row.len;have hn:=hx.small;have m:=zF h A n c l hx a;obtain⟨j,hj⟩:∃j,j=Dj (Ae l) a:=⟨_,rfl⟩;rw[←hj]at m;(have i:Gz (Ae l) a↔0<j∧∃p∈l,p.2.kind=5∧p.2.aCase=a∧p.2.aInst=j∧p.2.aSusp=true:=by{unfold Gz;rw[←hj];refine and_congr_right λ_=>⟨λ⟨f,hf,q⟩=>?_,λ⟨p,hp,q⟩=>⟨p.2,Uw hp,q⟩⟩;obtain⟨p,hp,rfl⟩:=CZ.1 hf;exact⟨p,hp,q⟩});(repeat'(first|refine Aa ?_|(refine Ac ?_;first|(apply Aw;exact F;exact Ab func259;exact m))|fail));refine Bg (X:=Nat) (λk=>k≤n∧∀p∈l.take k,¬(0<j∧p.2.kind=5∧p.2.aCase=a∧p.2.aInst=j∧p.2.aSusp=true)) (λk=>n-k) (λk=>[(6,O k),(5,O j),(0,.slice A n c),(1,O a)]) (λ_=>[]) (λ_=>h) 0 ⟨J,An⟩ Af Ad rfl ?_;rintro k ⟨y,e⟩ o;by_cases g:k<n
 ·have a1:=hx.row.addrD g;have cc:Au h ((addrD A).add (k*F'.size)) (BM (l.getD k AS)):=hx.row.cellsD AS g;have r:=BY AS s g;have t:=Ce AS (show k<l.length by omega);generalize l.getD k AS=p at *;by_cases d:0<j∧p.2.kind=5∧p.2.aCase=a∧p.2.aInst=j∧p.2.aSusp=true
  ·rw[decide_eq_true (i.2 ⟨d.1,p,t,d.2⟩)];obtain⟨z,aa,ab,ac,u⟩:=d;(repeat'(first|refine AH ?_|refine Z Bf ?_|refine Z Cb ?_|(refine Aj ?_;intro b)|(refine Y ?_ ?_<;>intro hc<;>try omega)|refine AF ?_|(refine AG ?_ ?_<;>intro hc<;>try omega)|fail))
   all_goals first
    |omega
    |contradiction
    |(exact BS rfl rfl rfl rfl)
    |(exfalso;exact absurd (hc.symm.trans u) BO)
  ·have h3:=o (k+1) ⟨J,λq hq=>by
    rw[r,AO,Bk]at hq;rcases hq with w|w;{exact e q w}
    ·rw[w];exact d⟩ J
   (repeat'(first|refine AH ?_|refine Z Bf ?_|refine Z Cb ?_|(refine Aj ?_;intro b)|(refine Y ?_ ?_<;>intro hc<;>try omega)|refine AF ?_|(refine AG ?_ ?_<;>intro hc<;>try omega)|fail))
   all_goals first
    |omega
    |(exfalso;exact d ⟨Cn,Cn,Cn,Cn,Cn⟩)
    |(exfalso;refine d ⟨J,?_,?_,?_,?_⟩<;>assumption)
    |(refine AB Af Ad h3)
 ·rw[By J]at e
  rw[decide_eq_false λq=>by
   obtain⟨v,p,hp,x⟩:=i.1 q
   exact e p hp ⟨v,x⟩]
  clear o;(repeat'(first|refine Aa ?_|(refine Y ?_ ?_<;>intro hc<;>try omega)|refine Bm ?_|fail));all_goals rfl
theorem zA {n:Int}:∀{L:AC},L.Pairwise (· < ·)→n∈L→IC n L=L
 |[],_,h=>by cases h
 |m::r,hs,h=>by obtain⟨h1,h2⟩:=FD.1 hs;unfold IC;split;{rename_i hm;rcases Bx.1 h with e|e;{omega};{rw[zA h2 e]}};{split;{rfl};{rename_i hm a;rcases Bx.1 h with e|e;{exact absurd e.symm a};{have:=h1 n e;omega}}}
theorem dS {n:Int}:∀{L:AC} {k:Nat},k≤L.length→(∀i,i<k→L.getD i 0<n)→(k<L.length→n<L.getD k 0)→IC n L=L.take k++n::L.drop k
 |[],k,a,_,_=>by(have:k=0:=by simpa using a);subst this;rfl
 |y::r,0,_,_,h2=>by have:=h2 An;have h3:n<y:=this;unfold IC;rw[if_neg J,if_neg J];rfl
 |y::r,k+1,a,h1,h2=>by have h3:y<n:=h1 0 J;unfold IC;rw[if_pos h3,dS (L:=r) (k:=k) (by simpa using a) (λi hi=>h1 (i+1) J) (λhq=>h2 (by simpa using hq))];rfl
theorem uS (n:Int):∀L:AC,(IC n L).length≤L.length+1
 |[]=>by simp[IC]
 |y::r=>by have:=uS n r;unfold IC;split;{simp;omega};{split;{simp};{simp}}
def Abs (C:Ax):(EB C).length≤C.length:=by refine OS (P:=λC=>(EB C).length≤C.length) (by simp[EB]) (λC f a=>?_) C;show(EB (C++[f])).length≤(C++[f]).length;rw[Su,Bt];split;{have:=uS f.ru.case (EB C);simp only[Do,Jw];have:(EB C).length≤C.length:=a;omega};{have:(EB C).length≤C.length:=a;omega}
def Atj (h:U)(A:At)(n c:Nat)(l:AN)(hx:Cz h A n l):Az prog 256 #[.slice A n c] h (λu h'=>∃A' ak,u=.slice A' (EB (Ae l)).length ak∧Ai AQ 1 h' A' (EB (Ae l)).length (EB (Ae l))):=by
 refine BB func256 λ_ _=>?_;have ar:=hx.row.len;have hn:=hx.small;(repeat'(first|refine Aa ?_|(refine Ac ?_;first|(refine RV ?_;intro b1 h1 ap hcs1))|fail));refine Bg (X:=Nat×AC×At×Nat×U) (λx=>x.1≤n∧V h x.2.2.2.2∧x.2.1=EB (Ae (l.take x.1))∧Ai AQ 1 x.2.2.2.2 x.2.2.1 x.2.1.length x.2.1∧x.2.1.length≤x.2.2.2.1) (λx=>n-x.1) (λx=>[(4,O x.1),(3,.slice x.2.2.1 x.2.1.length x.2.2.2.1),(0,.slice A n c)]) (λ_=>[]) (λx=>x.2.2.2.2) (0,[],some (Av b1),0,h1) ⟨Ah,ap,rfl,Ai.nil,BU _⟩ Af Ad rfl ?_;rintro⟨i,out,A3,c3,hh⟩ ⟨hi,e,f,hso,hoc⟩ g;dsimp only at hi e f hso hoc g ⊢;obtain⟨k3,d⟩:∃k3,k3=out.length:=⟨_,rfl⟩;(have ay:k3≤i:=by{have:=Abs (Ae (l.take i));rw[←f,Dc,CF]at this;omega});(have aw:out.Pairwise (· < ·):=by rw[f];exact Yp _);rw[←d]at hso hoc ⊢;by_cases z:i<n
 ·have a1:=hx.row.addrD z;have c1:Au hh ((addrD A).add (i*F'.size)) (BM (l.getD i AS)):=(hx.row.cellsD AS z).le e;have al:=BY AS ar z;generalize l.getD i AS=p at *;(have a:EB (Ae (l.take (i+1)))=if p.2.kind=4 then IC p.2.ru.case out else out:=by rw[al,Nh,Su,←f]);have hmm:=λh' (ao:V hh h')=>XE h' A3 k3 c3 out (hso.le ao) J p.2.ru.case;by_cases ae:p.2.kind=4
  ·rw[if_pos ae]at a;by_cases m:p.2.ru.case∈out
   ·rw[zA aw m]at a;rw[decide_eq_true m]at hmm;have h3:=g (i+1,out,A3,c3,hh) ⟨Ah,e,a.symm,by rw[←d];exact hso,Ah⟩ Ah;dsimp only at h3;rw[←d]at h3;(repeat'(first|refine Aa ?_|refine Z E' ?_|refine Z Cb ?_|(refine Ac ?_;first|(refine qM ?_))|(refine Y ?_ ?_<;>intro hc<;>try omega)|refine AF ?_|(refine AG ?_ ?_<;>intro hc<;>try omega)|fail))
    all_goals first
     |omega
     |contradiction
     |(refine AB Af Ad h3)
   ·rw[decide_eq_false m]at hmm;(repeat'(first|refine Aa ?_|refine Z E' ?_|refine Z Cb ?_|(refine Ac ?_;first|(refine qM ?_))|(refine Y ?_ ?_<;>intro hc<;>try omega)|refine AF ?_|(refine AG ?_ ?_<;>intro hc<;>try omega)|fail));(all_goals try omega);refine Bg (X:=Nat) (λx=>x≤k3∧∀t,t<x→out.getD t 0<p.2.ru.case) (λx=>k3-x) (λx=>[(5,O x),(4,O i),(3,.slice A3 k3 c3),(0,.slice A n c)]) (λ_=>[]) (λx=>hh) 0 ⟨J,λt ag=>absurd ag J⟩ Af Ad rfl ?_;rintro j ⟨hj,v⟩ ac;by_cases ad:j<k3
    ·have b1:=hso.addrD ad;have d1:Au hh ((addrD A3).add (j*JG.size)) (AQ (out.getD j 0)):=hso.cellsD 0 ad;have af:=Tm 0 (show j<out.length by omega);obtain⟨q,hq⟩:∃q,q=out.getD j 0:=⟨_,rfl⟩;rw[←hq]at d1 af;by_cases au:q<p.2.ru.case
     ·have h3:=ac (j+1) ⟨J,λt ag=>by
       rcases KY t j with ah|ah;{exact v t ah}
       ·(have:t=j:=by omega)
        subst this;rw[←hq];exact au⟩ J
      (repeat'(first|refine Aa ?_|(apply AU (n:=7) 17 [0,1,2,3,4,5,6,7,8,9,10,11,12,13,14,15,16];kernel_rfl)|(apply Be;exact Bd;(first|(first|exact pF|exact TV)|exact Qe|exact Cb);exact AX)|(refine Db ?_ ?_<;>intro hc<;>try omega)|(refine Y ?_ ?_<;>intro hc<;>try omega)|fail))
      all_goals first
       |omega
       |(refine AB Af Ad h3)
     ·have an:p.2.ru.case<q:=by
       rcases eY q p.2.ru.case with w|w|w;{omega};{exact absurd (w▸af) m};{exact w}
      have y:=dS (n:=p.2.ru.case) (L:=out) (k:=j) J v (λ_=>by rw[←hq];exact an);rw[y]at a;clear ac;(repeat'(first|refine Aa ?_|(refine Ac ?_;first|(refine tF ?_;intro A6 hs6)|(refine tZ ?_;intro o r s aq ab hs9))|(apply AU (n:=7) 17 [0,1,2,3,4,5,6,7,8,9,10,11,12,13,14,15,16];kernel_rfl)|(apply AU (n:=9) 12 [0,1,2,3,4,5,7,8,9,99,6,10,99,11];kernel_rfl)|(apply Be;exact Bd;(first|(first|exact pF|exact TV)|exact Qe|exact Xb|exact Cb);exact AX)|(refine Bn ?_;first|(refine pP ?_;intro aj;refine⟨V.refl _,Ak,?_⟩)|(refine tV ?_;intro ai c7 am aa av hs7;refine⟨aa,Ak,?_⟩))|(refine Db ?_ ?_<;>intro hc<;>try omega)|(refine Y ?_ ?_<;>intro hc<;>try omega)|fail));(all_goals try omega)
      all_goals
       have b:(out.take j++([p.2.ru.case]++out.drop j)).length=j+(1+(k3-j)):=by simp;omega
       have h3:=g (i+1,out.take j++([p.2.ru.case]++out.drop j),o,r,s) ⟨Ah,by dsimp only;exact e.trans Ag,a.symm,by dsimp only;rw[b];exact hs9,by dsimp only;rw[b];exact ab⟩ Ah
       dsimp only at h3
       rw[b]at h3
       refine AB Af Ad h3
    ·(have ax:j=k3:=by omega);have y:=dS (n:=p.2.ru.case) (L:=out) (k:=j) J v (λw=>by omega);rw[y]at a;clear ac;(repeat'(first|refine Aa ?_|(refine Ac ?_;first|(refine tF ?_;intro A6 hs6)|(refine tZ ?_;intro o r s aq ab hs9))|(apply AU (n:=7) 17 [0,1,2,3,4,5,6,7,8,9,10,11,12,13,14,15,16];kernel_rfl)|(apply AU (n:=9) 12 [0,1,2,3,4,5,7,8,9,99,6,10,99,11];kernel_rfl)|(apply Be;exact Bd;(first|exact TV|exact Xb|exact Cb);exact AX)|(refine Bn ?_;first|(refine pP ?_;intro aj;refine⟨V.refl _,Ak,?_⟩)|(refine tV ?_;intro ai c7 am aa av hs7;refine⟨aa,Ak,?_⟩))|(refine Db ?_ ?_<;>intro hc<;>try omega)|(refine Y ?_ ?_<;>intro hc<;>try omega)|fail));(all_goals try omega)
     all_goals
      have b:(out.take j++([p.2.ru.case]++out.drop j)).length=j+(1+(k3-j)):=by simp;omega
      have h3:=g (i+1,out.take j++([p.2.ru.case]++out.drop j),o,r,s) ⟨Ah,by dsimp only;exact e.trans Ag,a.symm,by dsimp only;rw[b];exact hs9,by dsimp only;rw[b];exact ab⟩ Ah
      dsimp only at h3
      rw[b]at h3
      refine AB Af Ad h3
  ·rw[if_neg ae]at a;have h3:=g (i+1,out,A3,c3,hh) ⟨Ah,e,a.symm,by rw[←d];exact hso,Ah⟩ Ah;dsimp only at h3;rw[←d]at h3;(repeat'(first|refine Aa ?_|refine Z E' ?_|refine Z Cb ?_|(refine Y ?_ ?_<;>intro hc<;>try omega)|refine AF ?_|(refine AG ?_ ?_<;>intro hc<;>try omega)|fail))
   all_goals first
    |omega
    |contradiction
    |(refine AB Af Ad h3)
 ·rw[By J]at f;clear g;rw[←f,←d];(repeat'(first|refine Aa ?_|(refine Y ?_ ?_<;>intro hc<;>try omega)|fail))
  all_goals first
   |omega
   |(exact BL rfl rfl rfl ⟨A3,c3,rfl,hso⟩)
def Aih {l:AN}{a i:Int}{f:Al}(h:Gb (Ae l) a i=some f):∃j y,j<l.length∧FO (λp:AA×Al=>decide (CI a p.2∧p.2.ru.inst=i)) l 0=(j:Int)∧l[j]?=some y∧y.2=f:=by(have e:Gb (Ae l) a i=(l.find? λp:AA×Al=>decide (CI a p.2∧p.2.ru.inst=i)).map (·.2):=by{unfold Gb Ae;rw[List.find?_map];rfl});rw[e]at h;obtain⟨y,hy,d⟩:=XR.1 h;rcases Se (λp:AA×Al=>decide (CI a p.2∧p.2.ru.inst=i)) l 0 with⟨_,e2⟩|⟨j,x,e1,e2,b,c⟩;{rw[e2]at hy;cases hy};{rw[c]at hy;cases hy;exact⟨j,y,e1,by rw[e2,Dy],b,d⟩}
def Ac2 (h:U)(A:At)(n c:Nat)(l:AN)(hx:Cz h A n l)(av:n≤65536):Az prog 184 #[.slice A n c] h (λu h'=>∃A' v l',u=.slice A' l'.length v∧Pp h' A' l'.length v l' (Ek (BR (Ae l)))):=by
 refine BB func184 λ_ _=>?_;have ak:D' (Ae l):=Rr hx.fat;have ae:∀f∈BR (Ae l),BT f:=λf hf=>(((Ip (Ae l) ak).2 f).1 hf).2;have hcan:=λh' (ap:V h h')=>Qk h' A n c l (hx.le ap) av;obtain⟨C,am⟩:∃C,C=BR (Ae l):=⟨_,rfl⟩;rw[←am]at hcan ae ⊢;clear hx;(repeat'(first|refine Aa ?_|(refine Ac ?_;first|(refine RZ ?_;rintro v1 h1 a7 ⟨A3,k3,c3,l3,rfl,hL⟩)|(apply AR;exact F;exact Ab func256;exact Atj _ A3 k3 c3 l3 (hL.2.1.facts.le Ag);rw[hL.2.2];rintro bb h2 aq ⟨A5,c5,rfl,hs5⟩)|(refine Gi ?_;intro ah))|fail));have ar:=hL.2.1.row.len;have ba:=hL.2.1.small;have a9:=Abs C;(have a4:C.length=k3:=by rw[←hL.2.2,Dc,ar]);have au:∀m∈EB C,∃f∈C,CI m f:=λm hm=>(Sl C m).1 hm;rw[show Ek C=Lz C (EB C)from(Ac6 C).symm];generalize EB C=ns at *;refine Bg (X:=Nat×AN×At×Nat×U) (λx=>x.1≤ns.length∧V h2 x.2.2.2.2∧(∀p∈x.2.1,DU h2 p)∧Ae x.2.1=Lz C (ns.take x.1)) (λx=>ns.length-x.1) (λx=>[(6,O x.1),(3,.slice A3 k3 c3),(4,.slice A5 ns.length c5),(5,.slice x.2.2.1 x.2.1.length x.2.2.2.1)]) (λx=>[Ar 71 82 (.slice x.2.2.1 x.2.1.length x.2.2.2.1) x.2.1.length (x.2.1.flatMap BM)]) (λx=>x.2.2.2.2) (0,[],some (Av ah),0,h2) ⟨Ah,V.refl _,An,rfl⟩ Af Ad rfl ?_;rintro⟨k,out,t,c4,hh⟩ ⟨ao,o,i,b⟩ r;dsimp only at ao o i b r ⊢;(have a':out.length≤k:=by{have q:=congrArg List.length b;have a0:=Ab9 C (ns.take k);rw[Dc]at q;rw[CF]at a0;omega});by_cases j:k<ns.length
 ·have a5:=hs5.addrD j;have d5:Au hh ((addrD A5).add (k*JG.size)) (AQ (ns.getD k 0)):=(hs5.cellsD 0 j).le o;have aj:=BY 0 (xs:=ns) rfl j;have ax:=au _ (Tm 0 j);generalize ns.getD k 0=m at *;have s:Cz hh A3 k3 l3:=hL.2.1.facts.le Ag;have d:=Aid hh A3 k3 c3 l3 s m;have ac:=zF hh A3 k3 c3 l3 s m;rw[hL.2.2]at d ac;(have a:Lz C (ns.take (k+1))=Ae out++(if Gz C m then none else Gb C m (Dj C m)).toList:=by rw[aj,Adr,b]);by_cases g:Gz C m
  ·rw[decide_eq_true g]at d;rw[if_pos g]at a;have h3:=r (k+1,out,t,c4,hh) ⟨Ah,o,i,by dsimp only;rw[a];simp⟩ Ah;dsimp only at h3;(repeat'(first|refine Aa ?_|refine Z cN ?_|refine Z cG ?_|(refine Ac ?_;first|(apply Aw;exact F;exact Ab func257;exact d))|(refine Y ?_ ?_<;>intro hc<;>try omega)|fail))
   all_goals first
    |omega
    |(refine AB Af Ad h3)
  ·rw[decide_eq_false g]at d;rw[if_neg g]at a;obtain⟨_,a2,ab⟩:=aH ae ax;rw[ab]at a;have af:=Avp hh A3 k3 c3 l3 s m (Dj C m);obtain⟨jj,y,a6,an,ag,ay⟩:=Aih (l:=l3) (by rw[hL.2.2];exact ab);rw[an]at af;have aL:=hL.2.1.row.addrD (show jj<k3 by omega);(have aa:Au hh ((addrD A3).add (jj*F'.size)) (BM y):=by{have:=(hL.2.1.row.cellsD AS (show jj<k3 by omega)).le (show V h1 hh from Ag);rwa [Dr,ag]at this});have az:DU h2 y:=(hL.2.1.good y (Oi ag)).le aq;(repeat'(first|refine Aa ?_|(refine Z (by first|exact cN|exact pH) ?_)|(refine Z (by first|exact cG|(apply BA;exact F;apply BH;exact F;(with_reducible exact aa);exact F)) ?_)|(refine Ac ?_;first|(apply Aw;exact F;exact Ab func257;exact d))|(apply AU (n:=8) 19 [0,1,2,3,4,5,6,7,8,9,10,11,99,12,13,99,14,15,99,16,17,99,18];kernel_rfl)|(apply Be;exact Bd;(first|(first|exact cN|exact pH)|(first|exact cG|(apply BA;exact F;apply BH;exact F;(with_reducible exact aa);exact F)));exact AX)|(refine Bn ?_;first|(apply Aw;exact F;exact Ab func259;exact ac;refine⟨V.refl _,Ak,?_⟩)|(apply Aw;exact F;exact Ab func258;exact af;refine⟨V.refl _,Ak,?_⟩)|(apply DE (enc:=BM) (n:=1) [y];(iterate 3 exact F);exact Cf _ _;(iterate 4 exact F);exact Gv;exact F;exact F;intro a1 al ad hs6;refine⟨ad,Ak,?_⟩)|(apply CE (enc:=BM) (xs:=out);(iterate 7 exact F);exact hs6;exact Gv;exact Uh;intro v1;exact Bp;omega;exact F;intro A6 z;refine⟨V.refl _,Ak,?_⟩))|(refine Y ?_ ?_<;>intro hc<;>try omega)|fail))
   all_goals first
    |omega
    |(
       have h3:=r (k+1,out++[y],A6,z,al) ⟨Ah,o.trans ad,λq hq=>by
        rcases AO.1 hq with w|w
        · exact i q w
        · rw[Bk]at w;subst w;exact az,by dsimp only;rw[a,Nh,ay];rfl⟩ Ah
       dsimp only at h3
       rw[Bt]at h3
       refine AB Af Ad h3)
 ·rw[By J]at b;clear r;refine EE (enc:=BM) (e:=71) (sz:=82) (n:=out.length) (xs:=out) Gv rfl Bh ?_;intro A6 z a3 a8 ai aw hs6;cases ai;(repeat'(first|refine Aa ?_|(refine Y ?_ ?_<;>intro hc<;>try omega)|fail))
  all_goals first
   |omega
   |(exact BL rfl rfl rfl ⟨t,c4,out,rfl,aw,⟨hs6,λp hp=>(i p hp).le Ag,J⟩,b⟩)
def Az2 (h:U)(A:At)(n c:Nat)(l:AN)(hx:Cz h A n l)(z:n≤65536):Az prog 320 #[.slice A n c] h (λu h'=>∃A' q b,u=.slice A' b.length q∧Ai DH 17 h' A' b.length b∧b=(Ek (BR (Ae l))).map (·.ru)∧b.length≤1000000):=by
 refine BB func320 λ_ _=>?_;obtain⟨L,hL⟩:∃L,L=Ek (BR (Ae l)):=⟨_,rfl⟩;have j:=λh' (w:V h h')=>Ac2 h' A n c l (hx.le w) z;rw[←hL]at j ⊢;(repeat'(first|refine Aa ?_|(refine Ac ?_;first|(apply AR;exact F;exact Ab func184;exact j _ Ag;rintro ai h1 ad ⟨A3,c3,l3,rfl,d⟩)|(refine Gi ?_;intro o))|fail));have hs9:=d.2.1.row;have af:=d.2.1.small;have hf3:=d.2.2;refine Bg (X:=Nat×List Cu×At×Nat×U) (λx=>x.1≤l3.length∧V h1 x.2.2.2.2∧x.2.1=(Ae (l3.take x.1)).map (·.ru)) (λx=>l3.length-x.1) (λx=>[(5,O x.1),(3,.slice A3 l3.length c3),(4,.slice x.2.2.1 x.2.1.length x.2.2.2.1)]) (λx=>[Ar 61 17 (.slice x.2.2.1 x.2.1.length x.2.2.2.1) x.2.1.length (x.2.1.flatMap DH)]) (λx=>x.2.2.2.2) (0,[],some (Av o),0,h1) ⟨Ah,V.refl _,rfl⟩ Af Ad rfl ?_;rintro⟨k,out,m,c4,hh⟩ ⟨v,g,a⟩ i;dsimp only at v g a i ⊢;(have ah:out.length≤k:=by{rw[a,Dc,Dc,CF];omega});by_cases f:k<l3.length
 ·have a1:=hs9.addrD f;have cc:Au hh ((addrD A3).add (k*F'.size)) (BM (l3.getD k AS)):=(hs9.cellsD AS f).le g;have s:=BY AS (xs:=l3) rfl f;generalize l3.getD k AS=p at *;(repeat'(first|refine Aa ?_|refine Z Bf ?_|refine Z Cb ?_|(refine Ac ?_;first|(refine rO ?_;intro ab t y hs5)|(refine sH ?_;intro A5 c5))|(refine Y ?_ ?_<;>intro hc<;>try omega)|fail))
  all_goals first
   |omega
   |(
      have h3:=i (k+1,out++[p.2.ru],A5,c5,t) ⟨Ah,g.trans y,by dsimp only;rw[a,s];simp[Ae]⟩ Ah
      dsimp only at h3
      rw[Bt]at h3
      refine AB Af Ad h3)
 ·rw[By J,hf3]at a;clear i;refine EE (enc:=DH) (e:=61) (sz:=17) (n:=out.length) (xs:=out) (λ_=>rfl) rfl Bh ?_;intro aa c7 ac ae r ag hs7;cases r;(repeat'(first|refine Aa ?_|(refine Y ?_ ?_<;>intro hc<;>try omega)|fail))
  all_goals first
   |omega
   |(exact BL rfl rfl rfl ⟨m,c4,out,rfl,hs7,a,J⟩)
end Go.Hw
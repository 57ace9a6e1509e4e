import Derived.Test.YtbmffdagfjepgaaGreatDoorF35
import Derived.Test.YtbmffdagfjepgaaGreatDoorBI
set_option linter.all false
set_option maxRecDepth 100000
set_option maxHeartbeats 8000000
namespace Go.Hw
open Go
attribute [local irreducible] AI Bz BV Aq AP Az Au CH Ap Ar BG Cm BP Dg El Ek Fl Ex EV Hv Fx FJ FA
open Go.Proofs.Tryz
def Abp (h:U)(a b:BC):Aq prog 64 #[GE a,GE b] h (.bool (decide (DF a b))):=by refine AK func64 λ_ _=>?_;(repeat'(first|refine Aa ?_|(refine Aj ?_;intro b)|(refine Y ?_ ?_<;>intro hc<;>try omega)|fail));(all_goals(first|(apply BS;(iterate 3 exact F))));all_goals(refine Cv ?_;(try simp only[Lw,PD,Fb,Tc]at *);unfold DF;omega)
def Aoy {o:CY}{k:Nat}(b:k<o.length)(g:AL):decide (g∈o.take (k+1))=(decide (g∈o.take k)||decide (o.getD k Ga=g)):=by have a:=BY Ga (xs:=o) rfl b;rw[a];by_cases h1:g∈o.take k;{simp[h1]};{by_cases h2:o.getD k Ga=g;{(have:g∈o.take k++[o.getD k Ga]:=by rw[AO,Bk];exact .inr h2.symm);rw[decide_eq_true this,decide_eq_true h2,Bool.or_true]};{(have:g∉o.take k++[o.getD k Ga]:=by{rw[AO,Bk];exactλw=>w.elim h1 (λe=>h2 e.symm)});rw[decide_eq_false this,decide_eq_false h1,decide_eq_false h2];rfl}}
open Classical in
theorem Apo {s c:Int}{o:CY}{f:Al}(h:¬(DL (DJ f)∧(DJ f).s=s∧(DJ f).c=c∧DJ f∉o)):Pv s c o f=o:=by unfold Pv;rw[if_neg h]
open Classical in
theorem Apn {s c:Int}{o:CY}{f:Al}(h:DL (DJ f)∧(DJ f).s=s∧(DJ f).c=c∧DJ f∉o):Pv s c o f=o++[DJ f]:=by unfold Pv;rw[if_pos h]
def Ax6 {f:Al}(h:f.kind=4):DJ f=f.ru.g:=by unfold DJ;rw[if_pos h]
def Ax5 {f:Al}(h:f.kind≠4):DJ f=f.sh.g:=by unfold DJ;rw[if_neg h]
def mK (b m:Nat):((Av b):Addr).add m=⟨b,m,none⟩:=by rw[GC,Dy]
def Au5 (h:U)(A:At)(n c:Nat)(l:AN)(hx:Cz h A n l)(a4:n≤65536)(s a:Int):Az prog 62 #[.slice A n c,O s,O a] h (λu h'=>∃A' ai,u=.slice A' (IW (BR (Ae l)) s a).length ai∧Ai CG 4 h' A' (IW (BR (Ae l)) s a).length (IW (BR (Ae l)) s a)):=by
 refine BB func62 λ_ _=>?_;have ar:=JC hx;have a7:=hx.row.len;have hcan:=λh' (r:V h h')=>Qk h' A n c l (hx.le r) a4;have ae:=Sk ar;clear hx;(repeat'(first|refine Aa ?_|(refine Ac ?_;first|(refine RZ ?_;rintro bg h1 bc ⟨A3,k3,c3,l3,rfl,hL⟩))|fail));have ax:=hL.2.1.row.len;have az:=hL.2.1.row;rw[←hL.2.2]at ae ⊢;(have bb:k3≤65536:=by unfold Ae at ae;rw[Dc,Dc,ax,a7]at ae;omega);have an:=λL=>bB (s:=s) (c:=a) L;clear ae hcan ar hL;refine FN 36 4 ?_;refine Bg (X:=Nat×CY×At×Nat×U) (λy=>y.1≤k3∧V h1 y.2.2.2.2∧y.2.1=IW (Ae (l3.take y.1)) s a) (λy=>k3-y.1) (λy=>[(9,O y.1),(8,.slice y.2.2.1 y.2.1.length y.2.2.2.1),(7,.slice A3 k3 c3),(1,O s),(2,O a)]) (λy=>[Ar 36 4 (.slice y.2.2.1 y.2.1.length y.2.2.2.1) y.2.1.length (y.2.1.flatMap CG)]) (λy=>y.2.2.2.2) (0,[],none,0,h1) ⟨Ah,V.refl _,rfl⟩ Af Ad rfl ?_;rintro⟨i,out,t,c4,hh⟩ ⟨hi,am,aa⟩ ag;dsimp only at hi am aa ag ⊢;(have bf:out.length≤i:=by{have:=(an (Ae (l3.take i))).2.2;rw[←aa]at this;unfold Ae at this;rw[Dc,CF]at this;omega});by_cases al:i<k3
 case' neg=>
  rw[By J]at aa
  clear ag an
  rw[←aa]
  refine EE (enc:=CG) (e:=36) (sz:=4) (n:=out.length) (xs:=out) (λ_=>rfl) rfl Bh ?_
  intro a8 c7 j bd aj be hs7
  cases aj
  repeat'(first|refine Aa ?_|(refine Y ?_ ?_<;>intro hc<;>try omega)|fail)
  all_goals first
   |omega
   |(exact BL rfl rfl rfl ⟨t,c4,rfl,hs7⟩)
 have a1:=az.addrD al;have c1:Au hh ((addrD A3).add (i*F'.size)) (BM (l3.getD i AS)):=(az.cellsD AS al).le am;have aq:=BY AS ax al;(have ap:Ae (l3.take (i+1))=Ae (l3.take i)++[(l3.getD i AS).2]:=by rw[aq,Nh]);have hsn:=Ad9 (Ae (l3.take i)) (l3.getD i AS).2 s a;rw[←ap,←aa]at hsn;generalize l3.getD i AS=p at *;obtain⟨ps,f⟩:=p;dsimp only at hsn;have c1:Au hh ((addrD A3).add (i*F'.size)) (CS ps f):=c1;have ad:=Apo (s:=s) (c:=a) (o:=out) (f:=f);have af:=Apn (s:=s) (c:=a) (o:=out) (f:=f);have z:=λh' (r:V hh h') o A' ai (q:o=Pv s a out f)=>ag (i+1,o,A',ai,h') ⟨Ah,am.trans r,q.trans hsn.symm⟩ Ah;dsimp only at z;clear ag hsn aa aq ap an;obtain⟨g,hg⟩:∃g,g=DJ f:=⟨_,rfl⟩;rw[←hg]at ad af;have hgm:=λh'=>gO h' g
 have au:f.kind=4∧g=f.ru.g∨f.kind≠4∧g=f.sh.g:=by
  by_cases d:f.kind=4;{exact .inl ⟨d,hg.trans (Ax6 d)⟩};{exact .inr ⟨d,hg.trans (Ax5 d)⟩}
 by_cases hq:DL g∧g.s=s∧g.c=a
 case' neg=>
  have ac:=z hh (V.refl _) out t c4 (ad (λw=>hq ⟨w.1,w.2.1,w.2.2.1⟩)).symm
  clear ad af z hg
  by_cases ak:DL g
  case' pos=>
   simp only[if_pos ak]at hgm
  case' neg=>
   simp only[if_neg ak]at hgm
  all_goals rcases au with⟨d,rfl⟩|⟨d,rfl⟩
  all_goals
   repeat'(first|refine Ba ?_|(apply AE;(iterate 3 exact F);apply Bo (e:=36);exact F;intro ah)|refine BF ?_|refine Z E' ?_|refine Z BN ?_|refine Z Cb ?_|(refine Ac ?_;first|(refine NU ?_))|(refine Y ?_ ?_<;>intro hc<;>try omega)|refine AF ?_|(refine AG ?_ ?_<;>intro hc<;>try omega)|fail)
  all_goals first
   |(exfalso;exact hq ⟨ak,Cn,Cn⟩)
   |omega
   |(exfalso;simp at hc;done)
   |(refine AB Af Ad ac)
 obtain⟨ay,a5,a6⟩:=hq;simp only[if_pos ay]at hgm;have ab:=λh' (r:V hh h') (w:g∈out)=>z h' r out t c4 (ad (λq=>q.2.2.2 w)).symm;have ac:=λh' (r:V hh h') (w:g∉out) A5 c5=>z h' r (out++[g]) A5 c5 (af ⟨ay,a5,a6,w⟩).symm;clear ad af z hg;rcases au with⟨d,rfl⟩|⟨d,rfl⟩
 all_goals
  repeat'(first|refine Ba ?_|(apply AE;(iterate 3 exact F);apply Bo (e:=36);exact F;intro ah)|refine BF ?_|refine Z E' ?_|refine Z BN ?_|refine Z Cb ?_|(refine Ac ?_;first|(refine NU ?_))|(refine Y ?_ ?_<;>intro hc<;>try omega)|refine AF ?_|(refine AG ?_ ?_<;>intro hc<;>try omega)|fail)
 (all_goals try omega);(all_goals(try(exfalso;simp at hc;done)))
 all_goals first
  |(
     have a2:f.kind=4:=d
     clear a2
     generalize f.ru.g=g at *)
  |(generalize f.sh.g=g at *)
 all_goals
  refine Bg (X:=Nat) (λk=>k≤out.length) (λk=>out.length-k)
   (λk=>[(12,O k),(11,.bool (decide (g∈out.take k))),(10,Dt ah),(9,O i),(8,.slice t out.length c4),(7,.slice A3 k3 c3),(1,O s),(2,O a)])
   (λ_=>[Ap ah 36 (CG g),Ar 36 4 (.slice t out.length c4) out.length (out.flatMap CG)]) (λ_=>hh) 0 J (by rw[show decide (g∈out.take 0)=false by simp];exact Af) Ad rfl ?_
  rintro k ba ao
  by_cases aw:k<out.length
  case' neg=>
   rw[By J]
   clear ao
   by_cases hm:g∈out
   case' pos=>
    rw[decide_eq_true hm]
    have ab:=ab hh (V.refl _) hm
    clear ac
    repeat'(first|refine Aa ?_|(refine Y ?_ ?_<;>intro hc<;>try omega)|fail)
    all_goals first
     |omega
     |(exfalso;simp at hc;done)
     |(refine AB Af Ad ab)
   rw[decide_eq_false hm]
   clear ab
   repeat'(first|refine Aa ?_|(refine Ac ?_;first|(apply DE (enc:=CG) (n:=1) [g];(iterate 3 exact F);exact Cf _ _;(iterate 4 exact F);exact(λ_=>rfl);exact F;exact F;intro a9 a0 a3 hs6)|(apply CE (enc:=CG) (xs:=out) (ys:=[g]);(iterate 7 exact F);exact hs6;exact(λ_=>rfl);exact(λx=>En rfl);intro v1;exact Bp;omega;exact F;intro A5 c5))|(refine Y ?_ ?_<;>intro hc<;>try omega)|fail)
   all_goals first
    |omega
    |(exfalso;simp at hc;done)
    |(
       have j:=ac a0 a3 hm A5 c5
       rw[Bt]at j
       refine AB Af Ad j)
  refine VQ (e:=36) (sz:=4) (n:=out.length) (v:=.slice t out.length c4) (xs:=out.flatMap CG) Bc J ?_
  intro bo a' hco aj
  cases aj
  have hy:out[k]?=some (out.getD k Ga):=by rw[Dr,Bw aw];rfl
  have av:=Aoy aw g
  have j:=ao (k+1) J J
  rw[av]at j
  generalize decide (g∈out.take k)=m at *
  generalize out.getD k Ga=y at *
  have hge:=MZ y g
  clear ao ab ac av
  generalize decide (y=g)=q at *
  cases m
  case' false=>
   rw[Bool.false_or]at j
  case' true=>
   rw[Bool.true_or]at j
  all_goals
   repeat'(first|refine Aa ?_|(apply AU (n:=14) 10 [0,1,2,3,4,5,6,7,8,9];kernel_rfl)|(apply Be;exact Bd;(first|exact MW|(apply LW (off:=0) (enc:=CG) (b:=bo) (k:=k) (sz:=4) (n:=out.length) (c:=c4) (xs:=out) (e:=36);exact F;exact F;exact mK _ _;exact(λ_=>rfl);exact hy;exact F)|exact MV);exact AX)|(refine Y ?_ ?_<;>intro hc<;>try omega)|fail)
  all_goals first
   |omega
   |(exfalso;simp at hc;done)
   |(refine AB Af Ad j)
attribute [local irreducible] Lo IW
def Aov (r:BC)(l:CX):(Ju r l).length=l.length+1:=by rw[(TF r l).length_eq];rfl
theorem A1e (h:U)(A:At)(n c:Nat)(l:AN)(hx:Cz h A n l)(a3:n≤65536)(s j:Int):Az prog 25 #[.slice A n c,O s,O j] h (λu h'=>∃A' f,u=.slice A' (Ij (Ae l) s j).length f∧Ai Cc 13 h' A' (Ij (Ae l) s j).length (Ij (Ae l) s j)):=by
 refine BB func25 λ_ _=>?_;have am:=JC hx;have bi:=hx.row.len;have ax:=λh' (a:V h h')=>Au5 h' A n c l (hx.le a) a3 s j;have hof:=λh' (a:V h h') g=>Awv h' A n c l (hx.le a) a3 g;have bc:=Sk am;have bh:=(bB (s:=s) (c:=j) (BR (Ae l))).2.2;have an:=λgs=>(xW (Ae l) gs).2.2;have hsn:=λgs g=>yS (Ae l) gs g;(have a5:Lo (Ae l) []=[]:=by unfold Lo;rfl);rw[←Auf am s j];(have bn:(IW (BR (Ae l)) s j).length≤65536:=by{(have:(Ae l).length=n:=by unfold Ae;rw[Dc,bi]);omega});clear hx bc bh am;generalize IW (BR (Ae l)) s j=gs at *;(repeat'(first|refine Aa ?_|(refine Ac ?_;first|(apply AR;exact F;exact Ab func62;exact ax _ Ag;rintro bv h1 bp ⟨A3,c3,rfl,ay⟩))|fail));clear ax;refine FN 38 13 ?_;refine Bg (X:=Nat×CX×At×Nat×U) (λy=>y.1≤gs.length∧V h1 y.2.2.2.2∧y.2.1=Lo (Ae l) (gs.take y.1)) (λy=>gs.length-y.1) (λy=>[(9,O y.1),(8,.slice y.2.2.1 y.2.1.length y.2.2.2.1),(7,.slice A3 gs.length c3),(0,.slice A n c)]) (λy=>[Ar 38 13 (.slice y.2.2.1 y.2.1.length y.2.2.2.1) y.2.1.length (y.2.1.flatMap Cc)]) (λy=>y.2.2.2.2) (0,[],none,0,h1) ⟨Ah,V.refl _,a5.symm⟩ Af Ad rfl ?_;rintro⟨i,out,aa,c4,hh⟩ ⟨hi,ah,p⟩ z;dsimp only at hi ah p z ⊢;(have bt:out.length≤i:=by{have:=an (gs.take i);rw[←p,CF]at this;omega});by_cases aq:i<gs.length
 case' neg=>
  rw[By J]at p
  clear z an hsn hof
  rw[←p]
  refine EE (enc:=Cc) (e:=38) (sz:=13) (n:=out.length) (xs:=out) Gd rfl Bh ?_
  intro af c7 x bq al br hs7
  cases al
  repeat'(first|refine Aa ?_|(refine Y ?_ ?_<;>intro hc<;>try omega)|fail)
  all_goals first
   |omega
   |(exact BL rfl rfl rfl ⟨aa,c4,rfl,hs7⟩)
 have a1:=ay.addrD aq;have c1:Au hh ((addrD A3).add (i*SO.size)) (CG (gs.getD i Ga)):=(ay.cellsD Ga aq).le ah;have av:=BY Ga (xs:=gs) rfl aq;have hsn:=hsn (gs.take i) (gs.getD i Ga);rw[←av,←p]at hsn;generalize gs.getD i Ga=g at *;have bf:V h hh:=Ag;have hofg:=λh' (a:V hh h')=>hof h' (bf.trans a) g;unfold VP at hsn;clear hof av an a5;cases ao:FA (Ae l) g with
 |none=>
  rw[ao]at hsn hofg;dsimp only at hsn;have d:=λh' (a:V hh h')=>z (i+1,out,aa,c4,h') ⟨Ah,ah.trans a,hsn.symm⟩ Ah;dsimp only at d;clear z hsn p;(repeat'(first|refine Ba ?_|(apply AE;(iterate 3 exact F);apply Bo (e:=38);exact F;intro ak)|refine BF ?_|refine Z E' ?_|refine Z BN ?_|(refine Ac ?_;first|(refine rC ?_;rintro bj h2 au rfl))|(refine Y ?_ ?_<;>intro hc<;>try omega)|fail))
  all_goals first
   |omega
   |(exfalso;simp at hc;done)
   |(
      have ab:=d h2 au
      refine AB Af Ad ab)
 |some r=>
  rw[ao]at hsn hofg;dsimp only at hsn;have be:=Aov r out;have d:=λh' (a:V hh h') (o:CX) A' f (q:o=Ju r out)=>z (i+1,o,A',f,h') ⟨Ah,ah.trans a,q.trans hsn.symm⟩ Ah;dsimp only at d;clear z hsn p ao;(repeat'(first|refine Ba ?_|(apply AE;(iterate 3 exact F);apply Bo (e:=38);exact F;intro ak)|refine BF ?_|refine Z E' ?_|refine Z BN ?_|(refine Ac ?_;first|(refine rC ?_;rintro bj h2 au rfl))|(refine Y ?_ ?_<;>intro hc<;>try omega)|fail));(all_goals try omega);(all_goals(try(exfalso;simp at hc;done)));have d:=λh' (a:V h2 h') o A' f q=>d h' (au.trans a) o A' f q;refine Bg (X:=Nat) (λk=>k≤out.length∧∀t,t<k→DF (out.getD t AV) r) (λk=>out.length-k) (λk=>[(12,O k),(10,Dt ak),(9,O i),(8,.slice aa out.length c4),(7,.slice A3 gs.length c3),(0,.slice A n c)]) (λ_=>[Ap ak 38 (Cc r),Ar 38 13 (.slice aa out.length c4) out.length (out.flatMap Cc)]) (λ_=>h2) 0 ⟨J,λt a4=>absurd a4 J⟩ Af Ad rfl ?_;rintro k ⟨az,ac⟩ ai;refine A0n (e:=38) (sz:=13) (n:=out.length) (v:=.slice aa out.length c4) (xs:=out.flatMap Cc) Bc (λa8 e1=>?_) (λbo bm hco al=>?_)
  ·obtain rfl:out=[]:=Fu e1;cases a8;(obtain rfl:k=0:=by simpa using az);have ar:[r]=Ju r []:=rfl;have ab:=λh' (a:V h2 h') A' f=>d h' a [r] A' f ar;clear ai ac d;(repeat'(first|refine Aa ?_|(refine Z (by apply Ml (lo:=0) (n:=0) (c:=0);(iterate 6 exact F);omega) ?_)|(refine Ac ?_;first|(refine Gi ?_;intro aj)|(apply CE (enc:=Cc) (n:=0) (m:=0) (xs:=[]) (ys:=[]) (v:=.slice (some (Av aj)) 0 0);(iterate 7 exact F);exact Ai.nil;exact Gd;exact Lg;intro v1;exact Bp;omega;exact F;intro A5 c5))|(apply AU (n:=9) 12 [0,1,2,3,4,5,6,7,8,9,99,10,99,11];kernel_rfl)|(apply AU (n:=12) 9 [0,1,2,3,6,99,4,5,7,99,8];kernel_rfl)|(apply Be;exact Bd;(apply PA (hi:=0) (n:=0) (c:=0);(iterate 6 exact F);omega;omega);exact AX)|(refine Bn ?_;first|(refine cT ?_;intro a6 aw ae hs5;refine⟨ae,Ak,?_⟩)|(apply CE (enc:=Cc) (n:=0) (m:=1) (xs:=[]) (ys:=[r]) (v:=.slice none 0 0);(iterate 7 exact F);exact hs5.le Ag;exact Gd;exact Lg;intro v1;exact Bp;omega;exact F;intro A6 a7;refine⟨V.refl _,Ak,?_⟩)|(apply CE (enc:=Cc) (n:=1) (m:=0) (xs:=[r]) (ys:=[]);(iterate 7 exact F);exact Ai.nil;exact Gd;exact Lg;intro v1;exact Bp;omega;exact F;intro af c7;refine⟨V.refl _,Ak,?_⟩))|(refine Db ?_ ?_<;>intro hc<;>try omega)|(refine Y ?_ ?_<;>intro hc<;>try omega)|(apply KS;exact F;kernel_rfl;exact F;exact F)))
   all_goals first
    |omega
    |(exfalso;simp at hc;done)
    |(
       have x:=ab aw ae af c7
       refine AB Af Ad x)
  ·cases al;by_cases ap:k<out.length∧DF (out.getD k AV) r
   ·obtain⟨ag,a2⟩:=ap;(have hy:out[k]?=some (out.getD k AV):=by rw[Dr,Bw ag];rfl);have ad:=λh'=>Abp h' (out.getD k AV) r
    have x:=ai (k+1) ⟨J,λt a4=>by
     rcases KY t k with w|w;{exact ac t w}
     ·(have:t=k:=by omega)
      subst this;exact a2⟩ J
    simp only[decide_eq_true a2]at ad;clear ai d ac;generalize out.getD k AV=y at *;(repeat'(first|refine Aa ?_|(apply AU (n:=9) 12 [0,1,2,3,4,5,6,7,8,9,99,10,99,11];kernel_rfl)|(apply Be;exact Bd;(first|exact MW|exact sU);exact AX)|(refine Bn ?_;first|(apply Aw;exact F;exact Ab func64;exact ad _;refine⟨V.refl _,Ak,?_⟩))|(refine Db ?_ ?_<;>intro hc<;>try omega)|(refine Y ?_ ?_<;>intro hc<;>try omega)|fail))
    all_goals first
     |omega
     |(exfalso;simp at hc;done)
     |(refine AB Af Ad x)
   ·have ar:=(lB (r:=r) (l:=out) az ac (λq w=>ap ⟨q,w⟩)).symm;have ab:=λh' (a:V h2 h') A' f=>d h' a (Ju r out) A' f rfl;(have ba:out.take k++[r]++([]++out.drop k)=Ju r out:=by rw[←ar,FE,Ck];rfl);(have a':k+1+(0+(out.length-k))=(Ju r out).length:=by rw[be];omega);have bd:(out.drop k).length=out.length-k:=Kw;(have bu:(out.take k).length=k:=by rw[CF];omega);clear ai ac d;by_cases ag:k<out.length
    case' pos=>
     have hy:out[k]?=some (out.getD k AV):=by rw[Dr,Bw ag];rfl
     have ad:=λh'=>Abp h' (out.getD k AV) r
     simp only[decide_eq_false (λw=>ap ⟨ag,w⟩)]at ad
     generalize out.getD k AV=y at *
    all_goals
     repeat'(first|refine Aa ?_|(refine Z (by apply Ml (lo:=k) (n:=out.length) (c:=c4);(iterate 6 exact F);omega) ?_)|(refine Ac ?_;first|(refine Gi ?_;intro aj)|(apply A0b (enc:=Cc) (v:=.slice (some (Av aj)) 0 0) (n:=0) (N:=out.length) (b:=bo) (c:=c4) (lo:=k) (xs:=[]) (ys:=out);(iterate 7 exact F);exact Bc;exact F;omega;omega;exact Gd;exact Lg;intro v1;exact Bp;omega;exact F;intro A5 c5))|(apply AU (n:=9) 12 [0,1,2,3,4,5,6,7,8,9,99,10,99,11];kernel_rfl)|(apply AU (n:=12) 9 [0,1,2,3,6,99,4,5,7,99,8];kernel_rfl)|(apply Be;exact Bd;(first|exact MW|exact sU|(apply Axt (hi:=k) (n:=out.length) (c:=c4) (b:=bo);(iterate 6 exact F);omega;omega));exact AX)|(refine Bn ?_;first|(apply Aw;exact F;exact Ab func64;exact ad _;refine⟨V.refl _,Ak,?_⟩)|(refine cT ?_;intro a6 aw ae hs5;refine⟨ae,Ak,?_⟩)|(refine Awt (enc:=Cc) (e:=38) (sz:=13) (b:=bo) (n:=out.length) (c:=c4) (m:=k) (xs:=out) J Gd Bp rfl ?_;apply CE (enc:=Cc) (n:=k) (m:=1) (xs:=out.take k) (ys:=[r]) (v:=.slice (some (Av bo)) k c4);(iterate 7 exact F);exact hs5.le Ag;exact Gd;exact Lg;intro v1;exact Bp;omega;exact F;intro A6 a7;refine⟨V.refl _,Ak,?_⟩)|(refine hP (enc:=Cc) (e:=38) (sz:=13) (v:=.slice A5 (0+(out.length-k)) c5) (n:=0+(out.length-k)) (xs:=[]++out.drop k) Gd (by rw[FE,bd];omega) Bh ?_;intro bk bl bb a0 a9 bs bg;cases a9;apply CE (enc:=Cc) (n:=k+1) (m:=0+(out.length-k)) (xs:=out.take k++[r]) (ys:=[]++out.drop k);(iterate 7 exact F);exact bg;exact Gd;exact Lg;intro v1;exact Bp;omega;exact F;intro af c7;refine⟨a0,Ak,?_⟩))|(refine Db ?_ ?_<;>intro hc<;>try omega)|(refine Y ?_ ?_<;>intro hc<;>try omega)|(apply KS;exact F;kernel_rfl;exact F;exact F))
    (all_goals try omega);(all_goals(try(exfalso;simp at hc;done)))
    all_goals
     have x:=ab bb (ae.trans a0) af c7
     rw[ba,a']
     refine AB Af Ad x
end Go.Hw
namespace Go.Hw
open Go
attribute [local irreducible] AI Bz BV Aq AP Az Au CH Ap Ar BG Cm BP Dg El Ek Fl Ex EV Hv Fx FJ FA
open Go.Proofs.Tryz
def Ap5 (l:AN)(t:Nat):(Ae l).getD t BQ=(l.getD t AS).2:=by unfold Ae;rw[Dr,FG,Dr];cases l[t]?<;>rfl
def A0x (h:U) (o:IF) (u:Value):Prop:=∃zs a ok,u=.tuple #[Py zs a,.bool ok]∧Ai AQ 1 h zs.cl.A zs.cl.n a.eClubs∧((o=none∧a=BQ∧ok=false)∨(o=some a∧ok=true))
def Az8 (h:U)(A:At)(n c:Nat)(l:AN)(hx:Cz h A n l)(ap:n≤65536)(s a:Int):Az prog 20 #[.slice A n c,O s,O a] h (λu h'=>A0x h' (JN (Ae l) s a) u):=by
 refine BB func20 λ_ _=>?_;have ac:=JC hx;have aq:=hx.row.len;have hcan:=λh' (an:V h h')=>Qk h' A n c l (hx.le an) ap;have d:=Sk ac;rw[←Aqj ac];(have ag:∀(k:Nat) (m:AN),m.length=k→Ae m=BR (Ae l)→k≤65536:=λk m e1 e2=>by{rw[←e2]at d;unfold Ae at d;rw[Dc,Dc,e1,aq]at d;omega});clear hx;(repeat'(first|refine Ba ?_|(apply AE;(iterate 3 exact F);apply Bo (e:=52);exact F;intro b6)|refine Eo ?_|(refine Ac ?_;first|(refine RZ ?_;rintro ax h1 aw ⟨A3,k3,c3,l3,rfl,hL⟩;have av:=ag _ _ hL.2.1.row.len hL.2.2))|fail));have ao:=hL.2.1.row.len;have ah:=hL.2.1.row;have al:=hL.2.1.good;rw[←hL.2.2];(have ak:(Ae l3).length=k3:=by unfold Ae;rw[Dc,ao]);have af:=Ap5 l3;have r:=λk=>kK (λf=>decide (No s a f)) (C:=Ae l3) (k:=k);have x:=Anr (λf=>decide (No s a f)) (C:=Ae l3);simp only[af,ak]at r x;generalize((Ae l3).filter λf=>decide (No s a f)).getLast?=o at *;clear d hcan ac hL af ag;refine Bg (X:=Nat×Int) (λy=>y.1≤k3∧y.2=(y.1:Int)-1∧∀t,y.1≤t→t<k3→¬No s a (l3.getD t AS).2) (λy=>y.1) (λy=>[(9,O y.2),(8,.slice A3 k3 c3),(6,Dt b6),(1,O s),(2,O a)]) (λ_=>[Ap b6 52 [O 0,O 0,.slice none 0 0,.string ByteArray.empty]]) (λ_=>h1) (k3,(k3:Int)-1) ⟨Ah,rfl,λt h1 h2=>absurd h2 J⟩ Af Ad rfl ?_;rintro⟨j,z⟩ ⟨hj,ar,b⟩ aa;dsimp only at hj ar b aa ⊢;by_cases am:j=0
 ·subst am;have ab:=x λi hi=>decide_eq_false (b i J hi);subst ab;clear aa r x;(repeat'(first|refine AH ?_|(refine Y ?_ ?_<;>intro hc<;>try omega)|fail))
  all_goals first
   |omega
   |(exact Dl rfl rfl rfl Bc rfl rfl rfl ⟨CP,BQ,false,rfl,Ai.nil,.inl ⟨rfl,rfl,rfl⟩⟩)
 (have hjn:j-1<k3:=by omega);have a1:=ah.addrD hjn;have c1:Au h1 ((addrD A3).add ((j-1)*F'.size)) (BM (l3.getD (j-1) AS)):=ah.cellsD AS hjn;have hgp:=al _ (Ce AS (show j-1<l3.length by omega));have v:=r (j-1) hjn
 have g:=λ(hn:¬No s a (l3.getD (j-1) AS).2)=>aa (j-1,z-1) ⟨Ah,Ah,λt ai ae=>by
  rcases KY t j with w|w;{(have:t=j-1:=by dsimp only at ai;omega);rw[this];exact hn}
  ·exact b t w ae⟩ Ah
 dsimp only at g;have ad:∀i,j-1<i→i<k3→decide (No s a (l3.getD i AS).2)=false:=λi ai ae=>decide_eq_false (b i J ae);clear aa r x;generalize l3.getD (j-1) AS=p at *;obtain⟨ps,f⟩:=p;dsimp only at v g hgp;have c1:Au h1 ((addrD A3).add ((j-1)*F'.size)) (CS ps f):=c1;by_cases q:No s a f
 ·have ab:=v (decide_eq_true q) ad;subst ab;obtain⟨e1,e2,au⟩:=q;have d:=hgp.1.cl;clear g v ad b;(repeat'(first|refine AH ?_|(refine Z (by apply Cs (j:=j-1);(iterate 5 exact F);exact a1;omega;omega) ?_)|refine Z Cb ?_|(refine Y ?_ ?_<;>intro hc<;>try omega)|refine AF ?_|(refine AG ?_ ?_<;>intro hc<;>try omega)|fail))
  all_goals first
   |omega
   |(exact Dl rfl rfl rfl Bc rfl rfl rfl ⟨ps,f,true,rfl,d,.inr ⟨rfl,rfl⟩⟩)
 ·have aj:=g q;clear g v ad b;(repeat'(first|refine AH ?_|(refine Z (by apply Cs (j:=j-1);(iterate 5 exact F);exact a1;omega;omega) ?_)|refine Z Cb ?_|(refine Y ?_ ?_<;>intro hc<;>try omega)|refine AF ?_|(refine AG ?_ ?_<;>intro hc<;>try omega)|fail))
  all_goals first
   |(exfalso;exact q ⟨Cn,Cn,Cn⟩)
   |omega
   |(refine AB Af Ad aj)
end Go.Hw
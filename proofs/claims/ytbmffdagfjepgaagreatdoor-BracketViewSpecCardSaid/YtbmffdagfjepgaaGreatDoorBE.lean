import Derived.Test.YtbmffdagfjepgaaGreatDoorRA
import Derived.Test.YtbmffdagfjepgaaGreatDoorBA
import Derived.Test.YtbmffdagfjepgaaGreatDoorHF
set_option linter.all false
set_option maxRecDepth 100000
set_option maxHeartbeats 8000000
namespace Go.Hw
open Go
attribute [local irreducible] AI Bz BV Aq AP Az Au CH Ap Ar BG Cm BP Dg
open Go.Proofs.Tryz
def gO (h:U)(g:AL):Aq prog 108 #[Di g] h (O (if DL g then 0 else 70)):=by
 refine AK func108 λ_ _=>?_;have hv:=Sf h g;by_cases hg:DL g
 ·rw[decide_eq_true hg]at hv;rw[if_pos hg];(repeat'(first|refine Aa ?_|(refine Aj ?_;intro b)|(refine Ac ?_;first|(apply Aw;exact F;exact Ab func175;exact hv))|(refine Y ?_ ?_<;>intro hc<;>try omega)|fail))
  all_goals first
   |(exfalso;simp at hc;done)
   |(exact BS rfl rfl rfl rfl)
 ·rw[decide_eq_false hg]at hv;rw[if_neg hg];(repeat'(first|refine Aa ?_|(refine Aj ?_;intro b)|(refine Ac ?_;first|(apply Aw;exact F;exact Ab func175;exact hv))|(refine Y ?_ ?_<;>intro hc<;>try omega)|fail))
  all_goals first
   |(exfalso;simp at hc;done)
   |(exact BS rfl rfl rfl rfl)
def Ayr (h:U)(n m:Int):Aq prog 115 #[O n,O m] h (.bool (decide (0≤n∧n≤m))):=by refine AK func115 λ_ _=>?_;(repeat'(first|refine Aa ?_|refine AF ?_|(refine AG ?_ ?_<;>intro hc<;>try omega)|refine Bm ?_|fail));all_goals(refine Cv ?_;(try rw[GV]);grind)
def Abv (h:U)(r:BC):Aq prog 66 #[GE r] h (O (if DS r then 0 else 1)):=by
 refine AK func66 λ_ _=>?_;have hgm:=λh'=>gO h' r.g;have a:=λ(_:Unit)=>Akl r;unfold Tz dO dP fG AY at a;by_cases c:DL r.g
 ·simp only[if_pos c]at hgm
  all_goals
   repeat'(first|refine Aa ?_|(refine Aj ?_;intro b)|(refine Ac ?_;first|(refine NU ?_)|(apply Aw;exact F;exact Ab func115;exact Ayr _ _ _))|(refine Y ?_ ?_<;>intro hc<;>try omega)|refine AF ?_|(refine AG ?_ ?_<;>intro hc<;>try omega)|fail)
  all_goals first
   |(exfalso;simp at hc;done)
   |(refine BS rfl rfl rfl ?_;first|(rw[if_pos ((a ()).2 (by grind))];done)|(rw[if_neg (λk=>by have k2:=(a ()).1 k;grind)];done))
 ·simp only[if_neg c]at hgm;rw[if_neg (λk=>c ((a ()).1 k).1.1)];(repeat'(first|refine Aa ?_|(refine Aj ?_;intro b)|(refine Ac ?_;first|(refine NU ?_))|(refine Y ?_ ?_<;>intro hc<;>try omega)|refine AF ?_|(refine AG ?_ ?_<;>intro hc<;>try omega)|fail))
  all_goals first
   |omega
   |(exact BS rfl rfl rfl rfl)
def Wq (h:U)(t:AT):Aq prog 19 #[GF t] h (.bool (decide (EN t))):=by refine AK func19 λ_ _=>?_;(repeat'(first|refine Aa ?_|(refine Aj ?_;intro b)|refine AF ?_|(refine AG ?_ ?_<;>intro hc<;>try omega)|refine Bm ?_|fail));all_goals(refine Cv ?_;(try rw[Fb]);unfold EN;grind)
def fM (h:U)(n:Int):Aq prog 107 #[O n] h (.bool (decide (AY n 192))):=by refine AK func107 λ_ _=>?_;(repeat'(first|refine Aa ?_|refine AF ?_|(refine AG ?_ ?_<;>intro hc<;>try omega)|refine Bm ?_|fail));all_goals(refine Cv ?_;(try rw[Lw]);unfold AY;grind)
def kH (h:U)(s:Ca)(d:Bv)(k:Nat):Aq prog 67 #[IN s d,O (k:Int)] h (.tuple #[O (MI d k),O (MH d k)]):=by refine AK func67 λ_ _=>?_;unfold MI MH;by_cases a:k=0;{rw[if_pos a,if_pos a];(repeat'(first|refine Aa ?_|(refine Aj ?_;intro b)|(apply Da (n:=2) [0,1,4,2,3,5] [(0,0),(1,0),(2,0),(3,0),(4,0),(5,0)];kernel_rfl)|(refine Y ?_ ?_<;>intro hc<;>try omega)|(apply VS;(iterate 4 exact F))));all_goals first|rfl|omega};{rw[if_neg a,if_neg a];(repeat'(first|refine Aa ?_|(refine Aj ?_;intro b)|(apply Da (n:=3) [0,1,4,2,3,5] [(0,0),(1,0),(2,0),(3,0),(4,0),(5,0)];kernel_rfl)|(refine Y ?_ ?_<;>intro hc<;>try omega)|(apply VS;(iterate 4 exact F))));all_goals first|rfl|omega}
def Sz (z:Ic) (k:Nat):Prop:=(0≤z.f∧z.f≤99*(k:Int))∧(0≤z.s∧z.s≤99*(k:Int))∧(0≤z.af∧z.af≤99*(k:Int))∧0≤z.as'∧z.as'≤99*(k:Int)
def Avm {ls:CX}(h:∀x∈ls,DS x):Sz (Lx 0 Rf ls) ls.length:=by refine Ny (P:=λls=>(∀x∈ls,DS x)→Sz (Lx 0 Rf ls) ls.length) (λ_=>by unfold Sz Lx Rf;simp) (λl x a h=>?_) ls h;have h1:=a λy hy=>h y (by simp[hy]);obtain⟨_,⟨b,c⟩,⟨d,e⟩,_⟩:=h x An;rw[aE,Bt,IR];generalize Lx 0 Rf l=z at *;unfold Sz at h1 ⊢;unfold QG;split<;>(dsimp only;omega)
def RK {a b:Int}(h : -9223372036854775808≤a+b∧a+b≤9223372036854775807):IntKind.i64.wrap (a+b)=a+b:=NO _ h
def SQ (l:Ic) (i:Nat) (x:BC):Ic:=
 if i=0 then⟨IntKind.i64.wrap (l.f+x.hg),IntKind.i64.wrap (l.s+x.ag),l.af,IntKind.i64.wrap (l.as'+x.ag),x.hp,x.ap⟩
 else⟨IntKind.i64.wrap (l.f+x.ag),IntKind.i64.wrap (l.s+x.hg),IntKind.i64.wrap (l.af+x.ag),l.as',x.ap,x.hp⟩
def Ai1 {l:Ic}{i k:Nat}{x:BC}(a:Sz l k)(b:k≤2)(hx:DS x):SQ l i x=QG l i x:=by obtain⟨_,⟨c,d⟩,⟨e,f⟩,_⟩:=hx;unfold Sz at a;unfold SQ QG;split;{rw[RK J,RK J,RK J]};{rw[RK J,RK J,RK J]}
def XC (g:Prop) (ls:CX) (k:Nat) (z:Ic):Prop:=g→z=Lx 0 Rf (ls.take k)
def Ax8 {g:Prop}{ls:CX}{k:Nat}{z:Ic}(c:XC g ls k z)(hg:g→ls.length≤2∧∀x∈ls,DS x)(a:k<ls.length):XC g ls (k+1) (SQ z k (ls.getD k AV)):=by intro q;obtain⟨h1,h2⟩:=hg q;have b:=Avm (ls:=ls.take k) (λx hx=>h2 x (Mh hx));rw[←c q,CF,QA J]at b;(have hm:ls.getD k AV∈ls:=by{rw[Dr,Bw a];exact Po a});(have d:ls.take (k+1)=ls.take k++[ls.getD k AV]:=by{rw[LF,Bw a,Dr,Bw a];rfl});rw[Ai1 b J (h2 _ hm),d,aE,←c q,Dy,CF,QA J]
def XM (z:Ic) (t:AT):Int×Int:=if z.f=z.s∧t.legs=2∧t.away=true then(z.af,z.as')else(z.f,z.s)
def XO (z:Ic) (t:AT):Int×Int:=if(XM z t).1=(XM z t).2 then(z.pf,z.ps)else XM z t
def Ai2 (d:Bv)(t:AT):HA d t=XO (Mv d) t:=rfl
def NE (d:Bv) (p:Int×Int):Value:=.tuple #[O (if p.2<p.1 then d.a else d.b),.bool (decide (p.2<p.1∨p.1<p.2))]
def Arm {d:Bv}{t:AT}(h:DY d t):NE d (HA d t)=HD d t:=by have:=Acs d t;unfold NE HD;rw[if_pos h,Axp h,this];by_cases k1:(HA d t).2<(HA d t).1;{rw[if_pos k1,if_pos (show 0<(HA d t).1-(HA d t).2 by omega),if_pos k1,decide_eq_true (Or.inl k1)];rfl};{rw[if_neg k1,if_neg (show¬0<(HA d t).1-(HA d t).2 by omega),if_neg k1];by_cases k2:(HA d t).1<(HA d t).2;{rw[if_pos k2,decide_eq_true (Or.inr k2)];rfl};{rw[if_neg k2,decide_eq_false J];rfl}}
def bK (h:U)(s:Ca)(d:Bv)(t:AT)(ad:Js h (s,d))(hn:s.n≤4611686018427387904):Az prog 68 #[IN s d,GF t] h (λu _=>∃c b,u=.tuple #[O c,.bool b]∧(FM h s d→u=HD d t)):=by
 refine BB func68 λ_ _=>?_;have hx:=ad.1;dsimp only at hx;have am:=hx.len;by_cases f:DY d t
 ·have aj:=f;unfold DY at aj
  have ac:∀z,XC (FM h s d) d.ls s.n z→∀u,u=NE d (XO z t)→∃c b,u=.tuple #[O c,.bool b]∧(FM h s d→u=HD d t):=λz an u e=>⟨_,_,e,λg=>by
   rw[e,an g,By J,←Arm f,Ai2];rfl⟩
  have ab:FM h s d→d.ls.length≤2∧∀x∈d.ls,DS x:=λg=>⟨by have:=g.few;omega,g.ok⟩;generalize FM h s d=G at *;generalize HD d t=ah at *;clear ad f;(repeat'(first|refine Ba ?_|(apply AE;(iterate 3 exact F);apply Ci (e:=42);exact F;intro b2)|(apply AE;(iterate 3 exact F);apply Ci (e:=24);exact F;intro b3)|refine Eo ?_|(refine Y ?_ ?_<;>intro hc<;>try omega)|fail));(all_goals try omega);refine Bg (X:=Nat×Ic) (λx=>x.1≤s.n∧XC G d.ls x.1 x.2) (λx=>s.n-x.1) (λx=>[(12,O x.1),(6,O x.2.f),(7,O x.2.s),(8,O x.2.af),(9,O x.2.as'),(10,O x.2.pf),(11,O x.2.ps),(2,DP b2),(3,DP b3)]) (λ_=>[Ap b2 42 (Nw s d),Ap b3 24 (Mw t)]) (λ_=>h) (0,Rf) ⟨Ah,λ_=>rfl⟩ Af Ad rfl ?_;rintro⟨k,z⟩ ⟨al,i⟩ v;dsimp only at al i v ⊢;by_cases ae:k<s.n
  ·have a1:=hx.addrD ae;have c1:Au h ((addrD s.A).add (k*ID.size)) (Cc (d.ls.getD k AV)):=hx.cellsD AV ae;have af:=Ax8 i ab (show k<d.ls.length by omega);have h3:=v (k+1,SQ z k (d.ls.getD k AV)) ⟨Ah,af⟩ Ah;dsimp only at h3;generalize d.ls.getD k AV=x at *;clear v af i ac ab;obtain⟨n,zs,l,m,o,r⟩:=z;unfold SQ at h3;dsimp only at h3 ⊢;by_cases k0:k=0
   ·simp only[if_pos k0]at h3;(repeat'(first|refine Ba ?_|(apply AE;(iterate 3 exact F);apply Bo (e:=38);exact F;intro ai)|(refine Z (by apply dH (q:=1);(iterate 3 exact F);omega) ?_)|(refine Z (by apply wI;(iterate 3 exact F)) ?_)|refine BF ?_|refine Z Bf ?_|refine Z BN ?_|(refine Y ?_ ?_<;>intro hc<;>try omega)|fail))
    all_goals first
     |omega
     |(refine AB Af Ad h3)
   ·simp only[if_neg k0]at h3;(repeat'(first|refine Ba ?_|(apply AE;(iterate 3 exact F);apply Bo (e:=38);exact F;intro ai)|(refine Z (by apply dH (q:=1);(iterate 3 exact F);omega) ?_)|(refine Z (by apply wI;(iterate 3 exact F)) ?_)|refine BF ?_|refine Z Bf ?_|refine Z BN ?_|(refine Y ?_ ?_<;>intro hc<;>try omega)|fail))
    all_goals first
     |omega
     |(refine AB Af Ad h3)
  ·(have ek:k=s.n:=by omega);rw[ek]at i;have hw:=ac z i;clear v ac ab i;obtain⟨n,zs,l,m,o,r⟩:=z;obtain⟨ao,ag⟩:=t;(have j:∀p:Int×Int,XO ⟨n,zs,l,m,o,r⟩ ⟨ao,ag⟩=p→∃c b,NE d p=.tuple #[O c,.bool b]∧(G→NE d p=ah):=λp e=>by{subst e;exact hw _ rfl});unfold XO XM at j;dsimp only at j ⊢;(have y:∀a b:Int,b<a→NE d (a,b)=.tuple #[O d.a,.bool true]:=λa b q=>by unfold NE;dsimp only;rw[if_pos q,decide_eq_true (Or.inl q)])
   have aa:∀a b:Int,¬b<a→NE d (a,b)=.tuple #[O d.b,.bool (FR a b)]:=λa b q=>by
    unfold NE;dsimp only;rw[if_neg q,OO];by_cases w:a<b;{rw[decide_eq_true (Or.inr w),decide_eq_true w]};{rw[decide_eq_false J,decide_eq_false w]}
   cases ag
   all_goals
    repeat'(first|refine Aa ?_|(refine Y ?_ ?_<;>intro hc<;>try omega)|refine AF ?_|(refine AG ?_ ?_<;>intro hc<;>try omega)|fail)
   (all_goals try omega);(all_goals(try(exfalso;simp at hc;done)))
   all_goals first
    |(
       refine EG rfl rfl rfl rfl ?_
       first
        |(have:=j (n,zs) (by grind);first|(rw[y n zs J]at this;exact this)|(rw[aa n zs J]at this;exact this))
        |(have:=j (l,m) (by grind);first|(rw[y l m J]at this;exact this)|(rw[aa l m J]at this;exact this))
        |(have:=j (o,r) (by grind);first|(rw[y o r J]at this;exact this)|(rw[aa o r J]at this;exact this)))
 ·have ak:=Aax f;unfold DY at f;rw[am]at f;(repeat'(first|refine Aa ?_|(refine Aj ?_;intro b)|(refine Y ?_ ?_<;>intro hc<;>try omega)|fail))
  all_goals first
   |omega
   |(exact EG rfl rfl rfl rfl ⟨_,_,rfl,λ_=>ak.symm⟩)
def Atf (h:U)(s:Ca)(d:Bv)(t:AT)(ai:Js h (s,d)):Aq prog 114 #[IN s d,GF t] h (O (Ie d t)):=by
 refine AK func114 λ_ _=>?_;have hx:=ai.1;dsimp only at hx;have ak:=hx.len;have w:=Abt (d:=d) (t:=t);have p:=λk x hx hr=>oP (d:=d) (t:=t) k (x:=x) hx hr;have hlg:=λk hr i hi v=>Abu (d:=d) (t:=t) k hr (i:=i) hi v;have o:=NF (d:=d) (t:=t);generalize Ie d t=ac at *;have hr:=Wq h t;have r:=fM h d.a;have u:=fM h d.b;by_cases h0:MX d t
 ·have ag:=h0;obtain⟨ab,am,an,ar,au⟩:=ag;rw[decide_eq_true ab]at hr;rw[decide_eq_true am]at r;rw[decide_eq_true an]at u;(have av:(s.n:Int)≤t.legs:=by omega);(have ao:s.n≤2:=by unfold EN at ab;omega);(repeat'(first|refine Ba ?_|(apply AE;(iterate 3 exact F);apply Ci (e:=42);exact F;intro b2)|(apply AE;(iterate 3 exact F);apply Ci (e:=24);exact F;intro b3)|refine Eo ?_|(refine Ac ?_;first|(refine MT ?_)|(apply Aw;exact F;exact Ab func107;(first|exact r|exact u)))|(refine Y ?_ ?_<;>intro hc<;>try omega)|refine AF ?_|(refine AG ?_ ?_<;>intro hc<;>try omega)|fail));(all_goals(try(exfalso;simp at hc;done)));(all_goals try omega);refine Bg (X:=Nat) (λk=>k≤s.n∧∀y∈d.ls.take k,DS y) (λk=>s.n-k) (λk=>[(5,O k),(2,DP b2),(3,DP b3)]) (λ_=>[Ap b2 42 (Nw s d),Ap b3 24 (Mw t)]) (λ_=>h) 0 ⟨J,An⟩ Af Ad rfl ?_;rintro k ⟨aj,j⟩ a;by_cases f:k<s.n
  ·have a1:=hx.addrD f;have c1:Au h ((addrD s.A).add (k*ID.size)) (Cc (d.ls.getD k AV)):=hx.cellsD AV f;have af:=BY AV (xs:=d.ls) ak f;have hm:=Ce AV (show k<d.ls.length by omega);generalize d.ls.getD k AV=x at *;have hck:=Abv h x;by_cases m:DS x
   ·rw[if_pos m]at hck
    have h3:=a (k+1) ⟨J,λy hy=>by
     rw[af,AO,Bk]at hy;rcases hy with hy|rfl;{exact j y hy}
     ·exact m⟩ J
    clear a;(repeat'(first|refine Aa ?_|refine Z Bf ?_|refine Z BN ?_|(refine Ac ?_;first|(apply Aw;exact F;exact Ab func66;exact hck))|(refine Y ?_ ?_<;>intro hc<;>try omega)|fail))
    all_goals first
     |(exfalso;simp at hc;done)
     |omega
     |(refine AB Af Ad h3)
   ·rw[if_neg m]at hck;have c:=p h0 x hm m;clear a o;(repeat'(first|refine Aa ?_|refine Z Bf ?_|refine Z BN ?_|(refine Ac ?_;first|(apply Aw;exact F;exact Ab func66;exact hck))|(refine Y ?_ ?_<;>intro hc<;>try omega)|fail))
    all_goals first
     |(exfalso;simp at hc;done)
     |omega
     |(exact BS rfl rfl rfl (by rw[c]))
  ·rw[By J]at j;clear a p w;have q:=hlg h0 j;have z:(∀i,i<s.n→KL d i (d.ls.getD i AV))→ac=0:=λk=>o.2 ⟨h0,j,λi hi=>k i J⟩;clear o hlg;(repeat'(first|refine Aa ?_|(refine Y ?_ ?_<;>intro hc<;>try omega)|fail));(all_goals try omega);refine Bg (X:=Nat) (λk=>k≤s.n∧∀i,i<k→KL d i (d.ls.getD i AV)) (λk=>s.n-k) (λk=>[(7,O k),(2,DP b2),(3,DP b3)]) (λ_=>[Ap b2 42 (Nw s d),Ap b3 24 (Mw t)]) (λ_=>h) 0 ⟨J,λi hi=>absurd hi J⟩ Af Ad rfl ?_;rintro k ⟨aj,hL⟩ a;by_cases f:k<s.n
   ·have a1:=hx.addrD f;have c1:Au h ((addrD s.A).add (k*ID.size)) (Cc (d.ls.getD k AV)):=hx.cellsD AV f;have c0:Au h ((addrD s.A).add (0*ID.size)) (Cc (d.ls.getD 0 AV)):=hx.cellsD AV (show 0<s.n by omega);(have ae:d.ls.getD 0 AV=d.ls.headD AV:=by cases d.ls<;>rfl);have aa:=kH h s d k;have g:=q k J
    have h3:=λ(v:KL d k (d.ls.getD k AV))=>a (k+1) ⟨J,λi hi=>by
     by_cases e:i=k;{rw[e];exact v}
     ·exact hL i J⟩ J
    rw[ae]at c0;unfold KL DM at h3 g;generalize d.ls.headD AV=y0 at *;generalize d.ls.getD k AV=x at *;generalize MI d k=al at *;generalize MH d k=lb at *;clear a hL q;by_cases l:x.g.h=al∧x.g.a=lb∧8≤x.g.c∧x.g.s=y0.g.s∧x.g.c=y0.g.c
    ·have ah:=h3 l;obtain⟨l1,l2,l3,ap,aq⟩:=l;clear h3 g;(repeat'(first|refine Ba ?_|(apply AE;(iterate 3 exact F);apply Bo (e:=36);exact F;intro ad)|refine BF ?_|refine Z Bf ?_|(refine Z (by apply BA;exact F;first|exact BH rfl c1 rfl|exact GA rfl c1 rfl) ?_)|(refine Ac ?_;first|(apply Aw;exact F;exact Ab func67;exact aa))|(apply AU (n:=14) 37 [0,1,2,3,4,5,6,7,8,9,10,11,12,13,14,15,16,17,18,19,20,21,22,23,24,25,26,27,28,29,30,31,32,33,34,35,36];kernel_rfl)|(apply Be;exact Bd;(first|exact TT|(apply BA;exact F;first|exact GA rfl c0 rfl|exact LI rfl c0 rfl));exact AX)|(refine Db ?_ ?_<;>intro hc<;>try omega)|(refine Y ?_ ?_<;>intro hc<;>try omega)|fail))
     all_goals first
      |omega
      |(refine AB Af Ad ah)
    ·have c:=g l;clear h3 g;(repeat'(first|refine Ba ?_|(apply AE;(iterate 3 exact F);apply Bo (e:=36);exact F;intro ad)|refine BF ?_|refine Z Bf ?_|(refine Z (by apply BA;exact F;first|exact BH rfl c1 rfl|exact GA rfl c1 rfl) ?_)|(refine Ac ?_;first|(apply Aw;exact F;exact Ab func67;exact aa))|(apply AU (n:=14) 37 [0,1,2,3,4,5,6,7,8,9,10,11,12,13,14,15,16,17,18,19,20,21,22,23,24,25,26,27,28,29,30,31,32,33,34,35,36];kernel_rfl)|(apply Be;exact Bd;(first|exact TT|(apply BA;exact F;first|exact GA rfl c0 rfl|exact LI rfl c0 rfl));exact AX)|(refine Db ?_ ?_<;>intro hc<;>try omega)|(refine Y ?_ ?_<;>intro hc<;>try omega)|fail))
     all_goals first
      |(exact BS rfl rfl rfl (by rw[c]))
      |(exfalso;apply l;refine⟨?_,?_,?_,?_,?_⟩<;>first|assumption|omega)
   ·have c:=z λi hi=>hL i J;clear a z q;(repeat'(first|refine Aa ?_|(refine Y ?_ ?_<;>intro hc<;>try omega)|fail))
    all_goals first
     |omega
     |(exact BS rfl rfl rfl (by rw[c]))
 ·have c:=w h0;clear w p hlg o;(repeat'(first|refine Aa ?_|(refine Aj ?_;intro b)|(refine Ac ?_;first|(refine MT ?_)|(apply Aw;exact F;exact Ab func107;(first|exact r|exact u)))|(refine Y ?_ ?_<;>intro hc<;>try omega)|refine AF ?_|(refine AG ?_ ?_<;>intro hc<;>try omega)|fail))
  all_goals first
   |(exact BS rfl rfl rfl (by rw[c]))
   |(exfalso;apply h0;refine⟨?_,?_,?_,?_,?_⟩<;>first|assumption|omega)
end Go.Hw
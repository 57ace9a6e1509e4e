import Derived.Test.YtbmffdagfjepgaaGreatDoorBC
set_option linter.all false
set_option maxRecDepth 100000
set_option maxHeartbeats 8000000
namespace Go.Hw
open Go
attribute [local irreducible] AI Bz BV Aq AP Az Au CH Ap Ar BG Cm BP Dg
open Go.Proofs.Tryz
def mL (b m f:Nat):(((Av b):Addr).add m).add f=⟨b,m+f,none⟩:=by rw[GC,GC,Dy]
def Auj (b m:Nat):((Av b):Addr).add m=⟨b,m,none⟩:=by rw[GC,Dy]
def Aq9 (l:Fj)(i:Nat)(z:HO):AZ (l.set i z)=(AZ l).set i z.2:=by unfold AZ;exact List.map_set
def Ax2 (l:EH)(n:Nat):rounds (l.take n)=(rounds l).take n:=by unfold rounds;exact Yi
structure US (h:U) (s:Ca) (l:EH) (t:AT) (x:BC) (R:FT) (m:CM) (e:Bv) (i:Nat) (ps:Ca) (d:Bv):Prop where
 rm:R∈l
 at':R.2[i]?=some (ps,d)
 eq:e=⟨d.a,d.b,d.ls++[x]⟩
 set:m=(AZ R.2).set i e
 wait:Fw d t x
 pos:0<R.1.n
 dok:KR d t
def US.dug {h h':U}{s:Ca}{l:EH}{t:AT}{x:BC}{R:FT}{m:CM}{e:Bv}{i:Nat}{ps:Ca}{d:Bv}(q:US h s l t x R m e i ps d)(hx:DS x)(a:d.ls.length=ps.n){A:At}{c:Nat}(hs:Ai Cc 13 h' A (ps.n+1) (d.ls++[x]))(hc:ps.n+1≤c):FM h' ⟨A,ps.n+1,c⟩ e:=by rw[q.eq];refine⟨⟨hs,hc⟩,?_,λy hy=>?_⟩;{have h1:=q.wait.1;have h2:=q.dok.ok0.1;unfold DY at h1;unfold EN at h2;show ps.n+1≤2;omega};{rcases AO.1 hy with w|w;{exact q.dok.res y w};{rw[Bk.1 w];exact hx}}
def US.round {h h':U}{s:Ca}{l:EH}{t:AT}{x:BC}{R:FT}{m:CM}{e:Bv}{i:Nat}{ps:Ca}{d:Bv}(q:US h s l t x R m e i ps d)(a:IY h' R){z:Ca}(b:Js h' (z,e)){A:At}{c:Nat}(hs:Ai Dv 3 h' A R.1.n (R.2.set i (z,e)))(hc:R.1.n≤c):IY h' (⟨A,R.1.n,c⟩,R.2.set i (z,e)):=
 ⟨⟨hs,λp hp=>by
  rcases Ayu hp with w|w
  · exact a.1.each p w
  · rw[w];exact b⟩,hc⟩
def UG {h:U}{A:At}{n c k:Nat}{l q:EH}{t:AT}{m:Hs}(a:∀r∈l,IY h r)(hq:∀r∈q,IY h r)(hs:Ai Ez 1 h A n (l.take k++q))(hc:n≤c)(hm:rounds q=m):KJ h (.tuple #[Jh ⟨A,n,c⟩ t,O 0]) ⟨t,(rounds l).take k++m⟩ 0:=
 ⟨⟨A,n,c⟩,l.take k++q,rfl,⟨⟨hs,λr hr=>by
  rcases AO.1 hr with w|w
  · exact a r (Mh w)
  · exact hq r w⟩,by
    show(rounds l).take k++m=rounds (l.take k++q)
    rw[←hm,←Ax2]
    unfold rounds;rw[DI],hc⟩⟩
def Aaw (d:Bv)(t:AT)(h:¬(DY d t∧Dd d t=none)):∃w ok,HD d t=.tuple #[O w,.bool ok]∧(decide (DY d t)=true→ok=true):=by cases hw:Dd d t with|none=>(obtain⟨q,hq⟩:=Oo hw;exact⟨q,false,hq,λk=>absurd ⟨of_decide_eq_true k,hw⟩ h⟩)|some w=>exact⟨w,true,QJ hw,λ_=>rfl⟩
def Av0 {t:AT}{x:BC}{l:CM}{i:Nat}(h:LA t x l 0=((0+i:Nat):Int)):LA t x l 0=(i:Int):=by rw[h];congr 1;omega
open Classical in
theorem zN (h:U)(s:Ca)(l:EH)(t:AT)(an:Mu h s.A s.n l)(hnc:s.n≤s.c)(hs:Ms s l)(x:BC):Az prog 13 #[Jh s t,GE x] h (λu h'=>KJ h' u (Dw ⟨t,rounds l⟩ x).1 (Dw ⟨t,rounds l⟩ x).2):=by
 refine BB func13 λ_ _=>?_;have hck:=λh' (g:V h h')=>oO h' s l t (an.le g) hs;have hrc:=λh'=>yF h' x;by_cases a:DW ⟨t,rounds l⟩
 case' neg=>
  simp only[decide_eq_false a]at hck
  rw[Acy a]
  dsimp only
  clear hrc
  repeat'(first|refine Ba ?_|(apply AE;(iterate 3 exact F);apply Ci (e:=29);exact F;intro b2)|(apply AE;(iterate 3 exact F);apply Ci (e:=38);exact F;intro b3)|(apply AE;(iterate 3 exact F);apply Bo (e:=29);exact F;intro ac)|refine BF ?_|(refine Ac ?_;first|(refine NX ?_;rintro ba h2 a8 rfl))|(refine Y ?_ ?_<;>intro hc<;>try omega)|fail)
  all_goals first
   |(exfalso;simp at hc;done)
   |(exact Dl rfl rfl rfl Bc rfl rfl rfl (Gu _ _))
 simp only[decide_eq_true a]at hck;by_cases ag:DS x
 case' neg=>
  simp only[if_neg ag]at hrc
  rw[Acz a ag]
  dsimp only
  repeat'(first|refine Ba ?_|(apply AE;(iterate 3 exact F);apply Ci (e:=29);exact F;intro b2)|(apply AE;(iterate 3 exact F);apply Ci (e:=38);exact F;intro b3)|(apply AE;(iterate 3 exact F);apply Bo (e:=29);exact F;intro ac)|refine BF ?_|(refine Ac ?_;first|(refine NX ?_;rintro ba h2 a8 rfl)|(refine WO ?_;rintro v3 h3 bl rfl))|(refine Y ?_ ?_<;>intro hc<;>try omega)|fail)
  all_goals first
   |(exfalso;simp at hc;done)
   |omega
   |(exact Dl rfl rfl rfl Bc rfl rfl rfl (Gu _ _))
 simp only[if_pos ag]at hrc;have dk:=an.row.len;have ay:=an.row;(have dr:(rounds l).length=s.n:=by rw[KG,dk])
 have h0:0<s.n:=by
  rcases Of s.n with e|e;{exact absurd (Fu (show(rounds l).length=0 by omega)) a.some};{exact e}
 obtain⟨bk,df⟩:=Aas dr h0;have es:=hs.few;have ra:=ay.addrD (show s.n-1<s.n by omega);have rc:Au h ((addrD s.A).add ((s.n-1)*JV.size)) (Ez (l.getD (s.n-1) CA)):=ay.cellsD CA (show s.n-1<s.n by omega);have bf:=Ce CA (show s.n-1<l.length by omega);rw[PF]at bk;have am:=an.each _ bf;have db:=hs.each _ bf;have aw:=dU a;dsimp only at aw;rw[bk]at aw;have a4:=a.rounds _ aw;have bg:=(a.rnd _ aw).pow;dsimp only at a4;rw[GD]at bg;have aq:=Ado a ag;have ar:=λm e k c=>zM a ag (m:=m) (d:=e) k c;have ak:=λm e k c=>Ac0 a ag (m:=m) (d:=e) k c;dsimp only at aq ar ak;rw[bk]at aq ar ak;rw[df]at ak;generalize l.getD (s.n-1) CA=R at *;have b9:=am.1.row.len;(have b':0<R.1.n:=by unfold NK at bg;omega);have hclo:=λh' (g:V h h')=>AP.formB b' (As1 h' R.1.A R.1.n R.1.c R.2 (am.1.row.le g) J);have hidx:=λh' b7 c7 b2 b3=>Auz h' b7 c7 b2 b3 R.1.n s t x R.2 b9 J λp hp=>(am.1.each p hp).len;generalize ei:Dw ⟨t,rounds l⟩ x=b0 at *;cases hen:Fc (AZ R.2) t x with
 |none=>
  rw[aq hen];dsimp only;rw[mT 0 hen]at hidx;clear aq ar ak;(repeat'(first|refine Ba ?_|(apply AE;(iterate 3 exact F);apply Ci (e:=29);exact F;intro b2)|(apply AE;(iterate 3 exact F);apply Ci (e:=38);exact F;intro b3)|(apply AE;(iterate 3 exact F);apply Bo (e:=29);exact F;intro ac)|refine BF ?_|refine Z RX ?_|refine Z Xq ?_|(refine Ac ?_;first|(refine NX ?_;rintro ba h2 a8 rfl)|(refine WO ?_;rintro v3 h3 bl rfl)|(refine cO ?_;rintro v4 b1 ab cl ⟨b7,c7,ca,rfl,rfl⟩)|(refine bO ?_))|(refine Y ?_ ?_<;>intro hc<;>try omega)|refine AF ?_|(refine AG ?_ ?_<;>intro hc<;>try omega)|fail))
  all_goals first
   |(exfalso;simp at hc;done)
   |omega
   |(exact Dl rfl rfl rfl Bc rfl rfl rfl (Gu _ _))
 |some w=>
 obtain⟨m,e⟩:=w;obtain⟨i,d,hi,hw,ai,du,cg,bp⟩:=mU 0 hen;have hw:=Av0 hw;rw[hw]at hidx;(obtain⟨ps,a9⟩:∃ps,R.2[i]?=some (ps,d):=by{unfold AZ at ai;rw[FG]at ai;cases ad:R.2[i]? with|none=>(rw[ad]at ai;cases ai)|some p=>rw[ad]at ai;cases ai;exact⟨p.1,rfl⟩});(have ek:i<R.1.n:=by rw[GD]at hi;omega);have cp:(ps,d)∈R.2:=Oi a9;have cd:=am.1.each _ cp;have bh:=cd.len;dsimp only at bh;have a3:US h s l t x R m e i ps d:=⟨bf,a9,cg,bp,du,b',(a4 d (CZ.2 ⟨_,cp,rfl⟩)).1⟩;have au:=ar m e hen;have bd:=ak m e hen;clear aq ar ak hw ai hi aw bg;by_cases b8:8≤x.g.c
 case' neg=>
  rw[au (λk=>b8 k.1)]
  dsimp only
  clear au bd
  repeat'(first|refine Ba ?_|(apply AE;(iterate 3 exact F);apply Ci (e:=29);exact F;intro b2)|(apply AE;(iterate 3 exact F);apply Ci (e:=38);exact F;intro b3)|(apply AE;(iterate 3 exact F);apply Bo (e:=29);exact F;intro ac)|refine BF ?_|refine Z RX ?_|refine Z Xq ?_|(refine Ac ?_;first|(refine NX ?_;rintro ba h2 a8 rfl)|(refine WO ?_;rintro v3 h3 bl rfl)|(refine cO ?_;rintro v4 b1 ab cl ⟨b7,c7,ca,rfl,rfl⟩)|(refine bO ?_))|(refine Y ?_ ?_<;>intro hc<;>try omega)|refine AF ?_|(refine AG ?_ ?_<;>intro hc<;>try omega)|fail)
  all_goals first
   |(exfalso;simp at hc;done)
   |omega
   |(exact Dl rfl rfl rfl Bc rfl rfl rfl (Gu _ _))
 have aj:(¬∀y∈EA (rounds l),DM y x)→b0=(Gf,210):=λk=>au (λw=>k w.2.1);have af:DY e t∧Dd e t=none→b0=(Gf,210):=λk=>au (λw=>w.2.2 k);have al:(∀y∈EA (rounds l),DM y x)→¬(DY e t∧Dd e t=none)→_:=λk k2=>bd ⟨b8,k,k2⟩;have a6:=a.cup;rw[Aai]at a6;dsimp only at a6;clear au bd;(repeat'(first|refine Ba ?_|(apply AE;(iterate 3 exact F);apply Ci (e:=29);exact F;intro b2)|(apply AE;(iterate 3 exact F);apply Ci (e:=38);exact F;intro b3)|(apply AE;(iterate 3 exact F);apply Bo (e:=29);exact F;intro ac)|refine Eo ?_|refine Z RX ?_|refine Z Xq ?_|(refine Ac ?_;first|(refine NX ?_;rintro ba h2 a8 rfl)|(refine WO ?_;rintro v3 h3 bl rfl)|(refine cO ?_;rintro v4 b1 ab cl ⟨b7,c7,ca,rfl,rfl⟩)|(refine bO ?_))|(refine Y ?_ ?_<;>intro hc<;>try omega)|refine AF ?_|(refine AG ?_ ?_<;>intro hc<;>try omega)|fail));(all_goals(try(exfalso;simp at hc;done)));(all_goals try omega);have cj:V h ab:=Ag;clear hck hrc hclo hidx rc;refine Bg (X:=Nat) (λj=>j≤s.n∧∀r∈(rounds l).take j,∀d∈r,d.ls≠[]→DM (d.ls.headD AV) x) (λj=>s.n-j) (λj=>[(53,O j),(52,O s.n),(51,.slice s.A s.n s.c),(7,.slice (some (Av b7)) R.1.n c7),(8,O i),(6,O ((s.n:Int)-1)),(2,DP b2),(3,DP b3),(4,DP ac)]) (λ_=>[Ar 42 3 (.slice (some (Av b7)) R.1.n c7) R.1.n (R.2.flatMap Dv),Ap b2 29 (Ge s t),Ap b3 38 (Cc x),Ap ac 29 (BX NA.zero)]) (λ_=>ab) 0 ⟨J,An⟩ Af Ad rfl ?_;rintro j ⟨hj,av⟩ bv;by_cases hjn:j<s.n
 ·have dx:=ay.addrD hjn;have rc1:Au ab ((addrD s.A).add (j*JV.size)) (Ez (l.getD j CA)):=(ay.cellsD CA hjn).le cj;have bo:=Ce CA (show j<l.length by omega);have bu:=(an.each _ bo).le cj;have cu:=XV l (i:=j) J;have dg:AZ (l.getD j CA).2∈rounds l:=CZ.2 ⟨_,bo,rfl⟩
  have bw:=λ(k:∀d∈AZ (l.getD j CA).2,d.ls≠[]→DM (d.ls.headD AV) x)=>bv (j+1) ⟨J,by
   rw[cu];intro r hr;rcases AO.1 hr with w|w;{exact av r w}
   ·rw[Bk.1 w];exact k⟩ J
  generalize l.getD j CA=R1 at *;have eg:=bu.1.row.len;have b5:=bu.1.row;have eh:=hs.each _ bo;clear bv cu;(repeat'(first|refine Aa ?_|(refine Z (by apply Cs (j:=j) (n:=s.n);(iterate 5 exact F);exact dx;(with_reducible exact F);omega) ?_)|(refine Z (by apply BA;exact F;exact BH rfl rc1 rfl) ?_)|(refine Y ?_ ?_<;>intro hc<;>try omega)|fail));(all_goals try omega);refine Bg (X:=Nat) (λk=>k≤R1.1.n∧∀d∈AZ (R1.2.take k),d.ls≠[]→DM (d.ls.headD AV) x) (λk=>R1.1.n-k) (λk=>[(59,O k),(58,O R1.1.n),(57,.slice R1.1.A R1.1.n R1.1.c),(53,O j),(52,O s.n),(51,.slice s.A s.n s.c),(7,.slice (some (Av b7)) R.1.n c7),(8,O i),(6,O ((s.n:Int)-1)),(2,DP b2),(3,DP b3),(4,DP ac)]) (λ_=>[Ar 42 3 (.slice (some (Av b7)) R.1.n c7) R.1.n (R.2.flatMap Dv),Ap b2 29 (Ge s t),Ap b3 38 (Cc x),Ap ac 29 (BX NA.zero)]) (λ_=>ab) 0 ⟨J,λd dd=>absurd dd (by rw[Ia];simp[AZ])⟩ Af Ad rfl ?_;rintro k ⟨el,hK⟩ bx;by_cases ch:k<R1.1.n
  ·have a1:=b5.addrD ch;have c1:Au ab ((addrD R1.1.A).add (k*Iq.size)) (Dv (R1.2.getD k BE)):=b5.cellsD BE ch;have cn:=Ce BE (show k<R1.2.length by omega);have ce:=bu.1.each _ cn;have hsn:=Mk R1.2 (j:=k) J;generalize R1.2.getD k BE=p at *;obtain⟨ap,aa⟩:=p;have br:=ce.len;have bs:=ce.1;dsimp only at br hsn bs;have dl:aa∈AZ R1.2:=CZ.2 ⟨_,cn,rfl⟩
   have az:=λ(w:aa.ls≠[]→DM (aa.ls.headD AV) x)=>bx (k+1) ⟨J,by
    rw[hsn];intro cy de;rcases AO.1 de with v|v;{exact hK cy v}
    ·rw[Bk.1 v];exact w⟩ J
   clear bx bw hsn hK av;by_cases dw:ap.n=0
   ·have ad:=az λw=>absurd (Fu J) w;clear az aj af al;(repeat'(first|refine Ba ?_|(apply AE;(iterate 3 exact F);apply Bo (e:=42);exact F;intro b4)|refine BF ?_|refine Z cC ?_|refine Z BN ?_|(apply AU (n:=17) 13 [0,1,2,3,4,5,6,7,8,9,99,10,99,11,12];kernel_rfl)|(refine Db ?_ ?_<;>intro hc<;>try omega)|(refine Y ?_ ?_<;>intro hc<;>try omega)|(apply KS;exact F;kernel_rfl;exact F;exact F)))
    all_goals first
     |omega
     |(refine AB Af Ad ad)
   ·have a0:=bs.addrD (show 0<ap.n by omega);have c0:Au ab ((addrD ap.A).add (0*ID.size)) (Cc (aa.ls.getD 0 AV)):=bs.cellsD AV (show 0<ap.n by omega);(have cz:aa.ls.getD 0 AV=aa.ls.headD AV:=by cases aa.ls<;>rfl);rw[cz]at c0;have dq:aa.ls≠[]:=λw=>dw (by rw[w]at br;exact br.symm);have dm:=Apd dg dl dq;have hsc:=iF ab (aa.ls.headD AV) x;generalize aa.ls.headD AV=y0 at *;by_cases a5:DM y0 x
    ·have ad:=az λ_=>a5;rw[decide_eq_true a5]at hsc;clear az aj af al;(repeat'(first|refine Ba ?_|(apply AE;(iterate 3 exact F);apply Bo (e:=42);exact F;intro b4)|refine BF ?_|refine Z cC ?_|refine Z Xa ?_|(apply AU (n:=17) 13 [0,1,2,3,4,5,6,7,8,9,99,10,99,11,12];kernel_rfl)|(apply Be;exact Bd;(first|(apply Cs (j:=0) (n:=ap.n);(iterate 5 exact F);exact a0;omega;omega)|exact Xa);exact AX)|(refine Bn ?_;first|(apply Aw;exact F;exact Ab func40;exact hsc;refine⟨V.refl _,Ak,?_⟩))|(refine Db ?_ ?_<;>intro hc<;>try omega)|(refine Y ?_ ?_<;>intro hc<;>try omega)|fail))
     all_goals first
      |omega
      |(exfalso;simp at hc;done)
      |(refine AB Af Ad ad)
    ·have da:=aj λk=>a5 (k y0 dm);rw[decide_eq_false a5]at hsc;rw[da];dsimp only;clear az aj af al;(repeat'(first|refine Ba ?_|(apply AE;(iterate 3 exact F);apply Bo (e:=42);exact F;intro b4)|refine BF ?_|refine Z cC ?_|refine Z Xa ?_|(apply AU (n:=17) 13 [0,1,2,3,4,5,6,7,8,9,99,10,99,11,12];kernel_rfl)|(apply Be;exact Bd;(first|(apply Cs (j:=0) (n:=ap.n);(iterate 5 exact F);exact a0;omega;omega)|exact Xa);exact AX)|(refine Bn ?_;first|(apply Aw;exact F;exact Ab func40;exact hsc;refine⟨V.refl _,Ak,?_⟩))|(refine Db ?_ ?_<;>intro hc<;>try omega)|(refine Y ?_ ?_<;>intro hc<;>try omega)|fail))
     all_goals first
      |omega
      |(exfalso;simp at hc;done)
      |(exact Dl rfl rfl rfl Bc rfl rfl rfl (Gu _ _))
  ·rw[By J]at hK;have ad:=bw hK;clear bw bx aj af al;(repeat'(first|refine Aa ?_|(refine Y ?_ ?_<;>intro hc<;>try omega)|fail))
   all_goals first
    |omega
    |(refine AB Af Ad ad)
 rw[By J]at av;have dc:=Apc a6 av;have be:=al dc;clear bv aj al av a6;have ck:=cd.1;dsimp only at ck;(have ej:ps.n≤2:=by have:=Sn a3.dok;omega);have hcr:=λh' (g:V h h')=>AP.form (Asy h' ps.A ps.n ps.c d.ls (ck.le g) J);(repeat'(first|refine Aa ?_|(apply Da (n:=21) [0,1,2,3,4,5,6,7,8,9,10,11,12,13] [(0,0),(1,0),(2,0),(3,0),(4,0),(5,0),(6,0),(8,0),(7,2),(5,9),(9,1),(10,1),(11,0),(12,0),(13,1),(7,1),(10,1),(11,0),(12,0),(13,1)];kernel_rfl)|(apply AU (n:=22) 9 [0,1,2,3,4,5,6,99,7,8];kernel_rfl)|(apply Be;exact Bd;(first|(apply Cs (j:=i) (n:=R.1.n);(iterate 6 exact F);(with_reducible exact F);omega)|(apply Aw6 (enc:=Dv) (f:=2) (k:=i) (sz:=3) (b:=b7) (n:=R.1.n) (c:=c7) (xs:=R.2) (e:=42) (y:=(ps,d));exact F;exact F;exact mL _ _ _;exact Ke;exact a9;exact F)|(apply LW (off:=0) (enc:=Dv) (k:=i) (sz:=3) (b:=b7) (n:=R.1.n) (c:=c7) (xs:=R.2.set i (⟨o,ps.n+1,q⟩,e)) (e:=42) (y:=(⟨o,ps.n+1,q⟩,e));exact F;exact F;exact Auj _ _;exact Ke;(rw[eL J]);exact F));exact AX)|(refine Bn ?_;first|(apply hQ (enc:=Dv) (f:=2) (k:=i) (sz:=3) (b:=b7) (xs:=R.2) (y0:=(ps,d)) (z:=(⟨o,ps.n+1,q⟩,e));exact F;exact F;exact mL _ _ _;exact F;exact Ke;exact a9;(rw[cg];exact F);exact BU 3;exact Bp;exact F;exact F;refine⟨V.refl _,Ak,?_⟩)|(apply Mm;(iterate 3 exact F);exact Bp;(iterate 3 exact F);refine⟨V.refl _,Ak,?_⟩)|(apply Bo;exact F;intro b;refine⟨V.refl _,Ak,?_⟩)|(refine qY ?_;rintro v5 cw c9 bm ⟨A5,c5,rfl,rfl⟩;refine⟨bm,Ak,?_⟩)|(refine Xo ?_;intro b6 c' bn hs6;refine⟨bn,Ak,?_⟩)|(apply CE (enc:=Cc) (xs:=d.ls) (ys:=[x]);(iterate 7 exact F);exact hs6.le Ag;exact Gd;exact Lg;intro v1;exact Bp;omega;exact F;intro o q;refine⟨V.refl _,Ak,?_⟩))|(apply GQ;kernel_rfl;exact F;exact F)|(apply HP;(iterate 4 exact F);(first|(refine qY ?_;rintro v5 cw c9 bm ⟨A5,c5,rfl,rfl⟩;refine⟨bm,Ak,?_⟩)|(refine Xo ?_;intro b6 c' bn hs6;refine⟨bn,Ak,?_⟩)))|(refine Y ?_ ?_<;>intro hc<;>try omega)|fail))
 all_goals
  refine fT (enc:=Cc) (e:=38) (sz:=13) (n:=ps.n+1) (xs:=d.ls++[x]) Gd (by rw[Bt,bh];rfl) Bh ?_
  intro d0 d8 bc en c2 dn cs
  cases c2
  have em:V h bc:=Ag
  have ax:=a3.dug ag bh cs dn
  have a7:=λh'=>Zu h' ⟨o,ps.n+1,q⟩ e t ax.at'.len
  have hwn:=λh' (g:V bc h')=>Tu h' ⟨o,ps.n+1,q⟩ e t (ax.le g)
  by_cases ao:DY e t∧Dd e t=none
  · rw[af ao]
    dsimp only
    simp only[decide_eq_true ao.1]at a7
    obtain⟨w,hw⟩:=Oo ao.2
    rw[hw]at hwn
    clear af be
    repeat'(first|refine AH ?_|(refine Ac ?_;first|(refine Qf ?_;rintro dy c4 dh rfl)|(apply Aw;exact F;exact Ab func42;exact a7 _))|(refine Y ?_ ?_<;>intro hc<;>try omega)|fail)
    all_goals first
     |(exfalso;simp at hc;done)
     |(exact Dl rfl rfl rfl Bc rfl rfl rfl (Gu _ _))
  · rw[be ao]
    dsimp only
    obtain⟨w,ok,dv,hfo⟩:=Aaw e t ao
    rw[dv]at hwn
    generalize decide (DY e t)=ec at *
    have cb:=λh' (g:V h h')=>AP.form (Asz h' (Ig s.A s.c 1) (s.n-1) s.c (l.take (s.n-1)) ((ay.high (hi:=s.n-1) (c:=s.c) J hnc).le g) J)
    clear af be ao
    repeat'(first|refine AH ?_|refine Z pG ?_|(refine Ac ?_;first|(refine Qf ?_;rintro dy c4 dh rfl)|(apply Aw;exact F;exact Ab func42;exact a7 _)|(apply Ed;exact F;exact Ab func43;exact cb _ Ag;exact Ad;rintro et d5 ed eo ⟨d1,d9,rfl,rfl⟩)|(apply DE (enc:=Ez) (n:=1) [(((⟨some (Av b7),R.1.n,c7⟩:Ca),R.2.set i (⟨o,ps.n+1,q⟩,e)):FT)];(iterate 3 exact F);exact Cf _ _;(iterate 4 exact F);exact KF;exact F;exact F;intro d6 ee ep ds)|(apply CE (enc:=Ez) (xs:=l.take (s.n-1));(iterate 7 exact F);exact ds.le Ag;exact KF;exact Sd;intro v1;exact Bp;omega;exact F;intro d2 d'))|(refine Y ?_ ?_<;>intro hc<;>try omega)|refine AF ?_|(refine AG ?_ ?_<;>intro hc<;>try omega)|fail)
    all_goals(try(exfalso;exact absurd (hfo Cn) (by rw[show ok=false by assumption];decide)))
    all_goals
     refine fT (enc:=Dv) (e:=42) (sz:=3) (n:=R.1.n) (xs:=R.2.set i (⟨o,ps.n+1,q⟩,e)) Ke (by rw[Mi];exact b9) Bh ?_
     intro d3 ea a2 eq c3 dp ct
     cases c3
     have bj:V h a2:=Ag
     have ci:V bc a2:=Ag
     have bt:=a3.round (am.le bj) (ax.at'.le ci) ct dp
     have bi:AZ (R.2.set i (⟨o,ps.n+1,q⟩,e))=m:=by rw[Aq9,bp]
     have ah:=vN a2 (some (Av b7)) R.1.n c7 (R.2.set i (⟨o,ps.n+1,q⟩,e)) t bt.1 db (λp hp=>by
      rcases Ayu hp with ae|ae
      · exact FM.of ((am.1.each p ae).le bj) (a4 p.2 (CZ.2 ⟨p,ae,rfl⟩)).1
      · rw[ae];exact ax.le ci)
     rw[bi]at ah
     have cm:(l.take (s.n-1)).length=s.n-1:=by rw[CF];omega
     have cf:∀h',V a2 h'→∀r∈l,IY h' r:=λh' g r hr=>(an.each r hr).le (bj.trans g)
     have cc:=bi
     generalize R.2.set i (⟨o,ps.n+1,q⟩,e)=S at *
     clear a7 hwn ax cb a3 a4 bp bi ct hcr hs6 cs
     cases co:Ej m t with
     |none=>
       rw[co]at ah
       rw[show(none:Option (List Bv)).isSome=false from rfl]at ah
       repeat'(first|refine AH ?_|(refine Ac ?_;first|(apply AR;exact F;exact Ab func44;exact ah;rintro dz c6 di ⟨r2,rfl,cq,cr⟩))|(refine Y ?_ ?_<;>intro hc<;>try omega)|fail)
       all_goals(try(exfalso;simp at hc;done))
       refine EE (enc:=Ez) (e:=80) (sz:=1) (n:=s.n-1+1) (xs:=l.take (s.n-1)++[(((⟨some (Av b7),R.1.n,c7⟩:Ca),S):FT)]) KF (by rw[Bt,cm];rfl) Bh ?_
       intro cv cx c8 dj bb bq a'
       cases bb
       exact Dl rfl rfl rfl Bc rfl rfl rfl (UG (cf _ Ag) (λr hr=>by rw[Bk.1 hr];exact bt.le Ag) a' bq (by show[AZ S]=m::[];rw[cc]))
     |some bz=>
       rw[co]at ah
       rw[show(some bz).isSome=true from rfl]at ah
       repeat'(first|refine AH ?_|(refine Ac ?_;first|(apply AR;exact F;exact Ab func44;exact ah;rintro dz c6 di ⟨r2,rfl,cq,cr⟩)|(refine sI ?_;intro d7 ef er dt)|(apply CE (enc:=Ez) (xs:=l.take (s.n-1)++[(((⟨some (Av b7),R.1.n,c7⟩:Ca),S):FT)]);(iterate 7 exact F);exact dt.le Ag;exact KF;exact Sd;intro v1;exact Bp;omega;exact F;intro d4 eb))|(refine Y ?_ ?_<;>intro hc<;>try omega)|fail)
       all_goals(try(exfalso;simp at hc;done))
       refine EE (enc:=Ez) (e:=80) (sz:=1) (n:=s.n-1+1+1) (xs:=l.take (s.n-1)++[(((⟨some (Av b7),R.1.n,c7⟩:Ca),S):FT)]++[r2]) KF (by rw[Bt,Bt,cm];rfl) Bh ?_
       intro cv cx c8 dj bb bq a'
       cases bb
       rw[Ck]at a'
       exact Dl rfl rfl rfl Bc rfl rfl rfl (UG (cf _ Ag) (λr hr=>by
        rcases AO.1 hr with ae|ae
        · rw[Bk.1 ae];exact bt.le Ag
        · rw[Bk.1 ae];exact cq.le Ag) a' bq (by show[AZ S,AZ r2.2]=m::[bz];rw[cc,cr bz rfl]))
def iN (h:U)(a b x y:Int):Aq prog 9 #[O a,O b,O x,O y] h (GE (Im a b x y 0 0)):=by refine AK func9 λ_ _=>?_;(repeat'(first|refine AH ?_|(refine Aj ?_;intro b)|(apply Ha;(iterate 3 exact F);exact Bc;exact F;exact F)|fail));all_goals rfl
def Aay (h:U)(a:Nat)(d:Bv)(t:AT)(n:Nat)(hn:d.ls.length=n)(u:Int×Int)(e:Mg d t=u) :
  CH prog 10 #[IN ⟨some (Av a),n,n⟩ d,GF t] [Ar 38 13 (.slice (some (Av a)) n n) n (d.ls.flatMap Cc)] h (.tuple #[O u.1,O u.2]):=
 hA λh1 f g b=>by
  obtain⟨A,c,e1,e2,hs⟩:=dN Gd hn b
  cases e1
  have:=Adg h1 ⟨some (Av a),n,n⟩ d t ⟨hs,BU _⟩
  rw[e]at this
  exact Abj this
def Arc (h:U)(a b:Int):Js h (Cl,⟨a,b,[]⟩):=⟨Ai.nil,BU _⟩
def Atw:Ms Cl []:=⟨GT _,λr hr=>(by cases hr),λr hr=>(by cases hr)⟩
def UW {h:U}{s:Ca}{l:EH}{b:CQ}(f:HE h s l b)(g:DW b):Ms s l:=by(have m:(rounds l).length=s.n:=by rw[KG,f.rs.row.len]);have k:=f.is;have hch:=g.chain;have c:=g.rnd;have j:=g.rounds;rw[k]at hch c j;have i:∀r∈l,AZ r.2∈rounds l:=λr hr=>CZ.2 ⟨r,hr,rfl⟩;refine⟨?_,λr hr=>?_,λr hr p hp=>?_⟩;{rw[←m];by_cases d:7<(rounds l).length;{have h1:=yC hch c 7 d;have hm:(rounds l).getD 7 []∈rounds l:=Ce [] d;have h2:=(c _ hm).pow;cases e:rounds l with|nil=>rw[e]at d;simp at d|cons a r=>have h3:=(c a (by rw[e];simp)).pow;rw[e]at h1 h2;simp only[List.headD_cons]at h1;unfold NK at h2 h3;omega};{omega}};{have h3:=(c _ (i r hr)).pow;rw[GD,(f.rs.each r hr).1.row.len]at h3;unfold NK at h3;omega};{have h3:=Sn (j _ (i r hr) p.2 (CZ.2 ⟨p,hp,rfl⟩)).1;have n:=((f.rs.each r hr).1.each p hp).len;omega}
def Ajd (h:U):Aq prog 4 #[] h (.bool true):=by
 refine AK func4 λ_ _=>?_;have r:=λh' a=>Aay h' a (NC 0 0) Rg 2 rfl _ Aqc;have w2:=λh' a=>Aay h' a (NC 4 3) Rg 2 rfl _ Ap9;(have t:∀h',Az prog 10 #[IN Cl ⟨1,2,[]⟩,GF HC] h' (λu _=>u=.tuple #[O 0,O 210]):=λh'=>by{have:=Adg h' Cl ⟨1,2,[]⟩ HC (Arc h' 1 2);rw[Aqa]at this;exact this});(have p:∀h' b,Ai AQ 1 h' (some (Av b)) 3 [1,2,3]→Az prog 11 #[.slice (some (Av b)) 3 3,GF HC] h' (λu h2=>KJ h2 u Gf 190):=λh' b hs=>by{have:=SY h' (some (Av b)) 3 3 [1,2,3] HC hs (BU _);rw[Ap7]at this;exact this});(have q:∀h' b,Ai AQ 1 h' (some (Av b)) 2 [1,2]→Az prog 11 #[.slice (some (Av b)) 2 2,GF ⟨3,false⟩] h' (λu h2=>KJ h2 u Gf 210):=λh' b hs=>by{have:=SY h' (some (Av b)) 2 2 [1,2] ⟨3,false⟩ hs (BU _);rw[Ap8]at this;exact this});(have n3:∀h' b,Ai AQ 1 h' (some (Av b)) 2 [5,3]→Az prog 11 #[.slice (some (Av b)) 2 2,GF HC] h' (λu h2=>KJ h2 u Ln 0):=λh' b hs=>by{have:=SY h' (some (Av b)) 2 2 [5,3] HC hs (BU _);rw[Zy]at this;exact this});(have c1:∀h',Az prog 12 #[Jh Cl Rh] h' (λu _=>u=.tuple #[O 0,.bool false,O 210]):=λh'=>by{have:=mD h' Cl [] Rh (HE.zero h').rs Atw;rw[show(⟨Rh,rounds []⟩:CQ)=Gf from rfl,Aqb]at this;exact this});have i:DW Ln:=(Ayb (b:=Ln) (x:=Im 5 3 0 1 0 0) (by rw[RD])).1;(have e1:∀h' s l,HE h' s l Ln→Az prog 13 #[Jh s HC,GE (Im 5 3 0 1 0 0)] h' (λu h2=>KJ h2 u Rl 0):=λh' s l c=>by{have:=zN h' s l HC c.rs c.nc (UW c i) (Im 5 3 0 1 0 0);rw[show(⟨HC,rounds l⟩:CQ)=Ln by rw[←c.is];rfl,RD]at this;exact this});(have o:DW Rl:=by have:=(Yb (b:=Ln) (x:=Im 5 3 0 1 0 0) (by rw[RD])).2.ok;rw[RD]at this;exact this);(have c2:∀h' s l,HE h' s l Rl→Az prog 12 #[Jh s HC] h' (λu _=>u=.tuple #[O 3,.bool true,O 0]):=λh' s l c=>by{have:=mD h' s l HC c.rs (UW c o);rw[show(⟨HC,rounds l⟩:CQ)=Rl by rw[←c.is];rfl,Aqd]at this;exact this});have v1:=λh'=>Ae3 h' 0 8 HC (.inl rfl);(repeat'(first|refine Ba ?_|(apply AE;(iterate 3 exact F);apply Bo (e:=24);exact F;intro v)|refine Eo ?_|(refine Ac ?_;first|(apply Mm;(iterate 3 exact F);exact Bp;(iterate 3 exact F))|(apply Bo;exact F;intro b)|(apply Aw;exact F;exact Ab func9;exact iN _ _ _ _ _)|(apply PH (n:=2) (cs:=(NC 0 0).ls.flatMap Cc);(iterate 3 exact F);exact Cf _ _;(iterate 6 exact F);intro a)|(apply hR;exact F;exact Ab func10;exact r _ a;apply ZR;(first|exact C'.here|exact C'.there C'.here|exact C'.there (C'.there C'.here));exact TC)|(apply hR;exact F;exact Ab func10;exact w2 _ a;apply ZR;(first|exact C'.here|exact C'.there C'.here|exact C'.there (C'.there C'.here));exact TC)|(apply DE (enc:=AQ) (n:=3) [1,2,3];(iterate 3 exact F);exact Cf _ _;(iterate 4 exact F);exact(λ_=>rfl);exact F;exact F;intro c3 h3 am hs3)|(apply AR;exact F;exact Ab func11;exact p _ _ hs3;rintro v4 ac an ⟨a1,ax,rfl,ai⟩)|(apply DE (enc:=AQ) (n:=2) [1,2];(iterate 3 exact F);exact Cf _ _;(iterate 4 exact F);exact(λ_=>rfl);exact F;exact F;intro c5 ad ao hs5)|(apply AR;exact F;exact Ab func11;exact q _ _ hs5;rintro a6 ae ap ⟨a2,ay,rfl,aj⟩)|(apply AR;exact F;exact Ab func10;exact t _;rintro a7 af aq rfl)|(apply AR;exact F;exact Ab func12;exact c1 _;rintro a8 ag ar rfl)|(apply Aw;exact F;exact Ab func6;exact v1 _)|(apply DE (enc:=AQ) (n:=2) [5,3];(iterate 3 exact F);exact Cf _ _;(iterate 4 exact F);exact(λ_=>rfl);exact F;exact F;intro w ah au hs9)|(apply AR;exact F;exact Ab func11;exact n3 _ _ hs9;rintro a3 y ak ⟨az,av,rfl,d⟩)|(apply AR;exact F;exact Ab func12;exact c2 _ _ _ g;rintro a5 ab al rfl))|(apply Da (n:=4) [0,1,4,5,6,2,3,7,8,9] [(0,0),(1,0),(2,0),(3,0),(4,0),(5,0),(6,1),(7,0),(8,0),(9,1)];kernel_rfl)|(apply Da (n:=12) [0,1,2,3,4,6,5,7] [(0,0),(1,1),(2,1),(3,0),(4,0),(5,0),(6,1),(7,0)];kernel_rfl)|(apply Be;exact Bd;(apply Cs (j:=1);(iterate 6 exact F);omega;omega);exact AX)|(refine Bn ?_;first|(apply hQ (enc:=Cc) (f:=6) (k:=1) (sz:=13) (b:=a) (xs:=(NC 0 0).ls) (y0:=Im 2 1 1 2 0 0) (z:=Im 2 1 1 2 4 0);(iterate 4 exact F);exact Gd;exact F;exact F;exact Oe rfl;exact Bp;exact F;exact F;refine⟨V.refl _,Ak,?_⟩)|(apply hQ (enc:=Cc) (f:=7) (k:=1) (sz:=13) (b:=a) (xs:=[Im 1 2 1 2 0 0,Im 2 1 1 2 4 0]) (y0:=Im 2 1 1 2 4 0) (z:=Im 2 1 1 2 4 3);(iterate 4 exact F);exact Gd;exact F;exact F;exact Oe rfl;exact Bp;exact F;exact F;refine⟨V.refl _,Ak,?_⟩)|(apply Mm;(iterate 3 exact F);exact Bp;(iterate 3 exact F);refine⟨V.refl _,Ak,?_⟩)|(apply Aw;exact F;exact Ab func9;exact iN _ _ _ _ _;refine⟨V.refl _,Ak,?_⟩)|(apply AR;exact F;exact Ab func13;exact e1 _ _ _ d;rintro a4 aa m ⟨a0,aw,rfl,g⟩;refine⟨m,Ak,?_⟩))|refine AF ?_|(refine AG ?_ ?_<;>intro hc<;>try omega)|fail))
 all_goals first
  |(exact BS rfl rfl rfl (congrArg Value.bool ((Fb 3 3).mpr rfl)))
  |(exact BS rfl rfl rfl (congrArg Value.bool ((Fb 3 3).mpr rfl)).symm)
end Go.Hw
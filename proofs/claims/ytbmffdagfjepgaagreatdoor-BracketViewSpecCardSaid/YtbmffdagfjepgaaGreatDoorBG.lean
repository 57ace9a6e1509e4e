import Derived.Test.YtbmffdagfjepgaaGreatDoorBF
import Derived.Test.YtbmffdagfjepgaaGreatDoorBD
set_option linter.all false
set_option maxRecDepth 100000
set_option maxHeartbeats 8000000
namespace Go.Hw
open Go
attribute [local irreducible] AI Bz BV Aq AP Az Au CH Ap Ar BG Cm BP Dg
open Go.Proofs.Tryz
theorem Ac1 (t:AT)(x:BC):∀(l r:CM) {q:CM} {e:Bv},Fc l t x=some (q,e)→Fc (l++r) t x=some (q++r,e)
 |[],r,q,e,h=>by cases h
 |c::l,r,q,e,h=>by rw[FW];rw[Fc]at h ⊢;by_cases hc:Fw c t x;{rw[if_pos hc]at h ⊢;cases h;rfl};{rw[if_neg hc]at h ⊢;cases hr:Fc l t x with|none=>(rw[hr]at h;cases h)|some w=>obtain⟨a,w2⟩:=w;rw[hr]at h;cases h;rw[Ac1 t x l r hr];rfl}
structure JP (h:U) (t:AT) (x:BC) (D:Fj) (k:Nat) (f:Bool) (ys:Fj):Prop where
 len:ys.length=k
 dug:∀p∈ys,FM h p.1 p.2
 no:f=false→AZ ys=AZ (D.take k)∧Fc (AZ (D.take k)) t x=none
 yes:f=true→∃e,Fc (AZ (D.take k)) t x=some (AZ ys,e)∧¬(DY e t∧Dd e t=none)
def JP.zero (h:U)(t:AT)(x:BC)(D:Fj):JP h t x D 0 false []:=⟨rfl,λp hp=>(by cases hp),λ_=>⟨rfl,rfl⟩,λk=>(by cases k)⟩
def yI {h h':U}{ys:Fj}{p:HO}(a:∀p∈ys,FM h p.1 p.2)(b:V h h')(hp:FM h' p.1 p.2):∀q∈ys++[p],FM h' q.1 q.2:=λq hq=>by
 rcases AO.1 hq with w|w
 · exact(a q w).le b
 · rw[Bk.1 w];exact hp
def JP.skip {h h':U}{t:AT}{x:BC}{D:Fj}{k:Nat}{f:Bool}{ys:Fj}{p:HO}(I:JP h t x D k f ys)(b:V h h')(a:k<D.length)(hp:p=D.getD k BE)(hg:FM h' p.1 p.2)(hw:f=true∨¬Fw p.2 t x):JP h' t x D (k+1) f (ys++[p]):=by have hs:=Mk D a;rw[←hp]at hs;refine⟨by rw[Bt,I.len];rfl,yI I.dug b hg,λhf=>?_,λhf=>?_⟩;{obtain⟨h1,h2⟩:=I.no hf;rw[hs,QT,h1,XL,h2];refine⟨rfl,?_⟩;dsimp only;rw[if_neg (hw.resolve_left (by rw[hf];decide))]};{obtain⟨e,h1,h2⟩:=I.yes hf;rw[hs,QT,XL,h1];exact⟨e,rfl,h2⟩}
def JP.wait {h:U}{t:AT}{x:BC}{D:Fj}{k:Nat}{ys:Fj}{d:Bv}(I:JP h t x D k false ys)(a:k<D.length)(hp:d=(D.getD k BE).2)(hw:Fw d t x):Fc (AZ (D.take (k+1))) t x=some (AZ ys++[⟨d.a,d.b,d.ls++[x]⟩],⟨d.a,d.b,d.ls++[x]⟩):=by obtain⟨h1,h2⟩:=I.no rfl;rw[Mk D a,←hp,XL,h2,h1];dsimp only;rw[if_pos hw]
def JP.put {h h':U}{t:AT}{x:BC}{D:Fj}{k:Nat}{ys:Fj}{d:Bv}{z:Ca}(I:JP h t x D k false ys)(c:V h h')(b:k<D.length)(hp:d=(D.getD k BE).2)(hw:Fw d t x)(hg:FM h' z ⟨d.a,d.b,d.ls++[x]⟩)
  (a:¬(DY ⟨d.a,d.b,d.ls++[x]⟩ t∧Dd ⟨d.a,d.b,d.ls++[x]⟩ t=none)):JP h' t x D (k+1) true (ys++[(z,⟨d.a,d.b,d.ls++[x]⟩)]):=
 ⟨by rw[Bt,I.len];rfl,yI I.dug c hg,λk=>(by cases k),λ_=>⟨_,by rw[I.wait b hp hw,QT],a⟩⟩
def JP.bad {h:U}{t:AT}{x:BC}{D:Fj}{k:Nat}{ys:Fj}{d:Bv}(I:JP h t x D k false ys)(a:k<D.length)(hp:d=(D.getD k BE).2)(hw:Fw d t x):∃m,Fc (AZ D) t x=some (m,⟨d.a,d.b,d.ls++[x]⟩):=by have:=Ac1 t x _ (AZ (D.drop (k+1))) (I.wait a hp hw);(have e:AZ (D.take (k+1))++AZ (D.drop (k+1))=AZ D:=by{unfold AZ;rw[←DI,GW]});rw[e]at this;exact⟨_,this⟩
theorem Arv {L:CX}{x:BC}(hc:∀y∈L,∀z∈L,DM y z)(hh:0<L.length→DM (L.getD 0 AV) x):∀y∈L,DM y x:=λy hy=>by
 cases L with
 |nil=>cases hy
 |cons z r=>
   have h1:=hc y hy z An
   have h2:DM z x:=hh An
   unfold DM at *
   omega
def Aq8 {h:U}{d:Bv}{t:AT}{x:BC}{A:At}{c n:Nat}(a:KR d t)(hw:Fw d t x)(hx:DS x)(hn:d.ls.length+1=n)(hs:Ai Cc 13 h A n (d.ls++[x]))(hc:n≤c):FM h ⟨A,n,c⟩ ⟨d.a,d.b,d.ls++[x]⟩:=by refine⟨⟨hs,hc⟩,?_,λy hy=>?_⟩;{have h1:=hw.1;have h2:=a.ok0.1;unfold DY at h1;unfold EN at h2;show n≤2;omega};{rcases AO.1 hy with w|w;{exact a.res y w};{rw[Bk.1 w];exact hx}}
def A0m {C:Bu}{ds:CL}{l:AW}{Es:Am}{h:U}{K:CB}{n:Nat}{os:Dm}{d:Bool}{α:Type}(S:α→AW)(b:α→Am)(H:α→U)(P:α→Prop)
 (e:∀a,P a→AI C ds (S a) (b a) (H a) K) (hr:∀c,(∀a,P a→AI C ds (S a) (b a) (H a) c)→AI C ds l Es h (.code (.region n os d)::c)):AI C ds l Es h (.code (.region n os d)::K):=hr K e
def Ahv {b:Bu}{d:CB}{ds:CL}{α:Type}(S:α→AW)(c:α→Am)(H:α→U)(P:α→Prop){G:Prop}(main:(∀a,P a→AI b ds (S a) (c a) (H a) d)→G)(EM:∀a,P a→AI b ds (S a) (c a) (H a) d):G:=main EM
open Classical in
theorem Aqh (h:U)(s:Ca)(l:EH)(t:AT)(am:Mu h s.A s.n l)(hnc:s.n≤s.c)(hs:Ms s l)(x:BC):Az prog 26 #[Jh s t,GE x] h (λu h'=>KJ h' u (Dw ⟨t,rounds l⟩ x).1 (Dw ⟨t,rounds l⟩ x).2):=by
 refine BB func26 λ_ _=>?_;have hck:=λh' (g:V h h')=>Ae8 h' s l t (am.le g) hs;have hrc:=λh'=>Abv h' x;by_cases o:DW ⟨t,rounds l⟩
 case' neg=>
  simp only[decide_eq_false o]at hck
  rw[Acy o]
  dsimp only
  clear hrc
  repeat'(first|refine Ba ?_|(apply AE;(iterate 3 exact F);apply Ci (e:=29);exact F;intro b2)|(apply AE;(iterate 3 exact F);apply Ci (e:=38);exact F;intro b3)|(apply AE;(iterate 3 exact F);apply Bo (e:=29);exact F;intro af)|refine BF ?_|(refine Ac ?_;first|(refine cL ?_;rintro c0 h2 cv rfl))|(refine Y ?_ ?_<;>intro hc<;>try omega)|fail)
  all_goals first
   |(exfalso;simp at hc;done)
   |(exact Dl rfl rfl rfl Bc rfl rfl rfl (Gu _ _))
 simp only[decide_eq_true o]at hck;by_cases ak:DS x
 case' neg=>
  simp only[if_neg ak]at hrc
  rw[Acz o ak]
  dsimp only
  repeat'(first|refine Ba ?_|(apply AE;(iterate 3 exact F);apply Ci (e:=29);exact F;intro b2)|(apply AE;(iterate 3 exact F);apply Ci (e:=38);exact F;intro b3)|(apply AE;(iterate 3 exact F);apply Bo (e:=29);exact F;intro af)|refine BF ?_|(refine Ac ?_;first|(refine cL ?_;rintro c0 h2 cv rfl)|(apply Aw;exact F;exact Ab func66;exact hrc _))|(refine Y ?_ ?_<;>intro hc<;>try omega)|fail)
  all_goals first
   |(exfalso;simp at hc;done)
   |omega
   |(exact Dl rfl rfl rfl Bc rfl rfl rfl (Gu _ _))
 simp only[if_pos ak]at hrc;have dt:=am.row.len;have bz:=am.row;(have d1:(rounds l).length=s.n:=by rw[KG,dt])
 have h0:0<s.n:=by
  rcases Of s.n with e|e;{exact absurd (Fu (show(rounds l).length=0 by omega)) o.some};{exact e}
 obtain⟨bp,dj⟩:=Aas d1 h0;have eq:=hs.few;have ra:=bz.addrD (show s.n-1<s.n by omega);have rc:Au h ((addrD s.A).add ((s.n-1)*JV.size)) (Ez (l.getD (s.n-1) CA)):=bz.cellsD CA (show s.n-1<s.n by omega);have ck:=Ce CA (show s.n-1<l.length by omega);rw[PF]at bp;have a2:=am.each _ ck;have dg:=hs.each _ ck;have bh:=dU o;dsimp only at bh;rw[bp]at bh;have cl:=o.rounds _ bh;dsimp only at cl;have ad:=Ado o ak;have v:=λm e k c=>zM o ak (m:=m) (d:=e) k c;have aa:=λm e k c=>Ac0 o ak (m:=m) (d:=e) k c;dsimp only at ad v aa;rw[bp]at ad v aa;rw[dj]at aa;have hlg:=λh' (g:V h h')=>uY h' s l t (am.le g) hs o.rounds;have a4:=o.cup;rw[Aai]at a4;dsimp only at a4;have bi:=λk=>Arv (x:=x) a4 k;have dh:EP ⟨t,rounds l⟩=EA (rounds l):=rfl;rw[dh]at v aa;generalize l.getD (s.n-1) CA=R at *;have em:=a2.1.row.len;generalize ek:Dw ⟨t,rounds l⟩ x=ea at *;(repeat'(first|refine Ba ?_|(apply AE;(iterate 3 exact F);apply Ci (e:=29);exact F;intro b2)|(apply AE;(iterate 3 exact F);apply Ci (e:=38);exact F;intro b3)|(apply AE;(iterate 3 exact F);apply Bo (e:=29);exact F;intro af)|refine Eo ?_|(refine Ac ?_;first|(refine cL ?_;rintro c0 h2 cv rfl)|(apply Aw;exact F;exact Ab func66;exact hrc _)|(refine Gi ?_;intro c9))|(refine Y ?_ ?_<;>intro hc<;>try omega)|fail));(all_goals(try(exfalso;simp at hc;done)));(all_goals try omega);have dn:V h h2:=Ag;clear hck hrc;refine Bg (X:=Nat×Fj×At×Nat×Bool×U) (λy=>y.1≤R.1.n∧V h y.2.2.2.2.2∧JP y.2.2.2.2.2 t x R.2 y.1 y.2.2.2.2.1 y.2.1) (λy=>R.1.n-y.1) (λy=>[(10,O y.1),(9,.bool y.2.2.2.2.1),(8,.slice y.2.2.1 y.1 y.2.2.2.1),(7,O ((s.n:Int)-1)),(2,DP b2),(3,DP b3),(4,DP af)]) (λy=>[Ar 42 3 (.slice y.2.2.1 y.1 y.2.2.2.1) y.1 (y.2.1.flatMap Dv),Ap b2 29 (Ge s t),Ap b3 38 (Cc x),Ap af 29 (BX NA.zero)]) (λy=>y.2.2.2.2.2) (0,[],some (Av c9),0,false,h2) ⟨Ah,dn,JP.zero _ _ _ _⟩ Af Ad rfl ?_;rintro⟨k,ys,A,c,f,hh⟩ ⟨dk,al,ab⟩ a9;dsimp only at dk al ab a9 ⊢;by_cases cq:k<R.1.n
 ·have a1:=a2.1.row.addrD cq;have bj:=(a2.1.each _ (Ce BE (show k<R.2.length by omega))).le al;have bl:=cl (R.2.getD k BE).2 (CZ.2 ⟨_,Ce BE (show k<R.2.length by omega),rfl⟩);have c1:Au hh ((addrD R.1.A).add (k*Iq.size)) (Dv (R.2.getD k BE)):=(a2.1.row.cellsD BE cq).le al;have rcc:=rc.le al;have a8:=λh' (g:V hh h')=>ab.skip (h':=h') (p:=R.2.getD k BE) g J rfl;have a7:=λh' (g:V hh h') (bd:f=false) (hw:Fw (R.2.getD k BE).2 t x) z=>(bd▸ab).put (h':=h') (d:=(R.2.getD k BE).2) (z:=z) g J rfl hw;have a3:=λ(bd:f=false) (hw:Fw (R.2.getD k BE).2 t x)=>(bd▸ab).bad (d:=(R.2.getD k BE).2) J rfl hw;have b5:=ab.len;generalize R.2.getD k BE=p at *;obtain⟨ps,d⟩:=p;dsimp only at bl a8 a7 a3;have c1:Au hh ((addrD R.1.A).add (k*Iq.size)) (Nw ps d):=c1;have av:=bj.len;dsimp only at av;have cm:=FM.of bj bl.1;have er:=cm.few;have hsl:=bj.1;dsimp only at hsl;have bu:=λh'=>kH h' ps d ps.n;(have b0:Fw d t x↔((ps.n:Int)<t.legs∧x.g.h=MI d ps.n∧x.g.a=MH d ps.n):=by unfold Fw DY;rw[av,Int.not_le]);have ay:=λc3 i j cd bo (g:V hh bo) (I:JP bo t x R.2 (k+1) cd c3)=>a9 (k+1,c3,i,j,cd,bo) ⟨Ah,al.trans g,I⟩ Ah;dsimp only at ay;clear a9;by_cases aw:f=true∨¬Fw d t x
  ·have a0:=λh' (g:V hh h')=>a8 h' g (cm.le g) aw;clear a7 a3 ad v aa a8;cases f
   ·have hnw:¬((ps.n:Int)<t.legs∧x.g.h=MI d ps.n∧x.g.a=MH d ps.n):=λk2=>(aw.resolve_left BO) (b0.2 k2);(repeat'(first|refine Ba ?_|(apply AE;(iterate 3 exact F);apply Bo (e:=42);exact F;intro ca)|refine BF ?_|refine Z Qh ?_|refine Z Xc ?_|refine Z bX ?_|(refine Ac ?_;first|(apply Aw;exact F;exact Ab func67;exact bu _)|(refine rZ ?_;intro b6 aj ae hs6)|(refine tN ?_;intro i j))|(refine Y ?_ ?_<;>intro hc<;>try omega)|refine AF ?_|(refine AG ?_ ?_<;>intro hc<;>try omega)|fail))
    all_goals first
     |(exfalso;exact hnw ⟨J,Cn,Cn⟩)
     |omega
     |(
        have ag:=ay _ i j false aj ae (a0 aj ae)
        refine AB Af Ad ag)
   ·(repeat'(first|refine Ba ?_|(apply AE;(iterate 3 exact F);apply Bo (e:=42);exact F;intro ca)|refine BF ?_|refine Z Qh ?_|refine Z Xc ?_|refine Z bX ?_|(refine Ac ?_;first|(apply Aw;exact F;exact Ab func67;exact bu _)|(refine rZ ?_;intro b6 aj ae hs6)|(refine tN ?_;intro i j))|(refine Y ?_ ?_<;>intro hc<;>try omega)|fail))
    all_goals first
     |omega
     |(exfalso;simp at hc;done)
     |(
        have ag:=ay _ i j true aj ae (a0 aj ae)
        refine AB Af Ad ag)
  ·(have bn:f=false:=by cases f;rfl;exact absurd (.inl rfl) aw);have hw:Fw d t x:=JD λk2=>aw (.inr k2);obtain⟨es,et,eu⟩:=b0.1 hw;have cn:=λ(h':U) (A':At) (c' n':Nat)=>Aq8 (h:=h') (A:=A') (c:=c') (n:=n') bl.1 hw ak;rw[av]at cn;obtain⟨ev,du⟩:=a3 bn hw;have bv:=λh' g z=>a7 h' g bn hw z;have bg:=v _ _ du;clear a8 a7 a3 ad v aa aw b0;subst bn;(have cp:DY (⟨d.a,d.b,d.ls++[x]⟩:Bv) t↔t.legs=(ps.n:Int)+1:=by{unfold DY;simp only[Bt,IR];rw[av];omega});have b1:=λk2=>Oo (d:=(⟨d.a,d.b,d.ls++[x]⟩:Bv)) (t:=t) k2;have b4:=Aaw (⟨d.a,d.b,d.ls++[x]⟩:Bv) t;(repeat'(first|refine Ba ?_|(apply AE;(iterate 3 exact F);apply Bo (e:=42);exact F;intro ca)|refine BF ?_|refine Z Qh ?_|refine Z Xc ?_|refine Z bX ?_|(refine Ac ?_;first|(apply Aw;exact F;exact Ab func67;exact bu _))|(apply Da (n:=16) [0,1,2,3,4,5,6,7,8] [(1,0),(2,0),(4,0),(0,2),(10,5),(3,2),(4,5),(5,1),(6,1),(7,0),(8,1),(3,1),(6,1),(7,0),(8,1),(0,1),(3,1),(6,1),(7,0),(8,1)];kernel_rfl)|(refine Bn ?_;first|(refine Gi ?_;intro da;refine⟨V.refl _,Ak,?_⟩)|(refine tH ?_;intro A5 c5;refine⟨V.refl _,Ak,?_⟩)|(refine Xo ?_;intro b6 aj ae hs6;refine⟨ae,Ak,?_⟩)|(apply CE (enc:=Cc) (xs:=[]++d.ls) (ys:=[x]);(iterate 7 exact F);exact hs6.le Ag;exact Gd;exact Lg;intro v1;exact Bp;omega;exact F;intro i j;refine⟨V.refl _,Ak,?_⟩))|(apply GQ;kernel_rfl;exact F;exact F)|(apply HP;(iterate 4 exact F);(first|(refine Gi ?_;intro da;refine⟨V.refl _,Ak,?_⟩)|(refine tH ?_;intro A5 c5;refine⟨V.refl _,Ak,?_⟩)|(refine Xo ?_;intro b6 aj ae hs6;refine⟨ae,Ak,?_⟩)))|(refine Y ?_ ?_<;>intro hc<;>try omega)|refine AF ?_|(refine AG ?_ ?_<;>intro hc<;>try omega)|fail));(all_goals try omega);(all_goals(try(exfalso;simp at hc;done)))
   all_goals
    refine fT (enc:=Cc) (e:=38) (sz:=13) (n:=0+ps.n+1) (xs:=[]++d.ls++[x]) Gd (by rw[FE,Bt,av,Dy];rfl) Bh ?_
    intro d8 ef az eo dd dv d2
    cases dd
    have cr:V hh az:=Ag
    have bk:=cn az i j (0+ps.n+1) J d2 dv
    have hde:∀h',V az h'→Az prog 68 #[IN ⟨i,0+ps.n+1,j⟩ ⟨d.a,d.b,d.ls++[x]⟩,GF t] h' (λu _=>u=HD ⟨d.a,d.b,d.ls++[x]⟩ t):=λh' g=>(bK h' ⟨i,0+ps.n+1,j⟩ ⟨d.a,d.b,d.ls++[x]⟩ t (bk.le g).at' (by show 0+ps.n+1≤_;omega)).mono λu h2 _ ⟨c,b,e,k⟩=>k (bk.le g)
    by_cases ar:DY (⟨d.a,d.b,d.ls++[x]⟩:Bv) t∧Dd (⟨d.a,d.b,d.ls++[x]⟩:Bv) t=none
    · have ac:=bg λk=>k.2.2 ar
      have en:=cp.1 ar.1
      obtain⟨w,d6⟩:=b1 ar.2
      rw[d6]at hde
      rw[ac]
      dsimp only
      clear b1 b4 bv bg ay
      repeat'(first|refine AH ?_|(refine Ac ?_;first|(refine rA ?_;rintro d7 df dp rfl))|(refine Y ?_ ?_<;>intro hc<;>try omega)|refine AF ?_|(refine AG ?_ ?_<;>intro hc<;>try omega)|fail)
      all_goals first
       |omega
       |(exfalso;simp at hc;done)
       |(exact Dl rfl rfl rfl Bc rfl rfl rfl (Gu _ _))
    · obtain⟨w,ok,cz,hfo⟩:=b4 ar
      rw[cz]at hde
      have a0:=λh' (g:V az h')=>bv h' (cr.trans g) ⟨i,0+ps.n+1,j⟩ (bk.le g) ar
      have dy:¬(t.legs=(ps.n:Int)+1∧ok=false):=λk=>by
       have:=hfo (decide_eq_true (cp.2 k.1))
       rw[k.2]at this;cases this
      clear b1 b4 bv bg hfo cz
      cases ok
      all_goals
       repeat'(first|refine AH ?_|(refine Ac ?_;first|(refine rA ?_;rintro d7 df dp rfl)|(apply DE (enc:=Dv) (n:=1) [(((⟨i,0+ps.n+1,j⟩:Ca),⟨d.a,d.b,d.ls++[x]⟩):HO)];(iterate 3 exact F);exact Cf _ _;(iterate 4 exact F);exact Ke;exact F;exact F;intro ec ce ep d3)|(apply CE (enc:=Dv) (xs:=ys) (ys:=[(((⟨i,0+ps.n+1,j⟩:Ca),⟨d.a,d.b,d.ls++[x]⟩):HO)]);(iterate 7 exact F);exact d3.le Ag;exact Ke;exact TE;intro v1;exact Bp;omega;exact F;intro c4 db))|(refine Y ?_ ?_<;>intro hc<;>try omega)|refine AF ?_|(refine AG ?_ ?_<;>intro hc<;>try omega)|fail)
      all_goals first
       |(exfalso;exact dy ⟨J,rfl⟩)
       |omega
       |(exfalso;simp at hc;done)
       |(
          have ag:=ay _ c4 db true ce (cr.trans Ag) (a0 ce Ag)
          refine AB Af Ad ag)
 ·clear a9;(obtain rfl:k=R.1.n:=by omega);have b5:=ab.len;have d5:R.2.take R.1.n=R.2:=By J;have ao:=ab.no;have ap:=ab.yes;rw[d5]at ao ap;have co:=ab.dug;clear ab;(have bt:(l.take (s.n-1)).length=s.n-1:=by rw[CF];omega);have hhi:=((bz.high (hi:=s.n-1) (c:=s.c) J hnc).le al);refine EE (enc:=Dv) (e:=42) (sz:=3) (n:=R.1.n) (xs:=ys) Ke b5 Bh ?_;intro d9 eg ai bq de dw cx;cases de;have hhi:=hhi.le bq;have ct:V h ai:=al.trans bq;have bm:=λp hp=>(co p hp).le bq;have rc20:Au ai ((addrD s.A).add ((s.n-1)*JV.size)) (Ez R):=rc.le ct;generalize EA (rounds l)=L at *;clear a4 co;cases f
  ·have ac:=ad (ao rfl).2;rw[ac];dsimp only;clear ad v aa ao ap;(repeat'(first|refine AH ?_|refine Z Qh ?_|(refine Z (by apply BA;exact F;exact BH rfl rc20 rfl) ?_)|(refine Ac ?_;first|(refine Xv ?_;rintro b7 be br ⟨a',bb,rfl,hs21⟩))|(apply AU (n:=22) 35 [0,1,2,3,4,5,6,7,8,9,10,11,12,13,14,15,16,17,18,19,20,21,22,23,24,25,26,27,28,29,30,31,32,33,34];kernel_rfl)|(refine Y ?_ ?_<;>intro hc<;>try omega)|fail))
   all_goals first
    |omega
    |(exfalso;simp at hc;done)
    |(exact Dl rfl rfl rfl Bc rfl rfl rfl (Gu _ _))
  obtain⟨e,h1,h2⟩:=ap rfl;by_cases cj:8≤x.g.c
  case' neg=>
   have ac:=v _ _ h1 (λk=>cj k.1)
   rw[ac]
   dsimp only
   clear ad v aa ao ap
   repeat'(first|refine AH ?_|refine Z Qh ?_|(refine Z (by apply BA;exact F;exact BH rfl rc20 rfl) ?_)|(refine Ac ?_;first|(refine Xv ?_;rintro b7 be br ⟨a',bb,rfl,hs21⟩))|(apply AU (n:=22) 35 [0,1,2,3,4,5,6,7,8,9,10,11,12,13,14,15,16,17,18,19,20,21,22,23,24,25,26,27,28,29,30,31,32,33,34];kernel_rfl)|(refine Db ?_ ?_<;>intro hc<;>try omega)|(refine Y ?_ ?_<;>intro hc<;>try omega)|fail)
   all_goals first
    |omega
    |(exfalso;simp at hc;done)
    |(exact Dl rfl rfl rfl Bc rfl rfl rfl (Gu _ _))
  by_cases hL:0<L.length→DM (L.getD 0 AV) x
  case' neg=>
   have el:0<L.length:=by
    rcases Of L.length with k|k
    · exact absurd (λq=>by omega) hL
    · exact k
   have au:¬((L.getD 0 AV).g.s=x.g.s∧(L.getD 0 AV).g.c=x.g.c):=λk=>hL λ_=>by unfold DM;exact k
   have ac:=v _ _ h1 (λk=>hL λk0=>k.2.1 _ (Ce AV k0))
   rw[ac]
   dsimp only
   clear ad v aa ao ap hL bi
   repeat'(first|refine AH ?_|refine Z Qh ?_|refine Z Xs ?_|(refine Ac ?_;first|(refine Xv ?_;rintro b7 be br ⟨a',bb,rfl,hs21⟩))|(apply AU (n:=22) 35 [0,1,2,3,4,5,6,7,8,9,10,11,12,13,14,15,16,17,18,19,20,21,22,23,24,25,26,27,28,29,30,31,32,33,34];kernel_rfl)|(apply Be;exact Bd;(first|exact pT|exact Xs);exact AX)|(refine Db ?_ ?_<;>intro hc<;>try omega)|(refine Y ?_ ?_<;>intro hc<;>try omega)|fail)
   all_goals first
    |omega
    |(exfalso;simp at hc;done)
    |(exfalso;exact au ⟨Cn,Cn⟩)
    |(exact Dl rfl rfl rfl Bc rfl rfl rfl (Gu _ _))
  have ac:=aa _ _ h1 ⟨cj,bi hL,h2⟩;rw[ac];dsimp only;have au:0<L.length→(L.getD 0 AV).g.s=x.g.s∧(L.getD 0 AV).g.c=x.g.c:=hL;have hwi:∀h',V ai h'→Az prog 70 #[.slice A R.1.n c,GF t] h' (λu h2=>Rt h2 u (Fp (AZ ys) t)):=λh' g=>mV h' A R.1.n c ys t ⟨cx.le g,λp hp=>((bm p hp).le g).at'⟩ dg λp hp=>(bm p hp).le g;have an:∀h',V ai h'→∀r∈l,IY h' r:=λh' g r hr=>(am.each r hr).le (ct.trans g);have bw:∀h',V ai h'→IY h' (⟨A,R.1.n,c⟩,ys):=λh' g=>⟨⟨cx.le g,λp hp=>((bm p hp).le g).at'⟩,dw⟩;clear ad v aa ao ap hL bi;apply Ahv (ds:=[]) (α:=Nat×At×Nat×U) (λa=>[(17,DP a.1),(8,.slice A R.1.n c),(2,DP b2),(4,DP af)]) (λa=>[Ar 80 1 (.slice a.2.1 (0+(s.n-1)+1) a.2.2.1) (0+(s.n-1)+1) (([]++l.take (s.n-1)++[(((⟨A,R.1.n,c⟩:Ca),ys):FT)]).flatMap Ez),Ap a.1 29 (Ge ⟨a.2.1,0+(s.n-1)+1,a.2.2.1⟩ t),Ap b2 29 (Ge s t),Ap af 29 (BX NA.zero)]) (λa=>a.2.2.2) (λa=>V ai a.2.2.2)
  case main=>
   intro dm
   repeat'(first|refine Ba ?_|(refine A0m (n:=24) (α:=Nat×At×Nat×U) (λa=>[(17,DP a.1),(8,.slice A R.1.n c),(2,DP b2),(4,DP af)]) (λa=>[Ar 80 1 (.slice a.2.1 (0+(s.n-1)+1) a.2.2.1) (0+(s.n-1)+1) (([]++l.take (s.n-1)++[(((⟨A,R.1.n,c⟩:Ca),ys):FT)]).flatMap Ez),Ap a.1 29 (Ge ⟨a.2.1,0+(s.n-1)+1,a.2.2.1⟩ t),Ap b2 29 (Ge s t),Ap af 29 (BX NA.zero)]) (λa=>a.2.2.2) (λa=>V ai a.2.2.2) dm ?_)|refine Eo ?_|refine Z Qh ?_|refine Z Xs ?_|(refine Ac ?_;first|(refine Xv ?_;rintro b7 be br ⟨a',bb,rfl,hs21⟩))|(apply AU (n:=22) 35 [0,1,2,3,4,5,6,7,8,9,10,11,12,13,14,15,16,17,18,19,20,21,22,23,24,25,26,27,28,29,30,31,32,33,34];kernel_rfl)|(apply Be;exact Bd;(first|exact pT|exact Xs);exact AX)|(refine Db ?_ ?_<;>intro hc<;>try omega)|(refine Y ?_ ?_<;>intro hc<;>try omega)|fail)
   all_goals try omega
   all_goals(try(exfalso;simp at hc;done))
   all_goals(try(exfalso;have:=au J;omega))
   all_goals(try(exfalso;have:=au J;exact absurd this.1 Cn))
   all_goals(try(exfalso;have:=au J;exact absurd this.2 Cn))
   all_goals
    intro eb dl
    clear hwi an bw hlg
    repeat'(first|(apply Da (n:=24) [0,1,2,3,4,5,6,7,8,9,10,11,12,13] [(0,0),(1,0),(3,0),(4,0),(5,0),(6,0),(8,0),(2,3),(41,9),(21,12),(7,3),(14,9),(14,12),(9,2),(8,12),(10,2),(3,12),(11,0),(12,1),(13,1),(10,1),(11,0),(13,1),(9,1),(10,1),(11,0),(13,1),(7,2),(8,12),(10,2),(3,12),(11,0),(12,1),(13,1),(10,1),(11,0),(13,1),(7,1),(10,1),(11,0),(13,1),(7,2),(4,9),(9,1),(10,1),(11,0),(13,1),(7,1),(10,1),(11,0),(13,1),(2,2),(14,12),(7,2),(8,12),(10,2),(3,12),(11,0),(12,1),(13,1),(10,1),(11,0),(13,1),(7,1),(10,1),(11,0),(13,1),(2,1),(7,1),(10,1),(11,0),(13,1),(2,2),(10,9),(7,2),(4,9),(9,1),(10,1),(11,0),(13,1),(7,1),(10,1),(11,0),(13,1),(2,1),(7,1),(10,1),(11,0),(13,1)];kernel_rfl)|refine BF ?_|(apply Be;exact Bd;exact pG;exact AX)|(refine Aj ?_;intro b)|(refine Bn ?_;first|(refine Gi ?_;intro c7;refine⟨V.refl _,Ak,?_⟩)|(refine tM ?_;intro c6 dc;refine⟨V.refl _,Ak,?_⟩)|(refine sS ?_;intro c8 cg bs hs24;refine⟨bs,Ak,?_⟩)|(refine tT ?_;intro ba bc;refine⟨V.refl _,Ak,?_⟩))|(apply GQ;kernel_rfl;exact F;exact F)|(apply HP;(iterate 4 exact F);(first|(refine Gi ?_;intro c7;refine⟨V.refl _,Ak,?_⟩)|(refine tM ?_;intro c6 dc;refine⟨V.refl _,Ak,?_⟩)|(refine sS ?_;intro c8 cg bs hs24;refine⟨bs,Ak,?_⟩)|(refine tT ?_;intro ba bc;refine⟨V.refl _,Ak,?_⟩)))|(apply uF;kernel_rfl;(iterate 4 exact F)))
    all_goals first
     |(
        have ag:=dl (b,ba,bc,cg) Ag
        dsimp only at ag
        refine AB Af Ad ag)
  case EM=>
   rintro⟨ed,ba,bc,bf⟩ a5
   dsimp only at a5 ⊢
   clear hlg rc20 hhi
   have hwi:=λh' (g:V bf h')=>hwi h' (a5.trans g)
   have an:=λh' (g:V bf h')=>an h' (a5.trans g)
   have bx:=λh' (g:V bf h')=>bw h' (a5.trans g)
   clear bw
   cases hwn:Fp (AZ ys) t with
   |none=>
     rw[hwn]at hwi
     unfold Rt at hwi
     rw[Wc hwn]
     repeat'(first|refine AH ?_|(refine Ac ?_;first|(refine cJ ?_;rintro c2 ch cw rfl))|(refine Y ?_ ?_<;>intro hc<;>try omega)|fail)
     all_goals(try(exfalso;simp at hc;done))
     all_goals
      refine EE (enc:=Ez) (e:=80) (sz:=1) (n:=0+(s.n-1)+1) (xs:=[]++l.take (s.n-1)++[(((⟨A,R.1.n,c⟩:Ca),ys):FT)]) KF (by rw[FE,Bt,bt,Dy];rfl) Bh ?_
      intro b9 cb cf cu aq ax ah
      cases aq
      rw[FE]at ah
      exact Dl rfl rfl rfl Bc rfl rfl rfl (UG (an _ Ag) (λr hr=>by rw[Bk.1 hr];exact bx _ Ag) ah ax rfl)
   |some cs=>
     rw[hwn]at hwi
     unfold Rt at hwi
     have a6:=gG hwn
     have di:=QK hwn
     rw[GD,b5]at di
     by_cases ci:2≤cs.length
     · rw[if_pos ci]at a6
       rw[a6]
       have hpa:=λh' A5 c5 hs5=>iB h' A5 cs.length c5 cs hs5 J
       repeat'(first|refine AH ?_|(refine Ac ?_;first|(refine cJ ?_;rintro c2 ch cw ⟨b',cc,rfl,dx,cy⟩))|(apply AU (n:=27) 8 [0,1,2,99,3,4,5,99,6,99,7];kernel_rfl)|(refine Bn ?_;first|(apply AR;exact F;exact Ab func61;exact hpa _ b' cc (cy.le Ag);rintro ew ei dq ⟨r2,rfl,dz,d0⟩;refine⟨dq,Ak,?_⟩)|(refine sI ?_;intro ee ej dr d4;refine⟨dr,Ak,?_⟩)|(apply CE (enc:=Ez) (xs:=[]++l.take (s.n-1)++[(((⟨A,R.1.n,c⟩:Ca),ys):FT)]) (ys:=[r2]);(iterate 7 exact F);exact d4.le Ag;exact KF;exact Sd;intro v1;exact Bp;omega;exact F;intro d' eh;refine⟨V.refl _,Ak,?_⟩))|(refine Y ?_ ?_<;>intro hc<;>try omega)|fail)
       all_goals try omega
       all_goals(try(exfalso;simp at hc;done))
       all_goals
        refine EE (enc:=Ez) (e:=80) (sz:=1) (n:=0+(s.n-1)+1+1) (xs:=[]++l.take (s.n-1)++[(((⟨A,R.1.n,c⟩:Ca),ys):FT)]++[r2]) KF (by rw[FE,Bt,Bt,bt,Dy];rfl) Bh ?_
        intro b9 cb cf cu aq ax ah
        cases aq
        rw[FE,Ck]at ah
        exact Dl rfl rfl rfl Bc rfl rfl rfl (UG (an _ Ag) (λr hr=>by
         rcases AO.1 hr with b8|b8
         · rw[Bk.1 b8];exact bx _ Ag
         · rw[Bk.1 b8];exact dz.le Ag) ah ax (by show[AZ ys,AZ r2.2]=_;rw[d0];rfl))
     · rw[if_neg ci]at a6
       rw[a6]
       repeat'(first|refine AH ?_|(refine Ac ?_;first|(refine cJ ?_;rintro c2 ch cw ⟨b',cc,rfl,dx,cy⟩))|(refine Y ?_ ?_<;>intro hc<;>try omega)|fail)
       all_goals try omega
       all_goals(try(exfalso;simp at hc;done))
       all_goals
        refine EE (enc:=Ez) (e:=80) (sz:=1) (n:=0+(s.n-1)+1) (xs:=[]++l.take (s.n-1)++[(((⟨A,R.1.n,c⟩:Ca),ys):FT)]) KF (by rw[FE,Bt,bt,Dy];rfl) Bh ?_
        intro b9 cb cf cu aq ax ah
        cases aq
        rw[FE]at ah
        exact Dl rfl rfl rfl Bc rfl rfl rfl (UG (an _ Ag) (λr hr=>by rw[Bk.1 hr];exact bx _ Ag) ah ax rfl)
end Go.Hw
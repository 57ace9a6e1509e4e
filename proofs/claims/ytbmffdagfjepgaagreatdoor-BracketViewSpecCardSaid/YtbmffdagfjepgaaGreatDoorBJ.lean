import Derived.Test.YtbmffdagfjepgaaGreatDoorBG
import Derived.Test.YtbmffdagfjepgaaGreatDoorQC0
import Derived.Test.YtbmffdagfjepgaaGreatDoorBH
set_option linter.all false
namespace Go.Hw
open Go
section
variable {C:Bu} {l:AW} {h:U} {ty:TypeId} {pos:String} {aft:Cw} {gd:Cq}
def Aw2 {x d f:Operand}{t e:TypeId}{k2 k3:IntKind}{b i3:Int}{hi mx n c:Nat}{A:At}{T g:Ay}{dst:CK}(hT:AM t C.ts=some T)(p:T.desc=.slice e)(o:AM e C.ts=some g)
  (hx:AJ l x=some (.slice A n c)) (u:AJ l d=some (.int k2 b)) (v:AJ l f=some (.int k3 i3)) (q:b=(hi:Int)) (r:i3=(mx:Int)) (hhi:hi≤mx) (s:mx≤c) :
  DN C l [] h ⟨dst,.slice t x none (some d) (some f),ty,pos,aft,gd⟩ (.slice (Ig A mx g.size) hi mx):=
 ⟨rfl,λa w hsl _ _=>by
  obtain⟨y,j,i⟩:=C.ok.und hT
  rw[p]at i
  rw[Ho i]at j
  have e1:a.eval x=.slice A n c:=hsl.eval hx
  have k:a.eval d=.int k2 b:=hsl.eval u
  have m:a.eval f=.int k3 i3:=hsl.eval v
  simp only[execOp,Instr.sliceAt,BK,run_underlying j,B',Instr.slice,e1,k,m,Hg,Qn,Instr.sliceBounds,CV,Mr r s,Mr q hhi,C.ok.run_size o,Ir,if_false,if_true,Ud,Option.isSome_some,JM,Ig]⟩
end
def Aow {x:Int}{y:AC}{k:Nat}(o:k≤y.length)(hs:y.Pairwise (· ≤·))(h1:∀i,i<k→y.getD i 0<x)(h2:k<y.length→¬y.getD k 0<x):(y.take k++x::y.drop k).Pairwise (· ≤·)∧(y.take k++x::y.drop k).Perm (x::y):=by
 (have h:(y.take k++y.drop k).Pairwise (· ≤·):=by rw[GW];exact hs);rw[Oh]at h;obtain⟨j,f,l⟩:=h;(have m:∀a∈y.take k,a<x:=λa d=>by{obtain⟨i,hi,e⟩:=xB.1 d;have:=h1 i J;rw[Dr,Bw J,IQ]at this;rw[←e];exact this})
 have n:∀b∈y.drop k,x≤b:=λb c=>by
  have g:k<y.length:=by
   rcases KY k y.length with w|w;{exact w};{rw[Ym w]at c;cases c}
  have h3:=h2 g;rw[Dr,Bw g,IQ]at h3;rw[LG g]at c f;rw[FD]at f;rcases Bx.1 c with rfl|w;{omega};{have:=f.1 b w;omega}
 refine⟨?_,?_⟩;{rw[Oh,FD];refine⟨j,⟨n,f⟩,λa d b c=>?_⟩;rcases Bx.1 c with rfl|w;{exact eZ (m a d)};{exact l a d b w}};{have:=xA (a:=x) (l₁:=y.take k) (l₂:=y.drop k);rw[GW]at this;exact this}
end Go.Hw
set_option maxRecDepth 100000
set_option maxHeartbeats 8000000
namespace Go.Hw
open Go
attribute [local irreducible] AI Bz BV Aq AP Az Au CH Ap Ar BG Cm BP Dg
open Go.Proofs.Tryz
def Ai.highM {α:Type}{enc:α→Ao}{sz:Nat}{h:U}{A:At}{n:Nat}{xs:List α}(hs:Ai enc sz h A n xs){hi c:Nat}(a:hi≤n)(hc:hi≤c):Ai enc sz h (Ig A c sz) hi (xs.take hi):=by
 have b:=hs.part (l:=0) (k:=hi) (GT _) a (Ig A c sz) (λh=>by
  unfold Ig;rw[if_neg J])
 rwa [J',JM]at b
def Avn (h:U)(A:At)(n c:Nat)(l:AC)(hx:Ai AQ 1 h A n l)(hn:n≤100000):Az prog 23 #[.slice A n c] h (λu h'=>∃A' d y,u=.slice A' n d∧Ai AQ 1 h' A' n y∧y.Perm l∧y.Pairwise (· ≤·)):=by
 refine BB func23 λ_ _=>?_;have ap:=hx.len;(repeat'(first|refine Aa ?_|(refine Ac ?_;first|(refine RV ?_;intro b1 h1 ax hcs1))|fail));refine Bg (X:=Nat×AC×At×Nat×U) (λx=>x.1≤n∧V h1 x.2.2.2.2∧x.2.1.length=x.1∧Ai AQ 1 x.2.2.2.2 x.2.2.1 x.1 x.2.1∧x.1≤x.2.2.2.1∧x.2.1.Perm (l.take x.1)∧x.2.1.Pairwise (· ≤·)) (λx=>n-x.1) (λx=>[(4,O x.1),(3,.slice x.2.2.1 x.1 x.2.2.2.1),(0,.slice A n c)]) (λ_=>[]) (λx=>x.2.2.2.2) (0,[],some (Av b1),0,h1) ⟨Ah,V.refl _,rfl,Ai.nil,Ah,by rw[Ia],An⟩ Af Ad rfl ?_;rintro⟨i,out,b,c4,hh⟩ ⟨hi,af,z,hs,hoc,f,aa⟩ g;dsimp only at hi af z hs hoc f aa g ⊢;by_cases r:i<n
 case' neg=>
  have al:i=n:=by omega
  subst al
  rw[By J]at f
  clear g
  repeat'(first|refine Aa ?_|(refine Y ?_ ?_<;>intro hc<;>try omega)|fail)
  all_goals first
   |omega
   |(exact BL rfl rfl rfl ⟨b,c4,out,rfl,hs,f,aa⟩)
 have a1:=hx.addrD r;have c1:Au hh ((addrD A).add (i*JG.size)) (AQ (l.getD i 0)):=(hx.cellsD 0 r).le Ag;have ad:=BY 0 ap r;generalize l.getD i 0=x at *
 have s:=λh' (an:V hh h') (o:AC) A' d (hs':Ai AQ 1 h' A' (i+1) o) (hc':i+1≤d) (hp:o.Perm (x::out)) (hso:o.Pairwise (· ≤·))=>g (i+1,o,A',d,h') ⟨Ah,af.trans an,by dsimp only;rw[hp.length_eq,Do,z],hs',hc',by
  dsimp only;rw[ad]
  exact hp.trans ((Uz x f).trans (by simpa using(JW (l₁:=[x]) (l₂:=l.take i)))),hso⟩ Ah
 dsimp only at s;clear g ad;(repeat'(first|refine Aa ?_|(refine Y ?_ ?_<;>intro hc<;>try omega)|fail));(all_goals try omega);refine Bg (X:=Nat) (λk=>k≤i∧∀t,t<k→out.getD t 0<x) (λk=>i-k) (λk=>[(5,O k),(4,O i),(3,.slice b i c4),(0,.slice A n c)]) (λ_=>[]) (λ_=>hh) 0 ⟨J,λt ai=>absurd ai J⟩ Af Ad rfl ?_;rintro k ⟨ae,e⟩ ab;by_cases p:k<i∧out.getD k 0<x
 ·obtain⟨a,ar⟩:=p;have a2:=hs.addrD a;have c2:Au hh ((addrD b).add (k*JG.size)) (AQ (out.getD k 0)):=hs.cellsD 0 a
  have j:=ab (k+1) ⟨J,λt ai=>by
   rcases KY t k with w|w;{exact e t w}
   ·(have:t=k:=by omega)
    rw[this];exact ar⟩ J
  generalize out.getD k 0=y at *;clear ab s e;(repeat'(first|refine Aa ?_|(apply AU (n:=6) 15 [0,1,2,3,4,5,6,7,8,9,10,11,12,13,14];kernel_rfl)|(apply Be;exact Bd;(first|exact pB|exact TV|(apply BA;exact F;first|exact BH rfl c2 rfl|exact BH rfl c1 rfl));exact AX)|(refine Db ?_ ?_<;>intro hc<;>try omega)|(refine Y ?_ ?_<;>intro hc<;>try omega)|fail))
  all_goals first
   |omega
   |(refine AB Af Ad j)
 ·obtain⟨hso,au⟩:=Aow (x:=x) (y:=out) (k:=k) J aa e (λq w=>p ⟨J,w⟩);have aq:=hs.low (lo:=k) (c:=c4) ae hoc;have hhi:=hs.highM (hi:=k) (c:=k) ae (BU k);(have aw:(out.drop k).length=i-k:=by rw[Kw,z]);(have a0:(out.take k).length=k:=by rw[CF];omega);clear ab e;by_cases a:k<i
  case' pos=>
   have a2:=hs.addrD a
   have c2:Au hh ((addrD b).add (k*JG.size)) (AQ (out.getD k 0)):=hs.cellsD 0 a
   have az:¬out.getD k 0<x:=λw=>p ⟨a,w⟩
   generalize out.getD k 0=y at *
  all_goals
   repeat'(first|refine Aa ?_|(refine Z (by apply Aw2 (hi:=k) (mx:=k) (n:=i) (c:=c4);(iterate 8 exact F);omega;omega) ?_)|(refine Ac ?_;first|(apply cY (enc:=AQ) (n:=k) (m:=1+(i-k)) (cx:=k) (xs:=out.take k) (ys:=[x]++out.drop k);(iterate 7 exact F);exact hhi.le Ag;exact hs5.le Ag;exact F;omega;exact(λ_=>rfl);omega;exact F;intro A6 ak am ao ah hs6))|(apply AU (n:=6) 15 [0,1,2,3,4,5,6,7,8,9,10,11,12,13,14];kernel_rfl)|(apply AU (n:=8) 10 [0,1,2,3,5,6,7,99,4,8,99,9];kernel_rfl)|(apply Be;exact Bd;(first|exact pB|exact TV|(apply BA;exact F;first|exact BH rfl c2 rfl|exact BH rfl c1 rfl)|(apply Ml (lo:=k) (n:=i) (c:=c4);(iterate 6 exact F);omega));exact AX)|(refine Bn ?_;first|(apply PH (n:=1) (cs:=AQ x);(iterate 3 exact F);exact Cf _ _;(iterate 6 exact F);intro aj;refine⟨V.refl _,Ak,?_⟩)|(apply cZ (enc:=AQ) (n:=1) (m:=i-k) (xs:=[x]) (ys:=out.drop k) (v:=.slice (some (Av aj)) 1 1);(iterate 7 exact F);exact aq.le Ag;exact(λ_=>rfl);exact(λx=>En rfl);exact Bh;exact F;omega;exact F;intro A5 c5 av ag ay hs5;refine⟨ag,Ak,?_⟩))|(refine Db ?_ ?_<;>intro hc<;>try omega)|(refine Y ?_ ?_<;>intro hc<;>try omega)|fail)
  (all_goals try omega)
  all_goals first
   |(exfalso;simp at hc;done)
   |(
      have ac:k+(1+(i-k))=i+1:=by omega
      rw[ac]at hs6 ah
      have j:=s am (ag.trans ao) _ A6 ak hs6 ah au hso
      rw[ac]
      refine AB Af Ad j)
attribute [local irreducible] El Ek Fl Ex EV Hv Fx FJ FA Lo IW
def PC (s c:Int) (C:Ax):AC:=match(C.filter λf=>decide (QL s c f)).getLast? with|none=>[]|some f=>f.lO
def Am6 {s c:Int}{C D:Ax}{x:Al}(e:D=C++[x])(h:QL s c x):PC s c D=x.lO:=by unfold PC;rw[e,zG,if_pos (decide_eq_true h)]
def Am8 {s c:Int}{C D:Ax}{x:Al}(e:D=C++[x])(h:¬QL s c x):PC s c D=PC s c C:=by unfold PC;rw[e,zG,if_neg (by rw[decide_eq_true_eq];exact h)]
def Am7 {L C:Ax}(a:D' L)(e:C=BR L)(s c:Int)(x:Al):Kp L s c x=OH (PC s c C) x.eClubs:=by subst e;unfold PC Kp;rw[Am4 a];cases MG L s c<;>rfl
def Alp {o cs:AC}(h:o.Perm cs):OH o cs=o:=by unfold OH;rw[if_pos h]
def Alq {o cs:AC}(h:¬o.Perm cs):OH o cs=cs:=by unfold OH;rw[if_neg h]
def Amj {cs:AC}{t:AT}(h:(DA cs t).2≠0):DA cs t=(Gf,(DA cs t).2):=by unfold DA at h ⊢;by_cases h1:EN t;{by_cases k:Fv cs.length∧Er cs;{rw[if_pos h1,if_pos k]at h;exact absurd rfl h};{rw[if_pos h1,if_neg k]}};{rw[if_neg h1]}
def HV.mem {h h':U}{cs:AC}{t:AT}{all:CX}{a:CQ}{i k:Nat}{s:Ca}{l:EH}(v:HV h cs t all a i k s l)(b:V h h'):HV h' cs t all a i k s l:=⟨v.at_.le b,v.vi,v.no,v.run⟩
open Classical in
theorem Aez (h:U)(A:At)(n c:Nat)(l:AN)(hx:Cz h A n l)(bk:n≤65536)(s g:Int)(t:AT) :
  Az prog 7 #[.slice A n c,O s,O g,GF t] h (λu h'=>KJ h' u (Iy (Ae l) s g t).1 (Iy (Ae l) s g t).2):=by
 refine BB func7 λ_ _=>?_
 have hr:=λh'=>Wq h' t
 have az:=JC hx
 have ct:=hx.row.len
 have hen:=λh' (a:V h h')=>Az8 h' A n c l (hx.le a) bk s g
 unfold Iy
 by_cases aw:EN t
 case' neg=>
  rw[if_neg aw]
  simp only[decide_eq_false aw]at hr
  dsimp only
  clear hen
  repeat'(first|refine Ba ?_|(apply AE;(iterate 3 exact F);apply Ci (e:=24);exact F;intro b7)|(apply AE;(iterate 3 exact F);apply Bo (e:=29);exact F;intro af)|refine BF ?_|(refine Ac ?_;first|(refine WN ?_))|(refine Y ?_ ?_<;>intro hc<;>try omega)|fail)
  all_goals first
   |(exfalso;simp at hc;done)
   |(exact Dl rfl rfl rfl Bc rfl rfl rfl (Gu _ _))
 rw[if_pos aw]
 simp only[decide_eq_true aw]at hr
 by_cases hco:g<8
 · rw[if_pos hco]
   dsimp only
   repeat'(first|refine Ba ?_|(apply AE;(iterate 3 exact F);apply Ci (e:=24);exact F;intro b7)|(apply AE;(iterate 3 exact F);apply Bo (e:=29);exact F;intro af)|(apply AE;(iterate 3 exact F);apply Bo (e:=52);exact F;intro bs)|refine BF ?_|(refine Ac ?_;first|(refine WN ?_)|(refine pY ?_;rintro b' h2 b2 ⟨zs,ca,ok,rfl,_⟩))|(refine Y ?_ ?_<;>intro hc<;>try omega)|refine AF ?_|(refine AG ?_ ?_<;>intro hc<;>try omega)|fail)
   all_goals first
    |omega
    |(exfalso;simp at hc;done)
    |(exact Dl rfl rfl rfl Bc rfl rfl rfl (Gu _ _))
 rw[if_neg hco]
 cases a':JN (Ae l) s g with
 |none=>
   rw[a']at hen
   dsimp only
   repeat'(first|refine Ba ?_|(apply AE;(iterate 3 exact F);apply Ci (e:=24);exact F;intro b7)|(apply AE;(iterate 3 exact F);apply Bo (e:=29);exact F;intro af)|(apply AE;(iterate 3 exact F);apply Bo (e:=52);exact F;intro bs)|refine BF ?_|(refine Ac ?_;first|(refine WN ?_)|(refine pY ?_;rintro b' h2 b2 ⟨zs,ca,ok,rfl,hs1,(⟨_,rfl,rfl⟩|⟨aj,_⟩)⟩;(first|(exfalso;cases aj;done)|skip)))|(refine Y ?_ ?_<;>intro hc<;>try omega)|refine AF ?_|(refine AG ?_ ?_<;>intro hc<;>try omega)|fail)
   all_goals first
    |omega
    |(exfalso;simp at hc;done)
    |(exfalso;cases aj;done)
    |(exact Dl rfl rfl rfl Bc rfl rfl rfl (Gu _ _))
 |some e=>
   have hen2:∀h',V h h'→Az prog 20 #[.slice A n c,O s,O g] h' (λu h2=>∃zs,u=.tuple #[Py zs e,.bool true]∧Ai AQ 1 h2 zs.cl.A zs.cl.n e.eClubs):=λh' a=>(hen h' a).mono λu h2 _ ⟨zs,ca,ok,a4,aj,ax⟩=>by
    rw[a']at ax
    rcases ax with⟨ap,_⟩|⟨ap,cv⟩
    · cases ap
    · cases ap;subst cv
      exact⟨zs,a4,aj⟩
   obtain⟨_,k1,k2,cu,b4⟩:=yL az a'
   obtain⟨cy,b1⟩:=zK b4 k1
   have hcan:=λh' (a:V h h')=>Qk h' A n c l (hx.le a) bk
   have a9:=Sk az
   have a7:=λh' (a:V h h')=>A1e h' A n c l (hx.le a) bk s g
   have c6:=uM az s g
   have c8:(Ae l).length≤65536:=by unfold Ae;rw[Dc];omega
   have ao:=λC (q:C=BR (Ae l))=>Am7 az q s g e
   dsimp only
   generalize Kp (Ae l) s g e=cs at *
   generalize Ij (Ae l) s g=all at *
   clear hen b4 k1 k2 cu a' az
   repeat'(first|refine Ba ?_|(apply AE;(iterate 3 exact F);apply Ci (e:=24);exact F;intro b7)|(apply AE;(iterate 3 exact F);apply Bo (e:=29);exact F;intro af)|(apply AE;(iterate 3 exact F);apply Bo (e:=52);exact F;intro bs)|refine BF ?_|(refine Ac ?_;first|(refine WN ?_)|(apply AR;exact F;exact Ab func20;exact hen2 _ Ag;rintro b' h2 b2 ⟨zs,rfl,hsl⟩)|(refine RV ?_;intro cb h3 ck hcs3)|(refine RZ ?_;rintro dc m cl ⟨A3,k3,c3,l3,rfl,hL⟩))|(refine Y ?_ ?_<;>intro hc<;>try omega)|refine AF ?_|(refine AG ?_ ?_<;>intro hc<;>try omega)|fail)
   all_goals try omega
   all_goals(try(exfalso;simp at hc;done))
   have c2:V h m:=Ag
   have cp:=hL.2.1.row.len
   have bb:=hL.2.1.row
   have bj:=hL.2.1.good
   have cz:k3≤65536:=by
    rw[←hL.2.2]at a9
    unfold Ae at a9;rw[Dc,Dc,cp,ct]at a9;omega
   have b5:Ai AQ 1 m zs.cl.A zs.cl.n e.eClubs:=(hsl.le ck).le cl
   have c':=hsl.len
   have ao:=ao _ hL.2.2
   clear hen2 hcan a9 hL hr hsl
   refine Bg (X:=Nat×At×Nat×Nat×AC) (λy=>y.1≤k3∧Ai AQ 1 m y.2.1 y.2.2.1 y.2.2.2.2∧y.2.2.1≤100∧y.2.2.2.2=PC s g (Ae (l3.take y.1))) (λy=>k3-y.1)
    (λy=>[(15,O y.1),(14,.slice A3 k3 c3),(13,.slice y.2.1 y.2.2.1 y.2.2.2.1),(12,.slice zs.cl.A zs.cl.n zs.cl.c),(7,Dt b7),(8,Dt af),(0,.slice A n c),(1,O s),(2,O g)])
    (λ_=>[Ap b7 24 (Mw t),Ap af 29 (BX NA.zero)]) (λ_=>m) (0,some (Av cb),0,0,[]) ⟨Ah,Ai.nil,Ah,by rw[Ia];rfl⟩ Af Ad rfl ?_
   rintro⟨i,ar,ab,c4,o⟩ ⟨hi,hs4,b3,a2⟩ aa
   dsimp only at hi hs4 b3 a2 aa ⊢
   by_cases am:i<k3
   · have a1:=bb.addrD am
     have c1:Au m ((addrD A3).add (i*F'.size)) (BM (l3.getD i AS)):=bb.cellsD AS am
     have hgp:=bj _ (Ce AS (show i<l3.length by omega))
     have bt:=BY AS (xs:=l3) rfl (show i<l3.length by omega)
     have bh:Ae (l3.take (i+1))=Ae (l3.take i)++[(l3.getD i AS).2]:=by rw[bt,Nh]
     have bc:=λr=>Am6 (s:=s) (c:=g) bh r
     have ba:=λr=>Am8 (s:=s) (c:=g) bh r
     clear bh bt bb bj a7 ao
     generalize l3.getD i AS=p at *
     obtain⟨ps,f⟩:=p
     dsimp only at bc ba hgp
     have c1:Au m ((addrD A3).add (i*F'.size)) (CS ps f):=c1
     by_cases r:QL s g f
     · have cq:ps.lo.n≤100:=(hgp.1.small1 hgp.2.2.sm1).2.2.2.2.2
       have z:=aa (i+1,ps.lo.A,ps.lo.n,ps.lo.c,f.lO) ⟨Ah,hgp.1.lo,cq,(bc r).symm⟩ Ah
       obtain⟨e1,e2,cx⟩:=r
       clear aa bc ba
       repeat'(first|refine Aa ?_|refine Z pD ?_|refine Z Cb ?_|(refine Y ?_ ?_<;>intro hc<;>try omega)|refine AF ?_|(refine AG ?_ ?_<;>intro hc<;>try omega)|fail)
       all_goals first
        |omega
        |(refine AB Af Ad z)
     · have z:=aa (i+1,ar,ab,c4,o) ⟨Ah,hs4,b3,a2.trans (ba r).symm⟩ Ah
       clear aa bc ba
       repeat'(first|refine Aa ?_|refine Z pD ?_|refine Z Cb ?_|(refine Y ?_ ?_<;>intro hc<;>try omega)|refine AF ?_|(refine AG ?_ ?_<;>intro hc<;>try omega)|fail)
       all_goals first
        |(exfalso;exact r ⟨Cn,Cn,Cn⟩)
        |omega
        |(refine AB Af Ad z)
   have bg:i=k3:=by omega
   subst bg
   rw[By J]at a2
   rw[←a2]at ao
   have bn:=λh' (a:V m h')=>Avn h' ar ab c4 o (hs4.le a) J
   have hsm:=λh' (a:V m h') B cc y (hy:Ai AQ 1 h' B ab y)=>Vg h' B ab cc y hy J zs.cl.A zs.cl.n zs.cl.c e.eClubs (b5.le a) J
   clear aa bb bj
   by_cases hp:o.Perm e.eClubs
   case' pos=>
    have hso:∀h',V m h'→Az prog 23 #[.slice ar ab c4] h' (λu h2=>∃A' ak y,u=.slice A' ab ak∧Ai AQ 1 h2 A' ab y∧decide (y=e.eClubs)=true):=λh' a=>(bn h' a).mono λu h2 _ ⟨A',ak,y,a4,aj,ax,ap⟩=>⟨A',ak,y,a4,aj,decide_eq_true ((bC ax ap b1).2 hp)⟩
    have hs6:Ai AQ 1 m ar ab cs:=by rw[ao,Alp hp];exact hs4
    have hnw:=λh' (a:V m h')=>jV h' ar ab c4 cs t (hs6.le a) J
   case' neg=>
    have hso:∀h',V m h'→Az prog 23 #[.slice ar ab c4] h' (λu h2=>∃A' ak y,u=.slice A' ab ak∧Ai AQ 1 h2 A' ab y∧decide (y=e.eClubs)=false):=λh' a=>(bn h' a).mono λu h2 _ ⟨A',ak,y,a4,aj,ax,ap⟩=>⟨A',ak,y,a4,aj,decide_eq_false λw=>hp ((bC ax ap b1).1 w)⟩
    have hs6:Ai AQ 1 m zs.cl.A zs.cl.n cs:=by rw[ao,Alq hp];exact b5
    have hnw:=λh' (a:V m h')=>jV h' zs.cl.A zs.cl.n zs.cl.c cs t (hs6.le a) J
   all_goals
    clear bn ao hp a2 hs6
    by_cases al:(DA cs t).2=0
    case' neg=>
     rw[if_neg al]
     rw[Amj al]at hnw ⊢
     generalize(DA cs t).2=N at *
     dsimp only at hnw ⊢
     clear a7
     repeat'(first|refine Ba ?_|(apply AE;(iterate 3 exact F);apply Bo (e:=29);exact F;intro ay)|refine BF ?_|(refine Ac ?_;first|(refine pX ?_;rintro v5 bi cm ⟨A5,c5,br,rfl,hs5,bp⟩)|(apply Aw;exact F;exact Ab func22;have q:=hsm bi Ag A5 c5 br hs5;rw[bp]at q;exact q)|(refine pW ?_;rintro cw cf cn ⟨b9,ah,rfl,bx⟩))|(refine Y ?_ ?_<;>intro hc<;>try omega)|fail)
     all_goals first
      |omega
      |(exfalso;simp at hc;done)
      |(exact Dl rfl rfl rfl Bc rfl rfl rfl (Gu _ _))
    rw[if_pos al]
    have b6:=hV all al
    have ci:=vE al
    have bw:=b6.t
    have bv:DA cs t=((DA cs t).1,0):=Prod.ext rfl al
    generalize(DA cs t).1=N at *
    rw[bv]at hnw
    dsimp only at hnw
    obtain⟨d,da⟩:=N
    dsimp only at bw
    subst bw
    repeat'(first|refine Ba ?_|(apply AE;(iterate 3 exact F);apply Bo (e:=29);exact F;intro ay)|refine BF ?_|(refine Ac ?_;first|(refine pX ?_;rintro v5 bi cm ⟨A5,c5,br,rfl,hs5,bp⟩)|(apply Aw;exact F;exact Ab func22;have q:=hsm bi Ag A5 c5 br hs5;rw[bp]at q;exact q)|(refine pW ?_;rintro cw cf cn ⟨b9,ah,rfl,bx⟩)|(apply AR;exact F;exact Ab func25;exact a7 _ Ag;rintro db bu co ⟨bf,c7,rfl,hs7⟩))|(refine Y ?_ ?_<;>intro hc<;>try omega)|fail)
    all_goals try omega
    all_goals(try(exfalso;simp at hc;done))
    have bz:=bx.le co
    have cd:=ZH bz
    subst cd
    clear hso hsm a7 hnw bv al hx
    refine Bg (X:=Bool×Nat×Ca×EH×U) (λy=>V bu y.2.2.2.2∧HV y.2.2.2.2 cs d all ⟨d,rounds ah⟩ (if y.1 then 0 else all.length) y.2.1 y.2.2.1 y.2.2.2.1) (λy=>(2*cs.length-y.2.1)*2+(if y.1 then 1 else 0))
     (λy=>[(19,.bool y.1),(18,.slice bf all.length c7),(16,Dt ay),(8,Dt af)])
     (λy=>[Ap ay 29 (Ge y.2.2.1 d),Ap af 29 (BX NA.zero)]) (λy=>y.2.2.2.2) (true,0,b9,ah,bu) ⟨V.refl _,⟨bz,b6,λj hj=>absurd hj An,rfl⟩⟩ Af Ad rfl ?_
    rintro⟨ag,k,a6,a5,hh⟩ ⟨a0,ad⟩ a3
    dsimp only at a0 ad a3 ⊢
    cases ag with
    |false=>
      have ad:HV hh cs d all ⟨d,rounds ah⟩ all.length k a6 a5:=ad
      have b0:=ad.fin
      have cg:=ad.at_
      rw[b0]
      clear a3 ad b0
      repeat'(first|refine AH ?_|(refine Y ?_ ?_<;>intro hc<;>try omega)|fail)
      all_goals first
       |(exfalso;simp at hc;done)
       |(exact Dl rfl rfl rfl Bc rfl rfl rfl ⟨a6,a5,rfl,cg⟩)
    |true=>
      have ad:HV hh cs d all ⟨d,rounds ah⟩ 0 k a6 a5:=ad
      have c0:=ad.vi.le
      have av:=λh' s' l' (a:V hh h') (v:HV h' cs d all ⟨d,rounds ah⟩ 0 (k+1) s' l')=>a3 (true,k+1,s',l',h') ⟨a0.trans a,v⟩ (by have:=v.vi.le;dsimp only;(try simp only[if_true,if_false,Ir]);omega)
      have au:=λh' s' l' (a:V hh h') (v:HV h' cs d all ⟨d,rounds ah⟩ all.length k s' l')=>a3 (false,k,s',l',h') ⟨a0.trans a,v⟩ (by dsimp only;(try simp only[if_true,if_false,Ir]);omega)
      dsimp only at av au
      clear a3
      repeat'(first|refine Aa ?_|(refine Y ?_ ?_<;>intro hc<;>try omega)|fail)
      all_goals try omega
      all_goals(try(exfalso;simp at hc;done))
      refine Bg (X:=Nat×Bool×Ca×EH×U) (λy=>y.1≤all.length∧V hh y.2.2.2.2∧HV y.2.2.2.2 cs d all ⟨d,rounds ah⟩ (if y.2.1 then 0 else y.1) (if y.2.1 then k+1 else k) y.2.2.1 y.2.2.2.1) (λy=>all.length-y.1)
       (λy=>[(20,O y.1),(19,.bool y.2.1),(18,.slice bf all.length c7),(16,Dt ay),(8,Dt af)])
       (λy=>[Ap ay 29 (Ge y.2.2.1 d),Ap af 29 (BX NA.zero)]) (λy=>y.2.2.2.2) (0,false,a6,a5,hh) ⟨Ah,V.refl _,ad⟩ Af Ad rfl ?_
      rintro⟨i,ce,ys,aq,ai⟩ ⟨cj,an,ac⟩ aa
      dsimp only at cj an ac aa ⊢
      cases ce with
      |true=>
        have z:=av ai ys aq an ac
        clear aa au av
        by_cases am:i<all.length
        all_goals
         repeat'(first|refine Aa ?_|(refine Y ?_ ?_<;>intro hc<;>try omega)|refine AF ?_|(refine AG ?_ ?_<;>intro hc<;>try omega)|fail)
         all_goals first
          |omega
          |(exfalso;simp at hc;done)
          |(refine AB Af Ad z)
      |false=>
        have ac:HV ai cs d all ⟨d,rounds ah⟩ i k ys aq:=ac
        by_cases am:i<all.length
        case' neg=>
         have bg:i=all.length:=by omega
         subst bg
         have z:=au ai ys aq an ac
         clear aa au av
         repeat'(first|refine Aa ?_|(refine Y ?_ ?_<;>intro hc<;>try omega)|refine AF ?_|(refine AG ?_ ?_<;>intro hc<;>try omega)|fail)
         all_goals first
          |omega
          |(exfalso;simp at hc;done)
          |(refine AB Af Ad z)
        have a1:=(hs7.le (a0.trans an)).addrD am
        have c1:Au ai ((addrD bf).add (i*ID.size)) (Cc (all.getD i AV)):=(hs7.le (a0.trans an)).cellsD AV am
        have hent:=λh' (a:V ai h') x=>Aqh h' ys aq d (ac.at_.rs.le a) ac.at_.nc (UW ac.at_ ac.vi.ok) x
        have bm:=λh' (a:V ai h')=>ac.skip (h':=h') a
        have bo:=λh' s' l' zr=>ac.take (h':=h') (s':=s') (l':=l') (zr:=zr) am ci
        have bl:=zL (t:=d) (rs:=rounds aq) (x:=all.getD i AV)
        have hent:=λh' (a:V ai h')=>hent h' a (all.getD i AV)
        generalize all.getD i AV=x at *
        by_cases r:(Dw ⟨d,rounds aq⟩ x).2=0
        · obtain⟨zr,bq⟩:=bl r
          rw[bq]at hent
          dsimp only at hent
          have aw:=λh' s' l' (ch:HE h' s' l' ⟨d,zr⟩)=>bo h' s' l' zr bq ch
          clear bm bo bl r bq au av
          repeat'(first|refine AH ?_|(apply Da (n:=26) [0,1,2,3,4,5,6,7,9,10,8,11] [(0,0),(1,0),(2,0),(3,0),(4,0),(5,2),(6,9),(6,0),(7,0),(8,0),(9,1),(10,1),(11,0),(5,1),(6,0),(7,0),(8,0),(10,1),(11,0)];kernel_rfl)|(apply Be;exact Bd;(first|exact Xf|exact Pb);exact AX)|(refine Aj ?_;intro b)|(refine Bn ?_;first|(refine Xw ?_;rintro v9 z ae ⟨be,bd,rfl,a8⟩;refine⟨ae,Ak,?_⟩))|(apply GQ;kernel_rfl;exact F;exact F)|(apply HP;(iterate 4 exact F);(first|(refine Xw ?_;rintro v9 z ae ⟨be,bd,rfl,a8⟩;refine⟨ae,Ak,?_⟩)))|(refine Y ?_ ?_<;>intro hc<;>try omega)|refine AF ?_|(refine AG ?_ ?_<;>intro hc<;>try omega)|fail)
          all_goals first
           |omega
           |(exfalso;simp at hc;done)
           |(
              have hq:=aa (i+1,true,be,bd,z) ⟨Ah,an.trans ae,aw _ _ _ a8⟩ Ah
              refine AB Af Ad hq)
        · have cr:=λh' (a:V ai h')=>bm h' a r
          obtain⟨y,e,b8,c9⟩:=wJ r
          rw[b8]at hent
          dsimp only at hent
          clear bm bo bl r b8 au av
          repeat'(first|refine AH ?_|(apply Da (n:=26) [0,1,2,3,4,5,6,7,9,10,8,11] [(0,0),(1,0),(2,0),(3,0),(4,0),(5,2),(6,9),(6,0),(7,0),(8,0),(9,1),(10,1),(11,0),(5,1),(6,0),(7,0),(8,0),(10,1),(11,0)];kernel_rfl)|(apply Be;exact Bd;(first|exact Xf|exact Pb);exact AX)|(refine Aj ?_;intro b)|(refine Bn ?_;first|(refine Xw ?_;rintro v9 z ae ⟨be,bd,rfl,a8⟩;refine⟨ae,Ak,?_⟩))|(apply GQ;kernel_rfl;exact F;exact F)|(apply HP;(iterate 4 exact F);(first|(refine Xw ?_;rintro v9 z ae ⟨be,bd,rfl,a8⟩;refine⟨ae,Ak,?_⟩)))|(refine Y ?_ ?_<;>intro hc<;>try omega)|refine AF ?_|(refine AG ?_ ?_<;>intro hc<;>try omega)|fail)
          all_goals first
           |omega
           |(exfalso;simp at hc;done)
           |(
              have hq:=aa (i+1,false,ys,aq,z) ⟨Ah,an.trans ae,cr _ ae⟩ Ah
              refine AB Af Ad hq)
end Go.Hw
namespace Go.Hw
open Go
attribute [local irreducible] AI Bz BV Aq AP Az Au CH Ap Ar BG Cm BP Dg El Ek Fl Ex EV Hv Fx FJ FA Iy Ij
open Go.Proofs.Tryz
def A06 (h:U)(hG:DG h)(A:At)(n c:Nat)(l:AN)(hx:xT h A n c l)(r:∀p∈l,p.1.cl.n≤p.1.cl.c)(s a:Int)(t:AT):Az prog 3 #[.slice A n c,O s,O a,GF t] h (λu _=>u=.bool true):=by
 refine BB func3 λ_ _=>?_;have g:=Ap1 h A n c l hx.row hx.small 14;have w:=Ajd h;by_cases d:(∀p∈l,OM p.1 p.2)∧(n:Int)≤14
 case' neg=>
  rw[decide_eq_false d]at g
  repeat'(first|refine Aa ?_|(refine Aj ?_;intro b)|(refine Ac ?_;first|(apply Aw;exact F;exact Ab func4;exact w)|(apply Aw;exact F;exact Ab func5;exact g))|(refine Y ?_ ?_<;>intro hc<;>try omega)|fail)
  all_goals first
   |(exact BL rfl rfl rfl rfl)
   |(exfalso;simp at hc;done)
 rw[decide_eq_true d]at g;have f:Cz h A n l:=⟨hx.row,hx.fat,by have:=d.2;omega⟩;have af:=d.2;(have v:n≤65536:=by omega);have j:D' (Ae l):=JC f;have x:=λh' (i:V h h')=>Ae2 h' (hG.le i) A n c l (f.le i) v r s a t;have y:=λh' (i:V h h')=>Aez h' A n c l (f.le i) v s a t
 have k:DW (Iy (Ae l) s a t).1∨(Iy (Ae l) s a t).1.rs=[]:=by
  by_cases q:(Iy (Ae l) s a t).2=0;{exact .inl ((mS j).2 q).1};{exact .inr ((mS j).1 q)}
 generalize Iy (Ae l) s a t=z at *;obtain⟨⟨vt,vr⟩,ah⟩:=z;dsimp only at x y k;have ab:=λh' m o l1 l2 (b1:HE h' m l1 ⟨vt,vr⟩) (b2:HE h' o l2 ⟨vt,vr⟩)=>Aji h' m o l1 l2 ⟨vt,vr⟩ b1 b2 (Atv b1 k);clear d f hx j r k;(repeat'(first|refine Ba ?_|(apply AE;(iterate 3 exact F);apply Ci (e:=24);exact F;intro ac)|refine BF ?_|(refine Aj ?_;intro b)|(refine Ac ?_;first|(apply Aw;exact F;exact Ab func4;exact w)|(apply Aw;exact F;exact Ab func5;exact g)|(apply AR;exact F;exact Ab func6;exact x _ Ag;rintro v1 h1 ad ⟨m,l1,rfl,hb1⟩)|(apply AR;exact F;exact Ab func7;exact y _ Ag;rintro ag h2 ae ⟨o,l2,rfl,aa⟩)|(apply Aw;exact F;exact Ab func8;exact ab _ _ _ _ _ (hb1.le Ag) aa))|(refine Y ?_ ?_<;>intro hc<;>try omega)|fail))
 all_goals first
  |(exfalso;simp at hc;done)
  |(exact BL rfl rfl rfl (congrArg Value.bool (by simp[FP])))
  |(exact BL rfl rfl rfl rfl)
end Go.Hw
import Derived.Test.YtbmffdagfjepgaaGreatDoorGC
import Derived.Test.YtbmffdagfjepgaaGreatDoorHwUs
set_option linter.all false
set_option maxRecDepth 100000
set_option maxHeartbeats 4000000
namespace Go.Hw
open Go
attribute [local irreducible] AI Bz BV Aq AP Az Au CH Ap Ar BG Cm BP Dg
open Go.Proofs.Tryz
structure Cz (h:U) (A:At) (n:Nat) (l:AN):Prop where
 row:Ai BM 82 h A n l
 fat:∀p∈l,Cr h p.1 p.2∧Eu p.2
 small:n≤1000000
def Cz.le {h h':U}{A:At}{n:Nat}{l:AN}(a:Cz h A n l)(b:V h h'):Cz h' A n l:=⟨a.row.le b,λp hp=>⟨(a.fat p hp).1.le b,(a.fat p hp).2⟩,a.small⟩
open Classical in
noncomputable def ED (l:AN):AN:=l.filter λp=>decide (p.2.kind=3∧BT p.2)
def mR (l:AN)(p:AA×Al):ED (l++[p])=ED l++ED [p]:=by unfold ED;rw[Gl]
def UR (p:AA×Al) (u:Ao) (h:U):Prop:=u=[BW p.1 p.2]
def AS:AA×Al:=(CP,BQ)
def Ko (a b:AL):Int:=HF [BJ a.s b.s,BJ a.c b.c,BJ a.h b.h,BJ a.a b.a]
def Aln (h:U)(a c:AL):Az prog 353 #[Di a,Di c] h (λu _=>u=O (Ko a c)):=by refine BB func353 λ_ _=>?_;unfold Ko;generalize hor:HF [BJ a.s c.s,BJ a.c c.c,BJ a.h c.h,BJ a.a c.a]=o at *;(repeat'(first|refine Aa ?_|(refine Aj ?_;intro b)|(apply AU (n:=1) 23 [0,1,2,3,5,6,7,8,10,11,12,13,15,16,17,18,99,4,9,14,19,20,21,99,22];kernel_rfl)|(refine Bn ?_;first|(apply HQ (e:=3) (cs:=[BJ a.s c.s,BJ a.c c.c,BJ a.h c.h,BJ a.a c.a].map λi=>O i);(iterate 3 exact F);exact Cf _ _;(iterate 4 exact F);intro b1 h1 f hcs1;refine⟨f,Ak,?_⟩)|(apply Aw;exact F;exact Ab func54;(have d:=Vq _ _ 4 4 [BJ a.s c.s,BJ a.c c.c,BJ a.h c.h,BJ a.a c.a] (Jc hcs1) J;rw[hor]at d;exact d);refine⟨V.refl _,Ak,?_⟩)|(apply Aw;exact F;exact Ab func55;exact Ru _ _ _;refine⟨V.refl _,Ak,?_⟩))|(apply BL;(iterate 3 exact F))));all_goals rfl
def Ae4 (h:U)(A:At)(n c:Nat):Az prog 303 #[.slice A n c] h (λu h'=>∃a,u=.func (.func 337) #[] #[AD a]∧Au h' (Av a) [.slice A n c]):=by refine BB func303 λ_ _=>?_;(repeat'(first|refine Aa ?_|(refine Aj ?_;intro b)|fail));refine Ii Bh ?_;intro h1 e d;(first|(apply BL;(iterate 3 exact F)));exact⟨b,rfl,d⟩
open Classical in
theorem Ae5 (h:U)(A:At)(n c:Nat)(l:AN)(hx:Cz h A n l)(j:Nat)(t:Au h (Av j) [.slice A n c]):HB prog 337 [AD j] UR (ED l) h:=by
 intro lid I Ix af ag z Es h1 q h0;refine Cx func337 λ_ _=>?_;have ad:=hx.row.len;have hn:=hx.small;have hb1:=t.le q;(repeat'(first|refine Aa ?_|(refine Z (by apply BA;exact F;exact BH rfl hb1 rfl) ?_)|fail));refine Pd (X:=Nat×Am×U) (λx=>x.1≤n∧V h x.2.2∧I (ED (l.take x.1)) x.2.1 x.2.2) (λx=>n-x.1) (λx=>[(7,O x.1),(6,O n),(5,.slice A n c),(0,.func (.yield lid) #[] #[])]) (λx=>x.2.1) (λx=>x.2.2) (0,Es,h1) ⟨J,q,h0⟩ Af rfl rfl ?_;rintro⟨k,d,e⟩ ⟨w,hlk,a⟩ f;dsimp only at w hlk a f ⊢;by_cases hkn2:k<n
 ·have a1:=hx.row.addrD hkn2;have c1:=(hx.row.cellsD AS hkn2).le hlk;have m:=BY AS (xs:=l) rfl (show k<l.length by omega);have aa:=WE AS (l:=l) rfl (show k<l.length by omega);have o:=hx.fat _ (Ce AS (show k<l.length by omega));generalize l.getD k AS=p at *;have hch:=Ql e p.1 p.2 (o.1.le hlk) o.2;(have ab:(p.2.kind=3∧BT p.2)→Dg prog lid [BW p.1 p.2] d e λv Es' h'=>(v=.bool true∧I (ED (l.take (k+1))) Es' h')∨(v=.bool false∧Ix (ED (l.take (k+1))) Es' h'):=λhv=>by{(have e1:ED [p]=[p]:=by unfold ED;simp[hv]);(have e2:ED (l.take (k+1))=ED (l.take k)++[p]:=by rw[m,mR,e1]);(have s:ED l=ED (l.take k)++p::ED (l.drop (k+1)):=by{(conv=>lhs;rw[aa]);unfold ED at e1 ⊢;rw[Gl,show p::l.drop (k+1)=[p]++l.drop (k+1)from rfl,Gl,e1];rfl});rw[e2];exact z _ _ _ _ _ _ s hlk rfl a});by_cases hv:p.2.kind=3∧BT p.2
  ·have ae:=hv.1;rw[if_pos hv.2]at hch;(repeat'(first|refine AH ?_|refine Z Bf ?_|refine Z BN ?_|(refine Aj ?_;intro b)|(refine Ac ?_;first|(refine RP ?_)|(refine Nj (JW (l₁:=[_])) ?_;apply QR (Es0:=d) (Fs:=[_]);(iterate 3 exact F);exact ab hv;rintro v g h2 y (⟨rfl,i⟩|⟨rfl,i⟩);all_goals skip))|(refine Y ?_ ?_<;>intro hc<;>try omega)|refine AF ?_|(refine AG ?_ ?_<;>intro hc<;>try omega)|fail))
   all_goals first
    |omega
    |(
       have h3:=f (k+1,g,h2) ⟨by show k+1≤n;omega,hlk.trans y,i⟩ NT
       refine Lc (JW (l₁:=g) (l₂:=[_])) (HM .here ?_)
       exact Jz Af h3)
    |(
       refine Me (rs:=[]) (vs:=[]) (Fs:=g) rfl rfl trivial (Pm _ _) (.inr ⟨ED (l.take (k+1)),ED (l.drop (k+1)),?_,i⟩)
       unfold ED;rw[←Gl,GW])
  (have r:ED (l.take (k+1))=ED (l.take k):=by{rw[m,mR];unfold ED;simp[hv]});by_cases u:p.2.kind=3
  ·rw[if_neg (λh=>hv ⟨u,h⟩)]at hch;(repeat'(first|refine AH ?_|refine Z Bf ?_|refine Z BN ?_|(refine Aj ?_;intro b)|(refine Ac ?_;first|(refine RP ?_))|(refine Y ?_ ?_<;>intro hc<;>try omega)|refine AF ?_|(refine AG ?_ ?_<;>intro hc<;>try omega)|fail))
   all_goals
    have h3:=f (k+1,d,e) ⟨by show k+1≤n;omega,hlk,by show I (ED (l.take (k+1))) _ _;rw[r];exact a⟩ NT
    refine HM .here ?_
    exact Jz Af h3
  ·generalize(if BT p.2 then(0:Int)else 70)=ac at hch;(repeat'(first|refine AH ?_|refine Z Bf ?_|refine Z BN ?_|(refine Aj ?_;intro b)|(refine Y ?_ ?_<;>intro hc<;>try omega)|refine AF ?_|(refine AG ?_ ?_<;>intro hc<;>try omega)|fail))
   all_goals
    have h3:=f (k+1,d,e) ⟨by show k+1≤n;omega,hlk,by show I (ED (l.take (k+1))) _ _;rw[r];exact a⟩ NT
    refine HM .here ?_
    exact Jz Af h3
 {rw[By J]at a;(repeat'(first|refine Aa ?_|(refine Y ?_ ?_<;>intro hc<;>try omega)|fail));exact FK (rs:=[]) (vs:=[]) rfl rfl trivial (.inl a)}
def Yr:Gw prog 36 Di:=
 Gw.struct It rfl rfl CG (λx y e=>by
  cases x;cases y;simp only[CG,Kb,Value.int.injEq,true_and,and_true]at e;obtain⟨rfl,rfl,rfl,rfl⟩:=e;rfl) (λx=>rfl) MZ GH (λx v hv=>by
  simp only[CG,Bx,JX,or_false]at hv
  rcases hv with rfl|rfl|rfl|rfl<;>exact⟨_,_,rfl⟩)
def Aje (h:U)(s:AA)(x:DV)(hx:Ef h s x)(a:Gg x)(t:AA)(y:DV)(hy:Ef h t y)(c:Gg y):Aq prog 305 #[KV s x,KV t y] h (.bool (decide (Jx x y))):=by refine AK func305 λ_ _=>?_;have i:=hx.hs.len;have j:=hx.asn.len;have n3:=hx.hc.len;have k:=hx.ac.len;have d:=hy.hs.len;have e:=hy.asn.len;have f:=hy.hc.len;have g:=hy.ac.len;obtain⟨l,m,n,o⟩:=a;obtain⟨p,r2,q,r⟩:=c;(repeat'(first|refine Aa ?_|refine Z O' ?_|(refine Aj ?_;intro b)|(refine Ac ?_;first|(apply Aw;exact F;exact Ab func47;first|exact Qm _ _ _ _ x.hs (hx.hs.le Ag) J _ _ _ y.hs (hy.hs.le Ag) J|exact Qm _ _ _ _ x.asn (hx.asn.le Ag) J _ _ _ y.asn (hy.asn.le Ag) J)|(apply Aw;exact F;exact Ab func144;first|exact VZ _ _ _ _ x.hc (hx.hc.le Ag) J _ _ _ y.hc (hy.hc.le Ag) J|exact VZ _ _ _ _ x.ac (hx.ac.le Ag) J _ _ _ y.ac (hy.ac.le Ag) J))|refine AF ?_|(refine AG ?_ ?_<;>intro hc<;>try omega)|fail));(all_goals(first|(apply BS;(iterate 3 exact F))));(all_goals(clear hx hy;refine Cv ?_));all_goals(rw[Abi];grind)
abbrev FU:=(AA×Al)×(AA×Al)
abbrev Ll:=List (AL×FU)
def Ak9 (p:FU):Ao:=CS p.1.1 p.1.2++CS p.2.1 p.2.2
def Hu (p:FU):Value:=.agg (Ak9 p).toArray
def Je:FU:=(AS,AS)
def KK (h:U) (x:AA×Al):Prop:=Cr h x.1 x.2∧Eu x.2∧BT x.2∧x.2.kind=3
def Jt (h:U) (p:FU):Prop:=(p.1.2.kind=0∨KK h p.1)∧(p.2.2.kind=0∨KK h p.2)
def KK.le {h h':U}{x:AA×Al}(a:KK h x)(b:V h h'):KK h' x:=⟨a.1.le b,a.2⟩
def Jt.le {h h':U}{p:FU}(a:Jt h p)(b:V h h'):Jt h' p:=⟨a.1.imp id (·.le b),a.2.imp id (·.le b)⟩
def Jt.zero (h:U):Jt h Je:=⟨.inl rfl,.inl rfl⟩
def Fi (p:FU) (x:AA×Al):FU:=
 if x.2.sh.ref=0 then(if p.1.2.kind=0∨CO p.1.2 x.2<0 then(x,p.2)else p)else(if p.2.2.kind=0∨CO p.2.2 x.2<0 then(p.1,x)else p)
def Jt.take {h:U}{p:FU}{x:AA×Al}(hp:Jt h p)(hx:KK h x):Jt h (Fi p x):=by unfold Fi;split;{split;{exact⟨.inr hx,hp.2⟩};{exact hp}};{split;{exact⟨hp.1,.inr hx⟩};{exact hp}}
def Ah7 (h:U)(hG:DG h)(p:FU)(x:AA×Al)(hp:Jt h p)(hx:KK h x):Az prog 304 #[Hu p,BW x.1 x.2] h (λu _=>u=Hu (Fi p x)):=by refine BB func304 λ_ _=>?_;obtain⟨⟨s,f⟩,⟨t,g⟩⟩:=p;obtain⟨z,e⟩:=x;obtain⟨hx1,hx2,hx3,m⟩:=hx;dsimp only at hx1 hx2 hx3 m;have hr:=jH hx3 m;rcases hr with hr|hr;{by_cases c:f.kind=0;{(have a:Fi ((s,f),(t,g)) (z,e)=((z,e),(t,g)):=by unfold Fi;rw[if_pos hr,if_pos (.inl c)]);rw[a];(repeat'(first|refine AH ?_|refine Z TX ?_|(refine Aj ?_;intro b)|(apply AU (n:=2) 13 [0,1,2,3,4,5,6,7,8,9,99,10,99,11,12];kernel_rfl)|(apply Be;exact Bd;exact TX;exact AX)|(refine Db ?_ ?_<;>intro hc<;>try omega)|(refine Y ?_ ?_<;>intro hc<;>try omega)|(apply Gr;(iterate 3 exact F);exact Bc;exact F;exact F)|(apply KS;exact F;kernel_rfl;exact F;exact F)));all_goals rfl};{have hf:KK h (s,f):=hp.1.resolve_left c;obtain⟨hf1,hf2,hf3,j⟩:=hf;dsimp only at hf1 hf2 hf3 j;by_cases i:CO f e<0;{(have a:Fi ((s,f),(t,g)) (z,e)=((z,e),(t,g)):=by unfold Fi;rw[if_pos hr,if_pos (.inr i)]);rw[a];(repeat'(first|refine AH ?_|refine Z TX ?_|(refine Aj ?_;intro b)|(apply AU (n:=2) 13 [0,1,2,3,4,5,6,7,8,9,99,10,99,11,12];kernel_rfl)|(apply Be;exact Bd;exact TX;exact AX)|(refine Bn ?_;first|(refine uE ?_;rintro vr l d rfl;refine⟨d,Ak,?_⟩))|(refine Db ?_ ?_<;>intro hc<;>try omega)|(refine Y ?_ ?_<;>intro hc<;>try omega)|(apply Gr;(iterate 3 exact F);exact Bc;exact F;exact F)|fail));all_goals rfl};{(have a:Fi ((s,f),(t,g)) (z,e)=((s,f),(t,g)):=by unfold Fi;rw[if_pos hr,if_neg (λh=>h.elim c i)]);rw[a];(repeat'(first|refine AH ?_|(refine Aj ?_;intro b)|(apply AU (n:=2) 13 [0,1,2,3,4,5,6,7,8,9,99,10,99,11,12];kernel_rfl)|(apply Be;exact Bd;exact TX;exact AX)|(refine Bn ?_;first|(refine uE ?_;rintro vr l d rfl;refine⟨d,Ak,?_⟩))|(refine Db ?_ ?_<;>intro hc<;>try omega)|(refine Y ?_ ?_<;>intro hc<;>try omega)|(apply Gr;(iterate 3 exact F);exact Bc;exact F;exact F)|fail));all_goals rfl}}};{(have k:¬e.sh.ref=0:=by omega);by_cases c:g.kind=0;{(have a:Fi ((s,f),(t,g)) (z,e)=((s,f),(z,e)):=by unfold Fi;rw[if_neg k,if_pos (.inl c)]);rw[a];(repeat'(first|refine AH ?_|refine Z TW ?_|(refine Aj ?_;intro b)|(apply AU (n:=2) 13 [0,1,2,3,4,5,6,7,8,9,99,10,99,11,12];kernel_rfl)|(apply Be;exact Bd;exact TW;exact AX)|(refine Db ?_ ?_<;>intro hc<;>try omega)|(refine Y ?_ ?_<;>intro hc<;>try omega)|(apply Gr;(iterate 3 exact F);exact Bc;exact F;exact F)|(apply KS;exact F;kernel_rfl;exact F;exact F)));all_goals rfl};{have hf:KK h (t,g):=hp.2.resolve_left c;obtain⟨hf1,hf2,hf3,j⟩:=hf;dsimp only at hf1 hf2 hf3 j;by_cases i:CO g e<0;{(have a:Fi ((s,f),(t,g)) (z,e)=((s,f),(z,e)):=by unfold Fi;rw[if_neg k,if_pos (.inr i)]);rw[a];(repeat'(first|refine AH ?_|refine Z TW ?_|(refine Aj ?_;intro b)|(apply AU (n:=2) 13 [0,1,2,3,4,5,6,7,8,9,99,10,99,11,12];kernel_rfl)|(apply Be;exact Bd;exact TW;exact AX)|(refine Bn ?_;first|(refine uD ?_;rintro vr l d rfl;refine⟨d,Ak,?_⟩))|(refine Db ?_ ?_<;>intro hc<;>try omega)|(refine Y ?_ ?_<;>intro hc<;>try omega)|(apply Gr;(iterate 3 exact F);exact Bc;exact F;exact F)|fail));all_goals rfl};{(have a:Fi ((s,f),(t,g)) (z,e)=((s,f),(t,g)):=by unfold Fi;rw[if_neg k,if_neg (λh=>h.elim c i)]);rw[a];(repeat'(first|refine AH ?_|(refine Aj ?_;intro b)|(apply AU (n:=2) 13 [0,1,2,3,4,5,6,7,8,9,99,10,99,11,12];kernel_rfl)|(apply Be;exact Bd;exact TW;exact AX)|(refine Bn ?_;first|(refine uD ?_;rintro vr l d rfl;refine⟨d,Ak,?_⟩))|(refine Db ?_ ?_<;>intro hc<;>try omega)|(refine Y ?_ ?_<;>intro hc<;>try omega)|(apply Gr;(iterate 3 exact F);exact Bc;exact F;exact F)|fail));all_goals rfl}}}
def IZ (x:AA×Al):IF:=if x.2.kind=0 then none else some x.2
def Ku (s:AA) (x:Dn):Value:=.agg (O x.kind::(LZ s x.sh++[O x.day])).toArray
def IX (p:FU):Dn:=NP (IZ p.1) (IZ p.2)
def Kt (p:FU):AA:=if p.1.2.kind=0 then(if p.2.2.kind=0 then CP else p.2.1)else if p.2.2.kind=0 then p.1.1 else if Jx p.1.2.sh p.2.2.sh then p.1.1 else CP
def Gg.nil:Gg IB:=⟨BO,BO,BO,BO⟩
def Aja {h:U}{p:FU}(hp:Jt h p):Ef h (Kt p) (IX p).sh∧Gg (IX p).sh:=by unfold Kt IX IZ;by_cases h1:p.1.2.kind=0<;>by_cases h2:p.2.2.kind=0;{simp only[h1,h2,if_true];exact⟨Ef.nil h,Gg.nil⟩};{simp only[h1,h2,if_true,if_false];have:=hp.2.resolve_left h2;exact⟨this.1.sh,this.2.1.1⟩};{simp only[h1,h2,if_true,if_false];have:=hp.1.resolve_left h1;exact⟨this.1.sh,this.2.1.1⟩};{simp only[h1,h2,if_false,NP];split;{have:=hp.1.resolve_left h1;exact⟨this.1.sh,this.2.1.1⟩};{exact⟨Ef.nil h,Gg.nil⟩}}
def Ai8 (h:U)(p:FU)(hp:Jt h p):Aq prog 221 #[Hu p] h (Ku (Kt p) (IX p)):=by
 refine AK func221 λ_ _=>?_;obtain⟨⟨s,f⟩,⟨t,g⟩⟩:=p;by_cases h1:f.kind=0<;>by_cases h2:g.kind=0;{(have e1:Ku (Kt ((s,f),(t,g))) (IX ((s,f),(t,g)))=Ku CP FL:=by unfold Kt IX IZ;simp only[h1,h2,if_true];rfl);rw[e1];(repeat'(first|refine AH ?_|(refine Aj ?_;intro b)|(apply Da (n:=1) [0,1,4,5,6,2,3,7] [(0,0),(1,0),(2,0),(3,0),(4,2),(3,5),(5,1),(6,1),(7,1),(4,1),(6,1),(7,1)];kernel_rfl)|(apply Be;exact Bd;(first|exact TS|exact RS);exact AX)|(apply GQ;kernel_rfl;exact F;exact F)|(refine Y ?_ ?_<;>intro hc<;>try omega)|refine AF ?_|(refine AG ?_ ?_<;>intro hc<;>try omega)|(apply Ha;(iterate 3 exact F);exact Bc;exact F;exact F)|fail));all_goals rfl};{(have e1:Ku (Kt ((s,f),(t,g))) (IX ((s,f),(t,g)))=Ku t ⟨1,g.sh,g.day⟩:=by unfold Kt IX IZ;simp only[h1,h2,if_true,if_false];rfl);rw[e1];(repeat'(first|refine AH ?_|(refine Aj ?_;intro b)|(apply Da (n:=1) [0,1,4,5,6,2,3,7] [(0,0),(1,0),(2,0),(3,0),(4,2),(3,5),(5,1),(6,1),(7,1),(4,1),(6,1),(7,1)];kernel_rfl)|(apply Be;exact Bd;(first|exact TS|exact RS);exact AX)|(apply GQ;kernel_rfl;exact F;exact F)|(refine Y ?_ ?_<;>intro hc<;>try omega)|refine AF ?_|(refine AG ?_ ?_<;>intro hc<;>try omega)|(apply Ha;(iterate 3 exact F);exact Bc;exact F;exact F)|fail));all_goals rfl};{(have e1:Ku (Kt ((s,f),(t,g))) (IX ((s,f),(t,g)))=Ku s ⟨1,f.sh,f.day⟩:=by unfold Kt IX IZ;simp only[h1,h2,if_true,if_false];rfl);rw[e1];(repeat'(first|refine AH ?_|(refine Aj ?_;intro b)|(apply Da (n:=1) [0,1,4,5,6,2,3,7] [(0,0),(1,0),(2,0),(3,0),(4,2),(3,5),(5,1),(6,1),(7,1),(4,1),(6,1),(7,1)];kernel_rfl)|(apply Be;exact Bd;(first|exact TS|exact RS);exact AX)|(apply GQ;kernel_rfl;exact F;exact F)|(refine Y ?_ ?_<;>intro hc<;>try omega)|refine AF ?_|(refine AG ?_ ?_<;>intro hc<;>try omega)|(apply Ha;(iterate 3 exact F);exact Bc;exact F;exact F)|fail));all_goals rfl}
 ·obtain⟨d,e,_⟩:=hp.1.resolve_left h1;obtain⟨g1,i,_⟩:=hp.2.resolve_left h2;dsimp only at d e g1 i;have hsm:=Aje h s f.sh d.sh e.1 t g.sh g1.sh i.1;obtain⟨m,hm⟩:∃m,m=max f.day g.day:=⟨_,rfl⟩;by_cases hq:Jx f.sh g.sh
  ·(have e1:Ku (Kt ((s,f),(t,g))) (IX ((s,f),(t,g)))=Ku s ⟨2,f.sh,m⟩:=by unfold Kt IX IZ;simp only[h1,h2,if_false,NP,if_pos hq,hm]);rw[e1];rw[decide_eq_true hq]at hsm;(repeat'(first|refine Ba ?_|(apply Aa8;(iterate 3 exact F);intro c hwn)|refine BF ?_|(refine Aj ?_;intro b)|(refine Ac ?_;first|(apply Aw;exact F;exact Ab func305;exact hsm))|(apply Da (n:=1) [0,1,4,5,6,2,3,7] [(0,0),(1,0),(2,0),(3,0),(4,2),(3,5),(5,1),(6,1),(7,1),(4,1),(6,1),(7,1)];kernel_rfl)|(apply Be;exact Bd;(first|exact TS|exact RS);exact AX)|(apply GQ;kernel_rfl;exact F;exact F)|(refine Y ?_ ?_<;>intro hc<;>try omega)|refine AF ?_|(refine AG ?_ ?_<;>intro hc<;>try omega)|(apply Ha;(iterate 3 exact F);exact Bc;exact F;exact F)|fail))
   all_goals
    have a:c=m:=by rw[hwn,hm]
    rw[a];rfl
  ·(have e1:Ku (Kt ((s,f),(t,g))) (IX ((s,f),(t,g)))=Ku CP ⟨3,IB,m⟩:=by unfold Kt IX IZ;simp only[h1,h2,if_false,NP,if_neg hq,hm]);rw[e1];rw[decide_eq_false hq]at hsm;(repeat'(first|refine Ba ?_|(apply Aa8;(iterate 3 exact F);intro c hwn)|refine BF ?_|(refine Aj ?_;intro b)|(refine Ac ?_;first|(apply Aw;exact F;exact Ab func305;exact hsm))|(apply Da (n:=1) [0,1,4,5,6,2,3,7] [(0,0),(1,0),(2,0),(3,0),(4,2),(3,5),(5,1),(6,1),(7,1),(4,1),(6,1),(7,1)];kernel_rfl)|(apply Be;exact Bd;(first|exact TS|exact RS);exact AX)|(apply GQ;kernel_rfl;exact F;exact F)|(refine Y ?_ ?_<;>intro hc<;>try omega)|refine AF ?_|(refine AG ?_ ?_<;>intro hc<;>try omega)|(apply Ha;(iterate 3 exact F);exact Bc;exact F;exact F)|fail))
   all_goals
    have a:c=m:=by rw[hwn,hm]
    rw[a];rfl
theorem uI {C:Bu}{l:AW}{h:U}{ty:TypeId}{pos:String}{aft:Cw}{gd:Cq}{dst:CK}{t k e:TypeId}{x y:Operand}{b:Nat}{key:AL}{m:Ll}{T d:Ay}{q:FU}(K:Gw C.P k Di)(hT:AM t C.ts=some T)(i:T.desc=.map k e)(g:AM e C.ts=some d)(j:d.zero=Hu Je)
  (hx:AJ l x=some (.map (some b))) (hy:AJ l y=some (Di key)) (hq:q=(Co key m).getD Je):DN C l [BG Di Hu b m] h ⟨dst,.lookup t x y false,ty,pos,aft,gd⟩ (Hu q):=by
 have:=On (ev:=Hu) (h:=h) (ty:=ty) (pos:=pos) (aft:=aft) (gd:=gd) (dst:=dst) (c:=false) (m:=m) (b:=b) K hT i g hx hy rfl
 cases f:Co key m with
 |none=>rw[f]at this hq;rw[hq];rw[show Hu ((none:Option FU).getD Je)=d.zero from j.symm];exact this
 |some a=>rw[f]at this hq;rw[hq];exact this
def Zm (m:Ll) (x:AA×Al):Ll:=Dk x.2.sh.g (Fi ((Co x.2.sh.g m).getD Je) x) m
def GR (vs:AN):Ll:=vs.foldl Zm []
def Us (vs:AN)(x:AA×Al):GR (vs++[x])=Dk x.2.sh.g (Fi ((Co x.2.sh.g (GR vs)).getD Je) x) (GR vs):=by unfold GR;rw[GL];rfl
noncomputable def MO (l:AN):Ll:=GR (ED l)
def RI {α:Type}{P:List α→Prop}(h0:P [])(h1:∀l x,P l→P (l++[x]))(l:List α):P l:=by rw[←List.reverse_reverse l];induction l.reverse with|nil=>exact h0|cons x r a=>rw[wZ];exact h1 _ _ a
def zY {h:U}{vs:AN}:(∀x∈vs,KK h x)→∀g,Jt h ((Co g (GR vs)).getD Je):=by refine RI (P:=λvs=>(∀x∈vs,KK h x)→∀g,Jt h ((Co g (GR vs)).getD Je)) (λ_ g=>Jt.zero h) (λvs x a hv g=>?_) vs;rw[Us,KM];have a:=a λy hy=>hv y (by simp[hy]);split;{exact(a _).take (hv x An)};{exact a g}
open Classical in
theorem bE {h:U}{A:At}{n:Nat}{l:AN}(hx:Cz h A n l):∀x∈ED l,KK h x:=λx hv=>by
 unfold ED at hv
 rw[DQ,decide_eq_true_eq]at hv
 have:=hx.fat x hv.1
 exact⟨this.1,this.2,hv.2.2,hv.2.1⟩
def Alk (h:U)(hG:DG h)(A:At)(n c:Nat)(l:AN)(hx:Cz h A n l):AP prog 220 #[.slice A n c] [] h λu Es h'=>∃bm,u=.map (some bm)∧Es=[BG Di Hu bm (MO l)]:=by
 refine Cx func220 λ_ _=>?_;(repeat'(first|refine AH ?_|(refine Aj ?_;intro b)|(refine Ac ?_;first|(apply Nn Di Hu;intro bm)|(apply AR;exact F;exact Ab func303;exact Ae4 _ A n c;rintro vr w f ⟨g,rfl,o⟩))|fail));generalize b=a;refine EF (Es':=[Ap a 252 [.map (some bm)],BG Di Hu bm (GR [])]) Ad ?_;refine QY (R:=UR) (xs:=ED l) (gf:=337) (lb:=[AD g]) rfl rfl (Ab func337) (Ae5 _ A n c l (hx.le f) g o) TK rfl (λpre Es h2=>Es=[Ap a 252 [.map (some bm)],BG Di Hu bm (GR pre)]) (λ_ _ _ _=>False) (λpre Es h2 h3 v e=>e) (λ_ _ _ _ _ _ h=>h.elim) rfl ?_ ?_ (λ_ _ _ _ _ _ _ _ h=>h.elim)
 ·rintro lid r0 aa t pre x post u k h1 j rfl rfl d s;have p:KK h1 x:=(bE hx x (by rw[j];simp)).le (f.trans d);have i:Jt h1 ((Co x.2.sh.g (GR pre)).getD Je):=zY (λy hy=>(bE hx y (by rw[j];simp[hy])).le (f.trans d)) _;rw[show(GR (pre++[x]))=_ from Us pre x];obtain⟨q,hq⟩:∃q,q=(Co x.2.sh.g (GR pre)).getD Je:=⟨_,rfl⟩;rw[←hq]at i ⊢;generalize GR pre=m at *;(repeat'(first|refine Ba ?_|(apply Ng;exact F;exact Bh;exact s)|(refine Aj ?_;intro b)|(apply AU (n:=4) 12 [0,1,2,3,4,5,6,7,8,9,99,10,11];kernel_rfl)|refine BF ?_|(apply Be;exact Bd;(apply uI (key:=x.2.sh.g) (b:=bm) (m:=m) Yr;(iterate 6 exact F);exact hq);exact AX)|(refine Bn ?_;first|(apply AR;exact F;exact Ab func304;exact Ah7 _ (hG.le Ag) q x (i.le Ag) (p.le Ag);rintro z h2 r rfl;refine⟨r,Ak,?_⟩)|(apply Nq (ek:=Di) (ev:=Hu) (b:=bm) (m:=m) (key:=x.2.sh.g) (u:=Fi q x) Yr;(iterate 6 exact F);exact Bp;refine⟨V.refl _,Ak,?_⟩))|fail))
  all_goals
   refine EF (Es':=[FI lid {r0 with state:=.busy},Ap a 252 [.map (some bm)],BG Di Hu bm (Dk x.2.sh.g (Fi q x) m)]) Ad (Oa (r0:=r0) rfl .here ?_)
   rfl
 ·rintro D h1 k d rfl;(repeat'(first|refine Aa ?_|fail))
  all_goals
   refine Oq (Ob rfl Bh (NQ (rs:=[.tmp 2]) (vs:=[.map (some bm)]) (Fs:=[BG Di Hu bm (MO l)]) rfl rfl ⟨rfl,trivial⟩ NY ⟨bm,rfl,rfl⟩))
noncomputable def OG (l:AN) (g:AL):FU:=(Co g (MO l)).getD Je
def jM {h:U}{A:At}{n:Nat}{l:AN}(hx:Cz h A n l)(g:AL):Jt h (OG l g):=zY (bE hx) g
def Ajb (h:U)(hG:DG h)(A:At)(n c:Nat)(l:AN)(hx:Cz h A n l)(g:AL):Az prog 160 #[.slice A n c,Di g] h (λu _=>u=Ku (Kt (OG l g)) (IX (OG l g))):=by refine BB func160 λ_ _=>?_;have a:=jM hx g;obtain⟨q,hq⟩:∃q,q=OG l g:=⟨_,rfl⟩;rw[←hq]at a ⊢;(repeat'(first|refine Ba ?_|(refine Aj ?_;intro b)|(apply AU (n:=1) 6 [0,2,99,1,99,3,99,4,5];kernel_rfl)|refine BF ?_|(apply Be;exact Bd;(apply uI (key:=g) (b:=bm) (m:=MO l) Yr;(iterate 6 exact F);exact hq);exact AX)|(refine Bn ?_;first|(refine uA ?_;rintro va e f d ⟨bm,rfl,rfl⟩;refine⟨d,Ak,?_⟩)|(apply Aw;exact F;exact Ab func221;exact Ai8 _ q (a.le Ag);refine⟨V.refl _,Ak,?_⟩))|(apply Gr;(iterate 3 exact F);exact Bc;exact F;exact F)|fail));all_goals rfl
attribute [local irreducible] Lh
open Go.Proofs (ltOf)
open Go.Sort (SWO)
def CC (a b:AL):Prop:=a.s<b.s∨(a.s=b.s∧(a.c<b.c∨(a.c=b.c∧(a.h<b.h∨(a.h=b.h∧a.a<b.a)))))
instance (a b:AL):Decidable (CC a b):=by unfold CC;infer_instance
def Aso {a b:AL}:Ko a b<0↔CC a b:=by unfold Ko CC;simp only[Ts,show HF []=0 from rfl];unfold BJ;(repeat' split)<;>omega
def CC.trans {a b c:AL}(h1:CC a b)(h2:CC b c):CC a c:=by unfold CC at *;omega
def CC.irrefl (a:AL):¬CC a a:=by unfold CC;omega
def CC.tri (a b:AL):CC a b∨a=b∨CC b a:=by rcases a with⟨a1,a2,a3,a4⟩;rcases b with⟨b1,b2,b3,c⟩;unfold CC;simp only[AL.mk.injEq];omega
def QB (a b:AL):ltOf Ko a b=decide (CC a b):=by unfold ltOf;rw[decide_eq_decide];exact Aso
def Aic:SWO (ltOf Ko) where
 irrefl x:=by rw[QB];exact decide_eq_false (CC.irrefl x)
 trans x y z h1 h2:=by rw[QB,decide_eq_true_eq]at *;exact h1.trans h2
 ntrans x y z h1 h2:=by rw[QB,decide_eq_false_iff_not]at *;unfold CC at *;omega
def Ahy (x y:AL)(h1:ltOf Ko x y=false)(h2:ltOf Ko y x=false):x=y:=by rw[QB,decide_eq_false_iff_not]at *;rcases CC.tri x y with h|h|h;{exact absurd h h1};{exact h};{exact absurd h h2}
def Km (l:CY):CY:=MP Ko l
def WD (l:CY):(Km l).Perm l:=Azd Ko l
def Aa6 (l:CY):(Km l).length=l.length:=Acv Ko l
def Ait {l:CY}{g:AL}:g∈Km l↔g∈l:=(WD l).mem_iff
def gT (l:CY):(Km l).Pairwise λa b=>¬CC b a:=by
 have h:=eG (le:=λx y=> !(ltOf Ko) y x) (λa b c h1 h2=>by
  simp only[IE,QB,decide_eq_false_iff_not]at *
  unfold CC at *;omega) (λa b=>by
  simp only[Q',IE,QB,decide_eq_false_iff_not]
  unfold CC;omega) l
 refine h.imp λ{a b} q=>?_;simpa only[IE,QB,decide_eq_false_iff_not]using q
def Aiu {l:CY}(hn:l.Nodup):(Km l).Pairwise CC:=by have h1:=gT l;have h2:(Km l).Nodup:=(WD l).nodup_iff.2 hn;refine(eH.2 ⟨h1,h2⟩).imp λ{a b} ⟨c,d⟩=>?_;rcases CC.tri a b with h|h|h;{exact h};{exact absurd h d};{exact absurd h c}
theorem kB:∀{a b:CY},a.Pairwise CC→b.Pairwise CC→(∀x,x∈a↔x∈b)→a=b
 |[],[],_,_,_=>rfl
 |[],y::b,_,_,h=>absurd ((h y).2 DX) An
 |x::a,[],_,_,h=>absurd ((h x).1 DX) An
 |x::a,y::b,h1,h2,h=>by
  rw[FD]at h1 h2
  have d:x=y:=by
   rcases Bx.1 ((h x).1 DX)with e|e;{exact e};{rcases Bx.1 ((h y).2 DX)with e2|e2;{exact e2.symm};{exact absurd ((h2.1 x e).trans (h1.1 y e2)) (CC.irrefl _)}}
  subst d;rw[kB h1.2 h2.2 λz=>?_];have c:=h z;constructor;{intro hm;rcases Bx.1 (c.1 (Ey _ hm))with e|e;{subst e;exact absurd (h1.1 z hm) (CC.irrefl _)};{exact e}};{intro hm;rcases Bx.1 (c.2 (Ey _ hm))with e|e;{subst e;exact absurd (h2.1 z hm) (CC.irrefl _)};{exact e}}
def Azf {a b:CY}(h:a.Perm b):Km a=Km b:=
 List.Perm.eq_of_pairwise (le:=λa b=>¬CC b a) (λa b _ _ h1 h2=>by
  rcases CC.tri a b with h|h|h
  · exact absurd h h2
  · exact h
  · exact absurd h h1) (gT a) (gT b) (((WD a).trans h).trans (WD b).symm)
def Azg (e:TypeId)(v:Value)(xs:CY)(n:Nat)(h:U)(hn:n≤1000000000)(hx:xs.length=n) :
  AP prog 379 #[v,.func (.func 353) #[] #[]] [Ar e 4 v n (xs.flatMap CG)] h λu Es _=>u=.tuple #[]∧Es=[Ar e 4 v n ((Km xs).flatMap CG)]:=
 Aiw CG 4 (λ_=>rfl) BO Ko
  (λblk off a d w hc c f hs=>Go.Proofs.AnyQ.slices_SortFunc_total Go.Proofs.Tryz.sortGames 4 (λw=>It.run_agg (n:=36) rfl w) (λw=>It.run_size (n:=36) rfl w) CG (λ_=>rfl) (λx u b=>by
    simp only[CG,Bx,JX,or_false]at b
    rcases b with rfl|rfl|rfl|rfl<;>rfl) Ko Aic 353 #[] blk off a d w (Go.Proofs.enters_of Go.Proofs.Tryz.func353 GH rfl) hc c f hs Ahy)
  (λp a w=>Go.Proofs.AnyF.slices_SortFunc_none Go.Proofs.Tryz.sortGames p a _ w)
  (λx y=>Aln _ x y) e v xs n h hn hx
def HK (ok:AL→FU→Bool) (m:Ll):CY:=(m.filter λq=>ok q.1 q.2).map (·.1)
def Au8 {ok:AL→FU→Bool}{out:CY}{a r2:Ll}{q:AL×FU}{T:CY}(h:(out++HK ok (a++q::r2)).Perm T)(b:ok q.1 q.2=true):((out++[q.1])++HK ok (a++r2)).Perm T:=by refine List.Perm.trans ?_ h;unfold HK;simp only[Gl,Ky,b,if_true,DI,CW,Ck,eE];exact eR _ List.perm_middle.symm
def Aok {ok:AL→FU→Bool}{out:CY}{a r2:Ll}{q:AL×FU}{T:CY}(h:(out++HK ok (a++q::r2)).Perm T)(b:ok q.1 q.2=false):(out++HK ok (a++r2)).Perm T:=by unfold HK at *;simpa only[Gl,Ky,b,Ir,if_false,DI]using h
def Aij (h:U)(k:Nat)(m:Ll)(hn:m.length≤1000000)(g:Nat)(cs:Ao)(ok:AL→FU→Bool)(hh:BP prog g)(ag:∀h',V h h'→∀q∈m,Aq prog g ([Di q.1,Hu q.2]++cs).toArray h' (.bool (ok q.1 q.2))) :
  AP prog 352 #[.map (some k),.func (.func 353) #[] #[],.func (.func g) #[] cs.toArray] [BG Di Hu k m] h λu Es h'=>Es=[]∧∃A c,u=.slice A (Km (HK ok m)).length c∧Ai CG 4 h' A (Km (HK ok m)).length (Km (HK ok m)):=by
 refine Cx func352 λ_ _=>?_
 repeat'(first|refine Aa ?_|(refine Ac ?_;first|(apply Abh (ek:=Di) (ev:=Hu);(iterate 3 exact F);intro t;exact Bp;intro t))|fail)
 refine FN 36 4 ?_
 refine Bg (X:=List AL×Ll×Option (AL×FU)×At×Nat×U) (λx=>V h x.2.2.2.2.2∧(x.1++HK ok x.2.1).Perm (HK ok m)∧x.1.length+x.2.1.length≤m.length∧∀q∈x.2.1,q∈m) (λx=>x.2.1.length)
  (λx=>[(10,AD t),(6,.slice x.2.2.2.1 x.1.length x.2.2.2.2.1),(1,.func (.func 353) #[] #[]),(2,.func (.func g) #[] cs.toArray)])
  (λx=>[Lh Di Hu k t m x.2.1 x.2.2.1,Ar 36 4 (.slice x.2.2.2.1 x.1.length x.2.2.2.2.1) x.1.length (x.1.flatMap CG)]) (λx=>x.2.2.2.2.2) ([],m,none,none,0,h) ⟨V.refl _,.refl _,An,λq hq=>hq⟩ Af Ad rfl ?_
 rintro⟨out,rem,aj,v,w,y⟩ ⟨hlk,d,af,j⟩ r
 dsimp only at hlk d af j r ⊢
 repeat'(first|refine AH ?_|(refine Z (by apply uH (ek:=Di) (ev:=Hu) (b:=k) (m:=m) (rem:=l++r2) (p:=q);exact F) ?_)|(refine Aj ?_;intro b)|(refine Ac ?_;first|(apply yM;exact F;intro ap ak;exact Bp;intro a;rotate_left;intro q l r2 a;rotate_left;all_goals skip)|(apply Hb (f:=g) (fs:=[]) (cs:=cs);exact F;exact F;exact hh;exact ag _ (hlk.trans Ag) q (j q (by rw[a];simp)))|(apply Ed;exact F;exact Ab func379;exact Azg 36 _ out out.length y J rfl;exact Ad;rintro vs ai al am ⟨rfl,rfl⟩)|(apply DE (enc:=CG) (n:=1) [_];(iterate 3 exact F);exact Cf _ _;(iterate 4 exact F);exactλ_=>rfl;exact F;exact F;intro b1 h1 ae hs1)|(apply CE (enc:=CG) (xs:=out);(iterate 7 exact F);exact hs1;exactλ_=>rfl;exactλ_=>En rfl;intro v1;exact Bp;(have o:=congrArg List.length a;simp at o;omega);exact F;intro ab c1))|(refine Y ?_ ?_<;>intro hc<;>try omega)|fail)
 · have hf:=d
   rw[a]at hf
   simp only[HK,List.filter_nil,Jv,DR]at hf
   have e:=Azf hf
   have i:=Aa6 out
   rw[show(List.filter (λq=>ok q.1 q.2) m).map (·.1)=HK ok m from rfl]at e
   rw[e]at i ⊢
   refine EE (enc:=CG) (e:=36) (sz:=4) (n:=out.length) (xs:=Km (HK ok m)) (λ_=>rfl) i Bh ?_
   intro ah c2 h2 an e2 ao hs2
   injection e2 with ac _ ad
   subst ac;subst ad
   refine DD rfl rfl rfl (Hi _) ⟨rfl,v,w,?_,?_⟩
   · rw[i]
   · rw[i];exact hs2
 all_goals
  have o:=congrArg List.length a
  simp only[Bt,Do]at o
  rw[a]at d j
  have aa:∀s∈l++r2,s∈m:=λs z=>j s (by
   rw[AO]at z ⊢
   exact z.imp id (Ey _))
 · have h2:=r (out++[q.1],l++r2,some q,ab,c1,h1) ⟨hlk.trans ae,Au8 d Cn,FC,aa⟩ FC
   dsimp only at h2
   rw[Bt]at h2
   refine AB Af Ad h2
 · have h2:=r (out,l++r2,some q,v,w,y) ⟨hlk,Aok d Cn,FC,aa⟩ FC
   refine AB Af Ad h2
def Apm (h:U)(g:AL)(p:FU)(b1 b2:Nat)(season comp:Int)(h1:Au h (Av b1) [O season])(h2:Au h (Av b2) [O comp]):Aq prog 354 #[Di g,Hu p,AD b1,AD b2] h (.bool (decide (g.s=season∧g.c=comp))):=by refine AK func354 λ_ _=>?_;(repeat'(first|refine Aa ?_|refine Z Cb ?_|(refine Aj ?_;intro b)|refine AF ?_|(refine AG ?_ ?_<;>intro hc<;>try omega)|fail));(all_goals(first|(apply BS;(iterate 3 exact F))));all_goals(refine Cv ?_;(try simp only[Fb]at *);grind)
theorem WA {κ α:Type}[DecidableEq κ](x:κ)(a:α):∀(m:List (κ×α)),(Dk x a m).map (·.1)=if x∈m.map (·.1)then m.map (·.1)else m.map (·.1)++[x]
 |[]=>by simp[Dk]
 |(y,b)::r=>by unfold Dk;by_cases h:y=x;{simp[h]};{have c:=WA x a r;simp only[h,if_false,CW,c];by_cases h2:x∈r.map (·.1);{simp[h2]};{rw[if_neg h2,if_neg (by rw[Bx];rintro(e|e);exact h e.symm;exact h2 e)];rfl}}
def Azz (vs:AN):((GR vs).map (·.1)).Nodup:=by refine RI (P:=λvs=>((GR vs).map (·.1)).Nodup) (by simp[GR]) (λvs x d=>?_) vs;rw[Us,WA];split;{exact d};{rename_i h;rw[Fm];refine⟨d,An,λa f b c=>?_⟩;rw[Bk]at c;subst c;exactλe=>h (e▸f)}
def Awb (vs:AN):(GR vs).length≤vs.length:=by refine RI (P:=λvs=>(GR vs).length≤vs.length) (BU _) (λvs x a=>?_) vs;have h:=congrArg List.length (WA x.2.sh.g (Fi ((Co x.2.sh.g (GR vs)).getD Je) x) (GR vs));rw[Us,Bt,IR];split at h<;>simp at h<;>omega
def Ax0 {vs:AN}{g:AL}:g∈(GR vs).map (·.1)↔∃x∈vs,x.2.sh.g=g:=by refine RI (P:=λvs=>g∈(GR vs).map (·.1)↔∃x∈vs,x.2.sh.g=g) (by simp[GR]) (λvs x a=>?_) vs;rw[Us,WA];split;{rename_i h;rw[a];constructor;{rintro⟨y,h1,h2⟩;exact⟨y,by simp[h1],h2⟩};{rintro⟨y,h1,h2⟩;rw[AO,Bk]at h1;rcases h1 with h1|rfl;{exact⟨y,h1,h2⟩};{rw[h2]at h;exact a.1 h}}};{rw[AO,a,Bk];constructor;{rintro(⟨y,h1,h2⟩|h1);{exact⟨y,by simp[h1],h2⟩};{exact⟨x,An,h1.symm⟩}};{rintro⟨y,h1,h2⟩;rw[AO,Bk]at h1;rcases h1 with h1|rfl;{exact .inl ⟨y,h1,h2⟩};{exact .inr h2.symm}}}
def Aco {h:U}{A:At}{n:Nat}{l:AN}(hx:Cz h A n l):(MO l).length≤1000000:=by have h1:=Awb (ED l);(have h2:(ED l).length≤l.length:=by unfold ED;exact Pn _ _);have h3:=hx.row.len;have a:=hx.small;unfold MO;omega
noncomputable def If (l:AN) (season comp:Int):CY:=Km (HK (λg _=>decide (g.s=season∧g.c=comp)) (MO l))
def Apk (h:U)(hG:DG h)(A:At)(n c:Nat)(l:AN)(hx:Cz h A n l)(season comp:Int):Az prog 338 #[.slice A n c,O season,O comp] h (λu h'=>∃A c,u=.slice A (If l season comp).length c∧Ai CG 4 h' A (If l season comp).length (If l season comp)):=by refine BB func338 λ_ _=>?_;(repeat'(first|refine Aa ?_|(refine Aj ?_;intro b)|(refine Ac ?_;first|(refine uA ?_;rintro va m p r ⟨bm,rfl,rfl⟩)|(refine Gt (e:=3) (cs:=[O season]) Bh ?_;intro h2 t d;refine Gt (e:=3) (cs:=[O comp]) Bh ?_;intro h3 i f;apply Ed;exact F;exact Ab func352;exact Aij _ bm (MO l) (Aco hx) 354 [_,_] (λg _=>decide (g.s=season∧g.c=comp)) (Ab func354) (λh' a q hq=>Apm h' q.1 q.2 _ _ season comp ((d.le i).le a) (f.le a));exact Ad;rintro v4 k o s ⟨rfl,j,c4,rfl,hs4⟩))|fail));(all_goals(first|(apply BL;(iterate 3 exact F))));all_goals exact⟨_,_,rfl,hs4⟩
end Go.Hw
import Derived.Test.YtbmffdagfjepgaaGreatDoorSA
import Derived.Test.YtbmffdagfjepgaaGreatDoorRA
import Derived.Test.YtbmffdagfjepgaaGreatDoorFB
import Derived.Test.YtbmffdagfjepgaaGreatDoorHD
set_option linter.all false
set_option maxRecDepth 100000
set_option maxHeartbeats 4000000
namespace Go.Hw
open Go
attribute [local irreducible] AI Bz BV Aq AP Az Au CH Ap Ar BG Cm BP Dg Lh
open Go.Proofs.Tryz
def vS (h:U)(A:At)(n c:Nat)(l:AC)(hx:Ai AQ 1 h A n l)(hn:n≤9223372036854775807)(b:At)(m d:Nat)(r:AC)(hy:Ai AQ 1 h b m r)(hm:m≤9223372036854775807) :
  Aq prog 260 #[.slice A n c,.slice b m d] h (.bool (decide (l=r))):=by
 refine AK func260 λ_ _=>?_
 have g:=hx.len
 have i:=hy.len
 by_cases o:n=m
 · subst o
   repeat'(first|refine Aa ?_|(refine Y ?_ ?_<;>intro hc<;>try omega)|fail)
   · refine Bg (X:=Nat) (λk=>k≤n∧l.take k=r.take k) (λk=>n-k) (λk=>[(5,O k),(0,.slice A n c),(1,.slice b n d)]) (λ_=>[]) (λ_=>h) 0 ⟨J,rfl⟩ Af Ad rfl ?_
     rintro k ⟨t,e⟩ s
     by_cases a:k<n
     · have a1:=hx.addrD a
       have c1:=hx.cellsD 0 a
       have a2:=hy.addrD a
       have c2:=hy.cellsD 0 a
       have p:=BY 0 g a
       have q:=BY 0 i a
       have j:l.getD k 0≠r.getD k 0→l≠r:=λh1 h2=>h1 (by rw[h2])
       generalize l.getD k 0=u at *
       generalize r.getD k 0=v at *
       repeat'(first|refine Aa ?_|(apply AU (n:=6) 9 [0,1,2,3,4,5,6,7,8];kernel_rfl)|(apply Be;exact Bd;(first|exact Bf|exact RT|exact BN|exact KQ);exact AX)|(refine Y ?_ ?_<;>intro hc<;>try omega)|fail)
       · (first|(apply BS;(iterate 3 exact F)))
         rw[decide_eq_false (j J)]
       · have h3:=s (k+1) ⟨J,by have f:u=v:=J;rw[p,q,e,f]⟩ J
         refine AB Af Ad h3
     · repeat'(first|refine Aa ?_|(refine Y ?_ ?_<;>intro hc<;>try omega)|refine Bm ?_|fail)
       rw[By J,By J]at e
       rw[decide_eq_true e]
 · repeat'(first|refine Aa ?_|(refine Y ?_ ?_<;>intro hc<;>try omega)|refine Bm ?_|fail)
   rw[decide_eq_false];intro hh;subst hh;omega
def vR (h:U)(A:At)(n c:Nat)(l:Fz)(hx:Ai Fk 2 h A n l)(hn:n≤9223372036854775807)(b:At)(m d:Nat)(r:Fz)(hy:Ai Fk 2 h b m r)(hm:m≤9223372036854775807) :
  Aq prog 261 #[.slice A n c,.slice b m d] h (.bool (decide (l=r))):=by
 refine AK func261 λ_ _=>?_
 have f:=hx.len
 have g:=hy.len
 by_cases j:n=m
 · subst j
   repeat'(first|refine Aa ?_|(refine Y ?_ ?_<;>intro hc<;>try omega)|fail)
   · refine Bg (X:=Nat) (λk=>k≤n∧l.take k=r.take k) (λk=>n-k) (λk=>[(5,O k),(0,.slice A n c),(1,.slice b n d)]) (λ_=>[]) (λ_=>h) 0 ⟨J,rfl⟩ Af Ad rfl ?_
     rintro k ⟨s,e⟩ q
     by_cases a:k<n
     · have a1:=hx.addrD a
       have c1:=hx.cellsD De a
       have a2:=hy.addrD a
       have c2:=hy.cellsD De a
       have o:=BY De f a
       have p:=BY De g a
       have i:l.getD k De≠r.getD k De→l≠r:=λh1 h2=>h1 (by rw[h2])
       generalize l.getD k De=u at *
       generalize r.getD k De=v at *
       obtain⟨t,w⟩:=u
       obtain⟨vp,vr⟩:=v
       repeat'(first|refine Aa ?_|(apply AU (n:=6) 9 [0,1,2,3,4,5,6,7,8];kernel_rfl)|(apply Be;exact Bd;(first|exact Bf|exact RT|exact BN|exact KQ|exact bR);exact AX)|(refine Y ?_ ?_<;>intro hc<;>try omega)|fail)
       · (first|(apply BS;(iterate 3 exact F)))
         rw[decide_eq_false (i cA)]
       · have h3:=q (k+1) ⟨J,by
          simp[FP]at hc
          rw[o,p,e,hc.1,hc.2]⟩ J
         refine AB Af Ad h3
     · repeat'(first|refine Aa ?_|(refine Y ?_ ?_<;>intro hc<;>try omega)|refine Bm ?_|fail)
       rw[By J,By J]at e
       rw[decide_eq_true e]
 · repeat'(first|refine Aa ?_|(refine Y ?_ ?_<;>intro hc<;>try omega)|refine Bm ?_|fail)
   rw[decide_eq_false];intro hh;subst hh;omega
def Aa3 (h:U)(s:AA)(x:DV)(hx:Ef h s x)(a:Gg x)(t:AA)(y:DV)(hy:Ef h t y)(c:Gg y):Aq prog 186 #[KV s x,KV t y] h (.bool (decide (Jx x y))):=by refine AK func186 λ_ _=>?_;obtain⟨i,j,n3,k⟩:=hx.small a;obtain⟨d,e,f,g⟩:=hy.small c;(repeat'(first|refine Aa ?_|refine Z O' ?_|(refine Aj ?_;intro b)|(refine Ac ?_;first|(apply Aw;exact F;exact Ab func260;first|exact vS _ _ _ _ x.hs (hx.hs.le Ag) J _ _ _ y.hs (hy.hs.le Ag) J|exact vS _ _ _ _ x.asn (hx.asn.le Ag) J _ _ _ y.asn (hy.asn.le Ag) J)|(apply Aw;exact F;exact Ab func261;first|exact vR _ _ _ _ x.hc (hx.hc.le Ag) J _ _ _ y.hc (hy.hc.le Ag) J|exact vR _ _ _ _ x.ac (hx.ac.le Ag) J _ _ _ y.ac (hy.ac.le Ag) J))|refine AF ?_|(refine AG ?_ ?_<;>intro hc<;>try omega)|fail));(all_goals(first|(apply BS;(iterate 3 exact F))));(all_goals(clear hx hy;refine Cv ?_));all_goals(rw[Abi];grind)
def OM (s:AA) (f:Al):Prop:=s.cl.n≤60∧f.eRules.length≤100∧s.hs.n≤60∧s.asn.n≤60∧s.hc.n≤60∧s.ac.n≤60∧s.lo.n≤60
instance (s:AA) (f:Al):Decidable (OM s f):=by unfold OM;infer_instance
def Aiz (h:U)(s:AA)(f:Al):Aq prog 14 #[BW s f] h (.bool (decide (OM s f))):=by refine AK func14 λ_ _=>?_;(repeat'(first|refine Aa ?_|(refine Aj ?_;intro b)|refine AF ?_|(refine AG ?_ ?_<;>intro hc<;>try omega)|fail));(all_goals(first|(apply BS;(iterate 3 exact F))));all_goals(refine Cv ?_;(try simp only[RJ,GV,SZ]at *);unfold OM;first|omega|(simp only[Ir,false_iff];omega))
def Ap1 (h:U)(A:At)(n c:Nat)(l:AN)(hx:Ai BM 82 h A n l)(hn:n≤9223372036854775807)(d:Int):Aq prog 5 #[.slice A n c,O d] h (.bool (decide ((∀p∈l,OM p.1 p.2)∧(n:Int)≤d))):=by
 refine AK func5 λ_ _=>?_;have e:=hx.len;(repeat'(first|refine Aa ?_|fail));refine Bg (X:=Nat) (λk=>k≤n∧∀p∈l.take k,OM p.1 p.2) (λk=>n-k) (λk=>[(5,O k),(0,.slice A n c),(1,O d)]) (λ_=>[]) (λ_=>h) 0 ⟨J,An⟩ Af Ad rfl ?_;rintro k ⟨i,a⟩ g;by_cases b:k<n
 ·have a1:=hx.addrD b;have c1:=hx.cellsD AS b;have f:=BY AS e b;have hm:=Ce AS (show k<l.length by omega);generalize l.getD k AS=p at *;have hs:=Aiz h p.1 p.2;by_cases hp:OM p.1 p.2
  ·rw[decide_eq_true hp]at hs;(repeat'(first|refine Aa ?_|refine Z Bf ?_|refine Z BN ?_|(refine Ac ?_;first|(apply Aw;exact F;exact Ab func14;exact hs))|(refine Y ?_ ?_<;>intro hc<;>try omega)|fail))
   all_goals
    have h3:=g (k+1) ⟨J,by
     rw[f];intro q hq
     rw[AO,Bk]at hq
     rcases hq with hq|rfl
     · exact a q hq
     · exact hp⟩ J
    refine AB Af Ad h3
  {rw[decide_eq_false hp]at hs;(repeat'(first|refine Aa ?_|refine Z Bf ?_|refine Z BN ?_|(refine Ac ?_;first|(apply Aw;exact F;exact Ab func14;exact hs))|(refine Y ?_ ?_<;>intro hc<;>try omega)|refine Bm ?_|fail));all_goals(rw[decide_eq_false];rintro⟨h1,_⟩;exact hp (h1 p hm))}
 {rw[By J]at a;(repeat'(first|refine Aa ?_|(refine Y ?_ ?_<;>intro hc<;>try omega)|refine Bm ?_|fail));all_goals(refine Cv ?_;rw[GV];exact⟨λh=>⟨a,h⟩,λh=>h.2⟩)}
def Vn (r g d k:Int):Al:={BQ with kind:=3,day:=d,known:=k,sh:={IB with g:=⟨0,0,1,2⟩,ref:=r,hg:=g}}
def EM (l:AN):Ax:=l.map (·.2)
theorem Add:∀(a:AN) (p:FU),(∀x∈a,x.2.kind=3∧(x.2.sh.ref=0∨x.2.sh.ref=1))→
  IZ (a.foldl Fi p).1=((EM a).filter λf=>decide (f.sh.ref=0)).foldl JL (IZ p.1)∧IZ (a.foldl Fi p).2=((EM a).filter λf=>decide (f.sh.ref=1)).foldl JL (IZ p.2)
 |[],p,_=>⟨rfl,rfl⟩
 |x::a,p,hw=>by
   obtain⟨b,hr⟩:=hw x DX
   obtain⟨e,g⟩:=Add a (Fi p x) (λy hy=>hw y (Ey _ hy))
   have hc:EM (x::a)=x.2::EM a:=rfl
   have d:∀y:AA×Al,IZ (if y.2.kind=0∨CO y.2 x.2<0 then x else y)=JL (IZ y) x.2:=λy=>by
    unfold IZ JL
    by_cases h1:y.2.kind=0
    · simp[h1,b]
    · by_cases h2:CO y.2 x.2<0
      · simp[h1,h2,b]
      · simp[h1,h2]
   rw[hc,Ky,Ky,Nf,e,g]
   rcases hr with hr|hr
   · have e1:(Fi p x).1=if p.1.2.kind=0∨CO p.1.2 x.2<0 then x else p.1:=by unfold Fi;rw[if_pos hr];split<;>rfl
     have e2:(Fi p x).2=p.2:=by unfold Fi;rw[if_pos hr];split<;>rfl
     rw[e1,e2,d,hr]
     exact⟨rfl,rfl⟩
   · have c:¬x.2.sh.ref=0:=by omega
     have e1:(Fi p x).1=p.1:=by unfold Fi;rw[if_neg c];split<;>rfl
     have e2:(Fi p x).2=if p.2.2.kind=0∨CO p.2.2 x.2<0 then x else p.2:=by unfold Fi;rw[if_neg c];split<;>rfl
     rw[e1,e2,d,hr]
     exact⟨rfl,rfl⟩
theorem Aae (g:AL):∀(vs:AN) (m:Ll),(Co g (vs.foldl Zm m)).getD Je=(vs.filter λx=>decide (x.2.sh.g=g)).foldl Fi ((Co g m).getD Je)
 |[],m=>rfl
 |x::vs,m=>by rw[Nf,Aae g vs,Ky];unfold Zm;rw[KM];by_cases h:x.2.sh.g=g;{simp only[h,if_true,decide_true,IQ,Nf]};{simp only[h,if_false,decide_false,Ir]}
noncomputable def Rx (l:AN) (g:AL):AN:=(ED l).filter λx=>decide (x.2.sh.g=g)
def Ak8 (l:AN)(g:AL):OG l g=(Rx l g).foldl Fi Je:=Aae g (ED l) []
open Classical in
theorem Avi {l:AN}{g:AL}{x:AA×Al}:x∈Rx l g↔x∈l∧x.2.kind=3∧BT x.2∧x.2.sh.g=g:=by unfold Rx ED;rw[DQ,DQ,decide_eq_true_eq,decide_eq_true_eq];exact⟨λ⟨⟨h1,h2,h3⟩,a⟩=>⟨h1,h2,h3,a⟩,λ⟨h1,h2,h3,a⟩=>⟨⟨h1,h2,h3⟩,a⟩⟩
open Classical in
theorem Acn (l:AN)(g:AL)(r:Int):(EM (Rx l g)).filter (λf=>decide (f.sh.ref=r))=My (EM l) g r:=by unfold EM My Rx ED;rw[Sq,Sq,eO,eO];congr 1;refine eP λx _=>?_;rw[Lj];simp only[Function.comp_apply,Hq,decide_eq_true_eq];unfold Sb;grind
def Aad (l:AN)(g:AL):IZ (OG l g).1=HH (EM l) g 0∧IZ (OG l g).2=HH (EM l) g 1:=by(have h:=Add (Rx l g) Je λx hx=>by{obtain⟨_,h2,h3,_⟩:=Avi.1 hx;exact⟨h2,jH h3 h2⟩});rw[Acn,Acn,←Ak8]at h;exact h
def Ai9 (l:AN)(g:AL):IX (OG l g)=CJ (EM l) g:=by unfold IX CJ;rw[(Aad l g).1,(Aad l g).2]
noncomputable def Qy (l:Ax) (g:AL) (r:Int):Al:=(HH l g r).getD BQ
def Au7 {ok:AL→FU→Bool}{m:Ll}{g:AL}:g∈HK ok m↔∃p,(g,p)∈m∧ok g p=true:=by unfold HK;rw[CZ];constructor;{rintro⟨q,hq,rfl⟩;rw[DQ]at hq;exact⟨q.2,hq.1,hq.2⟩};{rintro⟨p,h1,h2⟩;exact⟨(g,p),DQ.2 ⟨h1,h2⟩,rfl⟩}
def Azy {ok:AL→FU→Bool}{m:Ll}(h:(m.map (·.1)).Nodup):(HK ok m).Nodup:=by unfold HK;exact(List.filter_sublist.map _).nodup h
def iI (l:AN)(s c:Int):(If l s c).Pairwise CC:=Aiu (Azy (Azz _))
open Classical in
theorem Ui {l:AN}{g:AL}{s c:Int}:g∈If l s c↔g.s=s∧g.c=c∧∃f∈EM l,f.kind=3∧BT f∧f.sh.g=g:=by
 unfold If;rw[Ait,Au7]
 have b:(∃p,(g,p)∈MO l)↔∃f∈EM l,f.kind=3∧BT f∧f.sh.g=g:=by
  (have h1:(∃p,(g,p)∈MO l)↔g∈(GR (ED l)).map (·.1):=by{rw[CZ];exact⟨λ⟨p,h⟩=>⟨(g,p),h,rfl⟩,λ⟨q,h,e⟩=>⟨q.2,by rw[←e];exact h⟩⟩});rw[h1,Ax0];constructor;{rintro⟨x,h1,h2⟩;unfold ED at h1;rw[DQ,decide_eq_true_eq]at h1;exact⟨x.2,CZ.2 ⟨x,h1.1,rfl⟩,h1.2.1,h1.2.2,h2⟩};{rintro⟨f,h1,h2,h3,a⟩;obtain⟨x,d,rfl⟩:=CZ.1 h1;refine⟨x,?_,a⟩;unfold ED;rw[DQ,decide_eq_true_eq];exact⟨d,h2,h3⟩}
 constructor;{rintro⟨p,h1,h2⟩;rw[decide_eq_true_eq]at h2;exact⟨h2.1,h2.2,b.1 ⟨p,h1⟩⟩};{rintro⟨h1,h2,h3⟩;obtain⟨p,a⟩:=b.2 h3;exact⟨p,a,by simp[h1,h2]⟩}
def Jg:AL:=⟨0,0,1,2⟩
def gL (h:U)(hG:DG h)(A:At)(n c:Nat)(l:AN)(hx:Cz h A n l)(g:AL):Az prog 160 #[.slice A n c,Di g] h (λu h'=>∃s,u=Ku s (CJ (EM l) g)∧Ef h' s (CJ (EM l) g).sh∧Gg (CJ (EM l) g).sh):=by refine(Ajb h hG A n c l hx g).mono ?_;rintro v h' a rfl;have:=Aja (jM hx g);rw[Ai9]at *;exact⟨_,rfl,this.1.le a,this.2⟩
def Cz.nil (h:U):Cz h none 0 []:=⟨Ai.nil,λp hp=>absurd hp An,J⟩
def QP:AN:=[(CP,Vn 0 3 7 9),(CP,Vn 0 2 7 8)]
def QO:AN:=[(CP,Vn 0 2 7 8),(CP,Vn 1 2 9 9)]
end Go.Hw
namespace Go.Hw
open Go
attribute [local irreducible] AI Bz BV Aq AP Az Au CH Ap Ar BG Cm BP Dg
open Go.Proofs.Tryz (prog)
def DU (h:U) (p:AA×Al):Prop:=Cr h p.1 p.2∧Eu p.2∧BT p.2
def DU.le {h h':U}{p:AA×Al}(g:DU h p)(a:V h h'):DU h' p:=⟨g.1.le a,g.2⟩
def DU.in_ {h:U}{p:AA×Al}(g:DU h p):Iu p.2:=⟨g.2.2,g.1.void⟩
structure Nu (h:U) (A:At) (n:Nat) (l:AN):Prop where
 row:Ai BM 82 h A n l
 good:∀p∈l,DU h p
 small:n≤1000000
def Nu.le {h h':U}{A:At}{n:Nat}{l:AN}(a:Nu h A n l)(b:V h h'):Nu h' A n l:=⟨a.row.le b,λp hp=>(a.good p hp).le b,a.small⟩
def Nu.facts {h:U}{A:At}{n:Nat}{l:AN}(a:Nu h A n l):Cz h A n l:=⟨a.row,λp hp=>⟨(a.good p hp).1,(a.good p hp).2.1⟩,a.small⟩
def Nu.nil (h:U):Nu h none 0 []:=⟨Ai.nil,λp hp=>absurd hp An,J⟩
def ZF (h:U)(hG:DG h)(x y:AA×Al)(hx:DU h x)(hy:DU h y):Az prog 46 #[BW x.1 x.2,BW y.1 y.2] h (λu _=>u=O (CO x.2 y.2)):=
 Sm h hG x.1 y.1 x.2 y.2 hx.1 hx.2.1 hy.1 hy.2.1 hx.2.2 hy.2.2
end Go.Hw
set_option maxHeartbeats 8000000
namespace Go.Hw
open Go
attribute [local irreducible] AI Bz BV Aq AP Az Au CH Ap Ar BG Cm BP Dg
open Go.Proofs.Tryz (prog)
def Uh:∀x:AA×Al,∀v∈BM x,v.oneCell'=true:=λx=>En rfl
def Vy {h:U}(x y :{p:AA×Al // DU h p}):Go.Proofs.ltOf (λ(x y :{p:AA×Al // DU h p})=>CO x.1.2 y.1.2) x y=decide (CO x.1.2 y.1.2<0):=rfl
def DU.tri {h:U}(x y :{p:AA×Al // DU h p}):Fa x.1.2 y.1.2∨x.1.2=y.1.2∨Fa y.1.2 x.1.2:=Fa.tri x.2.2.2 y.2.2.2 (by rw[x.2.1.void,y.2.1.void])
def Asp {h:U}:Go.Sort.SWO (Go.Proofs.ltOf λ(x y :{p:AA×Al // DU h p})=>CO x.1.2 y.1.2) where
 irrefl x:=by rw[Vy,decide_eq_false_iff_not,Lf];exact Fa.irrefl _
 trans x y z h1 h2:=by rw[Vy,decide_eq_true_eq,Lf]at *;exact h1.trans h2
 ntrans x y z h1 h2:=by
  rw[Vy,decide_eq_false_iff_not,Lf]at *
  intro h3
  rcases DU.tri x y with q|q|q
  · exact h1 q
  · rw[q]at h3;exact h2 h3
  · exact h2 (q.trans h3)
theorem aU {α:Type}{P:α→Prop}(e:α→Ao):∀(l:List {x:α // P x}),l.flatMap (λa=>e a.1)=(l.map (·.1)).flatMap e
 |[]=>rfl
 |x::r=>by rw[CW,Eb,Eb,aU e r]
def Wx {α:Type}{P:α→Prop}:∀(l:List α) (h:∀x∈l,P x),(l.attachWith P h).map (·.1)=l:=λl h=>List.attachWith_map_subtype_val h
theorem Aiy (h:U)(hG:DG h)(v:Value)(xs:AN)(n:Nat)(hn:n≤1000000)(hx:xs.length=n)(hg:∀p∈xs,DU h p) :
  AP prog 330 #[v,.func (.func 46) #[] #[]] [Ar 71 82 v n (xs.flatMap BM)] h λu Es _=>u=.tuple #[]∧∃ys:AN,ys.Perm xs∧Qj (ys.map (·.2))∧Es=[Ar 71 82 v n (ys.flatMap BM)]:=by
 have m:∀(p:At) (g:Nat) (w:World),Calls prog 330 #[.slice p 0 g,.func (.func 46) #[] #[]] w λe i=>e=.returned (.tuple #[])∧i=w:=λp g w=>Go.Proofs.AnyF.slices_SortFunc_none Go.Proofs.Tryz.sortFacts p g _ w
 haveI:Inhabited {p:AA×Al // DU h p∨True}:=⟨⟨AS,.inr trivial⟩⟩
 cases xs with
 |nil=>
   simp only[Jw]at hx
   subst hx
   unfold AP
   intro w X0 ac ⟨q,ae,ad,k⟩
   have l:=Bq.start (w:=w) (X0:=X0) (h0:=h) ac ⟨q,ae,ad,k⟩
   obtain⟨D,t⟩:=l.get (La _)
   obtain⟨A,c,af⟩:=Sc t
   subst af
   refine(m A c w).mono ?_
   rintro ag i ⟨rfl,rfl⟩
   exact⟨_,rfl,_,h,⟨rfl,[],.refl _,by simp[Qj],rfl⟩,l⟩
 |cons x r=>
   have ab:=hg x DX
   haveI:Inhabited {p:AA×Al // DU h p}:=⟨⟨x,ab⟩⟩
   have s:∀(blk off g:Nat) (d:Array {p:AA×Al // DU h p}) (w:World),Go.Proofs.CmpLays prog 46 #[] (λa :{p:AA×Al // DU h p}=>BM a.1) 82 (λx y=>CO x.1.2 y.1.2) blk off d.size w→Go.Sort.HoldsK (λa :{p:AA×Al // DU h p}=>BM a.1) 82 w blk off d→blk<w.heap.size→d.size<4611686018427387904→
    Calls prog 330 #[.slice (some ⟨blk,off,none⟩) d.size g,.func (.func 46) #[] #[]] w λe i=>e=.returned (.tuple #[])∧∃j n os,Go.Sort.PermIn 0 d.size d j∧Go.Sort.SortedIn (Go.Proofs.ltOf λ(x y :{p:AA×Al // DU h p})=>CO x.1.2 y.1.2) 0 d.size j∧i=Go.Proofs.sortWorldK (λa :{p:AA×Al // DU h p}=>BM a.1) 82 w blk off n j os:=λblk off g d w hc z k hs=>
    Go.Proofs.AnyQ.slices_SortFunc Go.Proofs.Tryz.sortFacts 82 (λw=>It.run_agg (n:=71) rfl w) (λw=>It.run_size (n:=71) rfl w) (λa :{p:AA×Al // DU h p}=>BM a.1) (λa=>Gv a.1) (λa=>Uh a.1) (λx y=>CO x.1.2 y.1.2) Asp 46 #[] blk off g d w (Go.Proofs.enters_of Go.Proofs.Tryz.func46 GH rfl) hc z k hs
   have aa:∀x y :{p:AA×Al // DU h p},Az prog 46 (#[.agg (BM x.1).toArray,.agg (BM y.1).toArray]++#[]) h λu _=>u=O (CO x.1.2 y.1.2):=λx y=>by
    rw[YV]
    exact ZF h hG x.1 y.1 x.2 y.2
   have key:=YK (α:={p:AA×Al // DU h p}) (P:=prog) (f:=330) (gf:=46) (cb:=#[]) (λa=>BM a.1) 82 (λa=>Gv a.1) BO (λx y=>CO x.1.2 y.1.2) h s m aa 71 v ((x::r).attachWith (DU h) hg) n J (by rw[Ay0];exact hx)
   rw[aU BM,Wx]at key
   refine key.mono ?_
   rintro u Es h' ah ⟨rfl,ys,hp,hso,rfl⟩
   refine⟨rfl,ys.map (·.1),?_,?_,by rw[aU BM]⟩
   · rw[←Wx (x::r) hg];exact hp.map _
   · unfold Qj
     refine Og.2 (Og.2 (hso.imp λ{a b} o=>?_))
     rw[Vy,decide_eq_false_iff_not,Lf]at o
     exact o
theorem Asx (h:U)(A:At)(n c:Nat)(l:AN)(hx:Ai BM 82 h A n l)(hn:n≤1000000):AP prog 329 #[.slice A n c] [] h λu Es _=>Es=[Ar 71 82 u n (l.flatMap BM)]:=by
 refine Cx Proofs.Tryz.func329 λ_ _=>?_;have e:=hx.len;refine FN 71 82 ?_;cases A with
 |none=>
  have b:n=0:=by
   rcases Of n with q|q;{exact q};{have:=hx.addrD q;cases this}
  have a:l=[]:=Fu J;subst b;subst a;(repeat'(first|refine Aa ?_|(refine Y ?_ ?_<;>intro hc<;>try omega)|fail));{exact DD rfl rfl rfl (FH _) rfl};{exfalso;simp at hc}
 |some d=>
  (repeat'(first|refine Aa ?_|(refine Ac ?_;first|(refine Gi ?_;intro bo)|(apply CE (enc:=BM) (xs:=[]) (ys:=l);(iterate 7 exact F);exact hx;exact Gv;exact Uh;intro v1;exact Bp;omega;exact F;intro A3 c3))|(refine Y ?_ ?_<;>intro hc<;>try omega)|fail))
  all_goals
   rw[FE,Dy]
   exact DD rfl rfl rfl (.cons_cons _ (Hi _)) rfl
def OK (b m:Nat):((Av b):Addr).add m=⟨b,m,none⟩:=by rw[GC,Dy]
def mM (b k j:Nat):(⟨b,k*82,none⟩:Addr).add (j*82)=⟨b,(k+j)*82,none⟩:=by rw[GC,←KZ]
def ZK {b c lo sz:Nat}(h:lo<c):JU (some (Av b)) c lo sz=some ⟨b,lo*sz,none⟩:=by unfold JU;rw[if_neg J,Hg,GC,Dy]
def Acu (A:At)(c sz:Nat):Ig A c sz=A:=by unfold Ig;split;{rfl};{cases A<;>simp[Addr.add]}
abbrev Ol:=LL (α:=AA×Al) (·.2)
def nL {ys:AN}{k:Nat}(h0:1≤k)(c:k<ys.length){x y:AA×Al}(hx:ys[k]?=some x)(hy:ys[k-1]?=some y):Ol (ys.take (k+1))=Ol (ys.take k)++(if CO x.2 y.2=0 then[]else[x]):=by(have b:ys.take k≠[]:=λe=>by{have:=congrArg List.length e;rw[CF,Jw]at this;omega});(have e1:ys.take (k+1)=ys.take k++[x]:=by{rw[LF,hx];rfl});(have e2:(ys.take k).getLast b=y:=by{rw[List.getLast_eq_getElem];(have:(ys.take k).length-1=k-1:=by rw[CF];omega);(have h3:(ys.take k)[(ys.take k).length-1]?=some y:=by rw[this,FF,if_pos J];exact hy);rw[Bw OY]at h3;exact Od h3});have:=A0f (p:=λa:AA×Al=>a.2) b x;rw[e2]at this;rw[e1];exact this
def nD {ys:AN}(h:ys.length<2):Ol ys=ys:=by cases ys with|nil=>rfl|cons x r=>cases r with|nil=>rfl|cons y r=>simp at h;omega
def kI (A:At) (n c:Nat):Value:=.agg #[.slice A n c]
abbrev Ae (l:AN):Ax:=l.map (·.2)
end Go.Hw
namespace Go.Hw
open Go
structure xT (h:U) (A:At) (n c:Nat) (l:AN):Prop where
 row:Ai BM 82 h A n l
 fat:∀p∈l,Cr h p.1 p.2∧Eu p.2
 cap:n≤c
 small:n≤9223372036854775807
attribute [local irreducible] AI Bz BV Aq AP Az Au CH Ap Ar BG Cm BP Dg
open Go.Proofs.Tryz (prog)
def UA (h:U) (v:Value) (L:Ax):Prop:=∃A k c l,v=kI A k c∧k≤c∧Nu h A k l∧Ae l=L
def UA.le {h h':U}{v:Value}{L:Ax}(a:UA h v L)(e:V h h'):UA h' v L:=by obtain⟨A,k,c,l,e1,e2,b,d⟩:=a;exact⟨A,k,c,l,e1,e2,b.le e,d⟩
def UA.nil (h:U):UA h (kI none 0 0) []:=⟨none,0,0,[],rfl,BU _,Nu.nil h,rfl⟩
end Go.Hw
namespace Go.Hw
open Go
theorem Cy.app:∀{As Bs:Am} {Ds Fs:Hd} {m:U},Cy As Ds m→Cy Bs Fs m→Cy (As++Bs) (Ds++Fs) m
 |[],_,[],_,_,_,h=>h
 |_::_,_,_::_,_,_,⟨h1,h2⟩,h=>⟨h1,Cy.app h2 h⟩
 |[],_,_::_,_,_,h,_=>h.elim
 |_::_,_,[],_,_,h,_=>h.elim
theorem Cy.cut:∀{As Bs:Am} {a:Hd} {m:U},Cy (As++Bs) a m→∃b c,a=b++c∧Cy As b m∧Cy Bs c m
 |[],_,a,_,h=>⟨[],a,rfl,trivial,h⟩
 |_::As,Bs,D::a,_,⟨h1,h2⟩=>by obtain⟨b,c,e,d,f⟩:=Cy.cut (As:=As) (Bs:=Bs) h2;exact⟨D::b,c,by rw[e];rfl,⟨h1,d⟩,f⟩
 |_::_,_,[],_,h=>h.elim
def El (As:Am):EQ:=⟨λD m=>∃a,Cy As a m∧D=a.flatten,λD m b h ⟨a,h1,h2⟩=>⟨a,Cy.loc (by subst h2;exact h) h1,h2⟩⟩
section
variable {w0:World} {X0:BD} {h0 h:U} {As Bs Es Fs:Am} {w:World}
def Bq.sepOpen (H:Bq w0 X0 h0 (El As::Fs) h w):Bq w0 X0 h0 (As++Fs) h w:=by obtain⟨a,d,hn,c⟩:=H.own;match a,d with|D::a,⟨⟨b,e,f⟩,g⟩=>subst f;exact⟨H.os,H.tape,H.output,H.size,H.dr,H.old,H.ro,H.le,H.new,b++a,e.app g,by rw[Ib];exact hn,by rw[Ib];exact c⟩
def Bq.sepClose (H:Bq w0 X0 h0 (As++Fs) h w):Bq w0 X0 h0 (El As::Fs) h w:=by obtain⟨i,d,hn,b⟩:=H.own;obtain⟨a,c,e,f,g⟩:=d.cut;subst e;rw[Ib]at hn b;exact⟨H.os,H.tape,H.output,H.size,H.dr,H.old,H.ro,H.le,H.new,a.flatten::c,⟨⟨a,f,rfl⟩,g⟩,hn,b⟩
end
section
variable {C:Bu} {ds:CL} {l:AW} {As Bs Es Fs:Am} {h:U} {K:CB} {G:Value→Am→U→Prop}
def Ab6 (hT:C' Es (El As) Fs)(g:AI C ds l (As++Fs) h K):AI C ds l Es h K:=λa w s=>g a w ⟨s.size,s.defers,s.slots,(s.hp.front hT).sepOpen⟩
def aR (g:AI C ds l (El As::Fs) h K):AI C ds l (As++Fs) h K:=λa w s=>g a w ⟨s.size,s.defers,s.slots,s.hp.sepClose⟩
def A0j {α:Type}{g:α→Am}{pre post:List α}{x:α}{fs:List α}(hT:C' Es (El (fs.flatMap g)) Fs)(e:fs=pre++x::post)(k:AI C ds l (g x++(El (pre.flatMap g++post.flatMap g)::Fs)) h K):AI C ds l Es h K:=
 Ab6 hT (Lc (Fs:=(pre.flatMap g++post.flatMap g)++(g x++Fs)) (by
  subst e
  simp only[Ep,Eb,Ck]
  exact eR _ qO) (aR (Lc List.perm_middle.symm k)))
def Ab5 {α:Type}{g:α→Am}{pre post:List α}{y:α}{fs:List α}(e:fs=pre++y::post)(hT:Kh Es (El (pre.flatMap g++post.flatMap g)::g y) Fs)(k:AI C ds l (El (fs.flatMap g)::Fs) h K):AI C ds l Es h K:=
 Lc hT.perm (Ab6 (Fs:=g y++Fs) (.here) (Lc (Fs:=fs.flatMap g++Fs) (by
  subst e
  show((pre.flatMap g++post.flatMap g)++(g y++Fs)).Perm ((pre++y::post).flatMap g++Fs)
  simp only[Ep,Eb,Ck]
  exact eR _ qO) (aR k)))
def A0i (g:AI C ds l (El []::Es) h K):AI C ds l Es h K:=aR (As:=[]) g
end
theorem Cy.each:∀{As:Am} {c:Hd} {m:U},Cy As c m→∀A∈As,∃D,A.holds D m
 |A::As,D::c,m,⟨h1,h2⟩,b,a=>by rcases Bx.1 a with e|e;{exact⟨D,e▸h1⟩};{exact Cy.each h2 b e}
 |[],_,_,_,b,a=>by cases a
 |_::_,[],_,h,_,_=>h.elim
def El.each {As:Am}{D:BD}{m:U}(h:(El As).holds D m):∀A∈As,∃D,A.holds D m:=by obtain⟨a,h1,_⟩:=h;exact h1.each
open Go Go.Sort Go.Proofs
theorem Zx {α:Type}(enc:α→Value):∀xs:List α,xs.flatMap (λx=>[enc x])=xs.map enc
 |[]=>rfl
 |x::r=>by rw[Eb,Zx enc r];rfl
def Aiv {α:Type}[Inhabited α]{P:Program}{f gf:FuncId}{cb:Dx}(enc:α→Value)(q:α→α→Int)(h:U)
  (az:∀(blk off l:Nat) (d:Array α) (w:World),CmpLays1 P gf cb enc q blk off d.size w→Holds enc w blk off d→blk<w.heap.size→d.size<4611686018427387904→
    Calls P f #[.slice (some ⟨blk,off,none⟩) d.size l,.func (.func gf) #[] cb] w λe r=>e=.returned (.tuple #[])∧∃c n os,PermIn 0 d.size d c∧SortedIn (ltOf q) 0 d.size c∧r=sortWorld enc w blk off n c os)
  (a2:∀(p:At) (l:Nat) (w:World),Calls P f #[.slice p 0 l,.func (.func gf) #[] cb] w λe r=>e=.returned (.tuple #[])∧r=w)
  (a9:∀x y,Az P gf (#[enc x,enc y]++cb) h λu _=>u=O (q x y))
  (e:TypeId) (v:Value) (xs:List α) (n:Nat) (hn:n≤1000000000) (hx:xs.length=n) :
  AP P f #[v,.func (.func gf) #[] cb] [Ar e 1 v n (xs.flatMap λx=>[enc x])] h λu Es _=>u=.tuple #[]∧∃ys:List α,ys.Perm xs∧(ys.Pairwise λa b=>ltOf q b a=false)∧Es=[Ar e 1 v n (ys.flatMap λx=>[enc x])]:=by
 subst hx
 rw[Zx enc xs]
 intro w X0 ag ⟨ac,am,bg,aa⟩
 have ad:Bq w X0 h [Ar e 1 v xs.length (xs.map enc)] h w:=⟨rfl,rfl,rfl,BU _,BU _,λ_ _ _=>rfl,ag,V.refl _,λi o e=>.inl e,ac,am,bg,λb h1=>⟨(aa b h1).1,.inr (aa b h1).2.1,(aa b h1).2.2⟩⟩
 have bi:∀D,(Ar e 1 v xs.length (xs.map enc)).holds D (mem w)→(∃t,ac=[t]∧(Ar e 1 v xs.length (xs.map enc)).holds t (mem w)):=by
  intro D _
  match ac,am with
  |[t],⟨h1,_⟩=>exact⟨t,rfl,h1⟩
 obtain⟨au,ax⟩:=ad.get (La _)
 obtain⟨D,a1,aw⟩:=bi au ax
 have ba:∀b∈D,h b=none:=λb a5=>(aa b (by rw[a1];simp[a5])).1
 obtain⟨br,hr⟩:=aw
 rcases hr with⟨rfl,h0,aj⟩|⟨g,l,z,rfl,aj,hm,a6,bf,ak,ap⟩
 · have hx:xs=[]:=Fu h0
   subst hx
   refine(a2 none 0 w).mono ?_
   rintro ai r ⟨rfl,rfl⟩
   exact⟨_,rfl,_,h,⟨rfl,[],.refl _,.nil,rfl⟩,ad⟩
 · have ab:w.heap[g]?=some (.cells z e (0,0)):=hm
   have bb:h g=none:=ba g (by rw[aj];simp)
   rw[Gy]at ak ap
   have a7:∀j,j<xs.length→z[j]?=(xs.map enc)[j]?:=by
    intro j hj
    rw[←ap,FF,if_pos hj,Lk]
   have al:g<w.heap.size:=(JE.1 ab).1
   have bj:∀(m:Nat) (k:Array α) (os:Array Obj) (i:Nat),i<w.heap.size→i≠g→(sortWorld enc w g 0 m k os).heap[i]?=w.heap[i]?:=by
    intro m k os i hi s
    unfold sortWorld
    show(w.heap.modify g _++os)[i]?=_
    rw[Rb Jq,Is,if_neg (λe=>s e.symm)]
   have a':CmpLays1 P gf cb enc q g 0 xs.toArray.size w:=λm os k bq x y=>by
    have bd:V h (mem (sortWorld enc w g 0 m k os)):=λi o hi=>by
     have h1:=ag i o hi
     have s:i≠g:=λe=>by subst e;rw[bb]at hi;cases hi
     have be:i<w.heap.size:=V.lt ag hi
     show(sortWorld enc w g 0 m k os).heap[i]?=some o
     rw[bj m k os i be s];exact h1
    refine(a9 x y (sortWorld enc w g 0 m k os) [] bd ⟨[],trivial,An,An⟩).mono ?_
    rintro ai r ⟨v,rfl,Es,h',⟨rfl,rfl⟩,H⟩
    exact⟨rfl,H.grown⟩
   refine(az g 0 l xs.toArray w a' ?_ al FC).mono ?_
   · intro j hj
     have ae:j<xs.length:=by simpa using hj
     refine⟨?_,?_⟩
     · simp only[World.cell?,ab,Dy]
       have:=a7 j ae
       rw[FG,Bw ae]at this
       rw[getElem!_pos xs.toArray j (by simpa using ae)]
       simpa using this
     · simp[World.frozen?,ab]
   rintro ai r ⟨rfl,c,m,os,a3,a4,rfl⟩
   obtain⟨ao,_,ah⟩:=a3
   have e1:c.extract 0 xs.toArray.size=c:=by rw[←ao];exact hY
   rw[e1,hY]at ah
   have hsl:c.toList.length=xs.length:=by simpa using ao
   obtain⟨ys,ar⟩:∃ys,ys=c.toList:=⟨_,rfl⟩
   have aq:c=ys.toArray:=by rw[ar]
   rw[←ar]at hsl ah
   have bk:ys.Pairwise λa b=>ltOf q b a=false:=by
    rw[Uv]
    intro i j hi hj bc
    have:=a4 i j (GT _) bc (by rw[hsl]at hj;simpa using hj)
    rw[aq]at this
    rwa [getElem!_pos ys.toArray j OU,getElem!_pos ys.toArray i Jq,Yj,Yj]at this
   refine⟨_,rfl,_,h,⟨rfl,ys,by simpa using ah,bk,rfl⟩,?_⟩
   subst aq
   rw[Zx enc ys]
   have an:∀i,i<w.heap.size→(sortWorld enc w g 0 m ys.toArray os).heap[i]?=(w.heap.modify g (Sort.onCells (Sort.putCells enc 0 ys.toArray)))[i]?:=by
    intro i hi
    unfold sortWorld
    show(w.heap.modify g _++os)[i]?=_
    rw[Rb Jq]
   refine ad.repl .here rfl rfl rfl (by simp[sortWorld,grow,putRow,mapBlock,Sort.ahead]) (hdr:=by show w.drawn≤w.drawn+m;omega) λav ay bp bo=>?_
   have a0:av=[g]:=by
    rcases ay.2 with⟨e1,_⟩|⟨bn,bl,bm,e1,e2,_⟩
    · cases e1
    · injection e1 with e1 _;injection e1 with e1;injection e1 with e1;rw[e2,e1]
   subst a0
   refine⟨[g],⟨by rw[Dc,hsl,Gy],.inr ⟨g,l,Sort.putCells enc 0 ys.toArray z,rfl,rfl,?_,a6,bf,by simp[Sort.putCells,ak],?_⟩⟩,An,?_,?_⟩
   · show(sortWorld enc w g 0 m _ os).heap[g]?=_
     rw[an g al,Is,if_pos rfl,ab]
     rfl
   · apply K'
     intro j
     rw[FF,Gy]
     by_cases hj:j<xs.length
     · rw[if_pos hj,Lk]
       have af:j<ys.length:=by rw[hsl];exact hj
       have a8:j<z.size:=by omega
       simp only[Sort.putCells,Vc,OC a8,Hg,GT,true_and,Dy,Nb,af,if_true,JM,FG,Bw af]
       rw[getElem!_pos _ j (by simpa using af)]
       simp
     · rw[if_neg hj,Mj (by rw[Dc,hsl];omega)]
   · intro i hi
     simp only[Bk]at hi
     subst hi
     exact⟨.inl An,by simp[sortWorld,grow,putRow,mapBlock,Sort.ahead];try omega⟩
   · intro i hi bh
     have s:g≠i:=λe=>bh MS
     show(sortWorld enc w g 0 m _ os).heap[i]?=_
     rw[an i hi,Is,if_neg s]
end Go.Hw
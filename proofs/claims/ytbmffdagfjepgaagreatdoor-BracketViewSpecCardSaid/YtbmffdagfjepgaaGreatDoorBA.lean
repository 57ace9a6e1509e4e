import Derived.Test.YtbmffdagfjepgaaGreatDoorFE
import Derived.Test.YtbmffdagfjepgaaGreatDoorGA
set_option linter.all false
namespace Go.Hw
open Go
def Cc (r:BC):Ao:=[O r.g.s,O r.g.c,O r.g.h,O r.g.a,O r.hg,O r.ag,O r.hp,O r.ap,O r.hc,O r.ac,O r.day,.bool r.forf,.bool r.both]
abbrev GE (r:BC):Value:=.agg (Cc r).toArray
def Gd (r:BC):(Cc r).length=13:=rfl
def Lg (r:BC):∀u∈Cc r,u.oneCell'=true:=En rfl
def Zg (o:Option BC):Value:=.tuple #[GE (o.getD AV),.bool o.isSome]
abbrev DP (b:Nat):Value:=AD b
def Mw (t:AT):Ao:=[O t.legs,.bool t.away]
abbrev GF (t:AT):Value:=.agg (Mw t).toArray
abbrev HO:=Ca×Bv
abbrev Fj:=List HO
def Nw (s:Ca) (d:Bv):Ao:=[O d.a,O d.b,.slice s.A s.n s.c]
abbrev IN (s:Ca) (d:Bv):Value:=.agg (Nw s d).toArray
def Dv (p:HO):Ao:=Nw p.1 p.2
def Ke (p:HO):(Dv p).length=3:=rfl
def TE (p:HO):∀u∈Dv p,u.oneCell'=true:=En rfl
def Arb:Bv:=⟨0,0,[]⟩
def BE:HO:=(Cl,Arb)
def Js (h:U) (p:HO):Prop:=Ai Cc 13 h p.1.A p.1.n p.2.ls∧p.1.n≤p.1.c
def Js.le {h h':U}{p:HO}(a:Js h p)(b:V h h'):Js h' p:=⟨a.1.le b,a.2⟩
def Js.len {h:U}{p:HO}(a:Js h p):p.2.ls.length=p.1.n:=a.1.len
abbrev FT:=Ca×Fj
abbrev EH:=List FT
def Ez (r:FT):Ao:=[.slice r.1.A r.1.n r.1.c]
def KF (r:FT):(Ez r).length=1:=rfl
def Sd (r:FT):∀u∈Ez r,u.oneCell'=true:=En rfl
def CA:FT:=(Cl,[])
def AZ (l:Fj):CM:=l.map (·.2)
def QT (l:Fj)(p:HO):AZ (l++[p])=AZ l++[p.2]:=by unfold AZ;rw[DI];rfl
def GD (l:Fj):(AZ l).length=l.length:=by unfold AZ;exact Dc _
structure Qs (h:U) (A:At) (n:Nat) (l:Fj):Prop where
 row:Ai Dv 3 h A n l
 each:∀p∈l,Js h p
def Qs.le {h h':U}{A:At}{n:Nat}{l:Fj}(a:Qs h A n l)(b:V h h'):Qs h' A n l:=⟨a.row.le b,λp hp=>(a.each p hp).le b⟩
def IY (h:U) (r:FT):Prop:=Qs h r.1.A r.1.n r.2∧r.1.n≤r.1.c
def IY.le {h h':U}{r:FT}(a:IY h r)(b:V h h'):IY h' r:=⟨a.1.le b,a.2⟩
structure Mu (h:U) (A:At) (n:Nat) (l:EH):Prop where
 row:Ai Ez 1 h A n l
 each:∀r∈l,IY h r
def Mu.le {h h':U}{A:At}{n:Nat}{l:EH}(a:Mu h A n l)(b:V h h'):Mu h' A n l:=⟨a.row.le b,λp hp=>(a.each p hp).le b⟩
def rounds (l:EH):Hs:=l.map λr=>AZ r.2
def KG (l:EH):(rounds l).length=l.length:=by unfold rounds;exact Dc _
def Ge (s:Ca) (t:AT):Ao:=[O t.legs,.bool t.away,.slice s.A s.n s.c]
abbrev Jh (s:Ca) (t:AT):Value:=.agg (Ge s t).toArray
structure HE (h:U) (s:Ca) (l:EH) (b:CQ):Prop where
 rs:Mu h s.A s.n l
 is:b.rs=rounds l
 nc:s.n≤s.c
def HE.le {h h':U}{s:Ca}{l:EH}{b:CQ}(a:HE h s l b)(c:V h h'):HE h' s l b:=⟨a.rs.le c,a.is,a.nc⟩
def HE.zero (h:U):HE h Cl [] Gf:=⟨⟨Ai.nil,λp hp=>absurd hp An⟩,rfl,BU _⟩
def KJ (h:U) (u:Value) (b:CQ) (e:Int):Prop:=∃s l,u=.tuple #[Jh s b.t,O e]∧HE h s l b
end Go.Hw
set_option maxRecDepth 100000
set_option maxHeartbeats 8000000
namespace Go.Hw
open Go
attribute [local irreducible] AI Bz BV Aq AP Az Au CH Ap Ar BG Cm BP Dg
open Go.Proofs.Tryz
def KP (m n:Int):Bool:=decide (n<0∨m<n)
def Ayq (h:U)(x m:Int)(b1:Nat)(h1:Au h (Av b1) [O m]):Aq prog 121 #[O x,AD b1] h (.bool (KP m x)):=by refine AK func121 λ_ _=>?_;unfold KP;(repeat'(first|refine Aa ?_|refine Z Cb ?_|refine AF ?_|(refine AG ?_ ?_<;>intro hc<;>try omega)|refine Bm ?_|fail));all_goals(refine Cv ?_;(try rw[Lw]);grind)
def aO (h:U)(m:Int)(A:At)(n c:Nat)(xs:AC)(hx:Ai AQ 1 h A n xs)(hn:n≤1000):Aq prog 85 #[O m,.slice A n c] h (.bool (!(xs.any (KP m)))):=by
 refine AK func85 λ_ _=>?_;generalize a:xs.any (KP m)=q at *;(repeat'(first|refine Aa ?_|(refine Aj ?_;intro b)|(refine Ac ?_;first|(refine Gt (cs:=[O m]) Bh ?_;intro h1 e d;apply Aw;exact F;exact Ab func76;(have hv:=Yy h1 A n c xs (hx.le e) J 121 [] [AD _] (KP m) (Ab func121) (λx _=>Ayq h1 x m _ d);rw[a]at hv;exact hv)))|fail))
 all_goals first
  |(exact BS rfl rfl rfl rfl)
def Un (m:Int)(xs:AC):(!(xs.any (KP m)))=true↔∀x∈xs,0≤x∧x≤m:=by rw[IE,Sr];unfold KP;constructor;{intro h x hx;have:=h x hx;rw[decide_eq_true_eq]at this;omega};{intro h x hx;have:=h x hx;rw[decide_eq_true_eq];omega}
def Akk (r:BC):DS r↔DL r.g∧(!([r.hg,r.ag,r.hp,r.ap].any (KP 99)))=true∧(!([r.hc,r.ac].any (KP 120)))=true∧(!([r.day].any (KP 1048576)))=true∧(r.g.c<8→r.hp+r.ap=0)∧
  (if r.forf=true then(if r.both=true then r.hg=0∧r.ag=0 else(r.hg=0∧r.ag=3)∨(r.hg=3∧r.ag=0))∧r.hp+r.ap+r.hc+r.ac=0 else r.both=false):=by
 rw[Un,Un,Un]
 unfold DS AY
 simp only[Bx,JX,or_false,forall_eq_or_imp,forall_eq]
 constructor
 · rintro⟨h1,h2,h3,c,d,e,f,g,b,a⟩
   exact⟨h1,⟨J,J,J,J⟩,⟨J,J⟩,J,b,a⟩
 · rintro⟨h1,⟨h2,h3,c,d⟩,⟨e,f⟩,g,b,a⟩
   exact⟨h1,J,J,J,J,J,J,J,b,a⟩
def yF (h:U)(r:BC):Az prog 35 #[GE r] h (λu _=>u=O (if DS r then 0 else 1)):=by
 refine BB func35 λ_ _=>?_;have hgm:=λh'=>Va h' r.g;have a:=λ(_:Unit)=>Akk r;have d:=Un 99 [r.hg,r.ag,r.hp,r.ap];have e:=Un 120 [r.hc,r.ac];have m:=λh' A (hs:Ai AQ 1 h' A 4 [r.hg,r.ag,r.hp,r.ap])=>aO h' 99 A 4 4 _ hs BO;have w2:=λh' A (hs:Ai AQ 1 h' A 2 [r.hc,r.ac])=>aO h' 120 A 2 2 _ hs BO;have n:=λh' A (hs:Ai AQ 1 h' A 1 [r.day])=>aO h' 1048576 A 1 1 _ hs BO;generalize(!([r.hg,r.ag,r.hp,r.ap].any (KP 99)))=g at *;generalize(!([r.hc,r.ac].any (KP 120)))=i at *;generalize(!([r.day].any (KP 1048576)))=l at *;simp only[Bx,JX,or_false,forall_eq_or_imp,forall_eq]at d e;by_cases c:DL r.g
 ·simp only[if_pos c]at hgm;by_cases hq:g=true∧i=true∧l=true
  ·obtain⟨rfl,rfl,rfl⟩:=hq;obtain⟨⟨s,x⟩,⟨y,z⟩,⟨aa,ab⟩,ac,ad⟩:=d.1 rfl;obtain⟨⟨ae,t⟩,v,w⟩:=e.1 rfl;clear d e
   all_goals
    repeat'(first|refine AH ?_|(refine Z (by apply KB (j:=0);(iterate 5 exact F);omega;omega) ?_)|(refine Z (by apply KB (j:=1);(iterate 5 exact F);omega;omega) ?_)|(refine Aj ?_;intro b)|(refine Ac ?_;first|(refine OX ?_)|(refine sZ ?_;intro b1 h1 o hs1)|(refine rX ?_;intro b2 h2 p hs2)|(refine rR ?_;intro b3 h3 q hs3)|(apply Aw;exact F;exact Ab func85;(first|exact m _ _ hs1|exact w2 _ _ hs2|exact n _ _ hs3)))|(refine Y ?_ ?_<;>intro hc<;>try omega)|refine AF ?_|(refine AG ?_ ?_<;>intro hc<;>try omega)|fail)
   all_goals first
    |(exfalso;simp at hc;done)
    |(refine BL rfl rfl rfl ?_;first|(rw[if_pos ((a ()).2 ⟨c,rfl,rfl,rfl,J,by grind⟩)];done)|(rw[if_neg (λk=>by have k2:=((a ()).1 k).2.2.2.2;grind)];done))
  ·have f:¬DS r:=λk=>hq (by have k2:=(a ()).1 k;exact⟨k2.2.1,k2.2.2.1,k2.2.2.2.1⟩);rw[if_neg f];clear a d e f;cases g;(all_goals(try cases i));(all_goals(try cases l));(all_goals(try(exfalso;simp at hq;done)))
   all_goals
    repeat'(first|refine Aa ?_|(refine Aj ?_;intro b)|(refine Ac ?_;first|(refine OX ?_)|(refine sZ ?_;intro b1 h1 o hs1)|(refine rX ?_;intro b2 h2 p hs2)|(refine rR ?_;intro b3 h3 q hs3)|(apply Aw;exact F;exact Ab func85;(first|exact m _ _ hs1|exact w2 _ _ hs2|exact n _ _ hs3)))|(refine Y ?_ ?_<;>intro hc<;>try omega)|refine AF ?_|(refine AG ?_ ?_<;>intro hc<;>try omega)|fail)
   all_goals first
    |(exfalso;simp at hc;done)
    |(exact BL rfl rfl rfl rfl)
 ·simp only[if_neg c]at hgm;rw[if_neg (λk=>c ((a ()).1 k).1)];(repeat'(first|refine Aa ?_|(refine Aj ?_;intro b)|(refine Ac ?_;first|(refine OX ?_))|(refine Y ?_ ?_<;>intro hc<;>try omega)|refine AF ?_|(refine AG ?_ ?_<;>intro hc<;>try omega)|fail))
  all_goals first
   |omega
   |(exact BL rfl rfl rfl rfl)
def TG (h:U)(t:AT):Aq prog 15 #[GF t] h (.bool (decide (EN t))):=by refine AK func15 λ_ _=>?_;(repeat'(first|refine Aa ?_|(refine Aj ?_;intro b)|refine AF ?_|(refine AG ?_ ?_<;>intro hc<;>try omega)|refine Bm ?_|fail));all_goals(refine Cv ?_;(try rw[Fb]);unfold EN;grind)
def fZ (h:U)(n:Int):Aq prog 71 #[O n] h (.bool (decide (AY n 192))):=by refine AK func71 λ_ _=>?_;(repeat'(first|refine Aa ?_|refine AF ?_|(refine AG ?_ ?_<;>intro hc<;>try omega)|refine Bm ?_|fail));all_goals(refine Cv ?_;(try rw[Lw]);unfold AY;grind)
def At4 (s:Ca) (d:Bv) (t:AT):Ao:=[O d.a,O d.b,.slice s.A s.n s.c,O t.legs,.bool t.away]
abbrev PQ (s:Ca) (d:Bv) (t:AT):Value:=.agg (At4 s d t).toArray
def Ank (h:U)(s:Ca)(d:Bv)(t:AT)(i:Int):Aq prog 72 #[PQ s d t,O i] h (.tuple #[O (if i=0 then d.a else d.b),O (if i=0 then d.b else d.a)]):=by refine AK func72 λ_ _=>?_;by_cases hi:i=0;{rw[if_pos hi,if_pos hi];(repeat'(first|refine Aa ?_|(refine Aj ?_;intro b)|(apply Da (n:=2) [0,1,2,6,3,4,5,7] [(0,0),(1,0),(2,0),(3,0),(4,0),(5,0),(6,0),(7,0)];kernel_rfl)|(refine Y ?_ ?_<;>intro hc<;>try omega)|(apply VS;(iterate 4 exact F))));all_goals first|rfl|omega};{rw[if_neg hi,if_neg hi];(repeat'(first|refine Aa ?_|(refine Aj ?_;intro b)|(apply Da (n:=3) [0,1,2,6,3,4,5,7] [(0,0),(1,0),(2,0),(3,0),(4,0),(5,0),(6,0),(7,0)];kernel_rfl)|(refine Y ?_ ?_<;>intro hc<;>try omega)|(apply VS;(iterate 4 exact F))));all_goals first|rfl|omega}
def kG (h:U)(s:Ca)(d:Bv)(t:AT)(k:Nat):Aq prog 72 #[PQ s d t,O (k:Int)] h (.tuple #[O (MI d k),O (MH d k)]):=by have:=Ank h s d t k;unfold MI MH;by_cases a:k=0;{subst a;exact this};{rw[if_neg J,if_neg J]at this;rw[if_neg a,if_neg a];exact this}
def Zu (h:U)(s:Ca)(d:Bv)(t:AT)(hs:d.ls.length=s.n):Aq prog 42 #[PQ s d t] h (.bool (decide (DY d t))):=by refine AK func42 λ_ _=>?_;(repeat'(first|refine Aa ?_|(refine Aj ?_;intro b)|refine Bm ?_|fail));all_goals(refine Cv ?_;rw[GV];unfold DY;rw[hs])
def Aeu (h:U)(s:Ca)(d:Bv)(t:AT)(hs:d.ls.length=s.n)(x:BC):Aq prog 39 #[PQ s d t,GE x] h (.bool (decide (Fw d t x))):=by refine AK func39 λ_ _=>?_;have a:=kG h s d t s.n;have hf:=Zu h s d t hs;(repeat'(first|refine Aa ?_|(refine Aj ?_;intro b)|(refine Ac ?_;first|(apply Aw;exact F;exact Ab func72;exact a)|(apply Aw;exact F;exact Ab func42;exact hf))|refine AF ?_|(refine AG ?_ ?_<;>intro hc<;>try omega)|refine Bm ?_|fail));all_goals(refine Cv ?_;(try simp only[IE,Fb,decide_eq_false_iff_not]);unfold Fw;rw[hs];grind)
def iF (h:U)(x y:BC):Aq prog 40 #[GE x,GE y] h (.bool (decide (DM x y))):=by refine AK func40 λ_ _=>?_;(repeat'(first|refine Aa ?_|(refine Aj ?_;intro b)|refine AF ?_|(refine AG ?_ ?_<;>intro hc<;>try omega)|refine Bm ?_|fail));all_goals(refine Cv ?_;(try rw[Fb]);unfold DM;grind)
structure FM (h:U) (s:Ca) (d:Bv):Prop where
 at':Js h (s,d)
 few:s.n≤2
 ok:∀x∈d.ls,DS x
def FM.le {h h':U}{s:Ca}{d:Bv}(g:FM h s d)(a:V h h'):FM h' s d:=⟨g.at'.le a,g.few,g.ok⟩
def FM.of {h:U}{s:Ca}{d:Bv}{t:AT}(a:Js h (s,d))(o:KR d t):FM h s d:=⟨a,by
 have h1:=o.ok0.2.2.2.2
 have h2:=o.ok0.1
 have h3:=a.len
 unfold EN at h2
 dsimp only at h3
 omega,o.res⟩
def UC (l:Lp) (k:Nat):Prop:=-(99*(k:Int))≤l.goals∧l.goals≤99*(k:Int)∧ -(99*(k:Int))≤l.away∧l.away≤99*(k:Int)∧ -99≤l.pens∧l.pens≤99
def Ad0 (ls:CX)(x:BC):Jo 0 ⟨0,0,0⟩ (ls++[x])=Kj (Jo 0 ⟨0,0,0⟩ ls) ls.length x:=by rw[Acf,Dy]
def Anp {ls:CX}(h:∀x∈ls,DS x):UC (Jo 0 ⟨0,0,0⟩ ls) ls.length:=by refine Ny (P:=λls=>(∀x∈ls,DS x)→UC (Jo 0 ⟨0,0,0⟩ ls) ls.length) (λ_=>by unfold UC Jo;simp) (λl x a h=>?_) ls h;have h1:=a λy hy=>h y (by simp[hy]);have h2:=h x An;rw[Ad0,Bt,IR];unfold UC at h1 ⊢;have:=Ano (l:=Jo 0 ⟨0,0,0⟩ l) (i:=l.length) h2 (99*(l.length:Int)) h1;omega
def kJ (l:Lp):Ao:=[O l.goals,O l.away,O l.pens]
def Ann (h:U)(s:Ca)(d:Bv)(t:AT)(hg:FM h s d):Az prog 73 #[PQ s d t] h (λu _=>u=.agg (kJ (HY d)).toArray):=by
 refine BB func73 λ_ _=>?_;have hx:=hg.at'.1;have hn:=hg.few;have c:=hg.ok;dsimp only at hx;have n:=hx.len;have j:=λk=>Anp (ls:=d.ls.take k) (λx hx=>c x (Mh hx));(repeat'(first|refine Ba ?_|(apply AE;(iterate 3 exact F);apply Bo (e:=132);exact F;intro g)|refine Eo ?_|(refine Aj ?_;intro b)|fail));refine Bg (X:=Nat) (λk=>k≤s.n) (λk=>s.n-k) (λk=>[(9,O k),(8,O s.n),(7,.slice s.A s.n s.c),(2,DP g)]) (λk=>[Ap g 132 (kJ (Jo 0 ⟨0,0,0⟩ (d.ls.take k)))]) (λ_=>h) 0 J Af Ad rfl ?_;rintro k o f;by_cases a:k<s.n
 ·have a1:=hx.addrD a;have c1:Au h ((addrD s.A).add (k*ID.size)) (Cc (d.ls.getD k AV)):=hx.cellsD AV a;have i:=BY AV (xs:=d.ls) n a;have hm:=Ce AV (show k<d.ls.length by omega);generalize d.ls.getD k AV=x at *;obtain⟨_,⟨p,q⟩,⟨r,v⟩,⟨w,y⟩,⟨aa,ab⟩,_⟩:=c x hm;have h3:=f (k+1) J J;rw[i,Ad0,CF,QA (show k≤d.ls.length by omega)]at h3;have l:=j k;rw[CF,QA (show k≤d.ls.length by omega)]at l;generalize Jo 0 ⟨0,0,0⟩ (d.ls.take k)=z at *;unfold UC at l;unfold Kj at h3;clear f c j i;by_cases k0:k=0
  ·rw[if_pos k0]at h3;(repeat'(first|refine Ba ?_|(apply AE;(iterate 3 exact F);apply Bo (e:=38);exact F;intro m)|refine BF ?_|refine Z Bf ?_|refine Z BN ?_|(refine Y ?_ ?_<;>intro hc<;>try omega)|fail))
   all_goals first
    |omega
    |(refine AB Af Ad h3)
  ·rw[if_neg k0]at h3;(repeat'(first|refine Ba ?_|(apply AE;(iterate 3 exact F);apply Bo (e:=38);exact F;intro m)|refine BF ?_|refine Z Bf ?_|refine Z BN ?_|(refine Y ?_ ?_<;>intro hc<;>try omega)|fail))
   all_goals first
    |omega
    |(refine AB Af Ad h3)
 ·rw[By J];rw[show Jo 0 ⟨0,0,0⟩ d.ls=HY d from rfl];clear f;generalize HY d=z;(repeat'(first|refine AH ?_|(refine Y ?_ ?_<;>intro hc<;>try omega)|fail))
  all_goals first
   |omega
   |(exact Gr rfl rfl rfl Bc rfl rfl rfl)
def HD (d:Bv) (t:AT):Value:=.tuple #[O (if DY d t then(if 0<Jp d t then d.a else d.b)else 0),.bool (Dd d t).isSome]
def Aax {d:Bv}{t:AT}(h:¬DY d t):HD d t=.tuple #[O 0,.bool false]:=by unfold HD;rw[if_neg h,Alr h];rfl
def Av1 {d:Bv}{t:AT}(h:DY d t)(k:0<Jp d t):HD d t=.tuple #[O d.a,.bool true]:=by unfold HD Dd;rw[if_pos h,if_pos k,if_pos h,if_pos k];rfl
def Ayo {d:Bv}{t:AT}(h:DY d t)(k:¬0<Jp d t):HD d t=.tuple #[O d.b,.bool (FR (Jp d t) 0)]:=by unfold HD Dd;rw[if_pos h,if_neg k,if_pos h,if_neg k,OO];by_cases k2:Jp d t<0;{rw[if_pos k2,decide_eq_true k2];rfl};{rw[if_neg k2,decide_eq_false k2];rfl}
def QJ {d:Bv}{t:AT}{w:Int}(h:Dd d t=some w):HD d t=.tuple #[O w,.bool true]:=by unfold HD;rw[h];unfold Dd at h;by_cases k1:DY d t;{rw[if_pos k1]at h ⊢;by_cases k2:0<Jp d t;{rw[if_pos k2]at h ⊢;cases h;rfl};{rw[if_neg k2]at h ⊢;by_cases k3:Jp d t<0;{rw[if_pos k3]at h;cases h;rfl};{rw[if_neg k3]at h;cases h}}};{rw[if_neg k1]at h;cases h}
def Oo {d:Bv}{t:AT}(h:Dd d t=none):∃q,HD d t=.tuple #[O q,.bool false]:=by unfold HD;rw[h];exact⟨_,rfl⟩
def Axx (d:Bv)(t:AT):((HY d).goals≠0→Jp d t=(HY d).goals)∧((HY d).goals=0→t.legs=2→t.away=true→(HY d).away≠0→Jp d t=(HY d).away)∧
  ((HY d).goals=0→(t.legs≠2∨t.away=false∨(HY d).away=0)→Jp d t=(HY d).pens):=by
 unfold Jp
 refine⟨λh=>if_pos h,λh1 h2 h3 a=>?_,λh1 h2=>?_⟩
 · rw[if_neg (λk=>k h1),if_pos ⟨h2,h3,a⟩]
 · rw[if_neg (λk=>k h1),if_neg]
   rintro⟨k1,k2,k3⟩
   rcases h2 with w|w|w
   · exact w k1
   · rw[w]at k2;cases k2
   · exact k3 w
def Tu (h:U)(s:Ca)(d:Bv)(t:AT)(hg:FM h s d):Az prog 29 #[PQ s d t] h (λu _=>u=HD d t):=by
 refine BB func29 λ_ _=>?_;have hf:=Zu h s d t hg.at'.len;have g:=Ann h s d t hg;by_cases a:DY d t
 ·rw[decide_eq_true a]at hf;have i:=Av1 a;have e:=Ayo a;obtain⟨q,f,c⟩:=Axx d t;generalize Jp d t=N at *;generalize HY d=z at *;generalize HD d t=p at *;obtain⟨n,m⟩:=t;dsimp only at f c;clear hg a;cases m
  ·have j:=λk=>c k (.inr (.inl rfl));clear f c;(repeat'(first|refine AH ?_|(refine Aj ?_;intro b)|(refine Ac ?_;first|(apply Aw;exact F;exact Ab func42;exact hf)|(apply AR;exact F;exact Ab func73;exact g;rintro o h2 l rfl))|(refine Y ?_ ?_<;>intro hc<;>try omega)|refine AF ?_|(refine AG ?_ ?_<;>intro hc<;>try omega)|fail))
   all_goals first
    |(exfalso;simp at hc;done)
    |omega
    |(refine EG rfl rfl rfl rfl ?_;rw[i J];done)
    |(refine EG rfl rfl rfl rfl ?_;rw[e J,show N=z.goals by omega];done)
    |(refine EG rfl rfl rfl rfl ?_;rw[e J,show N=z.pens by omega];done)
  ·have r:=λk k1 k2=>f k k1 rfl k2;have j:z.goals=0→(n≠2∨z.away=0)→N=z.pens:=λk k1=>c k (k1.imp_right .inr);clear f c;(repeat'(first|refine AH ?_|(refine Aj ?_;intro b)|(refine Ac ?_;first|(apply Aw;exact F;exact Ab func42;exact hf)|(apply AR;exact F;exact Ab func73;exact g;rintro o h2 l rfl))|(refine Y ?_ ?_<;>intro hc<;>try omega)|refine AF ?_|(refine AG ?_ ?_<;>intro hc<;>try omega)|fail))
   all_goals first
    |(exfalso;simp at hc;done)
    |omega
    |(refine EG rfl rfl rfl rfl ?_;rw[i J];done)
    |(refine EG rfl rfl rfl rfl ?_;rw[e J,show N=z.goals by omega];done)
    |(refine EG rfl rfl rfl rfl ?_;rw[e J,show N=z.away by omega];done)
    |(refine EG rfl rfl rfl rfl ?_;rw[e J,show N=z.pens by omega];done)
 ·rw[decide_eq_false a]at hf;rw[Aax a];clear g;(repeat'(first|refine Aa ?_|(refine Aj ?_;intro b)|(refine Ac ?_;first|(apply Aw;exact F;exact Ab func42;exact hf))|(refine Y ?_ ?_<;>intro hc<;>try omega)|fail))
  all_goals first
   |(exfalso;simp at hc;done)
   |(exact EG rfl rfl rfl rfl rfl)
def Abt {d:Bv}{t:AT}(h:¬MX d t):Ie d t=210:=by unfold Ie;rw[if_neg h]
def oP {d:Bv}{t:AT}(h:MX d t){x:BC}(hx:x∈d.ls)(hr:¬DS x):Ie d t=1:=by unfold Ie;rw[if_pos h,if_neg (λk=>hr (k x hx))]
def Abu {d:Bv}{t:AT}(h:MX d t)(hr:∀x∈d.ls,DS x){i:Nat}(hi:i<d.ls.length)(a:¬KL d i (d.ls.getD i AV)):Ie d t=210:=by unfold Ie;rw[if_pos h,if_pos hr,if_neg (λk=>a (k i hi))]
def yG (h:U)(s:Ca)(d:Bv)(t:AT)(an:Js h (s,d)):Az prog 28 #[IN s d,GF t] h (λu _=>u=O (Ie d t)):=by
 refine BB func28 λ_ _=>?_;have hx:=an.1;dsimp only at hx;have ao:=hx.len;have ac:=Abt (d:=d) (t:=t);have v:=λk x hx hr=>oP (d:=d) (t:=t) k (x:=x) hx hr;have hlg:=λk hr i hi j=>Abu (d:=d) (t:=t) k hr (i:=i) hi j;have q:=NF (d:=d) (t:=t);generalize Ie d t=ai at *;have hr:=TG h t;have aa:=fZ h d.a;have ab:=fZ h d.b;by_cases h0:MX d t
 ·have am:=h0;obtain⟨ah,ar,au,ax,ay⟩:=am;rw[decide_eq_true ah]at hr;rw[decide_eq_true ar]at aa;rw[decide_eq_true au]at ab;(have az:(s.n:Int)≤t.legs:=by omega);(have aw:s.n≤2:=by unfold EN at ah;omega);(repeat'(first|refine Ba ?_|(apply AE;(iterate 3 exact F);apply Ci (e:=42);exact F;intro b2)|(apply AE;(iterate 3 exact F);apply Ci (e:=24);exact F;intro b3)|refine Eo ?_|(refine Ac ?_;first|(refine Ma ?_)|(apply Aw;exact F;exact Ab func71;(first|exact aa|exact ab)))|(refine Y ?_ ?_<;>intro hc<;>try omega)|refine AF ?_|(refine AG ?_ ?_<;>intro hc<;>try omega)|fail));(all_goals(try(exfalso;simp at hc;done)));(all_goals try omega);refine Bg (X:=Nat×U) (λx=>x.1≤s.n∧V h x.2∧∀y∈d.ls.take x.1,DS y) (λx=>s.n-x.1) (λx=>[(46,O x.1),(45,O s.n),(44,.slice s.A s.n s.c),(2,DP b2),(3,DP b3)]) (λ_=>[Ap b2 42 (Nw s d),Ap b3 24 (Mw t)]) (λx=>x.2) (0,h) ⟨Ah,V.refl _,An⟩ Af Ad rfl ?_;rintro⟨k,h1⟩ ⟨ae,l,g⟩ a;dsimp only at ae l g a ⊢;by_cases f:k<s.n
  ·have a1:=hx.addrD f;have c1:Au h1 ((addrD s.A).add (k*ID.size)) (Cc (d.ls.getD k AV)):=(hx.cellsD AV f).le l;have al:=BY AV (xs:=d.ls) ao f;have hm:=Ce AV (show k<d.ls.length by omega);generalize d.ls.getD k AV=x at *;have hck:=yF h1 x;by_cases p:DS x
   ·rw[if_pos p]at hck
    have h3:=λh' (j:V h1 h')=>a (k+1,h') ⟨Ah,l.trans j,λy hy=>by
     rw[al,AO,Bk]at hy;rcases hy with hy|rfl;{exact g y hy}
     ·exact p⟩ Ah
    clear a;(repeat'(first|refine Ba ?_|(apply AE;(iterate 3 exact F);apply Bo (e:=38);exact F;intro r)|refine BF ?_|refine Z Bf ?_|refine Z BN ?_|(refine Ac ?_;first|(apply AR;exact F;exact Ab func35;exact hck;rintro av h2 ag rfl))|(refine Y ?_ ?_<;>intro hc<;>try omega)|fail))
    all_goals first
     |(exfalso;simp at hc;done)
     |omega
     |(
        have w:=h3 _ ag
        refine AB Af Ad w)
   ·rw[if_neg p]at hck;have c:=v h0 x hm p;clear a q;(repeat'(first|refine Ba ?_|(apply AE;(iterate 3 exact F);apply Bo (e:=38);exact F;intro r)|refine BF ?_|refine Z Bf ?_|refine Z BN ?_|(refine Ac ?_;first|(apply AR;exact F;exact Ab func35;exact hck;rintro av h2 ag rfl))|(refine Y ?_ ?_<;>intro hc<;>try omega)|fail))
    all_goals first
     |(exfalso;simp at hc;done)
     |omega
     |(exact BL rfl rfl rfl (by rw[c]))
  ·rw[By J]at g;clear a v ac;have z:=hlg h0 g;have ad:(∀i,i<s.n→KL d i (d.ls.getD i AV))→ai=0:=λk=>q.2 ⟨h0,g,λi hi=>k i J⟩;clear q hlg;(repeat'(first|refine Aa ?_|(refine Y ?_ ?_<;>intro hc<;>try omega)|fail));(all_goals try omega);refine Bg (X:=Nat) (λk=>k≤s.n∧∀i,i<k→KL d i (d.ls.getD i AV)) (λk=>s.n-k) (λk=>[(59,O k),(58,O s.n),(57,.slice s.A s.n s.c),(2,DP b2),(3,DP b3)]) (λ_=>[Ap b2 42 (Nw s d),Ap b3 24 (Mw t)]) (λ_=>h1) 0 ⟨J,λi hi=>absurd hi J⟩ Af Ad rfl ?_;rintro k ⟨ae,hL⟩ a;by_cases f:k<s.n
   ·have a1:=hx.addrD f;have c1:Au h1 ((addrD s.A).add (k*ID.size)) (Cc (d.ls.getD k AV)):=(hx.cellsD AV f).le l;have c0:Au h1 ((addrD s.A).add (0*ID.size)) (Cc (d.ls.getD 0 AV)):=(hx.cellsD AV (show 0<s.n by omega)).le l;(have ak:d.ls.getD 0 AV=d.ls.headD AV:=by cases d.ls<;>rfl);have af:=kG h1 s d t k;have m:=z k J
    have h3:=λ(j:KL d k (d.ls.getD k AV))=>a (k+1) ⟨J,λi hi=>by
     by_cases e:i=k;{rw[e];exact j}
     ·exact hL i J⟩ J
    rw[ak]at c0;unfold KL at h3 m;generalize d.ls.headD AV=y0 at *;generalize d.ls.getD k AV=x at *;have hsc:=iF h1 x y0;generalize MI d k=aq at *;generalize MH d k=lb at *;clear a hL z;by_cases o:x.g.h=aq∧x.g.a=lb∧8≤x.g.c∧DM x y0
    ·have w:=h3 o;obtain⟨l1,l2,l3,ap⟩:=o;rw[decide_eq_true ap]at hsc;clear h3 m;(repeat'(first|refine Ba ?_|(apply AE;(iterate 3 exact F);apply Bo (e:=38);exact F;intro r)|(apply AE;(iterate 3 exact F);apply Bo (e:=36);exact F;intro aj)|refine BF ?_|refine Z Bf ?_|refine Z BN ?_|(refine Ac ?_;first|(apply Aw;exact F;exact Ab func72;exact af))|(apply AU (n:=15) 24 [0,1,2,3,4,5,6,7,8,9,10,11,12,13,14,15,16,17,18,19,20,99,21,99,22,23];kernel_rfl)|(apply Be;exact Bd;(first|exact TT|(apply BA;exact F;exact BH rfl c0 rfl));exact AX)|(refine Bn ?_;first|(apply Aw;exact F;exact Ab func40;exact hsc;refine⟨V.refl _,Ak,?_⟩))|(refine Db ?_ ?_<;>intro hc<;>try omega)|(refine Y ?_ ?_<;>intro hc<;>try omega)|fail))
     all_goals first
      |(exfalso;simp at hc;done)
      |omega
      |(refine AB Af Ad w)
    ·have c:=m o;clear h3 m;(repeat'(first|refine Ba ?_|(apply AE;(iterate 3 exact F);apply Bo (e:=38);exact F;intro r)|(apply AE;(iterate 3 exact F);apply Bo (e:=36);exact F;intro aj)|refine BF ?_|refine Z Bf ?_|refine Z BN ?_|(refine Ac ?_;first|(apply Aw;exact F;exact Ab func72;exact af))|(apply AU (n:=15) 24 [0,1,2,3,4,5,6,7,8,9,10,11,12,13,14,15,16,17,18,19,20,99,21,99,22,23];kernel_rfl)|(apply Be;exact Bd;(first|exact TT|(apply BA;exact F;exact BH rfl c0 rfl));exact AX)|(refine Bn ?_;first|(apply Aw;exact F;exact Ab func40;exact hsc;refine⟨V.refl _,Ak,?_⟩))|(refine Db ?_ ?_<;>intro hc<;>try omega)|(refine Y ?_ ?_<;>intro hc<;>try omega)|(apply KS;exact F;kernel_rfl;exact F;exact F)))
     all_goals first
      |(exact BL rfl rfl rfl (by rw[c]))
      |(exfalso;apply o;refine⟨?_,?_,?_,?_⟩<;>first|assumption|omega)
   ·have c:=ad λi hi=>hL i J;clear a ad z;(repeat'(first|refine Aa ?_|(refine Y ?_ ?_<;>intro hc<;>try omega)|fail))
    all_goals first
     |omega
     |(exact BL rfl rfl rfl (by rw[c]))
 ·have c:=ac h0;clear ac v hlg q;(repeat'(first|refine Aa ?_|(refine Aj ?_;intro b)|(refine Ac ?_;first|(refine Ma ?_)|(apply Aw;exact F;exact Ab func71;(first|exact aa|exact ab)))|(refine Y ?_ ?_<;>intro hc<;>try omega)|refine AF ?_|(refine AG ?_ ?_<;>intro hc<;>try omega)|fail))
  all_goals first
   |(exact BL rfl rfl rfl (by rw[c]))
   |(exfalso;apply h0;refine⟨?_,?_,?_,?_,?_⟩<;>first|assumption|omega)
def Adg (h:U)(s:Ca)(d:Bv)(t:AT)(e:Js h (s,d)):Az prog 10 #[IN s d,GF t] h (λu _=>u=.tuple #[O (Mg d t).1,O (Mg d t).2]):=by
 refine BB func10 λ_ _=>?_;have hck:=yG h s d t e;have a:=NF (d:=d) (t:=t);unfold Mg;by_cases h0:Ie d t=0
 ·have c:=a.1 h0;have hw:=λh' (j:V h h')=>Tu h' s d t ((FM.of e c).le j);rw[h0]at hck;rw[if_neg (λk=>k h0)];cases g:Dd d t with
  |none=>
   obtain⟨q,hq⟩:=Oo g;rw[hq]at hw;dsimp only;clear a c;(repeat'(first|refine Aa ?_|(refine Aj ?_;intro b)|(refine Ac ?_;first|(refine PY ?_;rintro i h2 f rfl)|(refine pV ?_;rintro v3 h3 l rfl))|(refine Y ?_ ?_<;>intro hc<;>try omega)|fail))
   all_goals first
    |(exfalso;simp at hc;done)
    |omega
    |(exact EG rfl rfl rfl rfl rfl)
  |some w=>
   rw[QJ g]at hw;dsimp only;clear a c;(repeat'(first|refine Aa ?_|(refine Aj ?_;intro b)|(refine Ac ?_;first|(refine PY ?_;rintro i h2 f rfl)|(refine pV ?_;rintro v3 h3 l rfl))|(refine Y ?_ ?_<;>intro hc<;>try omega)|fail))
   all_goals first
    |(exfalso;simp at hc;done)
    |omega
    |(exact EG rfl rfl rfl rfl rfl)
 ·rw[if_pos h0];generalize Ie d t=m at *;clear a;(repeat'(first|refine Aa ?_|(refine Aj ?_;intro b)|(refine Ac ?_;first|(refine PY ?_;rintro i h2 f rfl))|(refine Y ?_ ?_<;>intro hc<;>try omega)|fail))
  all_goals first
   |omega
   |(exact EG rfl rfl rfl rfl rfl)
end Go.Hw
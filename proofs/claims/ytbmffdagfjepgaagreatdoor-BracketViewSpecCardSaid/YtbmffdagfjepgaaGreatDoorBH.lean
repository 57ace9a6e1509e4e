import Derived.Test.YtbmffdagfjepgaaGreatDoorBF
import Derived.Test.YtbmffdagfjepgaaGreatDoorBD
set_option linter.all false
set_option maxRecDepth 100000
set_option maxHeartbeats 8000000
namespace Go.Hw
open Go
attribute [local irreducible] AI Bz BV Aq AP Az Au CH Ap Ar BG Cm BP Dg
open Go.Proofs.Tryz
def Avk (h:U)(a b:Ca)(d:Bv)(hp:Js h (a,d))(hq:Js h (b,d))(hn:a.n≤4611686018427387904):Aq prog 27 #[IN a d,IN b d] h (.bool true):=by
 refine AK func27 λ_ _=>?_;have hx:=hp.1;have hy:=hq.1;dsimp only at hx hy;have m:=hx.len;have o:=hy.len;(have l:a.n=b.n:=by omega);(repeat'(first|refine Ba ?_|((fail_if_success (have:=b2));apply AE;(iterate 3 exact F);apply Ci (e:=42);exact F;intro b2)|(apply AE;(iterate 3 exact F);apply Ci (e:=42);exact F;intro b3)|refine Eo ?_|(refine Y ?_ ?_<;>intro hc<;>try omega)|refine AF ?_|(refine AG ?_ ?_<;>intro hc<;>try omega)|fail));(all_goals try omega);refine Bg (X:=Nat) (λk=>k≤a.n) (λk=>a.n-k) (λk=>[(5,O k),(2,DP b2),(3,DP b3)]) (λ_=>[Ap b2 42 (Nw a d),Ap b3 42 (Nw b d)]) (λ_=>h) 0 J Af Ad rfl ?_;rintro k i c;by_cases f:k<a.n
 ·have a1:=hx.addrD f;have a2:=hy.addrD (show k<b.n by omega);have c1:Au h ((addrD a.A).add (k*ID.size)) (Cc (d.ls.getD k AV)):=hx.cellsD AV f;have c2:Au h ((addrD b.A).add (k*ID.size)) (Cc (d.ls.getD k AV)):=hy.cellsD AV (show k<b.n by omega);generalize d.ls.getD k AV=x at *;have g:=c (k+1) J J;clear c;(repeat'(first|refine Aa ?_|(apply AU (n:=6) 11 [0,1,2,3,4,5,6,7,8,9,10];kernel_rfl)|(apply Be;exact Bd;(first|(apply Cs (j:=k) (n:=a.n);(iterate 5 exact F);exact a1;(with_reducible exact F);omega)|(apply Cs (j:=k) (n:=b.n);(iterate 5 exact F);exact a2;(with_reducible exact F);omega)|exact TU|(apply wG;(iterate 3 exact F);kernel_rfl;kernel_rfl));exact AX)|(refine Y ?_ ?_<;>intro hc<;>try omega)|fail))
  all_goals first
   |omega
   |(exfalso;simp at hc;done)
   |(refine AB Af Ad g)
 ·clear c;(repeat'(first|refine Aa ?_|(refine Y ?_ ?_<;>intro hc<;>try omega)|fail))
  all_goals first
   |omega
   |(exact BS rfl rfl rfl rfl)
def Aag {l:EH}{i:Nat}(hi:i<l.length):(rounds l)[i]?=some (AZ (l.getD i CA).2):=by unfold rounds;rw[FG,Dr,Bw hi];rfl
def Ax1 {l m:EH}(e:rounds l=rounds m){i:Nat}(hi:i<l.length):AZ (l.getD i CA).2=AZ (m.getD i CA).2:=by(have a:l.length=m.length:=by rw[←KG l,←KG m,e]);have h1:=Aag hi;have h2:=Aag (l:=m) (i:=i) J;rw[e,h2]at h1;exact(Od h1).symm
def Avj {l m:Fj}(e:AZ l=AZ m){i:Nat}(hi:i<l.length):(l.getD i BE).2=(m.getD i BE).2:=by(have a:l.length=m.length:=by rw[←GD l,←GD m,e]);(have h1:(AZ l)[i]?=some (l.getD i BE).2:=by{unfold AZ;rw[FG,Dr,Bw hi];rfl});(have h2:(AZ m)[i]?=some (m.getD i BE).2:=by{unfold AZ;rw[FG,Dr,Bw (show i<m.length by omega)];rfl});rw[e,h2]at h1;exact(Od h1).symm
def Aji (h:U)(s s':Ca)(l m:EH)(b:CQ)(d:HE h s l b)(f:HE h s' m b)(hs:Ms s l):Aq prog 8 #[Jh s b.t,Jh s' b.t] h (.bool true):=by
 refine AK func8 λ_ _=>?_;have g:=d.rs.row;have o:=f.rs.row;have ae:=g.len;have af:=o.len;(have e:rounds l=rounds m:=by rw[←d.is,←f.is]);have hsn:=hs.few;(have ao:s.n=s'.n:=by rw[←ae,←af,←KG l,←KG m,e]);generalize b.t=t at *;(repeat'(first|refine Ba ?_|((fail_if_success (have:=b2));apply AE;(iterate 3 exact F);apply Ci (e:=29);exact F;intro b2)|(apply AE;(iterate 3 exact F);apply Ci (e:=29);exact F;intro b3)|refine Eo ?_|(refine Z (by apply wG;(iterate 3 exact F);kernel_rfl;kernel_rfl) ?_)|(refine Y ?_ ?_<;>intro hc<;>try omega)|fail));(all_goals try omega);(all_goals(try(exfalso;simp at hc;done)));refine Bg (X:=Nat) (λk=>k≤s.n) (λk=>s.n-k) (λk=>[(5,O k),(2,DP b2),(3,DP b3)]) (λ_=>[Ap b2 29 (Ge s t),Ap b3 29 (Ge s' t)]) (λ_=>h) 0 J Af Ad rfl ?_;rintro i hi r;by_cases x:i<s.n
 ·have ra:=g.addrD x;have rb:=o.addrD (show i<s'.n by omega);have rc:Au h ((addrD s.A).add (i*JV.size)) (Ez (l.getD i CA)):=g.cellsD CA x;have rd:Au h ((addrD s'.A).add (i*JV.size)) (Ez (m.getD i CA)):=o.cellsD CA (show i<s'.n by omega);have a:=d.rs.each _ (Ce CA (show i<l.length by omega));have am:=hs.each _ (Ce CA (show i<l.length by omega));have ac:=hs.legs _ (Ce CA (show i<l.length by omega));have c:=f.rs.each _ (Ce CA (show i<m.length by omega));have v:=Ax1 e (show i<l.length by omega);generalize l.getD i CA=R at *;generalize m.getD i CA=Q at *;have ad:=a.1.row.len;have ab:=c.1.row.len;(have al:R.1.n=Q.1.n:=by rw[←ad,←ab,←GD R.2,←GD Q.2,v]);have z:=r (i+1) J J;clear r;(repeat'(first|refine Aa ?_|(apply AU (n:=6) 13 [0,1,2,3,4,5,6,7,8,9,10,11,12];kernel_rfl)|(apply Be;exact Bd;(first|exact Gx|exact pJ|(apply BA;exact F;first|exact BH rfl rc rfl|exact BH rfl rd rfl));exact AX)|(refine Y ?_ ?_<;>intro hc<;>try omega)|fail));(all_goals try omega);refine Bg (X:=Nat) (λk=>k≤R.1.n) (λk=>R.1.n-k) (λk=>[(6,O k),(5,O i),(2,DP b2),(3,DP b3)]) (λ_=>[Ap b2 29 (Ge s t),Ap b3 29 (Ge s' t)]) (λ_=>h) 0 J Af Ad rfl ?_;rintro k an u;by_cases y:k<R.1.n
  ·have a1:=a.1.row.addrD y;have a2:=c.1.row.addrD (show k<Q.1.n by omega);have c1:Au h ((addrD R.1.A).add (k*Iq.size)) (Dv (R.2.getD k BE)):=a.1.row.cellsD BE y;have c2:Au h ((addrD Q.1.A).add (k*Iq.size)) (Dv (Q.2.getD k BE)):=c.1.row.cellsD BE (show k<Q.1.n by omega);have hd1:=a.1.each _ (Ce BE (show k<R.2.length by omega));have hd2:=c.1.each _ (Ce BE (show k<Q.2.length by omega));have ag:=ac _ (Ce BE (show k<R.2.length by omega));have w:=Avj v (show k<R.2.length by omega);generalize R.2.getD k BE=p at *;generalize Q.2.getD k BE=q at *;obtain⟨ai,aj⟩:=p;obtain⟨ak,ap⟩:=q;dsimp only at w;subst w;have ah:=Avk h ai ak aj hd1 hd2 ag;have aa:=u (k+1) J J;clear u z;(repeat'(first|refine Aa ?_|refine Z Gx ?_|refine Z qQ ?_|(apply AU (n:=11) 18 [0,1,2,3,4,5,6,7,8,9,10,11,12,13,14,15,99,16,99,17];kernel_rfl)|(apply Be;exact Bd;(first|exact Gx|exact pJ|exact Xc|(apply Cs (j:=k) (n:=Q.1.n);(iterate 5 exact F);exact a2;(with_reducible exact F);omega)|exact qQ);exact AX)|(refine Bn ?_;first|(apply Aw;exact F;exact Ab func27;exact ah;refine⟨V.refl _,Ak,?_⟩))|(refine Y ?_ ?_<;>intro hc<;>try omega)|fail))
   all_goals first
    |omega
    |(exfalso;simp at hc;done)
    |(refine AB Af Ad aa)
  ·clear u;(repeat'(first|refine Aa ?_|refine Z Gx ?_|refine Z RQ ?_|(refine Y ?_ ?_<;>intro hc<;>try omega)|fail))
   all_goals first
    |omega
    |(refine AB Af Ad z)
 ·clear r;(repeat'(first|refine Aa ?_|(refine Y ?_ ?_<;>intro hc<;>try omega)|fail))
  all_goals first
   |omega
   |(exact BS rfl rfl rfl rfl)
def Atv {h:U}{s:Ca}{l:EH}{b:CQ}(a:HE h s l b)(k:DW b∨b.rs=[]):Ms s l:=by rcases k with k|k;{exact UW a k};{(have h1:rounds l=[]:=by rw[←a.is];exact k);(have h2:l=[]:=by cases l;rfl;cases h1);subst h2;have:=a.rs.row.len;simp at this;exact⟨J,λr hr=>(by cases hr),λr hr=>(by cases hr)⟩}
end Go.Hw
import Derived.Test.YtbmffdagfjepgaaGreatDoorNR2s
set_option linter.all false
set_option maxRecDepth 100000
set_option maxHeartbeats 4000000
namespace Go.Hw
open Go
attribute [local irreducible] AI Bz BV Aq AP Az Au CH Ap Ar BG Cm BP
open Go.Proofs.Tryz
def Aoz (h:U)(n a b:Int):Aq prog 173 #[O n,O a,O b] h (.bool (decide (a≤n∧n≤b))):=by refine AK func173 λ_ _=>?_;(repeat'(first|refine Aa ?_|refine AF ?_|(refine AG ?_ ?_<;>intro hc<;>try omega)|refine Bm ?_|fail));all_goals(refine Cv ?_;(try rw[GV]);grind)
def Asu (h:U)(n:Int):Aq prog 242 #[O n] h (.bool (decide (AY n 192))):=by refine AK func242 λ_ _=>?_;(repeat'(first|refine Aa ?_|(refine Ac ?_;first|(refine HW ?_))|refine Bm ?_|fail));all_goals(refine Cv ?_;rw[decide_eq_true_eq];unfold AY;omega)
def iD (h:U)(n:Int):Aq prog 178 #[O n] h (.bool (decide (AY n 8192))):=by refine AK func178 λ_ _=>?_;(repeat'(first|refine Aa ?_|(refine Ac ?_;first|(refine HW ?_))|refine Bm ?_|fail));all_goals(refine Cv ?_;rw[decide_eq_true_eq];unfold AY;omega)
def Ai7 (h:U)(n:Int):Aq prog 236 #[O n] h (.bool (decide (AY n 64))):=by refine AK func236 λ_ _=>?_;(repeat'(first|refine Aa ?_|(refine Ac ?_;first|(refine HW ?_))|refine Bm ?_|fail));all_goals(refine Cv ?_;rw[decide_eq_true_eq];unfold AY;omega)
def Asb (h:U)(n:Int):Aq prog 237 #[O n] h (.bool (decide (AY n 16))):=by refine AK func237 λ_ _=>?_;(repeat'(first|refine Aa ?_|(refine Ac ?_;first|(refine HW ?_))|refine Bm ?_|fail));all_goals(refine Cv ?_;rw[decide_eq_true_eq];unfold AY;omega)
def vP (h:U)(n:Int):Aq prog 243 #[O n] h (.bool (decide (AY n 100))):=by refine AK func243 λ_ _=>?_;(repeat'(first|refine Aa ?_|(refine Ac ?_;first|(refine HW ?_))|refine Bm ?_|fail));all_goals(refine Cv ?_;rw[decide_eq_true_eq];unfold AY;omega)
def ZE (h:U)(n:Int):Aq prog 101 #[O n] h (.bool (decide (AY n 1048577))):=by refine AK func101 λ_ _=>?_;(repeat'(first|refine Aa ?_|(refine Ac ?_;first|(refine HW ?_))|refine Bm ?_|fail));all_goals(refine Cv ?_;rw[decide_eq_true_eq];unfold AY;omega)
def zJ (h:U)(n:Int):Aq prog 240 #[O n] h (.bool (decide (0≤n∧n≤7))):=by refine AK func240 λ_ _=>?_;(repeat'(first|refine Aa ?_|(refine Ac ?_;first|(refine HW ?_))|refine Bm ?_|fail));all_goals rfl
def mA (h:U)(a b:Int):Aq prog 247 #[.agg (kZ a b).toArray] h (.bool (decide (IT a b))):=by refine AK func247 λ_ _=>?_;(repeat'(first|refine Aa ?_|(refine Aj ?_;intro b)|(refine Ac ?_;first|(apply Aw;exact F;exact Ab func101;exact ZE _ _))|refine AF ?_|(refine AG ?_ ?_<;>intro hc<;>try omega)|refine Bm ?_|fail));all_goals(refine Cv ?_;(try rw[GV]);unfold IT AY at *;grind)
def Sf (h:U)(g:AL):Aq prog 175 #[Di g] h (.bool (decide (DL g))):=by refine AK func175 λ_ _=>?_;(repeat'(first|refine Aa ?_|(refine Aj ?_;intro b)|(refine Ac ?_;first|(refine WR ?_)|(refine WP ?_)|(refine TR ?_))|refine AF ?_|(refine AG ?_ ?_<;>intro hc<;>try omega)|refine Bm ?_|fail));all_goals(refine Cv ?_;(try simp only[IE,Tc]);unfold DL;grind)
open Classical in
theorem lF (h:U)(A:At)(n c:Nat)(xs:AC)(hx:Ai AQ 1 h A n xs)(hn:n≤9223372036854775807) :
  Aq prog 239 #[.slice A n c] h (.bool (decide (Ns xs))):=by
 refine AK func239 λ_ _=>?_
 have o:=hx.len
 repeat'(first|refine Aa ?_|fail)
 refine Bg (X:=Nat) (λk=>1≤k∧(k≤n∨k=1)∧∀i,0<i→i<k→i<xs.length→xs.getD (i-1) 0<xs.getD i 0) (λk=>n+1-k) (λk=>[(3,O k),(0,.slice A n c)]) (λ_=>[]) (λ_=>h) 1 ⟨J,J,λi h0 h1=>by omega⟩ Af Ad rfl ?_
 rintro k ⟨m,l,a⟩ g
 by_cases b:k<n
 · have a1:=hx.addrD b
   have c1:=hx.cellsD 0 b
   have c2:=hx.cellsD 0 (show k-1<n by omega)
   have hs:=a k
   generalize d:xs.getD k 0=u at *
   generalize f:xs.getD (k-1) 0=v at *
   repeat'(first|refine Aa ?_|(apply AU (n:=4) 10 [0,1,2,3,4,5,6,7,8,9];kernel_rfl)|(apply Be;exact Bd;(first|exact Bf|(apply Cs (j:=k-1);(iterate 5 exact F);exact a1;omega;omega)|exact BN|exact KQ);exact AX)|(refine Y ?_ ?_<;>intro hc<;>try omega)|fail)
   · (first|(apply BS;(iterate 3 exact F)))
     rw[decide_eq_false];intro hh;have:=YN.1 hh k J J;omega
   · have h3:=g (k+1) ⟨J,J,λi h0 h1 h2=>by
      by_cases e:i=k
      · subst e;rw[d,f];assumption
      · exact a i h0 J h2⟩ J
     refine AB Af Ad h3
 · repeat'(first|refine Aa ?_|(refine Y ?_ ?_<;>intro hc<;>try omega)|refine Bm ?_|fail)
   rw[decide_eq_true];exact YN.2 λi h0 h1=>a i h0 J h1
def XE (h:U)(A:At)(n c:Nat)(xs:AC)(hx:Ai AQ 1 h A n xs)(hn:n≤9223372036854775807)(v:Int) :
  Aq prog 246 #[.slice A n c,O v] h (.bool (decide (v∈xs))):=by
 refine AK func246 λ_ _=>?_
 have f:=hx.len
 repeat'(first|refine Aa ?_|fail)
 refine Bg (X:=Nat) (λk=>k≤n∧v∉xs.take k) (λk=>n-k) (λk=>[(5,O k),(0,.slice A n c),(1,O v)]) (λ_=>[]) (λ_=>h) 0 ⟨J,An⟩ Af Ad rfl ?_
 rintro k ⟨j,a⟩ i
 by_cases b:k<n
 · have a1:=hx.addrD b
   have c1:=hx.cellsD 0 b
   have g:=BY 0 f b
   have hm:=Ce 0 (show k<xs.length by omega)
   generalize xs.getD k 0=u at *
   repeat'(first|refine Aa ?_|refine Z Bf ?_|refine Z BN ?_|(refine Y ?_ ?_<;>intro hc<;>try omega)|fail)
   all_goals first
    |((first|(apply BS;(iterate 3 exact F)));rw[decide_eq_true];(have e:v=u:=by omega);rw[e];exact hm)
    |(
       have h3:=i (k+1) ⟨J,by rw[g,AO,Bk];rintro(d|d);exact a d;omega⟩ J
       refine AB Af Ad h3)
 · repeat'(first|refine Aa ?_|(refine Y ?_ ?_<;>intro hc<;>try omega)|refine Bm ?_|fail)
   rw[By J]at a
   rw[decide_eq_false a]
open Classical in
theorem oQ (h:U)(A:At)(n c:Nat)(xs:AC)(hx:Ai AQ 1 h A n xs)(hn:n≤9223372036854775807)(lo hi:Int) :
  Aq prog 238 #[.slice A n c,O lo,O hi] h (.bool (decide (lo≤(xs.length:Int)∧(xs.length:Int)≤hi∧∀x∈xs,AY x 192))):=by
 refine AK func238 λ_ _=>?_
 have e:=hx.len
 repeat'(first|refine Aa ?_|fail)
 refine Bg (X:=Nat) (λk=>k≤n∧∀x∈xs.take k,AY x 192) (λk=>n-k) (λk=>[(7,O k),(0,.slice A n c),(1,O lo),(2,O hi)]) (λ_=>[]) (λ_=>h) 0 ⟨J,An⟩ Af Ad rfl ?_
 rintro k ⟨g,d⟩ b
 by_cases a:k<n
 · have a1:=hx.addrD a
   have c1:=hx.cellsD 0 a
   have f:=BY 0 e a
   have hm:=Ce 0 (show k<xs.length by omega)
   generalize xs.getD k 0=u at *
   repeat'(first|refine Aa ?_|refine Z Bf ?_|refine Z BN ?_|(refine Ac ?_;first|(refine TR ?_))|(refine Y ?_ ?_<;>intro hc<;>try omega)|fail)
   all_goals first
    |((first|(apply BS;(iterate 3 exact F)));rw[decide_eq_false];skip;grind)
    |(
       have h3:=b (k+1) ⟨J,by rw[f];intro x hx2;rw[AO,Bk]at hx2;grind⟩ J
       refine AB Af Ad h3)
 · rw[By J]at d
   clear b
   repeat'(first|refine Aa ?_|(refine Ac ?_;first|(refine HW ?_))|(refine Y ?_ ?_<;>intro hc<;>try omega)|fail)
   all_goals(first|(apply BS;(iterate 3 exact F)))
   all_goals(refine Cv ?_;skip;grind)
open Classical in
theorem vV (h:U)(A:At)(n c:Nat)(xs:AC)(hx:Ai AQ 1 h A n xs)(hn:n≤9223372036854775807) :
  Aq prog 244 #[.slice A n c] h (.bool (decide (Oc xs))):=by
 refine AK func244 λ_ _=>?_
 have e:=hx.len
 repeat'(first|refine Aa ?_|fail)
 refine Bg (X:=Nat) (λk=>k≤n∧∀x∈xs.take k,AY x 8192) (λk=>n-k) (λk=>[(3,O k),(0,.slice A n c)]) (λ_=>[]) (λ_=>h) 0 ⟨J,An⟩ Af Ad rfl ?_
 rintro k ⟨g,d⟩ b
 by_cases a:k<n
 · have a1:=hx.addrD a
   have c1:=hx.cellsD 0 a
   have f:=BY 0 e a
   have hm:=Ce 0 (show k<xs.length by omega)
   generalize xs.getD k 0=u at *
   repeat'(first|refine Aa ?_|refine Z Bf ?_|refine Z BN ?_|(refine Ac ?_;first|(apply Aw;exact F;exact Ab func178;exact iD _ _))|(refine Y ?_ ?_<;>intro hc<;>try omega)|fail)
   all_goals first
    |((first|(apply BS;(iterate 3 exact F)));rw[decide_eq_false];unfold Oc;grind)
    |(
       have h3:=b (k+1) ⟨J,by rw[f];intro x hx2;rw[AO,Bk]at hx2;grind⟩ J
       refine AB Af Ad h3)
 · rw[By J]at d
   clear b
   repeat'(first|refine Aa ?_|(refine Ac ?_;first|(apply Aw;exact F;exact Ab func239;exact lF _ _ _ _ xs hx hn))|(refine Y ?_ ?_<;>intro hc<;>try omega)|refine AF ?_|(refine AG ?_ ?_<;>intro hc<;>try omega)|fail)
   all_goals(first|(apply BS;(iterate 3 exact F)))
   all_goals(refine Cv ?_;unfold Oc;grind)
open Classical in
theorem oL (h:U)(A:At)(n c:Nat)(l:Fz)(hx:Ai Fk 2 h A n l)(hn:n≤9223372036854775807)(b:At)(m d:Nat)(a:AC)(hy:Ai AQ 1 h b m a)(hm:m≤9223372036854775807) :
  Aq prog 245 #[.slice A n c,.slice b m d] h (.bool (decide (Rp l a))):=by
 refine AK func245 λ_ _=>?_
 have i:=hx.len
 repeat'(first|refine Aa ?_|fail)
 refine Bg (X:=Nat) (λk=>k≤n∧∀x∈l.take k,x.p∈a) (λk=>n-k) (λk=>[(5,O k),(0,.slice A n c),(1,.slice b m d)]) (λ_=>[]) (λ_=>h) 0 ⟨J,An⟩ Af Ad rfl ?_
 rintro k ⟨o,g⟩ f
 by_cases e:k<n
 · have a1:=hx.addrD e
   have c1:=hx.cellsD De e
   have j:=BY De i e
   have p:=Ce De (show k<l.length by omega)
   generalize l.getD k De=u at *
   repeat'(first|refine Aa ?_|refine Z Bf ?_|refine Z Cb ?_|(refine Ac ?_;first|(apply Aw;exact F;exact Ab func246;exact XE _ _ _ _ a hy hm _))|(refine Y ?_ ?_<;>intro hc<;>try omega)|fail)
   all_goals first
    |((first|(apply BS;(iterate 3 exact F)));rw[decide_eq_false];unfold Rp;grind)
    |(
       have h3:=f (k+1) ⟨J,by rw[j];intro x hx2;rw[AO,Bk]at hx2;grind⟩ J
       refine AB Af Ad h3)
 · rw[By J]at g
   clear f
   repeat'(first|refine Aa ?_|(refine Y ?_ ?_<;>intro hc<;>try omega)|fail)
   all_goals(first|(apply BS;(iterate 3 exact F)))
   all_goals(refine Cv ?_;(try rw[GV]);unfold Rp;grind)
open Classical in
theorem Amm (h:U)(s:Bj)(hs:s.length≤9223372036854775807):Aq prog 241 #[.string (Cj s)] h (.bool (decide (NL s))):=by
 refine AK func241 λ_ _=>?_;have b:=RJ s;by_cases h0:s.length=0;{(repeat'(first|refine Aa ?_|(refine Y ?_ ?_<;>intro hc<;>try omega)|refine AF ?_|(refine AG ?_ ?_<;>intro hc<;>try omega)|fail));(all_goals(try(exfalso;rw[b]at *;omega)));(first|(apply BS;(iterate 3 exact F)));rw[decide_eq_false];rw[Nm];intro hh;omega};by_cases h1:24<s.length;{(repeat'(first|refine Aa ?_|(refine Y ?_ ?_<;>intro hc<;>try omega)|refine AF ?_|(refine AG ?_ ?_<;>intro hc<;>try omega)|fail));(all_goals(try(exfalso;rw[b]at *;omega)));(first|(apply BS;(iterate 3 exact F)));rw[decide_eq_false];rw[Nm];intro hh;omega};(repeat'(first|refine Aa ?_|(refine Z (by apply hN (s:=s) (j:=0);(iterate 5 exact F);omega) ?_)|(refine Y ?_ ?_<;>intro hc<;>try omega)|refine AF ?_|(refine AG ?_ ?_<;>intro hc<;>try omega)|fail));{(first|(apply BS;(iterate 3 exact F)));rw[decide_eq_false];rw[Nm];intro hh;omega};{(first|(apply BS;(iterate 3 exact F)));rw[decide_eq_false];rw[Nm];intro hh;omega}
 ·have hw:=Nm s;refine Bg (X:=Nat) (λk=>k≤s.length∧∀c∈s.take k,Lq c) (λk=>s.length-k) (λk=>[(3,O k),(0,.string (Cj s))]) (λ_=>[]) (λ_=>h) 0 ⟨J,An⟩ Af Ad rfl ?_;rintro k ⟨p,d⟩ n;by_cases e:k<s.length
  ·have m:=BY 0 rfl e;have hm:=Ce 0 e;have o:∀{C:Bu} {l:AW} {h:U} {t:TypeId} {x y:Operand} {T:Ay} {ty:TypeId} {pos:String} {aft:Cw} {gd:Cq} {dst:CK},AM t C.ts=some T→T.desc=.string→AJ l x=some (.string (Cj s))→AJ l y=some (O (k:Int))→DN C l [] h ⟨dst,.index t x y,ty,pos,aft,gd⟩ (.int .u8 ((s.getD k 0).toNat:Int)):=λhT i hx hy=>hN hT i hx hy rfl e;generalize s.getD k 0=u at *;have f:¬Lq u→¬NL s:=λh3 a=>h3 ((hw.1 a).2.2.2 u hm)
   have g:Lq u→∀c∈s.take (k+1),Lq c:=λh3 c a=>by
    rw[m,AO,Bk]at a;rcases a with a|a;{exact d c a};{rw[a];exact h3}
   unfold Lq at f g;(repeat'(first|refine Aa ?_|(refine Z (by apply o;(iterate 4 exact F)) ?_)|(refine Y ?_ ?_<;>intro hc<;>try omega)|refine AF ?_|(refine AG ?_ ?_<;>intro hc<;>try omega)|fail))
   all_goals first
    |(exfalso;rw[b]at *;omega)
    |((first|(apply BS;(iterate 3 exact F)));rw[decide_eq_false];apply f;omega)
    |(
       have h3:=n (k+1) ⟨J,g J⟩ J
       refine AB Af Ad h3)
  {rw[By J]at d;(repeat'(first|refine Aa ?_|(refine Y ?_ ?_<;>intro hc<;>try omega)|fail));(all_goals(try(exfalso;rw[b]at *;omega)));(first|(apply BS;(iterate 3 exact F)));rw[decide_eq_true];exact hw.2 ⟨J,J,⟨J,J⟩,d⟩}
open Classical in
theorem Aye (h:U)(s:AA)(x:Al)(hx:Ai AQ 1 h s.cl.A s.cl.n x.eClubs)(hn:s.cl.n≤9223372036854775807)(hr:x.eRules.length≤9223372036854775807):Aq prog 174 #[Py s x] h (.bool (decide (SB x))):=by refine AK func174 λ_ _=>?_;have a:=hx.len;(repeat'(first|refine Aa ?_|(refine Aj ?_;intro b)|(refine Ac ?_;first|(apply Aw;exact F;exact Ab func238;exact oQ _ _ _ _ x.eClubs hx hn 2 24)|(apply Aw;exact F;exact Ab func239;exact lF _ _ _ _ x.eClubs hx hn)|(apply Aw;exact F;exact Ab func241;exact Amm _ x.eRules hr)|(refine WR ?_)|(refine WP ?_)|(apply Aw;exact F;exact Ab func240;exact zJ _ _))|(refine Y ?_ ?_<;>intro hc<;>try omega)|refine AF ?_|(refine AG ?_ ?_<;>intro hc<;>try omega)|fail));(all_goals(first|(apply BS;(iterate 3 exact F))));(all_goals(clear hx hn hr;refine Cv ?_));(all_goals(try rw[Li,show(⟨#[]⟩:ByteArray).toList=[]from Li [],beq_iff_eq]));all_goals(unfold SB;unfold AY at *;grind)
open Classical in
theorem Ai4 (h:U)(s:AA)(x:DV)(hx:Ef h s x)(hs:Gg x):Aq prog 176 #[KV s x] h (.bool (decide (GZ x))):=by
 refine AK func176 λ_ _=>?_;obtain⟨l,m,n3,o⟩:=hx.small hs;have i:DL x.g→0≤x.g.c:=λhh=>hh.2.1.1;(repeat'(first|refine Aa ?_|(refine Aj ?_;intro b)|(refine Ac ?_;first|(apply Aw;exact F;exact Ab func175;exact Sf _ x.g)|(apply Aw;exact F;exact Ab func244;first|exact vV _ _ _ _ x.hs (hx.hs.le Ag) J|exact vV _ _ _ _ x.asn (hx.asn.le Ag) J)|(apply Aw;exact F;exact Ab func245;first|exact oL _ _ _ _ x.hc (hx.hc.le Ag) J _ _ _ x.hs (hx.hs.le Ag) J|exact oL _ _ _ _ x.ac (hx.ac.le Ag) J _ _ _ x.asn (hx.asn.le Ag) J)|(refine HW ?_)|(apply Aw;exact F;exact Ab func243;exact vP _ _)|(apply Aw;exact F;exact Ab func240;exact zJ _ _))|(refine Y ?_ ?_<;>intro hc<;>try omega)|refine AF ?_|(refine AG ?_ ?_<;>intro hc<;>try omega)|fail))
 all_goals first
  |((first|(apply BS;(iterate 3 exact F)));clear hx hs;refine Cv ?_;unfold GZ;unfold AY at *;grind)
  |(
     refine Bg (X:=Nat) (λk=>k≤s.hs.n∧∀p∈x.hs.take k,p∉x.asn) (λk=>s.hs.n-k) (λk=>[(4,O k),(1,AD b)]) (λ_=>[Ap b 57 (LZ s x)]) (λ_=>h) 0 ⟨J,An⟩ Af Ad rfl ?_
     rintro k ⟨j,d⟩ c
     have e:=hx.hs.len
     by_cases a:k<s.hs.n
     · have a1:=hx.hs.addrD a
       have c1:=hx.hs.cellsD 0 a
       have f:=BY 0 e a
       have hm:=Ce 0 (show k<x.hs.length by omega)
       generalize x.hs.getD k 0=u at *
       repeat'(first|refine Aa ?_|(apply AU (n:=11) 8 [0,1,2,3,4,5,6,99,7];kernel_rfl)|(apply Be;exact Bd;(first|exact Bf|exact BN);exact AX)|(refine Bn ?_;first|(apply Aw;exact F;exact Ab func246;exact XE _ _ _ _ x.asn hx.asn J _;refine⟨V.refl _,Ak,?_⟩))|(refine Y ?_ ?_<;>intro hc<;>try omega)|fail)
       all_goals first
        |((first|(apply BS;(iterate 3 exact F)));clear hx hs;rw[decide_eq_false];unfold GZ;grind)
        |(
           have h3:=c (k+1) ⟨J,by rw[f];intro z g;rw[AO,Bk]at g;grind⟩ J
           refine AB Af Ad h3)
     · rw[By J]at d
       clear c
       repeat'(first|refine Aa ?_|(refine Y ?_ ?_<;>intro hc<;>try omega)|fail)
       (first|(apply BS;(iterate 3 exact F)))
       clear hx hs
       rw[decide_eq_true]
       unfold GZ;unfold AY at *;grind)
def Cr.smallN {h:U}{s:AA}{x:Al}(a:Cr h s x)(b:Eu x):s.cl.n≤9223372036854775807∧s.lo.n≤9223372036854775807∧x.eRules.length≤9223372036854775807:=by obtain⟨_,_,_,_,c,d⟩:=a.small b;have:=b.2.2.2;omega
open Classical in
theorem Am5 (h:U)(s:AA)(x:Al)(hx:Ai AQ 1 h s.lo.A s.lo.n x.lO)(hn:s.lo.n≤9223372036854775807)(g:s.lo.n≤s.lo.c):Aq prog 179 #[Vz s x] h (.bool (decide (Si x))):=by
 refine AK func179 λ_ _=>?_;have q:=hx.len;(repeat'(first|refine Aa ?_|(refine Aj ?_;intro b)|fail));refine Bg (X:=Nat) (λk=>k≤s.lo.n∧(x.lO.take k).Nodup) (λk=>s.lo.n-k) (λk=>[(3,O k),(1,AD b)]) (λ_=>[Ap b 67 (BX (Vz s x))]) (λ_=>h) 0 ⟨J,An⟩ Af Ad rfl ?_;rintro k ⟨p,e⟩ l;by_cases d:k<s.lo.n
 ·have a1:=hx.addrD d;have c1:=hx.cellsD 0 d;have j:=BY 0 q d;have r:=hx.high (c:=s.lo.c) (show k≤s.lo.n by omega) g;have i:x.lO.Nodup→(x.lO.take (k+1)).Nodup:=λhh=>hh.sublist (List.take_sublist _ _);rw[j,Fm]at i;generalize x.lO.getD k 0=u at *;(repeat'(first|refine Aa ?_|(apply AU (n:=4) 10 [0,1,2,3,4,5,6,7,8,99,9];kernel_rfl)|(apply Be;exact Bd;(first|exact Bf|exact BN|(apply PA;(iterate 6 exact F);exact p;exact g));exact AX)|(refine Bn ?_;first|(apply Aw;exact F;exact Ab func246;exact XE _ _ _ _ (x.lO.take k) r J _;refine⟨V.refl _,Ak,?_⟩))|(refine Y ?_ ?_<;>intro hc<;>try omega)|fail))
  all_goals first
   |((first|(apply BS;(iterate 3 exact F)));rw[decide_eq_false];exactλhh=>(i hh.2.2.2).2.2 _ hc _ (Bk.2 rfl) rfl)
   |(
      have h3:=l (k+1) ⟨J,by rw[j,Fm];exact⟨e,An,λa o t f m=>by rw[Bk]at f;exact hc (by rw[←f,←m];exact o)⟩⟩ J
      refine AB Af Ad h3)
 {rw[By J]at e;clear l;(repeat'(first|refine Aa ?_|(refine Ac ?_;first|(apply Aw;exact F;exact Ab func238;exact oQ _ _ _ _ x.lO hx hn 2 24)|(refine WR ?_)|(refine WP ?_))|(refine Y ?_ ?_<;>intro hc<;>try omega)|refine AF ?_|(refine AG ?_ ?_<;>intro hc<;>try omega)|fail));(all_goals(first|(apply BS;(iterate 3 exact F))));all_goals(clear hx;refine Cv ?_;unfold Si;grind)}
open Classical in
theorem Aj2 (h:U)(r:Cu)(e:r.kind=1):Aq prog 177 #[Ew r] h (.bool (decide (Gm r))):=by refine AK func177 λ_ _=>?_;(have a:GO r = {EU r with g:=r.g,club:=r.club}:=by simp[GO,EU,DB,e]);have hg:=GY.eq_1 r;rw[e]at hg;(repeat'(first|refine AH ?_|(refine Z (by apply Ld;exact F;exact F;exact LY {EU r with g:=r.g,club:=r.club} r;kernel_rfl;kernel_rfl) ?_)|(refine Aj ?_;intro b)|(refine Ac ?_;first|(apply Aw;exact F;exact Ab func175;exact Sf _ r.g)|(refine HW ?_))|(refine Y ?_ ?_<;>intro hc<;>try omega)|refine AF ?_|(refine AG ?_ ?_<;>intro hc<;>try omega)|fail));(all_goals(first|(apply BS;(iterate 3 exact F))));all_goals(refine Cv ?_;unfold Gm;rw[a,hg];clear a hg;(try simp only[Fb,GV]);unfold AY at *;grind)
open Classical in
theorem Aj1 (h:U)(r:Cu)(e:r.kind=2):Aq prog 177 #[Ew r] h (.bool (decide (Gm r))):=by refine AK func177 λ_ _=>?_;(have a:GO r = {EU r with g:=r.g}:=by simp[GO,EU,DB,e]);have hg:=GY.eq_1 r;rw[e]at hg;(repeat'(first|refine AH ?_|(refine Z (by apply Ld;exact F;exact F;exact LY {EU r with g:=r.g} r;kernel_rfl;kernel_rfl) ?_)|(refine Aj ?_;intro b)|(refine Ac ?_;first|(apply Aw;exact F;exact Ab func175;exact Sf _ r.g)|(refine HW ?_))|(refine Y ?_ ?_<;>intro hc<;>try omega)|refine AF ?_|(refine AG ?_ ?_<;>intro hc<;>try omega)|fail));(all_goals(first|(apply BS;(iterate 3 exact F))));all_goals(refine Cv ?_;unfold Gm;rw[a,hg];clear a hg;(try simp only[Fb,GV]);unfold AY at *;grind)
open Classical in
theorem Aj0 (h:U)(r:Cu)(e:r.kind=3):Aq prog 177 #[Ew r] h (.bool (decide (Gm r))):=by refine AK func177 λ_ _=>?_;(have a:GO r = {EU r with g:=r.g,hg:=r.hg,ag:=r.ag}:=by simp[GO,EU,DB,e]);have hg:=GY.eq_1 r;rw[e]at hg;(repeat'(first|refine AH ?_|(refine Z (by apply Ld;exact F;exact F;exact LY {EU r with g:=r.g,hg:=r.hg,ag:=r.ag} r;kernel_rfl;kernel_rfl) ?_)|(refine Aj ?_;intro b)|(refine Ac ?_;first|(apply Aw;exact F;exact Ab func175;exact Sf _ r.g)|(refine HW ?_)|(apply Aw;exact F;exact Ab func243;exact vP _ _))|(refine Y ?_ ?_<;>intro hc<;>try omega)|refine AF ?_|(refine AG ?_ ?_<;>intro hc<;>try omega)|fail));(all_goals(first|(apply BS;(iterate 3 exact F))));all_goals(refine Cv ?_;unfold Gm;rw[a,hg];clear a hg;(try simp only[Fb,GV]);unfold AY at *;grind)
open Classical in
theorem Ajz (h:U)(r:Cu)(e:r.kind=4):Aq prog 177 #[Ew r] h (.bool (decide (Gm r))):=by refine AK func177 λ_ _=>?_;(have a:GO r = {EU r with club:=r.club,season:=r.season,comp:=r.comp,points:=r.points}:=by simp[GO,EU,DB,e]);have hg:=GY.eq_1 r;rw[e]at hg;(repeat'(first|refine AH ?_|(refine Z (by apply Ld;exact F;exact F;exact LY {EU r with club:=r.club,season:=r.season,comp:=r.comp,points:=r.points} r;kernel_rfl;kernel_rfl) ?_)|(refine Aj ?_;intro b)|(refine Ac ?_;first|(refine HW ?_)|(refine TR ?_)|(refine WR ?_)|(refine WP ?_))|(refine Y ?_ ?_<;>intro hc<;>try omega)|refine AF ?_|(refine AG ?_ ?_<;>intro hc<;>try omega)|fail));(all_goals(first|(apply BS;(iterate 3 exact F))));all_goals(refine Cv ?_;unfold Gm;rw[a,hg];clear a hg;(try simp only[Fb,GV]);unfold AY at *;grind)
open Classical in
theorem Ajy (h:U)(r:Cu)(e:r.kind=5):Aq prog 177 #[Ew r] h (.bool (decide (Gm r))):=by refine AK func177 λ_ _=>?_;(have a:GO r = {EU r with club:=r.club,lo:=r.lo,hi:=r.hi}:=by simp[GO,EU,DB,e]);have hg:=GY.eq_1 r;rw[e]at hg;(repeat'(first|refine AH ?_|(refine Z (by apply Ld;exact F;exact F;exact LY {EU r with club:=r.club,lo:=r.lo,hi:=r.hi} r;kernel_rfl;kernel_rfl) ?_)|(refine Aj ?_;intro b)|(refine Ac ?_;first|(apply Aw;exact F;exact Ab func247;exact mA _ r.lo r.hi)|(refine HW ?_)|(refine TR ?_))|(refine Y ?_ ?_<;>intro hc<;>try omega)|refine AF ?_|(refine AG ?_ ?_<;>intro hc<;>try omega)|fail));(all_goals(first|(apply BS;(iterate 3 exact F))));all_goals(refine Cv ?_;unfold Gm;rw[a,hg];clear a hg;(try simp only[Fb,GV]);unfold AY at *;grind)
open Classical in
theorem Ajx (h:U)(r:Cu)(e:r.kind=6):Aq prog 177 #[Ew r] h (.bool (decide (Gm r))):=by refine AK func177 λ_ _=>?_;(have a:GO r = {EU r with player:=r.player,lo:=r.lo,hi:=r.hi}:=by simp[GO,EU,DB,e]);have hg:=GY.eq_1 r;rw[e]at hg;(repeat'(first|refine AH ?_|(refine Z (by apply Ld;exact F;exact F;exact LY {EU r with player:=r.player,lo:=r.lo,hi:=r.hi} r;kernel_rfl;kernel_rfl) ?_)|(refine Aj ?_;intro b)|(refine Ac ?_;first|(apply Aw;exact F;exact Ab func247;exact mA _ r.lo r.hi)|(refine HW ?_)|(apply Aw;exact F;exact Ab func178;exact iD _ _))|(refine Y ?_ ?_<;>intro hc<;>try omega)|refine AF ?_|(refine AG ?_ ?_<;>intro hc<;>try omega)|fail));(all_goals(first|(apply BS;(iterate 3 exact F))));all_goals(refine Cv ?_;unfold Gm;rw[a,hg];clear a hg;(try simp only[Fb,GV]);unfold AY at *;grind)
open Classical in
theorem Ajw (h:U)(r:Cu)(e:r.kind=7):Aq prog 177 #[Ew r] h (.bool (decide (Gm r))):=by refine AK func177 λ_ _=>?_;(have a:GO r = {EU r with club:=r.club,amount:=r.amount}:=by simp[GO,EU,DB,e]);have hg:=GY.eq_1 r;rw[e]at hg;(repeat'(first|refine AH ?_|(refine Z (by apply Ld;exact F;exact F;exact LY {EU r with club:=r.club,amount:=r.amount} r;kernel_rfl;kernel_rfl) ?_)|(refine Aj ?_;intro b)|(refine Ac ?_;first|(refine HW ?_)|(refine TR ?_))|(refine Y ?_ ?_<;>intro hc<;>try omega)|refine AF ?_|(refine AG ?_ ?_<;>intro hc<;>try omega)|fail));(all_goals(first|(apply BS;(iterate 3 exact F))));all_goals(refine Cv ?_;unfold Gm;rw[a,hg];clear a hg;(try simp only[Fb,GV]);unfold AY at *;grind)
open Classical in
theorem Ajv (h:U)(r:Cu)(e:r.kind=8):Aq prog 177 #[Ew r] h (.bool (decide (Gm r))):=by refine AK func177 λ_ _=>?_;(have a:GO r=(EU r):=by simp[GO,EU,DB,e]);have hg:=GY.eq_1 r;rw[e]at hg;(repeat'(first|refine AH ?_|(refine Z (by apply Ld;exact F;exact F;exact LY (EU r) r;kernel_rfl;kernel_rfl) ?_)|(refine Aj ?_;intro b)|(refine Ac ?_;first|(refine HW ?_))|(refine Y ?_ ?_<;>intro hc<;>try omega)|refine AF ?_|(refine AG ?_ ?_<;>intro hc<;>try omega)|fail));(all_goals(first|(apply BS;(iterate 3 exact F))));all_goals(refine Cv ?_;unfold Gm;rw[a,hg];clear a hg;(try simp only[Fb,GV]);unfold AY at *;grind)
open Classical in
theorem Aju (h:U)(r:Cu)(a:¬(1≤r.kind∧r.kind≤8)):Aq prog 177 #[Ew r] h (.bool (decide (Gm r))):=by refine AK func177 λ_ _=>?_;have hg:=(gK r 0 0 a).2;(repeat'(first|refine AH ?_|(refine Aj ?_;intro b)|(refine Ac ?_;first|(refine HW ?_))|(refine Y ?_ ?_<;>intro hc<;>try omega)|refine AF ?_|(refine AG ?_ ?_<;>intro hc<;>try omega)|fail));(all_goals(first|(apply BS;(iterate 3 exact F))));all_goals(rw[decide_eq_false];exactλhh=>hg hh.2.2.2.2.1)
open Classical in
theorem Ajq (h:U)(r:Cu):Aq prog 177 #[Ew r] h (.bool (decide (Gm r))):=by by_cases a:1≤r.kind∧r.kind≤8;{(have:r.kind=1∨r.kind=2∨r.kind=3∨r.kind=4∨r.kind=5∨r.kind=6∨r.kind=7∨r.kind=8:=by omega);rcases this with e|e|e|e|e|e|e|e;{exact Aj2 h r e};{exact Aj1 h r e};{exact Aj0 h r e};{exact Ajz h r e};{exact Ajy h r e};{exact Ajx h r e};{exact Ajw h r e};{exact Ajv h r e}};{exact Aju h r a}
open Classical in
theorem Ar4 (h:U)(s:AA)(f:Al)(hf:Cr h s f)(hs:Eu f):Aq prog 102 #[BW s f] h (.bool (decide (EW f))):=by refine AK func102 λ_ _=>?_;obtain⟨c,d,e⟩:=hf.smallN hs;have a:=hf.lc;have hg:=EW.eq_1 f;(repeat'(first|refine Aa ?_|(refine Aj ?_;intro b)|(refine Ac ?_;first|(apply Aw;exact F;exact Ab func175;exact Sf _ f.fg)|(apply Aw;exact F;exact Ab func174;exact Aye _ s f hf.cl c e)|(apply Aw;exact F;exact Ab func176;exact Ai4 _ s f.sh hf.sh hs.1)|(apply Aw;exact F;exact Ab func177;exact Ajq _ f.ru)|(apply Aw;exact F;exact Ab func179;exact Am5 _ s f hf.lo d a)|(refine HW ?_)|(apply Aw;exact F;exact Ab func178;exact iD _ _))|(refine Y ?_ ?_<;>intro hc<;>try omega)|refine AF ?_|(refine AG ?_ ?_<;>intro hc<;>try omega)|fail));(all_goals(first|(apply BS;(iterate 3 exact F))));all_goals(clear hf hs;refine Cv ?_;rw[hg];clear hg;(try simp only[Fb]);unfold AY at *;grind)
def Al1 (h:U)(s:AA)(f:Al)(e:f.kind=1):Aq prog 103 #[BW s f] h (BW {CP with cl:=s.cl} {Cg f with eS:=f.eS,eC:=f.eC,eClubs:=f.eClubs,eRules:=f.eRules}):=by refine AK func103 λ_ _=>?_;(repeat'(first|refine AH ?_|(refine Aj ?_;intro b)|(refine Y ?_ ?_<;>intro hc<;>try omega)|fail));exact Ha rfl rfl rfl Bc rfl rfl rfl
def Al0 (h:U)(s:AA)(f:Al)(e:f.kind=2):Aq prog 103 #[BW s f] h (BW CP {Cg f with fg:=f.fg,venue:=f.venue}):=by refine AK func103 λ_ _=>?_;(repeat'(first|refine AH ?_|(refine Aj ?_;intro b)|(refine Y ?_ ?_<;>intro hc<;>try omega)|fail));exact Ha rfl rfl rfl Bc rfl rfl rfl
def Alz (h:U)(s:AA)(f:Al)(e:f.kind=3):Aq prog 103 #[BW s f] h (BW {CP with hs:=s.hs,asn:=s.asn,hc:=s.hc,ac:=s.ac} {Cg f with sh:=f.sh}):=by refine AK func103 λ_ _=>?_;(repeat'(first|refine AH ?_|(refine Aj ?_;intro b)|(refine Y ?_ ?_<;>intro hc<;>try omega)|fail));exact Ha rfl rfl rfl Bc rfl rfl rfl
def Aly (h:U)(s:AA)(f:Al)(e:f.kind=4):Aq prog 103 #[BW s f] h (BW CP {Cg f with ru:=f.ru}):=by refine AK func103 λ_ _=>?_;(repeat'(first|refine AH ?_|(refine Aj ?_;intro b)|(refine Y ?_ ?_<;>intro hc<;>try omega)|fail));exact Ha rfl rfl rfl Bc rfl rfl rfl
def Alx (h:U)(s:AA)(f:Al)(e:f.kind=5):Aq prog 103 #[BW s f] h (BW CP {Cg f with aCase:=f.aCase,aInst:=f.aInst,aSusp:=f.aSusp}):=by refine AK func103 λ_ _=>?_;(repeat'(first|refine AH ?_|(refine Aj ?_;intro b)|(refine Y ?_ ?_<;>intro hc<;>try omega)|fail));exact Ha rfl rfl rfl Bc rfl rfl rfl
def Alw (h:U)(s:AA)(f:Al)(e:f.kind=6):Aq prog 103 #[BW s f] h (BW CP {Cg f with mP:=f.mP,mTo:=f.mTo}):=by refine AK func103 λ_ _=>?_;(repeat'(first|refine AH ?_|(refine Aj ?_;intro b)|(refine Y ?_ ?_<;>intro hc<;>try omega)|fail));exact Ha rfl rfl rfl Bc rfl rfl rfl
def Alv (h:U)(s:AA)(f:Al)(e:f.kind=7):Aq prog 103 #[BW s f] h (BW {CP with lo:=s.lo} {Cg f with lS:=f.lS,lC:=f.lC,lO:=f.lO}):=by refine AK func103 λ_ _=>?_;(repeat'(first|refine AH ?_|(refine Aj ?_;intro b)|(refine Y ?_ ?_<;>intro hc<;>try omega)|fail));exact Ha rfl rfl rfl Bc rfl rfl rfl
def Alu (h:U)(s:AA)(f:Al)(e:f.kind=8):Aq prog 103 #[BW s f] h (BW CP {Cg f with void:=f.void}):=by refine AK func103 λ_ _=>?_;(repeat'(first|refine AH ?_|(refine Aj ?_;intro b)|(refine Y ?_ ?_<;>intro hc<;>try omega)|fail));exact Ha rfl rfl rfl Bc rfl rfl rfl
def Alt (s:AA)(f:Al)(hs:Eu f)(c:1≤f.kind∧f.kind≤8):∃s',((∀h',Cr h' s f→Cr h' s' (HZ f))∧Eu (HZ f))∧∀h,Aq prog 103 #[BW s f] h (BW s' (HZ f)):=by have mk:∀{s':AA} {x:Al},x=HZ f→((∀h',Cr h' s f→Cr h' s' x)∧Eu x)→(∀h,Aq prog 103 #[BW s f] h (BW s' x))→∃s',((∀h',Cr h' s f→Cr h' s' (HZ f))∧Eu (HZ f))∧∀h,Aq prog 103 #[BW s f] h (BW s' (HZ f)):=λe a b=>⟨_,e▸a,e▸b⟩;(have:f.kind=1∨f.kind=2∨f.kind=3∨f.kind=4∨f.kind=5∨f.kind=6∨f.kind=7∨f.kind=8:=by omega);rcases this with e|e|e|e|e|e|e|e;{exact mk (s':={CP with cl:=s.cl}) (x:={Cg f with eS:=f.eS,eC:=f.eC,eClubs:=f.eClubs,eRules:=f.eRules}) Jr (⟨λh' a=>⟨⟨Ai.nil,Ai.nil,Ai.nil,Ai.nil⟩,a.cl,Ai.nil,rfl,BU _⟩,Kl,hs.2.1,by simp[Cg,BQ],hs.2.2.2⟩) (λh=>Al1 h s f e)};{exact mk (s':=CP) (x:={Cg f with fg:=f.fg,venue:=f.venue}) Jr (⟨λh' a=>⟨Ef.nil h',Ai.nil,Ai.nil,rfl,BU _⟩,Kl,by simp[Cg,BQ],by simp[Cg,BQ],by simp[Cg,BQ]⟩) (λh=>Al0 h s f e)};{exact mk (s':={CP with hs:=s.hs,asn:=s.asn,hc:=s.hc,ac:=s.ac}) (x:={Cg f with sh:=f.sh}) Jr (⟨λh' a=>⟨⟨a.sh.hs,a.sh.asn,a.sh.hc,a.sh.ac⟩,Ai.nil,Ai.nil,rfl,BU _⟩,hs.1,by simp[Cg,BQ],by simp[Cg,BQ],by simp[Cg,BQ]⟩) (λh=>Alz h s f e)};{exact mk (s':=CP) (x:={Cg f with ru:=f.ru}) Jr (⟨λh' a=>⟨Ef.nil h',Ai.nil,Ai.nil,rfl,BU _⟩,Kl,by simp[Cg,BQ],by simp[Cg,BQ],by simp[Cg,BQ]⟩) (λh=>Aly h s f e)};{exact mk (s':=CP) (x:={Cg f with aCase:=f.aCase,aInst:=f.aInst,aSusp:=f.aSusp}) Jr (⟨λh' a=>⟨Ef.nil h',Ai.nil,Ai.nil,rfl,BU _⟩,Kl,by simp[Cg,BQ],by simp[Cg,BQ],by simp[Cg,BQ]⟩) (λh=>Alx h s f e)};{exact mk (s':=CP) (x:={Cg f with mP:=f.mP,mTo:=f.mTo}) Jr (⟨λh' a=>⟨Ef.nil h',Ai.nil,Ai.nil,rfl,BU _⟩,Kl,by simp[Cg,BQ],by simp[Cg,BQ],by simp[Cg,BQ]⟩) (λh=>Alw h s f e)};{exact mk (s':={CP with lo:=s.lo}) (x:={Cg f with lS:=f.lS,lC:=f.lC,lO:=f.lO}) Jr (⟨λh' a=>⟨⟨Ai.nil,Ai.nil,Ai.nil,Ai.nil⟩,Ai.nil,a.lo,rfl,a.lc⟩,Kl,by simp[Cg,BQ],hs.2.2.1,by simp[Cg,BQ]⟩) (λh=>Alv h s f e)};{exact mk (s':=CP) (x:={Cg f with void:=f.void}) Jr (⟨λh' a=>⟨Ef.nil h',Ai.nil,Ai.nil,a.void,BU _⟩,Kl,by simp[Cg,BQ],by simp[Cg,BQ],by simp[Cg,BQ]⟩) (λh=>Alu h s f e)}
open Classical in
theorem fL (h:U)(s:AA)(f:Al)(hf:Cr h s f)(hs:Eu f):Aq prog 56 #[BW s f] h (O (if BT f then 0 else 70)):=by refine AK func56 λ_ _=>?_;have hco:=λh' (a:V h h')=>Ar4 h' s f (hf.le a) hs;by_cases c:1≤f.kind∧f.kind≤8;{obtain⟨s',⟨d,hsm⟩,g⟩:=Alt s f hs c;(repeat'(first|refine Aa ?_|(refine Aj ?_;intro b)|(apply AU (n:=1) 22 [0,1,99,2,99,3,4,5,6,99,7,99,8,9,10,11,99,12,99,13,14,15,16,18,99,17,19,99,20,21];kernel_rfl)|(refine Bn ?_;first|(apply Aw;exact F;exact Ab func102;exact hco _ Ag;refine⟨V.refl _,Ak,?_⟩)|(apply Aw;exact F;exact Ab func103;exact g _;refine⟨V.refl _,Ak,?_⟩)|(apply Aw;exact F;exact Ab func58;exact jA _ s' (HZ f) (d _ (hf.le Ag)) hsm s f (hf.le Ag) hs;refine⟨V.refl _,Ak,?_⟩)|(apply Aw;exact F;exact Ab func101;exact ZE _ _;refine⟨V.refl _,Ak,?_⟩))|(refine Db ?_ ?_<;>intro hc<;>try omega)|(refine Y ?_ ?_<;>intro hc<;>try omega)|(apply KS;exact F;kernel_rfl;exact F;exact F)));(all_goals(first|(apply BS;(iterate 3 exact F))));all_goals(first|(rw[if_pos (show BT f from by unfold BT;grind)];done)|(rw[if_neg (show¬BT f from by unfold BT;grind)];done))};{have hn:=(Pi f c).2;(have e:∀h',V h h'→Aq prog 102 #[BW s f] h' (.bool false):=λh' a=>by{have:=hco h' a;rwa [decide_eq_false hn]at this});(repeat'(first|refine Aa ?_|(refine Aj ?_;intro b)|(apply AU (n:=1) 22 [0,1,99,2,99,3,4,5,6,99,7,99,8,9,10,11,99,12,99,13,14,15,16,18,99,17,19,99,20,21];kernel_rfl)|(refine Bn ?_;first|(apply Aw;exact F;exact Ab func102;exact e _ Ag;refine⟨V.refl _,Ak,?_⟩)|(apply Aw;exact F;exact Ab func101;exact ZE _ _;refine⟨V.refl _,Ak,?_⟩))|(refine Db ?_ ?_<;>intro hc<;>try omega)|(refine Y ?_ ?_<;>intro hc<;>try omega)|(apply KS;exact F;kernel_rfl;exact F;exact F)));(all_goals(first|(apply BS;(iterate 3 exact F))));all_goals(rw[if_neg (show¬BT f fromλhh=>hn hh.2.2.1)])}
end Go.Hw
import Derived.Test.YtbmffdagfjepgaaGreatDoorBB
set_option linter.all false
set_option maxRecDepth 100000
set_option maxHeartbeats 8000000
namespace Go.Hw
open Go
attribute [local irreducible] AI Bz BV Aq AP Az Au CH Ap Ar BG Cm BP Dg
open Go.Proofs.Tryz
structure Ms (s:Ca) (l:EH):Prop where
 few:s.n≤100
 each:∀r∈l,r.1.n≤128
 legs:∀r∈l,∀p∈r.2,p.1.n≤4611686018427387904
def PF (l:EH)(i:Nat):(rounds l).getD i []=AZ (l.getD i CA).2:=by unfold rounds;rw[Dr,FG,Dr];cases l[i]?<;>rfl
def Ad5 (l:EH):(rounds l).headD []=AZ (l.getD 0 CA).2:=by cases l<;>rfl
def Auw (l:Fj)(k:Nat):AZ (l.take k)=(AZ l).take k:=by unfold AZ;exact Yi
def Atg (h:U)(s s':Ca)(d e:Bv):Aq prog 80 #[IN s d,IN s' e] h (.bool (decide (d.a=e.a∧d.b=e.b))):=by refine AK func80 λ_ _=>?_;(repeat'(first|refine Aa ?_|(refine Aj ?_;intro b)|refine AF ?_|(refine AG ?_ ?_<;>intro hc<;>try omega)|refine Bm ?_|fail));all_goals(refine Cv ?_;(try rw[Fb]);grind)
def Aqe (h:U)(A g:At)(n c m e:Nat)(x y:Fj)(hx:Ai Dv 3 h A n x)(hy:Ai Dv 3 h g m y)(hn:n≤1000000)(hm:m≤1000000) :
  Aq prog 81 #[.slice A n c,.slice g m e,.func (.func 80) #[] #[]] h (.bool (decide (Fo (AZ x) (AZ y)))):=by
 refine AK func81 λ_ _=>?_
 have z:=hx.len
 have aa:=hy.len
 by_cases o:n=m
 · subst o
   repeat'(first|refine Aa ?_|(refine Y ?_ ?_<;>intro hc<;>try omega)|fail)
   all_goals try omega
   refine Bg (X:=Nat) (λk=>k≤n∧Fo (AZ (x.take k)) (AZ (y.take k))) (λk=>n-k) (λk=>[(17,O k),(16,O n),(15,.slice A n c),(1,.slice g n e),(2,.func (.func 80) #[] #[])]) (λ_=>[]) (λ_=>h) 0 ⟨J,rfl⟩ Af Ad rfl ?_
   rintro k ⟨ab,i⟩ j
   by_cases a:k<n
   · have a1:=hx.addrD a
     have a2:=hy.addrD a
     have c1:Au h ((addrD A).add (k*Iq.size)) (Dv (x.getD k BE)):=hx.cellsD BE a
     have c2:Au h ((addrD g).add (k*Iq.size)) (Dv (y.getD k BE)):=hy.cellsD BE a
     have s:=BY BE (xs:=x) z a
     have t:=BY BE (xs:=y) aa a
     have l:¬((x.getD k BE).2.a=(y.getD k BE).2.a∧(x.getD k BE).2.b=(y.getD k BE).2.b)→¬Fo (AZ x) (AZ y):=λq w=>q (by
      unfold Fo AZ at w
      rw[Nc,Nc]at w
      have:(x.map ((λd:Bv=>(d.a,d.b))∘λp=>p.2))[k]?=(y.map ((λd:Bv=>(d.a,d.b))∘λp=>p.2))[k]?:=by rw[w]
      rw[FG,FG,Bw (show k<x.length by omega),Bw (show k<y.length by omega)]at this
      rw[Dr,Dr,Bw (show k<x.length by omega),Bw (show k<y.length by omega)]
      simpa using this)
     generalize x.getD k BE=u at *
     generalize y.getD k BE=v at *
     have hv:=Atg h u.1 v.1 u.2 v.2
     by_cases b:u.2.a=v.2.a∧u.2.b=v.2.b
     · rw[decide_eq_true b]at hv
       have h3:=j (k+1) ⟨J,by
        rw[s,t,QT,QT]
        unfold Fo at i ⊢
        rw[DI,DI,i]
        simp[b.1,b.2]⟩ J
       clear j l
       repeat'(first|refine Ba ?_|(apply AE;(iterate 3 exact F);apply Bo (e:=42);exact F;intro r)|refine BF ?_|refine Z qH ?_|refine Z TU ?_|(refine Ac ?_;first|(apply Hb (f:=80) (fs:=[]) (cs:=[]);exact F;exact F;exact Ab func80;exact hv))|(refine Y ?_ ?_<;>intro hc<;>try omega)|fail)
       all_goals first
        |omega
        |(exfalso;simp at hc;done)
        |(refine AB Af Ad h3)
     · rw[decide_eq_false b]at hv
       rw[decide_eq_false (l b)]
       clear j l
       repeat'(first|refine Ba ?_|(apply AE;(iterate 3 exact F);apply Bo (e:=42);exact F;intro r)|refine BF ?_|refine Z qH ?_|refine Z TU ?_|(refine Ac ?_;first|(apply Hb (f:=80) (fs:=[]) (cs:=[]);exact F;exact F;exact Ab func80;exact hv))|(refine Y ?_ ?_<;>intro hc<;>try omega)|fail)
       all_goals first
        |omega
        |(exfalso;simp at hc;done)
        |(exact BS rfl rfl rfl rfl)
   · rw[By J,By J]at i
     rw[decide_eq_true i]
     clear j
     repeat'(first|refine Aa ?_|(refine Y ?_ ?_<;>intro hc<;>try omega)|fail)
     all_goals first
      |omega
      |(exact BS rfl rfl rfl rfl)
 · rw[decide_eq_false (λk=>o (by have:=Wr k;rw[GD,GD]at this;omega))]
   repeat'(first|refine Aa ?_|(refine Y ?_ ?_<;>intro hc<;>try omega)|fail)
   all_goals first
    |omega
    |(exact BS rfl rfl rfl rfl)
def Ao5 (h:U)(A:At)(n c:Nat)(l:CX)(hx:Ai Cc 13 h A n l)(hn:n≤1000000000)(f:FuncId)(fs cs:Ao)(p:BC→Bool)(hh:BP prog f)
  (hf:∀x∈l,Aq prog f (fs++[GE x]++cs).toArray h (.bool (p x))) :
  Aq prog 118 #[.slice A n c,.func (.func f) fs.toArray cs.toArray] h (O (Dz p l 0)):=by
 refine AK func118 λ_ _=>?_
 have e:=hx.len
 repeat'(first|refine Aa ?_|fail)
 refine Bg (X:=Nat) (λk=>k≤n∧Dz p (l.drop k) k=Dz p l 0) (λk=>n-k) (λk=>[(8,O k),(7,O n),(0,.slice A n c),(1,.func (.func f) fs.toArray cs.toArray)]) (λ_=>[]) (λ_=>h) 0 ⟨J,rfl⟩ Af Ad rfl ?_
 rintro k ⟨i,a⟩ g
 by_cases b:k<n
 · have a1:=hx.addrD b
   have c1:Au h ((addrD A).add (k*ID.size)) (Cc (l.getD k AV)):=hx.cellsD AV b
   have d:=Lt AV e b
   have hv:=hf _ (Ce AV (show k<l.length by omega))
   generalize l.getD k AV=x at *
   repeat'(first|refine Aa ?_|refine Z Bf ?_|refine Z BN ?_|(refine Ac ?_;first|(refine Qc ?_))|(refine Y ?_ ?_<;>intro hc<;>try omega)|refine Bm ?_|fail)
   · rw[←a,d,Dz,if_pos hc]
   · have h3:=g (k+1) ⟨J,by rw[←a,d,Dz,if_neg NS]⟩ J
     refine AB Af Ad h3
 · repeat'(first|refine Aa ?_|(refine Y ?_ ?_<;>intro hc<;>try omega)|refine Bm ?_|fail)
   rw[←a,show k=l.length by omega,Ok];rfl
def Ar6 (h:U)(A:At)(n c:Nat)(l:CX)(hx:Ai Cc 13 h A n l)(hn:n≤1000000000)(f:FuncId)(fs cs:Ao)(p:BC→Bool)(hh:BP prog f)
  (hf:∀x∈l,Aq prog f (fs++[GE x]++cs).toArray h (.bool (p x))) :
  Aq prog 82 #[.slice A n c,.func (.func f) fs.toArray cs.toArray] h (.bool (l.any p)):=by
 refine AK func82 λ_ _=>?_
 repeat'(first|refine Aa ?_|(refine Ac ?_;first|(apply Aw;exact F;exact Ab func118;exact Ao5 _ _ _ _ _ hx hn f fs cs p hh hf))|refine Bm ?_|fail)
 rw[ON];congr 1;rw[Lj,decide_eq_true_eq];exact Sv _ _ _
def Ate (h:U)(a:Nat)(A:At)(n c:Nat)(l:CX)(hx:Ai Cc 13 h A n l)(h0:0<n)(e:Au h (Av a) [.slice A n c])(x:BC):Aq prog 83 #[GE x,AD a] h (.bool (!decide (DM x (l.headD AV)))):=by refine AK func83 λ_ _=>?_;have a1:=hx.addrD h0;have c1:Au h ((addrD A).add (0*ID.size)) (Cc (l.getD 0 AV)):=hx.cellsD AV h0;(have d:l.getD 0 AV=l.headD AV:=by cases l<;>rfl);rw[d]at c1;generalize l.headD AV=y at *;have hsc:=iF h x y;(repeat'(first|refine Aa ?_|(refine Aj ?_;intro b)|(apply AU (n:=1) 7 [0,1,2,3,99,4,99,5,6];kernel_rfl)|(apply Be;exact Bd;(first|(apply BA;exact F;exact BH rfl e rfl)|exact TT|exact BN);exact AX)|(refine Bn ?_;first|(apply Aw;exact F;exact Ab func40;exact hsc;refine⟨V.refl _,Ak,?_⟩))|refine Bm ?_|fail));all_goals rfl
def XV (l:EH){i:Nat}(h:i<l.length):(rounds l).take (i+1)=(rounds l).take i++[AZ (l.getD i CA).2]:=by rw[LF,Bw (by rw[KG];exact h)];congr 1;rw[←PF,Dr,Bw (by rw[KG];exact h)];rfl
def Mk (l:Fj){j:Nat}(h:j<l.length):AZ (l.take (j+1))=AZ (l.take j)++[(l.getD j BE).2]:=by rw[LF,Bw h,Dr,Bw h];exact QT _ _
def gA {t:AT}{l:EH}{s:Ca}(hs:Ms s l){A:At}{h:U}(a:Mu h A s.n l){i:Nat}(hi:∀r∈(rounds l).take i,KC r t):(EA ((rounds l).take i)).length≤25600:=by
 have h1:=Anj (rs:=(rounds l).take i) (m:=128) (λr hr d b=>Sn (hi r hr d b).1) (λr hr=>by
  obtain⟨q,hq,e⟩:=CZ.1 (Mh hr);rw[←e,GD,(a.each q hq).1.row.len]
  exact hs.each q hq)
 (have h2:((rounds l).take i).length≤100:=by{rw[CF,KG,a.row.len];have:=hs.few;omega});have:2*128*((rounds l).take i).length≤2*128*100:=Nat.mul_le_mul_left _ h2;omega
def Aaj {t:AT}{l:CM}(b:∀d∈l,UT t d)(hn:l.length≤128):(GN l).length≤256:=by have:=Aak (l:=l) λd a=>Sn (b d a).1;omega
def Adm (l:CM)(d:Bv):Em (l++[d])=Em l++[d.a,d.b]:=by unfold Em;rw[Ep];simp
structure Ac8 (t:AT) (l:EH) (i:Nat):Prop where
 rounds:∀r∈(rounds l).take i,KC r t
 chain:∀j,j<i→Lb t (Hw.rounds l) j
open Classical in
theorem oO (h:U)(s:Ca)(l:EH)(t:AT)(av:Mu h s.A s.n l)(hs:Ms s l):Az prog 34 #[Jh s t] h (λu _=>u=.bool (decide (DW ⟨t,rounds l⟩))):=by
 refine BB func34 λ_ _=>?_;have ar:=av.row;have ch:=ar.len;have hn:=hs.few;(have bi:(rounds l).length=s.n:=by rw[KG,ch]);obtain⟨q,a6⟩:∃q:Bool,q=decide (DW ⟨t,rounds l⟩):=⟨_,rfl⟩;rw[←a6];have z:=λ(_:Unit)=>oI ⟨t,rounds l⟩;dsimp only at z;(have ac:¬DW ⟨t,rounds l⟩→q=false:=λk=>by rw[a6,decide_eq_false k]);(have hT:DW ⟨t,rounds l⟩→q=true:=λk=>by rw[a6,decide_eq_true k]);clear a6;have hr:=TG h t;by_cases a8:EN t
 case' neg=>
  rw[decide_eq_false a8]at hr
  have e:=ac λk=>a8 ((z ()).1 k).1
  clear z ac hT
  repeat'(first|refine Ba ?_|(apply fQ)|refine Eo ?_|(refine Aj ?_;intro b)|(refine Ac ?_;first|(refine Ma ?_))|(refine Y ?_ ?_<;>intro hc<;>try omega)|fail)
  all_goals first
   |(exfalso;simp at hc;done)
   |(exact BL rfl rfl rfl GG)
 rw[decide_eq_true a8]at hr;by_cases h0:s.n=0
 ·have e:=ac λk=>((z ()).1 k).2.1 (Fu J);clear z ac hT;(repeat'(first|refine Ba ?_|(apply fQ)|refine Eo ?_|(refine Aj ?_;intro b)|(refine Ac ?_;first|(refine Ma ?_))|(refine Y ?_ ?_<;>intro hc<;>try omega)|fail))
  all_goals first
   |(exfalso;simp at hc;done)
   |omega
   |(exact BL rfl rfl rfl GG)
 have hh:=Ad5 l;have ra:=ar.addrD (show 0<s.n by omega);have rc:Au h ((addrD s.A).add (0*JV.size)) (Ez (l.getD 0 CA)):=ar.cellsD CA (show 0<s.n by omega);have aq:=Ce CA (show 0<l.length by omega);have b0:=av.each _ aq;have ck:=hs.each _ aq;rw[hh]at z;generalize l.getD 0 CA=R0 at *;have az:=b0.1.row;have b8:=az.len;refine FN 3 1 ?_;(repeat'(first|refine Ba ?_|(apply fQ)|(apply AE;(iterate 3 exact F);apply Ci (e:=29);exact F;intro b1)|refine Eo ?_|refine Z Qd ?_|refine Z RQ ?_|(refine Ac ?_;first|(refine Ma ?_))|(refine Y ?_ ?_<;>intro hc<;>try omega)|fail));(all_goals try omega);(all_goals(try(exfalso;simp at hc;done)));refine Bg (X:=Nat×At×Nat×U) (λx=>x.1≤R0.1.n∧V h x.2.2.2) (λx=>R0.1.n-x.1) (λx=>[(33,O x.1),(32,O R0.1.n),(31,.slice R0.1.A R0.1.n R0.1.c),(3,.slice x.2.1 (2*x.1) x.2.2.1),(1,DP b1)]) (λx=>[Ap b1 29 (Ge s t),Ar 3 1 (.slice x.2.1 (2*x.1) x.2.2.1) (2*x.1) ((Em (AZ (R0.2.take x.1))).flatMap AQ)]) (λx=>x.2.2.2) (0,none,0,h) ⟨Ah,V.refl _⟩ Af Ad rfl ?_;rintro⟨k,b4,c1,h1⟩ ⟨bt,a4⟩ af;dsimp only at bt a4 af ⊢;(have bf:(Em (AZ (R0.2.take k))).length=2*k:=by rw[Ug,GD,CF];omega);by_cases bg:k<R0.1.n
 ·have a1:=az.addrD bg;have c7:Au h1 ((addrD R0.1.A).add (k*Iq.size)) (Dv (R0.2.getD k BE)):=(az.cellsD BE bg).le a4;have hsn:=Mk R0.2 (j:=k) J;generalize R0.2.getD k BE=p at *;have h3:=λA5 c5 h' (f:V h1 h')=>af (k+1,A5,c5,h') ⟨Ah,a4.trans f⟩ Ah;dsimp only at h3;rw[hsn,Adm]at h3;rw[show 2*(k+1)=2*k+2 by omega]at h3;generalize Em (AZ (R0.2.take k))=cs at *;clear af z ac hT hsn;(repeat'(first|refine Ba ?_|(apply AE;(iterate 3 exact F);apply Bo (e:=42);exact F;intro ay)|refine BF ?_|refine Z qC ?_|refine Z NV ?_|(refine Ac ?_;first|(refine rW ?_;intro cu g ab hs5)|(refine Xp ?_;intro A5 c5))|(refine Y ?_ ?_<;>intro hc<;>try omega)|fail))
  all_goals first
   |omega
   |(
      have y:=h3 A5 c5 g ab
      refine AB Af Ad y)
 rw[By J]at bf ⊢;(have ek:k=R0.1.n:=by omega);subst ek;clear af;generalize cc:Em (AZ R0.2)=cs at *;refine EE (enc:=AQ) (e:=3) (sz:=1) (n:=2*R0.1.n) (xs:=cs) (λ_=>rfl) bf Bh ?_;intro cr c7 ad cg b7 ci hs7;cases b7;have hnew:=λh' (f:V ad h')=>SY h' b4 (2*R0.1.n) c1 cs t (hs7.le f) ci;have ce:V h ad:=a4.trans cg;generalize DA cs t=co at *;by_cases bh:co.2=0
 case' neg=>
  have e:=ac λk=>bh ((z ()).1 k).2.2.1
  clear z ac hT
  repeat'(first|refine Ba ?_|(apply AE;(iterate 3 exact F);apply Bo (e:=29);exact F;intro b6)|refine BF ?_|(refine Ac ?_;first|(refine qN ?_;rintro cq h2 bv ⟨cp,l2,rfl,bp⟩))|(refine Y ?_ ?_<;>intro hc<;>try omega)|fail)
  all_goals first
   |omega
   |(exact BL rfl rfl rfl GG)
 have bd:=λa b c=>hT ((z ()).2 ⟨a8,λk=>h0 (by rw[k]at bi;exact bi.symm),bh,a,b,c⟩)
 have bb:∀i,i<s.n→¬KC ((rounds l).getD i []) t→q=false:=λi hi k=>ac λw=>k (((z ()).1 w).2.2.2.1 _ (by
  rw[Dr,Bw (show i<(rounds l).length by omega)]
  exact Po _))
 have bc:∀i,i<s.n→¬Lb t (rounds l) i→q=false:=λi hi k=>ac λw=>k (((z ()).1 w).2.2.2.2.1 i J);have bn:∀x∈EA (rounds l),¬DM x ((EA (rounds l)).headD AV)→q=false:=λx hx k=>ac λw=>k (((z ()).1 w).2.2.2.2.2 x hx);clear z ac hT hh hs7 cc b0 az b8 rc ra aq ck bf bt bg;refine FN 38 13 ?_;(repeat'(first|refine Ba ?_|(apply AE;(iterate 3 exact F);apply Bo (e:=29);exact F;intro b6)|(apply AE;(iterate 3 exact F);apply Bo (e:=40);exact F;intro ag)|(apply A0k)|refine BF ?_|(refine Ac ?_;first|(refine qN ?_;rintro cq h2 bv ⟨cp,l2,rfl,bp⟩))|(refine Y ?_ ?_<;>intro hc<;>try omega)|fail));(all_goals try omega);have cf:V h h2:=ce.trans bv;clear hnew bp bh;refine Bg (X:=Nat×At×Nat×U) (λx=>x.1≤s.n∧V h x.2.2.2∧Ac8 t l x.1) (λx=>s.n-x.1) (λx=>[(57,O x.1),(56,O s.n),(55,.slice s.A s.n s.c),(8,DP ag),(1,DP b1)]) (λx=>[Ap b1 29 (Ge s t),Ap ag 40 [.slice x.2.1 (EA ((rounds l).take x.1)).length x.2.2.1],Ar 38 13 (.slice x.2.1 (EA ((rounds l).take x.1)).length x.2.2.1) (EA ((rounds l).take x.1)).length ((EA ((rounds l).take x.1)).flatMap Cc)]) (λx=>x.2.2.2) (0,none,0,h2) ⟨Ah,cf,⟨An,λj hj=>absurd hj Ah⟩⟩ Af Ad rfl ?_;rintro⟨i,A3,c3,h3⟩ ⟨hi,ap,aj⟩ af;dsimp only at hi ap aj af ⊢;have br:=gA hs av aj.rounds;by_cases a3:i<s.n
 case' neg=>
  rw[By J]at br ⊢
  have cx:i=s.n:=by omega
  have e1:∀r∈rounds l,KC r t:=λr hr=>aj.rounds r (by rw[By J];exact hr)
  have e2:∀j,j<(rounds l).length→Lb t (rounds l) j:=λj hj=>aj.chain j J
  have b':=bd e1 e2
  clear af aj bb bc bd e1 e2
  generalize EA (rounds l)=L at *
  refine EE (enc:=Cc) (e:=38) (sz:=13) (n:=L.length) (xs:=L) Gd rfl Bh ?_
  intro ct cv ah c2 a' c8 hs9
  cases a'
  refine Ii (b:=ag) (e:=40) (cs:=[.slice A3 L.length c3]) Bh ?_
  intro b9 bu ca
  have cb:∀h',V b9 h'→Aq prog 82 #[.slice A3 L.length c3,.func (.func 83) #[] #[AD ag]] h' (.bool (L.any λx=> !decide (DM x (L.headD AV)))):=λh' f=>
   Ar6 h' A3 L.length c3 L ((hs9.le bu).le f) J 83 [] [AD ag] _ (Ab func83) λx hx=>Ate h' ag A3 L.length c3 L ((hs9.le bu).le f) (Ayx hx) (ca.le f) x
  have cj:q = !(L.any λx=> !decide (DM x (L.headD AV))):=by
   by_cases be:∀x∈L,DM x (L.headD AV)
   · rw[b' be]
     symm
     rw[IE,Sr]
     intro x hx
     rw[decide_eq_true (be x hx)];simp
   · obtain⟨x,hx⟩:=Classical.not_forall.1 be
     obtain⟨hx1,hx2⟩:=Classical.not_imp.1 hx
     rw[bn x hx1 hx2]
     symm
     rw[hF,Uy]
     exact⟨x,hx1,by rw[decide_eq_false hx2];rfl⟩
  rw[cj]
  generalize(L.any λx=> !decide (DM x (L.headD AV)))=da at *
  repeat'(first|refine Aa ?_|refine Z Cb ?_|(refine Ac ?_;first|(apply Aw;exact F;exact Ab func82;exact cb _ Ag))|(refine Y ?_ ?_<;>intro hc<;>try omega)|fail)
  all_goals first
   |omega
   |(exact BL rfl rfl rfl rfl)
 have ra:=ar.addrD a3;have rc:Au h3 ((addrD s.A).add (i*JV.size)) (Ez (l.getD i CA)):=(ar.cellsD CA a3).le ap;have aq:=Ce CA (show i<l.length by omega);have ax:=(av.each _ aq).le ap;have cm:=hs.each _ aq;have bs:=PF l i;have cd:=PF l (i+1);have bj:=XV l (i:=i) J;have ai:=bb i a3;have aa:=bc i a3;rw[bs]at ai;generalize l.getD i CA=R at *;have cz:=ax.1.row.len;have bo:=ax.1.row
 have ak:=λA5 c5 h' (f:V h3 h') (hro:KC (AZ R.2) t) (hch:Lb t (rounds l) i)=>af (i+1,A5,c5,h') ⟨Ah,ap.trans f,⟨λr hr=>by
  dsimp only at hr;rw[bj,AO,Bk]at hr;rcases hr with hr|hr;{exact aj.rounds r hr}
  ·rw[hr];exact hro,λj hj=>by
  dsimp only at hj;by_cases e:j=i;{rw[e];exact hch}
  ·exact aj.chain j J⟩⟩ Ah
 dsimp only at ak;rw[bj,Acg]at ak;generalize EA ((rounds l).take i)=P at *;clear af aj bd bb bc bn bj;(repeat'(first|refine Aa ?_|refine Z Gx ?_|refine Z RQ ?_|(refine Y ?_ ?_<;>intro hc<;>try omega)|fail));(all_goals try omega);refine Bg (X:=Nat×At×Nat×U) (λx=>x.1≤R.1.n∧V h3 x.2.2.2∧∀d∈AZ (R.2.take x.1),UT t d) (λx=>R.1.n-x.1) (λx=>[(64,O x.1),(63,O R.1.n),(62,.slice R.1.A R.1.n R.1.c),(9,O i),(10,.slice R.1.A R.1.n R.1.c),(57,O i),(56,O s.n),(55,.slice s.A s.n s.c),(8,DP ag),(1,DP b1)]) (λx=>[Ap b1 29 (Ge s t),Ap ag 40 [.slice x.2.1 (P++GN (AZ (R.2.take x.1))).length x.2.2.1],Ar 38 13 (.slice x.2.1 (P++GN (AZ (R.2.take x.1))).length x.2.2.1) (P++GN (AZ (R.2.take x.1))).length ((P++GN (AZ (R.2.take x.1))).flatMap Cc)]) (λx=>x.2.2.2) (0,A3,c3,h3) ⟨Ah,V.refl _,λd v=>absurd v (by dsimp only;rw[Ia];simp[AZ])⟩ Af pK rfl ?_;rintro⟨j,bl,c4,y⟩ ⟨hj,ae,al⟩ an;dsimp only at hj ae al an ⊢;have bz:=Aaj al (by rw[GD,CF];omega);by_cases hjn:j<R.1.n
 ·have a1:=bo.addrD hjn;have c7:Au y ((addrD R.1.A).add (j*Iq.size)) (Dv (R.2.getD j BE)):=(bo.cellsD BE hjn).le ae;have hm:=Ce BE (show j<R.2.length by omega);have a2:=(ax.1.each _ hm).le ae;have hsn:=Mk R.2 (j:=j) J;generalize R.2.getD j BE=p at *;obtain⟨ps,pd⟩:=p;have hck:=yG y ps pd t a2;have au:=NF (d:=pd) (t:=t);have bx:pd∈AZ R.2:=CZ.2 ⟨_,hm,rfl⟩;have bq:=a2.len;dsimp only at bq hsn;generalize Ie pd t=b5 at *;by_cases ba:b5=0
  case' neg=>
   have e:=ai λk=>ba (au.2 (k pd bx).1)
   clear an ak au ai aa
   repeat'(first|refine Ba ?_|(apply AE;(iterate 3 exact F);apply Bo (e:=42);exact F;intro ay)|refine BF ?_|refine Z NW ?_|refine Z NV ?_|(refine Ac ?_;first|(refine PY ?_;rintro v5 g ab rfl))|(refine Y ?_ ?_<;>intro hc<;>try omega)|fail)
   all_goals first
    |omega
    |(exact BL rfl rfl rfl GG)
  have a5:=au.1 ba;subst ba;have hwn:=λh' (f:V y h')=>Tu h' ps pd t ((FM.of a2 a5).le f);have c9:=Sn a5;have hsl:=a2.1;dsimp only at hsl
  have g:=λA5 c5 h' (f:V y h') (hfit:UT t pd)=>an (j+1,A5,c5,h') ⟨Ah,ae.trans f,λd v=>by
   dsimp only at v;rw[hsn,AO,Bk]at v;rcases v with v|rfl;{exact al d v}
   ·exact hfit⟩ Ah
  dsimp only at g;rw[hsn,Ach,←Ck]at g;(have cy:(P++GN (AZ (R.2.take j))).length≤30000:=by rw[Bt];omega);generalize P++GN (AZ (R.2.take j))=Q at *;(have a':(Q++pd.ls).length=Q.length+ps.n:=by rw[Bt,bq]);rw[a']at g;(have hq63:Q.length+ps.n≤1000000000:=by omega);cases a9:Dd pd t with
  |none=>
   obtain⟨w,hw⟩:=Oo a9;rw[hw]at hwn;by_cases c0:(ps.n:Int)=t.legs
   ·have e:=ai λk=>(k pd bx).2 (by unfold DY;omega) J a9;clear an ak au ai aa g;(repeat'(first|refine Ba ?_|(apply AE;(iterate 3 exact F);apply Bo (e:=42);exact F;intro ay)|refine BF ?_|refine Z NW ?_|refine Z NV ?_|(refine Ac ?_;first|(refine PY ?_;rintro v5 bm ab rfl)|(refine Qf ?_;rintro b3 a0 bw rfl))|(refine Y ?_ ?_<;>intro hc<;>try omega)|fail))
    all_goals first
     |omega
     |(exfalso;simp at hc;done)
     |(exact BL rfl rfl rfl GG)
   ·have ad:=λA5 c5 h' f=>g A5 c5 h' f ⟨a5,λ_ k=>absurd k J⟩;clear an ak au ai aa g;(repeat'(first|refine Ba ?_|(apply AE;(iterate 3 exact F);apply Bo (e:=42);exact F;intro ay)|refine BF ?_|refine Z NW ?_|refine Z NV ?_|(refine Ac ?_;first|(refine PY ?_;rintro v5 bm ab rfl)|(refine Qf ?_;rintro b3 a0 bw rfl)|(refine tJ ?_;intro A5 c5))|(refine Y ?_ ?_<;>intro hc<;>try omega)|fail))
    all_goals first
     |omega
     |(exfalso;simp at hc;done)
     |(
        have ah:=ad A5 c5 a0 Ag
        refine AB Af Ad ah)
  |some w=>
   rw[QJ a9]at hwn;have ad:=λA5 c5 h' f=>g A5 c5 h' f ⟨a5,λ_ _ k=>by rw[a9]at k;cases k⟩;clear an ak au ai aa g;(repeat'(first|refine Ba ?_|(apply AE;(iterate 3 exact F);apply Bo (e:=42);exact F;intro ay)|refine BF ?_|refine Z NW ?_|refine Z NV ?_|(refine Ac ?_;first|(refine PY ?_;rintro v5 bm ab rfl)|(refine Qf ?_;rintro b3 a0 bw rfl)|(refine tJ ?_;intro A5 c5))|(refine Y ?_ ?_<;>intro hc<;>try omega)|fail))
   all_goals first
    |omega
    |(exfalso;simp at hc;done)
    |(
       have ah:=ad A5 c5 a0 Ag
       refine AB Af Ad ah)
 rw[By J]at al bz ⊢;clear an ai rc;have hfo:=vN y R.1.A R.1.n R.1.c R.2 t (ax.1.le ae) cm λp hp=>FM.of ((ax.1.each p hp).le ae) (al p.2 (CZ.2 ⟨p,hp,rfl⟩)).1;have am:=λA5 c5 h' (f:V y h') hch=>ak A5 c5 h' (ae.trans f) al hch;generalize P++GN (AZ R.2)=Q at *;clear ak al bz br;(have o:∀x,Ej (AZ R.2) t=x→(Lb t (rounds l) i↔if i+1<s.n then∃n,x=some n∧Fo n (AZ (l.getD (i+1) CA).2)else x=none):=λx e=>by{unfold Lb;rw[bi,bs,cd,e]});cases aw:Ej (AZ R.2) t with
 |none=>
  have o:=o none aw;rw[aw]at hfo;rw[show(none:Option (List Bv)).isSome=false from rfl]at hfo;by_cases ao:i+1<s.n
  ·rw[if_pos ao]at o;(have e:=aa λk=>by obtain⟨m,h1,_⟩:=o.1 k;cases h1);(have bk:¬((false==FR ((i:Int)+1) (s.n:Int))=true):=by rw[(Lw _ _).mpr J];simp);clear am aa o;(repeat'(first|refine Aa ?_|(refine Ac ?_;first|(refine TM ?_;rintro v5 g ab ⟨r,rfl,hr5,hrm5⟩))|(refine Y ?_ ?_<;>intro hc<;>try omega)|fail))
   all_goals first
    |omega
    |(exfalso;exact bk Cn)
    |(exact BL rfl rfl rfl GG)
  ·rw[if_neg ao]at o;have ad:=λA5 c5 h' (f:V y h')=>am A5 c5 h' f (o.2 rfl);clear am aa o;(repeat'(first|refine Aa ?_|(refine Ac ?_;first|(refine TM ?_;rintro v5 g ab ⟨r,rfl,hr5,hrm5⟩))|(refine Y ?_ ?_<;>intro hc<;>try omega)|fail))
   all_goals first
    |omega
    |(
       have ah:=ad bl c4 g ab
       refine AB Af Ad ah)
    |(exfalso;simp[OO]at hc;omega)
 |some m=>
  have o:=o (some m) aw;(have c6:m.length≤128:=by{obtain⟨cw,k1,_,k3⟩:=So aw;have cn:=QK k1;rw[GD]at cn;rw[k3,TJ];omega});rw[aw]at hfo;rw[show(some m).isSome=true from rfl]at hfo;by_cases ao:i+1<s.n
  ·rw[if_pos ao]at o;have rc1:Au y ((addrD s.A).add ((i+1)*JV.size)) (Ez (l.getD (i+1) CA)):=((ar.cellsD CA ao).le ap).le ae;have b2:=Ce CA (show i+1<l.length by omega);have cl:=((av.each _ b2).le ap).le ae;have c':=hs.each _ b2;generalize l.getD (i+1) CA=R1 at *;have heq:=λh' (f:V y h') (r:FT) (hr5:IY h' r) (v:AZ r.2=m)=>Aqe h' r.1.A R1.1.A r.1.n r.1.c R1.1.n R1.1.c r.2 R1.2 hr5.1.row (cl.1.row.le f) (by have:=hr5.1.row.len;rw[←GD,v]at this;omega) J;by_cases a7:Fo m (AZ R1.2)
   ·have ad:=λA5 c5 h' (f:V y h')=>am A5 c5 h' f (o.2 ⟨m,rfl,a7⟩);(have heq:∀h',V y h'→∀r:FT,IY h' r→AZ r.2=m→Aq prog 81 #[.slice r.1.A r.1.n r.1.c,.slice R1.1.A R1.1.n R1.1.c,.func (.func 80) #[] #[]] h' (.bool true):=λh' f r hr5 v=>by{have:=heq h' f r hr5 v;rw[v,decide_eq_true a7]at this;exact this});clear am aa o;(repeat'(first|refine Aa ?_|refine Z RW ?_|refine Z sC ?_|(refine Ac ?_;first|(refine TM ?_;rintro v5 g ab ⟨r,rfl,hr5,hrm5⟩)|(refine rQ ?_))|(refine Y ?_ ?_<;>intro hc<;>try omega)|fail))
    all_goals first
     |omega
     |(exfalso;simp at hc;done)
     |(
        have ah:=ad bl c4 g ab
        refine AB Af Ad ah)
     |(exfalso;simp[OO]at hc;omega)
   ·(have e:=aa λk=>by{obtain⟨n9,k1,k2⟩:=o.1 k;cases k1;exact a7 k2});(have heq:∀h',V y h'→∀r:FT,IY h' r→AZ r.2=m→Aq prog 81 #[.slice r.1.A r.1.n r.1.c,.slice R1.1.A R1.1.n R1.1.c,.func (.func 80) #[] #[]] h' (.bool false):=λh' f r hr5 v=>by{have:=heq h' f r hr5 v;rw[v,decide_eq_false a7]at this;exact this});clear am aa o;(repeat'(first|refine Aa ?_|refine Z RW ?_|refine Z sC ?_|(refine Ac ?_;first|(refine TM ?_;rintro v5 g ab ⟨r,rfl,hr5,hrm5⟩)|(refine rQ ?_))|(refine Y ?_ ?_<;>intro hc<;>try omega)|fail))
    all_goals first
     |omega
     |(exfalso;simp at hc;done)
     |(exact BL rfl rfl rfl GG)
  ·rw[if_neg ao]at o;(have e:=aa λk=>by have:=o.1 k;cases this);(have bk:¬((true==FR ((i:Int)+1) (s.n:Int))=true):=by rw[(PD _ _).mpr J];simp);clear am aa o;(repeat'(first|refine Aa ?_|(refine Ac ?_;first|(refine TM ?_;rintro v5 g ab ⟨r,rfl,hr5,hrm5⟩))|(refine Y ?_ ?_<;>intro hc<;>try omega)|fail))
   all_goals first
    |omega
    |(exfalso;exact bk Cn)
    |(exact BL rfl rfl rfl GG)
theorem As1 (h:U)(A:At)(n c:Nat)(xs:Fj)(hx:Ai Dv 3 h A n xs)(hn:n≤1000000) :
  AP prog 36 #[.slice A n c] [] h λu Es _=>Es=[Ar 42 3 u n (xs.flatMap Dv)]:=by
 refine Cx func36 λ_ _=>?_
 have a:=hx.len
 cases A with
 |none=>
   have h0:n=0:=by
    by_cases h0:n=0
    · exact h0
    · have:=hx.addrD (show 0<n by omega);cases this
   subst h0
   have b:xs=[]:=Fu a
   subst b
   refine FN 42 3 ?_
   repeat'(first|refine Aa ?_|(refine Y ?_ ?_<;>intro hc<;>try omega)|fail)
   · exact DD rfl rfl rfl (FH _) rfl
   · simp at hc
 |some e=>
   repeat'(first|refine Aa ?_|(refine Ac ?_;first|(refine Gi ?_;intro b1)|(apply CE (enc:=Dv) (xs:=[]);(iterate 7 exact F);exact hx;exact Ke;exact TE;intro v1;exact Bp;omega;exact F;intro d c1))|(refine Y ?_ ?_<;>intro hc<;>try omega)|fail)
   refine DD rfl rfl rfl (FH _) ?_
   simp
   rfl
theorem Asy (h:U)(A:At)(n c:Nat)(xs:CX)(hx:Ai Cc 13 h A n xs)(hn:n≤1000000) :
  AP prog 41 #[.slice A n c] [] h λu Es _=>Es=[Ar 38 13 u n (xs.flatMap Cc)]:=by
 refine Cx func41 λ_ _=>?_
 have a:=hx.len
 cases A with
 |none=>
   have h0:n=0:=by
    by_cases h0:n=0
    · exact h0
    · have:=hx.addrD (show 0<n by omega);cases this
   subst h0
   have b:xs=[]:=Fu a
   subst b
   refine FN 38 13 ?_
   repeat'(first|refine Aa ?_|(refine Y ?_ ?_<;>intro hc<;>try omega)|fail)
   · exact DD rfl rfl rfl (FH _) rfl
   · simp at hc
 |some e=>
   repeat'(first|refine Aa ?_|(refine Ac ?_;first|(refine Gi ?_;intro b1)|(apply CE (enc:=Cc) (xs:=[]);(iterate 7 exact F);exact hx;exact Gd;exact Lg;intro v1;exact Bp;omega;exact F;intro d c1))|(refine Y ?_ ?_<;>intro hc<;>try omega)|fail)
   refine DD rfl rfl rfl (FH _) ?_
   simp
   rfl
theorem Asz (h:U)(A:At)(n c:Nat)(xs:EH)(hx:Ai Ez 1 h A n xs)(hn:n≤1000000) :
  AP prog 43 #[.slice A n c] [] h λu Es _=>Es=[Ar 80 1 u n (xs.flatMap Ez)]:=by
 refine Cx func43 λ_ _=>?_
 have a:=hx.len
 cases A with
 |none=>
   have h0:n=0:=by
    by_cases h0:n=0
    · exact h0
    · have:=hx.addrD (show 0<n by omega);cases this
   subst h0
   have b:xs=[]:=Fu a
   subst b
   refine FN 80 1 ?_
   repeat'(first|refine Aa ?_|(refine Y ?_ ?_<;>intro hc<;>try omega)|fail)
   · exact DD rfl rfl rfl (FH _) rfl
   · simp at hc
 |some e=>
   repeat'(first|refine Aa ?_|(refine Ac ?_;first|(refine Gi ?_;intro b1)|(apply CE (enc:=Ez) (xs:=[]);(iterate 7 exact F);exact hx;exact KF;exact Sd;intro v1;exact Bp;omega;exact F;intro d c1))|(refine Y ?_ ?_<;>intro hc<;>try omega)|fail)
   refine DD rfl rfl rfl (FH _) ?_
   simp
   rfl
def Ao8 (h:U)(A:At)(n c:Nat)(l:Fj)(hx:Ai Dv 3 h A n l)(hn:n≤1000000000)(f:FuncId)(fs cs:Ao)(p:HO→Bool)(hh:BP prog f)
  (hf:∀x∈l,Aq prog f (fs++[IN x.1 x.2]++cs).toArray h (.bool (p x))) :
  Aq prog 37 #[.slice A n c,.func (.func f) fs.toArray cs.toArray] h (O (Dz p l 0)):=by
 refine AK func37 λ_ _=>?_
 have e:=hx.len
 repeat'(first|refine Aa ?_|fail)
 refine Bg (X:=Nat) (λk=>k≤n∧Dz p (l.drop k) k=Dz p l 0) (λk=>n-k) (λk=>[(8,O k),(7,O n),(0,.slice A n c),(1,.func (.func f) fs.toArray cs.toArray)]) (λ_=>[]) (λ_=>h) 0 ⟨J,rfl⟩ Af Ad rfl ?_
 rintro k ⟨i,a⟩ g
 by_cases b:k<n
 · have a1:=hx.addrD b
   have c1:Au h ((addrD A).add (k*Iq.size)) (Dv (l.getD k BE)):=hx.cellsD BE b
   have d:=Lt BE e b
   have hv:=hf _ (Ce BE (show k<l.length by omega))
   generalize l.getD k BE=x at *
   repeat'(first|refine Aa ?_|refine Z Bf ?_|refine Z BN ?_|(refine Ac ?_;first|(refine Qc ?_))|(refine Y ?_ ?_<;>intro hc<;>try omega)|refine Bm ?_|fail)
   · rw[←a,d,Dz,if_pos hc]
   · have h3:=g (k+1) ⟨J,by rw[←a,d,Dz,if_neg NS]⟩ J
     refine AB Af Ad h3
 · repeat'(first|refine Aa ?_|(refine Y ?_ ?_<;>intro hc<;>try omega)|refine Bm ?_|fail)
   rw[←a,show k=l.length by omega,Ok];rfl
def Aqi (h:U)(b2 b3:Nat)(s s':Ca)(d:Bv)(t:AT)(x:BC)(c2:Au h (Av b2) (Ge s' t))(c3:Au h (Av b3) (Cc x))(a:d.ls.length=s.n) :
  Aq prog 38 #[IN s d,AD b2,AD b3] h (.bool (decide (Fw d t x))):=by
 refine AK func38 λ_ _=>?_
 have hw:=Aeu h s d t a x
 repeat'(first|refine Aa ?_|(refine Z (by apply BA;exact F;first|exact GA rfl c2 rfl|exact BH rfl c3 rfl) ?_)|(refine Aj ?_;intro b)|(refine Ac ?_;first|(apply Hb (f:=39) (fs:=[PQ s d t]) (cs:=[]);exact F;exact F;exact Ab func39;exact hw))|refine Bm ?_|fail)
 all_goals rfl
theorem uP (t:AT)(x:BC):∀(l:Fj) (k:Nat),Dz (λp:HO=>decide (Fw p.2 t x)) l k=LA t x (AZ l) k
 |[],_=>rfl
 |p::r,k=>by unfold Dz;show _=LA t x (p.2::AZ r) k;unfold LA;by_cases h:Fw p.2 t x;{rw[if_pos h,if_pos (decide_eq_true h)]};{rw[if_neg h,if_neg (by rw[decide_eq_false h];simp),uP t x r]}
def Auz (h:U)(b7 c7 b2 b3 n:Nat)(s:Ca)(t:AT)(x:BC)(l:Fj)(e:l.length=n)(hn:n≤1000)(d:∀p∈l,p.2.ls.length=p.1.n) :
  CH prog 37 #[.slice (some (Av b7)) n c7,.func (.func 38) #[] #[AD b2,AD b3]] [Ar 42 3 (.slice (some (Av b7)) n c7) n (l.flatMap Dv),Ap b2 29 (Ge s t),Ap b3 38 (Cc x)] h (O (LA t x (AZ l) 0)):=
 hA λh1 j k a=>by
  obtain⟨A,c,e1,e2,hs1⟩:=dN Ke e a
  cases e1
  obtain⟨g,b⟩:=uK a
  have k2:=vT b
  obtain⟨i,f⟩:=uK b
  have k3:=vT f
  have:=Ao8 h1 _ n c7 l hs1 J 38 [] [AD b2,AD b3] (λp=>decide (Fw p.2 t x)) (Ab func38) (λp hp=>Aqi h1 b2 b3 p.1 s p.2 t x k2 k3 (d p hp))
  rw[uP]at this
  exact this
def Ati {b:CQ}(h:¬DW b):Kq b=(0,false,210):=by unfold Kq;rw[if_neg h]
def Axh {b:CQ}(h:DW b)(k:(b.rs.getLastD []).length≠1):Kq b=(0,false,0):=by unfold Kq;rw[if_pos h];split;{rename_i d e;rw[e]at k;exact absurd rfl k};{rfl}
def Ath {b:CQ}(h:DW b){d:Bv}(k:b.rs.getLastD []=[d]):Kq b=match Dd d b.t with|none=>(0,false,0)|some c=>(c,true,0):=by unfold Kq;rw[if_pos h,k];dsimp only;cases Dd d b.t<;>rfl
def Avv {l:Hs}{n:Nat}(h:l.length=n)(h0:0<n):l.getLastD []=l.getD (n-1) []:=by subst h;rw[xI,Ay1,Dr]
open Classical in
theorem mD (h:U)(s:Ca)(l:EH)(t:AT)(o:Mu h s.A s.n l)(hs:Ms s l):Az prog 12 #[Jh s t] h (λu _=>u=.tuple #[O (Kq ⟨t,rounds l⟩).1,.bool (Kq ⟨t,rounds l⟩).2.1,O (Kq ⟨t,rounds l⟩).2.2]):=by
 refine BB func12 λ_ _=>?_;have hck:=λh' (y:V h h')=>oO h' s l t (o.le y) hs;by_cases a:DW ⟨t,rounds l⟩
 case' neg=>
  simp only[decide_eq_false a]at hck
  rw[Ati a]
  dsimp only
  repeat'(first|refine Aa ?_|(refine Aj ?_;intro b)|(refine Ac ?_;first|(refine NX ?_;rintro ad h2 ab rfl))|(refine Y ?_ ?_<;>intro hc<;>try omega)|fail)
  all_goals first
   |(exfalso;simp at hc;done)
   |(exact VR rfl rfl rfl rfl rfl rfl)
 simp only[decide_eq_true a]at hck;have aj:=o.row.len;have ae:=o.row;(have al:(rounds l).length=s.n:=by rw[KG,aj])
 have h0:0<s.n:=by
  rcases Of s.n with e|e;{exact absurd (Fu (show(rounds l).length=0 by omega)) a.some};{exact e}
 have aa:=Avv al h0;have ao:=hs.few;have ra:=ae.addrD (show s.n-1<s.n by omega);have rc:Au h ((addrD s.A).add ((s.n-1)*JV.size)) (Ez (l.getD (s.n-1) CA)):=ae.cellsD CA (show s.n-1<s.n by omega);have ag:=Ce CA (show s.n-1<l.length by omega);rw[PF]at aa;have i:=o.each _ ag;have x:=dU a;dsimp only at x;rw[aa]at x;have m:=a.rounds _ x;dsimp only at m;have f:=Axh a;have g:=λd=>Ath a (d:=d);dsimp only at f g;rw[aa]at f g;generalize l.getD (s.n-1) CA=R at *;have af:=i.1.row.len;generalize Kq ⟨t,rounds l⟩=am at *;by_cases h1:R.1.n=1
 case' neg=>
  rw[f (by rw[GD];omega)]
  dsimp only
  clear f g m
  repeat'(first|refine Aa ?_|refine Z RX ?_|refine Z Xq ?_|(refine Aj ?_;intro b)|(refine Ac ?_;first|(refine NX ?_;rintro ad h2 ab rfl))|(refine Y ?_ ?_<;>intro hc<;>try omega)|fail)
  all_goals first
   |(exfalso;simp at hc;done)
   |omega
   |(exact VR rfl rfl rfl rfl rfl rfl)
 have a0:=i.1.row.addrD (show 0<R.1.n by omega);have c0:Au h ((addrD R.1.A).add (0*Iq.size)) (Dv (R.2.getD 0 BE)):=i.1.row.cellsD BE (show 0<R.1.n by omega);have ak:=Ce BE (show 0<R.2.length by omega);have ah:=i.1.each _ ak;(have z:AZ R.2=[(R.2.getD 0 BE).2]:=by{match an:R.2,af with|[p],_=>rfl|[],k=>simp at k;omega|p::q::r,k=>simp at k;omega});generalize R.2.getD 0 BE=p at *;obtain⟨ps,pd⟩:=p;dsimp only at z;have c:=g pd z;have ai:=(m pd (by rw[z];simp)).1;have hwn:=λh' (y:V h h')=>Tu h' ps pd t ((FM.of ah ai).le y);clear f g m;cases v:Dd pd t with
 |none=>
  rw[v]at c;dsimp only at c;obtain⟨q,hq⟩:=Oo v;rw[hq]at hwn;rw[c];dsimp only;(repeat'(first|refine Aa ?_|refine Z RX ?_|refine Z Xy ?_|(refine Aj ?_;intro b)|(refine Ac ?_;first|(refine NX ?_;rintro ad h2 ab rfl))|(apply Da (n:=6) [0,1,2,3,4,5,6,7,8,10,9,11] [(0,0),(1,0),(2,0),(3,0),(4,0),(5,0),(6,1),(7,0),(8,0),(9,0),(10,0),(11,0)];kernel_rfl)|(apply Be;exact Bd;(first|(apply Cs (j:=0) (n:=R.1.n);(iterate 5 exact F);exact a0;omega;omega)|exact Xy);exact AX)|(refine Bn ?_;first|(refine Qf ?_;rintro v3 h3 ac rfl;refine⟨ac,Ak,?_⟩))|(refine Y ?_ ?_<;>intro hc<;>try omega)|fail))
  all_goals first
   |(exfalso;simp at hc;done)
   |omega
   |(exact VR rfl rfl rfl rfl rfl rfl)
 |some w=>
  rw[v]at c;dsimp only at c;rw[QJ v]at hwn;rw[c];dsimp only;(repeat'(first|refine Aa ?_|refine Z RX ?_|refine Z Xy ?_|(refine Aj ?_;intro b)|(refine Ac ?_;first|(refine NX ?_;rintro ad h2 ab rfl))|(apply Da (n:=6) [0,1,2,3,4,5,6,7,8,10,9,11] [(0,0),(1,0),(2,0),(3,0),(4,0),(5,0),(6,1),(7,0),(8,0),(9,0),(10,0),(11,0)];kernel_rfl)|(apply Be;exact Bd;(first|(apply Cs (j:=0) (n:=R.1.n);(iterate 5 exact F);exact a0;omega;omega)|exact Xy);exact AX)|(refine Bn ?_;first|(refine Qf ?_;rintro v3 h3 ac rfl;refine⟨ac,Ak,?_⟩))|(refine Y ?_ ?_<;>intro hc<;>try omega)|fail))
  all_goals first
   |(exfalso;simp at hc;done)
   |omega
   |(exact VR rfl rfl rfl rfl rfl rfl)
def Ayc (h:U)(s a:Int):Aq prog 16 #[.slice none 0 0,O s,O a] h (.tuple #[.agg (BX Zc.zero).toArray,.bool false]):=by
 refine AK func16 λ_ _=>?_;(repeat'(first|refine Ba ?_|(apply UU)|refine BF ?_|(refine Aj ?_;intro b)|(refine Y ?_ ?_<;>intro hc<;>try omega)|fail))
 all_goals first
  |omega
  |(first|(apply Qi;(iterate 3 exact F);exact Bc;(iterate 3 exact F)))
 all_goals rfl
def Ae3 (h:U)(s a:Int)(t:AT)(d:EN t):Aq prog 6 #[.slice none 0 0,O s,O a,GF t] h (.tuple #[Jh Cl Rh,O 190]):=by
 refine AK func6 λ_ _=>?_;have hr:=TG h t;rw[decide_eq_true d]at hr;have c:=Ayc h s a;(repeat'(first|refine AH ?_|(refine Aj ?_;intro b)|(refine Ac ?_;first|(refine Ma ?_)|(apply Aw;exact F;exact Ab func16;exact c))|(refine Y ?_ ?_<;>intro hc<;>try omega)|refine AF ?_|(refine AG ?_ ?_<;>intro hc<;>try omega)|fail))
 all_goals first
  |(exfalso;simp at hc;done)
  |(exact Qi rfl rfl rfl Bc rfl rfl rfl rfl)
  |fail
end Go.Hw
import Derived.Test.YtbmffdagfjepgaaGreatDoorBA
import Derived.Test.YtbmffdagfjepgaaGreatDoorHF
import Derived.Test.YtbmffdagfjepgaaGreatDoorNShI
set_option linter.all false
set_option maxRecDepth 100000
set_option maxHeartbeats 8000000
namespace Go.Hw
open Go
attribute [local irreducible] AI Bz BV Aq AP Az Au CH Ap Ar BG Cm BP Dg
open Go.Proofs.Tryz
def Ais (e:TypeId)(v:Value)(xs:AC)(n:Nat)(h:U)(hn:n≤1000000000)(hx:xs.length=n):AP prog 92 #[v] [Ar e 1 v n (xs.flatMap AQ)] h λu Es _=>u=.tuple #[]∧Es=[Ar e 1 v n ((Gp xs).flatMap AQ)]:=Aix Go.Proofs.Tryz.slices_Sort_int Go.Proofs.Tryz.slices_Sort_int_none e v xs n h hn hx
def Axk (e:TypeId)(v:Value)(xs:AC)(n:Nat)(h:U)(hn:n≤1000000000)(hx:xs.length=n):AP prog 78 #[v] [Ar e 1 v n (xs.flatMap AQ)] h λu Es _=>Es=[Ar e 1 u (Lib.compact xs).length ((Lib.compact xs).flatMap AQ)]:=Asa Go.Proofs.Tryz.slices_Compact_int Go.Proofs.Tryz.slices_Compact_int_empty aX e v xs n h hn hx
def Ayi {l:AC}{k n:Nat}(b:l.length=n)(a:k<n):l=l.take k++l.getD k 0::l.drop (k+1):=by rw[←Lt 0 b a,GW]
def UQ (x:Int) (u:Ao) (h:U):Prop:=u=[O x]
def ZN (h:U)(A:At)(n c:Nat):Az prog 49 #[.slice A n c] h (λu h'=>∃b1,u=.func (.func 93) #[] #[AD b1]∧Au h' (Av b1) [.slice A n c]):=by refine BB func49 λ_ _=>?_;(repeat'(first|refine Aa ?_|(refine Aj ?_;intro b)|fail));generalize b=b1;refine Ii (b:=b1) (e:=46) (cs:=[.slice A n c]) Bh ?_;intro h1 d a;(first|(apply BL;(iterate 3 exact F)));exact⟨b1,rfl,a⟩
def iP (h:U)(A:At)(n c:Nat)(l:AC)(hx:Ai AQ 1 h A n l)(hn:n≤1000000)(b1:Nat)(hb1:Au h (Av b1) [.slice A n c]):HB prog 93 [AD b1] UQ l h:=by
 intro lid I Ix u w r Es h1 f h0;refine Cx func93 λ_ _=>?_;have g:=hx.len;have hd1:=hb1.le f;(repeat'(first|refine Aa ?_|refine Z WS ?_|fail));refine Pd (X:=Nat×Am×U) (λx=>x.1≤n∧V h x.2.2∧I (l.take x.1) x.2.1 x.2.2) (λx=>n-x.1) (λx=>[(7,O x.1),(6,O n),(5,.slice A n c),(0,.func (.yield lid) #[] #[])]) (λx=>x.2.1) (λx=>x.2.2) (0,Es,h1) ⟨J,f,h0⟩ Af rfl rfl ?_;rintro⟨k,d,m⟩ ⟨o,hlk,b⟩ i;dsimp only at o hlk b i ⊢;by_cases hkn2:k<n
 ·have a1:=hx.addrD hkn2;have c1:=(hx.cellsD 0 hkn2).le hlk;have j:=BY 0 g hkn2;have s:=Ayi (l:=l) g hkn2;generalize l.getD k 0=p at *;(have t:Dg prog lid [O p] d m λv Es' h'=>(v=.bool true∧I (l.take (k+1)) Es' h')∨(v=.bool false∧Ix (l.take (k+1)) Es' h'):=by{rw[j];exact r _ _ _ _ _ _ s hlk rfl b});(repeat'(first|refine Aa ?_|refine Z Bf ?_|refine Z BN ?_|(refine Ac ?_;first|(refine Nj (Fs:=d++[]) RO ?_;apply QR (Es0:=d) (Fs:=[]);(iterate 3 exact F);exact t;rintro v a h2 q (⟨rfl,e⟩|⟨rfl,e⟩);all_goals skip))|(refine Y ?_ ?_<;>intro hc<;>try omega)|fail))
  all_goals first
   |omega
   |(
      have h3:=i (k+1,a,h2) ⟨by show k+1≤n;omega,hlk.trans q,e⟩ NT
      refine Lc (Fs:=a) RO ?_
      exact Jz Af h3)
   |(
      refine Lc (Fs:=a) RO ?_
      exact Me (rs:=[]) (vs:=[]) (Fs:=a) rfl rfl trivial (FH _) (.inr ⟨l.take (k+1),l.drop (k+1),(GW _ _).symm,e⟩))
 {rw[By J]at b;(repeat'(first|refine Aa ?_|(refine Y ?_ ?_<;>intro hc<;>try omega)|fail));exact FK (rs:=[]) (vs:=[]) rfl rfl trivial (.inl b)}
def Azm (h:U)(g:FuncId)(hg:BP prog g)(b1:Nat)(xs:AC)(hn:xs.length≤1000000)(hs:HB prog g [AD b1] UQ xs h) :
  AP prog 150 #[.slice none 0 0,.func (.func g) #[] #[AD b1]] [] h λu Es _=>Es=[Ar 3 1 u xs.length (xs.flatMap AQ)]:=by
 refine Cx func150 λ_ _=>?_
 repeat'(first|refine Aa ?_|(refine Aj ?_;intro b)|fail)
 generalize b=a
 refine FN 3 1 ?_
 refine EF (Es':=[Ap a 46 [.slice none 0 0],Ar 3 1 (.slice none 0 0) 0 []]) Ad ?_
 refine QY (R:=UQ) (xs:=xs) (gf:=g) (lb:=[AD b1]) rfl rfl hg hs TK rfl
  (λpre Es h2=>∃(A:At) (c:Nat),Es=[Ap a 46 [.slice A pre.length c],Ar 3 1 (.slice A pre.length c) pre.length (pre.flatMap AQ)]) (λ_ _ _ _=>False)
  (λpre Es h2 h3 o e=>e) (λ_ _ _ _ _ _ h=>h.elim) ⟨none,0,rfl⟩ ?_ ?_ (λ_ _ _ _ _ _ _ _ h=>h.elim)
 · rintro lid r0 r k pre x post u d h1 j rfl ⟨A,c,rfl⟩ f i
   have q:pre.length+1≤xs.length:=by rw[j];simp
   repeat'(first|refine Ba ?_|(apply Ng;exact F;exact Bh;exact i)|refine BF ?_|(refine Ac ?_;first|(apply DE (enc:=AQ) (n:=1) [x];(iterate 3 exact F);exact Cf _ _;(iterate 4 exact F);exactλ_=>rfl;exact F;exact F;intro l m p hs5)|(apply CE (enc:=AQ) (xs:=pre);(iterate 7 exact F);exact hs5;exactλ_=>rfl;exactλx=>En rfl;intro v1;exact Bp;omega;exact F;intro A3 c3))|fail)
   all_goals
    refine EF (Es':=[FI lid {r0 with state:=.busy},Ap a 46 [.slice A3 (pre.length+1) c3],Ar 3 1 (.slice A3 (pre.length+1) c3) (pre.length+1) ((pre++[x]).flatMap AQ)]) Ad (Oa (r0:=r0) rfl .here ⟨A3,c3,?_⟩)
    rw[Bt];rfl
 · rintro D h1 d f ⟨A,c,rfl⟩
   repeat'(first|refine Aa ?_|fail)
   all_goals
    refine Oq (Ob rfl Bh (NQ (rs:=[.tmp 4]) (vs:=[.slice A xs.length c]) (Fs:=[Ar 3 1 (.slice A xs.length c) xs.length (xs.flatMap AQ)]) rfl rfl ⟨rfl,trivial⟩ NY rfl))
def Asc (h:U)(g:FuncId)(hg:BP prog g)(b1:Nat)(xs:AC)(hn:xs.length≤1000000)(hs:HB prog g [AD b1] UQ xs h) :
  AP prog 91 #[.func (.func g) #[] #[AD b1]] [] h λu Es _=>Es=[Ar 3 1 u xs.length (xs.flatMap AQ)]:=by
 refine Cx func91 λ_ _=>?_
 repeat'(first|refine Aa ?_|(refine Ac ?_;first|(apply Ed;exact F;exact Ab func150;exact Azm _ g hg b1 xs hn (hs.le Ag);exact Ad;rintro d a b c rfl))|fail)
 all_goals exact DD rfl rfl rfl (.cons_cons _ (Hi _)) rfl
def Aaq (h:U)(b1:Nat)(xs:AC)(hn:xs.length≤1000000)(hs:HB prog 93 [AD b1] UQ xs h) :
  AP prog 48 #[.func (.func 93) #[] #[AD b1]] [] h λu Es _=>Es=[Ar 3 1 u xs.length ((Gp xs).flatMap AQ)]:=by
 refine Cx func48 λ_ _=>?_
 repeat'(first|refine Aa ?_|(refine Ac ?_;first|(apply Ed;exact F;exact Ab func91;exact Asc _ _ (Ab func93) b1 xs hn (hs.le Ag);exact Ad;rintro f a c d rfl)|(apply Ed;exact F;exact Ab func92;exact Ais 3 _ xs xs.length _ J rfl;exact Ad;rintro vs b hs9 e ⟨rfl,rfl⟩))|fail)
 all_goals first
  |(exact DD rfl rfl rfl (.cons_cons _ (Hi _)) rfl)
def Azt (h:U)(n:Int):Aq prog 77 #[O n] h (.bool (!decide (AY n 192))):=by refine AK func77 λ_ _=>?_;(repeat'(first|refine Aa ?_|(refine Ac ?_;first|(apply Aw;exact F;exact Ab func71;exact fZ _ _))|refine Bm ?_|fail));all_goals rfl
def Azs {ys:AC}(hs:ys.Pairwise (· ≤·)):(Lib.compact ys).length=ys.length↔ys.Nodup:=by
 constructor
 ·intro h;unfold Lib.compact Lib.compactUpTo at h;rw[Dc]at h;(have h1:((List.range ys.length).filter (Lib.keeps ys.toArray)).length=(List.range ys.length).length:=by rw[h,List.length_range]);have h2:=List.length_filter_eq_length_iff.1 h1
  have a:ys.Pairwise (· < ·):=by
   rw[Uv]at hs ⊢;intro i j hi hj b;have k1:=((hU ys j hj).1 (h2 j (JY.2 hj))).resolve_left J;rw[Dr,Bw hj,Dr,Bw (show j-1<ys.length by omega),IQ,IQ]at k1;have a2:=hs (j-1) j J hj J;by_cases e:i=j-1;{subst e;omega};{have a1:=hs i (j-1) hi J J;omega}
  exact a.imp λh=>by omega
 {intro h;exact Nat.le_antisymm (aX ys) (h.length_le_of_subset λx hx=>(Axm x).2 hx)}
def Azp (cs:AC):Er cs↔(Gp cs).any (λn=> !decide (AY n 192))=false∧(Lib.compact (Gp cs)).length=cs.length:=by(have hp:(Gp cs).Perm cs:=by unfold Gp;exact Yh _ _);unfold Er;refine and_congr ?_ ?_;{rw[Sr];constructor;{intro h x hx;have:=h x (hp.mem_iff.1 hx);simpa using this};{intro h x hx;have:=h x (hp.mem_iff.2 hx);simpa using this}};{rw[←hp.nodup_iff,←hp.length_eq,Azs (nI cs)]}
def Axq (h:U)(A:At)(n c:Nat)(cs:AC)(hx:Ai AQ 1 h A n cs)(hn:n≤1000):Az prog 31 #[.slice A n c] h (λu _=>u=.bool (decide (Er cs))):=by
 refine BB func31 λ_ _=>?_;have a:=hx.len;have hsl:=ZL cs;have m:=aX (Gp cs);have hco:=Azp cs
 have i:=λh' v (b:V h h')=>Aus (enc:=AQ) (e:=3) (sz:=1) (v:=v) (xs:=Gp cs) (n:=n) (P:=prog) (f:=76) (args:=#[v,.func (.func 77) #[] #[]]) (out:=.bool ((Gp cs).any λn=> !decide (AY n 192))) (h:=h') (λ_=>rfl) (by rw[hsl,a]) (λA' d h1 b e hnc hs=>by
  subst e
  exact Yy h1 A' n d (Gp cs) hs J 77 [] [] (λn=> !decide (AY n 192)) (Ab func77) (λx _=>Azt h1 x))
 have g:=λh' v=>AP.form (Axk 3 v (Gp cs) n h' J (by rw[hsl,a]));have hsor:=λh' b1 hb1=>AP.form (Aaq h' b1 cs J hb1);have hvs:=λh' (b:V h h') b1 hb1=>iP h' A n c cs (hx.le b) J b1 hb1;rw[a]at hsor;generalize Gp cs=ys at *;generalize Lib.compact ys=zs at *;generalize(ys.any λn=> !decide (AY n 192))=r at *;(repeat'(first|refine Aa ?_|(refine Ac ?_;first|(apply AR;exact F;exact Ab func49;exact ZN _ A n c;rintro v1 h1 o ⟨b1,rfl,hb1⟩)|(apply Ed;exact F;exact Ab func48;exact hsor _ b1 (hvs _ Ag b1 hb1);exact Ad;rintro s k h2 p ⟨j,c2,rfl,rfl⟩)|(apply yO (Es0:=[_]) (Fs:=[]);exact F;exact F;exact Ab func76;exact i _ _ Ag)|(apply Ed;exact F;exact Ab func78;exact g _ _;exact Ad;rintro v3 l h3 q ⟨A3,c3,rfl,rfl⟩))|refine AF ?_|(refine AG ?_ ?_<;>intro hc<;>try omega)|fail))
 all_goals first
  |(refine BL rfl rfl rfl ?_;refine Cv ?_;rw[hco,a];simp[*,FP];done)
  |(refine BL rfl rfl rfl ?_;refine Cv ?_;rw[hco,a];simp[*,FP];omega)
def Abg (x:AC) (u:Ao) (h:U):Prop:=∃A,u=[.slice A x.length x.length]∧Ai AQ 1 h A x.length x
def As8 (h:U)(A:At)(n c:Nat):Az prog 79 #[.slice A n c,O 2] h (λu h'=>∃d a,u=.func (.func 117) #[] #[AD d,AD a]∧Au h' (Av d) [.slice A n c]∧Au h' (Av a) [O 2]):=by refine BB func79 λ_ _=>?_;(repeat'(first|refine Ba ?_|(apply AE;(iterate 3 exact F);apply Ci (e:=46);exact F;intro d)|(apply AE;(iterate 3 exact F);apply Ci (e:=3);exact F;intro a)|refine Eo ?_|(refine Y ?_ ?_<;>intro hc<;>try omega)|fail));(all_goals try omega);refine Ii (b:=d) (e:=46) (cs:=[.slice A n c]) Bh ?_;intro h1 j f;refine Ii (b:=a) (e:=3) (cs:=[O 2]) Bh ?_;intro h2 i g;(first|(apply BL;(iterate 3 exact F)));exact⟨d,a,rfl,f.le i,g⟩
def As9 (h:U)(A:At)(n c:Nat)(l:AC)(hx:Ai AQ 1 h A n l)(hnc:n≤c)(hn:n≤1000000)(m i:Nat)(aa:Au h (Av m) [.slice A n c])(z:Au h (Av i) [O 2]):HB prog 117 [AD m,AD i] Abg (EX l) h:=by
 intro lid I Ix ai aj t Es h1 ae h0;refine Cx func117 λ_ _=>?_;have ah:=hx.len;(repeat'(first|refine Aa ?_|fail));refine Pd (X:=Nat×Am×U) (λx=>2*x.1≤n+1∧V h x.2.2∧I (EX (l.take (2*x.1))) x.2.1 x.2.2) (λx=>n+2-2*x.1) (λx=>[(4,O ((2*x.1:Nat):Int)),(0,.func (.yield lid) #[] #[]),(1,AD m),(2,AD i)]) (λx=>x.2.1) (λx=>x.2.2) (0,Es,h1) ⟨Ah,ae,by rw[Nat.mul_zero,Ia];exact h0⟩ Af rfl rfl ?_;rintro⟨k,f,r⟩ ⟨ad,hlk,g⟩ w;dsimp only at ad hlk g w ⊢;have hd1:=aa.le hlk;have hd2:=z.le hlk;by_cases hkn2:2*k<n
 ·have p:=Ata (l:=l) (j:=k) J;have u:=Axi (l:=l) (j:=k) J
  obtain⟨e,ac,hen,ag⟩:∃e:Nat,(e=1∨e=2)∧2*k+e≤n∧(e:Int)=min 2 ((n-2*k:Nat):Int):=by
   by_cases q:2*k+2<n;{exact⟨2,.inr rfl,J,J⟩};{exact⟨n-2*k,J,J,J⟩}
  have a:=(hx.mid (lo:=2*k) (hi:=2*k+e) (mx:=2*k+e) J hen (BU _)).le hlk;rw[show 2*k+e-2*k=e by omega]at a
  have y:(l.drop (2*k)).take e=(l.drop (2*k)).take 2:=by
   rcases ac with e1|e1;{(have:n=2*k+1:=by omega);rw[By (by rw[Kw];omega),By (by rw[Kw];omega)]};{rw[e1]}
  rw[y]at a;have s:=a.len;(have b:∀A',Ai AQ 1 r A' e ((l.drop (2*k)).take 2)→Dg prog lid [.slice A' e e] f r λv Es' h'=>(v=.bool true∧I (EX (l.take (2*k+2))) Es' h')∨(v=.bool false∧Ix (EX (l.take (2*k+2))) Es' h'):=λA' hs=>by{rw[u];exact t _ _ _ _ _ _ p hlk ⟨A',by rw[s],by rw[s];exact hs⟩ g});have b:=b _ a;(have b:Dg prog lid [.slice (JU A (2*k+e) (2*k) 1) (2*k+e-2*k) (2*k+e-2*k)] f r λv Es' h'=>(v=.bool true∧I (EX (l.take (2*k+2))) Es' h')∨(v=.bool false∧Ix (EX (l.take (2*k+2))) Es' h'):=by{rw[show 2*k+e-2*k=e by omega];exact b});(have ab:EX l=EX (l.take (2*k+2))++EX (l.drop (2*k+2)):=by rw[p,u,Ck];rfl);clear t a p u y s;(repeat'(first|refine Aa ?_|refine Z WS ?_|(refine Z (by apply Aw1 (lo:=2*k) (hi:=2*k+e) (mx:=2*k+e) (n:=n) (c:=c);(iterate 8 exact F);omega;omega;omega;omega;omega) ?_)|(refine Z (by apply BA;exact F;exact BH rfl (hd2.le Ag) rfl) ?_)|(refine Ac ?_;first|(refine Nj (Fs:=f++[]) RO ?_;apply QR (Es0:=f) (Fs:=[]);(iterate 3 exact F);exact b;rintro v d h2 af (⟨rfl,o⟩|⟨rfl,o⟩);all_goals skip))|(apply AU (n:=3) 7 [0,1,2,3,4,5,6];kernel_rfl)|(apply Be;exact Bd;(first|exact WS|exact PZ|(apply Ml (lo:=2*k) (n:=n) (c:=c);(iterate 6 exact F);omega));exact AX)|(refine Y ?_ ?_<;>intro hc<;>try omega)|fail))
  all_goals first
   |omega
   |(
      have h3:=w (k+1,d,h2) ⟨by show 2*(k+1)≤n+1;omega,hlk.trans af,o⟩ (by show n+2-2*(k+1)<n+2-2*k;omega)
      dsimp only at h3
      rw[show((2*(k+1):Nat):Int)=((2*k:Nat):Int)+2 by omega]at h3
      refine Lc (Fs:=d) RO ?_
      exact Jz Af h3)
   |(
      refine Lc (Fs:=d) RO ?_
      exact Me (rs:=[]) (vs:=[]) (Fs:=d) rfl rfl trivial (FH _) (.inr ⟨EX (l.take (2*k+2)),EX (l.drop (2*k+2)),ab,o⟩))
 ·rw[By J]at g;clear w t;(repeat'(first|refine Aa ?_|refine Z WS ?_|(refine Y ?_ ?_<;>intro hc<;>try omega)|fail))
  all_goals first
   |omega
   |(exact FK (rs:=[]) (vs:=[]) rfl rfl trivial (.inl g))
def kA (h:U)(a b:Int):Aq prog 33 #[O a,O b] h (IN Cl ⟨a,b,[]⟩):=by refine AK func33 λ_ _=>?_;(repeat'(first|refine AH ?_|(refine Aj ?_;intro b)|(apply Ha;(iterate 3 exact F);exact Bc;exact F;exact F)|fail));all_goals rfl
def nX (h:U) (u:Value) (l:CM):Prop:=∃r:FT,u=.slice r.1.A r.1.n r.1.c∧IY h r∧AZ r.2=l
def Ik (l:CM):Fj:=l.map λd=>(Cl,d)
def Ab2 (l:CM):AZ (Ik l)=l:=by unfold AZ Ik;rw[Nc];simp[gB]
def VX (l:CM):(Ik l).length=l.length:=by unfold Ik;exact Dc _
def oU (l r:CM):Ik (l++r)=Ik l++Ik r:=by unfold Ik;exact DI
def lU {h:U}{A:At}{n:Nat}{l:CM}(b:∀d∈l,d.ls=[])(hs:Ai Dv 3 h A n (Ik l)):Qs h A n (Ik l):=⟨hs,λp hp=>by
 obtain⟨d,a,rfl⟩:=CZ.1 hp
 refine⟨?_,BU _⟩
 rw[show(Cl,d).2.ls=[]from b d a]
 exact Ai.nil⟩
def jN (h:U)(A:At)(n c:Nat)(l:AC)(hx:Ai AQ 1 h A n l)(hnc:n≤c)(hn:n≤1000000):Az prog 32 #[.slice A n c,.func (.func 33) #[] #[]] h (λu h'=>nX h' u (Df l)):=by
 refine BB func32 λ_ _=>?_;have aq:=hx.len;have hck:=As8 h A n c;have r:=λh' (q:V h h') g d p o=>As9 h' A n c l (hx.le q) hnc hn g d p o;refine FN 42 3 ?_;(repeat'(first|refine Ba ?_|(apply AE;(iterate 3 exact F);apply Ci (e:=91);exact F;intro k)|(apply AE;(iterate 3 exact F);apply Bo (e:=80);exact F;intro m)|refine Eo ?_|(refine Ac ?_;first|(apply AR;exact F;exact Ab func79;exact hck;rintro av h2 ao ⟨g,d,rfl,p,o⟩))|fail));have ad:=r h2 Ag g d p o;have hcm:∀x∈EX l,x.length=1∨x.length=2:=λx hx=>Abw hx;have al:=nC l;have z:=Adz l;generalize EX l=xs at *;clear r hck;refine EF (Es':=[Ap m 80 [.slice none 0 0],Ap k 91 [.func (.func 33) #[] #[]],Ar 42 3 (.slice none 0 0) 0 []]) Ad ?_;refine QY (R:=Abg) (xs:=xs) (gf:=117) (lb:=[AD g,AD d]) rfl rfl (Ab func117) ad (by rintro x u h2 ⟨v,rfl,_⟩;rfl) rfl (λpre Es h2=>∃(A:At) (c:Nat),Es=[Ap m 80 [.slice A (IP pre).length c],Ap k 91 [.func (.func 33) #[] #[]],Ar 42 3 (.slice A (IP pre).length c) (IP pre).length ((Ik (IP pre)).flatMap Dv)]) (λ_ _ _ _=>False) (λpre Es h2 h3 q e=>e) (λ_ _ _ _ _ _ h=>h.elim) ⟨none,0,rfl⟩ ?_ ?_ (λ_ _ _ _ _ _ _ _ h=>h.elim)
 ·rintro lid r0 aw ag pre x post u w h1 t ⟨v,rfl,hs7⟩ ⟨A,c,rfl⟩ aa s;(have au:pre.length+1≤xs.length:=by rw[t];simp);have an:=zC pre;have ae:=hcm x (by rw[t];simp);have i:=Au6 pre x;have am:=VX (IP pre)
  match x,ae with
  |[a],_=>
   rw[show Ra [a]=[]from rfl,DR]at i;(repeat'(first|refine Ba ?_|(apply Ng;exact F;exact Bh;exact s)|refine Eo ?_|(apply AU (n:=4) 12 [0,1,2,3,4,5,6,7,99,8,9,10,11];kernel_rfl)|(refine Y ?_ ?_<;>intro hc<;>try omega)|fail));(all_goals(try(exfalso;simp at hc;done)))
   all_goals
    refine Oa (r0:=r0) rfl .here ⟨A,c,?_⟩
    rw[i]
  |[a,b],_=>
   rw[show Ra [a,b]=[⟨a,b,[]⟩]from rfl]at i;have a1:=hs7.addrD (show 0<[a,b].length by simp);have c1:=hs7.cellsD 0 (show 0<[a,b].length by simp);have c2:=hs7.cellsD 0 (show 1<[a,b].length by simp);have ar:=kA h1 a b;rw[show([a,b]:AC).getD 0 0=a from rfl]at c1;rw[show([a,b]:AC).getD 1 0=b from rfl]at c2;(repeat'(first|refine Ba ?_|(apply Ng;exact F;exact Bh;exact s)|refine BF ?_|(apply AU (n:=4) 12 [0,1,2,3,4,5,6,7,99,8,9,10,11];kernel_rfl)|(apply Be;exact Bd;(first|(apply Cs (j:=0) (n:=2);(iterate 5 exact F);exact a1;omega;omega)|(apply Cs (j:=1) (n:=2);(iterate 5 exact F);exact a1;omega;omega)|exact Pb|(apply BA;exact F;exact BH rfl (c2.le Ag) rfl));exact AX)|(refine Bn ?_;first|(apply Hb (f:=33) (fs:=[]) (cs:=[]);exact F;exact F;exact Ab func33;exact kA _ a b;refine⟨V.refl _,Ak,?_⟩)|(apply DE (enc:=Dv) (n:=1) [(Cl,⟨a,b,[]⟩)];(iterate 3 exact F);exact Cf _ _;(iterate 4 exact F);exactλ_=>rfl;exact F;exact F;intro ah aj ab hs5;refine⟨ab,Ak,?_⟩)|(apply CE (enc:=Dv) (xs:=Ik (IP pre));(iterate 7 exact F);exact hs5;exact Ke;exact TE;intro v1;exact Bp;omega;exact F;intro A3 c3;refine⟨V.refl _,Ak,?_⟩))|(refine Y ?_ ?_<;>intro hc<;>try omega)|fail));(all_goals(try(exfalso;simp at hc;done)))
   all_goals
    refine EF (Es':=[FI lid {r0 with state:=.busy},Ap m 80 [.slice A3 ((IP pre).length+1) c3],Ap k 91 [.func (.func 33) #[] #[]],Ar 42 3 (.slice A3 ((IP pre).length+1) c3) ((IP pre).length+1) ((Ik (IP pre)++[((Cl,(⟨a,b,[]⟩:Bv)):HO)]).flatMap Dv)]) Ad (Oa (r0:=r0) rfl .here ⟨A3,c3,?_⟩)
    rw[i,Bt,oU];rfl
 ·rintro D h1 w aa ⟨A,c,rfl⟩;rw[z];(repeat'(first|refine AH ?_|fail))
  all_goals
   refine EE (enc:=Dv) (e:=42) (sz:=3) (n:=(Df l).length) (xs:=Ik (Df l)) Ke (VX _) Bh ?_
   intro af ai ak ap y ac hs9
   cases y
   refine Oq (Ob rfl Bh (NQ (rs:=[.cell 4 80]) (vs:=[.slice A (Df l).length c]) rfl rfl ⟨⟨_,rfl,JS rfl Bc rfl⟩,trivial⟩ (Hi _) ⟨rfl,⟨⟨A,(Df l).length,c⟩,Ik (Df l)⟩,rfl,⟨lU (Qo l) hs9,ac⟩,Ab2 _⟩))
def VM (n:Nat):Int:=(((List.range 8).filter λi=>n.testBit i).length:Nat)
def Aty:∀n:Nat,n<129→2≤n→(VM n=1↔Fv n):=by decide +kernel
def Tv (q:Int):0≤IntKind.u64.wrap q∧IntKind.u64.wrap q<18446744073709551616:=by rw[Aeb];omega
def Rs {C:Bu}{l:AW}{h:U}{ty:TypeId}{pos:String}{aft:Cw}{gd:Cq}{dst:CK}{t ty':TypeId}{x y:Operand}{k:IntKind}{i p:Int}{n:Nat}(hx:AJ l x=some (.int .u64 p))(hy:AJ l y=some (.int k i))(hi:i=(n:Int))(hp:0≤p∧p<18446744073709551616) :
  DN C l [] h ⟨dst,.binOp .shr t x y ty',ty,pos,aft,gd⟩ (.int .u64 ((p.toNat >>>n:Nat):Int)):=by
 have e:(((BitVec.ofNat 64 p.toNat).toNat:Nat):Int)=p:=by rw[BitVec.toNat_ofNat,X' J];omega
 have h1:=Aw3 (C:=C) (l:=l) (h:=h) (ty:=ty) (pos:=pos) (aft:=aft) (gd:=gd) (dst:=dst) (t:=t) (ty':=ty') (x:=x) (y:=y) (a:=BitVec.ofNat 64 p.toNat) (by rw[hx];show some (Value.int .u64 p)=some (.int .u64 (((BitVec.ofNat 64 p.toNat).toNat:Nat):Int));rw[e]) hy hi
 have e2:(BitVec.ofNat 64 p.toNat >>>n).toNat=p.toNat >>>n:=by rw[A09,BitVec.toNat_ofNat,X' J]
 have h3:DN C l [] h ⟨dst,.binOp .shr t x y ty',ty,pos,aft,gd⟩ (.int .u64 (((BitVec.ofNat 64 p.toNat >>>n).toNat:Nat):Int)):=h1
 rw[e2]at h3
 exact h3
def Al3 (h:U)(n:Nat)(hn:n<129):Aq prog 75 #[.int .u64 (n:Int)] h (O (VM n)):=by
 refine AK func75 λw0 X0=>?_;(repeat'(first|refine Ba ?_|(refine Z (by apply Rs (n:=1);(iterate 3 exact F);(constructor<;>omega)) ?_)|(refine Z (by apply Rs (n:=2);(iterate 3 exact F);exact Tv _) ?_)|(refine Z (by apply Rs (n:=4);(iterate 3 exact F);exact Tv _) ?_)|(refine Z (by apply Rs (n:=8);(iterate 3 exact F);exact Tv _) ?_)|(refine Z (by apply Rs (n:=16);(iterate 3 exact F);exact Tv _) ?_)|(refine Z (by apply Rs (n:=32);(iterate 3 exact F);exact Tv _) ?_)|refine Eo ?_|fail))
 all_goals first
  |(refine BS rfl rfl rfl ?_;congr 1;clear h w0 X0;revert hn;revert n;decide +kernel)
def Al2 (h:U)(n:Nat)(hn:n<129):Aq prog 30 #[.int .u64 (n:Int)] h (O (VM n)):=by refine AK func30 λ_ _=>?_;have hv:=Al3 h n hn;(repeat'(first|refine Aa ?_|(refine Ac ?_;first|(apply Aw;exact F;exact Ab func75;exact hv))|(refine Y ?_ ?_<;>intro hc<;>try omega)|refine Bm ?_|fail));all_goals rfl
def vF {cs:AC}{t:AT}(h:¬EN t):DA cs t=(Gf,210):=by unfold DA;rw[if_neg h]
def Wb {cs:AC}{t:AT}(h:EN t)(k:¬(Fv cs.length∧Er cs)):DA cs t=(Gf,190):=by unfold DA;rw[if_pos h,if_neg k]
def Aap {cs:AC}{t:AT}(h:EN t)(k:Fv cs.length∧Er cs):DA cs t=(⟨t,[Df cs]⟩,0):=by unfold DA;rw[if_pos h,if_pos k]
def Gu (h:U)(e:Int):KJ h (.tuple #[Jh Cl Rh,O e]) Gf e:=⟨Cl,[],rfl,HE.zero h⟩
def yA {h:U}{b:Nat}{r:FT}{t:AT}{l:CM}(hs:Ai Ez 1 h (some (Av b)) 1 [r])(hr:IY h r)(a:AZ r.2=l):KJ h (.tuple #[Jh ⟨some (Av b),1,1⟩ t,O 0]) ⟨t,[l]⟩ 0:=
 ⟨⟨some (Av b),1,1⟩,[r],rfl,⟨⟨hs,λq hq=>by rw[Bk]at hq;rw[hq];exact hr⟩,by unfold rounds;rw[CW,Jv,a],BU _⟩⟩
def SY (h:U)(A:At)(n c:Nat)(cs:AC)(t:AT)(hx:Ai AQ 1 h A n cs)(hnc:n≤c):Az prog 11 #[.slice A n c,GF t] h (λu h'=>KJ h' u (DA cs t).1 (DA cs t).2):=by
 refine BB func11 λ_ _=>?_;have l:=hx.len;have hr:=TG h t;by_cases hT:EN t
 ·rw[decide_eq_true hT]at hr;by_cases s:2≤n∧n≤128
  ·obtain⟨v,z⟩:=s;have g:=λh'=>Al2 h' n J;have b:=Aty n J v;have hdi:=λh' (f:V h h')=>Axq h' A n c cs (hx.le f) J;have hpa:=λh' (f:V h h')=>jN h' A n c cs (hx.le f) hnc J;generalize VM n=q at *;by_cases hp:Fv n
   ·have i:=b.2 hp;by_cases a:Er cs
    ·rw[Aap hT ⟨by rw[l];exact hp,a⟩];simp only[decide_eq_true a]at hdi;dsimp only;clear b hp a hx;(repeat'(first|refine Ba ?_|(apply AE;(iterate 3 exact F);apply Ci (e:=24);exact F;intro b3)|(apply AE;(iterate 3 exact F);apply Bo (e:=29);exact F;intro d)|refine Z bU ?_|refine BF ?_|(refine Ac ?_;first|(refine Ma ?_)|(apply Aw;exact F;exact Ab func30;exact g _)|(refine rB ?_;rintro w h2 m rfl))|(apply AU (n:=6) 7 [0,1,99,2,3,99,4,99,5,99,6];kernel_rfl)|(refine Bn ?_;first|(refine cM ?_;rintro v3 h3 o ⟨r,rfl,p,hd3⟩;refine⟨o,Ak,?_⟩)|(refine rJ ?_;intro x y j hs5;refine⟨j,Ak,?_⟩))|(refine Y ?_ ?_<;>intro hc<;>try omega)|refine AF ?_|(refine AG ?_ ?_<;>intro hc<;>try omega)|fail))
     all_goals first
      |(exfalso;simp at hc;done)
      |omega
      |(exact Dl rfl rfl rfl Bc rfl rfl rfl (yA hs5 (p.le j) hd3))
    ·rw[Wb hT (λk=>a k.2)];simp only[decide_eq_false a]at hdi;dsimp only;clear b hp a hx hpa;(repeat'(first|refine Ba ?_|(apply AE;(iterate 3 exact F);apply Ci (e:=24);exact F;intro b3)|(apply AE;(iterate 3 exact F);apply Bo (e:=29);exact F;intro d)|refine Z bU ?_|refine BF ?_|(refine Ac ?_;first|(refine Ma ?_)|(apply Aw;exact F;exact Ab func30;exact g _)|(refine rB ?_;rintro w h2 m rfl))|(refine Y ?_ ?_<;>intro hc<;>try omega)|refine AF ?_|(refine AG ?_ ?_<;>intro hc<;>try omega)|fail))
     all_goals first
      |(exfalso;simp at hc;done)
      |omega
      |(exact Dl rfl rfl rfl Bc rfl rfl rfl (Gu _ _))
   ·have i:=λk=>hp (b.1 k);rw[Wb hT (λk=>hp (l▸k.1))];dsimp only;clear b hp hx hpa hdi;(repeat'(first|refine Ba ?_|(apply AE;(iterate 3 exact F);apply Ci (e:=24);exact F;intro b3)|(apply AE;(iterate 3 exact F);apply Bo (e:=29);exact F;intro d)|refine Z bU ?_|refine BF ?_|(refine Ac ?_;first|(refine Ma ?_)|(apply Aw;exact F;exact Ab func30;exact g _)|(exfalso;exact i Cn))|(refine Y ?_ ?_<;>intro hc<;>try omega)|refine AF ?_|(refine AG ?_ ?_<;>intro hc<;>try omega)|fail))
    all_goals first
     |(exfalso;simp at hc;done)
     |omega
     |(exfalso;exact i Cn)
     |(exact Dl rfl rfl rfl Bc rfl rfl rfl (Gu _ _))
  ·rw[Wb hT (λk=>by have:=k.1;unfold Fv at this;omega)];dsimp only;(repeat'(first|refine Ba ?_|(apply AE;(iterate 3 exact F);apply Ci (e:=24);exact F;intro b3)|(apply AE;(iterate 3 exact F);apply Bo (e:=29);exact F;intro d)|refine BF ?_|(refine Ac ?_;first|(refine Ma ?_))|(refine Y ?_ ?_<;>intro hc<;>try omega)|refine AF ?_|(refine AG ?_ ?_<;>intro hc<;>try omega)|fail))
   all_goals first
    |(exfalso;simp at hc;done)
    |omega
    |(exact Dl rfl rfl rfl Bc rfl rfl rfl (Gu _ _))
 ·rw[decide_eq_false hT]at hr;rw[vF hT];dsimp only;(repeat'(first|refine Ba ?_|(apply AE;(iterate 3 exact F);apply Ci (e:=24);exact F;intro b3)|(apply AE;(iterate 3 exact F);apply Bo (e:=29);exact F;intro d)|refine BF ?_|(refine Ac ?_;first|(refine Ma ?_))|(refine Y ?_ ?_<;>intro hc<;>try omega)|fail))
  all_goals first
   |(exfalso;simp at hc;done)
   |omega
   |(exact Dl rfl rfl rfl Bc rfl rfl rfl (Gu _ _))
def gG {l:CM}{t:AT}{cs:AC}(h:Fp l t=some cs):Ej l t=if 2≤cs.length then some (Df cs)else none:=by unfold Ej;rw[h]
def Wc {l:CM}{t:AT}(h:Fp l t=none):Ej l t=none:=by unfold Ej;rw[h]
def vN (h:U)(A:At)(n c:Nat)(l:Fj)(t:AT)(hx:Qs h A n l)(hn:n≤128)(hg:∀p∈l,FM h p.1 p.2) :
  Az prog 44 #[.slice A n c,GF t] h (λu h'=>∃r:FT,u=.tuple #[.slice r.1.A r.1.n r.1.c,.bool (Ej (AZ l) t).isSome]∧IY h' r∧∀m,Ej (AZ l) t=some m→AZ r.2=m):=by
 refine BB func44 λ_ _=>?_
 have ak:=hx.row.len
 have z:=hx.row
 refine FN 3 1 ?_
 repeat'(first|refine Ba ?_|(apply AE;(iterate 3 exact F);apply Ci (e:=24);exact F;intro b3)|refine Eo ?_|fail)
 refine Bg (X:=Nat×AC×At×Nat×U) (λx=>x.1≤n∧V h x.2.2.2.2∧Fp (AZ (l.take x.1)) t=some x.2.1) (λx=>n-x.1)
  (λx=>[(13,O x.1),(12,O n),(11,.slice A n c),(6,.slice x.2.2.1 x.1 x.2.2.2.1),(3,DP b3)])
  (λx=>[Ap b3 24 (Mw t),Ar 3 1 (.slice x.2.2.1 x.1 x.2.2.2.1) x.1 (x.2.1.flatMap AQ)]) (λx=>x.2.2.2.2) (0,[],none,0,h) ⟨Ah,V.refl _,rfl⟩ Af Ad rfl ?_
 rintro⟨k,cs,aa,c1,h1⟩ ⟨ah,b,hw⟩ i
 dsimp only at ah b hw i ⊢
 have an:=QK hw
 rw[GD,CF]at an
 by_cases j:k<n
 · have a1:=z.addrD j
   have c7:Au h1 ((addrD A).add (k*Iq.size)) (Dv (l.getD k BE)):=(z.cellsD BE j).le b
   have ad:=BY BE (xs:=l) ak j
   have hm:=Ce BE (show k<l.length by omega)
   generalize l.getD k BE=p at *
   have hgp:=(hg p hm).le b
   have hwi:=Tu h1 p.1 p.2 t hgp
   obtain⟨ps,pd⟩:=p
   dsimp only at hgp hwi
   have hsn:AZ (l.take (k+1))=AZ (l.take k)++[pd]:=by rw[ad,QT]
   have a:=aN (t:=t) pd (AZ (l.take k))
   rw[hw,←hsn]at a
   have al:pd∈AZ l:=CZ.2 ⟨(ps,pd),hm,rfl⟩
   cases g:Dd pd t with
   |none=>
     have v:Ej (AZ l) t=none:=Wc (Adh al g)
     obtain⟨q,hq⟩:=Oo g
     rw[hq]at hwi
     clear i a hq
     repeat'(first|refine Ba ?_|(apply AE;(iterate 3 exact F);apply Bo (e:=42);exact F;intro ab)|refine BF ?_|refine Z Bf ?_|refine Z NV ?_|(refine Ac ?_;first|(apply AR;exact F;exact Ab func29;exact hwi;rintro o h2 d rfl))|(refine Y ?_ ?_<;>intro hc<;>try omega)|fail)
     all_goals first
      |(exfalso;simp at hc;done)
      |(refine EG rfl rfl rfl rfl ⟨(Cl,[]),by rw[v];rfl,⟨⟨Ai.nil,λp hp=>absurd hp An⟩,BU _⟩,λm e=>by rw[v]at e;cases e⟩)
   |some w=>
     rw[QJ g]at hwi
     rw[g]at a
     dsimp only at a
     repeat'(first|refine Ba ?_|(apply AE;(iterate 3 exact F);apply Bo (e:=42);exact F;intro ab)|refine BF ?_|refine Z Bf ?_|refine Z NV ?_|(refine Ac ?_;first|(apply AR;exact F;exact Ab func29;exact hwi;rintro o h2 d rfl)|(refine sL ?_;intro ap ae aj hs5)|(refine Xp ?_;intro A5 c5))|(refine Y ?_ ?_<;>intro hc<;>try omega)|fail)
     all_goals first
      |(exfalso;simp at hc;done)
      |(
         have h3:=i (k+1,cs++[w],A5,c5,ae) ⟨Ah,b.trans (d.trans aj),a⟩ Ah
         refine AB Af Ad h3)
 · rw[By J]at hw
   have ek:k=n:=by omega
   subst ek
   clear i
   have ag:cs.length=k:=by omega
   have f:=gG hw
   refine EE (enc:=AQ) (e:=3) (sz:=1) (n:=k) (xs:=cs) (λ_=>rfl) ag Bh ?_
   intro ao c7 af aq ac am hs7
   cases ac
   have hpa:=λh' (ai:V af h')=>jN h' aa k c1 cs (hs7.le ai) am J
   by_cases s:2≤cs.length
   · rw[if_pos s]at f
     rw[f]
     repeat'(first|refine Aa ?_|(refine Ac ?_;first|(refine cM ?_;rintro o h2 d ⟨r,rfl,hr,y⟩))|(refine Y ?_ ?_<;>intro hc<;>try omega)|fail)
     all_goals first
      |omega
      |(refine EG rfl rfl rfl rfl ⟨r,?_,hr,λm e=>by cases e;exact y⟩;rw[(GV _ _).mpr J];rfl)
   · rw[if_neg s]at f
     rw[f]
     repeat'(first|refine Aa ?_|(refine Ac ?_;first|(refine cM ?_;rintro o h2 d ⟨r,rfl,hr,y⟩))|(refine Y ?_ ?_<;>intro hc<;>try omega)|fail)
     all_goals first
      |omega
      |(refine EG rfl rfl rfl rfl ⟨r,?_,hr,λm e=>by cases e⟩;rw[(SZ _ _).mpr J];rfl)
end Go.Hw
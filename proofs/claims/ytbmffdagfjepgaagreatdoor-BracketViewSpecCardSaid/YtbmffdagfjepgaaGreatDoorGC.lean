import Derived.Test.YtbmffdagfjepgaaGreatDoorGB
set_option linter.all false
set_option maxRecDepth 100000
set_option maxHeartbeats 4000000
namespace Go.Hw
open Go
attribute [local irreducible] AI Bz BV Aq AP Az Au CH Ap Ar BG Cm BP Dg
open Go.Proofs.Tryz
def Mq (a:Bj) (u:Ao) (h:U):Prop:=∃v,u=[Et v]∧DO 4 h v a
def Bi.nil {α c:Type}{P:α→c→Prop}:Bi P [] []:=⟨rfl,λi a b h=>by simp at h⟩
def Bi.cons {α c:Type}{P:α→c→Prop}{l:List α}{m:List c}{a:α}{b:c}(h:P a b)(z:Bi P l m):Bi P (a::l) (b::m):=by refine⟨by simp[z.1],λi x y h1 h2=>?_⟩;cases i with|zero=>(rw[QN]at h1 h2;injection h1 with h1;injection h2 with h2;subst h1;subst h2;exact h)|succ i=>rw[Sp]at h1 h2;exact z.2 i x y h1 h2
def WE {α:Type}(d:α){l:List α}{k n:Nat}(b:l.length=n)(a:k<n):l=l.take k++l.getD k d::l.drop (k+1):=by rw[←Lt d b a,GW]
def PB (xs:Hr)(lid:Nat)(I Ix:Hr→Am→U→Prop)(aa:∀pre Es h1 h2,V h1 h2→I pre Es h1→I pre Es h2)(h:U)
  (s:∀pre x post u Es h1,xs=pre++x::post→V h h1→Mq x u h1→I pre Es h1→Dg prog lid u Es h1 λv Es' h'=>(v=.bool true∧I (pre++[x]) Es' h')∨(v=.bool false∧Ix (pre++[x]) Es' h'))
  (A:At) (n c:Nat) (vs:KH) (hx:Ai Cp 5 h A n vs) (j:Bi (DO 4 h) vs xs) (hn:n≤1000000) (e:Nat) (hy:Au h (Av e) [.func (.yield lid) #[] #[]]) (Es:Am) (h0:I [] Es h) :
  AP prog 198 #[.slice A n c,AD e] Es h λv Es' h'=>I xs Es' h'∨∃pre post,xs=pre++post∧Ix pre Es' h':=by
 refine Cx func198 λ_ _=>?_
 have y:=hx.len
 have z:=j.1
 repeat'(first|refine Aa ?_|fail)
 refine Pd (X:=Nat×Am×U) (λx=>x.1≤n∧V h x.2.2∧I (xs.take x.1) x.2.1 x.2.2) (λx=>n-x.1) (λx=>[(7,O x.1),(6,O n),(5,.slice A n c),(1,AD e)])
  (λx=>x.2.1) (λx=>x.2.2) (0,Es,h) ⟨J,V.refl _,h0⟩ Af rfl rfl ?_
 rintro⟨k,g,p⟩ ⟨q,hlk,a⟩ m
 dsimp only at q hlk a m ⊢
 by_cases hkn2:k<n
 · have a1:=hx.addrD hkn2
   have c1:=(hx.cellsD FY hkn2).le hlk
   have o:=BY [] (xs:=xs) rfl (show k<xs.length by omega)
   have t:=WE [] (l:=xs) rfl (show k<xs.length by omega)
   have w:=hy.le hlk
   have hv:=(j.2 k _ _ (by simp[List.getD,Bw (show k<vs.length by omega)]) (by simp[List.getD,Bw (show k<xs.length by omega)]):DO 4 h (vs.getD k FY) (xs.getD k []))
   generalize vs.getD k FY=u at *
   have i:=s (xs.take k) (xs.getD k []) (xs.drop (k+1)) [Et u] g p t hlk ⟨u,rfl,hv.le hlk⟩ a
   rw[←o]at i
   repeat'(first|refine AH ?_|refine Z Bf ?_|refine Z BN ?_|(refine Z (by apply BA;exact F;exact BH rfl w rfl) ?_)|(refine Aj ?_;intro b)|(refine Ac ?_;first|(refine Nj (JW (l₁:=[_])) ?_;apply QR (Es0:=g) (Fs:=[_]);(iterate 3 exact F);exact i;rintro v d h2 r (⟨rfl,f⟩|⟨rfl,f⟩);all_goals skip))|(refine Y ?_ ?_<;>intro hc<;>try omega)|fail)
   all_goals first
    |(
       have h3:=m (k+1,d,h2) ⟨by show k+1≤n;omega,hlk.trans r,f⟩ NT
       refine Lc (JW (l₁:=d) (l₂:=[_])) (HM .here ?_)
       exact Jz Af h3)
    |(
       refine Me (rs:=[]) (vs:=[]) (Fs:=d) rfl rfl trivial (Pm _ _) (.inr ⟨xs.take (k+1),xs.drop (k+1),?_,f⟩)
       rw[GW])
 · rw[By J]at a
   repeat'(first|refine Aa ?_|(refine Y ?_ ?_<;>intro hc<;>try omega)|fail)
   exact FK (rs:=[]) (vs:=[]) rfl rfl trivial (.inl a)
def CD (f:Al):List (Bj):=
 if f.kind=1 then[Bl f.eS,Bl f.eC,DK f.eClubs,Du f.eRules]
 else if f.kind=2 then[DK (GU f.fg),Bl f.venue]
 else if f.kind=3 then[DK (GU f.sh.g),Bl f.sh.ref,Bl f.sh.hg,Bl f.sh.ag,Bl f.sh.hp,Bl f.sh.ap,DK f.sh.hs,DK f.sh.asn,IU f.sh.hc,IU f.sh.ac]
 else if f.kind=4 then[Bl f.ru.case,Bl f.ru.inst,Bl f.ru.kind,DK (GU f.ru.g),Bl f.ru.club,Bl f.ru.player,Bl f.ru.season,Bl f.ru.comp,Bl f.ru.points,Bl f.ru.amount,Bl f.ru.hg,Bl f.ru.ag,Bl f.ru.lo,Bl f.ru.hi]
 else if f.kind=5 then[Bl f.aCase,Bl f.aInst,Bl (if f.aSusp then 1 else 0)]
 else if f.kind=6 then[Bl f.mP,Bl f.mTo]
 else if f.kind=7 then[Bl f.lS,Bl f.lC,DK f.lO]
 else[Du f.void]
def Ab3 (f:Al):(CD f).flatten=RC f:=by unfold CD RC NB;split;{simp};{split;{simp};{split;{simp};{split;{simp};{split;{simp};{split;{simp};{split;{simp};{simp}}}}}}}
def Ls {n m:Int}(h:AY n m)(hm:m≤9223372036854775807):Bb n:=by unfold AY at h;unfold Bb;omega
def JT {g:AL}(h:DL g):IL g:=⟨Ls h.1 J,Ls h.2.1 J,Ls h.2.2.1 J,Ls h.2.2.2.1 J⟩
def Kc:IL Ga:=by unfold IL Ga Bb;simp
def Aq2 (h:U)(s:AA)(f:Al)(hf:Cr h s f)(hs:Ih f)(a:Nat)(m:Au h (Av a) (CS s f))(e:f.kind=1)(ab:Bb f.eS)(ac:Bb f.eC)(i3:∀x∈f.eClubs,Bb x):HB prog 197 [AD a] Mq (CD f) h:=by
 (have aa:CD f=[Bl f.eS,Bl f.eC,DK f.eClubs,Du f.eRules]:=by unfold CD;rw[e];rfl);rw[aa];intro lid I Ix g ai y Es h1 c h0;refine Cx func197 λ_ _=>?_;have hb1:=m.le c;have hf1:=hf.le c;obtain⟨aj,ak,n3,al,am,n6⟩:=hf.small1 hs;(repeat'(first|refine Aa ?_|refine Z Cb ?_|(refine Aj ?_;intro b)|(apply AU (n:=4) 19 [0,1,2,3,5,6,7,9,10,11,13,14,15,99,4,8,12,16,17,18];kernel_rfl)|(apply Be;exact Bd;exact Cb;exact AX)|(refine Bn ?_;first|(apply AR;exact F;exact Ab func199;exact Rw (d:=2) _ _ _ _ f.eClubs (hf1.cl.le Ag) J i3;rintro ao ag t ⟨va,rfl,z⟩;refine⟨t,Ak,?_⟩)|(refine sR ?_;intro ae ah v hsl;refine⟨v,Ak,?_⟩)|(refine Gt Bh ?_;intro k q o;apply LN (f:=198) (fs:=[]) (cs:=[AD _]) (Es0:=Es) (Fs:=[]);exact F;exact F;exact(DR _).symm;exact Ab func198;exact PB _ lid I Ix g k (λpre x post u i h2 j p hr l=>y pre x post u i h2 j (V.trans Ag p) hr l) _ _ _ _ (hsl.le Ag) (Bi.cons (CT ab) (Bi.cons (CT ac) (Bi.cons (z.le Ag) (Bi.cons (Wu) Bi.nil)))) J _ o Es (g _ _ _ _ Ag h0);intro an ad af r w;refine⟨q.trans r,Ak,?_⟩)|(apply Aw;exact F;exact Ab func147;exact QC _ _;refine⟨V.refl _,Ak,?_⟩)|(apply Aw;exact F;exact Ab func200;exact iT _ _;refine⟨V.refl _,Ak,?_⟩))|(refine Y ?_ ?_<;>intro hc<;>try omega)|fail));(all_goals try omega)
 all_goals
  rw[DR]
  exact FK (rs:=[]) (vs:=[]) rfl rfl trivial w
def Aq1 (h:U)(s:AA)(f:Al)(hf:Cr h s f)(hs:Ih f)(a:Nat)(m:Au h (Av a) (CS s f))(e:f.kind=2)(ab:IL f.fg)(ac:Bb f.venue):HB prog 197 [AD a] Mq (CD f) h:=by
 (have aa:CD f=[DK (GU f.fg),Bl f.venue]:=by unfold CD;rw[e];rfl);rw[aa];intro lid I Ix g ai y Es h1 c h0;refine Cx func197 λ_ _=>?_;have hb1:=m.le c;have hf1:=hf.le c;obtain⟨aj,ak,n3,al,am,n6⟩:=hf.small1 hs;(repeat'(first|refine Aa ?_|refine Z Cb ?_|(refine Aj ?_;intro b)|(apply AU (n:=6) 11 [0,1,2,3,5,6,7,99,4,8,9,10];kernel_rfl)|(apply Be;exact Bd;exact Cb;exact AX)|(refine Bn ?_;first|(apply AR;exact F;exact Ab func201;exact YL (d:=2) _ f.fg ab;rintro ao ag t ⟨va,rfl,z⟩;refine⟨t,Ak,?_⟩)|(refine rU ?_;intro ae ah v hsl;refine⟨v,Ak,?_⟩)|(refine Gt Bh ?_;intro k q o;apply LN (f:=198) (fs:=[]) (cs:=[AD _]) (Es0:=Es) (Fs:=[]);exact F;exact F;exact(DR _).symm;exact Ab func198;exact PB _ lid I Ix g k (λpre x post u i h2 j p hr l=>y pre x post u i h2 j (V.trans Ag p) hr l) _ _ _ _ (hsl.le Ag) (Bi.cons (z.le Ag) (Bi.cons (CT ac) Bi.nil)) J _ o Es (g _ _ _ _ Ag h0);intro an ad af r w;refine⟨q.trans r,Ak,?_⟩)|(apply Aw;exact F;exact Ab func147;exact QC _ _;refine⟨V.refl _,Ak,?_⟩))|(refine Y ?_ ?_<;>intro hc<;>try omega)|fail));(all_goals try omega)
 all_goals
  rw[DR]
  exact FK (rs:=[]) (vs:=[]) rfl rfl trivial w
def Aqx (h:U)(s:AA)(f:Al)(hf:Cr h s f)(hs:Ih f)(a:Nat)(l:Au h (Av a) (CS s f))(e:f.kind=6)(y:Bb f.mP)(z:Bb f.mTo):HB prog 197 [AD a] Mq (CD f) h:=by
 (have w:CD f=[Bl f.mP,Bl f.mTo]:=by unfold CD;rw[e];rfl);rw[w];intro lid I Ix d ae v Es h1 c h0;refine Cx func197 λ_ _=>?_;have hb1:=l.le c;have hf1:=hf.le c;obtain⟨af,ag,n3,ah,ai,n6⟩:=hf.small1 hs;(repeat'(first|refine Aa ?_|refine Z Cb ?_|(refine Aj ?_;intro b)|(apply AU (n:=17) 11 [0,1,2,3,5,6,7,99,4,8,9,10];kernel_rfl)|(apply Be;exact Bd;exact Cb;exact AX)|(refine Bn ?_;first|(apply DE (enc:=Cp) (n:=2) [DT f.mP,DT f.mTo];(iterate 3 exact F);exact Cf _ _;(iterate 4 exact F);exact Fy;exact F;exact F;intro ab ad r hsl;refine⟨r,Ak,?_⟩)|(refine Gt Bh ?_;intro j p m;apply LN (f:=198) (fs:=[]) (cs:=[AD _]) (Es0:=Es) (Fs:=[]);exact F;exact F;exact(DR _).symm;exact Ab func198;exact PB _ lid I Ix d j (λpre x post u g h2 i o hr k=>v pre x post u g h2 i (V.trans Ag o) hr k) _ _ _ _ (hsl.le Ag) (Bi.cons (CT y) (Bi.cons (CT z) Bi.nil)) J _ m Es (d _ _ _ _ Ag h0);intro aj aa ac q t;refine⟨p.trans q,Ak,?_⟩)|(apply Aw;exact F;exact Ab func147;exact QC _ _;refine⟨V.refl _,Ak,?_⟩))|(refine Y ?_ ?_<;>intro hc<;>try omega)|fail));(all_goals try omega)
 all_goals
  rw[DR]
  exact FK (rs:=[]) (vs:=[]) rfl rfl trivial t
def Aqw (h:U)(s:AA)(f:Al)(hf:Cr h s f)(hs:Ih f)(a:Nat)(m:Au h (Av a) (CS s f))(e:f.kind=7)(ab:Bb f.lS)(ac:Bb f.lC)(i3:∀x∈f.lO,Bb x):HB prog 197 [AD a] Mq (CD f) h:=by
 (have aa:CD f=[Bl f.lS,Bl f.lC,DK f.lO]:=by unfold CD;rw[e];rfl);rw[aa];intro lid I Ix g ai y Es h1 c h0;refine Cx func197 λ_ _=>?_;have hb1:=m.le c;have hf1:=hf.le c;obtain⟨aj,ak,n3,al,am,n6⟩:=hf.small1 hs;(repeat'(first|refine Aa ?_|refine Z Cb ?_|(refine Aj ?_;intro b)|(apply AU (n:=19) 15 [0,1,2,3,5,6,7,9,10,11,99,4,8,12,13,14];kernel_rfl)|(apply Be;exact Bd;exact Cb;exact AX)|(refine Bn ?_;first|(apply AR;exact F;exact Ab func199;exact Rw (d:=2) _ _ _ _ f.lO (hf1.lo.le Ag) J i3;rintro ao ag t ⟨va,rfl,z⟩;refine⟨t,Ak,?_⟩)|(refine sB ?_;intro ae ah v hsl;refine⟨v,Ak,?_⟩)|(refine Gt Bh ?_;intro k q o;apply LN (f:=198) (fs:=[]) (cs:=[AD _]) (Es0:=Es) (Fs:=[]);exact F;exact F;exact(DR _).symm;exact Ab func198;exact PB _ lid I Ix g k (λpre x post u i h2 j p hr l=>y pre x post u i h2 j (V.trans Ag p) hr l) _ _ _ _ (hsl.le Ag) (Bi.cons (CT ab) (Bi.cons (CT ac) (Bi.cons (z.le Ag) Bi.nil))) J _ o Es (g _ _ _ _ Ag h0);intro an ad af r w;refine⟨q.trans r,Ak,?_⟩)|(apply Aw;exact F;exact Ab func147;exact QC _ _;refine⟨V.refl _,Ak,?_⟩))|(refine Y ?_ ?_<;>intro hc<;>try omega)|fail));(all_goals try omega)
 all_goals
  rw[DR]
  exact FK (rs:=[]) (vs:=[]) rfl rfl trivial w
def Awf:∀(v:Bj),v=(List.range v.length).map (λi=>v.getD i 0):=λv=>by
 apply List.ext_getElem An
 intro i h1 h2
 simp[List.getD,Bw h1]
def wA (v:Bj)(hv:v.length=32):PE v=v.flatMap BZ:=by have e:PE v=(List.range 32).map (Ct v):=rfl;rw[e,QU];(conv=>rhs;rw[Awf v,hv,Nc]);rfl
def Aqy (h:U)(s:AA)(f:Al)(hf:Cr h s f)(hs:Ih f)(a:Nat)(l:Au h (Av a) (CS s f))(e:f.kind=5)(w:∀x∈[f.aCase,f.aInst,if f.aSusp then 1 else 0],Bb x):HB prog 197 [AD a] Mq (CD f) h:=by
 (have v:CD f=[Bl f.aCase,Bl f.aInst,Bl (if f.aSusp then 1 else 0)]:=by unfold CD;rw[e];rfl);rw[v];intro lid I Ix d af t Es h1 c h0;refine Cx func197 λ_ _=>?_;have hb1:=l.le c;have hf1:=hf.le c;obtain⟨ag,ah,n3,ai,aj,n6⟩:=hf.small1 hs;(repeat'(first|refine Aa ?_|refine Z Cb ?_|(refine Aj ?_;intro b)|(apply AU (n:=15) 15 [0,1,2,3,4,5,6,7,8,9,99,10,11,12,99,13,99,14];kernel_rfl)|(apply Be;exact Bd;exact Cb;exact AX)|(refine Bn ?_;first|(refine sY ?_;intro aa hi p hcs1;refine⟨p,Ak,?_⟩)|(apply AR;exact F;exact Ab func199;exact YI _ _ 3 3 [f.aCase,f.aInst,if f.aSusp then 1 else 0] (Jc (hcs1.le Ag)) J;rintro al hn q ⟨y,ab,rfl,hsl⟩;refine⟨q,Ak,?_⟩)|(refine Gt Bh ?_;intro j ad m;apply LN (f:=198) (fs:=[]) (cs:=[AD _]) (Es0:=Es) (Fs:=[]);exact F;exact F;exact(DR _).symm;exact Ab func198;exact PB _ lid I Ix d j (λpre x post u g h2 i o hr k=>t pre x post u g h2 i (V.trans Ag o) hr k) _ _ _ ([f.aCase,f.aInst,if f.aSusp then 1 else 0].map DT) (hsl.le Ag) (wD w) An _ m Es (d _ _ _ _ Ag h0);intro ak z ac ae r;refine⟨(by repeat(first|assumption|(apply V.trans;assumption))),Ak,?_⟩)|(apply Aw;exact F;exact Ab func203;exact iR _ _;refine⟨V.refl _,Ak,?_⟩))|(refine Y ?_ ?_<;>intro hc<;>try omega)|fail));(all_goals try omega)
 all_goals
  rw[DR]
  exact FK (rs:=[]) (vs:=[]) rfl rfl trivial r
def Aqv (h:U)(s:AA)(f:Al)(hf:Cr h s f)(hs:Ih f)(a:Nat)(l:Au h (Av a) (CS s f))(e:f.kind=8)  :HB prog 197 [AD a] Mq (CD f) h:=by
 (have q:CD f=[Du f.void]:=by unfold CD;rw[e];rfl);rw[q];intro lid I Ix d ab p Es h1 c h0;refine Cx func197 λ_ _=>?_;have hb1:=l.le c;have hf1:=hf.le c
 have hvs:Ai BZ 1 h1 (some ⟨a,50,none⟩) 32 f.void:=Ai.of_flat (λ_=>rfl) hf.void (by
  have:=hb1.shift 50;rw[GC,Dy]at this
  rw[←wA f.void hf.void];exact this)
 (repeat'(first|refine Aa ?_|(refine Z (by apply Ada;(iterate 4 exact F)) ?_)|refine Z tD ?_|refine Z Cb ?_|(refine Aj ?_;intro b)|(refine Ac ?_;first|(refine rP ?_;intro t aa z hsl)|(refine Gt Bh ?_;intro j w m;apply LN (f:=198) (fs:=[]) (cs:=[AD _]) (Es0:=Es) (Fs:=[]);exact F;exact F;exact(DR _).symm;exact Ab func198;exact PB _ lid I Ix d j (λpre x post u g h2 i n hr k=>p pre x post u g h2 i (V.trans Ag n) hr k) _ _ _ [SH f.void] (hsl.le Ag) (Bi.cons (Wu) Bi.nil) An _ m Es (d _ _ _ _ Ag h0);intro ac r v y o)|(apply Aw;exact F;exact Ab func200;exact iT _ _))|(refine Y ?_ ?_<;>intro hc<;>try omega)|fail));(all_goals try omega)
 all_goals
  rw[DR]
  exact FK (rs:=[]) (vs:=[]) rfl rfl trivial o
def Aq0 (h:U)(s:AA)(f:Al)(hf:Cr h s f)(hs:Ih f)(k:Nat)(ae:Au h (Av k) (CS s f))(e:f.kind=3)(o:IL f.sh.g)(a:∀x∈[f.sh.ref,f.sh.hg,f.sh.ag,f.sh.hp,f.sh.ap],Bb x)(i3:∀x∈f.sh.hs,Bb x)(i4:∀x∈f.sh.asn,Bb x)(i5:∀c∈f.sh.hc,Bb c.p)(aw:∀c∈f.sh.ac,Bb c.p):HB prog 197 [AD k] Mq (CD f) h:=by
 (have av:CD f=[DK (GU f.sh.g),Bl f.sh.ref,Bl f.sh.hg,Bl f.sh.ag,Bl f.sh.hp,Bl f.sh.ap,DK f.sh.hs,DK f.sh.asn,IU f.sh.hc,IU f.sh.ac]:=by unfold CD;rw[e];rfl);rw[av];intro lid I Ix p bb an Es h1 l h0;refine Cx func197 λ_ _=>?_;have hb1:=ae.le l;have hf1:=hf.le l;obtain⟨bc,bd,n3,be,bf,n6⟩:=hf.small1 hs;(repeat'(first|refine AH ?_|refine Z Cb ?_|(refine Aj ?_;intro b)|(apply Da (n:=9) [0,1,2,3,4,5,6,7,8,9,10,11,12,13,14,15,16,17,18,19,20,21,22,23,24,25,26,27,28,29,30,31,32,33] [(0,0),(1,0),(2,0),(5,0),(6,0),(7,0),(8,0),(9,0),(10,0),(11,0),(12,0),(13,0),(14,0),(19,0),(20,0),(22,0),(23,0),(25,0),(26,0),(28,0),(29,0),(3,2),(35,15),(4,2),(11,15),(15,1),(16,1),(17,0),(18,1),(21,1),(24,1),(27,1),(30,1),(31,1),(32,1),(33,1),(4,2),(10,16),(16,1),(17,0),(18,1),(21,1),(24,1),(27,1),(30,1),(31,1),(32,1),(33,1),(17,0),(4,1),(18,1),(21,1),(24,1),(27,1),(30,1),(31,1),(32,1),(33,1),(3,1),(4,2),(10,16),(16,1),(17,0),(18,1),(21,1),(24,1),(27,1),(30,1),(31,1),(32,1),(33,1),(17,0),(4,1),(18,1),(21,1),(24,1),(27,1),(30,1),(31,1),(32,1),(33,1)];kernel_rfl)|(refine Bn ?_;first|(apply AR;exact F;exact Ab func201;exact YL (d:=2) _ f.sh.g o;rintro ay ao j ⟨vg,rfl,m⟩;refine⟨j,Ak,?_⟩)|(refine cR ?_;intro v hi g hcs1;refine⟨g,Ak,?_⟩)|(refine tQ ?_;rintro ax hn i ⟨r,w,rfl,hsn⟩;refine⟨i,Ak,?_⟩)|(apply AR;exact F;exact Ab func199;exact Rw (d:=2) _ _ _ _ f.sh.hs (hf1.sh.hs.le Ag) J i3;rintro bh hp ah ⟨vp,rfl,ap⟩;refine⟨ah,Ak,?_⟩)|(apply AR;exact F;exact Ab func199;exact Rw (d:=2) _ _ _ _ f.sh.asn (hf1.sh.asn.le Ag) J i4;rintro bi hq ai ⟨vq,rfl,aq⟩;refine⟨ai,Ak,?_⟩)|(apply AR;exact F;exact Ab func202;exact iZ (d:=1) _ _ _ _ f.sh.hc (hf1.sh.hc.le Ag) J i5;rintro bj hr aj ⟨vr,rfl,ar⟩;refine⟨aj,Ak,?_⟩)|(apply AR;exact F;exact Ab func202;exact iZ (d:=1) _ _ _ _ f.sh.ac (hf1.sh.ac.le Ag) J aw;rintro bk a' ak ⟨vt,rfl,au⟩;refine⟨ak,Ak,?_⟩)|(refine rN ?_;intro a1 ba al hs4;refine⟨al,Ak,?_⟩)|(refine cB ?_;intro bo;refine⟨V.refl _,Ak,?_⟩)|(refine tU ?_;intro q c2;refine⟨V.refl _,Ak,?_⟩)|(refine tW ?_;intro q c2;refine⟨V.refl _,Ak,?_⟩)|(refine hP (enc:=Cp) (xs:=([vg]++[f.sh.ref,f.sh.hg,f.sh.ag,f.sh.hp,f.sh.ap].map DT++[vp,vq,vr,vt])) Fy rfl Bh ?_;intro az c7 a3 a7 z a9 hsl;injection z with aa _ ab;subst aa;subst ab;refine Gt Bh ?_;intro a4 a8 _;refine Gt Bh ?_;intro ac a5 af;apply LN (f:=198) (fs:=[]) (cs:=[AD _]) (Es0:=Es) (Fs:=[]);exact F;exact F;exact(DR _).symm;exact Ab func198;exact PB _ lid I Ix p ac (λpre x post u t h2 y ag hr ad=>an pre x post u t h2 y (V.trans Ag ag) hr ad) _ _ _ ([vg]++[f.sh.ref,f.sh.hg,f.sh.ag,f.sh.hp,f.sh.ap].map DT++[vp,vq,vr,vt]) (hsl.le Ag) (Bi.cons (m.le Ag) (Bi.cons (CT (a _ An)) (Bi.cons (CT (a _ An)) (Bi.cons (CT (a _ An)) (Bi.cons (CT (a _ An)) (Bi.cons (CT (a _ An)) (Bi.cons (ap.le Ag) (Bi.cons (aq.le Ag) (Bi.cons (ar.le Ag) (Bi.cons (au.le Ag) Bi.nil)))))))))) An _ af Es (p _ _ _ _ Ag h0);intro bg a0 a2 a6 am;refine⟨(by repeat(first|assumption|(apply V.trans;assumption))),Ak,?_⟩))|(apply GQ;kernel_rfl;exact F;exact F)|(apply HP;(iterate 4 exact F);(first|(apply AR;exact F;exact Ab func201;exact YL (d:=2) _ f.sh.g o;rintro ay ao j ⟨vg,rfl,m⟩;refine⟨j,Ak,?_⟩)|(refine cR ?_;intro v hi g hcs1;refine⟨g,Ak,?_⟩)|(refine tQ ?_;rintro ax hn i ⟨r,w,rfl,hsn⟩;refine⟨i,Ak,?_⟩)|(refine cB ?_;intro bo;refine⟨V.refl _,Ak,?_⟩)))|(refine Y ?_ ?_<;>intro hc<;>try omega)|fail));(all_goals try omega)
 all_goals
  rw[DR]
  exact FK (rs:=[]) (vs:=[]) rfl rfl trivial am
def Aqz (h:U)(s:AA)(f:Al)(hf:Cr h s f)(hs:Ih f)(c:Nat)(w:Au h (Av c) (CS s f))(e:f.kind=4)(ai:IL f.ru.g)(a:∀x∈[f.ru.case,f.ru.inst,f.ru.kind],Bb x)(i3:∀x∈[f.ru.club,f.ru.player,f.ru.season,f.ru.comp,f.ru.points,f.ru.amount,f.ru.hg,f.ru.ag,f.ru.lo,f.ru.hi],Bb x):HB prog 197 [AD c] Mq (CD f) h:=by
 (have ah:CD f=[Bl f.ru.case,Bl f.ru.inst,Bl f.ru.kind,DK (GU f.ru.g),Bl f.ru.club,Bl f.ru.player,Bl f.ru.season,Bl f.ru.comp,Bl f.ru.points,Bl f.ru.amount,Bl f.ru.hg,Bl f.ru.ag,Bl f.ru.lo,Bl f.ru.hi]:=by unfold CD;rw[e];rfl);rw[ah];intro lid I Ix j a4 af Es h1 g h0;refine Cx func197 λ_ _=>?_;have hb1:=w.le g;have hf1:=hf.le g;obtain⟨a5,a6,n3,a7,a8,n6⟩:=hf.small1 hs;(repeat'(first|refine AH ?_|refine Z Cb ?_|(refine Aj ?_;intro b)|(refine Ac ?_;first|(refine tR ?_;intro m hi i y)|(apply AR;exact F;exact Ab func199;exact YI _ _ 10 10 [f.ru.club,f.ru.player,f.ru.season,f.ru.comp,f.ru.points,f.ru.amount,f.ru.hg,f.ru.ag,f.ru.lo,f.ru.hi] (Jc (y.le Ag)) J;rintro a' hm a0 ⟨ak,ap,rfl,hsm⟩)|(refine uC ?_;intro k c2)|(refine hP (enc:=Cp) (xs:=([f.ru.case,f.ru.inst,f.ru.kind].map DT++[vg]++[f.ru.club,f.ru.player,f.ru.season,f.ru.comp,f.ru.points,f.ru.amount,f.ru.hg,f.ru.ag,f.ru.lo,f.ru.hi].map DT)) Fy rfl Bh ?_;intro aj c7 au ay p a1 hsl;injection p with q _ r;subst q;subst r;refine Gt Bh ?_;intro av az _;refine Gt Bh ?_;intro t aw z;apply LN (f:=198) (fs:=[]) (cs:=[AD _]) (Es0:=Es) (Fs:=[]);exact F;exact F;exact(DR _).symm;exact Ab func198;exact PB _ lid I Ix j t (λpre x post u l h2 o aa hr v=>af pre x post u l h2 o (V.trans Ag aa) hr v) _ _ _ ([f.ru.case,f.ru.inst,f.ru.kind].map DT++[vg]++[f.ru.club,f.ru.player,f.ru.season,f.ru.comp,f.ru.points,f.ru.amount,f.ru.hg,f.ru.ag,f.ru.lo,f.ru.hi].map DT) (hsl.le Ag) (Bi.cons (CT (a _ An)) (Bi.cons (CT (a _ An)) (Bi.cons (CT (a _ An)) (Bi.cons (ag.le Ag) (Bi.cons (CT (i3 _ An)) (Bi.cons (CT (i3 _ An)) (Bi.cons (CT (i3 _ An)) (Bi.cons (CT (i3 _ An)) (Bi.cons (CT (i3 _ An)) (Bi.cons (CT (i3 _ An)) (Bi.cons (CT (i3 _ An)) (Bi.cons (CT (i3 _ An)) (Bi.cons (CT (i3 _ An)) (Bi.cons (CT (i3 _ An)) Bi.nil)))))))))))))) An _ z Es (j _ _ _ _ Ag h0);intro a9 am ar ax ae))|(apply AU (n:=12) 15 [0,1,2,3,4,5,9,10,99,6,7,99,8,99,11,12,13,99,14];kernel_rfl)|(refine Bn ?_;first|(apply AR;exact F;exact Ab func201;exact YL (d:=2) _ f.ru.g ai;rintro bb a2 ac ⟨vg,rfl,ag⟩;refine⟨ac,Ak,?_⟩)|(refine rS ?_;intro m hi i hcs1;refine⟨i,Ak,?_⟩)|(apply Ed;exact F;exact Ab func199;exact jT _ _ 3 3 [f.ru.case,f.ru.inst,f.ru.kind] (Jc (hcs1.le Ag)) J;exact Ad;rintro ba an hn ab ⟨al,aq,rfl,rfl⟩;refine⟨ab,Ak,?_⟩)|(refine qT ?_;intro ao a3 ad hs4;refine⟨ad,Ak,?_⟩)|(refine tS ?_;intro k c2;refine⟨V.refl _,Ak,?_⟩))|(refine Y ?_ ?_<;>intro hc<;>try omega)|fail));(all_goals try omega)
 all_goals
  rw[DR]
  exact FK (rs:=[]) (vs:=[]) rfl rfl trivial ae
def Aqu (h:U)(s:AA)(f:Al)(hf:Cr h s f)(hs:Eu f)(b:Nat)(d:Au h (Av b) (CS s f))(q:BT f):HB prog 197 [AD b] Mq (CD f) h:=by
 have hs:=q.sm1;have hco:=q.2.2.1;(have p:1≤f.kind∧f.kind≤8:=by{refine JD λp=>(Pi f p).2 hco});have mx:∀{n m:Int},AY n m→m≤1000000→Bb n:=λh1 h2=>Ls h1 J;(have:f.kind=1∨f.kind=2∨f.kind=3∨f.kind=4∨f.kind=5∨f.kind=6∨f.kind=7∨f.kind=8:=by omega);(have o:∀{n:Int},n=0→Bb n:=λh=>by subst h;unfold Bb;omega);rcases this with e|e|e|e|e|e|e|e;{rw[EW,if_pos e]at hco;exact Aq2 h s f hf hs b d e (mx hco.1 J) (mx hco.2.1 J) (λx hx=>mx (hco.2.2.1.2.2 x hx) J)};{rw[EW,if_neg J,if_pos e]at hco;exact Aq1 h s f hf hs b d e (JT hco.1) (mx hco.2 J)}
 ·rw[EW,if_neg J,if_neg J,if_pos e]at hco;obtain⟨g1,r,t,u,v,k,l,w,Jg,aa⟩:=hco;refine Aq0 h s f hf hs b d e (JT g1) ?_ (λx hx=>mx (k.2.1 x hx) J) (λx hx=>mx (l.2.1 x hx) J) (λc hc=>mx (k.2.1 _ (w.2 c hc)) J) (λc hc=>mx (l.2.1 _ (Jg.2 c hc)) J);intro x hx
  have hp:Bb f.sh.hp∧Bb f.sh.ap:=by
   rcases v with⟨i,j⟩|⟨_,i,j,_⟩;{exact⟨o i,o j⟩};{exact⟨mx i J,mx j J⟩}
  simp only[Bx,JX,or_false]at hx;rcases hx with rfl|rfl|rfl|rfl|rfl;{exact mx r J};{exact mx t J};{exact mx u J};{exact hp.1};{exact hp.2}
 ·rw[EW,if_neg J,if_neg J,if_neg J,if_pos e]at hco;obtain⟨ab,r2,ac,ad,a,y⟩:=hco
  have g:IL f.ru.g∧∀x∈[f.ru.kind,f.ru.club,f.ru.player,f.ru.season,f.ru.comp,f.ru.points,f.ru.amount,f.ru.hg,f.ru.ag,f.ru.lo,f.ru.hi],Bb x:=by
   rw[←y];(have z:Bb 0:=by unfold Bb;omega);unfold GY at a;unfold GO;unfold IT AY at a;by_cases k1:f.ru.kind=1;{rw[if_pos k1]at a ⊢;refine⟨JT a.1,λx hx=>?_⟩;have:=a.1;unfold DL AY at this;simp[DB]at hx;unfold Bb;omega};rw[if_neg k1]at a ⊢;by_cases k1:f.ru.kind=2;{rw[if_pos k1]at a ⊢;refine⟨JT a,λx hx=>?_⟩;simp[DB]at hx;unfold Bb;omega};rw[if_neg k1]at a ⊢;by_cases k1:f.ru.kind=3;{rw[if_pos k1]at a ⊢;refine⟨JT a.1,λx hx=>?_⟩;simp[DB]at hx;unfold Bb;omega};rw[if_neg k1]at a ⊢;by_cases k1:f.ru.kind=4;{rw[if_pos k1]at a ⊢;refine⟨Kc,λx hx=>?_⟩;simp[DB]at hx;unfold Bb;omega};rw[if_neg k1]at a ⊢;by_cases k1:f.ru.kind=5;{rw[if_pos k1]at a ⊢;refine⟨Kc,λx hx=>?_⟩;simp[DB]at hx;unfold Bb;omega};rw[if_neg k1]at a ⊢;by_cases k1:f.ru.kind=6;{rw[if_pos k1]at a ⊢;refine⟨Kc,λx hx=>?_⟩;simp[DB]at hx;unfold Bb;omega};rw[if_neg k1]at a ⊢;by_cases k1:f.ru.kind=7;{rw[if_pos k1]at a ⊢;refine⟨Kc,λx hx=>?_⟩;simp[DB]at hx;unfold Bb;omega};rw[if_neg k1]at a ⊢;refine⟨Kc,λx hx=>?_⟩;simp[DB]at hx;unfold Bb;omega
  refine Aqz h s f hf hs b d e g.1 (λx hx=>?_) (λx hx=>g.2 x (Ey _ hx));simp only[Bx,JX,or_false]at hx;rcases hx with rfl|rfl|rfl;{unfold Bb;omega};{unfold Bb;omega};{exact g.2 _ An}
 {rw[EW,if_neg J,if_neg J,if_neg J,if_neg J,if_pos e]at hco;refine Aqy h s f hf hs b d e λx hx=>?_;simp only[Bx,JX,or_false]at hx;rcases hx with rfl|rfl|rfl;{unfold Bb;omega};{unfold Bb;omega};{unfold Bb;split<;>omega}};{rw[EW,if_neg J,if_neg J,if_neg J,if_neg J,if_neg J,if_pos e]at hco;exact Aqx h s f hf hs b d e (mx hco.1 J) bZ};{rw[EW,if_neg J,if_neg J,if_neg J,if_neg J,if_neg J,if_neg J,if_pos e]at hco;exact Aqw h s f hf hs b d e (mx hco.1 J) (mx hco.2.1 J) (λx hx=>mx (hco.2.2.1.2.2 x hx) J)};{exact Aqv h s f hf hs b d e}
def Yw {n:Int}(h:Bb n):(Bl n).length≤23:=by have:=Lib.itoa_length_le n h.1 h.2;unfold Bl;simp only[Bt,Do,Jw];omega
def oC {s:Bj}(h:s.length≤1000):(Du s).length≤5000:=by have:=Lib.itoa_length_le (s.length:Int) J J;unfold Du;simp only[Bt,Do];omega
theorem ZZ {α b:Type}{e:α→List b}{m:Nat}:∀{l:List α},(∀x∈l,(e x).length≤m)→(l.flatMap e).length≤l.length*m
 |[],_=>by simp
 |a::l,h=>by have h1:=h a (DX ..);have h2:=ZZ (l:=l) λx hx=>h x (Ey _ hx);rw[Eb,Bt,Do,KZ];omega
def oB {l:AC}(h:∀x∈l,Bb x):(DK l).length≤2+l.length*23:=by have:=ZZ (e:=Bl) (m:=23) λx hx=>Yw (h x hx);unfold DK Ov;simp only[Bt,Do,Jw];omega
def At9 {l:Fz}(h:∀c∈l,Bb c.p):(IU l).length≤2+l.length*48:=by(have:=ZZ (e:=λc=>DK (Ki c)) (m:=48) (l:=l) λx hx=>by{have:=oB (fJ x (h x hx));exact this});unfold IU Ov;simp only[Bt,Do,Jw];omega
def Np (b:Bj):Prop:=(∃n,Bb n∧b=Bl n)∨(∃l,(∀x∈l,Bb x)∧l.length≤100∧b=DK l)∨(∃l,(∀c∈l,Bb c.p)∧l.length≤100∧b=IU l)∨∃s,s.length≤1000∧b=Du s
def Np.len {b:Bj}(h:Np b):b.length≤5000:=by rcases h with⟨n,h,rfl⟩|⟨l,h,a,rfl⟩|⟨l,h,a,rfl⟩|⟨s,a,rfl⟩;{have:=Yw h;omega};{have:=oB h;omega};{have:=At9 h;omega};{exact oC a}
def Jy {n:Int}(h:Bb n):Np (Bl n):=.inl ⟨n,h,rfl⟩
def UZ {l:AC}(h:∀x∈l,Bb x)(a:l.length≤100):Np (DK l):=.inr (.inl ⟨l,h,a,rfl⟩)
def oV {l:Fz}(h:∀c∈l,Bb c.p)(a:l.length≤100):Np (IU l):=.inr (.inr (.inl ⟨l,h,a,rfl⟩))
def lT {s:Bj}(a:s.length≤1000):Np (Du s):=.inr (.inr (.inr ⟨s,a,rfl⟩))
def dL {g:AL}(h:IL g):Np (DK (GU g)):=UZ (iG h) (by show 4≤100;omega)
def Ajs (r:Cu)(hr:Gm r):IL r.g∧∀x∈[r.case,r.inst,r.kind,r.club,r.player,r.season,r.comp,r.points,r.amount,r.hg,r.ag,r.lo,r.hi],Bb x:=by
 obtain⟨g,r2,h,i,a,e⟩:=hr;(have f:1≤r.kind∧r.kind≤8:=by{unfold GY at a;(repeat' split at a);all_goals omega})
 have b:IL r.g∧∀x∈[r.club,r.player,r.season,r.comp,r.points,r.amount,r.hg,r.ag,r.lo,r.hi],Bb x:=by
  rw[←e];(have z:Bb 0:=by unfold Bb;omega);unfold GY at a;unfold GO;unfold IT AY at a;by_cases k1:r.kind=1;{rw[if_pos k1]at a ⊢;refine⟨JT a.1,λx hx=>?_⟩;have:=a.1;unfold DL AY at this;simp[DB]at hx;unfold Bb;omega};rw[if_neg k1]at a ⊢;by_cases k1:r.kind=2;{rw[if_pos k1]at a ⊢;refine⟨JT a,λx hx=>?_⟩;simp[DB]at hx;unfold Bb;omega};rw[if_neg k1]at a ⊢;by_cases k1:r.kind=3;{rw[if_pos k1]at a ⊢;refine⟨JT a.1,λx hx=>?_⟩;simp[DB]at hx;unfold Bb;omega};rw[if_neg k1]at a ⊢;by_cases k1:r.kind=4;{rw[if_pos k1]at a ⊢;refine⟨Kc,λx hx=>?_⟩;simp[DB]at hx;unfold Bb;omega};rw[if_neg k1]at a ⊢;by_cases k1:r.kind=5;{rw[if_pos k1]at a ⊢;refine⟨Kc,λx hx=>?_⟩;simp[DB]at hx;unfold Bb;omega};rw[if_neg k1]at a ⊢;by_cases k1:r.kind=6;{rw[if_pos k1]at a ⊢;refine⟨Kc,λx hx=>?_⟩;simp[DB]at hx;unfold Bb;omega};rw[if_neg k1]at a ⊢;by_cases k1:r.kind=7;{rw[if_pos k1]at a ⊢;refine⟨Kc,λx hx=>?_⟩;simp[DB]at hx;unfold Bb;omega};rw[if_neg k1]at a ⊢;refine⟨Kc,λx hx=>?_⟩;simp[DB]at hx;unfold Bb;omega
 refine⟨b.1,?_⟩;(have c:Bb r.case:=by unfold Bb;omega);(have d:Bb r.inst:=by unfold Bb;omega);(have i3:Bb r.kind:=by unfold Bb;omega);exact FV.2 ⟨c,FV.2 ⟨d,FV.2 ⟨i3,b.2⟩⟩⟩
def oW (f:Al)(t:BT f)(hv:f.void.length=32):(∀b∈CD f,Np b)∧(CD f).length≤14:=by
 have hco:=t.2.2.1;have mx:∀{n m:Int},AY n m→m≤1000000000→Bb n:=λh1 h2=>Ls h1 J;(have s:∀{n:Int},n=0→Bb n:=λh=>by subst h;unfold Bb;omega);(have a:∀b∈([]:Hr),Np b:=λb g=>by cases g);unfold CD;unfold EW at hco;by_cases e:f.kind=1
 ·rw[if_pos e]at hco ⊢;obtain⟨g1,i,j,q,d⟩:=hco;refine⟨?_,An⟩
  have hr:f.eRules.length≤1000:=by
   split at d;{have:=d.2.1;omega};{rw[d];simp}
  exact FV.2 ⟨Jy (mx g1 J),FV.2 ⟨Jy (mx i J),FV.2 ⟨UZ (λx hx=>mx (j.2.2 x hx) J) J,FV.2 ⟨lT hr,a⟩⟩⟩⟩
 rw[if_neg e]at hco ⊢;by_cases e:f.kind=2;{rw[if_pos e]at hco ⊢;refine⟨?_,An⟩;exact FV.2 ⟨dL (JT hco.1),FV.2 ⟨Jy (mx hco.2 J),a⟩⟩};rw[if_neg e]at hco ⊢;by_cases e:f.kind=3
 ·rw[if_pos e]at hco ⊢;obtain⟨g1,i,j,q,d,k,l,r,Jg,w⟩:=hco
  have hp:Bb f.sh.hp∧Bb f.sh.ap:=by
   rcases d with⟨o,p⟩|⟨_,o,p,_⟩;{exact⟨s o,s p⟩};{exact⟨mx o J,mx p J⟩}
  refine⟨?_,An⟩;refine FV.2 ⟨dL (JT g1),FV.2 ⟨Jy (mx i J),FV.2 ⟨Jy (mx j J),FV.2 ⟨Jy (mx q J),FV.2 ⟨Jy hp.1,FV.2 ⟨Jy hp.2,?_⟩⟩⟩⟩⟩⟩;refine FV.2 ⟨UZ (λx hx=>mx (k.2.1 x hx) J) (by have:=k.1;omega),FV.2 ⟨UZ (λx hx=>mx (l.2.1 x hx) J) (by have:=l.1;omega),?_⟩⟩;exact FV.2 ⟨oV (λc hc=>mx (k.2.1 _ (r.2 c hc)) J) (by have:=r.1;omega),FV.2 ⟨oV (λc hc=>mx (l.2.1 _ (Jg.2 c hc)) J) (by have:=Jg.1;omega),a⟩⟩
 rw[if_neg e]at hco ⊢;by_cases e:f.kind=4;{rw[if_pos e]at hco ⊢;obtain⟨u,v⟩:=Ajs _ hco;refine⟨?_,An⟩;have I:∀{x},x∈[f.ru.case,f.ru.inst,f.ru.kind,f.ru.club,f.ru.player,f.ru.season,f.ru.comp,f.ru.points,f.ru.amount,f.ru.hg,f.ru.ag,f.ru.lo,f.ru.hi]→Np (Bl x):=λhx=>Jy (v _ hx);intro b g;simp only[Bx,JX,or_false]at g;rcases g with rfl|rfl|rfl|rfl|rfl|rfl|rfl|rfl|rfl|rfl|rfl|rfl|rfl|rfl;{exact I An};{exact I An};{exact I An};{exact dL u};all_goals exact I An};rw[if_neg e]at hco ⊢;by_cases e:f.kind=5;{rw[if_pos e]at hco ⊢;refine⟨?_,An⟩;exact FV.2 ⟨Jy (by unfold Bb;omega),FV.2 ⟨Jy (by unfold Bb;omega),FV.2 ⟨Jy (by unfold Bb;split<;>omega),a⟩⟩⟩};rw[if_neg e]at hco ⊢;by_cases e:f.kind=6;{rw[if_pos e]at hco ⊢;refine⟨?_,An⟩;exact FV.2 ⟨Jy (mx hco.1 J),FV.2 ⟨Jy bZ,a⟩⟩};rw[if_neg e]at hco ⊢;by_cases e:f.kind=7;{rw[if_pos e]at hco ⊢;refine⟨?_,An⟩;exact FV.2 ⟨Jy (mx hco.1 J),FV.2 ⟨Jy (mx hco.2.1 J),FV.2 ⟨UZ (λx hx=>mx (hco.2.2.1.2.2 x hx) J) (by have:=hco.2.2.1.2.1;omega),a⟩⟩⟩};rw[if_neg e];refine⟨?_,An⟩;exact FV.2 ⟨lT J,a⟩
theorem Ac3 {m:Nat}:∀{l:Hr},(∀x∈l,x.length≤m)→l.flatten.length≤l.length*m
 |[],_=>by simp
 |a::l,h=>by have h1:=h a (DX ..);have h2:=Ac3 (l:=l) λx hx=>h x (Ey _ hx);rw[Gk,Bt,Do,KZ];omega
def Rz:Hr:=["day".toUTF8.data.toList, "kind".toUTF8.data.toList, "known".toUTF8.data.toList, "what".toUTF8.data.toList]
def yJ (f:Al):Ev f=Iw Rz [Bl f.day,Bl f.kind,Bl f.known,EY (CD f)]:=by unfold Ev Iw Rz EY;rw[Ab3];simp only[List.zip_cons_cons,List.zip_nil_right,Eb,Oj,Ck,DR,FE,FW]
def uX:Rz.Pairwise λa b=>Op.bytesLess a b=true:=by decide
def lQ (f:Al)(a:BT f)(hv:f.void.length=32):(Ev f).length≤200000:=by have h1:=oW f a hv;have h2:=Ac3 (m:=5000) λx hx=>(h1.1 x hx).len;rw[Ab3]at h2;have b:∀{n:Int},AY n 1048577→(Bl n).length≤23:=λh=>Yw (Ls h J);have h3:=b a.1;have d:=b a.2.1;(have c:1≤f.kind∧f.kind≤8:=by{refine JD λc=>(Pi f c).2 a.2.2.1});have e:(Bl f.kind).length≤23:=Yw (by unfold Bb;omega);have t:∀s:String,s.toUTF8.data.toList.length≤1000→(Du s.toUTF8.data.toList).length≤5000:=λs h=>oC h;have g:=t "day" BO;have i:=t "kind" BO;have t3:=t "known" BO;have t4:=t "what" BO;unfold Ev;simp only[Bt,Do,Jw];omega
def Auy (h:U)(s:AA)(f:Al):Az prog 145 #[BW s f] h (λu h'=>∃a,u=.func (.func 197) #[] #[AD a]∧Au h' (Av a) (CS s f)):=by refine BB func145 λ_ _=>?_;(repeat'(first|refine Aa ?_|(refine Aj ?_;intro b)|fail));refine Ii Bh ?_;intro h1 d c;(first|(apply BL;(iterate 3 exact F)));exact⟨b,rfl,c⟩
def lH:4≤1000000:=by omega
def Ady {C:Bu}{l:AW}{Es:Am}{h:U}{G:Value→Am→U→Prop}{ty:TypeId}{pos:String}{aft:Cw}{gd:Cq}{t e sz:Nat}{x y:Operand}{b off n c:Nat}{v:Value}{xs ys:Ao}{Es':Am}{T:Ay}
  (hT:AM t C.ts=some T) (hx:AJ l x=some (.pointer (some ((addrD (some (Av b))).add off)))) (hy:AJ l y=some v) (a:Ei Es (Ar e sz (.slice (some (Av b)) n c) n xs) (Ar e sz (.slice (some (Av b)) n c) n ys) Es')
  (i:ys=xs.take off++BX v++xs.drop (off+(BX v).length)) (f:off+(BX v).length≤xs.length)
  (d:Nat.beq (BX v).length T.size=true) (h1:Ly (BX v)=true) (g:G undef Es' h):Cd C l Es h ⟨none,.store t x y,ty,pos,aft,gd⟩ G:=
 aS hT (by rw[hx];show some (Value.pointer (some (((Av b):Addr).add off)))=_;rw[GC,Dy]) hy a i f d h1 g
open Classical in
theorem yK (h:U)(hG:DG h)(s:AA)(f:Al)(hf:Cr h s f)(hs:Eu f):Az prog 89 #[BW s f] h (λu h'=>if BT f then∃A c,u=.tuple #[.slice A (Ev f).length c,O 0]∧Ai BZ 1 h' A (Ev f).length (Ev f)else u=.tuple #[.slice none 0 0,O 70]):=by
 refine BB func89 λ_ _=>?_;have z:=hf.void;by_cases hg:BT f
 ·have ay:=(oW f hg z).2;have az:=lQ f hg z;(repeat'(first|refine Aa ?_|(refine Aj ?_;intro b)|(refine Ac ?_;first|(apply Aw;exact F;exact Ab func45;(have:=Ql h s f hf hs;rw[if_pos hg]at this;exact this))|(apply AR;exact F;exact Ab func145;exact Auy _ s f;rintro vr hs1 al ⟨r,rfl,ag⟩))|(refine Y ?_ ?_<;>intro hc<;>try omega)|fail));rename_i i;generalize b=k;refine FN 193 5 ?_;refine EF (Es':=[Ap k 187 [.slice none 0 0],Ar 193 5 (.slice none 0 0) 0 [],Ap i 71 (CS s f)]) Ad ?_;refine QY (R:=Mq) (xs:=CD f) (gf:=197) (lb:=[AD r]) rfl rfl (Ab func197) (Aqu _ s f (hf.le al) hs r ag hg) (by rintro x u h2 ⟨v,rfl,_⟩;rfl) rfl (λpre Es h2=>∃(vs:KH) (A:At) (c:Nat),Es=[Ap k 187 [.slice A pre.length c],Ar 193 5 (.slice A pre.length c) pre.length (vs.flatMap Cp),Ap i 71 (CS s f)]∧vs.length=pre.length∧Bi (DO 4 h2) vs pre) (λ_ _ _ _=>False) (λpre Es h2 h3 aj ⟨vs,A,c,e1,e2,af⟩=>⟨vs,A,c,e1,e2,af.imp λa b q=>q.le aj⟩) (λ_ _ _ _ _ _ h=>h.elim) ⟨[],none,0,rfl,rfl,Bi.nil⟩ ?_ ?_ (λ_ _ _ _ _ _ _ _ h=>h.elim)
  ·rintro lid r0 a2 aw pre x post u ac h1 hx ⟨v,rfl,hv⟩ ⟨vs,A,c,rfl,hvs,p⟩ ak ap;(have a0:pre.length+1≤(CD f).length:=by rw[hx];simp);(have a1:pre.length≤14:=by omega);have o:=Apx Fy vs FY v;rw[hvs]at o;(have y:pre.length*5+(Cp v).length≤((vs++[FY]).flatMap Cp).length:=by{rw[Hp Fy,Bt,hvs,Fy,KZ];exact BU _});(repeat'(first|refine Ba ?_|(apply Ng;exact F;exact Bh;exact ap)|(refine Aj ?_;intro b)|(apply Da (n:=7) [0,1,2,3,4,7,5,6] [(0,0),(1,0),(2,0),(3,1),(4,1),(5,0),(6,2),(1,7),(7,1),(6,1)];kernel_rfl)|refine BF ?_|(apply Be;exact Bd;(apply Cs (j:=pre.length);(iterate 6 exact F);(with_reducible exact F);omega);exact AX)|(refine Bn ?_;first|(apply DE (enc:=Cp) (n:=1) [FY];(iterate 3 exact F);exact Cf _ _;(iterate 4 exact F);exact Fy;exact F;exact F;intro e aa d hs1;refine⟨d,Ak,?_⟩)|(apply Azb (enc:=Cp) (xs:=vs);(iterate 7 exact F);exact hs1;exact Fy;exact PV;intro v1;exact Bp;omega;exact F;omega;intro v1;exact Bc;intro g c1;refine⟨V.refl _,Ak,?_⟩)|(apply Ady (ys:=(vs++[v]).flatMap Cp);(iterate 3 exact F);exact Bp;exact o;exact y;exact F;exact F;refine⟨V.refl _,Ak,?_⟩))|(apply GQ;kernel_rfl;exact F;exact F)|(apply HP;(iterate 4 exact F);(first|(apply Ady (ys:=(vs++[v]).flatMap Cp);(iterate 3 exact F);exact Bp;exact o;exact y;exact F;exact F;refine⟨V.refl _,Ak,?_⟩)))|fail))
   all_goals
    refine EF (Es':=[FI lid {r0 with state:=.busy},Ap k 187 [.slice (some (Av g)) (pre.length+1) c1],Ar 193 5 (.slice (some (Av g)) (pre.length+1) c1) (pre.length+1) ((vs++[v]).flatMap Cp),Ap i 71 (CS s f)]) Ad (Oa (r0:=r0) rfl .here ⟨vs++[v],some (Av g),c1,?_,by simp[hvs],?_⟩)
    · rw[Bt];rfl
    · exact(p.imp λa b q=>q.le Ag).snoc (hv.le Ag)
  ·rintro D h1 ac ak ⟨vs,A,c,rfl,hvs,p⟩;refine OQ (enc:=Cp) (xs:=vs) Fy hvs Bh ?_;intro av c2 h2 am e2 hs2;injection e2 with ad _ ae;subst ad;subst ae;have aq:=p.imp λa b q=>q.le am;(have ah:(CD f).length≤1000000:=by omega);(have t:1≤f.kind∧f.kind≤8:=by{refine JD λt=>(Pi f t).2 hg.2.2.1});have ar:Bb f.day:=Ls hg.1 J;(have au:Bb f.kind:=by unfold Bb;omega);have i3:Bb f.known:=Ls hg.2.1 J;(repeat'(first|refine Ba ?_|(apply Da (n:=8) [0,1,2,3,4,5,6,7,8,9,10,11,12,13,14,15,16,17,18] [(1,0),(2,0),(4,0),(5,0),(7,0),(8,0),(10,0),(0,2),(11,3),(3,1),(6,1),(9,1),(11,1),(12,1),(13,0),(14,1),(15,0),(16,0),(17,0),(18,0),(0,2),(10,6),(6,1),(9,1),(11,1),(12,1),(13,0),(14,1),(15,0),(16,0),(17,0),(18,0),(0,2),(9,9),(9,1),(11,1),(12,1),(13,0),(14,1),(15,0),(16,0),(17,0),(18,0),(0,2),(8,11),(11,1),(12,1),(13,0),(14,1),(15,0),(16,0),(17,0),(18,0),(0,2),(7,12),(12,1),(13,0),(14,1),(15,0),(16,0),(17,0),(18,0),(0,1),(13,0),(14,1),(15,0),(16,0),(17,0),(18,0)];kernel_rfl)|refine Eo ?_|(refine Bn ?_;first|(refine Xr ?_;intro l ai m w;refine⟨m,Ak,?_⟩)|(refine tP ?_;intro e aa d hs1;refine⟨d,Ak,?_⟩)|(apply AR;exact F;exact Ab func146;exact Aqm _ (hG.le Ag) 6 J ⟨4,0,[],⟨some (Av e),4,4⟩,⟨some (Av l),4,4⟩⟩ (Ev f) (.inr (.inr (.inr ⟨⟨some (Av e),4,4⟩,⟨some (Av l),4,4⟩,[DT f.day,DT f.kind,DT f.known,FQ A (CD f).length c],[Bl f.day,Bl f.kind,Bl f.known,EY (CD f)],Rz,rfl,hs1.le Ag,Bi.cons (CT ar) (Bi.cons (CT au) (Bi.cons (CT i3) (Bi.cons (LM (hs2.le Ag) (aq.imp λa b q=>q.le Ag) ah) Bi.nil))),w.le Ag,rfl,uX,lH,yJ f⟩))) J;rintro v4 ax an ⟨ab,c4,rfl,ao⟩;refine⟨an,Ak,?_⟩)|(apply Aw;exact F;exact Ab func147;exact QC _ _;refine⟨V.refl _,Ak,?_⟩)|(apply Aw;exact F;exact Ab func148;exact XD _ _ _ _;refine⟨V.refl _,Ak,?_⟩))|(apply GQ;kernel_rfl;exact F;exact F)|(apply HP;(iterate 4 exact F);(first|(refine Xr ?_;intro l ai m w;refine⟨m,Ak,?_⟩)|(refine tP ?_;intro e aa d hs1;refine⟨d,Ak,?_⟩)|(apply Aw;exact F;exact Ab func147;exact QC _ _;refine⟨V.refl _,Ak,?_⟩)|(apply Aw;exact F;exact Ab func148;exact XD _ _ _ _;refine⟨V.refl _,Ak,?_⟩)))|fail))
   all_goals
    refine Oq (Ob rfl Bh (NQ (rs:=[.tmp 2,.tmp 3]) (vs:=[.slice ab (Ev f).length c4,O 0]) rfl rfl ⟨rfl,rfl,trivial⟩ (Hi _) ⟨rfl,?_⟩))
    show if BT f then _ else _
    rw[if_pos hg]
    exact⟨_,_,rfl,ao⟩
 {(repeat'(first|refine Aa ?_|(refine Aj ?_;intro b)|(refine Ac ?_;first|(apply Aw;exact F;exact Ab func45;(have:=Ql h s f hf hs;rw[if_neg hg]at this;exact this)))|(refine Y ?_ ?_<;>intro hc<;>try omega)|(apply EG;(iterate 4 exact F))));rw[if_neg hg]}
theorem oR:∀(a b:Bj),Lib.compareBytes a b=EL a b
 |[],[]=>rfl
 |[],_::_=>rfl
 |_::_,[]=>rfl
 |a::x,b::y=>by unfold Lib.compareBytes EL;rw[oR x y];simp only[nO]
def Ajl {P:Program}{w:World}{h:U}(b:V h (mem w)){A a:At}{n c m d:Nat}{x y:Bj}(hx:Ai BZ 1 h A n x)(hy:Ai BZ 1 h a m y) :
  (Extern.BytealgCompare.compare (Array.mk [Value.slice A n c,.slice a m d])).run P w=.ok (O (EL x y)) w:=by
 change Sem.run P (do pure (goInt (Extern.BytealgCompare.cmp (←Extern.Bytes.bytesOf (.slice A n c)) (←Extern.Bytes.bytesOf (.slice a m d))))) w=_
 simp only[BK,Ad7 b hx,Ad7 b hy,CV,Result.andThen]
 rw[Lib.cmp_eq,oR]
 rfl
def Aos (h:U)(a:Int):Aq prog 100 #[O a] h (.bool false):=by refine AK func100 λ_ _=>?_;(repeat'(first|refine Aa ?_|refine Bm ?_|fail));all_goals simp[FP]
def Ru (h:U)(a b:Int):Aq prog 55 #[O a,O b] h (O (BJ a b)):=by refine AK func55 λ_ _=>?_;(repeat'(first|refine Aa ?_|(refine Ac ?_;first|(apply Aw;exact F;exact Ab func100;exact Aos _ _))|(refine Y ?_ ?_<;>intro hc<;>try omega)|refine Bm ?_|fail));all_goals(unfold BJ;congr 1;(repeat' split)<;>omega)
def Atu (h:U)(A a:At)(n c m d:Nat)(x y:Bj)(hx:Ai BZ 1 h A n x)(hy:Ai BZ 1 h a m y):Aq prog 90 #[.slice A n c,.slice a m d] h (O (EL x y)):=by refine AK func90 λ_ _=>?_;(repeat'(first|refine Aa ?_|(refine Z (by apply Aw7 (e:=Extern.BytealgCompare.compare);exact F;exact F;kernel_rfl;exact F;kernel_rfl;kernel_rfl;exactλw b=>Ajl b hx hy) ?_)|refine Bm ?_|fail));all_goals rfl
def HF:AC→Int
 |[]=>0
 |a::l=>if a≠0 then a else HF l
def Ts (a:Int)(l:AC):HF (a::l)=if a≠0 then a else HF l:=rfl
def Vq (h:U)(A:At)(n c:Nat)(l:AC)(hx:Ai AQ 1 h A n l)(hn:n≤1000000):Aq prog 54 #[.slice A n c] h (O (HF l)):=by
 refine AK func54 λ_ _=>?_;have f:=hx.len;(repeat'(first|refine Aa ?_|fail));refine Pd (X:=Nat) (λk=>k≤n∧HF l=HF (l.drop k)) (λk=>n-k) (λk=>[(8,O k),(7,O n),(6,.slice A n c),(3,O 0)]) (λ_=>[]) (λ_=>h) 0 ⟨J,rfl⟩ Af rfl rfl ?_;rintro k ⟨i,a⟩ g;by_cases b:k<n
 ·have a1:=hx.addrD b;have cc:=hx.cellsD 0 b;have e:=Lt 0 f b;rw[e]at a;generalize l.getD k 0=u at *;rw[Ts]at a;(repeat'(first|refine Aa ?_|refine Z Bf ?_|refine Z HG ?_|(refine Y ?_ ?_<;>intro hc<;>try omega)|refine Bm ?_|fail))
  all_goals first
   |(
      have d:u≠0:=by assumption
      rw[a,if_pos d];done)
   |(
      have d:u=0:=by assumption
      have h3:=g (k+1) ⟨by show k+1≤n;omega,by show HF l=HF (l.drop (k+1));rw[a,if_neg (λh=>h d)]⟩ NT
      refine AB Af Ad h3)
 {rw[Ka J]at a;(repeat'(first|refine Aa ?_|(refine Y ?_ ?_<;>intro hc<;>try omega)|refine Bm ?_|fail));all_goals(rw[a];rfl)}
def Asq (f g:Al):CO f g=if HF [BJ f.known g.known,BJ f.day g.day,BJ f.kind g.kind]≠0 then HF [BJ f.known g.known,BJ f.day g.day,BJ f.kind g.kind]else EL (Ev f) (Ev g):=by unfold CO;simp only[Ts];(show _=if(if _ then _ else if _ then _ else if _ then _ else(0:Int))≠0 then(if _ then _ else if _ then _ else if _ then _ else(0:Int))else _);by_cases h1:BJ f.known g.known=0;{by_cases h2:BJ f.day g.day=0;{by_cases h3:BJ f.kind g.kind=0;{simp[h1,h2,h3]};{simp[h1,h2,h3]}};{simp[h1,h2]}};{simp[h1]}
open Classical in
theorem Sm (h:U)(hG:DG h)(s t:AA)(f g:Al)(hf:Cr h s f)(hs:Eu f)(hg:Cr h t g)(q:Eu g)(of:BT f)(r:BT g):Az prog 46 #[BW s f,BW t g] h (λu h'=>u=O (CO f g)):=by
 refine BB func46 λ_ _=>?_;have a:=Asq f g;generalize hor:HF [BJ f.known g.known,BJ f.day g.day,BJ f.kind g.kind]=o at *;(repeat'(first|refine Aa ?_|(refine Aj ?_;intro b)|(refine Ac ?_;first|(apply AR;exact F;exact Ab func89;exact yK _ (hG.le Ag) s f (hf.le Ag) hs;intro y h2 w c;rw[if_pos of]at c;obtain⟨v,c2,rfl,m⟩:=c)|(apply AR;exact F;exact Ab func89;exact yK _ (hG.le Ag) t g (hg.le Ag) q;intro v3 h3 x d;rw[if_pos r]at d;obtain⟨A3,c3,rfl,p⟩:=d)|(apply Aw;exact F;exact Ab func90;exact Atu _ _ _ _ _ _ _ _ _ (m.le Ag) (p.le Ag)))|(apply AU (n:=1) 18 [0,1,2,3,5,6,7,8,10,11,12,13,99,4,9,14,15,16,99,17];kernel_rfl)|(refine Bn ?_;first|(apply HQ (e:=3) (cs:=[BJ f.known g.known,BJ f.day g.day,BJ f.kind g.kind].map λi=>O i);(iterate 3 exact F);exact Cf _ _;(iterate 4 exact F);intro b1 h1 k hcs1;refine⟨k,Ak,?_⟩)|(apply Aw;exact F;exact Ab func54;(have j:=Vq _ _ 3 3 [BJ f.known g.known,BJ f.day g.day,BJ f.kind g.kind] (Jc hcs1) J;rw[hor]at j;exact j);refine⟨V.refl _,Ak,?_⟩)|(apply Aw;exact F;exact Ab func55;exact Ru _ _ _;refine⟨V.refl _,Ak,?_⟩))|(refine Y ?_ ?_<;>intro hc<;>try omega)|(apply BL;(iterate 3 exact F))))
 all_goals first
  |(rw[a,if_pos Cn];done)
  |(
     have l:o=0:=by assumption
     rw[a,if_neg (λh=>h l)];done)
end Go.Hw
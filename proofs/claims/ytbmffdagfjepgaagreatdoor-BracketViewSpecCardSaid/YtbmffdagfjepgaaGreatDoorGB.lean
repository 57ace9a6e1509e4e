import Derived.Test.YtbmffdagfjepgaaGreatDoorGA
import Derived.Test.YtbmffdagfjepgaaGreatDoorNSh
import Derived.Lib.ItoaLen
set_option linter.all false
set_option maxRecDepth 100000
set_option maxHeartbeats 4000000
namespace Go.Hw
open Go
attribute [local irreducible] AI Bz BV Aq AP Az Au CH Ap Ar BG Cm BP
open Go.Proofs.Tryz
open Classical in
theorem Aob (h:U)(s:AA)(f:Al)(hf:Cr h s f)(hs:Eu f):Aq prog 122 #[BW s f] h (.bool (decide (SB f))):=by refine AK func122 λ_ _=>?_;obtain⟨a,c,n3,d,e,n6⟩:=hf.small hs;(repeat'(first|refine Aa ?_|(refine Aj ?_;intro b)|(refine Ac ?_;first|(apply Aw;exact F;exact Ab func123;exact Ayd _ s f hf.cl J (by have:=hs.2.2.2;omega)))|refine Bm ?_|fail));all_goals rfl
def An9 (h:U)(s:AA)(f:Al):Aq prog 125 #[BW s f] h (.bool (decide (DL f.fg∧AY f.venue 4096))):=by refine AK func125 λ_ _=>?_;(repeat'(first|refine Aa ?_|(refine Aj ?_;intro b)|(refine Ac ?_;first|(apply Aw;exact F;exact Ab func84;exact Va _ f.fg)|(refine Qb ?_))|refine AF ?_|(refine AG ?_ ?_<;>intro hc<;>try omega)|refine Bm ?_|fail));all_goals(refine Cv ?_;grind)
open Classical in
theorem An7 (h:U)(s:AA)(f:Al)(hf:Cr h s f)(hs:Eu f):Aq prog 128 #[BW s f] h (.bool (decide (GZ f.sh))):=by refine AK func128 λ_ _=>?_;(repeat'(first|refine Aa ?_|(refine Aj ?_;intro b)|(refine Ac ?_;first|(apply Aw;exact F;exact Ab func129;exact Ai5 _ s f.sh hf.sh hs.1))|refine Bm ?_|fail));all_goals rfl
open Classical in
theorem An5 (h:U)(s:AA)(f:Al):Aq prog 131 #[BW s f] h (.bool (decide (Gm f.ru))):=by refine AK func131 λ_ _=>?_;(repeat'(first|refine Aa ?_|(refine Aj ?_;intro b)|(refine Ac ?_;first|(apply Aw;exact F;exact Ab func132;exact Ajp _ f.ru))|refine Bm ?_|fail));all_goals rfl
def An3 (h:U)(s:AA)(f:Al):Aq prog 134 #[BW s f] h (.bool (decide (1≤f.aCase∧f.aCase≤1048576∧1≤f.aInst∧f.aInst<3))):=by refine AK func134 λ_ _=>?_;(repeat'(first|refine Aa ?_|(refine Aj ?_;intro b)|refine AF ?_|(refine AG ?_ ?_<;>intro hc<;>try omega)|refine Bm ?_|fail));all_goals(refine Cv ?_;(try rw[Lw]);grind)
def Aoh (h:U)(s:AA)(f:Al):Aq prog 136 #[BW s f] h (.bool (decide (AY f.mP 8192∧(f.mTo = -1∨AY f.mTo 192)))):=by refine AK func136 λ_ _=>?_;(repeat'(first|refine Aa ?_|(refine Aj ?_;intro b)|(refine Ac ?_;first|(apply Aw;exact F;exact Ab func137;exact iC _ _)|(refine TP ?_))|refine AF ?_|(refine AG ?_ ?_<;>intro hc<;>try omega)|refine Bm ?_|fail));all_goals(refine Cv ?_;(try rw[Fb]);grind)
open Classical in
theorem Aof (h:U)(s:AA)(f:Al)(hf:Cr h s f)(hs:Eu f):Aq prog 139 #[BW s f] h (.bool (decide (Si f))):=by refine AK func139 λ_ _=>?_;obtain⟨a,c,n3,d,e,n6⟩:=hf.small hs;(repeat'(first|refine Aa ?_|(refine Aj ?_;intro b)|(refine Ac ?_;first|(apply Aw;exact F;exact Ab func140;exact Anb _ s f hf.lo J))|refine Bm ?_|fail));all_goals rfl
def Aod (h:U)(s:AA)(f:Al):Aq prog 142 #[BW s f] h (.bool true):=by refine AK func142 λ_ _=>?_;(repeat'(first|refine Aa ?_|(refine Aj ?_;intro b)|refine Bm ?_|fail));all_goals rfl
def Aoa (h:U)(a:Nat)(s t:AA)(f x:Al):AP prog 124 #[BW s f,AD a] [Ap a 71 (CS t x)] h (HL a 71 (CS {t with cl:=s.cl} {x with eS:=f.eS,eC:=f.eC,eClubs:=f.eClubs,eRules:=f.eRules})):=by refine Cx func124 λ_ _=>?_;(repeat'(first|refine AH ?_|(refine Aj ?_;intro b)|fail));exact EF (Es':=[Ap a 71 (CS {t with cl:=s.cl} {x with eS:=f.eS,eC:=f.eC,eClubs:=f.eClubs,eRules:=f.eRules})]) Ad (FK (rs:=[]) (vs:=[]) rfl rfl trivial ⟨rfl,rfl⟩)
def An8 (h:U)(a:Nat)(s t:AA)(f x:Al):AP prog 127 #[BW s f,AD a] [Ap a 71 (CS t x)] h (HL a 71 (CS t {x with fg:=f.fg,venue:=f.venue})):=by refine Cx func127 λ_ _=>?_;(repeat'(first|refine AH ?_|(refine Aj ?_;intro b)|fail));exact EF (Es':=[Ap a 71 (CS t {x with fg:=f.fg,venue:=f.venue})]) Ad (FK (rs:=[]) (vs:=[]) rfl rfl trivial ⟨rfl,rfl⟩)
def An6 (h:U)(a:Nat)(s t:AA)(f x:Al):AP prog 130 #[BW s f,AD a] [Ap a 71 (CS t x)] h (HL a 71 (CS {t with hs:=s.hs,asn:=s.asn,hc:=s.hc,ac:=s.ac} {x with sh:=f.sh})):=by refine Cx func130 λ_ _=>?_;(repeat'(first|refine AH ?_|(refine Aj ?_;intro b)|fail));exact EF (Es':=[Ap a 71 (CS {t with hs:=s.hs,asn:=s.asn,hc:=s.hc,ac:=s.ac} {x with sh:=f.sh})]) Ad (FK (rs:=[]) (vs:=[]) rfl rfl trivial ⟨rfl,rfl⟩)
def An4 (h:U)(a:Nat)(s t:AA)(f x:Al):AP prog 133 #[BW s f,AD a] [Ap a 71 (CS t x)] h (HL a 71 (CS t {x with ru:=f.ru})):=by refine Cx func133 λ_ _=>?_;(repeat'(first|refine AH ?_|(refine Aj ?_;intro b)|fail));exact EF (Es':=[Ap a 71 (CS t {x with ru:=f.ru})]) Ad (FK (rs:=[]) (vs:=[]) rfl rfl trivial ⟨rfl,rfl⟩)
def Aoi (h:U)(a:Nat)(s t:AA)(f x:Al):AP prog 135 #[BW s f,AD a] [Ap a 71 (CS t x)] h (HL a 71 (CS t {x with aCase:=f.aCase,aInst:=f.aInst,aSusp:=f.aSusp})):=by refine Cx func135 λ_ _=>?_;(repeat'(first|refine AH ?_|(refine Aj ?_;intro b)|fail));exact EF (Es':=[Ap a 71 (CS t {x with aCase:=f.aCase,aInst:=f.aInst,aSusp:=f.aSusp})]) Ad (FK (rs:=[]) (vs:=[]) rfl rfl trivial ⟨rfl,rfl⟩)
def Aog (h:U)(a:Nat)(s t:AA)(f x:Al):AP prog 138 #[BW s f,AD a] [Ap a 71 (CS t x)] h (HL a 71 (CS t {x with mP:=f.mP,mTo:=f.mTo})):=by refine Cx func138 λ_ _=>?_;(repeat'(first|refine AH ?_|(refine Aj ?_;intro b)|fail));exact EF (Es':=[Ap a 71 (CS t {x with mP:=f.mP,mTo:=f.mTo})]) Ad (FK (rs:=[]) (vs:=[]) rfl rfl trivial ⟨rfl,rfl⟩)
def Aoe (h:U)(a:Nat)(s t:AA)(f x:Al):AP prog 141 #[BW s f,AD a] [Ap a 71 (CS t x)] h (HL a 71 (CS {t with lo:=s.lo} {x with lS:=f.lS,lC:=f.lC,lO:=f.lO})):=by refine Cx func141 λ_ _=>?_;(repeat'(first|refine AH ?_|(refine Aj ?_;intro b)|fail));exact EF (Es':=[Ap a 71 (CS {t with lo:=s.lo} {x with lS:=f.lS,lC:=f.lC,lO:=f.lO})]) Ad (FK (rs:=[]) (vs:=[]) rfl rfl trivial ⟨rfl,rfl⟩)
def Aoc (h:U)(a:Nat)(s t:AA)(f x:Al):AP prog 143 #[BW s f,AD a] [Ap a 71 (CS t x)] h (HL a 71 (CS t {x with void:=f.void})):=by refine Cx func143 λ_ _=>?_;(repeat'(first|refine AH ?_|(refine Aj ?_;intro b)|fail));exact EF (Es':=[Ap a 71 (CS t {x with void:=f.void})]) Ad (FK (rs:=[]) (vs:=[]) rfl rfl trivial ⟨rfl,rfl⟩)
def Pw:List (Int×(Value×Value)):=VD [
 (1,(Ch 122 [],Ch 124 [])),
 (2,(Ch 125 [],Ch 127 [])),
 (3,(Ch 128 [],Ch 130 [])),
 (4,(Ch 131 [],Ch 133 [])),
 (5,(Ch 134 [],Ch 135 [])),
 (6,(Ch 136 [],Ch 138 [])),
 (7,(Ch 139 [],Ch 141 [])),
 (8,(Ch 142 [],Ch 143 []))]
def Aoj (h:U):AP prog 86 #[] [] h λv Es h'=>∃bm,v=.map (some bm)∧Es=[BG (λi:Int=>O i) Mx bm Pw]:=by refine Cx func86 λ_ _=>?_;(repeat'(first|refine Aa ?_|(refine Ac ?_;first|(apply Nn (λi:Int=>O i) Mx;intro bm)|(apply Ab8 LJ;(iterate 5 exact F);exact Bp))|fail));exact DD rfl rfl rfl (FH _) ⟨bm,rfl,rfl⟩
def Acd (k:Int):Co k Pw =
  if 8=k then some (Ch 142 [],Ch 143 [])
  else if 7=k then some (Ch 139 [],Ch 141 [])
  else if 6=k then some (Ch 136 [],Ch 138 [])
  else if 5=k then some (Ch 134 [],Ch 135 [])
  else if 4=k then some (Ch 131 [],Ch 133 [])
  else if 3=k then some (Ch 128 [],Ch 130 [])
  else if 2=k then some (Ch 125 [],Ch 127 [])
  else if 1=k then some (Ch 122 [],Ch 124 [])
  else none:=by
 unfold Pw VD
 simp only[Nf,List.foldl_nil,KM,Co]
def Cg (f:Al):Al:={BQ with kind:=f.kind,day:=f.day,known:=f.known}
def Abe (s:AA) (f:Al) (g b:Nat) (c:Bool) (s':AA):Prop:=
 Co f.kind Pw=some (Ch g [],Ch b [])∧BP prog g∧BP prog b∧(c=true↔EW f)∧(∀h',Cr h' s f→Aq prog g ([]++[BW s f]++[]).toArray h' (.bool c))∧
 ((∀h',Cr h' s f→Cr h' s' (HZ f))∧Eu (HZ f))∧
 ∀h' a,AP prog b ([]++[BW s f,AD a]++[]).toArray [Ap a 71 (CS CP (Cg f))] h' (HL a 71 (CS s' (HZ f)))
def OR {s:AA}{f:Al}{g a:Nat}{b:Bool}{s':AA}{x:Al}(i:Co f.kind Pw=some (Ch g [],Ch a []))(hg:BP prog g)(h:BP prog a)(e:b=true↔EW f)
 (hv:∀h',Cr h' s f→Aq prog g ([]++[BW s f]++[]).toArray h' (.bool b)) (hx:x=HZ f) (d:(∀h',Cr h' s f→Cr h' s' x)∧Eu x)
 (hf:∀h' c,AP prog a ([]++[BW s f,AD c]++[]).toArray [Ap c 71 (CS CP (Cg f))] h' (HL c 71 (CS s' x))) :
 ∃g a b s',Abe s f g a b s':=⟨g,a,b,s',i,hg,h,e,hv,hx▸d,hx▸hf⟩
def Kl:Gg IB:=by unfold Gg IB;simp
open Classical in
theorem Ap2 (s:AA)(f:Al)(hs:Eu f)(h:1≤f.kind∧f.kind≤8):∃g d c s',Abe s f g d c s':=by(have:f.kind=1∨f.kind=2∨f.kind=3∨f.kind=4∨f.kind=5∨f.kind=6∨f.kind=7∨f.kind=8:=by omega);rcases this with e|e|e|e|e|e|e|e;{exact OR (s':={CP with cl:=s.cl}) (x:={Cg f with eS:=f.eS,eC:=f.eC,eClubs:=f.eClubs,eRules:=f.eRules}) OW (Ab func122) (Ab func124) P' (λh' a=>Aob h' s f a hs) Jr (⟨λh' a=>⟨⟨Ai.nil,Ai.nil,Ai.nil,Ai.nil⟩,a.cl,Ai.nil,rfl,BU _⟩,Kl,hs.2.1,by simp[Cg,BQ],hs.2.2.2⟩) (λh' b=>Aoa h' b s CP f (Cg f))};{exact OR (s':=CP) (x:={Cg f with fg:=f.fg,venue:=f.venue}) OW (Ab func125) (Ab func127) P' (λh' a=>An9 h' s f) Jr (⟨λh' a=>⟨Ef.nil h',Ai.nil,Ai.nil,rfl,BU _⟩,Kl,by simp[Cg,BQ],by simp[Cg,BQ],by simp[Cg,BQ]⟩) (λh' b=>An8 h' b s CP f (Cg f))};{exact OR (s':={CP with hs:=s.hs,asn:=s.asn,hc:=s.hc,ac:=s.ac}) (x:={Cg f with sh:=f.sh}) OW (Ab func128) (Ab func130) P' (λh' a=>An7 h' s f a hs) Jr (⟨λh' a=>⟨⟨a.sh.hs,a.sh.asn,a.sh.hc,a.sh.ac⟩,Ai.nil,Ai.nil,rfl,BU _⟩,hs.1,by simp[Cg,BQ],by simp[Cg,BQ],by simp[Cg,BQ]⟩) (λh' b=>An6 h' b s CP f (Cg f))};{exact OR (s':=CP) (x:={Cg f with ru:=f.ru}) OW (Ab func131) (Ab func133) P' (λh' a=>An5 h' s f) Jr (⟨λh' a=>⟨Ef.nil h',Ai.nil,Ai.nil,rfl,BU _⟩,Kl,by simp[Cg,BQ],by simp[Cg,BQ],by simp[Cg,BQ]⟩) (λh' b=>An4 h' b s CP f (Cg f))};{exact OR (s':=CP) (x:={Cg f with aCase:=f.aCase,aInst:=f.aInst,aSusp:=f.aSusp}) OW (Ab func134) (Ab func135) P' (λh' a=>An3 h' s f) Jr (⟨λh' a=>⟨Ef.nil h',Ai.nil,Ai.nil,rfl,BU _⟩,Kl,by simp[Cg,BQ],by simp[Cg,BQ],by simp[Cg,BQ]⟩) (λh' b=>Aoi h' b s CP f (Cg f))};{exact OR (s':=CP) (x:={Cg f with mP:=f.mP,mTo:=f.mTo}) OW (Ab func136) (Ab func138) P' (λh' a=>Aoh h' s f) Jr (⟨λh' a=>⟨Ef.nil h',Ai.nil,Ai.nil,rfl,BU _⟩,Kl,by simp[Cg,BQ],by simp[Cg,BQ],by simp[Cg,BQ]⟩) (λh' b=>Aog h' b s CP f (Cg f))};{exact OR (s':={CP with lo:=s.lo}) (x:={Cg f with lS:=f.lS,lC:=f.lC,lO:=f.lO}) OW (Ab func139) (Ab func141) P' (λh' a=>Aof h' s f a hs) Jr (⟨λh' a=>⟨⟨Ai.nil,Ai.nil,Ai.nil,Ai.nil⟩,Ai.nil,a.lo,rfl,a.lc⟩,Kl,by simp[Cg,BQ],hs.2.2.1,by simp[Cg,BQ]⟩) (λh' b=>Aoe h' b s CP f (Cg f))};{exact OR (s':=CP) (x:={Cg f with void:=f.void}) OW (Ab func142) (Ab func143) (by rw[EW,e];simp) (λh' a=>Aod h' s f) Jr (⟨λh' a=>⟨Ef.nil h',Ai.nil,Ai.nil,a.void,BU _⟩,Kl,by simp[Cg,BQ],by simp[Cg,BQ],by simp[Cg,BQ]⟩) (λh' b=>Aoc h' b s CP f (Cg f))}
def Pi (f:Al)(a:¬(1≤f.kind∧f.kind≤8)):Co f.kind Pw=none∧¬EW f:=by constructor;{rw[Acd];repeat rw[if_neg J]};{rw[EW];(repeat rw[if_neg J]);omega}
open Classical in
theorem Ql (h:U)(s:AA)(f:Al)(hf:Cr h s f)(hs:Eu f):Aq prog 45 #[BW s f] h (O (if BT f then 0 else 70)):=by refine AK func45 λ_ _=>?_;by_cases d:1≤f.kind∧f.kind≤8;{obtain⟨g,e,q,s',o,hg,l,t,hv,⟨j,hsm⟩,k⟩:=Ap2 s f hs d;(repeat'(first|refine AH ?_|(refine Aj ?_;intro b)|(refine Ac ?_;first|(apply Hb (f:=g) (fs:=[]) (cs:=[]);exact F;exact F;exact hg;exact hv _ (hf.le Ag))|(apply Ot (f:=e) (fs:=[]) (cs:=[]);exact F;exact F;exact l;exact k _ _;exact Ad;rintro v1 p h1 u ⟨rfl,rfl⟩)|(apply Aw;exact F;exact Ab func88;exact Ajh _ s' (HZ f) (j _ (hf.le Ag)) hsm s f (hf.le Ag) hs)|(apply Aw;exact F;exact Ab func87;exact Arn _ _))|(apply Da (n:=1) [0,1,2,3,4,5,7,8,6,9] [(1,0),(2,0),(0,2),(7,7),(3,0),(4,0),(5,0),(6,0),(7,1),(8,1),(9,0),(0,1),(3,0),(4,0),(5,0),(6,0),(8,1),(9,0)];kernel_rfl)|(apply Be;exact Bd;(apply On (ek:=λi:Int=>O i) (ev:=Mx) (key:=f.kind) (m:=Pw) (r:=some (Ch g [],Ch e [])) LJ;(iterate 5 exact F);exact o);exact AX)|(refine Bn ?_;first|(refine WU ?_;rintro v0 c h0 a ⟨bm,rfl,rfl⟩;refine⟨a,Ak,?_⟩))|(apply GQ;kernel_rfl;exact F;exact F)|(apply HP;(iterate 4 exact F);(first|(refine WU ?_;rintro v0 c h0 a ⟨bm,rfl,rfl⟩;refine⟨a,Ak,?_⟩)))|(refine Y ?_ ?_<;>intro hc<;>try omega)|refine AF ?_|(refine AG ?_ ?_<;>intro hc<;>try omega)|fail));(all_goals(first|(apply BS;(iterate 3 exact F))));all_goals(first|(rw[if_pos (show BT f from by unfold BT;grind)];done)|(rw[if_neg (show¬BT f from by unfold BT;grind)];done))};{(repeat'(first|refine AH ?_|(refine Aj ?_;intro b)|(apply Da (n:=1) [0,1,2,3,4,5,7,8,6,9] [(1,0),(2,0),(0,2),(7,7),(3,0),(4,0),(5,0),(6,0),(7,1),(8,1),(9,0),(0,1),(3,0),(4,0),(5,0),(6,0),(8,1),(9,0)];kernel_rfl)|(apply Be;exact Bd;(apply On (ek:=λi:Int=>O i) (ev:=Mx) (key:=f.kind) (m:=Pw) (r:=none) LJ;(iterate 5 exact F);exact(Pi f d).1);exact AX)|(refine Bn ?_;first|(refine WU ?_;rintro v0 c h0 a ⟨bm,rfl,rfl⟩;refine⟨a,Ak,?_⟩))|(apply GQ;kernel_rfl;exact F;exact F)|(apply HP;(iterate 4 exact F);(first|(refine WU ?_;rintro v0 c h0 a ⟨bm,rfl,rfl⟩;refine⟨a,Ak,?_⟩)))|(refine Y ?_ ?_<;>intro hc<;>try omega)|fail));(all_goals(first|(apply BS;(iterate 3 exact F))));all_goals(rw[if_neg (show¬BT f fromλhh=>(Pi f d).2 hh.2.2.1)])}
def DG (h:U):Prop:=PS prog h "internal/strconv.uint64pow10" (Lib.pow10Tab.map λz=>.int .u64 z)
def DG.le {h h':U}(g:DG h)(a:V h h'):DG h':=PS.le g a
def Ai0 (h:U)(u:Nat)(a:u<100):Aq prog 359 #[O u] h (.string (Cj (Lib.decDigits u))):=
 mZ λw _=>Go.Proofs.Tryz.internal_strconv_small u a w
def Amk (h:U)(hG:DG h)(u:Nat)(h1:1≤u)(h2:u<18446744073709551616):Aq prog 360 #[.int .u64 u] h (O (Lib.nDigits u)):=
 mZ λw a=>Go.Proofs.Tryz.internal_strconv_numDigits u h1 h2 w (hG.tab a)
def Apt (h:U)(b u:Nat)(c:1≤u)(a:u<18446744073709551616):AP prog 361 #[.slice (some (Av b)) (Lib.nDigits u) 24,.int .u64 u] [Ap b 353 (List.replicate 24 (.int .u8 0))] h
  λv Es _=>v=.tuple #[]∧Es=[Ap b 353 ((Lib.decDigits u).flatMap BZ++List.replicate (24-Lib.nDigits u) (.int .u8 0))]:=by
 have g:Lib.nDigits u≤20:=by have:=Lib.numDigits_eq u c a;split at this<;>omega
 have e:List.replicate 24 (Value.int .u8 0)=List.replicate (Lib.nDigits u) (Value.int .u8 0)++List.replicate (24-Lib.nDigits u) (Value.int .u8 0):=by
  rw[List.replicate_append_replicate];congr 1;omega
 rw[e]
 exact Aps (λblk off f u d w=>Go.Proofs.Tryz.internal_strconv_formatBase10 blk off f u d w) h b _ 24 u _ _ c a rfl
def Au.pre {h:U}{a:Addr}{vs us:Ao}(c:Au h a (vs++us)):Au h a vs:=by unfold Au at c ⊢;exactλj v e=>c j v (by rw[GK (Kx.1 e).1];exact e)
def Aqt:∀x,∀u∈BZ x,u.oneCell'=true:=λx=>En rfl
def PU (l:Bj):∀u∈l.flatMap BZ,u.oneCell'=true:=λu a=>by
 obtain⟨x,_,h2⟩:=GJ.1 a
 exact Aqt x u h2
def Apw (l:Bj):(l.flatMap BZ).length=l.length*1:=Hp (sz:=1) (λ_=>rfl) l
def Kd (n:Nat) (xs:Ao) (l:Bj):Value→Am→U→Prop:=λv Es _=>
 ∃A c,v=.slice A (n+l.length) c∧Es=[Ar 5 1 (.slice A (n+l.length) c) (n+l.length) (xs++l.flatMap BZ)]
def mG (h:U)(hG:DG h)(e:Value)(n:Nat)(xs:Ao)(u:Nat)(a:u<18446744073709551616)(hn:n≤900000000):AP prog 349 #[e,.int .u64 u,O 10] [Ar 5 1 e n xs] h (Kd n xs (Lib.decDigits u)):=by
 refine Cx func349 λ_ _=>?_;have d:(Lib.decDigits u).length=Lib.nDigits u:=Lib.decDigits_length u;by_cases f:u<100
 ·have hs:=Ai0 h u f;rw[←NO (u:Int) J]at hs
  have j:(Lib.decDigits u).length≤20:=by
   by_cases h0:u=0;{subst h0;rw[Lib.decDigits,dif_pos J];simp};{rw[d];have:=Lib.numDigits_eq u J a;split at this<;>omega}
  (repeat'(first|refine Aa ?_|(refine Ac ?_;first|(apply Aw;exact F;exact Ab func359;exact hs)|(apply mX;(iterate 10 exact F);intro v1;exact Bp;omega;intro c c1))|(refine Y ?_ ?_<;>intro hc<;>try omega)|fail));exact DD rfl rfl rfl (FH _) ⟨c,c1,rfl,rfl⟩
 {(have h1:1≤u:=by omega);(have m:Lib.nDigits u≤20:=by have:=Lib.numDigits_eq u h1 a;split at this<;>omega);have hf:=λb=>Apt h b u h1 a;have hq:=Apw (Lib.decDigits u);(repeat'(first|refine Aa ?_|(refine Z (by apply Axs (n:=Lib.nDigits u);(iterate 6 exact F);omega) ?_)|(refine Aj ?_;intro b)|(refine Ac ?_;first|(apply Aw;exact F;exact Ab func360;exact Amk _ hG u h1 a)|(apply Ed;exact F;exact Ab func361;exact hf _;exact Ad;rintro v0 i h0 k ⟨rfl,rfl⟩)|(refine Gt Bh ?_;intro h2 l g;apply PG (cs:=(Lib.decDigits u).flatMap BZ);(iterate 7 exact F);exact g.pre;intro v1;exact Bp;(rw[hq,d];rfl);exact PU _;omega;exact F;intro c c1))|(refine Y ?_ ?_<;>intro hc<;>try omega)|fail));(all_goals try omega);rw[←d];exact DD rfl rfl rfl (FH _) ⟨c,c1,rfl,rfl⟩}
def Apf {n:Nat}{xs:Ao}{a b:Bj}{v:Value}{Es:Am}{h:U}(g:Kd (n+a.length) (xs++a.flatMap BZ) b v Es h):Kd n xs (a++b) v Es h:=by obtain⟨A,c,rfl,rfl⟩:=g;refine⟨A,c,?_,?_⟩;{rw[Bt,Md]};{rw[Bt,Md,Ep,Ck]}
def Aud (h:U)(hG:DG h)(a:Value)(n:Nat)(xs:Ao)(i:Int)(h0 : -9223372036854775808≤i)(h1:i≤9223372036854775807)(hn:n≤800000000):AP prog 327 #[a,O i,O 10] [Ar 5 1 a n xs] h (Kd n xs (Lib.itoa i)):=by refine Cx func327 λ_ _=>?_;by_cases hi:i<0;{(have b:Lib.itoa i=[45]++Lib.decDigits i.natAbs:=by unfold Lib.itoa;rw[if_pos hi];rfl);(have c:IntKind.u64.wrap (0-IntKind.u64.wrap i)=(i.natAbs:Int):=by rw[IntKind.wrap_u64,IntKind.wrap_u64];omega);(have d:∀h' a,V h h'→AP prog 349 #[a,.int .u64 (IntKind.u64.wrap (0-IntKind.u64.wrap i)),O 10] [Ar 5 1 a (n+1) (xs++[(45:UInt8)].flatMap BZ)] h' (Kd (n+1) (xs++[(45:UInt8)].flatMap BZ) (Lib.decDigits i.natAbs)):=λh' a j=>by{rw[c];exact mG h' (hG.le j) a (n+1) _ i.natAbs J J});(repeat'(first|refine Aa ?_|(refine Ac ?_;first|(apply HQ;(iterate 3 exact F);exact Cf _ _;(iterate 4 exact F);intro b1 h1 m hcs1)|(apply PG (cs:=[(45:UInt8)].flatMap BZ);(iterate 7 exact F);exact hcs1;intro v1;exact Bp;exact F;exact PU _;omega;exact F;intro l c1)|(apply Ed;exact F;exact Ab func349;exact d _ _ Ag;exact Ad;rintro f e h2 k hg))|(refine Y ?_ ?_<;>intro hc<;>try omega)|fail));have g:Kd (n+[(45:UInt8)].length) (xs++[(45:UInt8)].flatMap BZ) (Lib.decDigits i.natAbs) f e h2:=hg;rw[b];exact DD rfl rfl rfl (Pm _ _) (Apf g)};{(have b:Lib.itoa i=Lib.decDigits i.toNat:=by unfold Lib.itoa;rw[if_neg hi]);(have c:IntKind.u64.wrap i=(i.toNat:Int):=by rw[IntKind.wrap_u64];omega);(have d:AP prog 349 #[a,.int .u64 (IntKind.u64.wrap i),O 10] [Ar 5 1 a n xs] h (Kd n xs (Lib.decDigits i.toNat)):=by{rw[c];exact mG h hG a n _ i.toNat J J});(repeat'(first|refine Aa ?_|(refine Ac ?_;first|(apply Ed;exact F;exact Ab func349;exact d;exact Ad;rintro f e h2 k hg))|(refine Y ?_ ?_<;>intro hc<;>try omega)|fail));rw[b];exact DD rfl rfl rfl (Pm _ _) hg}
def nY (h:U)(hG:DG h)(a:Value)(n:Nat)(xs:Ao)(i:Int)(h0 : -9223372036854775808≤i)(h1:i≤9223372036854775807)(hn:n≤800000000):AP prog 290 #[a,O i,O 10] [Ar 5 1 a n xs] h (Kd n xs (Lib.itoa i)):=by refine Cx func290 λ_ _=>?_;(repeat'(first|refine Aa ?_|(refine Ac ?_;first|(apply Ed;exact F;exact Ab func327;exact Aud h hG a n xs i h0 h1 hn;exact Ad;rintro d b h2 c hg))|fail));exact DD rfl rfl rfl (Pm _ _) hg
structure Gh where
 k:Int
 n:Int
 s:Bj
 L:Ca
 K:Ca
abbrev KH:=List Gh
def Cp (v:Gh):Ao:=[O v.k,O v.n,.string (Cj v.s),.slice v.L.A v.L.n v.L.c,.slice v.K.A v.K.n v.K.c]
def Et (v:Gh):Value:=.agg (Cp v).toArray
def Qz (s:Bj):Ao:=[.string (Cj s)]
def Bi {α c:Type} (P:α→c→Prop) (l:List α) (m:List c):Prop:=l.length=m.length∧∀(i:Nat) (a:α) (b:c),l[i]?=some a→m[i]?=some b→P a b
def Bb (n:Int):Prop:=-9223372036854775808≤n∧n≤9223372036854775807
def Iw (b a:Hr):Bj:=100::((b.zip a).flatMap (λp=>Du p.1++p.2)++[101])
def EY (a:Hr):Bj:=108::(a.flatten++[101])
def DO:Nat→U→Gh→Bj→Prop
 |0,_,_,_=>False
 |d+1,h,v,e=>
   (∃n,v=⟨1,n,[],Cl,Cl⟩∧Bb n∧e=Bl n)∨(∃s,v=⟨2,0,s,Cl,Cl⟩∧e=Du s)∨
   (∃L vs c,v=⟨3,0,[],L,Cl⟩∧Ai Cp 5 h L.A L.n vs∧Bi (DO d h) vs c∧L.n≤1000000∧e=EY c)∨
   (∃L K vs c f,v=⟨4,0,[],L,K⟩∧Ai Cp 5 h L.A L.n vs∧Bi (DO d h) vs c∧Ai Qz 1 h K.A K.n f∧f.length=vs.length∧(f.Pairwise λa b=>Op.bytesLess a b=true)∧L.n≤1000000∧e=Iw f c)
def Bi.imp {α c:Type}{P Q:α→c→Prop}{l:List α}{m:List c}(z:Bi P l m)(h:∀a b,P a b→Q a b):Bi Q l m:=⟨z.1,λi a b h1 h2=>h a b (z.2 i a b h1 h2)⟩
theorem DO.le:∀{d:Nat} {h h':U} {v:Gh} {f:Bj},DO d h v f→V h h'→DO d h' v f
 |0,_,_,_,_,e,_=>e.elim
 |d+1,h,h',v,f,e,c=>by rcases e with e|e|⟨L,vs,g,e1,e2,i,j⟩|⟨L,K,vs,g,n,e1,e2,i,j,k,l,m⟩;{exact .inl e};{exact .inr (.inl e)};{exact .inr (.inr (.inl ⟨L,vs,g,e1,e2.le c,i.imp λa b q=>DO.le q c,j⟩))};{exact .inr (.inr (.inr ⟨L,K,vs,g,n,e1,e2.le c,i.imp λa b q=>DO.le q c,j.le c,k,l,m⟩))}
def DO.kind {d:Nat}{h:U}{v:Gh}{a:Bj}(e:DO d h v a):1≤v.k∧v.k≤4:=by cases d with|zero=>exact e.elim|succ d=>rcases e with⟨n,rfl,_⟩|⟨s,rfl,_⟩|⟨L,vs,b,rfl,_⟩|⟨L,K,vs,b,c,rfl,_⟩<;>(constructor<;>(dsimp only;omega))
def FY:Gh:=⟨0,0,[],Cl,Cl⟩
def Fy (v:Gh):(Cp v).length=5:=rfl
def PV:∀v,∀u∈Cp v,u.oneCell'=true:=λv=>En rfl
def YO {n m:Nat}{xs ys:Ao}{l:Bj}{A:At}{c:Nat}{h:U}(e1:m=n+l.length)(e2:ys=xs++l.flatMap BZ):Kd n xs l (.slice A m c) [Ar 5 1 (.slice A m c) m ys] h:=by subst e1;subst e2;exact⟨A,c,rfl,rfl⟩
def iV (h:U)(hG:DG h)(a:Value)(n:Nat)(xs:Ao)(s:Bj)(hn:n+s.length≤700000000):AP prog 292 #[a,.string (Cj s)] [Ar 5 1 a n xs] h (Kd n xs (Du s)):=by refine Cx func292 λ_ _=>?_;(have e:(Lib.itoa s.length).length≤21:=by have:=Lib.itoa_length_le (s.length:Int) J J;omega);(repeat'(first|refine Aa ?_|(refine Ac ?_;first|(apply Ed;exact F;exact Ab func290;exact nY h hG a n xs (s.length:Int) J J J;exact Ad;rintro i d h2 g ⟨c,c2,rfl,rfl⟩)|(apply HQ;(iterate 3 exact F);exact Cf _ _;(iterate 4 exact F);intro b1 h1 f hcs1)|(apply PG (cs:=[(58:UInt8)].flatMap BZ);(iterate 7 exact F);exact hcs1;intro v1;exact Bp;exact F;exact PU _;omega;exact F;intro b c1)|(apply mX (s:=s);(iterate 10 exact F);intro v1;exact Bp;omega;intro A3 c3))|fail));refine DD rfl rfl rfl (FH _) (YO ?_ ?_);{unfold Du;simp only[Bt,Do];omega};{unfold Du;rw[Ep,Eb];simp only[Ck];rfl}
def PM (k:Int):Nat:=if k=1 then 289 else if k=2 then 291 else if k=3 then 293 else 294
def SL (k:Int) (a:Nat):Ao:=if k≤2 then[]else[AD a]
def JF (k:Int) (a:Nat):Value:=.func (.func (PM k)) #[] (SL k a).toArray
structure NI (h:U) (pb wb:Nat):Prop where
 box:Au h (Av pb) [AD wb]
 tab:Au h (Av wb) [.nilFunc,JF 1 pb,JF 2 pb,JF 3 pb,JF 4 pb]
def NI.le {h h':U}{b c:Nat}(w:NI h b c)(a:V h h'):NI h' b c:=⟨w.box.le a,w.tab.le a⟩
def NI.at_ {h:U}{a b:Nat}(w:NI h a b){k:Int}(h1:1≤k)(h2:k≤4):Au h (((Av b):Addr).add (k.toNat*1)) [JF k a]:=by have hs:=w.tab.shift (k.toNat*1);(have:k=1∨k=2∨k=3∨k=4:=by omega);rcases this with rfl|rfl|rfl|rfl;{exact hs.pre (vs:=[JF 1 a]) (us:=[JF 2 a,JF 3 a,JF 4 a])};{exact hs.pre (vs:=[JF 2 a]) (us:=[JF 3 a,JF 4 a])};{exact hs.pre (vs:=[JF 3 a]) (us:=[JF 4 a])};{exact hs.pre (vs:=[JF 4 a]) (us:=[])}
def dY {k:Int}:BP prog (PM k):=by unfold PM;split;{exact(Ab func289)};{split;{exact(Ab func291)};{split;{exact(Ab func293)};{exact(Ab func294)}}}
def ZW (d:Nat):Prop:=∀(h:U) (pb wb:Nat) (v:Gh) (bs:Bj) (sv:Value) (n:Nat) (xs:Ao),DG h→NI h pb wb→DO d h v bs→n+bs.length≤600000000→
 AP prog (PM v.k) ([]++[sv,Et v]++SL v.k pb).toArray [Ar 5 1 sv n xs] h (Kd n xs bs)
def Aeg (h:U)(hG:DG h)(f:Value)(n:Nat)(xs:Ao)(m:Int)(hm:Bb m)(hn:n≤600000000):AP prog 289 #[f,Et ⟨1,m,[],Cl,Cl⟩] [Ar 5 1 f n xs] h (Kd n xs (Bl m)):=by
 refine Cx func289 λ_ _=>?_;have k:(Lib.itoa m).length≤21:=Lib.itoa_length_le m hm.1 hm.2;(repeat'(first|refine Aa ?_|(refine Aj ?_;intro b)|(apply Da (n:=1) [0,1,2,3,4,5,6,7,8] [(0,0),(3,0),(4,0),(1,2),(14,6),(2,2),(8,6),(5,2),(3,6),(6,1),(7,1),(8,0),(5,1),(7,1),(8,0),(2,1),(5,1),(7,1),(8,0),(1,1),(2,1),(5,1),(7,1),(8,0)];kernel_rfl)|(refine Bn ?_;first|(refine tE ?_;rintro j i h2 c ⟨g,c2,rfl,rfl⟩;refine⟨c,Ak,?_⟩)|(refine qJ ?_;intro b1 h1 a hcs1;refine⟨a,Ak,?_⟩)|(refine Xg ?_;intro b3 h3 d hcs3;refine⟨d,Ak,?_⟩)|(refine tI ?_;intro e c1;refine⟨V.refl _,Ak,?_⟩)|(refine cV ?_;intro e c1;refine⟨V.refl _,Ak,?_⟩))|(apply GQ;kernel_rfl;exact F;exact F)|(apply HP;(iterate 4 exact F);(first|(refine tE ?_;rintro j i h2 c ⟨g,c2,rfl,rfl⟩;refine⟨c,Ak,?_⟩)|(refine qJ ?_;intro b1 h1 a hcs1;refine⟨a,Ak,?_⟩)|(refine Xg ?_;intro b3 h3 d hcs3;refine⟨d,Ak,?_⟩)|(refine tI ?_;intro e c1;refine⟨V.refl _,Ak,?_⟩)))|fail));(all_goals(refine DD rfl rfl rfl (.cons_cons _ (Hi _)) (YO ?_ ?_)))
 all_goals first
  |(unfold Bl;simp only[Bt,Do,Jw];omega)
  |(unfold Bl;simp only[Eb,Ep,Ck,Oj,DR,FE])
def Aef (h:U)(hG:DG h)(a:Value)(n:Nat)(xs:Ao)(s:Bj)(hn:n+s.length≤600000000):AP prog 291 #[a,Et ⟨2,0,s,Cl,Cl⟩] [Ar 5 1 a n xs] h (Kd n xs (Du s)):=by refine Cx func291 λ_ _=>?_;(repeat'(first|refine Aa ?_|(refine Aj ?_;intro b)|(refine Ac ?_;first|(apply Ed;exact F;exact Ab func292;exact iV h hG a n xs s J;exact Ad;rintro f d h2 e ⟨c,c2,rfl,rfl⟩))|fail));exact DD rfl rfl rfl (.cons_cons _ (Hi _)) ⟨c,c2,rfl,rfl⟩
def OP {d:Nat}{h:U}{vs:KH}{a:Hr}(z:Bi (DO d h) vs a){k:Nat}(b:k<vs.length):DO d h (vs.getD k FY) (a.getD k []):=
 z.2 k _ _ (by simp[List.getD,Bw b]) (by simp[List.getD,Bw (show k<a.length from z.1▸b)])
def Yz {a:Hr}{k:Nat}(b:k<a.length):(a.take k).flatten.length+(a.getD k []).length≤a.flatten.length:=by have h1:=BY [] rfl b;(have h2:(a.take (k+1)).flatten.length≤a.flatten.length:=by{(conv=>rhs;rw[←GW (k+1) a,Ib,Bt]);omega});rw[h1,Ib,Bt]at h2;simpa using h2
def Aee (d:Nat)(ad:ZW d)(h:U)(hG:DG h)(g r:Nat)(hw:NI h g r)(l:Value)(n:Nat)(xs:Ao)(L:Ca)(vs:KH)(a:Hr)(hL:Ai Cp 5 h L.A L.n vs)(q:Bi (DO d h) vs a)(hn:n+(EY a).length≤600000000)(aj:L.n≤1000000000) :
  AP prog 293 #[l,Et ⟨3,0,[],L,Cl⟩,AD g] [Ar 5 1 l n xs] h (Kd n xs (EY a)):=by
 refine Cx func293 λ_ _=>?_
 have ai:=hL.len
 have al:=q.1
 have af:(EY a).length=a.flatten.length+2:=by unfold EY;simp
 repeat'(first|refine Aa ?_|(refine Aj ?_;intro b)|(refine Ac ?_;first|(apply HQ (cs:=[(108:UInt8)].flatMap BZ);(iterate 3 exact F);exact Cf _ _;(iterate 4 exact F);intro b1 h1 z hcs1)|(apply PG (cs:=[(108:UInt8)].flatMap BZ);(iterate 7 exact F);exact hcs1.le Ag;intro v1;exact Bp;exact F;exact PU _;omega;exact F;intro s c1))|fail)
 generalize hmm:n+1=i
 refine Bg (X:=Nat×At×Nat×U) (λx=>x.1≤L.n∧V h x.2.2.2) (λx=>L.n-x.1)
  (λx=>[(14,O x.1),(13,O L.n),(12,.slice L.A L.n L.c),(2,AD g),(0,.slice x.2.1 (i+(a.take x.1).flatten.length) x.2.2.1)])
  (λx=>[Ar 5 1 (.slice x.2.1 (i+(a.take x.1).flatten.length) x.2.2.1) (i+(a.take x.1).flatten.length) (xs++(108::(a.take x.1).flatten).flatMap BZ)]) (λx=>x.2.2.2) (0,s,c1,h1) ⟨Ah,z⟩ Af Ad rfl ?_
 rintro⟨k,A,c,hh⟩ ⟨y,e⟩ m
 dsimp only at y e m ⊢
 by_cases o:k<L.n
 · have a1:=hL.addrD o
   have cc:=(hL.cellsD FY o).le e
   have hv:=(OP q (show k<vs.length by omega)).le e
   have ag:=Yz (show k<a.length by omega)
   have aa:=BY [] rfl (show k<a.length by omega)
   generalize vs.getD k FY=u at *
   generalize a.getD k []=v at *
   have ab:=(hw.le e).box
   have ac:=(hw.le e).at_ hv.kind.1 hv.kind.2
   have ak:=hv.kind
   have w:=λl n xs hn=>ad hh g r u v l n xs (hG.le e) (hw.le e) hv hn
   repeat'(first|refine AH ?_|refine Z Bf ?_|refine Z HG ?_|(refine Aj ?_;intro b)|(apply AU (n:=5) 11 [0,1,2,3,4,5,6,7,8,99,9,99,10];kernel_rfl)|(apply Be;exact Bd;(first|(apply KB (j:=u.k.toNat);(iterate 5 exact F);omega;omega)|(apply BA;exact F;exact BH rfl ab rfl)|(apply BA;exact F;exact GA rfl ac rfl));exact AX)|(refine Bn ?_;first|(apply Ot (f:=PM u.k) (fs:=[]) (cs:=SL u.k g);exact F;exact F;exact dY;exact w _ (i+(a.take k).flatten.length) (xs++(108::(a.take k).flatten).flatMap BZ) J;exact Ad;rintro am ae h2 p ⟨t,c2,rfl,rfl⟩;refine⟨p,Ak,?_⟩))|(refine Y ?_ ?_<;>intro hc<;>try omega)|fail)
   all_goals
    have h3:=m (k+1,t,c2,h2) ⟨Ah,by dsimp only;exact e.trans p⟩ Ah
    dsimp only at h3
    rw[aa,Ib,eM,Bt,←Md,←FW,Ep,←Ck]at h3
    refine AB Af Ad h3
 · rw[By J]
   clear m
   repeat'(first|refine Aa ?_|(refine Ac ?_;first|(refine Xg ?_;intro b3 h3 ah hcs3)|(refine cV ?_;intro A3 c3))|(refine Y ?_ ?_<;>intro hc<;>try omega)|fail)
   refine DD rfl rfl rfl (FH _) (YO ?_ ?_)
   · omega
   · unfold EY;simp only[Eb,Ep,Ck,Oj,DR,FE]
def Aed (d:Nat)(ao:ZW d)(h:U)(hG:DG h)(o ae:Nat)(hw:NI h o ae)(q:Value)(n:Nat)(xs:Ao)(L K:Ca)(vs:KH)(g e:Hr)(hL:Ai Cp 5 h L.A L.n vs)(ad:Bi (DO d h) vs g)(hK:Ai Qz 1 h K.A K.n e)(ax:e.length=vs.length)(hn:n+(Iw e g).length≤600000000)(a0:L.n≤1000000000) :
  AP prog 294 #[q,Et ⟨4,0,[],L,K⟩,AD o] [Ar 5 1 q n xs] h (Kd n xs (Iw e g)):=by
 refine Cx func294 λ_ _=>?_
 have ay:=hL.len
 have az:=hK.len
 have a6:=ad.1
 obtain⟨a,s⟩:∃a,a=(e.zip g).map (λp=>Du p.1++p.2):=⟨_,rfl⟩
 have y:(e.zip g).flatMap (λp=>Du p.1++p.2)=a.flatten:=by rw[s,eN]
 have a4:a.length=vs.length:=by rw[s,Dc,List.length_zip];omega
 have au:(Iw e g).length=a.flatten.length+2:=by unfold Iw;rw[y];simp
 have al:∀k,k<vs.length→a.getD k []=Du (e.getD k [])++g.getD k []:=λk z=>by
  rw[s];simp[List.getD,Bw (show k<e.length by omega),Bw (show k<g.length by omega),List.zip_eq_zipWith,Ay2]
 repeat'(first|refine Aa ?_|(refine Aj ?_;intro b)|(refine Ac ?_;first|(apply HQ (cs:=[(100:UInt8)].flatMap BZ);(iterate 3 exact F);exact Cf _ _;(iterate 4 exact F);intro b1 h1 ai hcs1)|(apply PG (cs:=[(100:UInt8)].flatMap BZ);(iterate 7 exact F);exact hcs1.le Ag;intro v1;exact Bp;exact F;exact PU _;omega;exact F;intro af c1))|fail)
 generalize hmm:n+1=m
 generalize b=v
 refine Bg (X:=Nat×At×Nat×U) (λx=>x.1≤L.n∧V h x.2.2.2) (λx=>L.n-x.1)
  (λx=>[(14,O x.1),(13,O L.n),(12,.slice L.A L.n L.c),(2,AD o),(4,AD v),(0,.slice x.2.1 (m+(a.take x.1).flatten.length) x.2.2.1)])
  (λx=>[Ar 5 1 (.slice x.2.1 (m+(a.take x.1).flatten.length) x.2.2.1) (m+(a.take x.1).flatten.length) (xs++(100::(a.take x.1).flatten).flatMap BZ),Ap v 193 (Cp ⟨4,0,[],L,K⟩)]) (λx=>x.2.2.2) (0,af,c1,h1) ⟨Ah,ai⟩ Af Ad rfl ?_
 rintro⟨k,A,c,hh⟩ ⟨z,i⟩ t
 dsimp only at z i t ⊢
 by_cases aa:k<L.n
 · have a1:=hL.addrD aa
   have cc:=(hL.cellsD FY aa).le i
   have hkK:k<K.n:=by omega
   have a2:=hK.addrD hkK
   have ag:=(hK.cellsD [] (show k<K.n by omega)).le i
   have hv:=(OP ad (show k<vs.length by omega)).le i
   have av:=Yz (show k<a.length by omega)
   have ak:=BY [] rfl (show k<a.length by omega)
   have ac:=al k J
   generalize vs.getD k FY=u at *
   generalize g.getD k []=w at *
   generalize e.getD k []=l at *
   have a3:(a.getD k []).length=(Du l).length+w.length:=by rw[ac,Bt]
   have aw:l.length≤(Du l).length:=by unfold Du;simp;omega
   have am:=(hw.le i).box
   have an:=(hw.le i).at_ hv.kind.1 hv.kind.2
   have a5:=hv.kind
   have ah:=λh' (r:V hh h') q n xs hn=>ao h' o ae u w q n xs (hG.le (i.trans r)) (hw.le (i.trans r)) (hv.le r) hn
   repeat'(first|refine AH ?_|refine Z Bf ?_|refine Z HG ?_|(refine Aj ?_;intro b)|(apply AU (n:=5) 17 [0,1,2,3,4,5,6,7,8,9,10,11,12,14,99,13,15,99,16];kernel_rfl)|(apply Be;exact Bd;(first|exact oZ|(apply KB (j:=u.k.toNat);(iterate 5 exact F);omega;omega)|(apply BA;exact F;exact BH rfl ag rfl)|(apply BA;exact F;exact BH rfl am rfl)|(apply BA;exact F;exact GA rfl an rfl));exact AX)|(refine Bn ?_;first|(apply Ed;exact F;exact Ab func292;exact iV _ (hG.le Ag) _ (m+(a.take k).flatten.length) (xs++(100::(a.take k).flatten).flatMap BZ) l J;exact Ad;rintro a7 aq h2 aj ⟨ap,c2,rfl,rfl⟩;refine⟨aj,Ak,?_⟩)|(apply Ot (f:=PM u.k) (fs:=[]) (cs:=SL u.k o);exact F;exact F;exact dY;exact ah _ Ag _ (m+(a.take k).flatten.length+(Du l).length) (xs++(100::(a.take k).flatten).flatMap BZ++(Du l).flatMap BZ) J;exact Ad;rintro v3 ar h3 ab ⟨A3,c3,rfl,rfl⟩;refine⟨ab,Ak,?_⟩))|(refine Y ?_ ?_<;>intro hc<;>try omega)|fail)
   all_goals
    have h3:=t (k+1,A3,c3,h3) ⟨Ah,by dsimp only;exact i.trans Ag⟩ Ah
    dsimp only at h3
    rw[ak,Ib,eM,ac,Bt,Bt,←Md,←Md,←FW,Ep,Ep,←Ck,←Ck]at h3
    refine AB Af Ad h3
 · rw[By J]
   clear t
   repeat'(first|refine Aa ?_|(refine Ac ?_;first|(refine Xg ?_;intro b3 h3 ab hcs3)|(refine cV ?_;intro A3 c3))|(refine Y ?_ ?_<;>intro hc<;>try omega)|fail)
   refine DD rfl rfl rfl (.cons_cons _ (Hi _)) (YO ?_ ?_)
   · omega
   · unfold Iw;rw[y];simp only[Eb,Ep,Ck,Oj,DR,FE]
theorem Za:∀d,ZW d
 |0=>λh e f v i a n xs hG hw hv hn=>hv.elim
 |d+1=>λh e f v i a n xs hG hw hv hn=>by rcases hv with⟨m,rfl,hm,rfl⟩|⟨s,rfl,rfl⟩|⟨L,vs,b,rfl,e2,c,g,rfl⟩|⟨L,K,vs,b,k,rfl,e2,c,g,j,l,o,rfl⟩;{exact Aeg h hG a n xs m hm J};{exact Aef h hG a n xs s (by unfold Du at hn;simp at hn;omega)};{exact Aee d (Za d) h hG e f hw a n xs L vs b e2 c hn J};{exact Aed d (Za d) h hG e f hw a n xs L K vs b k e2 c g j hn J}
def Axz (h:U):Az prog 205 #[] h λv h'=>∃f a,v=AD a∧NI h' f a:=by refine BB func205 λ_ _=>?_;(repeat'(first|refine AH ?_|refine Z RS ?_|(refine Z (by apply KB (j:=2);(iterate 6 exact F);exact BO) ?_)|(refine Z (by apply KB (j:=3);(iterate 6 exact F);exact BO) ?_)|(refine Z (by apply KB (j:=4);(iterate 6 exact F);exact BO) ?_)|(refine Aj ?_;intro b)|fail));rename_i a;refine Ii (b:=a) Bh ?_;intro h1 g c;refine Ii (b:=b) Bh ?_;intro h2 e d;(first|(apply BL;(iterate 3 exact F)));exact⟨b,a,rfl,d,c.le e⟩
def Ajk (a b:Bj):((Cj a).toList==(⟨#[]⟩:ByteArray).toList)=decide (a=[]):=by rw[Li,show(⟨#[]⟩:ByteArray).toList=[]from Li []];exact NN beq_iff_eq
def UO:((Cj []).toList==(⟨#[]⟩:ByteArray).toList)=true:=by rw[Ajk [] []];rfl
def lR (h:U)(d:Nat)(v:Gh)(c:Bj)(hv:DO d h v c):Aq prog 326 #[Et v] h (.bool true):=by refine AK func326 λ_ _=>?_;cases d with|zero=>exact hv.elim|succ d=>have hs:=UO;rcases hv with⟨m,rfl,hm,rfl⟩|⟨s,rfl,rfl⟩|⟨L,vs,e,rfl,e2,f,a,rfl⟩|⟨L,K,vs,e,l,rfl,e2,f,a,g,i,k,rfl⟩;{(repeat'(first|refine Aa ?_|(refine Z (by apply Wi (j:=1);(iterate 6 exact F);exact BO;exact F) ?_)|(refine Aj ?_;intro b)|refine AF ?_|(refine AG ?_ ?_<;>intro hc<;>try omega)|fail));all_goals(first|((first|(apply BS;(iterate 3 exact F)));simp[FP,Cl];done)|(exfalso;simp_all[Cl];done)|skip)};{(repeat'(first|refine Aa ?_|(refine Z (by apply Wi (j:=2);(iterate 6 exact F);exact BO;exact F) ?_)|(refine Aj ?_;intro b)|refine AF ?_|(refine AG ?_ ?_<;>intro hc<;>try omega)|fail));all_goals(first|((first|(apply BS;(iterate 3 exact F)));simp[FP,Cl];done)|(exfalso;simp_all[Cl];done)|skip)};{(repeat'(first|refine Aa ?_|(refine Z (by apply Wi (j:=3);(iterate 6 exact F);exact BO;exact F) ?_)|(refine Aj ?_;intro b)|refine AF ?_|(refine AG ?_ ?_<;>intro hc<;>try omega)|fail));all_goals(first|((first|(apply BS;(iterate 3 exact F)));simp[FP,Cl];done)|(exfalso;simp_all[Cl];done)|skip)};{have h1:=e2.len;have h2:=a.len;(repeat'(first|refine Aa ?_|(refine Z (by apply Wi (j:=4);(iterate 6 exact F);exact BO;exact F) ?_)|(refine Aj ?_;intro b)|refine AF ?_|(refine AG ?_ ?_<;>intro hc<;>try omega)|fail));all_goals(first|((first|(apply BS;(iterate 3 exact F)));rw[FP,decide_eq_true Ah];done)|((first|(apply BS;(iterate 3 exact F)));simp[FP,Cl];done)|(exfalso;simp_all[Cl];done)|skip)}
def kE {c:Hr}(hp:c.Pairwise λa b=>Op.bytesLess a b=true){k:Nat}(h0:1≤k)(d:k<c.length):Op.bytesLess (c.getD (k-1) []) (c.getD k [])=true:=by rw[Uv]at hp;have:=hp (k-1) k J d J;simpa[List.getD,Bw d,Bw (show k-1<c.length by omega)]using this
def Abd (d:Nat):Prop:=∀(h:U) (v:Gh) (bs:Bj),DO d h v bs→Az prog 288 #[Et v] h λu _=>∃m:Int,u=.tuple #[O m,.bool true]∧0≤m∧m≤d
def Ads (d:Nat)(h:U)(v:Gh)(a:Bj)(hv:DO d h v a)(c:v.k<3)(hK:v.K=Cl):Az prog 288 #[Et v] h λu _=>u=.tuple #[O 0,.bool true]:=by
 refine BB func288 λ_ _=>?_;have e:=hv.kind;obtain⟨i,j,vs,g,l⟩:=v;dsimp only at c hK e;subst hK;(repeat'(first|refine Aa ?_|(refine Aj ?_;intro b)|(refine Ac ?_;first|(apply Aw;exact F;exact Ab func326;exact lR _ d _ a hv))|(refine Y ?_ ?_<;>intro hc<;>try omega)|refine AF ?_|(refine AG ?_ ?_<;>intro hc<;>try omega)|fail));(all_goals try omega);refine Bg (X:=Nat) (λk=>k=0) (λk=>0) (λk=>[(4,O 1),(2,O 0),(3,.bool false),(1,AD b)]) (λ_=>[Ap b 193 (Cp ⟨i,j,vs,g,Cl⟩)]) (λ_=>h) 0 rfl Af Ad rfl ?_;rintro k _ f;clear f;(repeat'(first|refine Aa ?_|(apply AU (n:=6) 12 [0,1,2,3,4,5,6,7,8,9,10,11];kernel_rfl)|(refine Y ?_ ?_<;>intro hc<;>try omega)|fail))
 all_goals first
  |(exfalso;simp[Cl]at *;done)
  |omega
  |(exact EG rfl rfl rfl rfl rfl)
def Adt (d:Nat)(ak:Abd d)(h:U)(v:Gh)(o:Bj)(hv:DO (d+1) h v o)(w:3≤v.k)(vs:KH)(p:Hr)(hL:Ai Cp 5 h v.L.A v.L.n vs)(aj:Bi (DO d h) vs p)(hn:v.L.n≤1000000)(i:Hr)(hK:Ai Qz 1 h v.K.A v.K.n i)(hp:i.Pairwise λa b=>Op.bytesLess a b=true)(aa:v.K.n≤1000000)(ao:d≤1000) :
  Az prog 288 #[Et v] h λu _=>∃m:Int,u=.tuple #[O m,.bool true]∧0≤m∧m≤(d+1:Nat):=by
 refine BB func288 λ_ _=>?_
 have z:=hv.kind
 have ad:=hL.len
 have ae:=hK.len
 obtain⟨al,am,an,c,f⟩:=v
 dsimp only at w hL hn hK aa z ad ae
 repeat'(first|refine Aa ?_|(refine Aj ?_;intro b)|(refine Ac ?_;first|(apply Aw;exact F;exact Ab func326;exact lR _ _ _ o hv))|(refine Y ?_ ?_<;>intro hc<;>try omega)|refine AF ?_|(refine AG ?_ ?_<;>intro hc<;>try omega)|fail)
 all_goals try omega
 generalize b=l
 refine Bg (X:=Nat) (λk=>1≤k∧(k≤f.n∨k=1)) (λk=>f.n+1-k) (λk=>[(4,O k),(2,O 0),(3,.bool false),(1,AD l)]) (λ_=>[Ap l 193 (Cp ⟨al,am,an,c,f⟩)]) (λ_=>h) 1 ⟨J,J⟩ Af Ad rfl ?_
 rintro k ⟨y,ap⟩ e
 by_cases hkn2:k<f.n
 · have a1:=hK.addrD hkn2
   have c1:=hK.cellsD [] hkn2
   have c2:=hK.cellsD [] (show k-1<f.n by omega)
   have af:=kE hp y J
   generalize i.getD k []=k1 at *
   generalize i.getD (k-1) []=k0 at *
   have ab:k-1<f.n:=by omega
   have t:((k:Int)-1)=((k-1:Nat):Int):=by omega
   repeat'(first|refine Aa ?_|(apply AU (n:=6) 12 [0,1,2,3,4,5,6,7,8,9,10,11];kernel_rfl)|(apply Be;exact Bd;(first|exact pA|(apply Cs (j:=k-1);(iterate 5 exact F);exact a1;exact t;exact ab)|exact BN|exact KQ);exact AX)|(refine Y ?_ ?_<;>intro hc<;>try omega)|fail)
   all_goals first
    |(exfalso;rw[Li,Li,af]at *;simp at *;done)
    |(
       have h3:=e (k+1) ⟨J,J⟩ J
       refine AB Af Ad h3)
 · clear e
   repeat'(first|refine Aa ?_|(refine Y ?_ ?_<;>intro hc<;>try omega)|fail)
   all_goals(try(exfalso;dsimp only at *;omega))
   refine Bg (X:=Nat×Int×U) (λx=>x.1≤c.n∧0≤x.2.1∧x.2.1≤d∧V h x.2.2) (λx=>c.n-x.1) (λx=>[(47,O x.1),(46,O c.n),(45,.slice c.A c.n c.c),(2,O x.2.1)]) (λ_=>[]) (λx=>x.2.2) (0,0,h) ⟨Ah,Ah,Ah,V.refl _⟩ Af Ad rfl ?_
   rintro⟨j,HS,hh⟩ ⟨hj,ag,ah,g⟩ e
   dsimp only at hj ag ah g e ⊢
   by_cases hjn:j<c.n
   · have a1:=hL.addrD hjn
     have cc:=(hL.cellsD FY hjn).le g
     have ai:=(OP aj (show j<vs.length by omega)).le g
     generalize vs.getD j FY=u at *
     generalize p.getD j []=r at *
     have s:=ak hh u r ai
     repeat'(first|refine AH ?_|refine Z Xh ?_|refine Z HG ?_|(refine Aj ?_;intro b)|(refine Ac ?_;first|(apply AR;exact F;exact Ab func288;exact s;rintro v1 h1 ac ⟨m,rfl,aq,ar⟩))|(refine Y ?_ ?_<;>intro hc<;>try omega)|fail)
     have q:0≤max HS m∧max HS m≤d:=by rw[Int.max_def];split<;>omega
     have h3:=e (j+1,max HS m,h1) ⟨Ah,q.1,q.2,g.trans ac⟩ Ah
     dsimp only at h3
     refine AB Af Ad h3
   · clear e
     repeat'(first|refine Aa ?_|(refine Y ?_ ?_<;>intro hc<;>try omega)|fail)
     exact EG rfl rfl rfl rfl ⟨HS+1,rfl,J,J⟩
theorem Zw:∀d,d≤1000→Abd d
 |0,_=>λh v g hv=>hv.elim
 |d+1,n=>λh v g hv=>by have b:=hv;rcases hv with⟨m,rfl,hm,rfl⟩|⟨s,rfl,rfl⟩|⟨L,vs,c,rfl,e2,f,a,rfl⟩|⟨L,K,vs,c,k,rfl,e2,f,a,l,i,j,rfl⟩;{exact(Ads _ h _ _ b Ah rfl).mono λu _ _ e=>⟨0,e,J,J⟩};{exact(Ads _ h _ _ b Ah rfl).mono λu _ _ e=>⟨0,e,J,J⟩};{exact Adt d (Zw d J) h _ _ b Ah vs c e2 f a [] Ai.nil .nil (by simp[Cl]) J};{have h1:=e2.len;have h2:=a.len;exact Adt d (Zw d J) h _ _ b Ah vs c e2 f j k a i Ah J}
def Atc (h:U)(d:Nat)(c:d≤16)(v:Gh)(a:Bj)(hv:DO d h v a):Az prog 204 #[Et v] h λu _=>u=O 0:=by
 refine BB func204 λ_ _=>?_;(repeat'(first|refine Aa ?_|(refine Aj ?_;intro b)|(refine Ac ?_;first|(apply AR;exact F;exact Ab func288;exact Zw d J h v a hv;rintro v1 h1 e ⟨m,rfl,f,g⟩))|(refine Y ?_ ?_<;>intro hc<;>try omega)|fail))
 all_goals first
  |omega
  |(exact BL rfl rfl rfl rfl)
def Aqm (h:U)(hG:DG h)(d:Nat)(o:d≤16)(v:Gh)(a:Bj)(hv:DO d h v a)(x:a.length≤500000000):Az prog 146 #[Et v] h λu h'=>∃A c,u=.tuple #[.slice A a.length c,O 0]∧Ai BZ 1 h' A a.length a:=by refine BB func146 λ_ _=>?_;have g:=hv.kind;refine FN 5 1 ?_;(repeat'(first|refine Aa ?_|(refine Aj ?_;intro b)|(refine Ac ?_;first|(apply AR;exact F;exact Ab func204;exact Atc h d o v a hv;rintro v1 h1 y rfl))|(apply AU (n:=4) 11 [1,2,7,99,0,99,3,4,5,6,99,8,99,9,10];kernel_rfl)|(apply Be;exact Bd;(first|(apply KB (j:=v.k.toNat);(iterate 5 exact F);omega;omega)|(apply BA;exact F;exact GA rfl (i.at_ g.1 g.2) rfl));exact AX)|(refine Bn ?_;first|(apply AR;exact F;exact Ab func205;exact Axz _;rintro aa h2 p ⟨k,r,rfl,i⟩;refine⟨p,Ak,?_⟩)|(apply Ot (f:=PM v.k) (fs:=[]) (cs:=SL v.k k);exact F;exact F;exact dY;exact Za d _ k r v a _ 0 [] (hG.le Ag) i (hv.le Ag) J;exact Ad;rintro v3 t h3 q ⟨A3,c3,rfl,rfl⟩;refine⟨q,Ak,?_⟩))|(refine Y ?_ ?_<;>intro hc<;>try omega)|fail));simp only[Dy,FE];refine EE (enc:=BZ) (e:=5) (xs:=a) (λ_=>rfl) rfl Bh ?_;intro s c2 w z e2 hnc hs;injection e2 with l _ m;subst l;subst m;exact EG rfl rfl rfl rfl ⟨_,_,rfl,hs⟩
def DT (n:Int):Gh:=⟨1,n,[],Cl,Cl⟩
def SH (s:Bj):Gh:=⟨2,0,s,Cl,Cl⟩
def FQ (A:At) (n c:Nat):Gh:=⟨3,0,[],⟨A,n,c⟩,Cl⟩
def Abc {P:Program}{f:FuncId}{args:Dx}{Es0:Am}{h0:U}{Post a:Value→Am→U→Prop}(hf:AP P f args Es0 h0 Post)
  (hp:∀v Es h,V h0 h→Post v Es h→∃A Fs,Es=A::Fs∧∀D h',V h h'→A.holds D h'→a v Fs h'):AP P f args Es0 h0 a:=by
 unfold AP at hf ⊢
 intro w X0 c d
 refine(hf w X0 c d).mono ?_
 rintro e g ⟨v,rfl,Es,h,b,H⟩
 obtain⟨A,Fs,rfl,hq⟩:=hp v Es h H.le b
 obtain⟨D,h',h1,h2,h3⟩:=H.release C'.here
 exact⟨v,rfl,Fs,h',hq D h' h1 h2,h3⟩
def QC (h:U)(n:Int):Aq prog 147 #[O n] h (Et (DT n)):=by refine AK func147 λ_ _=>?_;(repeat'(first|refine AH ?_|(refine Aj ?_;intro b)|fail));exact Ha rfl rfl rfl Bc rfl rfl rfl
def XD (h:U)(A:At)(n c:Nat):Aq prog 148 #[.slice A n c] h (Et (FQ A n c)):=by refine AK func148 λ_ _=>?_;(repeat'(first|refine AH ?_|(refine Aj ?_;intro b)|fail));exact Ha rfl rfl rfl Bc rfl rfl rfl
def iT (h:U)(s:Bj):Aq prog 200 #[.string (Cj s)] h (Et (SH s)):=by refine AK func200 λ_ _=>?_;(repeat'(first|refine AH ?_|(refine Aj ?_;intro b)|fail));exact Ha rfl rfl rfl Bc rfl rfl rfl
def iR (h:U)(b:Bool):Aq prog 203 #[.bool b] h (O (if b then 1 else 0)):=by refine AK func203 λ_ _=>?_;(repeat'(first|refine Aa ?_|(refine Y ?_ ?_<;>intro hc<;>try omega)|refine Bm ?_|fail));all_goals(subst hc;rfl)
def vH (l:AC):Value→Am→U→Prop:=λv Es _=>∃A c,v=Et (FQ A l.length c)∧Es=[Ar 193 5 (.slice A l.length c) l.length ((l.map DT).flatMap Cp)]
def jT (h:U)(A:At)(n c:Nat)(l:AC)(hx:Ai AQ 1 h A n l)(hn:n≤1000000):AP prog 199 #[.slice A n c] [] h (vH l):=by
 refine Cx func199 λ_ _=>?_;have o:=hx.len;(repeat'(first|refine AH ?_|(refine Aj ?_;intro b)|(refine Ac ?_;first|(apply Aw;exact F;exact Ab func148;exact XD _ _ _ _))|fail));rename_i b2;generalize b=b3;refine FN 193 5 ?_;refine Bg (X:=Nat×At×Nat×U) (λx=>x.1≤n∧V h x.2.2.2) (λx=>n-x.1) (λx=>[(9,O x.1),(8,O n),(7,.slice A n c),(3,AD b3),(2,AD b2)]) (λx=>[Ap b3 193 (Cp (FQ x.2.1 x.1 x.2.2.1)),Ar 193 5 (.slice x.2.1 x.1 x.2.2.1) x.1 (((l.take x.1).map DT).flatMap Cp),Ap b2 193 (Cp FY)]) (λx=>x.2.2.2) (0,none,0,h) ⟨Ah,V.refl _⟩ Af Ad rfl ?_;rintro⟨k,f,c1,hh⟩ ⟨j,d⟩ e;dsimp only at j d e ⊢;by_cases a:k<n
 ·have a1:=hx.addrD a;have cc:=(hx.cellsD 0 a).le d;have p:=BY 0 o a;generalize l.getD k 0=u at *;(repeat'(first|refine AH ?_|refine Z Bf ?_|refine Z HG ?_|(apply AU (n:=5) 8 [0,1,2,99,3,4,5,99,6,99,7];kernel_rfl)|(refine Bn ?_;first|(refine sK ?_;intro b1 h1 g hs1;refine⟨g,Ak,?_⟩)|(refine qU ?_;intro i c2;refine⟨V.refl _,Ak,?_⟩)|(apply Aw;exact F;exact Ab func147;exact QC _ _;refine⟨V.refl _,Ak,?_⟩))|(refine Y ?_ ?_<;>intro hc<;>try omega)|fail))
  all_goals
   have h3:=e (k+1,i,c2,h1) ⟨Ah,by dsimp only;exact d.trans g⟩ Ah
   dsimp only at h3
   rw[p,DI]at h3
   refine AB Af Ad h3
 {rw[By J];clear e;(have m:k=l.length:=by omega);subst m;(repeat'(first|refine AH ?_|(refine Y ?_ ?_<;>intro hc<;>try omega)|fail));exact Me (rs:=[.cell 2 193]) (vs:=[Et (FQ f l.length c1)]) rfl rfl ⟨⟨_,rfl,JS rfl Bc rfl⟩,trivial⟩ (.cons _ (.cons_cons _ (Hi _))) ⟨f,c1,rfl,rfl⟩}
def YI (h:U)(A:At)(n c:Nat)(l:AC)(hx:Ai AQ 1 h A n l)(hn:n≤1000000):Az prog 199 #[.slice A n c] h λu h'=>∃A' a,u=Et (FQ A' l.length a)∧Ai Cp 5 h' A' l.length (l.map DT):=by
 unfold Az
 exact Abc (jT h A n c l hx hn) λv Es h' k ⟨A',a,e1,e2⟩=>⟨_,_,e2,λD i j f=>by
  obtain⟨g,c2,b,hs⟩:=Wj Fy An f;injection b with d _ e;subst d;subst e
  exact⟨rfl,A',a,e1,hs⟩⟩
def CT {d:Nat}{h:U}{n:Int}(hn:Bb n):DO (d+1) h (DT n) (Bl n):=.inl ⟨n,rfl,hn,rfl⟩
def Wu {d:Nat}{h:U}{s:Bj}:DO (d+1) h (SH s) (Du s):=.inr (.inl ⟨s,rfl,rfl⟩)
def LM {d:Nat}{h:U}{A:At}{n c:Nat}{vs:KH}{a:Hr}(hs:Ai Cp 5 h A n vs)(b:Bi (DO d h) vs a)(hn:n≤1000000):DO (d+1) h (FQ A n c) (EY a):=
 .inr (.inr (.inl ⟨⟨A,n,c⟩,vs,a,rfl,hs,b,hn,rfl⟩))
def wD {d:Nat}{h:U}{l:AC}(c:∀x∈l,Bb x):Bi (DO (d+1) h) (l.map DT) (l.map Bl):=by refine⟨An,λi a b h1 h2=>?_⟩;rw[FG]at h1 h2;cases hi:l[i]? with|none=>(rw[hi]at h1;cases h1)|some x=>rw[hi]at h1 h2;injection h1 with h1;injection h2 with h2;subst h1;subst h2;exact CT (c x (Oi hi))
def At7 (l:AC):EY (l.map Bl)=DK l:=by unfold EY DK Ov;rw[eN]
def Aav {d:Nat}{h:U}{A:At}{c:Nat}{l:AC}(hs:Ai Cp 5 h A l.length (l.map DT))(a:∀x∈l,Bb x)(hn:l.length≤1000000):DO (d+2) h (FQ A l.length c) (DK l):=by rw[←At7];exact LM hs (wD a) hn
def JJ (d:Nat) (a:Bj):Value→U→Prop:=λu h=>∃v,u=Et v∧DO d h v a
def Rw {d:Nat}(h:U)(A:At)(n c:Nat)(l:AC)(hx:Ai AQ 1 h A n l)(hn:n≤1000000)(a:∀x∈l,Bb x):Az prog 199 #[.slice A n c] h (JJ (d+2) (DK l)):=
 (YI h A n c l hx hn).mono λv h' _ ⟨A',b,e1,e2⟩=>⟨_,e1,Aav e2 a (by have:=hx.len;omega)⟩
def IL (g:AL):Prop:=Bb g.s∧Bb g.c∧Bb g.h∧Bb g.a
def iG {g:AL}(hg:IL g):∀x∈GU g,Bb x:=by obtain⟨h1,h2,h3,a⟩:=hg;intro x hx;simp only[GU,Bx,JX,or_false]at hx;rcases hx with rfl|rfl|rfl|rfl<;>assumption
def YL {d:Nat}(h:U)(g:AL)(hg:IL g):Az prog 201 #[Di g] h (JJ (d+2) (DK (GU g))):=by refine BB func201 λ_ _=>?_;(repeat'(first|refine AH ?_|(refine Aj ?_;intro b)|(refine Ac ?_;first|(refine pQ ?_;intro b1 h1 a hcs1)|(apply AR;exact F;exact Ab func199;exact Rw (d:=d) _ _ 4 4 (GU g) (Jc hcs1) J (iG hg);rintro e h2 c ⟨v,rfl,hv⟩))|fail));exact Gr rfl rfl rfl Bc rfl rfl ⟨v,rfl,hv⟩
def fJ (c:Jb)(hc:Bb c.p):∀x∈Ki c,Bb x:=by intro x hx;simp only[Ki,Bx,JX,or_false]at hx;rcases hx with rfl|rfl;{exact hc};{unfold Bb;split<;>omega}
def Abo (l:Fz):EY (l.map λc=>DK (Ki c))=IU l:=by unfold EY IU Ov;rw[eN]
def Bi.snoc {α c:Type}{P:α→c→Prop}{l:List α}{m:List c}{a:α}{b:c}(z:Bi P l m)(h:P a b):Bi P (l++[a]) (m++[b]):=by refine⟨by simp[z.1],λi x y h1 h2=>?_⟩;by_cases hi:i<l.length;{rw[GK hi]at h1;rw[GK (z.1▸hi)]at h2;exact z.2 i x y h1 h2};{rw[JZ J]at h1;rw[JZ (by rw[←z.1];omega)]at h2;have d:=z.1;(have e:i-l.length=0:=by{have:=(Kx.1 h1).1;simp at this;omega});rw[e]at h1;rw[show i-m.length=0 by omega]at h2;injection h1 with h1;injection h2 with h2;subst h1;subst h2;exact h}
def iZ {d:Nat}(h:U)(A:At)(n c:Nat)(l:Fz)(hx:Ai Fk 2 h A n l)(hn:n≤1000000)(ab:∀c∈l,Bb c.p):Az prog 202 #[.slice A n c] h (JJ (d+3) (IU l)):=by
 refine BB func202 λ_ _=>?_;have ae:=hx.len;(repeat'(first|refine AH ?_|(refine Aj ?_;intro b)|(refine Ac ?_;first|(apply Aw;exact F;exact Ab func148;exact XD _ _ _ _))|fail));rename_i b2;generalize b=b3;refine FN 193 5 ?_;refine Bg (X:=Nat×KH×At×Nat×U) (λx=>x.1≤n∧x.2.1.length=x.1∧V h x.2.2.2.2∧Bi (DO (d+2) x.2.2.2.2) x.2.1 ((l.take x.1).map λc=>DK (Ki c))) (λx=>n-x.1) (λx=>[(9,O x.1),(8,O n),(7,.slice A n c),(3,AD b3),(2,AD b2)]) (λx=>[Ap b3 193 (Cp (FQ x.2.2.1 x.1 x.2.2.2.1)),Ar 193 5 (.slice x.2.2.1 x.1 x.2.2.2.1) x.1 (x.2.1.flatMap Cp),Ap b2 193 (Cp FY)]) (λx=>x.2.2.2.2) (0,[],none,0,h) ⟨Ah,rfl,V.refl _,⟨rfl,λi a b h1=>by simp at h1⟩⟩ Af Ad rfl ?_;rintro⟨k,vs,s,c1,hh⟩ ⟨z,m,j,f⟩ o;dsimp only at z m j f o ⊢;by_cases g:k<n
 ·have a1:=hx.addrD g;have cc:=(hx.cellsD De g).le j;have af:=BY De ae g;have y:=fJ _ (ab _ (Ce De (show k<l.length by omega)));generalize l.getD k De=u at *;(repeat'(first|refine AH ?_|refine Z Bf ?_|refine Z HG ?_|(refine Aj ?_;intro b)|(apply AU (n:=5) 13 [0,1,2,3,4,5,99,6,7,8,9,10,99,11,99,12];kernel_rfl)|(refine Bn ?_;first|(refine pU ?_;intro b1 h1 ac hcs1;refine⟨ac,Ak,?_⟩)|(apply AR;exact F;exact Ab func199;exact Rw (d:=d) _ _ 2 2 (Ki u) (Jc hcs1) J y;rintro ah h2 ad ⟨v,rfl,hv⟩;refine⟨ad,Ak,?_⟩)|(refine qS ?_;intro ag r e hs4;refine⟨e,Ak,?_⟩)|(refine pN ?_;intro p c2;refine⟨V.refl _,Ak,?_⟩)|(apply Aw;exact F;exact Ab func203;exact iR _ _;refine⟨V.refl _,Ak,?_⟩))|(refine Y ?_ ?_<;>intro hc<;>try omega)|fail))
  all_goals
   have h3:=o (k+1,vs++[v],p,c2,r) ⟨Ah,by simp[m],by dsimp only;exact j.trans Ag,by
    dsimp only;rw[af,DI];exact(f.imp λa b q=>q.le Ag).snoc (hv.le e)⟩ Ah
   dsimp only at h3
   refine AB Af Ad h3
 {rw[By J]at f;clear o;(have aa:k=n:=by omega);subst aa;(repeat'(first|refine AH ?_|(refine Y ?_ ?_<;>intro hc<;>try omega)|fail));refine OQ (enc:=Cp) (xs:=vs) Fy m Bh ?_;intro p c2 r e e2 hs4;injection e2 with t _ w;subst t;subst w;refine Gr rfl rfl rfl Bc rfl rfl ⟨FQ s k c1,rfl,?_⟩;rw[←Abo];exact LM hs4 (f.imp λa b q=>q.le e) hn}
end Go.Hw
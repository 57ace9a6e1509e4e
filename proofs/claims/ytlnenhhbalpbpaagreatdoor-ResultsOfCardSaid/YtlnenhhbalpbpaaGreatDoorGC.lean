import Derived.Test.YtlnenhhbalpbpaaGreatDoorGB
import Derived.Test.YtlnenhhbalpbpaaGreatDoorHC
set_option linter.all false
set_option maxRecDepth 100000
set_option maxHeartbeats 4000000
namespace Go.Hw
open Go
attribute [local irreducible] GO GOl GDp Val Fn Res Ab Du Blk Bd Cd Bf Has Yl
open Go.Proofs.Tryz (prog)
def ER (bs:List UInt8) (u:List Value) (h:Ro):Prop:=∃ v,u=[vaV v]∧Jq 4 h v bs
theorem Ch.nil {α β:Type}{P:α→β→Prop}:Ch P [] []:=⟨rfl,fun i a b h=>by simp at h⟩
theorem Ch.cons {α β:Type}{P:α→β→Prop}{l:List α}{m:List β}{a:α}{b:β}(h:P a b)(z:Ch P l m):Ch P (a::l) (b::m):=by
 refine ⟨by simp [z.1],fun i x y h1 h2 => ?_⟩
 cases i with
 | zero =>
   rw [List.getElem?_cons_zero] at h1 h2
   injection h1 with h1;injection h2 with h2
   subst h1;subst h2;exact h
 | succ i =>
   rw [List.getElem?_cons_succ] at h1 h2
   exact z.2 i x y h1 h2
theorem Nl {α:Type}(d:α){l:List α}{k n:Nat}(hlen:l.length=n)(hk:k<n):l=l.take k++l.getD k d::l.drop (k+1):=by
 rw [← Bta d hlen hk,List.take_append_drop]
theorem Dea (xs:List (List UInt8))(lid:Nat)(I Ix:List (List UInt8)→List Asn→Ro→Prop)(mI:∀ pre Es h1 h2,Le h1 h2→I pre Es h1→I pre Es h2)(h:Ro)
  (hround:∀ pre x post u Es h1,xs=pre++x::post→Le h h1→ER x u h1→I pre Es h1→Yl prog lid u Es h1 fun v Es' h'=>(v=.bool true∧I (pre++[x]) Es' h')∨(v=.bool false∧Ix (pre++[x]) Es' h'))
  (A:Option Addr) (n c:Nat) (vs:List Va) (hx:Ar vaC 5 h A n vs) (hz:Ch (Jq 4 h) vs xs) (hn:n≤1000000) (by_:Nat) (hy:Ab h ⟨by_,0,none⟩ [.func (.yield lid) #[] #[]]) (Es:List Asn) (h0:I [] Es h) :
  Fn prog 188 #[.slice A n c,.pointer (some ⟨by_,0,none⟩)] Es h fun v Es' h'=>I xs Es' h'∨∃ pre post,xs=pre++post∧Ix pre Es' h':=by
 refine QXF Proofs.Tryz.func188 fun w0 X0=>?_
 have hlen:=hx.len
 have hzl:=hz.1
 repeat' (first|refine QF ?_|fail)
 refine Rr (X:=Nat×List Asn×Ro) (fun x=>x.1≤n∧Le h x.2.2∧I (xs.take x.1) x.2.1 x.2.2) (fun x=>n-x.1) (fun x=>[(7,.int .i64 x.1),(6,.int .i64 n),(5,.slice A n c),(1,.pointer (some ⟨by_,0,none⟩))])
  (fun x=>x.2.1) (fun x=>x.2.2) (0,Es,h) ⟨by omega,Le.refl _,h0⟩ QS rfl rfl ?_
 rintro ⟨k,Es1,hk⟩ ⟨hkn,hlk,hI⟩ ih
 dsimp only at hkn hlk hI ih ⊢
 by_cases hkn2:k<n
 · have a1:=hx.addrD hkn2
   have c1:=(hx.cellsD va0 hkn2).le hlk
   have et:=Cb [] (xs:=xs) rfl (show k<xs.length by omega)
   have hsplit:=Nl [] (l:=xs) rfl (show k<xs.length by omega)
   have hyk:=hy.le hlk
   have hv:=(hz.2 k _ _ (by simp [List.getD,List.getElem?_eq_getElem (show k<vs.length by omega)]) (by simp [List.getD,List.getElem?_eq_getElem (show k<xs.length by omega)]):Jq 4 h (vs.getD k va0) (xs.getD k []))
   generalize vs.getD k va0=u at *
   have hyl:=hround (xs.take k) (xs.getD k []) (xs.drop (k+1)) [vaV u] Es1 hk hsplit hlk ⟨u,rfl,hv.le hlk⟩ hI
   rw [← et] at hyl
   repeat' (first|refine QFs ?_|(apply Af;exact J;exact J;(first|exact QAc|exact QAf|(apply Aw;exact J;exact Cy rfl hyk rfl));exact QA)|(refine QB ?_;intro b)|(refine QG ?_;first|(refine Nd (List.perm_append_comm (l₁:=[_])) ?_;apply Sx (Es0:=Es1) (Fs:=[_]);(iterate 3 exact J);exact hyl;rintro v E2 h2 hle2 (⟨rfl,hP⟩|⟨rfl,hP⟩);all_goals skip))|(refine QH ?_ ?_<;>intro hc<;>try omega)|fail)
   all_goals first
    | (have h3:=ih (k+1,E2,h2) ⟨by show k+1≤n;omega,hlk.trans hle2,hP⟩ QCc
       refine Pv (List.perm_append_comm (l₁:=E2) (l₂:=[_])) (Pw .here ?_)
       exact Nk QS h3)
    | (refine Pu (rs:=[]) (vs:=[]) (Fs:=E2) rfl rfl trivial (List.sublist_append_left _ _) (.inr ⟨xs.take (k+1),xs.drop (k+1),?_,hP⟩)
       rw [List.take_append_drop])
 · rw [List.take_of_length_le QAd] at hI
   repeat' (first|refine QF ?_|(refine QH ?_ ?_<;>intro hc<;>try omega)|fail)
   exact Fh (rs:=[]) (vs:=[]) rfl rfl trivial (.inl hI)
def Bl (f:Fct):List (List UInt8) :=
 if f.kind=1 then [Cm f.eS,Cm f.eC,Dt f.eClubs,Dm f.eRules]
 else if f.kind=2 then [Dt (Jh f.fg),Cm f.venue]
 else if f.kind=3 then [Dt (Jh f.sh.g),Cm f.sh.ref,Cm f.sh.hg,Cm f.sh.ag,Cm f.sh.hp,Cm f.sh.ap,Dt f.sh.hs,Dt f.sh.as,Ie f.sh.hc,Ie f.sh.ac]
 else if f.kind=4 then [Cm f.ru.case,Cm f.ru.inst,Cm f.ru.kind,Dt (Jh f.ru.g),Cm f.ru.club,Cm f.ru.player,Cm f.ru.season,Cm f.ru.comp,Cm f.ru.points,Cm f.ru.amount,Cm f.ru.hg,Cm f.ru.ag,Cm f.ru.lo,Cm f.ru.hi]
 else if f.kind=5 then [Cm f.aCase,Cm f.aInst,Cm (if f.aSusp then 1 else 0)]
 else if f.kind=6 then [Cm f.mP,Cm f.mTo]
 else if f.kind=7 then [Cm f.lS,Cm f.lC,Dt f.lO]
 else [Dm f.void]
theorem Zr (f:Fct):(Bl f).flatten=Nz f:=by
 unfold Bl Nz ints
 split
 · simp
 · split
   · simp
   · split
     · simp
     · split
       · simp
       · split
         · simp
         · split
           · simp
           · split
             · simp
             · simp
theorem Ui {n m:Int}(h:Bel n m)(hm:m≤9223372036854775807):I64 n:=by unfold Bel at h;unfold I64;omega
theorem Jg {g:Ak}(h:Dh g):Nh g:=⟨Ui h.1 QAd,Ui h.2.1 QAd,Ui h.2.2.1 QAd,Ui h.2.2.2.1 QAd⟩
theorem Gi:Nh Ol:=by unfold Nh Ol I64;simp
theorem el1_c (h:Ro)(s:Fsh)(f:Fct)(hf:FAt h s f)(hs:Coa f)(bx:Nat)(hb:Ab h ⟨bx,0,none⟩ (Df s f))(e:f.kind=1)(i1:I64 f.eS)(i2:I64 f.eC)(i3:∀ x∈f.eClubs,I64 x):Hja prog 187 [.pointer (some ⟨bx,0,none⟩)] ER (Bl f) h:=by
 have hxs:Bl f=[Cm f.eS,Cm f.eC,Dt f.eClubs,Dm f.eRules]:=by unfold Bl;rw [e];rfl
 rw [hxs]
 intro lid I Ix mI mIx hround Es h1 hle h0
 refine QXF Proofs.Tryz.func187 fun w0 X0=>?_
 have hb1:=hb.le hle
 have hf1:=hf.le hle
 obtain ⟨n1,n2,n3,n4,n5,n6⟩:=hf.small1 hs
 repeat' (first|refine QF ?_|(apply Af;exact J;exact J;(first|exact QAb);exact QA)|(refine QB ?_;intro b)|(apply Ad (n:=4) [0,1,2,3,4,5,6,7,8,9,10,11,12,13,14,15,16,17,18] [(0,0),(1,0),(2,0),(3,0),(5,0),(6,0),(7,0),(9,0),(10,0),(11,0),(13,0),(14,0),(15,0),(4,1),(8,1),(12,1),(16,1),(17,1),(18,1)];kernel_rfl)|(apply Bk;exact J;kernel_rfl;exact J;exact J;(first|exact QAb);exact QA)|(apply Ao;exact J;kernel_rfl;(iterate 3 exact J);(first|(apply Ag;exact J;exact Ov;exact Sg (d:=2) _ _ _ _ f.eClubs (hf1.cl.le QAa) QAd i3;rintro wva hva hleva ⟨va,rfl,hvva⟩;refine ⟨hleva,QN,?_⟩)|(refine QC6 ?_;intro bz hz hlez hsl;refine ⟨hlez,QN,?_⟩)|(refine Bv QK ?_;intro h5 hle5 hcy;apply Em (f:=188) (fs:=[]) (cs:=[.pointer (some ⟨_,0,none⟩)]) (Es0:=Es) (Fs:=[]);exact J;exact J;exact (List.append_nil _).symm;exact Tm;exact Dea _ lid I Ix mI h5 (fun pre x post u Es2 h2 e5 hle2 hr hI=>hround pre x post u Es2 h2 e5 (Le.trans QAa hle2) hr hI) _ _ _ _ (hsl.le QAa) (Ch.cons (Av i1) (Ch.cons (Av i2) (Ch.cons (hvva.le QAa) (Ch.cons (Qa) Ch.nil)))) QAd _ hcy Es (mI _ _ _ _ QAa h0);intro v6 E6 h6 hle6 hp6;refine ⟨hle5.trans hle6,QN,?_⟩)|(apply Aa;exact J;exact Wg;exact Gga _ _;refine ⟨Le.refl _,QN,?_⟩)|(apply Aa;exact J;exact has190;exact textV_c _ _;refine ⟨Le.refl _,QN,?_⟩)))|(refine QH ?_ ?_<;>intro hc<;>try omega)|fail)
 all_goals (try (exfalso;omega))
 all_goals
  rw [List.append_nil]
  exact Fh (rs:=[]) (vs:=[]) rfl rfl trivial hp6
theorem el2_c (h:Ro)(s:Fsh)(f:Fct)(hf:FAt h s f)(hs:Coa f)(bx:Nat)(hb:Ab h ⟨bx,0,none⟩ (Df s f))(e:f.kind=2)(i1:Nh f.fg)(i2:I64 f.venue):Hja prog 187 [.pointer (some ⟨bx,0,none⟩)] ER (Bl f) h:=by
 have hxs:Bl f=[Dt (Jh f.fg),Cm f.venue]:=by unfold Bl;rw [e];rfl
 rw [hxs]
 intro lid I Ix mI mIx hround Es h1 hle h0
 refine QXF Proofs.Tryz.func187 fun w0 X0=>?_
 have hb1:=hb.le hle
 have hf1:=hf.le hle
 obtain ⟨n1,n2,n3,n4,n5,n6⟩:=hf.small1 hs
 repeat' (first|refine QF ?_|(apply Af;exact J;exact J;(first|exact QAb);exact QA)|(refine QB ?_;intro b)|(apply Ad (n:=6) [0,1,2,3,4,5,6,7,8,9,10] [(0,0),(1,0),(2,0),(3,0),(5,0),(6,0),(7,0),(4,1),(8,1),(9,1),(10,1)];kernel_rfl)|(apply Bk;exact J;kernel_rfl;exact J;exact J;(first|exact QAb);exact QA)|(apply Ao;exact J;kernel_rfl;(iterate 3 exact J);(first|(apply Ag;exact J;exact Jaa;exact Bma (d:=2) _ f.fg i1;rintro wva hva hleva ⟨va,rfl,hvva⟩;refine ⟨hleva,QN,?_⟩)|(refine QD1 ?_;intro bz hz hlez hsl;refine ⟨hlez,QN,?_⟩)|(refine Bv QK ?_;intro h5 hle5 hcy;apply Em (f:=188) (fs:=[]) (cs:=[.pointer (some ⟨_,0,none⟩)]) (Es0:=Es) (Fs:=[]);exact J;exact J;exact (List.append_nil _).symm;exact Tm;exact Dea _ lid I Ix mI h5 (fun pre x post u Es2 h2 e5 hle2 hr hI=>hround pre x post u Es2 h2 e5 (Le.trans QAa hle2) hr hI) _ _ _ _ (hsl.le QAa) (Ch.cons (hvva.le QAa) (Ch.cons (Av i2) Ch.nil)) QAd _ hcy Es (mI _ _ _ _ QAa h0);intro v6 E6 h6 hle6 hp6;refine ⟨hle5.trans hle6,QN,?_⟩)|(apply Aa;exact J;exact Wg;exact Gga _ _;refine ⟨Le.refl _,QN,?_⟩)))|(refine QH ?_ ?_<;>intro hc<;>try omega)|fail)
 all_goals (try (exfalso;omega))
 all_goals
  rw [List.append_nil]
  exact Fh (rs:=[]) (vs:=[]) rfl rfl trivial hp6
theorem el6_c (h:Ro)(s:Fsh)(f:Fct)(hf:FAt h s f)(hs:Coa f)(bx:Nat)(hb:Ab h ⟨bx,0,none⟩ (Df s f))(e:f.kind=6)(i1:I64 f.mP)(i2:I64 f.mTo):Hja prog 187 [.pointer (some ⟨bx,0,none⟩)] ER (Bl f) h:=by
 have hxs:Bl f=[Cm f.mP,Cm f.mTo]:=by unfold Bl;rw [e];rfl
 rw [hxs]
 intro lid I Ix mI mIx hround Es h1 hle h0
 refine QXF Proofs.Tryz.func187 fun w0 X0=>?_
 have hb1:=hb.le hle
 have hf1:=hf.le hle
 obtain ⟨n1,n2,n3,n4,n5,n6⟩:=hf.small1 hs
 repeat' (first|refine QF ?_|(apply Af;exact J;exact J;(first|exact QAb);exact QA)|(refine QB ?_;intro b)|(apply Ad (n:=17) [0,1,2,3,4,5,6,7,8,9,10] [(0,0),(1,0),(2,0),(3,0),(5,0),(6,0),(7,0),(4,1),(8,1),(9,1),(10,1)];kernel_rfl)|(apply Bk;exact J;kernel_rfl;exact J;exact J;(first|exact QAb);exact QA)|(apply Ao;exact J;kernel_rfl;(iterate 3 exact J);(first|(apply Ah (enc:=vaC) (n:=2) [Dz f.mP,Dz f.mTo];(iterate 3 exact J);exact List.cons_ne_nil _ _;(iterate 4 exact J);exact Cj;exact J;exact J;intro bz hz hlez hsl;refine ⟨hlez,QN,?_⟩)|(refine Bv QK ?_;intro h5 hle5 hcy;apply Em (f:=188) (fs:=[]) (cs:=[.pointer (some ⟨_,0,none⟩)]) (Es0:=Es) (Fs:=[]);exact J;exact J;exact (List.append_nil _).symm;exact Tm;exact Dea _ lid I Ix mI h5 (fun pre x post u Es2 h2 e5 hle2 hr hI=>hround pre x post u Es2 h2 e5 (Le.trans QAa hle2) hr hI) _ _ _ _ (hsl.le QAa) (Ch.cons (Av i1) (Ch.cons (Av i2) Ch.nil)) QAd _ hcy Es (mI _ _ _ _ QAa h0);intro v6 E6 h6 hle6 hp6;refine ⟨hle5.trans hle6,QN,?_⟩)|(apply Aa;exact J;exact Wg;exact Gga _ _;refine ⟨Le.refl _,QN,?_⟩)))|(refine QH ?_ ?_<;>intro hc<;>try omega)|fail)
 all_goals (try (exfalso;omega))
 all_goals
  rw [List.append_nil]
  exact Fh (rs:=[]) (vs:=[]) rfl rfl trivial hp6
theorem el7_c (h:Ro)(s:Fsh)(f:Fct)(hf:FAt h s f)(hs:Coa f)(bx:Nat)(hb:Ab h ⟨bx,0,none⟩ (Df s f))(e:f.kind=7)(i1:I64 f.lS)(i2:I64 f.lC)(i3:∀ x∈f.lO,I64 x):Hja prog 187 [.pointer (some ⟨bx,0,none⟩)] ER (Bl f) h:=by
 have hxs:Bl f=[Cm f.lS,Cm f.lC,Dt f.lO]:=by unfold Bl;rw [e];rfl
 rw [hxs]
 intro lid I Ix mI mIx hround Es h1 hle h0
 refine QXF Proofs.Tryz.func187 fun w0 X0=>?_
 have hb1:=hb.le hle
 have hf1:=hf.le hle
 obtain ⟨n1,n2,n3,n4,n5,n6⟩:=hf.small1 hs
 repeat' (first|refine QF ?_|(apply Af;exact J;exact J;(first|exact QAb);exact QA)|(refine QB ?_;intro b)|(apply Ad (n:=19) [0,1,2,3,4,5,6,7,8,9,10,11,12,13,14] [(0,0),(1,0),(2,0),(3,0),(5,0),(6,0),(7,0),(9,0),(10,0),(11,0),(4,1),(8,1),(12,1),(13,1),(14,1)];kernel_rfl)|(apply Bk;exact J;kernel_rfl;exact J;exact J;(first|exact QAb);exact QA)|(apply Ao;exact J;kernel_rfl;(iterate 3 exact J);(first|(apply Ag;exact J;exact Ov;exact Sg (d:=2) _ _ _ _ f.lO (hf1.lo.le QAa) QAd i3;rintro wva hva hleva ⟨va,rfl,hvva⟩;refine ⟨hleva,QN,?_⟩)|(refine QDw ?_;intro bz hz hlez hsl;refine ⟨hlez,QN,?_⟩)|(refine Bv QK ?_;intro h5 hle5 hcy;apply Em (f:=188) (fs:=[]) (cs:=[.pointer (some ⟨_,0,none⟩)]) (Es0:=Es) (Fs:=[]);exact J;exact J;exact (List.append_nil _).symm;exact Tm;exact Dea _ lid I Ix mI h5 (fun pre x post u Es2 h2 e5 hle2 hr hI=>hround pre x post u Es2 h2 e5 (Le.trans QAa hle2) hr hI) _ _ _ _ (hsl.le QAa) (Ch.cons (Av i1) (Ch.cons (Av i2) (Ch.cons (hvva.le QAa) Ch.nil))) QAd _ hcy Es (mI _ _ _ _ QAa h0);intro v6 E6 h6 hle6 hp6;refine ⟨hle5.trans hle6,QN,?_⟩)|(apply Aa;exact J;exact Wg;exact Gga _ _;refine ⟨Le.refl _,QN,?_⟩)))|(refine QH ?_ ?_<;>intro hc<;>try omega)|fail)
 all_goals (try (exfalso;omega))
 all_goals
  rw [List.append_nil]
  exact Fh (rs:=[]) (vs:=[]) rfl rfl trivial hp6
theorem Kua:∀ (v:List UInt8),v=(List.range v.length).map (fun i=>v.getD i 0):=fun v=>by
 apply List.ext_getElem QAn
 intro i h1 h2
 simp [List.getD,List.getElem?_eq_getElem h1]
theorem H4a (v:List UInt8)(hv:v.length=32):Cta v=v.flatMap Ev:=by
 have e:Cta v=(List.range 32).map (vB v):=rfl
 rw [e,Hm]
 conv=>rhs;rw [Kua v,hv,List.map_map]
 rfl
theorem el5_c (h:Ro)(s:Fsh)(f:Fct)(hf:FAt h s f)(hs:Coa f)(bx:Nat)(hb:Ab h ⟨bx,0,none⟩ (Df s f))(e:f.kind=5)(i1:∀ x∈[f.aCase,f.aInst,if f.aSusp then 1 else 0],I64 x):Hja prog 187 [.pointer (some ⟨bx,0,none⟩)] ER (Bl f) h:=by
 have hxs:Bl f=[Cm f.aCase,Cm f.aInst,Cm (if f.aSusp then 1 else 0)]:=by unfold Bl;rw [e];rfl
 rw [hxs]
 intro lid I Ix mI mIx hround Es h1 hle h0
 refine QXF Proofs.Tryz.func187 fun w0 X0=>?_
 have hb1:=hb.le hle
 have hf1:=hf.le hle
 obtain ⟨n1,n2,n3,n4,n5,n6⟩:=hf.small1 hs
 repeat' (first|refine QF ?_|(apply Af;exact J;exact J;(first|exact QAb);exact QA)|(refine QB ?_;intro b)|(apply Ad (n:=15) [0,1,2,3,4,5,6,7,8,9,10,11,12,13,14] [(0,0),(1,0),(2,0),(3,0),(4,0),(5,0),(6,0),(7,0),(8,0),(9,0),(10,1),(11,1),(12,1),(13,0),(14,1)];kernel_rfl)|(apply Bk;exact J;kernel_rfl;exact J;exact J;(first|exact QAb);exact QA)|(apply Ao;exact J;kernel_rfl;(iterate 3 exact J);(first|(refine QDt ?_;intro bi hi hlei hcs1;refine ⟨hlei,QN,?_⟩)|(apply Ag;exact J;exact Ov;exact A5a _ _ 3 3 [f.aCase,f.aInst,if f.aSusp then 1 else 0] (Do (hcs1.le QAa)) QAd;rintro wn hn hlen ⟨An,cn,rfl,hsl⟩;refine ⟨hlen,QN,?_⟩)|(refine Bv QK ?_;intro h5 hle5 hcy;apply Em (f:=188) (fs:=[]) (cs:=[.pointer (some ⟨_,0,none⟩)]) (Es0:=Es) (Fs:=[]);exact J;exact J;exact (List.append_nil _).symm;exact Tm;exact Dea _ lid I Ix mI h5 (fun pre x post u Es2 h2 e5 hle2 hr hI=>hround pre x post u Es2 h2 e5 (Le.trans QAa hle2) hr hI) _ _ _ ([f.aCase,f.aInst,if f.aSusp then 1 else 0].map Dz) (hsl.le QAa) (H1a i1) QAn _ hcy Es (mI _ _ _ _ QAa h0);intro v6 E6 h6 hle6 hp6;refine ⟨(by repeat (first|assumption|(apply Le.trans;assumption))),QN,?_⟩)|(apply Aa;exact J;exact has193;exact truth_c _ _;refine ⟨Le.refl _,QN,?_⟩)))|(refine QH ?_ ?_<;>intro hc<;>try omega)|fail)
 all_goals (try (exfalso;omega))
 all_goals
  rw [List.append_nil]
  exact Fh (rs:=[]) (vs:=[]) rfl rfl trivial hp6
theorem el8_c (h:Ro)(s:Fsh)(f:Fct)(hf:FAt h s f)(hs:Coa f)(bx:Nat)(hb:Ab h ⟨bx,0,none⟩ (Df s f))(e:f.kind=8)  : Hja prog 187 [.pointer (some ⟨bx,0,none⟩)] ER (Bl f) h:=by
 have hxs:Bl f=[Dm f.void]:=by unfold Bl;rw [e];rfl
 rw [hxs]
 intro lid I Ix mI mIx hround Es h1 hle h0
 refine QXF Proofs.Tryz.func187 fun w0 X0=>?_
 have hb1:=hb.le hle
 have hf1:=hf.le hle
 have hvs:Ar Ev 1 h1 (some ⟨bx,50,none⟩) 32 f.void:=Ar.of_flat (fun _=>rfl) hf.void (by
  have:=hb1.shift 50
  rw [Ft,Nat.zero_add] at this
  rw [← H4a f.void hf.void];exact this)
 repeat' (first|refine QF ?_|(apply Af;exact J;exact J;(first|(apply Xi;(iterate 4 exact J))|exact QDi|exact QAb);exact QA)|(refine QB ?_;intro b)|(refine QG ?_;first|(refine QD6 ?_;intro bz hz hlez hsl)|(refine Bv QK ?_;intro h5 hle5 hcy;apply Em (f:=188) (fs:=[]) (cs:=[.pointer (some ⟨_,0,none⟩)]) (Es0:=Es) (Fs:=[]);exact J;exact J;exact (List.append_nil _).symm;exact Tm;exact Dea _ lid I Ix mI h5 (fun pre x post u Es2 h2 e5 hle2 hr hI=>hround pre x post u Es2 h2 e5 (Le.trans QAa hle2) hr hI) _ _ _ [Yd f.void] (hsl.le QAa) (Ch.cons (Qa) Ch.nil) QAn _ hcy Es (mI _ _ _ _ QAa h0);intro v6 E6 h6 hle6 hp6)|(apply Aa;exact J;exact has190;exact textV_c _ _))|(refine QH ?_ ?_<;>intro hc<;>try omega)|fail)
 all_goals (try (exfalso;omega))
 all_goals
  rw [List.append_nil]
  exact Fh (rs:=[]) (vs:=[]) rfl rfl trivial hp6
theorem el3_c (h:Ro)(s:Fsh)(f:Fct)(hf:FAt h s f)(hs:Coa f)(bx:Nat)(hb:Ab h ⟨bx,0,none⟩ (Df s f))(e:f.kind=3)(i1:Nh f.sh.g)(i2:∀ x∈[f.sh.ref,f.sh.hg,f.sh.ag,f.sh.hp,f.sh.ap],I64 x)(i3:∀ x∈f.sh.hs,I64 x)(i4:∀ x∈f.sh.as,I64 x)(i5:∀ c∈f.sh.hc,I64 c.p)(i6:∀ c∈f.sh.ac,I64 c.p):Hja prog 187 [.pointer (some ⟨bx,0,none⟩)] ER (Bl f) h:=by
 have hxs:Bl f=[Dt (Jh f.sh.g),Cm f.sh.ref,Cm f.sh.hg,Cm f.sh.ag,Cm f.sh.hp,Cm f.sh.ap,Dt f.sh.hs,Dt f.sh.as,Ie f.sh.hc,Ie f.sh.ac]:=by unfold Bl;rw [e];rfl
 rw [hxs]
 intro lid I Ix mI mIx hround Es h1 hle h0
 refine QXF Proofs.Tryz.func187 fun w0 X0=>?_
 have hb1:=hb.le hle
 have hf1:=hf.le hle
 obtain ⟨n1,n2,n3,n4,n5,n6⟩:=hf.small1 hs
 repeat' (first|refine QFs ?_|(apply Af;exact J;exact J;(first|exact QAb);exact QA)|(refine QB ?_;intro b)|(apply Ad (n:=9) [0,1,2,3,4,5,6,7,8,9,10,11,12,13,14,15,16,17,18,19,20,21,22,23,24,25,26,27,28,29,30,31,32,33] [(0,0),(1,0),(2,0),(5,0),(6,0),(7,0),(8,0),(9,0),(10,0),(11,0),(12,0),(13,0),(14,0),(19,0),(20,0),(22,0),(23,0),(25,0),(26,0),(28,0),(29,0),(3,2),(35,15),(4,2),(11,15),(15,1),(16,1),(17,0),(18,1),(21,1),(24,1),(27,1),(30,1),(31,1),(32,1),(33,1),(4,2),(10,16),(16,1),(17,0),(18,1),(21,1),(24,1),(27,1),(30,1),(31,1),(32,1),(33,1),(17,0),(4,1),(18,1),(21,1),(24,1),(27,1),(30,1),(31,1),(32,1),(33,1),(3,1),(4,2),(10,16),(16,1),(17,0),(18,1),(21,1),(24,1),(27,1),(30,1),(31,1),(32,1),(33,1),(17,0),(4,1),(18,1),(21,1),(24,1),(27,1),(30,1),(31,1),(32,1),(33,1)];kernel_rfl)|(apply Ao;exact J;kernel_rfl;(iterate 3 exact J);(first|(apply Ag;exact J;exact Jaa;exact Bma (d:=2) _ f.sh.g i1;rintro wvg hvg hlevg ⟨vg,rfl,hvvg⟩;refine ⟨hlevg,QN,?_⟩)|(refine QBm ?_;intro bi hi hlei hcs1;refine ⟨hlei,QN,?_⟩)|(refine QCs ?_;rintro wn hn hlen ⟨An,cn,rfl,hsn⟩;refine ⟨hlen,QN,?_⟩)|(apply Ag;exact J;exact Ov;exact Sg (d:=2) _ _ _ _ f.sh.hs (hf1.sh.hs.le QAa) QAd i3;rintro wp hp hlep ⟨vp,rfl,hvp⟩;refine ⟨hlep,QN,?_⟩)|(apply Ag;exact J;exact Ov;exact Sg (d:=2) _ _ _ _ f.sh.as (hf1.sh.as.le QAa) QAd i4;rintro wq hq hleq ⟨vq,rfl,hvq⟩;refine ⟨hleq,QN,?_⟩)|(apply Ag;exact J;exact has192;exact shown_c (d:=1) _ _ _ _ f.sh.hc (hf1.sh.hc.le QAa) QAd i5;rintro wr hr hler ⟨vr,rfl,hvr⟩;refine ⟨hler,QN,?_⟩)|(apply Ag;exact J;exact has192;exact shown_c (d:=1) _ _ _ _ f.sh.ac (hf1.sh.ac.le QAa) QAd i6;rintro wt ht hlet ⟨vt,rfl,hvt⟩;refine ⟨hlet,QN,?_⟩)|(refine QD8 ?_;intro bz hz hlez hs4;refine ⟨hlez,QN,?_⟩)|(refine QC9 ?_;intro bo;refine ⟨Le.refl _,QN,?_⟩)|(refine QBp ?_;intro A2 c2;refine ⟨Le.refl _,QN,?_⟩)|(refine QBn ?_;intro A2 c2;refine ⟨Le.refl _,QN,?_⟩)|(refine Faa (enc:=vaC) (xs:=([vg]++[f.sh.ref,f.sh.hg,f.sh.ag,f.sh.hp,f.sh.ap].map Dz++[vp,vq,vr,vt])) Cj rfl QK ?_;intro A7 c7 h7 hle7 e7 hnc7 hsl;injection e7 with e71 _ e73;subst e71;subst e73;refine Bv QK ?_;intro h8 hle8 _;refine Bv QK ?_;intro h5 hle5 hcy;apply Em (f:=188) (fs:=[]) (cs:=[.pointer (some ⟨_,0,none⟩)]) (Es0:=Es) (Fs:=[]);exact J;exact J;exact (List.append_nil _).symm;exact Tm;exact Dea _ lid I Ix mI h5 (fun pre x post u Es2 h2 e5 hle2 hr hI=>hround pre x post u Es2 h2 e5 (Le.trans QAa hle2) hr hI) _ _ _ ([vg]++[f.sh.ref,f.sh.hg,f.sh.ag,f.sh.hp,f.sh.ap].map Dz++[vp,vq,vr,vt]) (hsl.le QAa) (Ch.cons (hvvg.le QAa) (Ch.cons (Av (i2 _ QAn)) (Ch.cons (Av (i2 _ QAn)) (Ch.cons (Av (i2 _ QAn)) (Ch.cons (Av (i2 _ QAn)) (Ch.cons (Av (i2 _ QAn)) (Ch.cons (hvp.le QAa) (Ch.cons (hvq.le QAa) (Ch.cons (hvr.le QAa) (Ch.cons (hvt.le QAa) Ch.nil)))))))))) QAn _ hcy Es (mI _ _ _ _ QAa h0);intro v6 E6 h6 hle6 hp6;refine ⟨(by repeat (first|assumption|(apply Le.trans;assumption))),QN,?_⟩)))|(apply Hi;kernel_rfl;exact J;exact J)|(apply Cq;(iterate 4 exact J);(first|(apply Ag;exact J;exact Jaa;exact Bma (d:=2) _ f.sh.g i1;rintro wvg hvg hlevg ⟨vg,rfl,hvvg⟩;refine ⟨hlevg,QN,?_⟩)|(refine QBm ?_;intro bi hi hlei hcs1;refine ⟨hlei,QN,?_⟩)|(refine QCs ?_;rintro wn hn hlen ⟨An,cn,rfl,hsn⟩;refine ⟨hlen,QN,?_⟩)|(refine QC9 ?_;intro bo;refine ⟨Le.refl _,QN,?_⟩)))|(refine QH ?_ ?_<;>intro hc<;>try omega)|fail)
 all_goals (try (exfalso;omega))
 all_goals
  rw [List.append_nil]
  exact Fh (rs:=[]) (vs:=[]) rfl rfl trivial hp6
theorem el4_c (h:Ro)(s:Fsh)(f:Fct)(hf:FAt h s f)(hs:Coa f)(bx:Nat)(hb:Ab h ⟨bx,0,none⟩ (Df s f))(e:f.kind=4)(i1:Nh f.ru.g)(i2:∀ x∈[f.ru.case,f.ru.inst,f.ru.kind],I64 x)(i3:∀ x∈[f.ru.club,f.ru.player,f.ru.season,f.ru.comp,f.ru.points,f.ru.amount,f.ru.hg,f.ru.ag,f.ru.lo,f.ru.hi],I64 x):Hja prog 187 [.pointer (some ⟨bx,0,none⟩)] ER (Bl f) h:=by
 have hxs:Bl f=[Cm f.ru.case,Cm f.ru.inst,Cm f.ru.kind,Dt (Jh f.ru.g),Cm f.ru.club,Cm f.ru.player,Cm f.ru.season,Cm f.ru.comp,Cm f.ru.points,Cm f.ru.amount,Cm f.ru.hg,Cm f.ru.ag,Cm f.ru.lo,Cm f.ru.hi]:=by unfold Bl;rw [e];rfl
 rw [hxs]
 intro lid I Ix mI mIx hround Es h1 hle h0
 refine QXF Proofs.Tryz.func187 fun w0 X0=>?_
 have hb1:=hb.le hle
 have hf1:=hf.le hle
 obtain ⟨n1,n2,n3,n4,n5,n6⟩:=hf.small1 hs
 repeat' (first|refine QFs ?_|(apply Af;exact J;exact J;(first|exact QAb);exact QA)|(refine QB ?_;intro b)|(refine QG ?_;first|(refine QCq ?_;intro bi hi hlei hcs2)|(apply Ag;exact J;exact Ov;exact A5a _ _ 10 10 [f.ru.club,f.ru.player,f.ru.season,f.ru.comp,f.ru.points,f.ru.amount,f.ru.hg,f.ru.ag,f.ru.lo,f.ru.hi] (Do (hcs2.le QAa)) QAd;rintro wm hm hlem ⟨Am,cm,rfl,hsm⟩)|(refine QA9 ?_;intro A2 c2)|(refine Faa (enc:=vaC) (xs:=([f.ru.case,f.ru.inst,f.ru.kind].map Dz++[vg]++[f.ru.club,f.ru.player,f.ru.season,f.ru.comp,f.ru.points,f.ru.amount,f.ru.hg,f.ru.ag,f.ru.lo,f.ru.hi].map Dz)) Cj rfl QK ?_;intro A7 c7 h7 hle7 e7 hnc7 hsl;injection e7 with e71 _ e73;subst e71;subst e73;refine Bv QK ?_;intro h8 hle8 _;refine Bv QK ?_;intro h5 hle5 hcy;apply Em (f:=188) (fs:=[]) (cs:=[.pointer (some ⟨_,0,none⟩)]) (Es0:=Es) (Fs:=[]);exact J;exact J;exact (List.append_nil _).symm;exact Tm;exact Dea _ lid I Ix mI h5 (fun pre x post u Es2 h2 e5 hle2 hr hI=>hround pre x post u Es2 h2 e5 (Le.trans QAa hle2) hr hI) _ _ _ ([f.ru.case,f.ru.inst,f.ru.kind].map Dz++[vg]++[f.ru.club,f.ru.player,f.ru.season,f.ru.comp,f.ru.points,f.ru.amount,f.ru.hg,f.ru.ag,f.ru.lo,f.ru.hi].map Dz) (hsl.le QAa) (Ch.cons (Av (i2 _ QAn)) (Ch.cons (Av (i2 _ QAn)) (Ch.cons (Av (i2 _ QAn)) (Ch.cons (hvvg.le QAa) (Ch.cons (Av (i3 _ QAn)) (Ch.cons (Av (i3 _ QAn)) (Ch.cons (Av (i3 _ QAn)) (Ch.cons (Av (i3 _ QAn)) (Ch.cons (Av (i3 _ QAn)) (Ch.cons (Av (i3 _ QAn)) (Ch.cons (Av (i3 _ QAn)) (Ch.cons (Av (i3 _ QAn)) (Ch.cons (Av (i3 _ QAn)) (Ch.cons (Av (i3 _ QAn)) Ch.nil)))))))))))))) QAn _ hcy Es (mI _ _ _ _ QAa h0);intro v6 E6 h6 hle6 hp6))|(apply Ad (n:=12) [0,1,2,3,4,5,6,7,8,9,10,11,12,13,14] [(0,0),(1,0),(2,0),(3,0),(4,0),(5,0),(9,0),(10,0),(6,1),(7,1),(8,0),(11,1),(12,1),(13,1),(14,0)];kernel_rfl)|(apply Ao;exact J;kernel_rfl;(iterate 3 exact J);(first|(apply Ag;exact J;exact Jaa;exact Bma (d:=2) _ f.ru.g i1;rintro wvg hvg hlevg ⟨vg,rfl,hvvg⟩;refine ⟨hlevg,QN,?_⟩)|(refine QD4 ?_;intro bi hi hlei hcs1;refine ⟨hlei,QN,?_⟩)|(apply Be;exact J;exact Ov;exact nums_c _ _ 3 3 [f.ru.case,f.ru.inst,f.ru.kind] (Do (hcs1.le QAa)) QAd;exact QT;rintro wn En hn hlen ⟨An,cn,rfl,rfl⟩;refine ⟨hlen,QN,?_⟩)|(refine QEl ?_;intro bz hz hlez hs4;refine ⟨hlez,QN,?_⟩)|(refine QBs ?_;intro A2 c2;refine ⟨Le.refl _,QN,?_⟩)))|(refine QH ?_ ?_<;>intro hc<;>try omega)|fail)
 all_goals (try (exfalso;omega))
 all_goals
  rw [List.append_nil]
  exact Fh (rs:=[]) (vs:=[]) rfl rfl trivial hp6
end Go.Hw
namespace Go.Hw
open Go
attribute [local irreducible] GO GOl GDp Val Fn Res Ab Du Blk Bd Cd Bf Has Yl
open Go.Proofs.Tryz (prog)
theorem elems_c (h:Ro)(s:Fsh)(f:Fct)(hf:FAt h s f)(hs:FSm f)(bx:Nat)(hb:Ab h ⟨bx,0,none⟩ (Df s f))(hok:Bm f):Hja prog 187 [.pointer (some ⟨bx,0,none⟩)] ER (Bl f) h:=by
 have hs:=hok.sm1
 have hco:=hok.2.2.1
 have hk:1≤f.kind∧f.kind≤8:=by
  refine Classical.byContradiction fun hk=>(Jz f hk).2 hco
 have mx:∀ {n m:Int},Bel n m→m≤1000000→I64 n:=fun h1 h2=>Ui h1 QAd
 have:f.kind=1∨f.kind=2∨f.kind=3∨f.kind=4∨f.kind=5∨f.kind=6∨f.kind=7∨f.kind=8:=by omega
 have hfz:∀ {n:Int},n=0→I64 n:=fun h=>by subst h;unfold I64;omega
 rcases this with e|e|e|e|e|e|e|e
 · rw [Cw,if_pos e] at hco
   exact el1_c h s f hf hs bx hb e (mx hco.1 QAd) (mx hco.2.1 QAd) (fun x hx=>mx (hco.2.2.1.2.2 x hx) QAd)
 · rw [Cw,if_neg QAd,if_pos e] at hco
   exact el2_c h s f hf hs bx hb e (Jg hco.1) (mx hco.2 QAd)
 · rw [Cw,if_neg QAd,if_neg QAd,if_pos e] at hco
   obtain ⟨g1,g2,g3,g4,g5,g6,g7,g8,g9,g10⟩:=hco
   refine el3_c h s f hf hs bx hb e (Jg g1) ?_ (fun x hx=>mx (g6.2.1 x hx) QAd) (fun x hx=>mx (g7.2.1 x hx) QAd) (fun c hc=>mx (g6.2.1 _ (g8.2 c hc)) QAd) (fun c hc=>mx (g7.2.1 _ (g9.2 c hc)) QAd)
   intro x hx
   have hp:I64 f.sh.hp∧I64 f.sh.ap:=by
    rcases g5 with ⟨q1,q2⟩|⟨_,q1,q2,_⟩
    · exact ⟨hfz q1,hfz q2⟩
    · exact ⟨mx q1 QAd,mx q2 QAd⟩
   simp only [List.mem_cons,List.not_mem_nil,or_false] at hx
   rcases hx with rfl|rfl|rfl|rfl|rfl
   · exact mx g2 QAd
   · exact mx g3 QAd
   · exact mx g4 QAd
   · exact hp.1
   · exact hp.2
 · rw [Cw,if_neg QAd,if_neg QAd,if_neg QAd,if_pos e] at hco
   obtain ⟨r1,r2,r3,r4,r5,r6⟩:=hco
   have hI:Nh f.ru.g∧∀ x∈[f.ru.kind,f.ru.club,f.ru.player,f.ru.season,f.ru.comp,f.ru.points,f.ru.amount,f.ru.hg,f.ru.ag,f.ru.lo,f.ru.hi],I64 x:=by
    rw [← r6]
    have z:I64 0:=by unfold I64;omega
    unfold Ej at r5
    unfold Il
    unfold Ij Bel at r5
    by_cases k1:f.ru.kind=1
    · rw [if_pos k1] at r5 ⊢;refine ⟨Jg r5.1,fun x hx => ?_⟩
      have:=r5.1;unfold Dh Bel at this
      simp [Hu] at hx;unfold I64;omega
    rw [if_neg k1] at r5 ⊢
    by_cases k1:f.ru.kind=2
    · rw [if_pos k1] at r5 ⊢;refine ⟨Jg r5,fun x hx => ?_⟩
      simp [Hu] at hx;unfold I64;omega
    rw [if_neg k1] at r5 ⊢
    by_cases k1:f.ru.kind=3
    · rw [if_pos k1] at r5 ⊢;refine ⟨Jg r5.1,fun x hx => ?_⟩
      simp [Hu] at hx;unfold I64;omega
    rw [if_neg k1] at r5 ⊢
    by_cases k1:f.ru.kind=4
    · rw [if_pos k1] at r5 ⊢;refine ⟨Gi,fun x hx => ?_⟩
      simp [Hu] at hx;unfold I64;omega
    rw [if_neg k1] at r5 ⊢
    by_cases k1:f.ru.kind=5
    · rw [if_pos k1] at r5 ⊢;refine ⟨Gi,fun x hx => ?_⟩
      simp [Hu] at hx;unfold I64;omega
    rw [if_neg k1] at r5 ⊢
    by_cases k1:f.ru.kind=6
    · rw [if_pos k1] at r5 ⊢;refine ⟨Gi,fun x hx => ?_⟩
      simp [Hu] at hx;unfold I64;omega
    rw [if_neg k1] at r5 ⊢
    by_cases k1:f.ru.kind=7
    · rw [if_pos k1] at r5 ⊢;refine ⟨Gi,fun x hx => ?_⟩
      simp [Hu] at hx;unfold I64;omega
    rw [if_neg k1] at r5 ⊢
    refine ⟨Gi,fun x hx => ?_⟩
    simp [Hu] at hx;unfold I64;omega
   refine el4_c h s f hf hs bx hb e hI.1 (fun x hx => ?_) (fun x hx=>hI.2 x (List.mem_cons_of_mem _ hx))
   simp only [List.mem_cons,List.not_mem_nil,or_false] at hx
   rcases hx with rfl|rfl|rfl
   · unfold I64;omega
   · unfold I64;omega
   · exact hI.2 _ QAn
 · rw [Cw,if_neg QAd,if_neg QAd,if_neg QAd,if_neg QAd,if_pos e] at hco
   refine el5_c h s f hf hs bx hb e fun x hx => ?_
   simp only [List.mem_cons,List.not_mem_nil,or_false] at hx
   rcases hx with rfl|rfl|rfl
   · unfold I64;omega
   · unfold I64;omega
   · unfold I64;split <;> omega
 · rw [Cw,if_neg QAd,if_neg QAd,if_neg QAd,if_neg QAd,if_neg QAd,if_pos e] at hco
   exact el6_c h s f hf hs bx hb e (mx hco.1 QAd) QDd
 · rw [Cw,if_neg QAd,if_neg QAd,if_neg QAd,if_neg QAd,if_neg QAd,if_neg QAd,if_pos e] at hco
   exact el7_c h s f hf hs bx hb e (mx hco.1 QAd) (mx hco.2.1 QAd) (fun x hx=>mx (hco.2.2.1.2.2 x hx) QAd)
 · exact el8_c h s f hf hs bx hb e
end Go.Hw
namespace Go.Hw
open Go
attribute [local irreducible] GO GOl GDp Val Fn Res Ab Du Blk Bd Cd Bf Has Yl
open Go.Proofs.Tryz (prog)
theorem B3a {n:Int}(h:I64 n):(Cm n).length≤23:=by
 have:=Lib.itoa_length_le n h.1 h.2
 unfold Cm
 simp only [List.length_append,List.length_cons,List.length_nil];omega
theorem Jxa {s:List UInt8}(h:s.length≤1000):(Dm s).length≤5000:=by
 have:=Lib.itoa_length_le (s.length:Int) QAd QAd
 unfold Dm
 simp only [List.length_append,List.length_cons];omega
theorem Sm {α β:Type}{e:α→List β}{m:Nat}:∀ {l:List α},(∀ x∈l,(e x).length≤m)→(l.flatMap e).length≤l.length * m
 | [],_=>by simp
 | a::l,h=>by
   have h1:=h a (List.mem_cons_self ..)
   have h2:=Sm (l:=l) fun x hx=>h x (List.mem_cons_of_mem _ hx)
   rw [List.flatMap_cons,List.length_append,List.length_cons,Nat.add_mul];omega
theorem Jya {l:List Int}(h:∀ x∈l,I64 x):(Dt l).length≤2+l.length * 23:=by
 have:=Sm (e:=Cm) (m:=23) fun x hx=>B3a (h x hx)
 unfold Dt B2a
 simp only [List.length_append,List.length_cons,List.length_nil];omega
theorem bCards_le {l:List Dx}(h:∀ c∈l,I64 c.p):(Ie l).length≤2+l.length * 48:=by
 have:=Sm (e:=fun c=>Dt (Rg c)) (m:=48) (l:=l) fun x hx=>by
  have:=Jya (Bza x (h x hx))
  exact this
 unfold Ie B2a
 simp only [List.length_append,List.length_cons,List.length_nil];omega
def ElOk (b:List UInt8):Prop:=(∃ n,I64 n∧b=Cm n)∨(∃ l,(∀ x∈l,I64 x)∧l.length≤100∧b=Dt l)∨(∃ l,(∀ c∈l,I64 c.p)∧l.length≤100∧b=Ie l)∨∃ s,s.length≤1000∧b=Dm s
theorem ElOk.len {b:List UInt8}(h:ElOk b):b.length≤5000:=by
 rcases h with ⟨n,h,rfl⟩|⟨l,h,hl,rfl⟩|⟨l,h,hl,rfl⟩|⟨s,hl,rfl⟩
 · have:=B3a h;omega
 · have:=Jya h;omega
 · have:=bCards_le h;omega
 · exact Jxa hl
theorem Ir {n:Int}(h:I64 n):ElOk (Cm n):=.inl ⟨n,h,rfl⟩
theorem Wt {l:List Int}(h:∀ x∈l,I64 x)(hl:l.length≤100):ElOk (Dt l):=.inr (.inl ⟨l,h,hl,rfl⟩)
theorem Jja {l:List Dx}(h:∀ c∈l,I64 c.p)(hl:l.length≤100):ElOk (Ie l):=.inr (.inr (.inl ⟨l,h,hl,rfl⟩))
theorem el_text {s:List UInt8}(hl:s.length≤1000):ElOk (Dm s):=.inr (.inr (.inr ⟨s,hl,rfl⟩))
theorem G1a {g:Ak}(h:Nh g):ElOk (Dt (Jh g)):=Wt (Wk h) (by show 4≤100;omega)
theorem rul_i (r:Fk)(hr:If r):Nh r.g∧∀ x∈[r.case,r.inst,r.kind,r.club,r.player,r.season,r.comp,r.points,r.amount,r.hg,r.ag,r.lo,r.hi],I64 x:=by
 obtain ⟨r1,r2,r3,r4,r5,r6⟩:=hr
 have hk:1≤r.kind∧r.kind≤8:=by
  unfold Ej at r5
  repeat' split at r5
  all_goals omega
 have hI:Nh r.g∧∀ x∈[r.club,r.player,r.season,r.comp,r.points,r.amount,r.hg,r.ag,r.lo,r.hi],I64 x:=by
  rw [← r6]
  have z:I64 0:=by unfold I64;omega
  unfold Ej at r5
  unfold Il
  unfold Ij Bel at r5
  by_cases k1:r.kind=1
  · rw [if_pos k1] at r5 ⊢;refine ⟨Jg r5.1,fun x hx => ?_⟩
    have:=r5.1;unfold Dh Bel at this
    simp [Hu] at hx;unfold I64;omega
  rw [if_neg k1] at r5 ⊢
  by_cases k1:r.kind=2
  · rw [if_pos k1] at r5 ⊢;refine ⟨Jg r5,fun x hx => ?_⟩
    simp [Hu] at hx;unfold I64;omega
  rw [if_neg k1] at r5 ⊢
  by_cases k1:r.kind=3
  · rw [if_pos k1] at r5 ⊢;refine ⟨Jg r5.1,fun x hx => ?_⟩
    simp [Hu] at hx;unfold I64;omega
  rw [if_neg k1] at r5 ⊢
  by_cases k1:r.kind=4
  · rw [if_pos k1] at r5 ⊢;refine ⟨Gi,fun x hx => ?_⟩
    simp [Hu] at hx;unfold I64;omega
  rw [if_neg k1] at r5 ⊢
  by_cases k1:r.kind=5
  · rw [if_pos k1] at r5 ⊢;refine ⟨Gi,fun x hx => ?_⟩
    simp [Hu] at hx;unfold I64;omega
  rw [if_neg k1] at r5 ⊢
  by_cases k1:r.kind=6
  · rw [if_pos k1] at r5 ⊢;refine ⟨Gi,fun x hx => ?_⟩
    simp [Hu] at hx;unfold I64;omega
  rw [if_neg k1] at r5 ⊢
  by_cases k1:r.kind=7
  · rw [if_pos k1] at r5 ⊢;refine ⟨Gi,fun x hx => ?_⟩
    simp [Hu] at hx;unfold I64;omega
  rw [if_neg k1] at r5 ⊢
  refine ⟨Gi,fun x hx => ?_⟩
  simp [Hu] at hx;unfold I64;omega
 refine ⟨hI.1,?_⟩
 have i1:I64 r.case:=by unfold I64;omega
 have i2:I64 r.inst:=by unfold I64;omega
 have i3:I64 r.kind:=by unfold I64;omega
 exact List.forall_mem_cons.2 ⟨i1,List.forall_mem_cons.2 ⟨i2,List.forall_mem_cons.2 ⟨i3,hI.2⟩⟩⟩
theorem Jia (f:Fct)(hok:Bm f)(hv:f.void.length=32):(∀ b∈Bl f,ElOk b)∧(Bl f).length≤14:=by
 have hco:=hok.2.2.1
 have mx:∀ {n m:Int},Bel n m→m≤1000000000→I64 n:=fun h1 h2=>Ui h1 QAd
 have hfz:∀ {n:Int},n=0→I64 n:=fun h=>by subst h;unfold I64;omega
 have hnil:∀ b∈([]:List (List UInt8)),ElOk b:=fun b hb=>by cases hb
 unfold Bl
 unfold Cw at hco
 by_cases e:f.kind=1
 · rw [if_pos e] at hco ⊢
   obtain ⟨g1,g2,g3,g4,g5⟩:=hco
   refine ⟨?_,by simp⟩
   have hr:f.eRules.length≤1000:=by
    split at g5
    · have:=g5.2.1;omega
    · rw [g5];simp
   exact List.forall_mem_cons.2 ⟨Ir (mx g1 QAd),List.forall_mem_cons.2 ⟨Ir (mx g2 QAd),List.forall_mem_cons.2 ⟨Wt (fun x hx=>mx (g3.2.2 x hx) QAd) QAd,List.forall_mem_cons.2 ⟨el_text hr,hnil⟩⟩⟩⟩
 rw [if_neg e] at hco ⊢
 by_cases e:f.kind=2
 · rw [if_pos e] at hco ⊢
   refine ⟨?_,by simp⟩
   exact List.forall_mem_cons.2 ⟨G1a (Jg hco.1),List.forall_mem_cons.2 ⟨Ir (mx hco.2 QAd),hnil⟩⟩
 rw [if_neg e] at hco ⊢
 by_cases e:f.kind=3
 · rw [if_pos e] at hco ⊢
   obtain ⟨g1,g2,g3,g4,g5,g6,g7,g8,g9,g10⟩:=hco
   have hp:I64 f.sh.hp∧I64 f.sh.ap:=by
    rcases g5 with ⟨q1,q2⟩|⟨_,q1,q2,_⟩
    · exact ⟨hfz q1,hfz q2⟩
    · exact ⟨mx q1 QAd,mx q2 QAd⟩
   refine ⟨?_,by simp⟩
   refine List.forall_mem_cons.2 ⟨G1a (Jg g1),List.forall_mem_cons.2 ⟨Ir (mx g2 QAd),List.forall_mem_cons.2 ⟨Ir (mx g3 QAd),List.forall_mem_cons.2 ⟨Ir (mx g4 QAd),List.forall_mem_cons.2 ⟨Ir hp.1,List.forall_mem_cons.2 ⟨Ir hp.2,?_⟩⟩⟩⟩⟩⟩
   refine List.forall_mem_cons.2 ⟨Wt (fun x hx=>mx (g6.2.1 x hx) QAd) (by have:=g6.1;omega),List.forall_mem_cons.2 ⟨Wt (fun x hx=>mx (g7.2.1 x hx) QAd) (by have:=g7.1;omega),?_⟩⟩
   exact List.forall_mem_cons.2 ⟨Jja (fun c hc=>mx (g6.2.1 _ (g8.2 c hc)) QAd) (by have:=g8.1;omega),List.forall_mem_cons.2 ⟨Jja (fun c hc=>mx (g7.2.1 _ (g9.2 c hc)) QAd) (by have:=g9.1;omega),hnil⟩⟩
 rw [if_neg e] at hco ⊢
 by_cases e:f.kind=4
 · rw [if_pos e] at hco ⊢
   obtain ⟨i1,i2⟩:=rul_i _ hco
   refine ⟨?_,by simp⟩
   have I:∀ {x},x∈[f.ru.case,f.ru.inst,f.ru.kind,f.ru.club,f.ru.player,f.ru.season,f.ru.comp,f.ru.points,f.ru.amount,f.ru.hg,f.ru.ag,f.ru.lo,f.ru.hi]→ElOk (Cm x):=fun hx=>Ir (i2 _ hx)
   intro b hb
   simp only [List.mem_cons,List.not_mem_nil,or_false] at hb
   rcases hb with rfl|rfl|rfl|rfl|rfl|rfl|rfl|rfl|rfl|rfl|rfl|rfl|rfl|rfl
   · exact I QAn
   · exact I QAn
   · exact I QAn
   · exact G1a i1
   all_goals exact I QAn
 rw [if_neg e] at hco ⊢
 by_cases e:f.kind=5
 · rw [if_pos e] at hco ⊢
   refine ⟨?_,by simp⟩
   exact List.forall_mem_cons.2 ⟨Ir (by unfold I64;omega),List.forall_mem_cons.2 ⟨Ir (by unfold I64;omega),List.forall_mem_cons.2 ⟨Ir (by unfold I64;split <;> omega),hnil⟩⟩⟩
 rw [if_neg e] at hco ⊢
 by_cases e:f.kind=6
 · rw [if_pos e] at hco ⊢
   refine ⟨?_,by simp⟩
   exact List.forall_mem_cons.2 ⟨Ir (mx hco.1 QAd),List.forall_mem_cons.2 ⟨Ir QDd,hnil⟩⟩
 rw [if_neg e] at hco ⊢
 by_cases e:f.kind=7
 · rw [if_pos e] at hco ⊢
   refine ⟨?_,by simp⟩
   exact List.forall_mem_cons.2 ⟨Ir (mx hco.1 QAd),List.forall_mem_cons.2 ⟨Ir (mx hco.2.1 QAd),List.forall_mem_cons.2 ⟨Wt (fun x hx=>mx (hco.2.2.1.2.2 x hx) QAd) (by have:=hco.2.2.1.2.1;omega),hnil⟩⟩⟩
 rw [if_neg e]
 refine ⟨?_,by simp⟩
 exact List.forall_mem_cons.2 ⟨el_text QAd,hnil⟩
theorem Zn {m:Nat}:∀ {l:List (List UInt8)},(∀ x∈l,x.length≤m)→l.flatten.length≤l.length * m
 | [],_=>by simp
 | a::l,h=>by
   have h1:=h a (List.mem_cons_self ..)
   have h2:=Zn (l:=l) fun x hx=>h x (List.mem_cons_of_mem _ hx)
   rw [List.flatten_cons,List.length_append,List.length_cons,Nat.add_mul];omega
def Lfa:List (List UInt8):=["day".toUTF8.data.toList, "kind".toUTF8.data.toList, "known".toUTF8.data.toList, "what".toUTF8.data.toList]
theorem Eqa (f:Fct):Mc f=Mh Lfa [Cm f.day,Cm f.kind,Cm f.known,Oe (Bl f)]:=by
 unfold Mc Mh Lfa Oe
 rw [Zr]
 simp only [List.zip_cons_cons,List.zip_nil_right,List.flatMap_cons,List.flatMap_nil,List.append_assoc,List.append_nil,List.nil_append,List.cons_append]
theorem I0a:Lfa.Pairwise fun a b=>Op.bytesLess a b=true:=by decide
theorem encF_le (f:Fct)(hok:Bm f)(hv:f.void.length=32):(Mc f).length≤200000:=by
 have h1:=Jia f hok hv
 have h2:=Zn (m:=5000) fun x hx=>(h1.1 x hx).len
 rw [Zr] at h2
 have hb:∀ {n:Int},Bel n 1048577→(Cm n).length≤23:=fun h=>B3a (Ui h QAd)
 have h3:=hb hok.1
 have h4:=hb hok.2.1
 have hk:1≤f.kind∧f.kind≤8:=by
  refine Classical.byContradiction fun hk=>(Jz f hk).2 hok.2.2.1
 have h5:(Cm f.kind).length≤23:=B3a (by unfold I64;omega)
 have t:∀ s:String,s.toUTF8.data.toList.length≤1000→(Dm s.toUTF8.data.toList).length≤5000:=fun s h=>Jxa h
 have t1:=t "day" QAs
 have t2:=t "kind" QAs
 have t3:=t "known" QAs
 have t4:=t "what" QAs
 unfold Mc
 simp only [List.length_append,List.length_cons,List.length_nil]
 omega
theorem Loa (h:Ro)(s:Fsh)(f:Fct):Res prog 123 #[Br s f] h (fun u h'=>∃ bx,u=.func (.func 187) #[] #[.pointer (some ⟨bx,0,none⟩)]∧Ab h' ⟨bx,0,none⟩ (Df s f)):=by
 refine QXR Proofs.Tryz.func123 fun w0 X0=>?_
 repeat' (first|refine QF ?_|(refine QB ?_;intro b)|fail)
 refine Ip QK ?_
 intro h1 hle1 hc1
 (first|(apply Ay;(iterate 3 exact J)))
 exact ⟨b,rfl,hc1⟩
end Go.Hw
namespace Go.Hw
open Go
attribute [local irreducible] GO GOl GDp Val Fn Res Ab Du Blk Bd Cd Bf Has Yl
open Go.Proofs.Tryz (prog)
theorem four_le:4≤1000000:=by omega
theorem Xe {C:Ctx}{l:Sl}{Es:List Asn}{h:Ro}{G:Value→List Asn→Ro→Prop}{ty:TypeId}{pos:String}{aft:Array Edge}{gd:Option (Nat×Bool)}{t e sz:Nat}{x y:Operand}{b off n c:Nat}{v:Value}{xs ys:List Value}{Es':List Asn}{T:Ty}
  (hT:By t C.ts=some T) (hx:evl l x=some (.pointer (some ((addrD (some ⟨b,0,none⟩)).add off)))) (hy:evl l y=some v) (hR:Lx Es (Bd e sz (.slice (some ⟨b,0,none⟩) n c) n xs) (Bd e sz (.slice (some ⟨b,0,none⟩) n c) n ys) Es')
  (hys:ys=xs.take off++Bz v++xs.drop (off+(Bz v).length)) (hoff:off+(Bz v).length≤xs.length)
  (hl:Nat.beq (Bz v).length T.size=true) (h1:Nc (Bz v)=true) (g:G undef Es' h):Fw C l Es h ⟨none,.store t x y,ty,pos,aft,gd⟩ G :=
 Xd hT (by rw [hx];show some (Value.pointer (some ((⟨b,0,none⟩:Addr).add off)))=_;rw [Ft,Nat.zero_add]) hy hR hys hoff hl h1 g
open Classical in
theorem Epa (h:Ro)(hG:Iv h)(s:Fsh)(f:Fct)(hf:FAt h s f)(hs:FSm f):Res prog 81 #[Br s f] h (fun u h'=>if Bm f then ∃ A c,u=.tuple #[.slice A (Mc f).length c,.int .i64 0]∧Ar Ev 1 h' A (Mc f).length (Mc f) else u=.tuple #[.slice none 0 0,.int .i64 70]):=by
 refine QXR Proofs.Tryz.func81 fun w0 X0=>?_
 have hvl:=hf.void
 by_cases hg:Bm f
 · have hel:=(Jia f hg hvl).2
   have hle0:=encF_le f hg hvl
   repeat' (first|refine QF ?_|(refine QB ?_;intro b)|(refine QG ?_;first|(apply Aa;exact J;exact has58;(have:=Ob h s f hf hs;rw [if_pos hg] at this;exact this))|(apply Ag;exact J;exact has123;exact Loa _ s f;rintro vr hs1 hle1 ⟨bx,rfl,hcb⟩))|(refine QH ?_ ?_<;>intro hc<;>try omega)|fail)
   rename_i b0
   generalize b=bT
   refine Fg 192 5 ?_
   refine Ck (Es':=[Blk bT 186 [.slice none 0 0],Bd 192 5 (.slice none 0 0) 0 [],Blk b0 57 (Df s f)]) QT ?_
   refine Iw (R:=ER) (xs:=Bl f) (gf:=187) (lb:=[.pointer (some ⟨bx,0,none⟩)]) rfl rfl has187 (elems_c _ s f (hf.le hle1) hs bx hcb hg) (by rintro x u h2 ⟨v,rfl,_⟩;rfl) rfl
    (fun pre Es h2=>∃ (vs:List Va) (A:Option Addr) (c:Nat),Es=[Blk bT 186 [.slice A pre.length c],Bd 192 5 (.slice A pre.length c) pre.length (vs.flatMap vaC),Blk b0 57 (Df s f)]∧vs.length=pre.length∧Ch (Jq 4 h2) vs pre) (fun _ _ _ _=>False)
    (fun pre Es h2 h3 hl ⟨vs,A,c,e1,e2,e3⟩=>⟨vs,A,c,e1,e2,e3.imp fun a b q=>q.le hl⟩) (fun _ _ _ _ _ _ h=>h.elim) ⟨[],none,0,rfl,rfl,Ch.nil⟩ ?_ ?_ (fun _ _ _ _ _ _ _ _ h=>h.elim)
   · rintro lid r0 w1 X1 pre x post u Es1 h1 hx ⟨v,rfl,hv⟩ ⟨vs,A,c,rfl,hvs,hz⟩ hle hst
     have hpl:pre.length+1≤(Bl f).length:=by rw [hx];simp
     have hpl2:pre.length≤14:=by omega
     have hys:=flat_set Cj vs va0 v
     rw [hvs] at hys
     have hoff:pre.length * 5+(vaC v).length≤((vs++[va0]).flatMap vaC).length:=by
      rw [Cc Cj,List.length_append,hvs,Cj,Nat.add_mul];exact Nat.le_refl _
     repeat' (first|refine QC ?_|(apply Rv;exact J;exact QK;exact hst)|(refine QB ?_;intro b)|(apply Ad (n:=7) [0,1,2,3,4,7,5,6] [(0,0),(1,0),(2,0),(3,1),(4,1),(5,0),(6,2),(1,7),(7,1),(6,1)];kernel_rfl)|refine QDs ?_|(apply Bk;exact J;kernel_rfl;exact J;exact J;(first|(apply Cg (j:=pre.length);(iterate 6 exact J);(with_reducible exact J);omega));exact QA)|(apply Ao;exact J;kernel_rfl;(iterate 3 exact J);(first|(apply Ah (enc:=vaC) (n:=1) [va0];(iterate 3 exact J);exact List.cons_ne_nil _ _;(iterate 4 exact J);exact Cj;exact J;exact J;intro bz hz1 hlez hs1;refine ⟨hlez,QN,?_⟩)|(apply Ffa (enc:=vaC) (xs:=vs);(iterate 7 exact J);exact hs1;exact Cj;exact Pf;intro v1;exact QR;omega;exact J;omega;intro v1;exact QM;intro A1 c1;refine ⟨Le.refl _,QN,?_⟩)|(apply Xe (ys:=(vs++[v]).flatMap vaC);(iterate 3 exact J);exact QR;exact hys;exact hoff;exact J;exact J;refine ⟨Le.refl _,QN,?_⟩)))|(apply Hi;kernel_rfl;exact J;exact J)|(apply Cq;(iterate 4 exact J);(first|(apply Xe (ys:=(vs++[v]).flatMap vaC);(iterate 3 exact J);exact QR;exact hys;exact hoff;exact J;exact J;refine ⟨Le.refl _,QN,?_⟩)))|fail)
     all_goals
      refine Ck (Es':=[Ii lid { r0 with state:=.busy },Blk bT 186 [.slice (some ⟨A1,0,none⟩) (pre.length+1) c1],Bd 192 5 (.slice (some ⟨A1,0,none⟩) (pre.length+1) c1) (pre.length+1) ((vs++[v]).flatMap vaC),Blk b0 57 (Df s f)]) QT (Cja (r0:=r0) rfl .here ⟨vs++[v],some ⟨A1,0,none⟩,c1,?_,by simp [hvs],?_⟩)
      · rw [List.length_append];rfl
      · exact (hz.imp fun a b q=>q.le QAa).snoc (hv.le QAa)
   · rintro D h1 Es1 hle ⟨vs,A,c,rfl,hvs,hz⟩
     refine Nj (enc:=vaC) (xs:=vs) Cj hvs QK ?_
     intro A2 c2 h2 hle2 e2 hs2
     injection e2 with e21 _ e23
     subst e21;subst e23
     have hz2:=hz.imp fun a b q=>q.le hle2
     have hel2:(Bl f).length≤1000000:=by omega
     have hk:1≤f.kind∧f.kind≤8:=by
      refine Classical.byContradiction fun hk=>(Jz f hk).2 hg.2.2.1
     have i1:I64 f.day:=Ui hg.1 QAd
     have i2:I64 f.kind:=by unfold I64;omega
     have i3:I64 f.known:=Ui hg.2.1 QAd
     repeat' (first|refine QC ?_|(apply Ad (n:=8) [0,1,2,3,4,5,6,7,8,9,10,11,12,13,14,15,16,17,18] [(1,0),(2,0),(4,0),(5,0),(7,0),(8,0),(10,0),(0,2),(11,3),(3,1),(6,1),(9,1),(11,1),(12,1),(13,0),(14,1),(15,0),(16,0),(17,0),(18,0),(0,2),(10,6),(6,1),(9,1),(11,1),(12,1),(13,0),(14,1),(15,0),(16,0),(17,0),(18,0),(0,2),(9,9),(9,1),(11,1),(12,1),(13,0),(14,1),(15,0),(16,0),(17,0),(18,0),(0,2),(8,11),(11,1),(12,1),(13,0),(14,1),(15,0),(16,0),(17,0),(18,0),(0,2),(7,12),(12,1),(13,0),(14,1),(15,0),(16,0),(17,0),(18,0),(0,1),(13,0),(14,1),(15,0),(16,0),(17,0),(18,0)];kernel_rfl)|refine QD ?_|(apply Ao;exact J;kernel_rfl;(iterate 3 exact J);(first|(refine QA3 ?_;intro bk hk7 hlek hks;refine ⟨hlek,QN,?_⟩)|(refine QCt ?_;intro bz hz1 hlez hs1;refine ⟨hlez,QN,?_⟩)|(apply Ag;exact J;exact has124;exact encode_c _ (hG.le QAa) 6 QAd ⟨4,0,[],⟨some ⟨bz,0,none⟩,4,4⟩,⟨some ⟨bk,0,none⟩,4,4⟩⟩ (Mc f) (.inr (.inr (.inr ⟨⟨some ⟨bz,0,none⟩,4,4⟩,⟨some ⟨bk,0,none⟩,4,4⟩,[Dz f.day,Dz f.kind,Dz f.known,Ep A (Bl f).length c],[Cm f.day,Cm f.kind,Cm f.known,Oe (Bl f)],Lfa,rfl,hs1.le QAa,Ch.cons (Av i1) (Ch.cons (Av i2) (Ch.cons (Av i3) (Ch.cons (Fp (hs2.le QAa) (hz2.imp fun a b q=>q.le QAa) hel2) Ch.nil))),hks.le QAa,rfl,I0a,four_le,Eqa f⟩))) QAd;rintro v4 h4 hle4 ⟨A4,c4,rfl,hr4⟩;refine ⟨hle4,QN,?_⟩)|(apply Aa;exact J;exact Wg;exact Gga _ _;refine ⟨Le.refl _,QN,?_⟩)|(apply Aa;exact J;exact Jca;exact Iza _ _ _ _;refine ⟨Le.refl _,QN,?_⟩)))|(apply Hi;kernel_rfl;exact J;exact J)|(apply Cq;(iterate 4 exact J);(first|(refine QA3 ?_;intro bk hk7 hlek hks;refine ⟨hlek,QN,?_⟩)|(refine QCt ?_;intro bz hz1 hlez hs1;refine ⟨hlez,QN,?_⟩)|(apply Aa;exact J;exact Wg;exact Gga _ _;refine ⟨Le.refl _,QN,?_⟩)|(apply Aa;exact J;exact Jca;exact Iza _ _ _ _;refine ⟨Le.refl _,QN,?_⟩)))|fail)
     all_goals
      refine Mca (Sv rfl QK (Rt_S (rs:=[.tmp 2,.tmp 3]) (vs:=[.slice A4 (Mc f).length c4,.int .i64 0]) rfl rfl ⟨rfl,rfl,trivial⟩ (List.nil_sublist _) ⟨rfl,?_⟩))
      show if Bm f then _ else _
      rw [if_pos hg]
      exact ⟨_,_,rfl,hr4⟩
 · repeat' (first|refine QF ?_|(refine QB ?_;intro b)|(refine QG ?_;first|(apply Aa;exact J;exact has58;(have:=Ob h s f hf hs;rw [if_neg hg] at this;exact this)))|(refine QH ?_ ?_<;>intro hc<;>try omega)|(apply Cs;(iterate 4 exact J)))
   rw [if_neg hg]
end Go.Hw
namespace Go.Hw
open Go
attribute [local irreducible] GO GOl GDp Val Fn Res Ab Du Blk Bd Cd Bf Has Yl
open Go.Proofs.Tryz (prog)
theorem Joa:∀ (a b:List UInt8),Lib.compareBytes a b=Mg a b
 | [],[]=>rfl
 | [],_::_=>rfl
 | _::_,[]=>rfl
 | a::x,b::y=>by
   unfold Lib.compareBytes Mg
   rw [Joa x y]
   simp only [UInt8.lt_iff_toNat_lt]
theorem run_cmp7 {P:Program}{w:World}{h:Ro}(hl:Le h (mem w)){A B:Option Addr}{n c m d:Nat}{x y:List UInt8}(hx:Ar Ev 1 h A n x)(hy:Ar Ev 1 h B m y) :
  (Extern.BytealgCompare.compare (Array.mk [Value.slice A n c,.slice B m d])).run P w=.ok (.int .i64 (Mg x y)) w:=by
 change Sem.run P (do pure (goInt (Extern.BytealgCompare.cmp (← Extern.Bytes.bytesOf (.slice A n c)) (← Extern.Bytes.bytesOf (.slice B m d))))) w=_
 simp only [Sem.run_bind,Vm hl hx,Vm hl hy,Sem.run_pure,Result.andThen]
 rw [Lib.cmp_eq,Joa]
 rfl
theorem isNaN7_c (h:Ro)(a:Int):Val prog 98 #[.int .i64 a] h (.bool false):=by
 refine QXV Proofs.Tryz.func98 fun w0 X0=>?_
 repeat' (first|refine QF ?_|(apply Ac;(iterate 3 exact J)))
 all_goals simp [Fe]
theorem Wx (h:Ro)(a b:Int):Val prog 57 #[.int .i64 a,.int .i64 b] h (.int .i64 (Fb a b)):=by
 refine QXV Proofs.Tryz.func57 fun w0 X0=>?_
 repeat' (first|refine QF ?_|(refine QG ?_;first|(apply Aa;exact J;exact has98;exact isNaN7_c _ _))|(refine QH ?_ ?_<;>intro hc<;>try omega)|(apply Ac;(iterate 3 exact J)))
 all_goals (unfold Fb;congr 1;(repeat' split) <;> omega)
theorem L0a (h:Ro)(A B:Option Addr)(n c m d:Nat)(x y:List UInt8)(hx:Ar Ev 1 h A n x)(hy:Ar Ev 1 h B m y):Val prog 82 #[.slice A n c,.slice B m d] h (.int .i64 (Mg x y)):=by
 refine QXV Proofs.Tryz.func82 fun w0 X0=>?_
 repeat' (first|refine QF ?_|(apply Af;exact J;exact J;(first|(apply OV_ext (e:=Extern.BytealgCompare.compare);exact J;exact J;kernel_rfl;exact J;kernel_rfl;kernel_rfl;exact fun w hl=>run_cmp7 hl hx hy));exact QA)|(apply Ac;(iterate 3 exact J)))
 all_goals rfl
def orL:List Int→Int
 | []=>0
 | a::l=>if a≠0 then a else orL l
theorem Uo (a:Int)(l:List Int):orL (a::l)=if a≠0 then a else orL l:=rfl
theorem or7_c (h:Ro)(A:Option Addr)(n c:Nat)(l:List Int)(hx:Ar Cu 1 h A n l)(hn:n≤1000000):Val prog 56 #[.slice A n c] h (.int .i64 (orL l)):=by
 refine QXV Proofs.Tryz.func56 fun w0 X0=>?_
 have hlen:=hx.len
 repeat' (first|refine QF ?_|fail)
 refine Rr (X:=Nat) (fun k=>k≤n∧orL l=orL (l.drop k)) (fun k=>n-k) (fun k=>[(8,.int .i64 k),(7,.int .i64 n),(6,.slice A n c),(3,.int .i64 0)]) (fun _=>[]) (fun _=>h) 0 ⟨by omega,rfl⟩ QS rfl rfl ?_
 rintro k ⟨hk,ho⟩ ih
 by_cases hkn:k<n
 · have a1:=hx.addrD hkn
   have cc:=hx.cellsD 0 hkn
   have hd:=Bta 0 hlen hkn
   rw [hd] at ho
   generalize l.getD k 0=u at *
   rw [Uo] at ho
   repeat' (first|refine QF ?_|(apply Af;exact J;exact J;(first|exact QAc|exact QAo);exact QA)|(refine QH ?_ ?_<;>intro hc<;>try omega)|(apply Ac;(iterate 3 exact J)))
   all_goals first
    | (have hu:u≠0:=by assumption
       rw [ho,if_pos hu];done)
    | (have hu:u=0:=by assumption
       have h3:=ih (k+1) ⟨by show k+1≤n;omega,by show orL l=orL (l.drop (k+1));rw [ho,if_neg (fun h=>h hu)]⟩ QCc
       refine Aj QS QT (h3))
 · rw [List.drop_eq_nil_of_le QAd] at ho
   repeat' (first|refine QF ?_|(refine QH ?_ ?_<;>intro hc<;>try omega)|(apply Ac;(iterate 3 exact J)))
   all_goals (rw [ho];rfl)
theorem cmpF_or (f g:Fct):Gp f g=if orL [Fb f.known g.known,Fb f.day g.day,Fb f.kind g.kind]≠0 then orL [Fb f.known g.known,Fb f.day g.day,Fb f.kind g.kind] else Mg (Mc f) (Mc g):=by
 unfold Gp
 simp only [Uo]
 show _=if (if _ then _ else if _ then _ else if _ then _ else (0:Int))≠0 then (if _ then _ else if _ then _ else if _ then _ else (0:Int)) else _
 by_cases h1:Fb f.known g.known=0
 · by_cases h2:Fb f.day g.day=0
   · by_cases h3:Fb f.kind g.kind=0
     · simp [h1,h2,h3]
     · simp [h1,h2,h3]
   · simp [h1,h2]
 · simp [h1]
open Classical in
theorem La (h:Ro)(hG:Iv h)(s t:Fsh)(f g:Fct)(hf:FAt h s f)(hs:FSm f)(hg:FAt h t g)(ht:FSm g)(of:Bm f)(og:Bm g):Res prog 41 #[Br s f,Br t g] h (fun u h'=>u=.int .i64 (Gp f g)):=by
 refine QXR Proofs.Tryz.func41 fun w0 X0=>?_
 have hcf:=cmpF_or f g
 generalize hor:orL [Fb f.known g.known,Fb f.day g.day,Fb f.kind g.kind]=o at *
 repeat' (first|refine QF ?_|(refine QB ?_;intro b)|(refine QG ?_;first|(apply Ag;exact J;exact has81;exact Epa _ (hG.le QAa) s f (hf.le QAa) hs;intro v2 h2 hle2 hq2;rw [if_pos of] at hq2;obtain ⟨A2,c2,rfl,hr2⟩:=hq2)|(apply Ag;exact J;exact has81;exact Epa _ (hG.le QAa) t g (hg.le QAa) ht;intro v3 h3 hle3 hq3;rw [if_pos og] at hq3;obtain ⟨A3,c3,rfl,hr3⟩:=hq3)|(apply Aa;exact J;exact has82;exact L0a _ _ _ _ _ _ _ _ _ (hr2.le QAa) (hr3.le QAa)))|(apply Ad (n:=1) [0,1,2,3,4,5,6,7,8,9,10,11,12,13,14,15,16,17] [(0,0),(1,0),(2,0),(3,0),(5,0),(6,0),(7,0),(8,0),(10,0),(11,0),(12,0),(13,0),(4,1),(9,1),(14,1),(15,1),(16,1),(17,0)];kernel_rfl)|(apply Ao;exact J;kernel_rfl;(iterate 3 exact J);(first|(apply Bb (e:=3) (cs:=[Fb f.known g.known,Fb f.day g.day,Fb f.kind g.kind].map fun i=>.int .i64 i);(iterate 3 exact J);exact List.cons_ne_nil _ _;(iterate 4 exact J);intro b1 h1 hle1 hcs1;refine ⟨hle1,QN,?_⟩)|(apply Aa;exact J;exact has56;(have hv7:=or7_c _ _ 3 3 [Fb f.known g.known,Fb f.day g.day,Fb f.kind g.kind] (Do hcs1) QAd;rw [hor] at hv7;exact hv7);refine ⟨Le.refl _,QN,?_⟩)|(apply Aa;exact J;exact has57;exact Wx _ _ _;refine ⟨Le.refl _,QN,?_⟩)))|(refine QH ?_ ?_<;>intro hc<;>try omega)|(apply Ay;(iterate 3 exact J)))
 all_goals first
  | (rw [hcf,if_pos QAe];done)
  | (have ho:o=0:=by assumption
     rw [hcf,if_neg (fun h=>h ho)];done)
end Go.Hw

import Derived.Test.YtlnenhhbalpbpaaGreatDoorGB
import Derived.Test.YtlnenhhbalpbpaaGreatDoorRA
import Derived.Test.YtlnenhhbalpbpaaGreatDoorGC
import Derived.Test.YtlnenhhbalpbpaaGreatDoorHwXd
import Derived.Test.YtlnenhhbalpbpaaGreatDoorHwZe
import Derived.Test.YtlnenhhbalpbpaaGreatDoorHwZf
import Derived.Test.YtlnenhhbalpbpaaGreatDoorEC
set_option linter.all false
set_option maxRecDepth 100000
set_option maxHeartbeats 4000000
namespace Go.Hw
open Go
attribute [local irreducible] GO GOl GDp Val Fn Res Ab Du Blk Bd Cd Bf Has
open Go.Proofs.Tryz (prog)
theorem Sk (h:Ro)(n:Int):Val prog 172 #[.int .i64 n] h (vaV (Dz n)):=by
 refine QXV Proofs.Tryz.func172 fun w0 X0=>?_
 repeat' (first|refine QFs ?_|(refine QB ?_;intro b)|fail)
 exact Ct rfl rfl rfl QM rfl rfl rfl
theorem Qr (h:Ro)(A:Option Addr)(n c:Nat):Val prog 221 #[.slice A n c] h (vaV (Ep A n c)):=by
 refine QXV Proofs.Tryz.func221 fun w0 X0=>?_
 repeat' (first|refine QFs ?_|(refine QB ?_;intro b)|fail)
 exact Ct rfl rfl rfl QM rfl rfl rfl
theorem H9a (h:Ro)(s:List UInt8):Val prog 223 #[.string (str s)] h (vaV (Yd s)):=by
 refine QXV Proofs.Tryz.func223 fun w0 X0=>?_
 repeat' (first|refine QFs ?_|(refine QB ?_;intro b)|fail)
 exact Ct rfl rfl rfl QM rfl rfl rfl
theorem H7a (h:Ro)(b:Bool):Val prog 226 #[.bool b] h (.int .i64 (if b then 1 else 0)):=by
 refine QXV Proofs.Tryz.func226 fun w0 X0=>?_
 repeat' (first|refine QF ?_|(refine QH ?_ ?_<;>intro hc<;>try omega)|(apply Ac;(iterate 3 exact J)))
 all_goals (subst hc;rfl)
theorem intsR_c (h:Ro)(A:Option Addr)(n c:Nat)(l:List Int)(hx:Ar Cu 1 h A n l)(hn:n≤1000000):Fn prog 222 #[.slice A n c] [] h (Ita l):=by
 refine QXF Proofs.Tryz.func222 fun w0 X0=>?_
 have hlen:=hx.len
 repeat' (first|refine QFs ?_|(refine QB ?_;intro b)|fail)
 rename_i b2
 generalize b=b3
 refine Fg 192 5 ?_
 refine Ai (X:=Nat×Option Addr×Nat×Ro) (fun x=>x.1≤n∧Le h x.2.2.2) (fun x=>n-x.1)
  (fun x=>[(4,.int .i64 x.1),(0,.slice A n c),(3,.pointer (some ⟨b3,0,none⟩)),(2,.pointer (some ⟨b2,0,none⟩))])
  (fun x=>[Blk b3 192 (vaC (Ep x.2.1 x.1 x.2.2.1)),Bd 192 5 (.slice x.2.1 x.1 x.2.2.1) x.1 (((l.take x.1).map Dz).flatMap vaC),Blk b2 192 (vaC va0)]) (fun x=>x.2.2.2) (0,none,0,h) ⟨by dsimp only;omega,Le.refl _⟩ QS QT rfl ?_
 rintro ⟨k,A1,c1,hh⟩ ⟨hk,hle⟩ ih
 dsimp only at hk hle ih ⊢
 by_cases hkn:k<n
 · have a1:=hx.addrD hkn
   have cc:=(hx.cellsD 0 hkn).le hle
   have ht:=Cb 0 hlen hkn
   generalize l.getD k 0=u at *
   repeat' (first|refine QFs ?_|(apply Ad (n:=5) [0,1,2,3,4,5,6,7,8,9,10] [(0,0),(1,0),(2,0),(3,0),(4,0),(5,0),(6,1),(7,1),(8,1),(9,0),(10,1)];kernel_rfl)|(apply Bk;exact J;kernel_rfl;exact J;exact J;(first|exact QAc|exact QAo);exact QA)|(apply Ao;exact J;kernel_rfl;(iterate 3 exact J);(first|(refine QEb ?_;intro b1 h1 hle1 hs1;refine ⟨hle1,QN,?_⟩)|(refine QEk ?_;intro A2 c2;refine ⟨Le.refl _,QN,?_⟩)|(apply Aa;exact J;exact Zg;exact Sk _ _;refine ⟨Le.refl _,QN,?_⟩)))|(refine QH ?_ ?_<;>intro hc<;>try omega)|fail)
   all_goals
    have h3:=ih (k+1,A2,c2,h1) ⟨by dsimp only;omega,by dsimp only;exact hle.trans hle1⟩ QAh
    dsimp only at h3
    rw [ht,List.map_append] at h3
    refine Aj QS QT (h3)
 · rw [List.take_of_length_le QAd]
   clear ih
   have hkk:k=l.length:=by omega
   subst hkk
   repeat' (first|refine QFs ?_|(refine QH ?_ ?_<;>intro hc<;>try omega)|fail)
   exact Pu (rs:=[.cell 2 192]) (vs:=[vaV (Ep A1 l.length c1)]) rfl rfl ⟨⟨_,rfl,Lf rfl QM rfl⟩,trivial⟩ (.cons _ (.cons_cons _ (List.nil_sublist _))) ⟨A1,c1,rfl,rfl⟩
theorem Qs (h:Ro)(A:Option Addr)(n c:Nat)(l:List Int)(hx:Ar Cu 1 h A n l)(hn:n≤1000000):Res prog 222 #[.slice A n c] h fun u h'=>∃ A' c',u=vaV (Ep A' l.length c')∧Ar vaC 5 h' A' l.length (l.map Dz):=by
 unfold Res
 exact Fn_free (intsR_c h A n c l hx hn) fun v Es h' hle ⟨A',c',e1,e2⟩=>⟨_,_,e2,fun D h'' hl hD=>by
  obtain ⟨A2,c2,e3,hs⟩:=Rj Cj QAn hD
  injection e3 with e31 _ e33
  subst e31;subst e33
  exact ⟨rfl,A',c',e1,hs⟩⟩
theorem Nu {d:Nat}(h:Ro)(A:Option Addr)(n c:Nat)(l:List Int)(hx:Ar Cu 1 h A n l)(hn:n≤1000000)(hl:∀ x∈l,I64 x):Res prog 222 #[.slice A n c] h (VR (d+2) (Dt l)) :=
 (Qs h A n c l hx hn).mono fun v h' _ ⟨A',c',e1,e2⟩=>⟨_,e1,Cua e2 hl (by have:=hx.len;omega)⟩
theorem Bna {d:Nat}(h:Ro)(g:Ak)(hg:Nh g):Res prog 224 #[De g] h (VR (d+2) (Dt (Jh g))):=by
 refine QXR Proofs.Tryz.func224 fun w0 X0=>?_
 repeat' (first|refine QFs ?_|(refine QB ?_;intro b)|(refine QG ?_;first|(refine QE8 ?_;intro b1 h1 hle1 hcs1)|(apply Ag;exact J;exact Mx;exact Nu (d:=d) _ _ 4 4 (Jh g) (Do hcs1) QAd (Wk hg);rintro v2 h2 hle2 ⟨v,rfl,hv⟩))|fail)
 exact Bw rfl rfl rfl QM rfl rfl ⟨v,rfl,hv⟩
theorem C5a {d:Nat}(h:Ro)(A:Option Addr)(n c:Nat)(l:List Dx)(hx:Ar Ox 2 h A n l)(hn:n≤1000000)(hl:∀ c∈l,I64 c.p):Res prog 225 #[.slice A n c] h (VR (d+3) (Ie l)):=by
 refine QXR Proofs.Tryz.func225 fun w0 X0=>?_
 have hlen:=hx.len
 repeat' (first|refine QFs ?_|(refine QB ?_;intro b)|(refine QG ?_;first|(apply Aa;exact J;exact Eba;exact Qr _ _ _ _))|fail)
 rename_i b2
 generalize b=b3
 refine Fg 192 5 ?_
 refine Ai (X:=Nat×List Va×Option Addr×Nat×Ro) (fun x=>x.1≤n∧x.2.1.length=x.1∧Le h x.2.2.2.2∧Ch (Jq (d+2) x.2.2.2.2) x.2.1 ((l.take x.1).map fun c=>Dt (Rg c))) (fun x=>n-x.1)
  (fun x=>[(4,.int .i64 x.1),(0,.slice A n c),(3,.pointer (some ⟨b3,0,none⟩)),(2,.pointer (some ⟨b2,0,none⟩))])
  (fun x=>[Blk b3 192 (vaC (Ep x.2.2.1 x.1 x.2.2.2.1)),Bd 192 5 (.slice x.2.2.1 x.1 x.2.2.2.1) x.1 (x.2.1.flatMap vaC),Blk b2 192 (vaC va0)]) (fun x=>x.2.2.2.2) (0,[],none,0,h) ⟨by dsimp only;omega,rfl,Le.refl _,⟨rfl,fun i a b h1=>by simp at h1⟩⟩ QS QT rfl ?_
 rintro ⟨k,vs,A1,c1,hh⟩ ⟨hk,hvl,hle,hz⟩ ih
 dsimp only at hk hvl hle hz ih ⊢
 by_cases hkn:k<n
 · have a1:=hx.addrD hkn
   have cc:=(hx.cellsD Dg hkn).le hle
   have ht:=Cb Dg hlen hkn
   have hc0:=Bza _ (hl _ (mem7 Dg (show k<l.length by omega)))
   generalize l.getD k Dg=u at *
   repeat' (first|refine QFs ?_|(apply Ad (n:=5) [0,1,2,3,4,5,6,7,8,9,10,11,12,13,14,15,16,17,18] [(0,0),(1,0),(2,0),(3,0),(4,0),(5,0),(6,0),(7,0),(8,0),(9,0),(10,0),(11,0),(12,1),(13,1),(14,1),(15,1),(16,1),(17,0),(18,1)];kernel_rfl)|(apply Bk;exact J;kernel_rfl;exact J;exact J;(first|exact QAc|exact QAo|exact QAb);exact QA)|(apply Ao;exact J;kernel_rfl;(iterate 3 exact J);(first|(refine QE2 ?_;intro b1 h1 hle1 hcs1;refine ⟨hle1,QN,?_⟩)|(apply Ag;exact J;exact Mx;exact Nu (d:=d) _ _ 2 2 (Rg u) (Do hcs1) QAd hc0;rintro v2 h2 hle2 ⟨v,rfl,hv⟩;refine ⟨hle2,QN,?_⟩)|(refine QEm ?_;intro b4 h4 hle4 hs4;refine ⟨hle4,QN,?_⟩)|(refine QFb ?_;intro A2 c2;refine ⟨Le.refl _,QN,?_⟩)|(apply Aa;exact J;exact has226;exact H7a _ _;refine ⟨Le.refl _,QN,?_⟩)))|(refine QH ?_ ?_<;>intro hc<;>try omega)|fail)
   all_goals
    have h3:=ih (k+1,vs++[v],A2,c2,h4) ⟨by dsimp only;omega,by simp [hvl],by dsimp only;exact hle.trans QAa,by
     dsimp only;rw [ht,List.map_append];exact (hz.imp fun a b q=>q.le QAa).snoc (hv.le hle4)⟩ QAh
    dsimp only at h3
    refine Aj QS QT (h3)
 · rw [List.take_of_length_le QAd] at hz
   clear ih
   have hkk:k=n:=by omega
   subst hkk
   repeat' (first|refine QFs ?_|(refine QH ?_ ?_<;>intro hc<;>try omega)|fail)
   refine Nj (enc:=vaC) (xs:=vs) Cj hvl QK ?_
   intro A2 c2 h4 hle4 e2 hs4
   injection e2 with e21 _ e23
   subst e21;subst e23
   refine Bw rfl rfl rfl QM rfl rfl ⟨Ep A1 k c1,rfl,?_⟩
   rw [← Aca]
   exact Fp hs4 (hz.imp fun a b q=>q.le hle4) hn
end Go.Hw
namespace Go.Hw
open Go
attribute [local irreducible] GO GOl GDp Val Fn Res Ab Du Blk Bd Cd Bf Has
open Go.Proofs.Tryz (prog)
theorem what1_c (h:Ro)(s:Fsh)(f:Fct)(hf:FAt h s f)(hs:Coa f)(e:f.kind=1)(i1:I64 f.eS)(i2:I64 f.eC)(i3:∀ x∈f.eClubs,I64 x):Res prog 173 #[Br s f] h (VR 5 (Oe (Bl f))):=by
 have hxs:Bl f=[Cm f.eS,Cm f.eC,Dt f.eClubs,Dm f.eRules]:=by unfold Bl;rw [e];rfl
 rw [hxs]
 refine QXR Proofs.Tryz.func173 fun w0 X0=>?_
 obtain ⟨n1,n2,n3,n4,n5,n6⟩:=hf.small1 hs
 repeat' (first|refine QFs ?_|(refine QB ?_;intro b)|(apply Ad (n:=4) [0,1,2,3,4,5,6,7,8,9,10,11,12,13,14] [(0,0),(1,0),(3,0),(4,0),(6,0),(7,0),(9,0),(10,0),(2,1),(5,1),(8,1),(11,1),(12,1),(13,1),(14,1)];kernel_rfl)|(apply Ao;exact J;kernel_rfl;(iterate 3 exact J);(first|(apply Ag;exact J;exact Mx;exact Nu (d:=2) _ _ _ _ f.eClubs (hf.cl.le QAa) QAd i3;rintro wa ha hlea ⟨va,rfl,hva⟩;refine ⟨hlea,QN,?_⟩)|(refine QC6 ?_;intro bz hz hlebz hsl;refine ⟨hlebz,QN,?_⟩)|(apply Aa;exact J;exact Zg;exact Sk _ _;refine ⟨Le.refl _,QN,?_⟩)|(apply Aa;exact J;exact has223;exact H9a _ _;refine ⟨Le.refl _,QN,?_⟩)|(apply Aa;exact J;exact Eba;exact Qr _ _ _ _;refine ⟨Le.refl _,QN,?_⟩)))|(refine QH ?_ ?_<;>intro hc<;>try omega)|fail)
 all_goals (try (exfalso;omega))
 all_goals
  refine Bw rfl rfl rfl QM rfl rfl ⟨Ep (some ⟨bz,0,none⟩) 4 4,rfl,Fp (hsl) (Ch.cons (Av i1) (Ch.cons (Av i2) (Ch.cons (hva.le QAa) (Ch.cons (Qa) (Ch.nil))))) QAd⟩
theorem what2_c (h:Ro)(s:Fsh)(f:Fct)(hf:FAt h s f)(hs:Coa f)(e:f.kind=2)(i1:Nh f.fg)(i2:I64 f.venue):Res prog 173 #[Br s f] h (VR 5 (Oe (Bl f))):=by
 have hxs:Bl f=[Dt (Jh f.fg),Cm f.venue]:=by unfold Bl;rw [e];rfl
 rw [hxs]
 refine QXR Proofs.Tryz.func173 fun w0 X0=>?_
 obtain ⟨n1,n2,n3,n4,n5,n6⟩:=hf.small1 hs
 repeat' (first|refine QFs ?_|(refine QB ?_;intro b)|(apply Ad (n:=6) [0,1,2,3,4,5,6,7,8,9,10] [(0,0),(1,0),(2,0),(4,0),(5,0),(6,0),(3,1),(7,1),(8,1),(9,1),(10,1)];kernel_rfl)|(apply Ao;exact J;kernel_rfl;(iterate 3 exact J);(first|(apply Ag;exact J;exact has224;exact Bna (d:=2) _ f.fg i1;rintro wa ha hlea ⟨va,rfl,hva⟩;refine ⟨hlea,QN,?_⟩)|(refine QD1 ?_;intro bz hz hlebz hsl;refine ⟨hlebz,QN,?_⟩)|(apply Aa;exact J;exact Zg;exact Sk _ _;refine ⟨Le.refl _,QN,?_⟩)|(apply Aa;exact J;exact Eba;exact Qr _ _ _ _;refine ⟨Le.refl _,QN,?_⟩)))|(refine QH ?_ ?_<;>intro hc<;>try omega)|fail)
 all_goals (try (exfalso;omega))
 all_goals
  refine Bw rfl rfl rfl QM rfl rfl ⟨Ep (some ⟨bz,0,none⟩) 2 2,rfl,Fp (hsl) (Ch.cons (hva.le QAa) (Ch.cons (Av i2) (Ch.nil))) QAd⟩
theorem what3_c (h:Ro)(s:Fsh)(f:Fct)(hf:FAt h s f)(hs:Coa f)(e:f.kind=3)(i1:Nh f.sh.g)(i2:∀ x∈[f.sh.ref,f.sh.hg,f.sh.ag,f.sh.hp,f.sh.ap],I64 x)(i3:∀ x∈f.sh.hs,I64 x)(i4:∀ x∈f.sh.as,I64 x)(i5:∀ c∈f.sh.hc,I64 c.p)(i6:∀ c∈f.sh.ac,I64 c.p):Res prog 173 #[Br s f] h (VR 5 (Oe (Bl f))):=by
 have hxs:Bl f=[Dt (Jh f.sh.g),Cm f.sh.ref,Cm f.sh.hg,Cm f.sh.ag,Cm f.sh.hp,Cm f.sh.ap,Dt f.sh.hs,Dt f.sh.as,Ie f.sh.hc,Ie f.sh.ac]:=by unfold Bl;rw [e];rfl
 rw [hxs]
 refine QXR Proofs.Tryz.func173 fun w0 X0=>?_
 obtain ⟨n1,n2,n3,n4,n5,n6⟩:=hf.small1 hs
 repeat' (first|refine QFs ?_|(refine QB ?_;intro b)|(refine QG ?_;first|(refine QBm ?_;intro bi hi hlei hcs1)|(apply Ag;exact J;exact Mx;exact Qs _ _ 5 5 [f.sh.ref,f.sh.hg,f.sh.ag,f.sh.hp,f.sh.ap] (Do (hcs1.le QAa)) QAd;rintro wn hn hlen ⟨An,cn,rfl,hsn⟩))|(apply Ad (n:=10) [0,1,2,3,4,5,6,7,8] [(0,0),(1,0),(4,0),(5,0),(2,1),(3,1),(6,1),(7,0),(8,1)];kernel_rfl)|(apply Ad (n:=11) [0,1,2,3,4,5,6,7,8,9,10,11,12,13,14,15,16,17] [(0,0),(1,0),(2,0),(3,0),(5,0),(6,0),(8,0),(9,0),(11,0),(12,0),(4,1),(7,1),(10,1),(13,1),(14,1),(15,1),(16,0),(17,1)];kernel_rfl)|(apply Ao;exact J;kernel_rfl;(iterate 3 exact J);(first|(apply Ag;exact J;exact has224;exact Bna (d:=2) _ f.sh.g i1;rintro wg hg hleg ⟨vg,rfl,hvg⟩;refine ⟨hleg,QN,?_⟩)|(refine QC9 ?_;intro bo;refine ⟨Le.refl _,QN,?_⟩)|(refine QBp ?_;intro A2 c2;refine ⟨Le.refl _,QN,?_⟩)|(apply Ag;exact J;exact Mx;exact Nu (d:=2) _ _ _ _ f.sh.hs (hf.sh.hs.le QAa) QAd i3;rintro wp hp hlep ⟨vp,rfl,hvp⟩;refine ⟨hlep,QN,?_⟩)|(apply Ag;exact J;exact Mx;exact Nu (d:=2) _ _ _ _ f.sh.as (hf.sh.as.le QAa) QAd i4;rintro wq hq hleq ⟨vq,rfl,hvq⟩;refine ⟨hleq,QN,?_⟩)|(apply Ag;exact J;exact has225;exact C5a (d:=1) _ _ _ _ f.sh.hc (hf.sh.hc.le QAa) QAd i5;rintro wr hr hler ⟨vr,rfl,hvr⟩;refine ⟨hler,QN,?_⟩)|(apply Ag;exact J;exact has225;exact C5a (d:=1) _ _ _ _ f.sh.ac (hf.sh.ac.le QAa) QAd i6;rintro wt ht hlet ⟨vt,rfl,hvt⟩;refine ⟨hlet,QN,?_⟩)|(refine QD8 ?_;intro bz hz hlebz hs4;refine ⟨hlebz,QN,?_⟩)|(refine QBn ?_;intro A3 c3;refine ⟨Le.refl _,QN,?_⟩)))|(refine QH ?_ ?_<;>intro hc<;>try omega)|fail)
 all_goals (try (exfalso;omega))
 all_goals
  refine Nj (enc:=vaC) (xs:=([vg]++[f.sh.ref,f.sh.hg,f.sh.ag,f.sh.hp,f.sh.ap].map Dz++[vp,vq,vr,vt])) Cj rfl QK ?_
  intro A7 c7 h7 hle7 e7 hsl
  injection e7 with e71 _ e73
  subst e71;subst e73
  refine Bw rfl rfl rfl QM rfl rfl ⟨Ep A3 10 c3,rfl,Fp (hsl) (Ch.cons (hvg.le QAa) (Ch.cons (Av (i2 _ QAn)) (Ch.cons (Av (i2 _ QAn)) (Ch.cons (Av (i2 _ QAn)) (Ch.cons (Av (i2 _ QAn)) (Ch.cons (Av (i2 _ QAn)) (Ch.cons (hvp.le QAa) (Ch.cons (hvq.le QAa) (Ch.cons (hvr.le QAa) (Ch.cons (hvt.le QAa) (Ch.nil))))))))))) QAd⟩
theorem what4_c (h:Ro)(s:Fsh)(f:Fct)(hf:FAt h s f)(hs:Coa f)(e:f.kind=4)(i1:Nh f.ru.g)(i2:∀ x∈[f.ru.case,f.ru.inst,f.ru.kind],I64 x)(i3:∀ x∈[f.ru.club,f.ru.player,f.ru.season,f.ru.comp,f.ru.points,f.ru.amount,f.ru.hg,f.ru.ag,f.ru.lo,f.ru.hi],I64 x):Res prog 173 #[Br s f] h (VR 5 (Oe (Bl f))):=by
 have hxs:Bl f=[Cm f.ru.case,Cm f.ru.inst,Cm f.ru.kind,Dt (Jh f.ru.g),Cm f.ru.club,Cm f.ru.player,Cm f.ru.season,Cm f.ru.comp,Cm f.ru.points,Cm f.ru.amount,Cm f.ru.hg,Cm f.ru.ag,Cm f.ru.lo,Cm f.ru.hi]:=by unfold Bl;rw [e];rfl
 rw [hxs]
 refine QXR Proofs.Tryz.func173 fun w0 X0=>?_
 obtain ⟨n1,n2,n3,n4,n5,n6⟩:=hf.small1 hs
 repeat' (first|refine QFs ?_|(refine QB ?_;intro b)|(refine QG ?_;first|(refine QD4 ?_;intro bi hi hlei hcs1)|(apply Be;exact J;exact Mx;exact intsR_c _ _ 3 3 [f.ru.case,f.ru.inst,f.ru.kind] (Do (hcs1.le QAa)) QAd;exact QT;rintro wn En hn hlen ⟨An,cn,rfl,rfl⟩))|(apply Ad (n:=16) [0,1,2,3,4,5,6,7,8] [(0,0),(1,0),(2,0),(3,0),(4,1),(5,1),(6,1),(7,0),(8,1)];kernel_rfl)|(apply Ad (n:=17) [0,1,2,3,4,5,6,7,8,9,10,11,12,13,14,15,16,17,18,19,20,21,22,23,24,25,26,27,28,29] [(0,0),(1,0),(2,0),(3,0),(4,0),(5,0),(6,0),(7,0),(8,0),(9,0),(10,0),(11,0),(12,0),(13,0),(14,0),(15,0),(16,0),(17,0),(18,0),(19,0),(20,0),(21,0),(22,0),(23,0),(24,1),(25,1),(26,0),(27,1),(28,0),(29,1)];kernel_rfl)|(apply Ao;exact J;kernel_rfl;(iterate 3 exact J);(first|(apply Ag;exact J;exact has224;exact Bna (d:=2) _ f.ru.g i1;rintro wg hg hleg ⟨vg,rfl,hvg⟩;refine ⟨hleg,QN,?_⟩)|(refine QCq ?_;intro bj hj hlej hcs2;refine ⟨hlej,QN,?_⟩)|(apply Ag;exact J;exact Mx;exact Qs _ _ 10 10 [f.ru.club,f.ru.player,f.ru.season,f.ru.comp,f.ru.points,f.ru.amount,f.ru.hg,f.ru.ag,f.ru.lo,f.ru.hi] (Do (hcs2.le QAa)) QAd;rintro wm hm hlem ⟨Am,cm,rfl,hsm⟩;refine ⟨hlem,QN,?_⟩)|(refine QEl ?_;intro bz hz hlebz hs4;refine ⟨hlebz,QN,?_⟩)|(refine QBs ?_;intro A2 c2;refine ⟨Le.refl _,QN,?_⟩)|(refine QA9 ?_;intro A3 c3;refine ⟨Le.refl _,QN,?_⟩)))|(refine QH ?_ ?_<;>intro hc<;>try omega)|fail)
 all_goals (try (exfalso;omega))
 all_goals
  refine Nj (enc:=vaC) (xs:=([f.ru.case,f.ru.inst,f.ru.kind].map Dz++[vg]++[f.ru.club,f.ru.player,f.ru.season,f.ru.comp,f.ru.points,f.ru.amount,f.ru.hg,f.ru.ag,f.ru.lo,f.ru.hi].map Dz)) Cj rfl QK ?_
  intro A7 c7 h7 hle7 e7 hsl
  injection e7 with e71 _ e73
  subst e71;subst e73
  refine Bw rfl rfl rfl QM rfl rfl ⟨Ep A3 14 c3,rfl,Fp (hsl) (Ch.cons (Av (i2 _ QAn)) (Ch.cons (Av (i2 _ QAn)) (Ch.cons (Av (i2 _ QAn)) (Ch.cons (hvg.le QAa) (Ch.cons (Av (i3 _ QAn)) (Ch.cons (Av (i3 _ QAn)) (Ch.cons (Av (i3 _ QAn)) (Ch.cons (Av (i3 _ QAn)) (Ch.cons (Av (i3 _ QAn)) (Ch.cons (Av (i3 _ QAn)) (Ch.cons (Av (i3 _ QAn)) (Ch.cons (Av (i3 _ QAn)) (Ch.cons (Av (i3 _ QAn)) (Ch.cons (Av (i3 _ QAn)) (Ch.nil))))))))))))))) QAd⟩
theorem what5_c (h:Ro)(s:Fsh)(f:Fct)(hf:FAt h s f)(hs:Coa f)(e:f.kind=5)(i1:∀ x∈[f.aCase,f.aInst,if f.aSusp then 1 else 0],I64 x):Res prog 173 #[Br s f] h (VR 5 (Oe (Bl f))):=by
 have hxs:Bl f=[Cm f.aCase,Cm f.aInst,Cm (if f.aSusp then 1 else 0)]:=by unfold Bl;rw [e];rfl
 rw [hxs]
 refine QXR Proofs.Tryz.func173 fun w0 X0=>?_
 obtain ⟨n1,n2,n3,n4,n5,n6⟩:=hf.small1 hs
 repeat' (first|refine QFs ?_|(refine QB ?_;intro b)|(apply Ad (n:=20) [0,1,2,3,4,5,6,7,8,9,10,11,12] [(0,0),(1,0),(2,0),(3,0),(4,0),(5,0),(6,0),(7,0),(8,0),(9,1),(10,1),(11,1),(12,1)];kernel_rfl)|(apply Ao;exact J;kernel_rfl;(iterate 3 exact J);(first|(refine QDt ?_;intro bi hi hlei hcs1;refine ⟨hlei,QN,?_⟩)|(apply Ag;exact J;exact Mx;exact Qs _ _ 3 3 [f.aCase,f.aInst,if f.aSusp then 1 else 0] (Do (hcs1.le QAa)) QAd;rintro wn hn hlen ⟨An,cn,rfl,hsn⟩;refine ⟨hlen,QN,?_⟩)|(apply Aa;exact J;exact has226;exact H7a _ _;refine ⟨Le.refl _,QN,?_⟩)))|(refine QH ?_ ?_<;>intro hc<;>try omega)|fail)
 all_goals (try (exfalso;omega))
 all_goals
  refine Bw rfl rfl rfl QM rfl rfl ⟨Ep An 3 cn,rfl,Fp (hsn) (Ch.cons (Av (i1 _ QAn)) (Ch.cons (Av (i1 _ QAn)) (Ch.cons (Av (i1 _ QAn)) (Ch.nil)))) QAd⟩
theorem what6_c (h:Ro)(s:Fsh)(f:Fct)(hf:FAt h s f)(hs:Coa f)(e:f.kind=6)(i1:I64 f.mP)(i2:I64 f.mTo):Res prog 173 #[Br s f] h (VR 5 (Oe (Bl f))):=by
 have hxs:Bl f=[Cm f.mP,Cm f.mTo]:=by unfold Bl;rw [e];rfl
 rw [hxs]
 refine QXR Proofs.Tryz.func173 fun w0 X0=>?_
 obtain ⟨n1,n2,n3,n4,n5,n6⟩:=hf.small1 hs
 repeat' (first|refine QFs ?_|(refine QB ?_;intro b)|(refine QG ?_;first|(apply Bb (e:=3) (cs:=[f.mP,f.mTo].map fun i=>.int .i64 i);(iterate 3 exact J);exact List.cons_ne_nil _ _;(iterate 4 exact J);intro bi hi hlei hcs1)|(apply Ag;exact J;exact Mx;exact Qs _ _ 2 2 [f.mP,f.mTo] (Do (hcs1.le QAa)) QAd;rintro wn hn hlen ⟨An,cn,rfl,hsn⟩))|(refine QH ?_ ?_<;>intro hc<;>try omega)|fail)
 all_goals (try (exfalso;omega))
 all_goals
  refine Bw rfl rfl rfl QM rfl rfl ⟨Ep An 2 cn,rfl,Fp (hsn) (Ch.cons (Av i1) (Ch.cons (Av i2) (Ch.nil))) QAd⟩
theorem what7_c (h:Ro)(s:Fsh)(f:Fct)(hf:FAt h s f)(hs:Coa f)(e:f.kind=7)(i1:I64 f.lS)(i2:I64 f.lC)(i3:∀ x∈f.lO,I64 x):Res prog 173 #[Br s f] h (VR 5 (Oe (Bl f))):=by
 have hxs:Bl f=[Cm f.lS,Cm f.lC,Dt f.lO]:=by unfold Bl;rw [e];rfl
 rw [hxs]
 refine QXR Proofs.Tryz.func173 fun w0 X0=>?_
 obtain ⟨n1,n2,n3,n4,n5,n6⟩:=hf.small1 hs
 repeat' (first|refine QFs ?_|(refine QB ?_;intro b)|(apply Ad (n:=24) [0,1,2,3,4,5,6,7,8,9,10,11,12,13,14] [(0,0),(1,0),(2,0),(4,0),(5,0),(6,0),(8,0),(9,0),(10,0),(3,1),(7,1),(11,1),(12,1),(13,1),(14,1)];kernel_rfl)|(apply Ao;exact J;kernel_rfl;(iterate 3 exact J);(first|(apply Ag;exact J;exact Mx;exact Nu (d:=2) _ _ _ _ f.lO (hf.lo.le QAa) QAd i3;rintro wa ha hlea ⟨va,rfl,hva⟩;refine ⟨hlea,QN,?_⟩)|(refine QDw ?_;intro bz hz hlebz hsl;refine ⟨hlebz,QN,?_⟩)|(apply Aa;exact J;exact Zg;exact Sk _ _;refine ⟨Le.refl _,QN,?_⟩)|(apply Aa;exact J;exact Eba;exact Qr _ _ _ _;refine ⟨Le.refl _,QN,?_⟩)))|(refine QH ?_ ?_<;>intro hc<;>try omega)|fail)
 all_goals (try (exfalso;omega))
 all_goals
  refine Bw rfl rfl rfl QM rfl rfl ⟨Ep (some ⟨bz,0,none⟩) 3 3,rfl,Fp (hsl) (Ch.cons (Av i1) (Ch.cons (Av i2) (Ch.cons (hva.le QAa) (Ch.nil)))) QAd⟩
theorem void_sl {h:Ro}{bx:Nat}{s:Fsh}{f:Fct}(hb:Ab h ⟨bx,0,none⟩ (Bz (Br s f)))(hv:f.void.length=32):Ar Ev 1 h (some ⟨bx,50,none⟩) 32 f.void :=
 Ar.of_flat (fun _=>rfl) hv (by
  have hb1:Ab h ⟨bx,0,none⟩ (Df s f):=hb
  have h8:=hb1.shift 50
  rw [Ft,Nat.zero_add] at h8
  rw [← H4a f.void hv];exact h8)
theorem what8_c (h:Ro)(s:Fsh)(f:Fct)(hf:FAt h s f)(hs:Coa f)(e:f.kind=8)  : Res prog 173 #[Br s f] h (VR 5 (Oe (Bl f))):=by
 have hxs:Bl f=[Dm f.void]:=by unfold Bl;rw [e];rfl
 rw [hxs]
 refine QXR Proofs.Tryz.func173 fun w0 X0=>?_
 obtain ⟨n1,n2,n3,n4,n5,n6⟩:=hf.small1 hs
 repeat' (first|refine QC ?_|(have hq9:f.kind≠7:=QAe;refine Cfa (e:=57) (cs:=Bz (Br s f)) QK ?_;intro h7 hle7 hq7;have hvs:=void_sl hq7 hf.void)|refine QDs ?_|(apply Af;exact J;exact J;(first|(apply Xi;(iterate 4 exact J))|exact QDi);exact QA)|(refine QB ?_;intro b)|(refine QG ?_;first|(refine QD6 ?_;intro bz hz hlebz hsl)|(apply Aa;exact J;exact has223;exact H9a _ _)|(apply Aa;exact J;exact Eba;exact Qr _ _ _ _))|(refine QH ?_ ?_<;>intro hc<;>try omega)|fail)
 all_goals (try (exfalso;omega))
 all_goals
  refine Bw rfl rfl rfl QM rfl rfl ⟨Ep (some ⟨bz,0,none⟩) 1 1,rfl,Fp (hsl) (Ch.cons (Qa) (Ch.nil)) QAd⟩
theorem what_c (h:Ro)(s:Fsh)(f:Fct)(hf:FAt h s f)(hs:FSm f)(hok:Bm f):Res prog 173 #[Br s f] h (VR 5 (Oe (Bl f))):=by
 have hs:=hok.sm1
 have hco:=hok.2.2.1
 have hk:1≤f.kind∧f.kind≤8:=by
  refine Classical.byContradiction fun hk=>(Jz f hk).2 hco
 have mx:∀ {n m:Int},Bel n m→m≤1000000→I64 n:=fun h1 h2=>Ui h1 QAd
 have:f.kind=1∨f.kind=2∨f.kind=3∨f.kind=4∨f.kind=5∨f.kind=6∨f.kind=7∨f.kind=8:=by omega
 have hfz:∀ {n:Int},n=0→I64 n:=fun h=>by subst h;unfold I64;omega
 rcases this with e|e|e|e|e|e|e|e
 · rw [Cw,if_pos e] at hco
   exact what1_c h s f hf hs e (mx hco.1 QAd) (mx hco.2.1 QAd) (fun x hx=>mx (hco.2.2.1.2.2 x hx) QAd)
 · rw [Cw,if_neg QAd,if_pos e] at hco
   exact what2_c h s f hf hs e (Jg hco.1) (mx hco.2 QAd)
 · rw [Cw,if_neg QAd,if_neg QAd,if_pos e] at hco
   obtain ⟨g1,g2,g3,g4,g5,g6,g7,g8,g9,g10⟩:=hco
   refine what3_c h s f hf hs e (Jg g1) ?_ (fun x hx=>mx (g6.2.1 x hx) QAd) (fun x hx=>mx (g7.2.1 x hx) QAd) (fun c hc=>mx (g6.2.1 _ (g8.2 c hc)) QAd) (fun c hc=>mx (g7.2.1 _ (g9.2 c hc)) QAd)
   intro x hx
   have hp:I64 f.sh.hp∧I64 f.sh.ap:=by
    rcases g5 with ⟨q1,q2⟩|⟨_,q1,q2,_⟩
    · exact ⟨hfz q1,hfz q2⟩
    · exact ⟨mx q1 QAd,mx q2 QAd⟩
   simp only [List.mem_cons,List.not_mem_nil,or_false] at hx
   rcases hx with rfl|rfl|rfl|rfl|rfl
   · exact mx g2 QAd
   · exact mx g3 QAd
   · exact mx g4 QAd
   · exact hp.1
   · exact hp.2
 · rw [Cw,if_neg QAd,if_neg QAd,if_neg QAd,if_pos e] at hco
   obtain ⟨r1,r2,r3,r4,r5,r6⟩:=hco
   have hI:Nh f.ru.g∧∀ x∈[f.ru.kind,f.ru.club,f.ru.player,f.ru.season,f.ru.comp,f.ru.points,f.ru.amount,f.ru.hg,f.ru.ag,f.ru.lo,f.ru.hi],I64 x:=by
    rw [← r6]
    have z:I64 0:=by unfold I64;omega
    unfold Ej at r5
    unfold Il
    unfold Ij Bel at r5
    by_cases k1:f.ru.kind=1
    · rw [if_pos k1] at r5 ⊢;refine ⟨Jg r5.1,fun x hx => ?_⟩
      have:=r5.1;unfold Dh Bel at this
      simp [Hu] at hx;unfold I64;omega
    rw [if_neg k1] at r5 ⊢
    by_cases k1:f.ru.kind=2
    · rw [if_pos k1] at r5 ⊢;refine ⟨Jg r5,fun x hx => ?_⟩
      simp [Hu] at hx;unfold I64;omega
    rw [if_neg k1] at r5 ⊢
    by_cases k1:f.ru.kind=3
    · rw [if_pos k1] at r5 ⊢;refine ⟨Jg r5.1,fun x hx => ?_⟩
      simp [Hu] at hx;unfold I64;omega
    rw [if_neg k1] at r5 ⊢
    by_cases k1:f.ru.kind=4
    · rw [if_pos k1] at r5 ⊢;refine ⟨Gi,fun x hx => ?_⟩
      simp [Hu] at hx;unfold I64;omega
    rw [if_neg k1] at r5 ⊢
    by_cases k1:f.ru.kind=5
    · rw [if_pos k1] at r5 ⊢;refine ⟨Gi,fun x hx => ?_⟩
      simp [Hu] at hx;unfold I64;omega
    rw [if_neg k1] at r5 ⊢
    by_cases k1:f.ru.kind=6
    · rw [if_pos k1] at r5 ⊢;refine ⟨Gi,fun x hx => ?_⟩
      simp [Hu] at hx;unfold I64;omega
    rw [if_neg k1] at r5 ⊢
    by_cases k1:f.ru.kind=7
    · rw [if_pos k1] at r5 ⊢;refine ⟨Gi,fun x hx => ?_⟩
      simp [Hu] at hx;unfold I64;omega
    rw [if_neg k1] at r5 ⊢
    refine ⟨Gi,fun x hx => ?_⟩
    simp [Hu] at hx;unfold I64;omega
   refine what4_c h s f hf hs e hI.1 (fun x hx => ?_) (fun x hx=>hI.2 x (List.mem_cons_of_mem _ hx))
   simp only [List.mem_cons,List.not_mem_nil,or_false] at hx
   rcases hx with rfl|rfl|rfl
   · unfold I64;omega
   · unfold I64;omega
   · exact hI.2 _ QAn
 · rw [Cw,if_neg QAd,if_neg QAd,if_neg QAd,if_neg QAd,if_pos e] at hco
   refine what5_c h s f hf hs e fun x hx => ?_
   simp only [List.mem_cons,List.not_mem_nil,or_false] at hx
   rcases hx with rfl|rfl|rfl
   · unfold I64;omega
   · unfold I64;omega
   · unfold I64;split <;> omega
 · rw [Cw,if_neg QAd,if_neg QAd,if_neg QAd,if_neg QAd,if_neg QAd,if_pos e] at hco
   exact what6_c h s f hf hs e (mx hco.1 QAd) QDd
 · rw [Cw,if_neg QAd,if_neg QAd,if_neg QAd,if_neg QAd,if_neg QAd,if_neg QAd,if_pos e] at hco
   exact what7_c h s f hf hs e (mx hco.1 QAd) (mx hco.2.1 QAd) (fun x hx=>mx (hco.2.2.1.2.2 x hx) QAd)
 · exact what8_c h s f hf hs e
end Go.Hw
namespace Go.Hw
open Go
attribute [local irreducible] GO GOl GDp Val Fn Res Ab Du Blk Bd Cd Bf Has
open Go.Proofs.Tryz (prog)
section
variable {C:Ctx} {ds:List Deferred} {l:Sl} {Es:List Asn} {h:Ro} {K:List Item}
theorem Cia {f:Bool}{e:TypeId}{v:Value}{n:Nat}{l8:List UInt8}{Es':List Asn}(hn:l8.length=n)(hT:Kc Es (Bf f e v n (l8.flatMap Ev)) Es')
  (g:∀ A c h',Le h h'→v=.slice A n c→n≤c→Ar Ev 1 h' A n l8→GO C ds l Es' h' K):GO C ds l Es h K :=
 Lh hT fun D h' hle hA=>by
  obtain ⟨A,c,e1,e2,e3⟩:=E8a hn hA
  exact g A c h' hle e1 e2 e3
end
theorem dec_len:∀ (k u:Nat),u<10 ^ (k+1)→(Lib.decDigits u).length≤k+1
 | 0,u,h=>by
   rw [Lib.decDigits,dif_pos (by simpa using h)];simp
 | k+1,u,h=>by
   rw [Lib.decDigits]
   split
   · simp
   · rw [List.length_append]
     have:=dec_len k (u / 10) (by rw [Nat.pow_succ] at h;omega)
     simp;omega
theorem Na {u:Nat}(h:u≤18446744073709551615):(Lib.decDigits u).length≤20:=dec_len 19 u QAd
def digs:List UInt8:=[48,49,50,51,52,53,54,55,56,57]
theorem digs_at:∀ d,d<10→(digs.take (d+1)).drop d=[UInt8.ofNat (48+d)]:=by decide
theorem Jla:∀ (u:Nat),u≤18446744073709551615→∀ (h:Ro),Val prog 327 #[.int .u64 (u:Int)] h (.string (str (Lib.decDigits u))):=by
 intro u
 induction u using Nat.strongRecOn with
 | _ u IH =>
   intro hu h
   refine QXV Proofs.Tryz.func327 fun w0 X0=>?_
   have hd:=digs_at (u % 10) QAd
   by_cases h10:u<10
   · have e:Lib.decDigits u=(digs.take (u % 10+1)).drop (u % 10):=by rw [hd,Lib.decDigits,dif_pos h10,Nat.mod_eq_of_lt h10]
     rw [e]
     repeat' (first|refine QC ?_|(apply Fma;(iterate 5 exact J))|(apply Cga;(iterate 3 exact J);omega;exact J;exact J)|refine QD ?_|(apply Af;exact J;exact J;(first|exact QEn);exact QA)|(refine QH ?_ ?_<;>intro hc<;>try omega)|(apply Ac;(iterate 3 exact J)))
     all_goals first|rfl|(exfalso;omega)
   · have ih:=fun h=>IH (u / 10) QAd QAd h
     have hl:=Na (u:=u / 10) QAd
     have e:Lib.decDigits u=Lib.decDigits (u / 10)++(digs.take (u % 10+1)).drop (u % 10):=by
      rw [hd];conv=>lhs;rw [Lib.decDigits,dif_neg h10]
     have hl2:((digs.take (u % 10+1)).drop (u % 10)).length=1:=by rw [hd];rfl
     rw [e]
     clear e hd
     repeat' (first|refine QC ?_|(apply Fma;(iterate 5 exact J))|(apply GOl_quo10;(iterate 3 exact J);exact hu;exact J;exact J)|(apply Cga;(iterate 3 exact J);omega;exact J;exact J)|refine QD ?_|(apply Af;exact J;exact J;(first|exact QEn|(apply Ng;(iterate 3 exact J);omega));exact QA)|(refine QG ?_;first|(apply Aa;exact J;exact I9a;exact ih _))|(refine QH ?_ ?_<;>intro hc<;>try omega)|(apply Ac;(iterate 3 exact J)))
     all_goals first|rfl|(exfalso;omega)
theorem Era (n:Int)(h1:0≤n)(h2:n≤18446744073709551615)(h:Ro):Val prog 327 #[.int .u64 n] h (.string (str (Lib.decDigits n.toNat))):=by
 have:=Jla n.toNat QAd h
 rwa [Int.toNat_of_nonneg h1] at this
theorem I1a {n:Int}(h:n<0):Lib.itoa n=45::Lib.decDigits (0-(n+1)+1).toNat:=by
 unfold Lib.itoa
 rw [if_pos h,show n.natAbs=(0-(n+1)+1).toNat by omega]
theorem Gma {n:Int}(h:0≤n):Lib.itoa n=Lib.decDigits n.toNat:=by
 unfold Lib.itoa
 rw [if_neg QAd]
theorem decimal_c (n:Int)(hn:I64 n)(h:Ro):Val prog 288 #[.int .i64 n] h (.string (str (Lib.itoa n))):=by
 refine QXV Proofs.Tryz.func288 fun w0 X0=>?_
 unfold I64 at hn
 by_cases h0:n<0
 · have hl:=Na (u:=(0-(n+1)+1).toNat) QAd
   rw [I1a h0]
   repeat' (first|refine QC ?_|(apply GOl_neg;exact J;omega;exact J;exact J)|(apply Xl;(iterate 3 exact J);omega;exact J;exact J)|(apply Cga;(iterate 3 exact J);omega;exact J;exact J)|refine QD ?_|(apply Af;exact J;exact J;(first|(apply Ng (a:=[45]);(iterate 3 exact J);(simp only [List.length_cons,List.length_nil];omega)));exact QA)|(refine QG ?_;first|(apply Aa;exact J;exact I9a;exact Era (0-(n+1)+1) QAd QAd _))|(refine QH ?_ ?_<;>intro hc<;>try omega)|(apply Ac;(iterate 3 exact J)))
   all_goals first|rfl|(exfalso;omega)
 · rw [Gma QAd]
   repeat' (first|refine QC ?_|(apply Xl;(iterate 3 exact J);omega;exact J;exact J)|refine QD ?_|(refine QG ?_;first|(apply Aa;exact J;exact I9a;exact Era n QAd QAd _))|(refine QH ?_ ?_<;>intro hc<;>try omega)|(apply Ac;(iterate 3 exact J)))
   all_goals first|rfl|(exfalso;omega)
theorem bText_dec (s:List UInt8):Dm s=Lib.decDigits s.length++[58]++s:=by
 unfold Dm
 rw [Gma QAd]
 simp
theorem itoa_len {n:Int}(hn:I64 n):(Lib.itoa n).length≤21:=by
 unfold I64 at hn
 by_cases h0:n<0
 · rw [I1a h0,List.length_cons]
   have:=Na (u:=(0-(n+1)+1).toNat) QAd
   omega
 · rw [Gma QAd]
   have:=Na (u:=n.toNat) QAd
   omega
def BOut (bs:List UInt8) (u:Value) (h:Ro):Prop:=∃ A c,u=.slice A bs.length c∧Ar Ev 1 h A bs.length bs
theorem textE_c (h:Ro)(s:List UInt8)(hs:s.length≤900000000):Res prog 289 #[.string (str s)] h (BOut (Dm s)):=by
 refine QXR Proofs.Tryz.func289 fun w0 X0=>?_
 have hl:=Na (u:=s.length) QAd
 have hb:=bText_dec s
 have hsz:(str s).size=s.length:=rfl
 have hcl:(Lib.decDigits s.length++[58]).length≤21:=by rw [List.length_append,List.length_singleton];omega
 repeat' (first|refine QC ?_|(apply Xl;(iterate 3 exact J);omega;exact J;exact J)|refine QD ?_|(apply Af;exact J;exact J;(first|(apply Ng (b:=[58]);(iterate 3 exact J);(simp only [List.length_cons,List.length_nil];omega)));exact QA)|(refine QG ?_;first|(apply Aa;exact J;exact I9a;exact Jla s.length QAd _)|(apply Aja (s:=Lib.decDigits s.length++[58]);(iterate 6 exact J);omega;intro b1 c1)|(apply Hma (n:=(Lib.decDigits s.length++[58]).length) (xs:=(Lib.decDigits s.length++[58]).flatMap Ev) (s:=s);(iterate 10 exact J);intro v1;exact QR;omega;intro A2 c2))|fail)
 rw [← List.flatMap_append]
 refine Cia (f:=true) (l8:=Lib.decDigits s.length++[58]++s) (n:=(Lib.decDigits s.length++[58]).length+s.length) (e:=5) (by rw [List.length_append]) QK ?_
 intro A9 c9 h9 hle9 e9 hnc hs9
 injection e9 with e91 _ e93
 subst e91;subst e93
 refine Ay rfl rfl rfl ?_
 rw [hb]
 have e8:(Lib.decDigits s.length++[58]++s).length=(Lib.decDigits s.length++[58]).length+s.length:=List.length_append
 exact ⟨A2,c2,by rw [e8],by rw [e8];exact hs9⟩
end Go.Hw
namespace Go.Hw
open Go
attribute [local irreducible] GO GOl GDp Val Fn Res Ab Du Blk Bd Cd Bf Has
open Go.Proofs.Tryz (prog)
theorem incrS_c (h:Ro)(A:Option Addr)(n c:Nat)(ks:List (List UInt8))(hK:Ar G0a 1 h A n ks)(hp:ks.Pairwise fun a b=>Op.bytesLess a b=true)(hn:n≤1000000):Val prog 326 #[.slice A n c] h (.bool true):=by
 refine QXV Proofs.Tryz.func326 fun w0 X0=>?_
 have hlen:=hK.len
 repeat' (first|refine QF ?_|fail)
 refine Ai (X:=Nat) (fun k=>1≤k∧(k≤n∨k=1)) (fun k=>n+1-k) (fun k=>[(3,.int .i64 k),(0,.slice A n c)]) (fun _=>[]) (fun _=>h) 1 ⟨by omega,by omega⟩ QS QT rfl ?_
 rintro k ⟨hk1,hk2⟩ ih
 by_cases hkn2:k<n
 · have a1:=hK.addrD hkn2
   have c1:=hK.cellsD [] hkn2
   have c2:=hK.cellsD [] (show k-1<n by omega)
   have hls:=less_at hp hk1 QAd
   generalize ks.getD k []=k1 at *
   generalize ks.getD (k-1) []=k0 at *
   have hkq:k-1<n:=by omega
   have hi1:((k:Int)-1)=((k-1:Nat):Int):=by omega
   repeat' (first|refine QF ?_|(apply Ad (n:=4) [0,1,2,3,4,5,6,7,8,9] [(0,0),(1,0),(2,0),(3,0),(4,0),(5,0),(6,0),(7,0),(8,0),(9,0)];kernel_rfl)|(apply Bk;exact J;kernel_rfl;exact J;exact J;(first|exact QFt|(apply Cg (j:=k-1);(iterate 5 exact J);exact a1;exact hi1;exact hkq)|exact QAf|exact QA2);exact QA)|(refine QH ?_ ?_<;>intro hc<;>try omega)|fail)
   all_goals first
    | (exfalso;rw [Dr,Dr,hls] at *;simp at *;done)
    | (have h3:=ih (k+1) ⟨by omega,by omega⟩ QAd
       refine Aj QS QT (h3))
 · clear ih
   repeat' (first|refine QF ?_|(refine QH ?_ ?_<;>intro hc<;>try omega)|(apply Ac;(iterate 3 exact J)))
   all_goals rfl
def FrOk (d:Nat):Prop:=∀ (h:Ro) (v:Va) (bs:List UInt8),Jq d h v bs→Res prog 286 #[vaV v] h fun u _=>u=.bool true
theorem Lja (h:Ro)(m:Int):Res prog 286 #[vaV ⟨1,m,[],Gt,Gt⟩] h fun u _=>u=.bool true:=by
 refine QXR Proofs.Tryz.func286 fun w0 X0=>?_
 have hs:=C0a
 repeat' (first|refine QF ?_|(refine QB ?_;intro b)|(refine QH ?_ ?_<;>intro hc<;>try omega)|refine QJ ?_|(refine QI ?_ ?_<;>intro hc<;>try omega)|fail)
 all_goals first
  | (exfalso;simp_all [Gt];done)
  | (exact Ay rfl rfl rfl (by simp [Fe,Gt]))
theorem Lia (h:Ro)(s:List UInt8):Res prog 286 #[vaV ⟨2,0,s,Gt,Gt⟩] h fun u _=>u=.bool true:=by
 refine QXR Proofs.Tryz.func286 fun w0 X0=>?_
 repeat' (first|refine QF ?_|(refine QB ?_;intro b)|(refine QH ?_ ?_<;>intro hc<;>try omega)|refine QJ ?_|(refine QI ?_ ?_<;>intro hc<;>try omega)|fail)
 all_goals first
  | (exfalso;simp_all [Gt];done)
  | (exact Ay rfl rfl rfl (by simp [Fe,Gt]))
theorem Zh (d:Nat)(ih0:FrOk d)(h:Ro)(k:Int)(hk:k=3∨k=4)(L K:Sli)(vs:List Va)(bss:List (List UInt8))(hL:Ar vaC 5 h L.A L.n vs)(hz:Ch (Jq d h) vs bss)(hn:L.n≤1000000)(ks:List (List UInt8))(hK:Ar G0a 1 h K.A K.n ks)(hp:ks.Pairwise fun a b=>Op.bytesLess a b=true)(hkn:K.n≤1000000)(h3:k=3→K.n=0)(h4:k=4→K.n=L.n) :
  Res prog 286 #[vaV ⟨k,0,[],L,K⟩] h fun u _=>u=.bool true:=by
 refine QXR Proofs.Tryz.func286 fun w0 X0=>?_
 have hs:=C0a
 have hlen:=hL.len
 have hinc:=incrS_c h K.A K.n K.c ks hK hp hkn
 rcases hk with rfl|rfl
 · have h3:=h3 rfl
   clear h4
   repeat' (first|refine QF ?_|(refine QB ?_;intro b)|(refine QH ?_ ?_<;>intro hc<;>try omega)|fail)
   all_goals (try (exfalso;omega))
   generalize b=b0
   refine Ai (X:=Nat×Ro) (fun x=>x.1≤L.n∧Le h x.2) (fun x=>L.n-x.1) (fun x=>[(3,.int .i64 x.1),(1,.pointer (some ⟨b0,0,none⟩))]) (fun _=>[Blk b0 192 (vaC ⟨3,0,[],L,K⟩)]) (fun x=>x.2) (0,h) ⟨by dsimp only;omega,Le.refl _⟩ QS QT rfl ?_
   rintro ⟨j,hh⟩ ⟨hj,hle⟩ ih
   dsimp only at hj hle ih ⊢
   by_cases hjn:j<L.n
   · have a1:=hL.addrD hjn
     have cc:=(hL.cellsD va0 hjn).le hle
     have hv2:=(Th hz (show j<vs.length by omega)).le hle
     generalize vs.getD j va0=u at *
     generalize bss.getD j []=bb at *
     have hcon:=ih0 hh u bb hv2
     repeat' (first|refine QF ?_|(apply Af;exact J;exact J;(first|exact QCa|exact QAo);exact QA)|(refine QG ?_;first|(apply Ag;exact J;exact has286;exact hcon;rintro v1 h1 hle1 rfl))|(refine QH ?_ ?_<;>intro hc<;>try omega)|fail)
     have h3:=ih (j+1,h1) ⟨by dsimp only;omega,hle.trans hle1⟩ QAh
     dsimp only at h3
     refine Aj QS QT (h3)
   · clear ih
     repeat' (first|refine QF ?_|(refine QH ?_ ?_<;>intro hc<;>try omega)|refine QJ ?_|(refine QI ?_ ?_<;>intro hc<;>try omega)|fail)
     all_goals first
      | (exfalso;simp_all [Gt];done)
      | (exact Ay rfl rfl rfl (congrArg Value.bool C0a))
 · have h4:=h4 rfl
   clear h3
   repeat' (first|refine QF ?_|(refine QB ?_;intro b)|(refine QG ?_;first|(apply Aa;exact J;exact has326;exact hinc))|(refine QH ?_ ?_<;>intro hc<;>try omega)|refine QJ ?_|(refine QI ?_ ?_<;>intro hc<;>try omega)|fail)
   all_goals (try (exfalso;omega))
   generalize b=b0
   refine Ai (X:=Nat×Ro) (fun x=>x.1≤L.n∧Le h x.2) (fun x=>L.n-x.1) (fun x=>[(3,.int .i64 x.1),(1,.pointer (some ⟨b0,0,none⟩))]) (fun _=>[Blk b0 192 (vaC ⟨4,0,[],L,K⟩)]) (fun x=>x.2) (0,h) ⟨by dsimp only;omega,Le.refl _⟩ QS QT rfl ?_
   rintro ⟨j,hh⟩ ⟨hj,hle⟩ ih
   dsimp only at hj hle ih ⊢
   by_cases hjn:j<L.n
   · have a1:=hL.addrD hjn
     have cc:=(hL.cellsD va0 hjn).le hle
     have hv2:=(Th hz (show j<vs.length by omega)).le hle
     generalize vs.getD j va0=u at *
     generalize bss.getD j []=bb at *
     have hcon:=ih0 hh u bb hv2
     repeat' (first|refine QF ?_|(apply Af;exact J;exact J;(first|exact QCa|exact QAo);exact QA)|(refine QG ?_;first|(apply Ag;exact J;exact has286;exact hcon;rintro v1 h1 hle1 rfl))|(refine QH ?_ ?_<;>intro hc<;>try omega)|fail)
     have h3:=ih (j+1,h1) ⟨by dsimp only;omega,hle.trans hle1⟩ QAh
     dsimp only at h3
     refine Aj QS QT (h3)
   · clear ih
     repeat' (first|refine QF ?_|(refine QH ?_ ?_<;>intro hc<;>try omega)|refine QJ ?_|(refine QI ?_ ?_<;>intro hc<;>try omega)|fail)
     all_goals first
      | (exfalso;simp_all [Gt];done)
      | (exact Ay rfl rfl rfl (congrArg Value.bool C0a))
theorem fr_ok:∀ d,FrOk d
 | 0=>fun h v bs hv=>hv.elim
 | d+1=>fun h v bs hv=>by
   rcases hv with ⟨m,rfl,hm,rfl⟩|⟨s,rfl,rfl⟩|⟨L,vs,bss,rfl,e2,e3,e4,rfl⟩|⟨L,K,vs,bss,ks,rfl,e2,e3,e4,e5,e6,e7,rfl⟩
   · exact Lja h m
   · exact Lia h s
   · exact Zh d (fr_ok d) h 3 (.inl rfl) L Gt vs bss e2 e3 e4 [] Ar.nil .nil (by simp [Gt]) (fun _=>rfl) (fun e=>by cases e)
   · have h1:=e2.len
     have h2:=e4.len
     exact Zh d (fr_ok d) h 4 (.inr rfl) L K vs bss e2 e3 e7 ks e4 e6 QAd (fun e=>by cases e) (fun _=>by omega)
def DpOk (d:Nat):Prop:=∀ (h:Ro) (v:Va) (bs:List UInt8),Jq d h v bs→Res prog 287 #[vaV v] h fun u _=>∃ m:Int,u=.int .i64 m∧0≤m∧m≤d
theorem Zt (h:Ro)(v:Va)(hk:v.k=1∨v.k=2):Res prog 287 #[vaV v] h fun u _=>u=.int .i64 0:=by
 refine QXR Proofs.Tryz.func287 fun w0 X0=>?_
 obtain ⟨vk,vn,vs,vL,vK⟩:=v
 dsimp only at hk
 rcases hk with rfl|rfl
 · repeat' (first|refine QF ?_|(refine QB ?_;intro b)|(refine QH ?_ ?_<;>intro hc<;>try omega)|refine QJ ?_|(refine QI ?_ ?_<;>intro hc<;>try omega)|fail)
   all_goals first
    | (exfalso;simp at *;done)
    | (exact Ay rfl rfl rfl rfl)
 · repeat' (first|refine QF ?_|(refine QB ?_;intro b)|(refine QH ?_ ?_<;>intro hc<;>try omega)|refine QJ ?_|(refine QI ?_ ?_<;>intro hc<;>try omega)|fail)
   all_goals first
    | (exfalso;simp at *;done)
    | (exact Ay rfl rfl rfl rfl)
theorem Zs (d:Nat)(ih0:DpOk d)(h:Ro)(v:Va)(hk:v.k=3∨v.k=4)(vs:List Va)(bss:List (List UInt8))(hL:Ar vaC 5 h v.L.A v.L.n vs)(hz:Ch (Jq d h) vs bss)(hn:v.L.n≤1000000)(hd:d≤1000) :
  Res prog 287 #[vaV v] h fun u _=>∃ m:Int,u=.int .i64 m∧0≤m∧m≤(d+1:Nat):=by
 refine QXR Proofs.Tryz.func287 fun w0 X0=>?_
 have hlen:=hL.len
 obtain ⟨vk,vn,vss,vL,vK⟩:=v
 dsimp only at hk hL hn hlen
 have hk3:¬ vk=1∧¬ vk=2:=by omega
 repeat' (first|refine QF ?_|(refine QB ?_;intro b)|(refine QH ?_ ?_<;>intro hc<;>try omega)|refine QJ ?_|(refine QI ?_ ?_<;>intro hc<;>try omega)|fail)
 all_goals (try (exfalso;omega))
 all_goals (try (exfalso;simp [Fe,hk3] at *;done))
 generalize b=b0
 refine Ai (X:=Nat×Int×Ro) (fun x=>x.1≤vL.n∧0≤x.2.1∧x.2.1≤d∧Le h x.2.2) (fun x=>vL.n-x.1) (fun x=>[(4,.int .i64 x.1),(3,.int .i64 x.2.1),(1,.pointer (some ⟨b0,0,none⟩))]) (fun _=>[Blk b0 192 (vaC ⟨vk,vn,vss,vL,vK⟩)]) (fun x=>x.2.2) (0,0,h) ⟨by dsimp only;omega,by dsimp only;omega,by dsimp only;omega,Le.refl _⟩ QS QT rfl ?_
 rintro ⟨j,m0,hh⟩ ⟨hj,hm1,hm2,hle⟩ ih
 dsimp only at hj hm1 hm2 hle ih ⊢
 by_cases hjn:j<vL.n
 · have a1:=hL.addrD hjn
   have cc:=(hL.cellsD va0 hjn).le hle
   have hv2:=(Th hz (show j<vs.length by omega)).le hle
   generalize vs.getD j va0=u at *
   generalize bss.getD j []=bb at *
   have hcon:=ih0 hh u bb hv2
   repeat' (first|refine QF ?_|(apply Af;exact J;exact J;(first|exact QCa|exact QAo);exact QA)|(refine QG ?_;first|(apply Ag;exact J;exact has287;exact hcon;rintro v1 h1 hle1 ⟨m,rfl,q1,q2⟩))|(refine QH ?_ ?_<;>intro hc<;>try omega)|fail)
   have hmx:0≤max m0 m∧max m0 m≤d:=by rw [Int.max_def];split <;> omega
   have h3:=ih (j+1,max m0 m,h1) ⟨by dsimp only;omega,hmx.1,hmx.2,hle.trans hle1⟩ QAh
   dsimp only at h3
   refine Aj QS QT (h3)
 · clear ih
   repeat' (first|refine QF ?_|(refine QH ?_ ?_<;>intro hc<;>try omega)|fail)
   all_goals exact Ay rfl rfl rfl ⟨m0+1,rfl,by omega,by omega⟩
theorem dp_ok:∀ d,d≤1000→DpOk d
 | 0,_=>fun h v bs hv=>hv.elim
 | d+1,hd=>fun h v bs hv=>by
   rcases hv with ⟨m,rfl,hm,rfl⟩|⟨s,rfl,rfl⟩|⟨L,vs,bss,rfl,e2,e3,e4,rfl⟩|⟨L,K,vs,bss,ks,rfl,e2,e3,e4,e5,e6,e7,rfl⟩
   · exact (Zt h _ (.inl rfl)).mono fun u _ _ e=>⟨0,e,by omega,by omega⟩
   · exact (Zt h _ (.inr rfl)).mono fun u _ _ e=>⟨0,e,by omega,by omega⟩
   · exact Zs d (dp_ok d QAd) h _ (.inl rfl) vs bss e2 e3 e4 QAd
   · exact Zs d (dp_ok d QAd) h _ (.inr rfl) vs bss e2 e3 e7 QAd
theorem checkVR_c (h:Ro)(d:Nat)(hd:d≤16)(v:Va)(bs:List UInt8)(hv:Jq d h v bs):Res prog 227 #[vaV v] h fun u _=>u=.int .i64 0:=by
 refine QXR Proofs.Tryz.func227 fun w0 X0=>?_
 repeat' (first|refine QF ?_|(refine QB ?_;intro b)|(refine QG ?_;first|(apply Ag;exact J;exact has286;exact fr_ok d _ v bs (hv.le QAa);rintro v1 h1 hle1 rfl)|(apply Ag;exact J;exact has287;exact dp_ok d QAd _ v bs (hv.le QAa);rintro v2 h2 hle2 ⟨m,rfl,q1,q2⟩))|(refine QH ?_ ?_<;>intro hc<;>try omega)|fail)
 all_goals first
  | (exfalso;omega)
  | (exact Ay rfl rfl rfl rfl)
end Go.Hw
namespace Go.Hw
open Go
attribute [local irreducible] GO GOl GDp Val Fn Res Ab Du Blk Bd Cd Bf Has
open Go.Proofs.Tryz (prog)
def EnOk (d:Nat):Prop:=∀ (h:Ro) (v:Va) (bs:List UInt8),Jq d h v bs→bs.length≤500000000→Res prog 228 #[vaV v] h (BOut bs)
theorem encR1_c (h:Ro)(m:Int)(hm:I64 m):Res prog 228 #[vaV ⟨1,m,[],Gt,Gt⟩] h (BOut (Cm m)):=by
 refine QXR Proofs.Tryz.func228 fun w0 X0=>?_
 have hl:=itoa_len hm
 have hl2:([105]++Lib.itoa m).length≤22:=by rw [List.length_append,List.length_singleton];omega
 have hl3:([105]++Lib.itoa m++[101]).length≤23:=by rw [List.length_append,List.length_singleton];omega
 have e1:[105]++Lib.itoa m++[101]=Cm m:=rfl
 repeat' (first|refine QF ?_|(apply Af;exact J;exact J;(first|(apply Ng (a:=[105]) (b:=Lib.itoa m);(iterate 3 exact J);(simp only [List.length_cons,List.length_nil];omega))|(apply Ng (a:=[105]++Lib.itoa m) (b:=[101]);(iterate 3 exact J);(simp only [List.length_singleton];omega)));exact QA)|(refine QB ?_;intro b)|(refine QG ?_;first|(apply Aa;exact J;exact has288;exact decimal_c m hm _)|(apply Xg (s:=[105]++Lib.itoa m++[101]);(iterate 6 exact J);omega;intro A1 c1 h1 hle1 hs1))|(refine QH ?_ ?_<;>intro hc<;>try omega)|fail)
 all_goals first
  | (exfalso;simp at *;done)
  | (exact Ay rfl rfl rfl ⟨_,_,rfl,hs1⟩)
theorem encR2_c (h:Ro)(s:List UInt8)(hs:s.length≤900000000):Res prog 228 #[vaV ⟨2,0,s,Gt,Gt⟩] h (BOut (Dm s)):=by
 refine QXR Proofs.Tryz.func228 fun w0 X0=>?_
 repeat' (first|refine QF ?_|(refine QB ?_;intro b)|(refine QG ?_;first|(apply Ag;exact J;exact has289;exact textE_c _ s hs;rintro v1 h1 hle1 hv1))|(refine QH ?_ ?_<;>intro hc<;>try omega)|fail)
 all_goals first
  | (exfalso;simp at *;done)
  | (exact Ay rfl rfl rfl hv1)
theorem encR3_c (d:Nat)(ih0:EnOk d)(h:Ro)(L:Sli)(vs:List Va)(bss:List (List UInt8))(hL:Ar vaC 5 h L.A L.n vs)(hz:Ch (Jq d h) vs bss)(hn:L.n≤1000000)(hb:(Oe bss).length≤500000000)(hpos:∀ b∈bss,0<b.length) :
  Res prog 228 #[vaV ⟨3,0,[],L,Gt⟩] h (BOut (Oe bss)):=by
 refine QXR Proofs.Tryz.func228 fun w0 X0=>?_
 have hlen:=hL.len
 have hzl:=hz.1
 have hbl:(Oe bss).length=bss.flatten.length+2:=by unfold Oe;simp
 repeat' (first|refine QF ?_|(refine QB ?_;intro b)|(refine QG ?_;first|(refine QE7 ?_;intro bo)|(apply Sy (xs:=[(108:UInt8)].flatMap Ev);(iterate 5 exact J);exact QR))|(refine QH ?_ ?_<;>intro hc<;>try omega)|fail)
 all_goals (try (exfalso;simp at *;done))
 generalize b=b0
 refine Ai (X:=Nat×Option Addr×Nat×Ro) (fun x=>x.1≤L.n∧Le h x.2.2.2) (fun x=>L.n-x.1)
  (fun x=>[(4,.int .i64 x.1),(1,.pointer (some ⟨b0,0,none⟩)),(3,.slice x.2.1 (1+(bss.take x.1).flatten.length) x.2.2.1)])
  (fun x=>[Bf true 5 (.slice x.2.1 (1+(bss.take x.1).flatten.length) x.2.2.1) (1+(bss.take x.1).flatten.length) ((108::(bss.take x.1).flatten).flatMap Ev),Blk b0 192 (vaC ⟨3,0,[],L,Gt⟩)]) (fun x=>x.2.2.2) (0,some ⟨bo,0,none⟩,1,h) ⟨by dsimp only;omega,Le.refl _⟩ QS QT rfl ?_
 rintro ⟨k,A,c,hh⟩ ⟨hk,hle⟩ ih
 dsimp only at hk hle ih ⊢
 by_cases hkn:k<L.n
 · have a1:=hL.addrD hkn
   have cc:=(hL.cellsD va0 hkn).le hle
   have hv:=(Th hz (show k<vs.length by omega)).le hle
   have hfl:=Bpa (show k<bss.length by omega)
   have ht:=Cb [] rfl (show k<bss.length by omega)
   have hp0:=hpos _ (mem7 [] (show k<bss.length by omega))
   generalize vs.getD k va0=u at *
   generalize bss.getD k []=bb at *
   have hcon:=ih0 hh u bb hv QAd
   repeat' (first|refine QF ?_|(apply Af;exact J;exact J;(first|exact QAc|exact QAo);exact QA)|(refine QG ?_;first|(apply Ag;exact J;exact has228;exact hcon;rintro v2 h2 hle2 ⟨A2,c2,rfl,hs2⟩)|(apply Ih (f:=true) (n:=1+(bss.take k).flatten.length) (xs:=(108::(bss.take k).flatten).flatMap Ev) (s:=bb);(iterate 8 exact J);exact hs2.le QAa;exact hp0;intro v9;exact QR;omega;intro A3 c3))|(refine QH ?_ ?_<;>intro hc<;>try omega)|fail)
   all_goals (try (exfalso;simp at *;done))
   all_goals
    have h3:=ih (k+1,A3,c3,h2) ⟨by dsimp only;omega,by dsimp only;exact hle.trans hle2⟩ QAh
    dsimp only at h3
    rw [ht,List.flatten_append,List.flatten_singleton,List.length_append,← Nat.add_assoc,← List.cons_append,List.flatMap_append] at h3
    refine Aj QS QT (h3)
 · rw [List.take_of_length_le QAd]
   clear ih
   repeat' (first|refine QF ?_|(refine QG ?_;first|(refine QDx ?_;intro b3 h3 hle3 hs3)|(apply Ih (f:=true) (n:=1+bss.flatten.length) (xs:=(108::bss.flatten).flatMap Ev) (s:=[(101:UInt8)]);(iterate 8 exact J);exact hs3.le QAa;omega;intro v9;exact QR;omega;intro A3 c3))|(refine QH ?_ ?_<;>intro hc<;>try omega)|fail)
   have e8:(108::bss.flatten).flatMap Ev++[(101:UInt8)].flatMap Ev=(Oe bss).flatMap Ev:=by unfold Oe;simp only [List.flatMap_cons,List.flatMap_append,List.append_assoc,List.flatMap_nil,List.append_nil,List.nil_append]
   have e9:1+bss.flatten.length+1=(Oe bss).length:=by omega
   rw [e8,e9]
   refine Cia (f:=true) (l8:=Oe bss) (n:=(Oe bss).length) (e:=5) rfl QK ?_
   intro A9 c9 h9 hle9 eq9 hnc hs9
   injection eq9 with e91 _ e93
   subst e91;subst e93
   exact Ay rfl rfl rfl ⟨_,_,rfl,hs9⟩
theorem encR4_c (d:Nat)(ih0:EnOk d)(h:Ro)(L K:Sli)(vs:List Va)(bss ks:List (List UInt8))(hL:Ar vaC 5 h L.A L.n vs)(hz:Ch (Jq d h) vs bss)(hK:Ar G0a 1 h K.A K.n ks)(hkl:ks.length=vs.length)(hn:L.n≤1000000)(hb:(Mh ks bss).length≤500000000)(hpos:∀ b∈bss,0<b.length) :
  Res prog 228 #[vaV ⟨4,0,[],L,K⟩] h (BOut (Mh ks bss)):=by
 refine QXR Proofs.Tryz.func228 fun w0 X0=>?_
 have hlen:=hL.len
 have hlenK:=hK.len
 have hzl:=hz.1
 obtain ⟨tt,htt⟩:∃ tt,tt=(ks.zip bss).map (fun p=>Dm p.1++p.2):=⟨_,rfl⟩
 have hfm:(ks.zip bss).flatMap (fun p=>Dm p.1++p.2)=tt.flatten:=by rw [htt,List.flatMap_def]
 have htl:tt.length=vs.length:=by rw [htt,List.length_map,List.length_zip];omega
 have hbl:(Mh ks bss).length=tt.flatten.length+2:=by unfold Mh;rw [hfm];simp
 have hta:∀ k,k<vs.length→tt.getD k []=Dm (ks.getD k [])++bss.getD k []:=fun k hk=>by
  rw [htt];simp [List.getD,List.getElem?_eq_getElem (show k<ks.length by omega),List.getElem?_eq_getElem (show k<bss.length by omega),List.zip_eq_zipWith,List.getElem?_zipWith]
 repeat' (first|refine QF ?_|(refine QB ?_;intro b)|(refine QG ?_;first|(refine QE7 ?_;intro bo)|(apply Sy (b:=bp) (xs:=[(100:UInt8)].flatMap Ev);(iterate 5 exact J);exact QR)|(apply Eo (n:=1) (cs:=[(100:UInt8)].flatMap Ev);(iterate 3 exact J);exact List.cons_ne_nil _ _;(iterate 6 exact J);intro bp)|(apply Sy (b:=bo) (xs:=[(108:UInt8)].flatMap Ev);(iterate 5 exact J);exact QR))|(refine QH ?_ ?_<;>intro hc<;>try omega)|fail)
 all_goals (try (exfalso;simp at *;done))
 generalize b=b0
 refine Ai (X:=Nat×Option Addr×Nat×Ro) (fun x=>x.1≤L.n∧Le h x.2.2.2) (fun x=>L.n-x.1)
  (fun x=>[(4,.int .i64 x.1),(1,.pointer (some ⟨b0,0,none⟩)),(3,.slice x.2.1 (1+(tt.take x.1).flatten.length) x.2.2.1)])
  (fun x=>[Bf true 5 (.slice x.2.1 (1+(tt.take x.1).flatten.length) x.2.2.1) (1+(tt.take x.1).flatten.length) ((100::(tt.take x.1).flatten).flatMap Ev),Blk b0 192 (vaC ⟨4,0,[],L,K⟩)]) (fun x=>x.2.2.2) (0,some ⟨bp,0,none⟩,1,h) ⟨by dsimp only;omega,Le.refl _⟩ QS QT rfl ?_
 rintro ⟨k,A,c,hh⟩ ⟨hk,hle⟩ ih
 dsimp only at hk hle ih ⊢
 by_cases hkn:k<L.n
 · have a1:=hL.addrD hkn
   have cc:=(hL.cellsD va0 hkn).le hle
   have hkK:k<K.n:=by omega
   have a2:=hK.addrD hkK
   have c2k:=(hK.cellsD [] (show k<K.n by omega)).le hle
   have hv:=(Th hz (show k<vs.length by omega)).le hle
   have hfl:=Bpa (show k<tt.length by omega)
   have ht:=Cb [] rfl (show k<tt.length by omega)
   have hta1:=hta k QAd
   have hp0:=hpos _ (mem7 [] (show k<bss.length by omega))
   generalize vs.getD k va0=u at *
   generalize bss.getD k []=bb at *
   generalize ks.getD k []=kk at *
   have htal:(tt.getD k []).length=(Dm kk).length+bb.length:=by rw [hta1,List.length_append]
   have hkk:kk.length<(Dm kk).length:=by unfold Dm;simp;omega
   have hcon:=fun h' (hl:Le hh h')=>ih0 h' u bb (hv.le hl) QAd
   repeat' (first|refine QF ?_|(apply Af;exact J;exact J;(first|exact QAc|exact QFu|exact QAi|(apply Aw;exact J;exact Cy rfl (c2k.le QAa) rfl));exact QA)|(refine QG ?_;first|(apply Ag;exact J;exact has289;exact textE_c _ kk QAd;rintro v1 h1 hle1 ⟨A1,c1,rfl,hs1⟩)|(apply Ih (f:=true) (n:=1+(tt.take k).flatten.length) (xs:=(100::(tt.take k).flatten).flatMap Ev) (s:=Dm kk);(iterate 8 exact J);exact hs1.le QAa;omega;intro v9;exact QR;omega;intro A8 c8)|(apply Ag;exact J;exact has228;exact hcon _ QAa;rintro v2 h2 hle2 ⟨A2,c2,rfl,hs2⟩)|(apply Ih (f:=true) (n:=1+(tt.take k).flatten.length+(Dm kk).length) (xs:=(100::(tt.take k).flatten).flatMap Ev++(Dm kk).flatMap Ev) (s:=bb);(iterate 8 exact J);exact hs2.le QAa;exact hp0;intro v9;exact QR;omega;intro A3 c3))|(refine QH ?_ ?_<;>intro hc<;>try omega)|fail)
   all_goals (try (exfalso;simp at *;done))
   all_goals
    have h3:=ih (k+1,A3,c3,h2) ⟨by dsimp only;omega,by dsimp only;exact hle.trans QAa⟩ QAh
    dsimp only at h3
    rw [ht,List.flatten_append,List.flatten_singleton,hta1,List.length_append,List.length_append,← Nat.add_assoc,← Nat.add_assoc,← List.cons_append,List.flatMap_append,List.flatMap_append,← List.append_assoc] at h3
    refine Aj QS QT (h3)
 · rw [List.take_of_length_le QAd]
   clear ih
   repeat' (first|refine QF ?_|(refine QG ?_;first|(refine QDx ?_;intro b3 h3 hle3 hs3)|(apply Ih (f:=true) (n:=1+tt.flatten.length) (xs:=(100::tt.flatten).flatMap Ev) (s:=[(101:UInt8)]);(iterate 8 exact J);exact hs3.le QAa;omega;intro v9;exact QR;omega;intro A3 c3))|(refine QH ?_ ?_<;>intro hc<;>try omega)|fail)
   have e8:(100::tt.flatten).flatMap Ev++[(101:UInt8)].flatMap Ev=(Mh ks bss).flatMap Ev:=by unfold Mh;rw [hfm];simp only [List.flatMap_cons,List.flatMap_append,List.append_assoc,List.flatMap_nil,List.append_nil,List.nil_append]
   have e9:1+tt.flatten.length+1=(Mh ks bss).length:=by omega
   rw [e8,e9]
   refine Cia (f:=true) (l8:=Mh ks bss) (n:=(Mh ks bss).length) (e:=5) rfl QK ?_
   intro A9 c9 h9 hle9 eq9 hnc hs9
   injection eq9 with e91 _ e93
   subst e91;subst e93
   exact Ay rfl rfl rfl ⟨_,_,rfl,hs9⟩
theorem Jq.pos {d:Nat}{h:Ro}{v:Va}{bs:List UInt8}(e:Jq d h v bs):0<bs.length:=by
 cases d with
 | zero=>exact e.elim
 | succ d =>
   rcases e with ⟨m,rfl,hm,rfl⟩|⟨s,rfl,rfl⟩|⟨L,vs,bss,rfl,e2,e3,e4,rfl⟩|⟨L,K,vs,bss,ks,rfl,e2,e3,e4,e5,e6,e7,rfl⟩
   · unfold Cm;simp
   · unfold Dm;simp only [List.length_append,List.length_cons];omega
   · unfold Oe;simp
   · unfold Mh;simp
theorem zip_pos {d:Nat}{h:Ro}{vs:List Va}{bss:List (List UInt8)}(z:Ch (Jq d h) vs bss):∀ b∈bss,0<b.length:=fun b hb=>by
 obtain ⟨k,hk,rfl⟩:=List.getElem_of_mem hb
 have hk2:k<vs.length:=z.1 ▸ hk
 exact (z.2 k vs[k] bss[k] (List.getElem?_eq_getElem hk2) (List.getElem?_eq_getElem hk)).pos
theorem en_ok:∀ d,EnOk d
 | 0=>fun h v bs hv _=>hv.elim
 | d+1=>fun h v bs hv hb=>by
   rcases hv with ⟨m,rfl,hm,rfl⟩|⟨s,rfl,rfl⟩|⟨L,vs,bss,rfl,e2,e3,e4,rfl⟩|⟨L,K,vs,bss,ks,rfl,e2,e3,e4,e5,e6,e7,rfl⟩
   · exact encR1_c h m hm
   · exact encR2_c h s (by unfold Dm at hb;simp at hb;omega)
   · exact encR3_c d (en_ok d) h L vs bss e2 e3 e4 hb (zip_pos e3)
   · exact encR4_c d (en_ok d) h L K vs bss ks e2 e3 e4 e5 e7 hb (zip_pos e3)
theorem encodeR_c (h:Ro)(d:Nat)(hd:d≤16)(v:Va)(bs:List UInt8)(hv:Jq d h v bs)(hb:bs.length≤500000000):Res prog 174 #[vaV v] h fun u h'=>∃ A c,u=.tuple #[.slice A bs.length c,.int .i64 0]∧Ar Ev 1 h' A bs.length bs:=by
 refine QXR Proofs.Tryz.func174 fun w0 X0=>?_
 repeat' (first|refine QF ?_|(refine QB ?_;intro b)|(refine QG ?_;first|(apply Ag;exact J;exact has227;exact checkVR_c _ d hd v bs (hv.le QAa);rintro v1 h1 hle1 rfl)|(apply Ag;exact J;exact has228;exact en_ok d _ v bs (hv.le QAa) hb;rintro v2 h2 hle2 ⟨A2,c2,rfl,hs2⟩))|(refine QH ?_ ?_<;>intro hc<;>try omega)|fail)
 all_goals first
  | (exfalso;omega)
  | (exact Cs rfl rfl rfl rfl ⟨_,_,rfl,hs2⟩)
end Go.Hw
set_option maxHeartbeats 8000000
namespace Go.Hw
open Go
attribute [local irreducible] GO GOl GDp Val Fn Res Ab Du Blk Bd Cd Bf Has
open Go.Proofs.Tryz (prog)
theorem A9a:∀ (a b:List UInt8),Op.bytesLess a b=decide (Mg a b<0)
 | [],[]=>rfl
 | [],_::_=>rfl
 | _::_,[]=>rfl
 | a::x,b::y=>by
   unfold Op.bytesLess Mg
   rw [A9a x y]
   by_cases h1:a.toNat<b.toNat
   · rw [if_pos h1]
     have:a<b:=UInt8.lt_iff_toNat_lt.2 h1
     simp [this]
   · rw [if_neg h1]
     have h2:¬ a<b:=fun h=>h1 (UInt8.lt_iff_toNat_lt.1 h)
     by_cases h3:b.toNat<a.toNat
     · rw [if_pos h3]
       have:a≠b:=fun h=>by subst h;omega
       simp [h2,this]
     · rw [if_neg h3]
       have:a=b:=UInt8.toNat_inj.1 QAd
       simp [this]
theorem cmpR_c (h:Ro)(a b:Int):Val prog 108 #[.int .i64 a,.int .i64 b] h (.int .i64 (Fb a b)):=by
 refine QXV Proofs.Tryz.func108 fun w0 X0=>?_
 repeat' (first|refine QF ?_|(refine QH ?_ ?_<;>intro hc<;>try omega)|(apply Ac;(iterate 3 exact J)))
 all_goals first
  | (unfold Fb;rw [if_pos QAd];done)
  | (unfold Fb;rw [if_neg QAd,if_pos QAd];done)
  | (unfold Fb;rw [if_neg QAd,if_neg QAd];done)
open Classical in
theorem Zq (h:Ro)(s:Fsh)(f:Fct)(hf:FAt h s f)(hs:FSm f)(hg:Bm f):Res prog 109 #[Br s f] h (fun u h'=>∃ A c,u=.tuple #[.slice A (Mc f).length c,.int .i64 0]∧Ar Ev 1 h' A (Mc f).length (Mc f)):=by
 refine QXR Proofs.Tryz.func109 fun w0 X0=>?_
 have hvl:=hf.void
 have hle0:=encF_le f hg hvl
 have hch:=fun h' (hl:Le h h')=>by
  have:=Bxa h' s f (hf.le hl) hs
  rw [if_pos hg] at this;exact this
 have hk:1≤f.kind∧f.kind≤8:=by
  refine Classical.byContradiction fun hk=>(Jz f hk).2 hg.2.2.1
 have i1:I64 f.day:=Ui hg.1 QAd
 have i2:I64 f.kind:=by unfold I64;omega
 have i3:I64 f.known:=Ui hg.2.1 QAd
 repeat' (first|refine QFs ?_|(refine QB ?_;intro b)|(refine QG ?_;first|(refine QB8 ?_)|(apply Ag;exact J;exact has174;exact encodeR_c _ 6 QAd ⟨4,0,[],⟨some ⟨bz,0,none⟩,4,4⟩,⟨some ⟨bk,0,none⟩,4,4⟩⟩ (Mc f) (.inr (.inr (.inr ⟨⟨some ⟨bz,0,none⟩,4,4⟩,⟨some ⟨bk,0,none⟩,4,4⟩,[Dz f.day,Dz f.kind,Dz f.known,v],[Cm f.day,Cm f.kind,Cm f.known,Oe (Bl f)],Lfa,rfl,hs1.le QAa,Ch.cons (Av i1) (Ch.cons (Av i2) (Ch.cons (Av i3) (Ch.cons (hv.le QAa) Ch.nil))),hks.le QAa,rfl,I0a,four_le,Eqa f⟩))) QAd;rintro v4 h4 hle4 ⟨A4,c4,rfl,hr4⟩))|(apply Ad (n:=4) [0,1,2,3,4,5,6,7,8,9,10,11,12,13,14,15] [(1,0),(2,0),(4,0),(5,0),(7,0),(8,0),(10,0),(0,3),(38,3),(164,14),(3,2),(29,14),(6,2),(21,14),(9,2),(14,14),(11,2),(8,14),(12,2),(3,14),(13,0),(14,1),(15,1),(12,1),(13,0),(15,1),(11,1),(12,1),(13,0),(15,1),(9,1),(11,1),(12,1),(13,0),(15,1),(6,1),(9,1),(11,1),(12,1),(13,0),(15,1),(3,1),(6,1),(9,1),(11,1),(12,1),(13,0),(15,1),(0,3),(29,6),(103,14),(6,2),(21,14),(9,2),(14,14),(11,2),(8,14),(12,2),(3,14),(13,0),(14,1),(15,1),(12,1),(13,0),(15,1),(11,1),(12,1),(13,0),(15,1),(9,1),(11,1),(12,1),(13,0),(15,1),(6,1),(9,1),(11,1),(12,1),(13,0),(15,1),(0,3),(21,9),(58,14),(9,2),(14,14),(11,2),(8,14),(12,2),(3,14),(13,0),(14,1),(15,1),(12,1),(13,0),(15,1),(11,1),(12,1),(13,0),(15,1),(9,1),(11,1),(12,1),(13,0),(15,1),(0,3),(14,11),(27,14),(11,2),(8,14),(12,2),(3,14),(13,0),(14,1),(15,1),(12,1),(13,0),(15,1),(11,1),(12,1),(13,0),(15,1),(0,3),(8,12),(8,14),(12,2),(3,14),(13,0),(14,1),(15,1),(12,1),(13,0),(15,1),(0,2),(3,14),(13,0),(14,1),(15,1),(0,1),(13,0),(15,1),(0,2),(3,12),(12,1),(13,0),(15,1),(0,1),(13,0),(15,1),(0,2),(4,11),(11,1),(12,1),(13,0),(15,1),(0,2),(3,12),(12,1),(13,0),(15,1),(0,1),(13,0),(15,1),(0,2),(5,9),(9,1),(11,1),(12,1),(13,0),(15,1),(0,2),(4,11),(11,1),(12,1),(13,0),(15,1),(0,2),(3,12),(12,1),(13,0),(15,1),(0,1),(13,0),(15,1),(0,2),(6,6),(6,1),(9,1),(11,1),(12,1),(13,0),(15,1),(0,2),(5,9),(9,1),(11,1),(12,1),(13,0),(15,1),(0,2),(4,11),(11,1),(12,1),(13,0),(15,1),(0,2),(3,12),(12,1),(13,0),(15,1),(0,1),(13,0),(15,1),(0,2),(7,3),(3,1),(6,1),(9,1),(11,1),(12,1),(13,0),(15,1),(0,2),(6,6),(6,1),(9,1),(11,1),(12,1),(13,0),(15,1),(0,2),(5,9),(9,1),(11,1),(12,1),(13,0),(15,1),(0,2),(4,11),(11,1),(12,1),(13,0),(15,1),(0,2),(3,12),(12,1),(13,0),(15,1),(0,1),(13,0),(15,1)];kernel_rfl)|(apply Ao;exact J;kernel_rfl;(iterate 3 exact J);(first|(refine QA3 ?_;intro bk hk7 hlek hks;refine ⟨hlek,QN,?_⟩)|(refine QD2 ?_;rintro wv hw hlew ⟨v,rfl,hv⟩;refine ⟨hlew,QN,?_⟩)|(refine QC4 ?_;intro bz hz1 hlez hs1;refine ⟨hlez,QN,?_⟩)|(apply Aa;exact J;exact Zg;exact Sk _ _;refine ⟨Le.refl _,QN,?_⟩)))|(apply Hi;kernel_rfl;exact J;exact J)|(apply Cq;(iterate 4 exact J);(first|(refine QA3 ?_;intro bk hk7 hlek hks;refine ⟨hlek,QN,?_⟩)|(refine QD2 ?_;rintro wv hw hlew ⟨v,rfl,hv⟩;refine ⟨hlew,QN,?_⟩)|(refine QC4 ?_;intro bz hz1 hlez hs1;refine ⟨hlez,QN,?_⟩)|(apply Aa;exact J;exact Zg;exact Sk _ _;refine ⟨Le.refl _,QN,?_⟩)))|(refine QH ?_ ?_<;>intro hc<;>try omega)|(apply GP_three;kernel_rfl;(iterate 4 exact J)))
 all_goals first
  | (exfalso;omega)
  | (exact Cs rfl rfl rfl rfl ⟨_,_,rfl,hr4⟩)
theorem G6a (h:Ro)(s t:Fsh)(f g:Fct)(hf:FAt h s f)(hs:FSm f)(hg:FAt h t g)(ht:FSm g)(of:Bm f)(og:Bm g):Res prog 67 #[Br s f,Br t g] h (fun u h'=>u=.int .i64 (Gp f g)):=by
 refine QXR Proofs.Tryz.func67 fun w0 X0=>?_
 have hl1:=A9a (Mc f) (Mc g)
 have hl2:=A9a (Mc g) (Mc f)
 have hsw:=Wy (Mc f) (Mc g)
 have hrg:=Zw (Mc f) (Mc g)
 have hbe:(Mc f == Mc g)=decide (Mg (Mc f) (Mc g)=0):=by rw [Bool.eq_iff_iff,beq_iff_eq,decide_eq_true_eq,Bva]
 repeat' (first|refine QF ?_|(apply Af;exact J;exact J;(first|(apply Caa (s:=Mc f) (A:=A4);(iterate 7 exact J);exact hr4.le QAa)|(apply Caa (s:=Mc g) (A:=A5);(iterate 7 exact J);exact hr5.le QAa));exact QA)|(refine QB ?_;intro b)|(refine QG ?_;first|(apply Aa;exact J;exact has108;exact cmpR_c _ _ _)|(apply Ag;exact J;exact has109;exact Zq _ s f (hf.le QAa) hs of;rintro v4 h4 hle4 ⟨A4,c4,rfl,hr4⟩)|(apply Ag;exact J;exact has109;exact Zq _ t g (hg.le QAa) ht og;rintro v5 h5 hle5 ⟨A5,c5,rfl,hr5⟩))|(refine QH ?_ ?_<;>intro hc<;>try omega)|fail)
 all_goals (refine Ay rfl rfl rfl ?_)
 all_goals (simp only [Dr,hl1,hl2,hbe,Bool.or_eq_true,Bool.or_eq_false_iff,decide_eq_true_eq,decide_eq_false_iff_not,Bool.not_eq_true',Bool.not_eq_true] at *)
 all_goals (refine congrArg (Value.int .i64) ?_)
 all_goals (clear hf hs hg ht of og;unfold Gp;(repeat' split) <;> omega)
end Go.Hw
namespace Go.Hw
open Go
attribute [local irreducible] GO GOl GDp Val Fn Res Ab Du Blk Bd Cd Bf Has Yl idF
open Go.Proofs.Tryz (prog)
theorem Gpa {x:Fct}:∀ {L:List Fct} {k:Nat},k≤L.length→(∀ i,i<k→Gp (L.getD i Ef) x<0)→(k<L.length→¬ Gp (L.getD k Ef) x<0)→Gqa x L=if k<L.length∧L.getD k Ef=x then L else L.take k++x::L.drop k
 | [],k,hk,_,_=>by
   have:k=0:=by simpa using hk
   subst this;simp [Gqa]
 | y::r,0,_,_,h2=>by
   have h2:=h2 QAn
   simp only [List.getD_cons_zero] at h2
   unfold Gqa
   rw [if_neg h2]
   simp
 | y::r,k+1,hk,h1,h2=>by
   have h0:=h1 0 QAd
   simp only [List.getD_cons_zero] at h0
   have ih:=Gpa (x:=x) (L:=r) (k:=k) (by simpa using hk) (fun i hi=>by have:=h1 (i+1) QAd;simpa using this) (fun hlt=>by have:=h2 (by simpa using hlt);simpa using this)
   unfold Gqa
   rw [if_pos h0,ih]
   simp only [List.length_cons,Nat.add_lt_add_iff_right,List.getD_cons_succ,List.take_succ_cons,List.drop_succ_cons]
   split
   · rfl
   · rfl
theorem fcs_getD (l:List (Fsh×Fct)){k:Nat}(hk:k<l.length):(fcs l).getD k Ef=(l.getD k p0).2:=by
 unfold fcs
 simp [List.getD,List.getElem?_eq_getElem hk]
theorem Zu (h:Ro)(p q:Fsh×Fct)(hp:FGd h p)(hq:FGd h q):Res prog 67 #[Br p.1 p.2,Br q.1 q.2] h (fun u _=>u=.int .i64 (Gp p.2 q.2)) :=
 G6a h p.1 q.1 p.2 q.2 hp.1 hp.2.1 hq.1 hq.2.1 hp.2.2 hq.2.2
end Go.Hw
namespace Go.Hw
open Go
attribute [local irreducible] GO GOl GDp Val Fn Res Ab Du Blk Bd Cd Bf Has Yl idF
open Go.Proofs.Tryz (prog)
open Classical in
theorem Uv (h:Ro)(A:Option Addr)(n c:Nat)(l:List (Fsh×Fct))(hx:Au h A n l)(hn:n≤65536):Res prog 103 #[.slice A n c] h (fun u h'=>∃ A' k c' l',u=.slice A' k c'∧Fla h' A' k c' l' (Ba (fcs l))):=by
 refine QXR Proofs.Tryz.func103 fun w0 X0=>?_
 have hlen:=hx.row.len
 have h32:Mk (fcs l):=Ta hx.fat
 repeat' (first|refine QF ?_|(refine QG ?_;first|(refine QB0 ?_;intro b1 h1 hle1 hcs1))|fail)
 have hL0:Fla h1 (some ⟨b1,0,none⟩) 0 0 [] (Ba (fcs (l.take 0))):=⟨Nat.le_refl _,⟨Ar.of_flat (fun _=>rfl) rfl hcs1,fun p hp=>absurd hp QAn,by omega⟩,rfl⟩
 refine Ai (X:=Nat×Option Addr×Nat×Nat×List (Fsh×Fct)×Ro) (fun x=>x.1≤n∧Le h x.2.2.2.2.2∧Fla x.2.2.2.2.2 x.2.1 x.2.2.1 x.2.2.2.1 x.2.2.2.2.1 (Ba (fcs (l.take x.1)))) (fun x=>n-x.1)
  (fun x=>[(4,.int .i64 x.1),(3,.slice x.2.1 x.2.2.1 x.2.2.2.1),(0,.slice A n c)]) (fun _=>[]) (fun x=>x.2.2.2.2.2) (0,some ⟨b1,0,none⟩,0,0,[],h1) ⟨by dsimp only;omega,hle1,hL0⟩ QS QT rfl ?_
 rintro ⟨i,A3,k3,c3,l3,hh⟩ ⟨hi,hle,hL⟩ ih
 dsimp only at hi hle hL ih ⊢
 have ht32:Mk (fcs (l.take i)):=fun f hf=>h32 f (fcs_sub (fun p hp=>List.mem_of_mem_take hp) f hf)
 have hcl:=Aaa ht32
 rw [← hL.2.2,List.length_map,List.length_map,hL.2.1.row.len,List.length_take] at hcl
 by_cases hin:i<n
 · have a1:=hx.row.addrD hin
   have c1:Ab hh ((addrD A).add (i * Ara.size)) (Aq (l.getD i p0)):=(hx.row.cellsD p0 hin).le hle
   have et:=Cb p0 hlen hin
   have hm:=mem7 p0 (show i<l.length by omega)
   have hfp:=hx.fat _ hm
   generalize l.getD i p0=p at *
   have e5:fcs (l.take (i+1))=fcs (l.take i)++[p.2]:=by rw [et];unfold fcs;rw [List.map_append];rfl
   by_cases hp:Bm p.2
   · have hch:=fun h' (hl:Le h h')=>by
      have:=Bxa h' p.1 p.2 (hfp.1.le hl) hfp.2
      rw [if_pos hp] at this;exact this
     have e6:Ba (fcs (l.take (i+1)))=Gqa p.2 (fcs l3):=by rw [e5,Po,if_pos hp,hL.2.2]
     have hgp:FGd hh p:=⟨hfp.1.le hle,hfp.2,hp⟩
     have hlen3:=hL.2.1.row.len
     have hml:(fcs l3).length=k3:=by rw [List.length_map,hlen3]
     repeat' (first|refine QF ?_|(apply Af;exact J;exact J;(first|exact QAg|exact QAf);exact QA)|(refine QG ?_;first|(refine QB8 ?_))|(refine QH ?_ ?_<;>intro hc<;>try omega)|fail)
     all_goals (try (exfalso;omega))
     refine Ai (X:=Nat×Ro) (fun x=>x.1≤k3∧Le hh x.2∧∀ t,t<x.1→Gp ((fcs l3).getD t Ef) p.2<0) (fun x=>k3-x.1) (fun x=>[(5,.int .i64 x.1),(4,.int .i64 i),(3,.slice A3 k3 c3),(0,.slice A n c)]) (fun _=>[]) (fun x=>x.2) (0,hh) ⟨by dsimp only;omega,Le.refl _,fun t ht=>absurd ht QAh⟩ QS QT rfl ?_
     rintro ⟨j,hj2⟩ ⟨hj,hlj,hI⟩ ih2
     dsimp only at hj hlj hI ih2 ⊢
     have hfin:∀ (h9:Ro) (A9:Option Addr) (c9:Nat),Le hh h9→Gqa p.2 (fcs l3)=(fcs l3).take j++p.2::(fcs l3).drop j→Ar Aq 82 h9 A9 (j+(1+(k3-j))) (l3.take j++([p]++l3.drop j))→j+(1+(k3-j))≤c9→Fla h9 A9 (j+(1+(k3-j))) c9 (l3.take j++([p]++l3.drop j)) (Ba (fcs (l.take (i+1)))):=fun h9 A9 c9 hl9 e9 hs9 hc9=>by
      refine ⟨hc9,⟨hs9,fun q hq => ?_,by omega⟩,?_⟩
      · rw [List.mem_append,List.mem_append,List.mem_singleton] at hq
        rcases hq with hq|rfl|hq
        · exact (hL.2.1.good q (List.mem_of_mem_take hq)).le hl9
        · exact hgp.le hl9
        · exact (hL.2.1.good q (List.mem_of_mem_drop hq)).le hl9
      · rw [e6,e9];unfold fcs;simp [List.map_take,List.map_drop]
     by_cases hjk:j<k3
     · have b1:=hL.2.1.row.addrD hjk
       have d1:Ab hj2 ((addrD A3).add (j * Ara.size)) (Aq (l3.getD j p0)):=(hL.2.1.row.cellsD p0 hjk).le hlj
       have hmj:=mem7 p0 (show j<l3.length by omega)
       have g1:=hL.2.1.good _ hmj
       have hgd:=fcs_getD l3 (k:=j) QAd
       generalize l3.getD j p0=q at *
       by_cases hc9:Gp q.2 p.2<0
       · repeat' (first|refine QF ?_|(apply Ad (n:=7) [0,1,2,3,4,5,6,7,8,9,10,11,12,13,14,15] [(0,0),(1,0),(2,0),(3,0),(4,0),(5,0),(6,0),(7,0),(8,0),(9,0),(10,0),(11,0),(12,0),(13,1),(14,0),(15,0)];kernel_rfl)|(apply Bk;exact J;kernel_rfl;exact J;exact J;(first|exact QAg|exact QDf|exact QAu|exact QA6);exact QA)|(apply Ao;exact J;kernel_rfl;(iterate 3 exact J);(first|(refine QAz ?_;rintro vr hr1 hle1 rfl;refine ⟨hle1,QN,?_⟩)))|(apply Bq;(iterate 5 exact J);all_goals (intro hc;try simp only [hcS,reduceCtorEq] at hc;try omega))|(refine QH ?_ ?_<;>intro hc<;>try omega)|fail)
         all_goals (try (exfalso;omega))
         all_goals
          have h3:=ih2 (j+1,hr1) ⟨by dsimp only;omega,by dsimp only;exact hlj.trans hle1,fun t ht=>by
           dsimp only at ht
           rcases Nat.lt_or_ge t j with w1|w1
           · exact hI t w1
           · have:t=j:=by omega
             subst this;rw [hgd];exact hc9⟩ QAh
          dsimp only at h3
          refine Aj QS QT (h3)
       · clear ih2
         have hat:=Gpa (x:=p.2) (L:=fcs l3) (k:=j) QAd hI (fun _=>by rw [hgd];exact hc9)
         have hsm:=fun h' (hl:Le hh h')=>sameR_c h' q.1 q.2 ((g1.le hl).1) g1.2.1 p.1 p.2 ((hgp.le hl).1) hgp.2.1
         by_cases he:q.2=p.2
         · rw [if_pos ⟨by omega,by rw [hgd];exact he⟩] at hat
           rw [decide_eq_true he] at hsm
           repeat' (first|refine QF ?_|(apply Ad (n:=7) [0,1,2,3,4,5,6,7,8,9,10,11,12,13,14,15] [(0,0),(1,0),(2,0),(3,0),(4,0),(5,0),(6,0),(7,0),(8,0),(9,0),(10,0),(11,0),(12,0),(13,1),(14,0),(15,0)];kernel_rfl)|(apply Ad (n:=9) [0,1,2,3,4,5,6,7,8,9,10,11,12,13,14] [(0,0),(1,0),(2,0),(3,0),(4,0),(5,0),(6,0),(7,0),(8,0),(9,0),(10,0),(11,0),(12,0),(13,1),(14,0)];kernel_rfl)|(apply Bk;exact J;kernel_rfl;exact J;exact J;(first|exact QAg|exact QDf|exact QAu|exact QCz);exact QA)|(apply Ao;exact J;kernel_rfl;(iterate 3 exact J);(first|(refine QAz ?_;rintro vr hr1 hle1 rfl;refine ⟨hle1,QN,?_⟩)|(apply Aa;exact J;exact has170;exact hsm _ QAa;refine ⟨Le.refl _,QN,?_⟩)))|(apply Bq;(iterate 5 exact J);all_goals (intro hc;try simp only [hcS,reduceCtorEq] at hc;try omega))|(refine QH ?_ ?_<;>intro hc<;>try omega)|fail)
           all_goals (try (exfalso;omega))
           all_goals
            have h3:=ih (i+1,A3,k3,c3,l3,hr1) ⟨by dsimp only;omega,by dsimp only;exact hle.trans QAa,hL.1,hL.2.1.le QAa,by dsimp only;rw [e6,hat]⟩ QAh
            dsimp only at h3
            refine Aj QS QT (h3)
         · rw [if_neg (fun w=>he (by rw [← hgd];exact w.2))] at hat
           rw [decide_eq_false he] at hsm
           repeat' (first|refine QF ?_|(refine QG ?_;first|(refine QCj ?_;intro A6 hs6)|(refine QCe ?_;intro A9 c9 h9 hle9 hnc9 hs9))|(apply Ad (n:=7) [0,1,2,3,4,5,6,7,8,9,10,11,12,13,14,15] [(0,0),(1,0),(2,0),(3,0),(4,0),(5,0),(6,0),(7,0),(8,0),(9,0),(10,0),(11,0),(12,0),(13,1),(14,0),(15,0)];kernel_rfl)|(apply Ad (n:=9) [0,1,2,3,4,5,6,7,8,9,10,11,12,13,14] [(0,0),(1,0),(2,0),(3,0),(4,0),(5,0),(6,0),(7,0),(8,0),(9,0),(10,0),(11,0),(12,0),(13,1),(14,0)];kernel_rfl)|(apply Ad (n:=10) [0,1,2,3,4,5,6,7,8,9] [(0,0),(1,0),(2,0),(3,0),(5,0),(6,0),(7,0),(4,1),(8,1),(9,0)];kernel_rfl)|(apply Bk;exact J;kernel_rfl;exact J;exact J;(first|exact QAg|exact QDf|exact QAu|exact QCz|exact QBx);exact QA)|(apply Ao;exact J;kernel_rfl;(iterate 3 exact J);(first|(refine QAz ?_;rintro vr hr1 hle1 rfl;refine ⟨hle1,QN,?_⟩)|(apply Aa;exact J;exact has170;exact hsm _ QAa;refine ⟨Le.refl _,QN,?_⟩)|(refine QFk ?_;intro b8;refine ⟨Le.refl _,QN,?_⟩)|(refine QBl ?_;intro A7 c7 h7 hle7 hnc7 hs7;refine ⟨hle7,QN,?_⟩)))|(apply Bq;(iterate 5 exact J);all_goals (intro hc;try simp only [hcS,reduceCtorEq] at hc;try omega))|(refine QH ?_ ?_<;>intro hc<;>try omega)|fail)
           all_goals (try (exfalso;omega))
           all_goals
            have h3:=ih (i+1,A9,j+(1+(k3-j)),c9,l3.take j++([p]++l3.drop j),h9) ⟨by dsimp only;omega,by dsimp only;exact hle.trans QAa,hfin _ _ _ QAa hat hs9 hnc9⟩ QAh
            dsimp only at h3
            refine Aj QS QT (h3)
     · clear ih2
       have hjk2:j=k3:=by omega
       have hat:=Gpa (x:=p.2) (L:=fcs l3) (k:=j) QAd hI (fun w=>by omega)
       rw [if_neg (fun w=>by omega)] at hat
       repeat' (first|refine QF ?_|(refine QG ?_;first|(refine QCj ?_;intro A6 hs6)|(refine QCe ?_;intro A9 c9 h9 hle9 hnc9 hs9))|(apply Ad (n:=7) [0,1,2,3,4,5,6,7,8,9,10,11,12,13,14,15] [(0,0),(1,0),(2,0),(3,0),(4,0),(5,0),(6,0),(7,0),(8,0),(9,0),(10,0),(11,0),(12,0),(13,1),(14,0),(15,0)];kernel_rfl)|(apply Ad (n:=9) [0,1,2,3,4,5,6,7,8,9,10,11,12,13,14] [(0,0),(1,0),(2,0),(3,0),(4,0),(5,0),(6,0),(7,0),(8,0),(9,0),(10,0),(11,0),(12,0),(13,1),(14,0)];kernel_rfl)|(apply Ad (n:=10) [0,1,2,3,4,5,6,7,8,9] [(0,0),(1,0),(2,0),(3,0),(5,0),(6,0),(7,0),(4,1),(8,1),(9,0)];kernel_rfl)|(apply Bk;exact J;kernel_rfl;exact J;exact J;(first|exact QAg|exact QAu|exact QBx);exact QA)|(apply Ao;exact J;kernel_rfl;(iterate 3 exact J);(first|(refine QFk ?_;intro b8;refine ⟨Le.refl _,QN,?_⟩)|(refine QBl ?_;intro A7 c7 h7 hle7 hnc7 hs7;refine ⟨hle7,QN,?_⟩)))|(apply Bq;(iterate 5 exact J);all_goals (intro hc;try simp only [hcS,reduceCtorEq] at hc;try omega))|(refine QH ?_ ?_<;>intro hc<;>try omega)|(apply Rp;exact J;kernel_rfl;exact J;exact J))
       all_goals (try (exfalso;omega))
       all_goals
        have h3:=ih (i+1,A9,j+(1+(k3-j)),c9,l3.take j++([p]++l3.drop j),h9) ⟨by dsimp only;omega,by dsimp only;exact hle.trans QAa,hfin _ _ _ QAa hat hs9 hnc9⟩ QAh
        dsimp only at h3
        refine Aj QS QT (h3)
   · have hch:=fun h' (hl:Le h h')=>by
      have:=Bxa h' p.1 p.2 (hfp.1.le hl) hfp.2
      rw [if_neg hp] at this;exact this
     have e6:Ba (fcs (l.take (i+1)))=fcs l3:=by rw [e5,Po,if_neg hp,hL.2.2]
     repeat' (first|refine QF ?_|(apply Af;exact J;exact J;(first|exact QAg|exact QAf);exact QA)|(refine QG ?_;first|(refine QB8 ?_))|(refine QH ?_ ?_<;>intro hc<;>try omega)|fail)
     all_goals (try (exfalso;omega))
     all_goals
      have h3:=ih (i+1,A3,k3,c3,l3,hh) ⟨by dsimp only;omega,hle,hL.1,hL.2.1,e6.symm⟩ QAh
      dsimp only at h3
      refine Aj QS QT (h3)
 · rw [List.take_of_length_le QAd] at hL
   clear ih
   repeat' (first|refine QF ?_|(refine QH ?_ ?_<;>intro hc<;>try omega)|fail)
   all_goals first
    | (exfalso;omega)
    | (exact Ay rfl rfl rfl ⟨A3,k3,c3,l3,rfl,hL⟩)
end Go.Hw

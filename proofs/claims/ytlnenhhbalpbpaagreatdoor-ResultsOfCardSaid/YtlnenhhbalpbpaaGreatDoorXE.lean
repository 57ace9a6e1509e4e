import Derived.Test.YtlnenhhbalpbpaaGreatDoorXD
import Derived.Test.YtlnenhhbalpbpaaGreatDoorXC
import Derived.Test.YtlnenhhbalpbpaaGreatDoorMR2s
set_option linter.all false
set_option maxRecDepth 100000
set_option maxHeartbeats 8000000
namespace Go.Hw
open Go
attribute [local irreducible] GO GOl GDp Val Fn Res Ab Du Blk Bd Cd Bf Has Yl Ik Bn Lt Kk Ew Hj Cn Oh Ff Hv Ue
open Go.Proofs.Tryz (prog)
theorem next_skip {D:List Az}{m:Nat}{cl:Int}(hm:m<D.length)(h:¬ ((D.getD m Ee).sh.g.h=cl∨(D.getD m Ee).sh.g.a=cl)):Hv (D.drop m) cl=Hv (D.drop (m+1)) cl:=by
 rw [Bta Ee rfl hm]
 unfold Hv
 rw [List.find?_cons,decide_eq_false h]
theorem next_hit {D:List Az}{m:Nat}{cl:Int}(hm:m<D.length)(h:(D.getD m Ee).sh.g.h=cl∨(D.getD m Ee).sh.g.a=cl):Hv (D.drop m) cl=some (D.getD m Ee):=by
 rw [Bta Ee rfl hm]
 unfold Hv
 rw [List.find?_cons,decide_eq_true h]
theorem next_end {D:List Az}{m:Nat}{cl:Int}(hm:D.length≤m):Hv (D.drop m) cl=none:=by
 rw [List.drop_of_length_le hm]
 unfold Hv;rfl
theorem Dxa {α β:Type}(f:α→β)(l:List α){k:Nat}(hk:k<l.length)(d:α)(e:β):(l.map f).getD k e=f (l.getD k d):=by
 simp [List.getD,List.getElem?_eq_getElem hk]
theorem Xz (h:Ro)(A:Option Addr)(n c:Nat)(l:List (Fsh×Fct))(hx:Au h A n l)(hn6:n≤65536)(season comp:Int):Res prog 115 #[.slice A n c,.int .i64 season,.int .i64 comp] h (fun u h'=>∃ A' c',u=.slice A' (Ew (Lt (fcs l) season comp)).length c'∧Ar Uh 6 h' A' (Ew (Lt (fcs l) season comp)).length (Ew (Lt (fcs l) season comp))∧(Ew (Lt (fcs l) season comp)).length≤10000000):=by
 refine QXR Proofs.Tryz.func115 fun w0 X0=>?_
 have h32:=Fa hx
 have hde:=fun h' (hl:Le h h')=>Lpa h' A n c l (hx.le hl) hn6 season comp
 generalize fcs l=L at *
 clear hx
 repeat' (first|refine QF ?_|(refine QG ?_;first|(refine QAj ?_;intro b8)|(apply Ag;exact J;exact has176;exact hde _ QAa;rintro w1 h1 hle1 ⟨A3,c3,ds,rfl,hsl,hat,hdec,hdn,hnc⟩))|fail)
 all_goals (try (exfalso;omega))
 rw [← G3a hdec]
 clear hde
 obtain ⟨D,hD⟩:∃ D,D=ds.map (·.2):=⟨_,rfl⟩
 rw [← hD] at hdec ⊢
 have hDl:D.length=ds.length:=by rw [hD,List.length_map]
 have hDg:∀ t,t<ds.length→D.getD t Ee=(ds.getD t sc0).2:=fun t ht=>by rw [hD];exact Dxa _ _ ht _ _
 have hok:∀ x∈D,Dv x.sh∧Mi x.sh (Kk x.sh):=fun x hx=>⟨(hdec.ok h32 hx).sheet,I3a (hdec.ok h32 hx).sheet⟩
 have hlcs:∀ x∈D,x.sh.hc.length≤1000∧x.sh.ac.length≤1000:=fun x hx=>by
  have h1:=(hok x hx).1.2.2.2.2.2.2.2.1.1
  have h2:=(hok x hx).1.2.2.2.2.2.2.2.2.1.1
  omega
 refine Ai (X:=Nat×List Jt×Option Addr×Nat×Ro) (fun x=>x.1≤ds.length∧Le h1 x.2.2.2.2∧x.2.1=Hj D x.1) (fun x=>ds.length-x.1)
  (fun x=>[(9,.int .i64 x.1),(8,.slice A3 ds.length c3),(7,.slice x.2.2.1 x.2.1.length x.2.2.2.1)])
  (fun x=>[Bd 103 6 (.slice x.2.2.1 x.2.1.length x.2.2.2.1) x.2.1.length (x.2.1.flatMap Uh)]) (fun x=>x.2.2.2.2) (0,[],some ⟨b8,0,none⟩,0,h1) ⟨by dsimp only;omega,Le.refl _,by rw [suspN_0]⟩ QS QT rfl ?_
 rintro ⟨i,out,A4,c4,hh⟩ ⟨hi,hle,ho⟩ ih
 dsimp only at hi hle ho ih ⊢
 have hol:=Vg hok (i:=i) QAd
 rw [← ho] at hol
 by_cases hin:i<ds.length
 · have a1:=hsl.addrD hin
   have c1:Ab hh ((addrD A3).add (i * ty62.size)) (Ey (ds.getD i sc0)):=(hsl.cellsD sc0 hin).le hle
   have hax:=(hat _ (mem7 sc0 hin)).le hle
   have hDx:=hDg i hin
   have hxm:=mem7 Ee (show i<D.length by omega)
   have hoX:=hok _ hxm
   have hlc:=hlcs _ hxm
   have hsA:Hj D (i+1)=Hj D i++(Kk (D.getD i Ee).sh).flatMap (Cn (D.take i) (D.drop (i+1)) (D.getD i Ee)):=Nm D i
   rw [hDx] at hoX hsA hlc
   have hx0:ds.getD i sc0=((ds.getD i sc0).1,(ds.getD i sc0).2):=rfl
   obtain ⟨⟨s,x⟩,hxe⟩:∃ q,q=ds.getD i sc0:=⟨_,rfl⟩
   rw [← hxe] at c1 hax hoX hsA hlc hDx
   clear hxe hx0 hxm
   dsimp only at hoX hsA hax hlc hDx
   have hxs:=hax.1
   repeat' (first|refine QF ?_|(apply Af;exact J;exact J;(first|exact QAg|(apply Aw;exact J;exact Jp rfl c1 rfl));exact QA)|(refine QG ?_;first|(apply Ag;exact J;exact has177;exact Kva _ s x.sh (hxs.le QAa) hoX.1;rintro vm h3 hle3 ⟨A5,c5,A6,c6,rfl,hwho,hclb⟩))|(refine QH ?_ ?_<;>intro hc<;>try omega)|fail)
   all_goals (try (exfalso;omega))
   have hml:=A7a hoX.1 hoX.2
   obtain ⟨ms,hmsE⟩:∃ ms,ms=Kk x.sh:=⟨_,rfl⟩
   rw [← hmsE] at hwho hclb hsA hml ⊢
   refine Ai (X:=Nat×List Jt×Option Addr×Nat×Ro) (fun y=>y.1≤ms.length∧Le h3 y.2.2.2.2∧y.2.1=Hj D i++(ms.take y.1).flatMap (Cn (D.take i) (D.drop (i+1)) x)∧y.2.1.length≤out.length+y.1) (fun y=>ms.length-y.1)
    (fun y=>[(12,.int .i64 y.1),(10,.slice A5 ms.length c5),(11,.slice A6 ms.length c6),(9,.int .i64 i),(8,.slice A3 ds.length c3),(7,.slice y.2.2.1 y.2.1.length y.2.2.2.1)])
    (fun y=>[Bd 103 6 (.slice y.2.2.1 y.2.1.length y.2.2.2.1) y.2.1.length (y.2.1.flatMap Uh)]) (fun y=>y.2.2.2.2) (0,out,A4,c4,h3) ⟨by dsimp only;omega,Le.refl _,by rw [ho];simp,by dsimp only;omega⟩ QS QT rfl ?_
   rintro ⟨k,ou,A7,c7,h4⟩ ⟨hk,hle4,ho4,hol4⟩ ih2
   dsimp only at hk hle4 ho4 hol4 ih2 ⊢
   by_cases hkn:k<ms.length
   · have a2:=hwho.addrD hkn
     have a3:=hclb.addrD hkn
     have c2:Ab h4 ((addrD A5).add (k * ty3.size)) (Cu ((ms.map (·.1)).getD k 0)):=(hwho.cellsD 0 hkn).le hle4
     have c3':Ab h4 ((addrD A6).add (k * ty3.size)) (Cu ((ms.map (·.2)).getD k 0)):=(hclb.cellsD 0 hkn).le hle4
     rw [Dxa _ ms hkn m0] at c2 c3'
     have et2:=Cb m0 (xs:=ms) rfl hkn
     have hle0:Le hh h4:=QAa
     have c1':=c1.le hle0
     have hxs4:=hxs.le hle0
     generalize ms.getD k m0=y at *
     obtain ⟨p,cl⟩:=y
     dsimp only at c2 c3'
     have hb1:=Fqa (D.take i) p
     rw [List.length_take] at hb1
     have hb2:=Rf x.sh p
     have hfm:(ms.take (k+1)).flatMap (Cn (D.take i) (D.drop (i+1)) x)=(ms.take k).flatMap (Cn (D.take i) (D.drop (i+1)) x)++Cn (D.take i) (D.drop (i+1)) x (p,cl):=by rw [et2,List.flatMap_append];simp
     have hcont:=fun ou' A' c' h' (hl:Le h4 h') (he:ou'=ou++Cn (D.take i) (D.drop (i+1)) x (p,cl)) (hl2:ou'.length≤ou.length+1)=>ih2 (k+1,ou',A',c',h') ⟨by dsimp only;omega,hle4.trans hl,by dsimp only;rw [he,ho4,hfm,List.append_assoc],by dsimp only;omega⟩ QAh
     dsimp only at hcont
     have hno:=Yj (pre:=D.take i) (post:=D.drop (i+1)) (x:=x) (m:=(p,cl))
     have hnn:=Ti (pre:=D.take i) (post:=D.drop (i+1)) (x:=x) (m:=(p,cl))
     have hye:=fun z=>Ve (pre:=D.take i) (post:=D.drop (i+1)) (x:=x) (m:=(p,cl)) (z:=z)
     dsimp only at hno hnn hye
     have hct:=fun h' (hl:Le h4 h')=>Kba h' s x.sh (hxs4.le hl) hlc p
     clear ih2 ih hfm et2 ho4 hsA ho
     repeat' (first|refine QF ?_|(refine QH ?_ ?_<;>intro hc<;>try omega)|fail)
     all_goals (try (exfalso;omega))
     refine Ai (X:=Nat×Ro) (fun y=>y.1≤i∧Le h4 y.2) (fun y=>i-y.1)
      (fun y=>[(14,.int .i64 y.1),(13,.int .i64 (Oh (D.take y.1) p)),(12,.int .i64 k),(10,.slice A5 ms.length c5),(11,.slice A6 ms.length c6),(9,.int .i64 i),(8,.slice A3 ds.length c3),(7,.slice A7 ou.length c7)])
      (fun y=>[Bd 103 6 (.slice A7 ou.length c7) ou.length (ou.flatMap Uh)]) (fun y=>y.2) (0,h4) ⟨by dsimp only;omega,Le.refl _⟩ (by rw [List.take_zero,yelC_0];exact QS) QT rfl ?_
     rintro ⟨nn,h5⟩ ⟨hnn5,hle5⟩ ih3
     dsimp only at hnn5 hle5 ih3 ⊢
     by_cases hni:nn<i
     · have hnd:nn<ds.length:=by omega
       have aN:=hsl.addrD hnd
       have cN:Ab h5 ((addrD A3).add (nn * ty62.size)) (Ey (ds.getD nn sc0)):=(hsl.cellsD sc0 hnd).le (hle.trans (hle0.trans hle5))
       have hxN:=((hat _ (mem7 sc0 hnd)).le (hle.trans (hle0.trans hle5))).1
       have hDN:=hDg nn hnd
       have hlN:=hlcs _ (mem7 Ee (show nn<D.length by omega))
       have etN:=Cb Ee (xs:=D) rfl (show nn<D.length by omega)
       rw [hDN] at hlN etN
       have cK:=c2.le hle5
       generalize ds.getD nn sc0=z at *
       obtain ⟨sN,xN⟩:=z
       dsimp only at hxN hlN etN
       have hy:=Pz (D.take nn) xN p
       rw [← etN] at hy
       have hbN:=Fqa (D.take nn) p
       rw [List.length_take] at hbN
       have hbc:=Rf xN.sh p
       have h9:=fun h' (hl:Le h5 h')=>ih3 (nn+1,h') ⟨by dsimp only;omega,hle5.trans hl⟩ QAh
       dsimp only at h9
       rw [hy] at h9
       have hcN:=fun h' (hl:Le h5 h')=>Kba h' sN xN.sh (hxN.le hl) hlN p
       generalize Oh (D.take nn) p=yn at *
       generalize Ff xN.sh p=qn at *
       clear ih3 hcont hno hnn hye hct hy etN
       repeat' (first|refine QF ?_|(apply Ad (n:=14) [0,1,2,3,4,5,6,7,8,9,10,11,13,12,14] [(0,0),(1,0),(2,0),(3,0),(4,0),(5,0),(6,0),(7,0),(8,0),(9,1),(10,0),(11,0),(12,0),(13,0),(14,0)];kernel_rfl)|(apply Bk;exact J;kernel_rfl;exact J;exact J;(first|(apply Cg (j:=nn) (n:=ds.length);(iterate 5 exact J);exact aN;(with_reducible exact J);omega)|exact QCv|(apply Aw;exact J;apply Jp;exact J;(with_reducible exact cN);exact J)|exact QDn);exact QA)|(apply Ao;exact J;kernel_rfl;(iterate 3 exact J);(first|(apply Ag;exact J;exact has178;exact hcN _ QAa;rintro v6 h6 hle6 rfl;refine ⟨hle6,QN,?_⟩)))|(refine QH ?_ ?_<;>intro hc<;>try omega)|fail)
       all_goals first
        | (exfalso;omega)
        | (have h9:=h9 h6 hle6
           refine Aj QS QT (h9))
     · have hni2:nn=i:=by omega
       subst hni2
       clear ih3
       have cK:=c2.le hle5
       have cI:=c1'.le hle5
       have hct:=fun h' (hl:Le h5 h')=>hct h' (hle5.trans hl)
       have hcont:=fun ou' A' c' h' (hl:Le h5 h')=>hcont ou' A' c' h' (hle5.trans hl)
       generalize hqq:Ff x.sh p=q at *
       generalize hyy:Oh (D.take nn) p=y0 at *
       obtain ⟨qy,qr⟩:=q
       dsimp only at hb2 hno hye hct
       by_cases hE:Earn y0 qy qr
       · cases qr
         case' false=>have hE2:=hE.resolve_left QAn
         all_goals (repeat' (first|refine QC ?_|(apply Af;exact J;exact J;(first|exact QDa);exact QA)|refine QD ?_|(apply Ad (n:=16) [0,1,2,3,4,5,6,7,8,9,10,11,13,12,14] [(0,0),(1,0),(2,0),(3,0),(4,0),(5,0),(6,0),(7,0),(8,0),(9,1),(10,0),(11,0),(12,0),(13,0),(14,0)];kernel_rfl)|(apply Bk;exact J;kernel_rfl;exact J;exact J;(first|exact QFj|exact QCv|(apply Aw;exact J;apply Jp;exact J;(with_reducible exact cI);exact J)|exact QDn);exact QA)|(apply Ao;exact J;kernel_rfl;(iterate 3 exact J);(first|(refine QEq ?_;rintro v6 h6 hle6 rfl;refine ⟨hle6,QN,?_⟩)))|(refine QH ?_ ?_<;>intro hc<;>try omega)|fail))
         all_goals (try (exfalso;omega))
         all_goals
          clear hct hno
          refine Ai (X:=Nat) (fun m=>nn+1≤m∧m≤ds.length∧Hv (D.drop m) cl=Hv (D.drop (nn+1)) cl) (fun m=>ds.length-m)
           (fun m=>[(19,.int .i64 m),(12,.int .i64 k),(10,.slice A5 ms.length c5),(11,.slice A6 ms.length c6),(9,.int .i64 nn),(8,.slice A3 ds.length c3),(7,.slice A7 ou.length c7)])
           (fun m=>[Bd 103 6 (.slice A7 ou.length c7) ou.length (ou.flatMap Uh)]) (fun _=>h6) (nn+1) ⟨by omega,by omega,rfl⟩ QS QT rfl ?_
          rintro m ⟨hm1,hm2,hnx⟩ ih6
          by_cases hmn:m<ds.length
          · have aM:=hsl.addrD hmn
            have cM:Ab h6 ((addrD A3).add (m * ty62.size)) (Ey (ds.getD m sc0)):=(hsl.cellsD sc0 hmn).le QAa
            have hDM:=hDg m hmn
            have cK6:=cK.le hle6
            have cL6:=(c3'.le hle5).le hle6
            by_cases hpl:(ds.getD m sc0).2.sh.g.h=cl∨(ds.getD m sc0).2.sh.g.a=cl
            · have e:=next_hit (D:=D) (m:=m) (cl:=cl) QAd (by rw [hDM];exact hpl)
              rw [hDM] at e
              have hs1:=hye _ hE (hnx.symm.trans e)
              clear e hDM ih6
              generalize ds.getD m sc0=z at *
              by_cases hq1:z.2.sh.g.h=cl
              all_goals (repeat' (first|refine QFs ?_|(apply Af;exact J;exact J;(first|exact QFl|(apply Aw;exact J;apply Xj;exact J;(with_reducible exact cM);exact J));exact QA)|(refine QB ?_;intro b)|(apply Ad (n:=22) [0,1,2,3,4,5,6,7,8,9,10,11,12,13,14,15] [(0,0),(1,0),(2,0),(3,0),(4,0),(5,0),(6,0),(7,0),(8,0),(9,0),(10,0),(11,0),(12,0),(13,0),(14,0),(15,0)];kernel_rfl)|(apply Ad (n:=23) [0,1,2,3,4,5,6,7,8,9,10,11,12,13] [(0,0),(1,0),(2,0),(3,0),(4,0),(5,0),(6,0),(7,0),(8,0),(9,0),(10,0),(11,1),(12,1),(13,0)];kernel_rfl)|(apply Bk;exact J;kernel_rfl;exact J;exact J;(first|(apply Cg (j:=k) (n:=ms.length) (A:=A5);(iterate 5 exact J);exact a2;(with_reducible exact J);omega)|exact QFa|(apply Aw;exact J;apply Cy;exact J;(with_reducible exact cK6);exact J)|(apply Aw;exact J;apply Cy;exact J;(with_reducible exact cL6);exact J));exact QA)|(apply Ao;exact J;kernel_rfl;(iterate 3 exact J);(first|(refine QDu ?_;intro b9 h9 hle9 hs9;refine ⟨hle9,QN,?_⟩)|(refine QEe ?_;intro A9 c9;refine ⟨Le.refl _,QN,?_⟩)))|(apply Bq;(iterate 5 exact J);all_goals (intro hc;try simp only [hcS,reduceCtorEq] at hc;try omega))|(refine QH ?_ ?_<;>intro hc<;>try omega)|fail))
              all_goals first
               | (exfalso;omega)
               | (have h7:=hcont (ou++[⟨p,cl,z.2.sh.g⟩]) A9 c9 h9 (hle6.trans hle9) (by rw [hs1]) QAn
                  rw [List.length_append] at h7
                  refine Aj QS QT (h7))
            · have e:=next_skip (D:=D) (m:=m) (cl:=cl) QAd (by rw [hDM];exact hpl)
              have h7:=ih6 (m+1) ⟨by omega,by omega,e.symm.trans hnx⟩ QAd
              clear e hDM ih6 hnx
              generalize ds.getD m sc0=z at *
              have hq1:z.2.sh.g.h≠cl:=fun w=>hpl (.inl w)
              have hq2:z.2.sh.g.a≠cl:=fun w=>hpl (.inr w)
              repeat' (first|refine QFs ?_|(apply Af;exact J;exact J;(first|exact QFl|(apply Aw;exact J;apply Xj;exact J;(with_reducible exact cM);exact J));exact QA)|(refine QB ?_;intro b)|(apply Ad (n:=22) [0,1,2,3,4,5,6,7,8,9,10,11,12,13,14,15] [(0,0),(1,0),(2,0),(3,0),(4,0),(5,0),(6,0),(7,0),(8,0),(9,0),(10,0),(11,0),(12,0),(13,0),(14,0),(15,0)];kernel_rfl)|(apply Bk;exact J;kernel_rfl;exact J;exact J;(first|exact QFa|(apply Aw;exact J;apply Cy;exact J;(with_reducible exact cL6);exact J));exact QA)|(apply Bq;(iterate 5 exact J);all_goals (intro hc;try simp only [hcS,reduceCtorEq] at hc;try omega))|(refine QH ?_ ?_<;>intro hc<;>try omega)|fail)
              all_goals first
               | (exfalso;omega)
               | (refine Aj QS QT (h7))
          · have hs1:=hnn (hnx.symm.trans (next_end QAd))
            have h7:=hcont ou A7 c7 h6 hle6 (by rw [hs1,List.append_nil]) QAd
            clear ih6
            repeat' (first|refine QF ?_|(refine QH ?_ ?_<;>intro hc<;>try omega)|fail)
            all_goals first
             | (exfalso;omega)
             | (refine Aj QS QT (h7))
       · have hs1:=hno hE
         have hcont:=fun h6 (hl:Le h5 h6)=>hcont ou A7 c7 h6 hl (by rw [hs1,List.append_nil]) QAd
         cases qr
         case' true=>exact absurd (.inl rfl) hE
         have hE2:(y0+qy) / 5=y0 / 5:=Classical.byContradiction fun w=>hE (.inr w)
         repeat' (first|refine QC ?_|(apply Af;exact J;exact J;(first|exact QDa);exact QA)|refine QD ?_|(apply Ad (n:=16) [0,1,2,3,4,5,6,7,8,9,10,11,13,12,14] [(0,0),(1,0),(2,0),(3,0),(4,0),(5,0),(6,0),(7,0),(8,0),(9,1),(10,0),(11,0),(12,0),(13,0),(14,0)];kernel_rfl)|(apply Bk;exact J;kernel_rfl;exact J;exact J;(first|exact QFj|exact QCv|(apply Aw;exact J;apply Jp;exact J;(with_reducible exact cI);exact J)|exact QDn);exact QA)|(apply Ao;exact J;kernel_rfl;(iterate 3 exact J);(first|(refine QEq ?_;rintro v6 h6 hle6 rfl;refine ⟨hle6,QN,?_⟩)))|(refine QH ?_ ?_<;>intro hc<;>try omega)|fail)
         all_goals first
          | (exfalso;omega)
          | (exfalso;simp at hc;done)
          | (have h7:=hcont h6 hle6
             refine Aj QS QT (h7))
   · rw [show ms.take k=ms from List.take_of_length_le QAd,← hsA] at ho4
     have h7:=ih (i+1,ou,A7,c7,h4) ⟨by dsimp only;omega,QAa,ho4⟩ QAh
     dsimp only at h7
     clear ih ih2
     repeat' (first|refine QF ?_|(refine QH ?_ ?_<;>intro hc<;>try omega)|fail)
     all_goals first
      | (exfalso;omega)
      | (refine Aj QS QT (h7))
 · have hil:i=ds.length:=by omega
   have hsc:Ew D=out:=by
    rw [ho,hil,← hDl]
    unfold Ew;rfl
   rw [hsc]
   clear ih
   refine El (enc:=Uh) (e:=103) (sz:=6) (n:=out.length) (xs:=out) (fun _=>rfl) rfl QK ?_
   intro A7 c7 h7 hle7 e7 hnc7 hs7
   cases e7
   repeat' (first|refine QF ?_|(refine QH ?_ ?_<;>intro hc<;>try omega)|fail)
   all_goals first
    | (exfalso;omega)
    | (exact Ay rfl rfl rfl ⟨A4,c4,rfl,hs7,by omega⟩)
end Go.Hw
namespace Go.Hw
open Go
attribute [local irreducible] GO GOl GDp Val Fn Res Ab Du Blk Bd Cd Bf Has Yl Ik Bn Lt Kk Ew Hj Cn Oh Ff Hv Ue Md
open Go.Proofs.Tryz (prog)
open Classical in
theorem K1a (h:Ro)(A:Option Addr)(n c:Nat)(l:List (Fsh×Fct))(hx:Au h A n l)(hn6:n≤65536)(g:Ak)(p cl day:Int):Res prog 70 #[.slice A n c,De g,.int .i64 p,.int .i64 cl,.int .i64 day] h (fun u _=>u=.bool (decide (Fia (fcs l) (Ew (Lt (fcs l) g.s g.c)) g day cl p))):=by
 refine QXR Proofs.Tryz.func70 fun w0 X0=>?_
 have hrg:=fun h' (hl:Le h h')=>A0a h' A n c l (hx.le hl) hn6 p day
 have hmv:=fun h' (hl:Le h h')=>movedR_c h' A n c l (hx.le hl) hn6 p
 have hun:=fun h' (hl:Le h h')=>UnfitR_c h' A n c l (hx.le hl) hn6 p day
 have hsu:=fun h' (hl:Le h h')=>Xz h' A n c l (hx.le hl) hn6 g.s g.c
 obtain ⟨vb,hvb⟩:∃ vb:Bool,vb=decide (Fia (fcs l) (Ew (Lt (fcs l) g.s g.c)) g day cl p):=⟨_,rfl⟩
 obtain ⟨mb,hmb⟩:∃ mb:Bool,mb=decide (∃ x∈fcs l,Fja p x):=⟨_,rfl⟩
 have hV:vb=true↔((mb=true∧¬ (0≤(Ue (fcs l) p day).mTo∧(Ue (fcs l) p day).mTo=cl))∨Iq (Ba (fcs l)) p day=true∨∃ s∈Ew (Lt (fcs l) g.s g.c),s.p=p∧s.g=g):=by
  rw [hvb,hmb,decide_eq_true_eq,decide_eq_true_eq];exact Iff.rfl
 rw [← hvb]
 simp only [← hmb] at hmv
 clear hvb hmb
 generalize Ew (Lt (fcs l) g.s g.c)=S at *
 generalize Iq (Ba (fcs l)) p day=U at *
 generalize (Ue (fcs l) p day).mTo=t at *
 clear hx
 by_cases hM:mb=true∧¬ (0≤t∧t=cl)
 · have e:vb=true:=hV.2 (.inl hM)
   subst e
   obtain ⟨rfl,h2⟩:=hM
   clear hV
   by_cases ht:0≤t
   · have h3:t≠cl:=fun e=>h2 ⟨ht,e⟩
     simp only [if_neg (show ¬ t<0 by omega),decide_eq_true ht] at hrg
     clear hun hsu
     repeat' (first|refine QF ?_|(refine QB ?_;intro b)|(refine QG ?_;first|(refine QBb ?_;rintro v1 h1' hle1 rfl)|(refine QBc ?_;rintro v2 h2' hle2 rfl))|(refine QH ?_ ?_<;>intro hc<;>try omega)|fail)
     all_goals first
      | (exfalso;omega)
      | (exact Ay rfl rfl rfl rfl)
   · simp only [if_pos (show t<0 by omega),decide_eq_false ht] at hrg
     clear hun hsu
     repeat' (first|refine QF ?_|(refine QB ?_;intro b)|(refine QG ?_;first|(refine QBb ?_;rintro v1 h1' hle1 rfl)|(refine QBc ?_;rintro v2 h2' hle2 rfl))|(refine QH ?_ ?_<;>intro hc<;>try omega)|fail)
     all_goals first
      | (exfalso;omega)
      | (exact Ay rfl rfl rfl rfl)
 · have hfin:mb=true→0≤t∧t=cl:=fun q=>Classical.byContradiction fun w=>hM ⟨q,w⟩
   cases U with
   | true =>
     have e:vb=true:=hV.2 (.inr (.inl rfl))
     subst e
     clear hV hsu hM
     cases mb
     case' true =>
      obtain ⟨ht,hcl⟩:=hfin rfl
      simp only [if_neg (show ¬ t<0 by omega),decide_eq_true ht] at hrg
     all_goals (repeat' (first|refine QF ?_|(refine QB ?_;intro b)|(refine QG ?_;first|(refine QBb ?_;rintro v1 h1' hle1 rfl)|(refine QBc ?_;rintro v2 h2' hle2 rfl)|(refine QEr ?_;rintro v3 h3' hle3 rfl))|(refine QH ?_ ?_<;>intro hc<;>try omega)|fail))
     all_goals first
      | (exfalso;omega)
      | (exfalso;simp at hc;done)
      | (exact Ay rfl rfl rfl rfl)
   | false =>
     have hV2:vb=true↔∃ s∈S,s.p=p∧s.g=g:=hV.trans ⟨fun w=>(w.resolve_left hM).resolve_left QAn,fun w=>.inr (.inr w)⟩
     clear hV hM
     cases mb
     case' true =>
      obtain ⟨ht,hcl⟩:=hfin rfl
      simp only [if_neg (show ¬ t<0 by omega),decide_eq_true ht] at hrg
     all_goals (repeat' (first|refine QC ?_|(apply Bo;(iterate 3 exact J);apply Dj (e:=24);exact J;intro b6)|refine QD ?_|(refine QG ?_;first|(refine QBb ?_;rintro v1 h1' hle1 rfl)|(refine QBc ?_;rintro v2 h2' hle2 rfl)|(refine QEr ?_;rintro v3 h3' hle3 rfl)|(apply Ag;exact J;exact has115;exact hsu _ QAa;rintro v4 h4 hle4 ⟨A5,c5,rfl,hsS,hSn⟩))|(refine QH ?_ ?_<;>intro hc<;>try omega)|fail))
     all_goals (try (exfalso;omega))
     all_goals (try (exfalso;simp at hc;done))
     all_goals clear hrg hmv hun hsu hfin
     all_goals
      refine Ai (X:=Nat) (fun k=>k≤S.length∧∀ s∈S.take k,¬ (s.p=p∧s.g=g)) (fun k=>S.length-k)
       (fun k=>[(14,.int .i64 k),(13,.slice A5 S.length c5),(6,Kr b6),(2,.int .i64 p)])
       (fun k=>[Blk b6 24 (Cx g)]) (fun _=>h4) 0 ⟨by omega,by simp⟩ QS QT rfl ?_
      rintro k ⟨hk,hI⟩ ih
      by_cases hkn:k<S.length
      · have a1:=hsS.addrD hkn
        have c1:=hsS.cellsD su0 hkn
        have et:=Cb su0 (xs:=S) rfl hkn
        have hzm:=mem7 su0 hkn
        generalize S.getD k su0=z at *
        have hge:=Lr z.g g
        by_cases hz:z.p=p∧z.g=g
        · have e:vb=true:=hV2.2 ⟨z,hzm,hz⟩
          subst e
          obtain ⟨hz1,hz2⟩:=hz
          rw [decide_eq_true hz2] at hge
          clear ih
          repeat' (first|refine QF ?_|(apply Ad (n:=10) [0,1,2,3,4,5,6,7,8,9,10,11,12,13,14,15] [(0,0),(1,0),(2,0),(3,0),(4,0),(5,0),(6,0),(7,0),(8,0),(9,0),(10,0),(11,0),(12,0),(13,0),(14,0),(15,0)];kernel_rfl)|(apply Bk;exact J;kernel_rfl;exact J;exact J;(first|exact QAc|exact QAf|exact QA1|exact QAb);exact QA)|(apply Bq;(iterate 5 exact J);all_goals (intro hc;try simp only [hcS,reduceCtorEq] at hc;try omega))|(refine QH ?_ ?_<;>intro hc<;>try omega)|fail)
          all_goals first
           | (exfalso;omega)
           | (exfalso;simp at hc;done)
           | (exact Ay rfl rfl rfl rfl)
        · have h9:=ih (k+1) ⟨by omega,fun y hy=>by
           rw [et,List.mem_append,List.mem_singleton] at hy
           rcases hy with w|w
           · exact hI y w
           · rw [w];exact hz⟩ QAd
          clear ih
          by_cases hz1:z.p=p
          · rw [decide_eq_false (fun w=>hz ⟨hz1,w⟩)] at hge
            repeat' (first|refine QF ?_|(apply Ad (n:=10) [0,1,2,3,4,5,6,7,8,9,10,11,12,13,14,15] [(0,0),(1,0),(2,0),(3,0),(4,0),(5,0),(6,0),(7,0),(8,0),(9,0),(10,0),(11,0),(12,0),(13,0),(14,0),(15,0)];kernel_rfl)|(apply Bk;exact J;kernel_rfl;exact J;exact J;(first|exact QAc|exact QAf|exact QA1|exact QAb);exact QA)|(apply Bq;(iterate 5 exact J);all_goals (intro hc;try simp only [hcS,reduceCtorEq] at hc;try omega))|(refine QH ?_ ?_<;>intro hc<;>try omega)|fail)
            all_goals first
             | (exfalso;omega)
             | (exfalso;simp at hc;done)
             | (refine Aj QS QT (h9))
          · repeat' (first|refine QF ?_|(apply Ad (n:=10) [0,1,2,3,4,5,6,7,8,9,10,11,12,13,14,15] [(0,0),(1,0),(2,0),(3,0),(4,0),(5,0),(6,0),(7,0),(8,0),(9,0),(10,0),(11,0),(12,0),(13,0),(14,0),(15,0)];kernel_rfl)|(apply Bk;exact J;kernel_rfl;exact J;exact J;(first|exact QAc|exact QAf);exact QA)|(apply Bq;(iterate 5 exact J);all_goals (intro hc;try simp only [hcS,reduceCtorEq] at hc;try omega))|(refine QH ?_ ?_<;>intro hc<;>try omega)|fail)
            all_goals first
             | (exfalso;omega)
             | (exfalso;simp at hc;done)
             | (refine Aj QS QT (h9))
      · rw [List.take_of_length_le QAd] at hI
        have e:vb=false:=by
         rw [← Bool.not_eq_true,hV2]
         rintro ⟨s,hs,w⟩;exact hI s hs w
        subst e
        clear ih
        repeat' (first|refine QF ?_|(refine QH ?_ ?_<;>intro hc<;>try omega)|fail)
        all_goals first
         | (exfalso;omega)
         | (exact Ay rfl rfl rfl rfl)
open Classical in
theorem Fha (h:Ro)(A:Option Addr)(n c:Nat)(l:List (Fsh×Fct))(hx:Au h A n l)(hn6:n≤65536)(g:Ak):Res prog 32 #[.slice A n c,De g] h (fun u h'=>J4a h' u (Up (fcs l) g)):=by
 refine QXR Proofs.Tryz.func32 fun w0 X0=>?_
 have hsc:=fun h' (hl:Le h h')=>Aua h' A n c l (hx.le hl) hn6 g
 have hof:=fun h' (hl:Le h h') p cl day=>K1a h' A n c l (hx.le hl) hn6 g p cl day
 have hno:=offL_no (L:=fcs l) (g:=g)
 have hyes:=fun x=>Ira (L:=fcs l) (g:=g) (x:=x)
 have hsh:=Cl (Fa hx) (g:=g)
 rw [show Oa l=fcs l from rfl] at hsc
 generalize hsx:Bj (fcs l) g=x at *
 generalize Ew (Lt (fcs l) g.s g.c)=S at *
 by_cases hk2:x.kind=2
 case' neg =>
  rw [hno hk2]
  clear hof hno hyes
  repeat' (first|refine QFs ?_|(refine QB ?_;intro b)|(refine QG ?_;first|(refine QAw ?_;rintro w2 h2 hle2 ⟨s,rfl,hs1,hs2⟩))|(refine QH ?_ ?_<;>intro hc<;>try omega)|fail)
  all_goals first
   | (exfalso;omega)
   | (exact Cs rfl rfl rfl rfl ⟨none,0,none,0,rfl,Ar.nil,Ar.nil⟩)
 have hyes:=hyes x rfl hk2
 have hsz:x.sh.hs.length≤1000000∧x.sh.as.length≤1000000:=by
  obtain ⟨f,_,ok,kf,e,_⟩:=hsh hk2
  have:=ok.2.2.1
  unfold Cw at this
  rw [if_neg QAd,if_neg QAd,if_pos kf,e] at this
  have h1:=this.2.2.2.2.2.1.1
  have h2:=this.2.2.2.2.2.2.1.1
  omega
 rw [hyes]
 have hsn1:=Vx (fcs l) S g x.day g.h
 have hsl1:=Qm (fcs l) S g x.day g.h
 have hz1:Md (fcs l) S g x.day g.h []=[]:=by unfold Md;rfl
 have hsn2:=Vx (fcs l) S g x.day g.a
 have hsl2:=Qm (fcs l) S g x.day g.a
 have hz2:Md (fcs l) S g x.day g.a []=[]:=by unfold Md;rfl
 have hof1:=fun h' (hl:Le h h') p=>hof h' hl p g.h x.day
 have hof2:=fun h' (hl:Le h h') p=>hof h' hl p g.a x.day
 obtain ⟨q1,hq1⟩:∃ qb:Int→Bool,∀ p,qb p=decide (Fia (fcs l) S g x.day g.h p):=⟨_,fun _=>rfl⟩
 obtain ⟨q2,hq2⟩:∃ qb:Int→Bool,∀ p,qb p=decide (Fia (fcs l) S g x.day g.a p):=⟨_,fun _=>rfl⟩
 have hof1:∀ h' (hl:Le h h') p,Res prog 70 #[.slice A n c,De g,.int .i64 p,.int .i64 g.h,.int .i64 x.day] h' (fun u _=>u=.bool (q1 p)):=fun h' hl p=>by rw [hq1 p];exact hof1 h' hl p
 have hof2:∀ h' (hl:Le h h') p,Res prog 70 #[.slice A n c,De g,.int .i64 p,.int .i64 g.a,.int .i64 x.day] h' (fun u _=>u=.bool (q2 p)):=fun h' hl p=>by rw [hq2 p];exact hof2 h' hl p
 have hsn1:∀ sq p,Md (fcs l) S g x.day g.h (sq++[p])=if q1 p=true then Md (fcs l) S g x.day g.h sq++[p] else Md (fcs l) S g x.day g.h sq:=fun sq p=>by
  rw [hsn1 sq p,hq1 p]
  by_cases q:Fia (fcs l) S g x.day g.h p
  · rw [if_pos q,decide_eq_true q,if_pos rfl]
  · rw [if_neg q,decide_eq_false q,if_neg QAn]
 have hsn2:∀ sq p,Md (fcs l) S g x.day g.a (sq++[p])=if q2 p=true then Md (fcs l) S g x.day g.a sq++[p] else Md (fcs l) S g x.day g.a sq:=fun sq p=>by
  rw [hsn2 sq p,hq2 p]
  by_cases q:Fia (fcs l) S g x.day g.a p
  · rw [if_pos q,decide_eq_true q,if_pos rfl]
  · rw [if_neg q,decide_eq_false q,if_neg QAn]
 clear hno hyes hsh hof hx hq1 hq2
 generalize Md (fcs l) S g x.day g.h=O1 at *
 generalize Md (fcs l) S g x.day g.a=O2 at *
 repeat' (first|refine QC ?_|(apply Bo;(iterate 3 exact J);apply Dj (e:=24);exact J;intro b3)|(apply Bo;(iterate 3 exact J);apply At (e:=62);exact J;intro b6)|refine QDs ?_|(refine QG ?_;first|(refine QAw ?_;rintro w2 h3 hle3 ⟨s,rfl,hs1,hs2⟩)|(refine QAj ?_;intro b8))|(refine QH ?_ ?_<;>intro hc<;>try omega)|fail)
 all_goals (try (exfalso;omega))
 rename_i b7
 have hle0:Le h h3:=QAa
 have hn1:=hs1.hs.len
 have hn2:=hs1.as.len
 have hhs:=hs1.hs
 have has':=hs1.as
 refine Ai (X:=Nat×List Int×Option Addr×Nat×Ro) (fun y=>y.1≤s.hs.n∧Le h3 y.2.2.2.2∧y.2.1=O1 (x.sh.hs.take y.1)) (fun y=>s.hs.n-y.1)
  (fun y=>[(9,.int .i64 y.1),(7,.slice y.2.2.1 y.2.1.length y.2.2.2.1),(8,.slice (some ⟨b8,0,none⟩) 0 0),(6,Kr b6),(3,Kr b3),(0,.slice A n c)])
  (fun y=>[Bd 3 1 (.slice y.2.2.1 y.2.1.length y.2.2.2.1) y.2.1.length (y.2.1.flatMap Cu),Bd 3 1 (.slice (some ⟨b8,0,none⟩) 0 0) 0 [],Blk b6 62 (Ey (s,x)),Blk b3 24 (Cx g)]) (fun y=>y.2.2.2.2) (0,[],some ⟨b7,0,none⟩,0,h3) ⟨by dsimp only;omega,Le.refl _,hz1.symm⟩ QS QT rfl ?_
 rintro ⟨k,out,A4,c4,hh⟩ ⟨hk,hle,ho⟩ ih
 dsimp only at hk hle ho ih ⊢
 have hol:out.length≤k:=by
  rw [ho]
  refine Nat.le_trans (hsl1 _) ?_
  rw [List.length_take];omega
 by_cases hkn:k<s.hs.n
 · have a1:=hhs.addrD hkn
   have c1:Ab hh ((addrD s.hs.A).add (k * ty3.size)) (Cu (x.sh.hs.getD k 0)):=(hhs.cellsD 0 hkn).le hle
   have et:=Cb 0 (xs:=x.sh.hs) hn1 hkn
   generalize x.sh.hs.getD k 0=p at *
   have e0:=hsn1 (x.sh.hs.take k) p
   rw [← et,← ho] at e0
   have hof:=fun h' (hl:Le hh h')=>hof1 h' (hle0.trans (hle.trans hl)) p
   cases hq:q1 p with
   | true =>
     rw [hq] at e0 hof
     rw [if_pos rfl] at e0
     clear hsn1 hsl1 hsn2 hsl2 hof1 hof2
     repeat' (first|refine QF ?_|(apply Af;exact J;exact J;(first|exact QAc|exact QAm);exact QA)|(refine QG ?_;first|(refine QAq ?_;intro b5 h9 hle9 hs5)|(refine QEf ?_;intro A5 c5))|(apply Ad (n:=9) [0,1,2,3,4,5,6,7,8,9,10,11,12] [(0,0),(1,0),(2,0),(3,0),(4,0),(5,0),(6,0),(7,0),(8,0),(9,0),(10,0),(11,0),(12,1)];kernel_rfl)|(apply Bk;exact J;kernel_rfl;exact J;exact J;(first|exact QAc|exact QAm);exact QA)|(apply Ao;exact J;kernel_rfl;(iterate 3 exact J);(first|(refine QBf ?_;rintro v5 h8 hle8 rfl;refine ⟨hle8,QN,?_⟩)))|(refine QH ?_ ?_<;>intro hc<;>try omega)|fail)
     all_goals first
      | (exfalso;omega)
      | (exfalso;simp at hc;done)
      | (have h9':=ih (k+1,out++[p],A5,c5,h9) ⟨by dsimp only;omega,hle.trans (hle8.trans hle9),by dsimp only;rw [e0]⟩ QAh
         dsimp only at h9'
         rw [List.length_append] at h9'
         refine Aj QS QT (h9'))
   | false =>
     rw [hq] at e0 hof
     rw [if_neg QAn] at e0
     clear hsn1 hsl1 hsn2 hsl2 hof1 hof2
     repeat' (first|refine QF ?_|(apply Ad (n:=9) [0,1,2,3,4,5,6,7,8,9,10,11,12] [(0,0),(1,0),(2,0),(3,0),(4,0),(5,0),(6,0),(7,0),(8,0),(9,0),(10,0),(11,0),(12,1)];kernel_rfl)|(apply Bk;exact J;kernel_rfl;exact J;exact J;(first|exact QAc|exact QAm);exact QA)|(apply Ao;exact J;kernel_rfl;(iterate 3 exact J);(first|(refine QBf ?_;rintro v5 h8 hle8 rfl;refine ⟨hle8,QN,?_⟩)))|(refine QH ?_ ?_<;>intro hc<;>try omega)|fail)
     all_goals first
      | (exfalso;omega)
      | (exfalso;simp at hc;done)
      | (have h9':=ih (k+1,out,A4,c4,h8) ⟨by dsimp only;omega,hle.trans hle8,by dsimp only;rw [e0]⟩ QAh
         dsimp only at h9'
         refine Aj QS QT (h9'))
 · rw [List.take_of_length_le QAd] at ho
   clear ih hsn1 hsl1 hof1
   rw [← ho]
   refine El (enc:=Cu) (e:=3) (sz:=1) (n:=out.length) (xs:=out) (fun _=>rfl) rfl QK ?_
   intro A7 c7 h10 hle10 e7 hnc7 hs7
   cases e7
   repeat' (first|refine QF ?_|(refine QH ?_ ?_<;>intro hc<;>try omega)|fail)
   all_goals (try (exfalso;omega))
   have hle0:Le h h10:=QAa
   have has':=has'.le (hle.trans hle10)
   refine Ai (X:=Nat×List Int×Option Addr×Nat×Ro) (fun y=>y.1≤s.as.n∧Le h10 y.2.2.2.2∧y.2.1=O2 (x.sh.as.take y.1)) (fun y=>s.as.n-y.1)
    (fun y=>[(10,.int .i64 y.1),(8,.slice y.2.2.1 y.2.1.length y.2.2.2.1),(7,.slice A4 out.length c4),(6,Kr b6),(3,Kr b3),(0,.slice A n c)])
    (fun y=>[Bd 3 1 (.slice y.2.2.1 y.2.1.length y.2.2.2.1) y.2.1.length (y.2.1.flatMap Cu),Blk b6 62 (Ey (s,x)),Blk b3 24 (Cx g)]) (fun y=>y.2.2.2.2) (0,[],some ⟨b8,0,none⟩,0,h10) ⟨by dsimp only;omega,Le.refl _,hz2.symm⟩ QS QT rfl ?_
   rintro ⟨k,ou,A5,c5,hh2⟩ ⟨hk,hle2,ho2⟩ ih
   dsimp only at hk hle2 ho2 ih ⊢
   have hol:ou.length≤k:=by
    rw [ho2]
    refine Nat.le_trans (hsl2 _) ?_
    rw [List.length_take];omega
   by_cases hkn:k<s.as.n
   · have a1:=has'.addrD hkn
     have c1:Ab hh2 ((addrD s.as.A).add (k * ty3.size)) (Cu (x.sh.as.getD k 0)):=(has'.cellsD 0 hkn).le hle2
     have et:=Cb 0 (xs:=x.sh.as) hn2 hkn
     generalize x.sh.as.getD k 0=p at *
     have e0:=hsn2 (x.sh.as.take k) p
     rw [← et,← ho2] at e0
     have hof:=fun h' (hl:Le hh2 h')=>hof2 h' (hle0.trans (hle2.trans hl)) p
     cases hq:q2 p with
     | true =>
       rw [hq] at e0 hof
       rw [if_pos rfl] at e0
       clear hsn2 hsl2 hof2
       repeat' (first|refine QF ?_|(apply Af;exact J;exact J;(first|exact QAc|exact QAm);exact QA)|(refine QG ?_;first|(refine QAq ?_;intro b5 h9 hle9 hs5)|(apply Ap (enc:=Cu) (xs:=ou);(iterate 7 exact J);exact hs5;exact fun _=>rfl;exact fun x=>Bh rfl;intro v1;exact QR;omega;exact J;intro A6 c6))|(apply Ad (n:=14) [0,1,2,3,4,5,6,7,8,9,10,11,12] [(0,0),(1,0),(2,0),(3,0),(4,0),(5,0),(6,0),(7,0),(8,0),(9,0),(10,0),(11,0),(12,1)];kernel_rfl)|(apply Bk;exact J;kernel_rfl;exact J;exact J;(first|exact QAc|exact QAm);exact QA)|(apply Ao;exact J;kernel_rfl;(iterate 3 exact J);(first|(refine QBf ?_;rintro v5 h8 hle8 rfl;refine ⟨hle8,QN,?_⟩)))|(refine QH ?_ ?_<;>intro hc<;>try omega)|fail)
       all_goals first
        | (exfalso;omega)
        | (exfalso;simp at hc;done)
        | (have h9':=ih (k+1,ou++[p],A6,c6,h9) ⟨by dsimp only;omega,hle2.trans (hle8.trans hle9),by dsimp only;rw [e0]⟩ QAh
           dsimp only at h9'
           rw [List.length_append] at h9'
           refine Aj QS QT (h9'))
     | false =>
       rw [hq] at e0 hof
       rw [if_neg QAn] at e0
       clear hsn2 hsl2 hof2
       repeat' (first|refine QF ?_|(apply Ad (n:=14) [0,1,2,3,4,5,6,7,8,9,10,11,12] [(0,0),(1,0),(2,0),(3,0),(4,0),(5,0),(6,0),(7,0),(8,0),(9,0),(10,0),(11,0),(12,1)];kernel_rfl)|(apply Bk;exact J;kernel_rfl;exact J;exact J;(first|exact QAc|exact QAm);exact QA)|(apply Ao;exact J;kernel_rfl;(iterate 3 exact J);(first|(refine QBf ?_;rintro v5 h8 hle8 rfl;refine ⟨hle8,QN,?_⟩)))|(refine QH ?_ ?_<;>intro hc<;>try omega)|fail)
       all_goals first
        | (exfalso;omega)
        | (exfalso;simp at hc;done)
        | (have h9':=ih (k+1,ou,A5,c5,h8) ⟨by dsimp only;omega,hle2.trans hle8,by dsimp only;rw [e0]⟩ QAh
           dsimp only at h9'
           refine Aj QS QT (h9'))
   · rw [List.take_of_length_le QAd] at ho2
     clear ih hsn2 hsl2 hof2
     rw [← ho2]
     refine El (enc:=Cu) (e:=3) (sz:=1) (n:=ou.length) (xs:=ou) (fun _=>rfl) rfl QK ?_
     intro A8 c8 h11 hle11 e8 hnc8 hs8
     cases e8
     repeat' (first|refine QF ?_|(refine QH ?_ ?_<;>intro hc<;>try omega)|fail)
     all_goals first
      | (exfalso;omega)
      | (exact Cs rfl rfl rfl rfl ⟨A4,c4,A5,c5,rfl,hs7.le (hle2.trans hle11),hs8⟩)
end Go.Hw

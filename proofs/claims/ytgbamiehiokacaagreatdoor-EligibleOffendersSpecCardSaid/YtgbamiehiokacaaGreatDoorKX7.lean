import Derived.Test.YtgbamiehiokacaaGreatDoorXD
import Derived.Test.YtgbamiehiokacaaGreatDoorXC
set_option linter.all false
set_option maxRecDepth 100000
set_option maxHeartbeats 8000000
namespace Go.Hw
open Go
attribute [local irreducible] GO GOl GDp Val Fn Res CellsAt ValE Blk OwnS MapA OwnPf Has Yl SepA forceL decC memS suspC suspN suspOne yelC cardsF nextC regF
open Go.Proofs (Tryz.prog)
theorem next_skip {D:List FScore}{m:Nat}{cl:Int}(hm:m<D.length)(h:¬ ((D.getD m score0).sh.g.h=cl∨(D.getD m score0).sh.g.a=cl)):nextC (D.drop m) cl=nextC (D.drop (m+1)) cl:=by
 rw [Sa score0 rfl hm]
 unfold nextC
 rw [List.find?_cons,decide_eq_false h]
theorem next_hit {D:List FScore}{m:Nat}{cl:Int}(hm:m<D.length)(h:(D.getD m score0).sh.g.h=cl∨(D.getD m score0).sh.g.a=cl):nextC (D.drop m) cl=some (D.getD m score0):=by
 rw [Sa score0 rfl hm]
 unfold nextC
 rw [List.find?_cons,decide_eq_true h]
theorem next_end {D:List FScore}{m:Nat}{cl:Int}(hm:D.length≤m):nextC (D.drop m) cl=none:=by
 rw [List.drop_of_length_le hm]
 unfold nextC;rfl
theorem Uf {α β:Type}(f:α→β)(l:List α){k:Nat}(hk:k<l.length)(d:α)(e:β):(l.map f).getD k e=f (l.getD k d):=by
 simp [List.getD,List.getElem?_eq_getElem hk]
theorem Ih (h:Ro)(A:Option Addr)(n c:Nat)(l:List (Fsh×Fct))(hx:FactsAt h A n l)(hn6:n≤65536)(season comp:Int):Res Tryz.prog 41 #[.slice A n c,.int .i64 season,.int .i64 comp] h (fun u h'=>∃ A' c',u=.slice A' (suspC (decC (fcs l) season comp)).length c'∧SlOf encSu 6 h' A' (suspC (decC (fcs l) season comp)).length (suspC (decC (fcs l) season comp))∧(suspC (decC (fcs l) season comp)).length≤10000000):=by
 refine Bi (args:=[_,_,_]) ts_ok Go.Proofs.Tryz.func41 rfl rfl fun w0 X0 => ?_
 have h32:=Ee hx
 have hde:=fun h' (hl:Le h h')=>Cha h' A n c l (hx.le hl) hn6 season comp
 generalize fcs l=L at *
 clear hx
 repeat' (first|apply Ac|apply Ag|apply Aa|apply Ab|(apply Ad;(iterate 3 exact J))|(apply Ai;(iterate 3 exact J);(first|(apply Bq (n:=0);(iterate 3 exact J);exact List.cons_ne_nil _ _;(iterate 6 exact J);intro b8;skip)|(apply Ba;exact J;exact has87;exact hde _ QL;rintro w1 h1 hle1 ⟨A3,c3,ds,rfl,hsl,hat,hdec,hdn,hnc⟩;skip))))
 all_goals (try (exfalso;omega))
 rw [← Xx hdec]
 clear hde
 obtain ⟨D,hD⟩:∃ D,D=ds.map (·.2):=⟨_,rfl⟩
 rw [← hD] at hdec ⊢
 have hDl:D.length=ds.length:=by rw [hD,List.length_map]
 have hDg:∀ t,t<ds.length→D.getD t score0=(ds.getD t sc0).2:=fun t ht=>by rw [hD];exact Uf _ _ ht _ _
 have hok:∀ x∈D,SheetOk x.sh∧IsMem x.sh (memS x.sh):=fun x hx=>⟨(hdec.ok h32 hx).sheet,Zy (hdec.ok h32 hx).sheet⟩
 have hlcs:∀ x∈D,x.sh.hc.length≤1000∧x.sh.ac.length≤1000:=fun x hx=>by
  have h1:=(hok x hx).1.2.2.2.2.2.2.2.1.1
  have h2:=(hok x hx).1.2.2.2.2.2.2.2.2.1.1
  omega
 refine Bj (X:=Nat×List FSusp×Option Addr×Nat×Ro) (fun x=>x.1≤ds.length∧Le h1 x.2.2.2.2∧x.2.1=suspN D x.1) (fun x=>ds.length-x.1)
  (fun x=>[(9,.int .i64 x.1),(8,.slice A3 ds.length c3),(7,.slice x.2.2.1 x.2.1.length x.2.2.2.1)])
  (fun x=>[OwnS 88 6 (.slice x.2.2.1 x.2.1.length x.2.2.2.1) x.2.1.length (x.2.1.flatMap encSu)]) (fun x=>x.2.2.2.2) (0,[],some ⟨b8,0,none⟩,0,h1) ⟨by dsimp only;omega,Le.refl _,by rw [suspN_0]⟩ QS QT rfl ?_
 rintro ⟨i,out,A4,c4,hh⟩ ⟨hi,hle,ho⟩ ih
 dsimp only at hi hle ho ih ⊢
 have hol:=Mn hok (i:=i) (by omega)
 rw [← ho] at hol
 by_cases hin:i<ds.length
 · have a1:=hsl.addrD hin
   have c1:CellsAt hh ((addrD A3).add (i * ty84.size)) (encSc (ds.getD i sc0)):=(hsl.cellsD sc0 hin).le hle
   have hax:=(hat _ (mem7 sc0 hin)).le hle
   have hDx:=hDg i hin
   have hxm:=mem7 score0 (show i<D.length by omega)
   have hoX:=hok _ hxm
   have hlc:=hlcs _ hxm
   have hsA:suspN D (i+1)=suspN D i++(memS (D.getD i score0).sh).flatMap (suspOne (D.take i) (D.drop (i+1)) (D.getD i score0)):=Fl D i
   rw [hDx] at hoX hsA hlc
   have hx0:ds.getD i sc0=((ds.getD i sc0).1,(ds.getD i sc0).2):=rfl
   obtain ⟨⟨s,x⟩,hxe⟩:∃ q,q=ds.getD i sc0:=⟨_,rfl⟩
   rw [← hxe] at c1 hax hoX hsA hlc hDx
   clear hxe hx0 hxm
   dsimp only at hoX hsA hax hlc hDx
   have hxs:=hax.1
   repeat' (first|apply Ac|apply Av|apply Ag|apply Aa|apply Ab|(apply Ad;(iterate 3 exact J))|(apply Be;exact J;exact J;(first|(apply Az (j:=i);(iterate 5 exact J);exact a1;(with_reducible exact J);omega)|(apply Aq;exact J;exact Bz rfl c1 rfl));exact QA)|(apply Ai;(iterate 3 exact J);(first|(apply Ba;exact J;exact has88;exact Bsa _ s x.sh (hxs.le QL) hoX.1;rintro vm h3 hle3 ⟨A5,c5,A6,c6,rfl,hwho,hclb⟩;skip)))|(apply Af;exact J;all_goals (intro hc;try simp only [hcS,reduceCtorEq] at hc;try (exfalso;omega))))
   all_goals (try (exfalso;omega))
   have hml:=Rf hoX.1 hoX.2
   obtain ⟨ms,hmsE⟩:∃ ms,ms=memS x.sh:=⟨_,rfl⟩
   rw [← hmsE] at hwho hclb hsA hml ⊢
   refine Bj (X:=Nat×List FSusp×Option Addr×Nat×Ro) (fun y=>y.1≤ms.length∧Le h3 y.2.2.2.2∧y.2.1=suspN D i++(ms.take y.1).flatMap (suspOne (D.take i) (D.drop (i+1)) x)∧y.2.1.length≤out.length+y.1) (fun y=>ms.length-y.1)
    (fun y=>[(12,.int .i64 y.1),(10,.slice A5 ms.length c5),(11,.slice A6 ms.length c6),(9,.int .i64 i),(8,.slice A3 ds.length c3),(7,.slice y.2.2.1 y.2.1.length y.2.2.2.1)])
    (fun y=>[OwnS 88 6 (.slice y.2.2.1 y.2.1.length y.2.2.2.1) y.2.1.length (y.2.1.flatMap encSu)]) (fun y=>y.2.2.2.2) (0,out,A4,c4,h3) ⟨by dsimp only;omega,Le.refl _,by rw [ho];simp,by dsimp only;omega⟩ QS QT rfl ?_
   rintro ⟨k,ou,A7,c7,h4⟩ ⟨hk,hle4,ho4,hol4⟩ ih2
   dsimp only at hk hle4 ho4 hol4 ih2 ⊢
   by_cases hkn:k<ms.length
   · have a2:=hwho.addrD hkn
     have a3:=hclb.addrD hkn
     have c2:CellsAt h4 ((addrD A5).add (k * ty3.size)) (encI ((ms.map (·.1)).getD k 0)):=(hwho.cellsD 0 hkn).le hle4
     have c3':CellsAt h4 ((addrD A6).add (k * ty3.size)) (encI ((ms.map (·.2)).getD k 0)):=(hclb.cellsD 0 hkn).le hle4
     rw [Uf _ ms hkn m0] at c2 c3'
     have et2:=Cl m0 (xs:=ms) rfl hkn
     have hle0:Le hh h4:=QL
     have c1':=c1.le hle0
     have hxs4:=hxs.le hle0
     generalize ms.getD k m0=y at *
     obtain ⟨p,cl⟩:=y
     dsimp only at c2 c3'
     have hb1:=We (D.take i) p
     rw [List.length_take] at hb1
     have hb2:=Jw x.sh p
     have hfm:(ms.take (k+1)).flatMap (suspOne (D.take i) (D.drop (i+1)) x)=(ms.take k).flatMap (suspOne (D.take i) (D.drop (i+1)) x)++suspOne (D.take i) (D.drop (i+1)) x (p,cl):=by rw [et2,List.flatMap_append];simp
     have hcont:=fun ou' A' c' h' (hl:Le h4 h') (he:ou'=ou++suspOne (D.take i) (D.drop (i+1)) x (p,cl)) (hl2:ou'.length≤ou.length+1)=>ih2 (k+1,ou',A',c',h') ⟨by dsimp only;omega,hle4.trans hl,by dsimp only;rw [he,ho4,hfm,List.append_assoc],by dsimp only;omega⟩ (by dsimp only;omega)
     dsimp only at hcont
     have hno:=Pd (pre:=D.take i) (post:=D.drop (i+1)) (x:=x) (m:=(p,cl))
     have hnn:=Lc (pre:=D.take i) (post:=D.drop (i+1)) (x:=x) (m:=(p,cl))
     have hye:=fun z=>Mm (pre:=D.take i) (post:=D.drop (i+1)) (x:=x) (m:=(p,cl)) (z:=z)
     dsimp only at hno hnn hye
     have hct:=fun h' (hl:Le h4 h')=>Bda h' s x.sh (hxs4.le hl) hlc p
     clear ih2 ih hfm et2 ho4 hsA ho
     repeat' (first|apply Ac|apply Av|apply Ag|apply Aa|apply Ab|(apply Ad;(iterate 3 exact J))|(apply Af;exact J;all_goals (intro hc;try simp only [hcS,reduceCtorEq] at hc;try (exfalso;omega))))
     all_goals (try (exfalso;omega))
     refine Bj (X:=Nat×Ro) (fun y=>y.1≤i∧Le h4 y.2) (fun y=>i-y.1)
      (fun y=>[(14,.int .i64 y.1),(13,.int .i64 (yelC (D.take y.1) p)),(12,.int .i64 k),(10,.slice A5 ms.length c5),(11,.slice A6 ms.length c6),(9,.int .i64 i),(8,.slice A3 ds.length c3),(7,.slice A7 ou.length c7)])
      (fun y=>[OwnS 88 6 (.slice A7 ou.length c7) ou.length (ou.flatMap encSu)]) (fun y=>y.2) (0,h4) ⟨by dsimp only;omega,Le.refl _⟩ (by rw [List.take_zero,yelC_0];exact QS) QT rfl ?_
     rintro ⟨nn,h5⟩ ⟨hnn5,hle5⟩ ih3
     dsimp only at hnn5 hle5 ih3 ⊢
     by_cases hni:nn<i
     · have hnd:nn<ds.length:=by omega
       have aN:=hsl.addrD hnd
       have cN:CellsAt h5 ((addrD A3).add (nn * ty84.size)) (encSc (ds.getD nn sc0)):=(hsl.cellsD sc0 hnd).le (hle.trans (hle0.trans hle5))
       have hxN:=((hat _ (mem7 sc0 hnd)).le (hle.trans (hle0.trans hle5))).1
       have hDN:=hDg nn hnd
       have hlN:=hlcs _ (mem7 score0 (show nn<D.length by omega))
       have etN:=Cl score0 (xs:=D) rfl (show nn<D.length by omega)
       rw [hDN] at hlN etN
       have cK:=c2.le hle5
       generalize ds.getD nn sc0=z at *
       obtain ⟨sN,xN⟩:=z
       dsimp only at hxN hlN etN
       have hy:=Ja (D.take nn) xN p
       rw [← etN] at hy
       have hbN:=We (D.take nn) p
       rw [List.length_take] at hbN
       have hbc:=Jw xN.sh p
       have h9:=fun h' (hl:Le h5 h')=>ih3 (nn+1,h') ⟨by dsimp only;omega,hle5.trans hl⟩ (by dsimp only;omega)
       dsimp only at h9
       rw [hy] at h9
       have hcN:=fun h' (hl:Le h5 h')=>Bda h' sN xN.sh (hxN.le hl) hlN p
       generalize yelC (D.take nn) p=yn at *
       generalize cardsF xN.sh p=qn at *
       clear ih3 hcont hno hnn hye hct hy etN
       repeat' (first|apply Ac|apply Av|apply Ah|apply Ag|apply Aa|apply Ab|(apply Bf;(iterate 3 exact J);omega;exact J;exact J)|(apply Ad;(iterate 3 exact J))|(apply Bd (n:=14) [0,1,2,3,4,5,6,7,8,9,10,11,13,12,14] [(0,0),(1,0),(2,0),(3,0),(4,0),(5,0),(6,0),(7,0),(8,0),(9,1),(10,0),(11,0),(12,0),(13,0),(14,0)];kernel_rfl)|(apply Ca;exact J;kernel_rfl;(iterate 3 exact J))|(apply Ce;exact J;kernel_rfl;exact J;exact J;(first|(apply Az (j:=nn) (n:=ds.length);(iterate 5 exact J);exact aN;(with_reducible exact J);omega)|(apply Az (j:=k) (n:=ms.length);(iterate 5 exact J);exact a2;(with_reducible exact J);omega)|(apply Aq;exact J;apply Bz;exact J;(with_reducible exact cN);exact J)|(apply Aq;exact J;apply Bh;exact J;(with_reducible exact cK);exact J));exact QA)|(apply Bp;exact J;kernel_rfl;(iterate 3 exact J);(first|(apply Ba;exact J;exact has49;exact hcN _ QL;rintro v6 h6 hle6 rfl;refine ⟨hle6,QN,?_⟩)))|(apply Bk;kernel_rfl;exact J)|(apply Af;exact J;all_goals (intro hc;try simp only [hcS,reduceCtorEq] at hc;try (exfalso;omega))))
       all_goals first
        | (exfalso;omega)
        | (have h9:=h9 h6 hle6
           refine Bn QS QT (h9))
     · have hni2:nn=i:=by omega
       subst hni2
       clear ih3
       have cK:=c2.le hle5
       have cI:=c1'.le hle5
       have hct:=fun h' (hl:Le h5 h')=>hct h' (hle5.trans hl)
       have hcont:=fun ou' A' c' h' (hl:Le h5 h')=>hcont ou' A' c' h' (hle5.trans hl)
       generalize hqq:cardsF x.sh p=q at *
       generalize hyy:yelC (D.take nn) p=y0 at *
       obtain ⟨qy,qr⟩:=q
       dsimp only at hb2 hno hye hct
       by_cases hE:Earn y0 qy qr
       · cases qr
         case' false=>have hE2:=hE.resolve_left (by simp)
         all_goals (repeat' (first|apply Ac|apply Av|apply Ag|apply Aa|apply Ab|(apply Bl;exact J)|(apply Be;exact J;exact J;(first|(apply Ky;(iterate 3 exact J);omega;omega));exact QA)|(apply Au;exact J;exact J)|(apply Bf;(iterate 3 exact J);omega;exact J;exact J)|(apply Ad;(iterate 3 exact J))|(apply Bd (n:=16) [0,1,2,3,4,5,6,7,8,9,10,11,13,12,14] [(0,0),(1,0),(2,0),(3,0),(4,0),(5,0),(6,0),(7,0),(8,0),(9,1),(10,0),(11,0),(12,0),(13,0),(14,0)];kernel_rfl)|(apply Ca;exact J;kernel_rfl;(iterate 3 exact J))|(apply Ce;exact J;kernel_rfl;exact J;exact J;(first|(apply Az (j:=nn) (n:=ds.length);(iterate 5 exact J);exact a1;(with_reducible exact J);omega)|(apply Az (j:=k) (n:=ms.length);(iterate 5 exact J);exact a2;(with_reducible exact J);omega)|(apply Aq;exact J;apply Bz;exact J;(with_reducible exact cI);exact J)|(apply Aq;exact J;apply Bh;exact J;(with_reducible exact cK);exact J));exact QA)|(apply Bp;exact J;kernel_rfl;(iterate 3 exact J);(first|(apply Ba;exact J;exact has49;exact hct _ QL;rintro v6 h6 hle6 rfl;refine ⟨hle6,QN,?_⟩)))|(apply Bk;kernel_rfl;exact J)|(apply Af;exact J;all_goals (intro hc;try simp only [hcS,reduceCtorEq] at hc;try (exfalso;omega)))))
         all_goals (try (exfalso;omega))
         all_goals
          clear hct hno
          refine Bj (X:=Nat) (fun m=>nn+1≤m∧m≤ds.length∧nextC (D.drop m) cl=nextC (D.drop (nn+1)) cl) (fun m=>ds.length-m)
           (fun m=>[(19,.int .i64 m),(12,.int .i64 k),(10,.slice A5 ms.length c5),(11,.slice A6 ms.length c6),(9,.int .i64 nn),(8,.slice A3 ds.length c3),(7,.slice A7 ou.length c7)])
           (fun m=>[OwnS 88 6 (.slice A7 ou.length c7) ou.length (ou.flatMap encSu)]) (fun _=>h6) (nn+1) ⟨by omega,by omega,rfl⟩ QS QT rfl ?_
          rintro m ⟨hm1,hm2,hnx⟩ ih6
          by_cases hmn:m<ds.length
          · have aM:=hsl.addrD hmn
            have cM:CellsAt h6 ((addrD A3).add (m * ty84.size)) (encSc (ds.getD m sc0)):=(hsl.cellsD sc0 hmn).le QL
            have hDM:=hDg m hmn
            have cK6:=cK.le hle6
            have cL6:=(c3'.le hle5).le hle6
            by_cases hpl:(ds.getD m sc0).2.sh.g.h=cl∨(ds.getD m sc0).2.sh.g.a=cl
            · have e:=next_hit (D:=D) (m:=m) (cl:=cl) (by omega) (by rw [hDM];exact hpl)
              rw [hDM] at e
              have hs1:=hye _ hE (hnx.symm.trans e)
              clear e hDM ih6
              generalize ds.getD m sc0=z at *
              by_cases hq1:z.2.sh.g.h=cl
              all_goals (repeat' (first|apply Ac|apply Av|apply Ah|apply Ag|apply Aa|apply Ab|(apply Bl;exact J)|(apply Bf;(iterate 3 exact J);omega;exact J;exact J)|(apply Ad;(iterate 3 exact J))|(apply Be;exact J;exact J;(first|(apply Az (j:=m) (n:=ds.length);(iterate 5 exact J);exact aM;(with_reducible exact J);omega)|(apply Aq;exact J;apply By;exact J;(with_reducible exact cM);exact J));exact QA)|(apply Ai;(iterate 3 exact J);(first|(apply Aj;(iterate 3 exact J);exact QR;(iterate 3 exact J);skip)|(apply Ap;exact J;intro b;skip)))|(apply Bd (n:=22) [0,1,2,3,4,5,6,7,8,9,10,11,12,13,14,15] [(0,0),(1,0),(2,0),(3,0),(4,0),(5,0),(6,0),(7,0),(8,0),(9,0),(10,0),(11,0),(12,0),(13,0),(14,0),(15,0)];kernel_rfl)|(apply Bd (n:=23) [0,1,2,3,4,5,6,7,8,9,10,11,12,13] [(0,0),(1,0),(2,0),(3,0),(4,0),(5,0),(6,0),(7,0),(8,0),(9,0),(10,0),(11,1),(12,1),(13,0)];kernel_rfl)|(apply Gw;exact J;kernel_rfl;exact J;exact J)|(apply Ca;exact J;kernel_rfl;(iterate 3 exact J))|(apply Bo;exact J;kernel_rfl;(iterate 3 exact J);exact QM;exact J;exact J)|(apply Ce;exact J;kernel_rfl;exact J;exact J;(first|(apply Az (j:=k) (n:=ms.length) (A:=A5);(iterate 5 exact J);exact a2;(with_reducible exact J);omega)|(apply Az (j:=k) (n:=ms.length) (A:=A6);(iterate 5 exact J);exact a3;(with_reducible exact J);omega)|(apply Aq;exact J;apply Bh;exact J;(with_reducible exact cK6);exact J)|(apply Aq;exact J;apply Bh;exact J;(with_reducible exact cL6);exact J));exact QA)|(apply Bp;exact J;kernel_rfl;(iterate 3 exact J);(first|(apply At (enc:=encSu) (n:=1) [⟨p,cl,z.2.sh.g⟩];(iterate 3 exact J);exact List.cons_ne_nil _ _;(iterate 4 exact J);exact fun _=>rfl;exact J;exact J;intro b9 h9 hle9 hs9;refine ⟨hle9,QN,?_⟩)|(apply Bg (enc:=encSu) (xs:=ou);(iterate 7 exact J);exact hs9;exact fun _=>rfl;exact fun x=>Bv rfl;intro v1;exact QR;omega;exact J;intro A9 c9;refine ⟨Le.refl _,QN,?_⟩)))|(apply Bk;kernel_rfl;exact J)|(apply Cf;(iterate 5 exact J);all_goals (intro hc;try simp only [hcS,reduceCtorEq] at hc;try (exfalso;omega)))|(apply Af;exact J;all_goals (intro hc;try simp only [hcS,reduceCtorEq] at hc;try (exfalso;omega)))))
              all_goals first
               | (exfalso;omega)
               | (have h7:=hcont (ou++[⟨p,cl,z.2.sh.g⟩]) A9 c9 h9 (hle6.trans hle9) (by rw [hs1]) (by simp)
                  rw [List.length_append] at h7
                  refine Bn QS QT (h7))
            · have e:=next_skip (D:=D) (m:=m) (cl:=cl) (by omega) (by rw [hDM];exact hpl)
              have h7:=ih6 (m+1) ⟨by omega,by omega,e.symm.trans hnx⟩ (by omega)
              clear e hDM ih6 hnx
              generalize ds.getD m sc0=z at *
              have hq1:z.2.sh.g.h≠cl:=fun w=>hpl (.inl w)
              have hq2:z.2.sh.g.a≠cl:=fun w=>hpl (.inr w)
              repeat' (first|apply Ac|apply Av|apply Ah|apply Ag|apply Aa|apply Ab|(apply Bf;(iterate 3 exact J);omega;exact J;exact J)|(apply Ad;(iterate 3 exact J))|(apply Be;exact J;exact J;(first|(apply Az (j:=m) (n:=ds.length);(iterate 5 exact J);exact aM;(with_reducible exact J);omega)|(apply Aq;exact J;apply By;exact J;(with_reducible exact cM);exact J));exact QA)|(apply Ai;(iterate 3 exact J);(first|(apply Aj;(iterate 3 exact J);exact QR;(iterate 3 exact J);skip)|(apply Ap;exact J;intro b;skip)))|(apply Bd (n:=22) [0,1,2,3,4,5,6,7,8,9,10,11,12,13,14,15] [(0,0),(1,0),(2,0),(3,0),(4,0),(5,0),(6,0),(7,0),(8,0),(9,0),(10,0),(11,0),(12,0),(13,0),(14,0),(15,0)];kernel_rfl)|(apply Ca;exact J;kernel_rfl;(iterate 3 exact J))|(apply Bo;exact J;kernel_rfl;(iterate 3 exact J);exact QM;exact J;exact J)|(apply Ce;exact J;kernel_rfl;exact J;exact J;(first|(apply Az (j:=k) (n:=ms.length) (A:=A6);(iterate 5 exact J);exact a3;(with_reducible exact J);omega)|(apply Aq;exact J;apply Bh;exact J;(with_reducible exact cL6);exact J));exact QA)|(apply Bk;kernel_rfl;exact J)|(apply Cf;(iterate 5 exact J);all_goals (intro hc;try simp only [hcS,reduceCtorEq] at hc;try (exfalso;omega)))|(apply Af;exact J;all_goals (intro hc;try simp only [hcS,reduceCtorEq] at hc;try (exfalso;omega))))
              all_goals first
               | (exfalso;omega)
               | (refine Bn QS QT (h7))
          · have hs1:=hnn (hnx.symm.trans (next_end (by omega)))
            have h7:=hcont ou A7 c7 h6 hle6 (by rw [hs1,List.append_nil]) (by omega)
            clear ih6
            repeat' (first|apply Ac|apply Ah|apply Aa|apply Ab|(apply Bl;exact J)|(apply Bf;(iterate 3 exact J);omega;exact J;exact J)|(apply Ad;(iterate 3 exact J))|(apply Af;exact J;all_goals (intro hc;try simp only [hcS,reduceCtorEq] at hc;try (exfalso;omega))))
            all_goals first
             | (exfalso;omega)
             | (refine Bn QS QT (h7))
       · have hs1:=hno hE
         have hcont:=fun h6 (hl:Le h5 h6)=>hcont ou A7 c7 h6 hl (by rw [hs1,List.append_nil]) (by omega)
         cases qr
         case' true=>exact absurd (.inl rfl) hE
         have hE2:(y0+qy) / 5=y0 / 5:=Classical.byContradiction fun w=>hE (.inr w)
         repeat' (first|apply Ac|apply Aa|apply Ab|(apply Bl;exact J)|(apply Be;exact J;exact J;(first|(apply Ky;(iterate 3 exact J);omega;omega));exact QA)|(apply Bf;(iterate 3 exact J);omega;exact J;exact J)|(apply Ad;(iterate 3 exact J))|(apply Bd (n:=16) [0,1,2,3,4,5,6,7,8,9,10,11,13,12,14] [(0,0),(1,0),(2,0),(3,0),(4,0),(5,0),(6,0),(7,0),(8,0),(9,1),(10,0),(11,0),(12,0),(13,0),(14,0)];kernel_rfl)|(apply Ca;exact J;kernel_rfl;(iterate 3 exact J))|(apply Ce;exact J;kernel_rfl;exact J;exact J;(first|(apply Az (j:=nn) (n:=ds.length);(iterate 5 exact J);exact a1;(with_reducible exact J);omega)|(apply Az (j:=k) (n:=ms.length);(iterate 5 exact J);exact a2;(with_reducible exact J);omega)|(apply Aq;exact J;apply Bz;exact J;(with_reducible exact cI);exact J)|(apply Aq;exact J;apply Bh;exact J;(with_reducible exact cK);exact J));exact QA)|(apply Bp;exact J;kernel_rfl;(iterate 3 exact J);(first|(apply Ba;exact J;exact has49;exact hct _ QL;rintro v6 h6 hle6 rfl;refine ⟨hle6,QN,?_⟩)))|(apply Bk;kernel_rfl;exact J)|(apply Af;exact J;all_goals (intro hc;try simp only [hcS,reduceCtorEq] at hc;try (exfalso;omega))))
         all_goals first
          | (exfalso;omega)
          | (exfalso;simp at hc;done)
          | (have h7:=hcont h6 hle6
             refine Bn QS QT (h7))
   · rw [show ms.take k=ms from List.take_of_length_le (by omega),← hsA] at ho4
     have h7:=ih (i+1,ou,A7,c7,h4) ⟨by dsimp only;omega,QL,ho4⟩ (by dsimp only;omega)
     dsimp only at h7
     clear ih ih2
     repeat' (first|apply Ac|apply Ah|apply Aa|apply Ab|(apply Bl;exact J)|(apply Bf;(iterate 3 exact J);omega;exact J;exact J)|(apply Ad;(iterate 3 exact J))|(apply Af;exact J;all_goals (intro hc;try simp only [hcS,reduceCtorEq] at hc;try (exfalso;omega))))
     all_goals first
      | (exfalso;omega)
      | (refine Bn QS QT (h7))
 · have hil:i=ds.length:=by omega
   have hsc:suspC D=out:=by
    rw [ho,hil,← hDl]
    unfold suspC;rfl
   rw [hsc]
   clear ih
   refine Db (enc:=encSu) (e:=88) (sz:=6) (n:=out.length) (xs:=out) (fun _=>rfl) rfl QK ?_
   intro A7 c7 h7 hle7 e7 hnc7 hs7
   cases e7
   repeat' (first|apply Ac|apply Aa|apply Ab|(apply Bl;exact J)|(apply Ad;(iterate 3 exact J))|(apply Af;exact J;all_goals (intro hc;try simp only [hcS,reduceCtorEq] at hc;try (exfalso;omega))))
   all_goals first
    | (exfalso;omega)
    | (exact Bt rfl rfl rfl ⟨A4,c4,rfl,hs7,by omega⟩)
end Go.Hw

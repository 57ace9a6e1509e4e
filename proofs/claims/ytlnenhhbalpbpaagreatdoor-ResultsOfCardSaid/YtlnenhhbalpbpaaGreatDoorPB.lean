import Derived.Test.YtlnenhhbalpbpaaGreatDoorSB
import Derived.Test.YtlnenhhbalpbpaaGreatDoorVF
import Derived.Test.YtlnenhhbalpbpaaGreatDoorVA
import Derived.Test.YtlnenhhbalpbpaaGreatDoorGC
import Derived.Test.YtlnenhhbalpbpaaGreatDoorFH
import Derived.Test.YtlnenhhbalpbpaaGreatDoorPA
set_option linter.all false
set_option maxRecDepth 100000
set_option maxHeartbeats 8000000
namespace Go.Hw
open Go
attribute [local irreducible] GO GOl GDp Val Fn Res Ab Du Blk Bd Cd Bf Has Yl Ik Bn Lt Kk Ew Up Db Gq ofF
open Go.Proofs.Tryz (prog)
open Classical in
theorem Aoa (h:Ro)(hG:Iv h)(A:Option Addr)(n c:Nat)(l:List (Fsh×Fct))(hx:Au h A n l)(s co:Int):Res prog 20 #[.slice A n c,.int .i64 s,.int .i64 co] h (fun u _=>∃ z ok,u=.tuple #[Ug z.1 z.2,.bool ok]∧LastI l (Zp (fcs l) s co) z ok):=by
 refine QXR Proofs.Tryz.func20 fun w0 X0=>?_
 have hlen:=hx.row.len
 have hn:=hx.small
 repeat' (first|refine QC ?_|(apply Bo;(iterate 3 exact J);apply At (e:=42);exact J;intro b6)|(apply Bo;(iterate 3 exact J);apply At (e:=57);exact J;intro bL)|refine QD ?_|fail)
 refine Ai (X:=Nat×(Fsh×Fct)×Bool×Ro) (fun x=>x.1≤n∧Le h x.2.2.2∧LastI l (Zp (fcs (l.take x.1)) s co) x.2.1 x.2.2.1) (fun x=>n-x.1)
  (fun x=>[(13,.int .i64 x.1),(12,.int .i64 n),(11,.slice A n c),(7,.bool x.2.2.1),(1,.int .i64 s),(2,.int .i64 co),(8,Kr bL),(6,Kr b6)])
  (fun x=>[Blk bL 57 (Df x.2.1.1 x.2.1.2),Blk b6 42 (Bz ty42.zero)]) (fun x=>x.2.2.2) (0,(Ga,Ef),false,h) ⟨by dsimp only;omega,Le.refl _,.inl ⟨by rw [List.take_zero];unfold Zp entL;rfl,rfl,rfl⟩⟩ QS QT rfl ?_
 rintro ⟨k,z,ok,hh⟩ ⟨hk,hle,hI⟩ ih
 dsimp only at hk hle hI ih ⊢
 by_cases hkn:k<n
 · have a1:=hx.row.addrD hkn
   have c1:Ab hh ((addrD A).add (k * Ara.size)) (Aq (l.getD k p0)):=(hx.row.cellsD p0 hkn).le hle
   have et:=Cb p0 (xs:=l) rfl (show k<l.length by omega)
   have hmx:=mem7 p0 (show k<l.length by omega)
   have hfa:=(hx.fat _ hmx)
   have es:fcs (l.take (k+1))=fcs (l.take k)++[(l.getD k p0).2]:=by rw [et,Nx]
   have hsn:=Qy (fcs (l.take k)) s co (l.getD k p0).2
   rw [← es] at hsn
   have hz:ok=true→FAt hh z.1 z.2∧FSm z.2∧Bm z.2:=fun e=>by
    rcases hI with ⟨_,_,w⟩|⟨_,w1,w2,_⟩
    · rw [w] at e;cases e
    · exact ⟨(hx.fat _ w1).1.le hle,(hx.fat _ w1).2,w2⟩
   generalize l.getD k p0=p at *
   obtain ⟨ps,pf⟩:=p
   obtain ⟨zs,zf⟩:=z
   dsimp only at hsn hfa hz
   have c1:Ab hh ((addrD A).add (k * Ara.size)) (Df ps pf):=c1
   have hck:=fun h' (hl:Le hh h')=>Ob h' ps pf (hfa.1.le (hle.trans hl)) hfa.2
   by_cases hv:Cpa s co pf
   · rw [if_pos hv] at hsn
     obtain ⟨e1,e2,e3,hok⟩:=hv
     simp only [if_pos hok] at hck
     rcases hI with ⟨i1,i2,rfl⟩|⟨i1,i2,i3,rfl⟩
     · rw [i1] at hsn
       have h3:=fun h' (hl:Le hh h')=>ih (k+1,(ps,pf),true,h') ⟨by dsimp only;omega,hle.trans hl,.inr ⟨hsn,hmx,hok,rfl⟩⟩ QAh
       dsimp only at h3
       cases i2
       clear ih hz
       repeat' (first|refine QFs ?_|(apply Af;exact J;exact J;(first|exact QAc|exact QAf);exact QA)|(refine QB ?_;intro b)|(refine QG ?_;first|(refine QBe ?_))|(refine QH ?_ ?_<;>intro hc<;>try omega)|refine QJ ?_|(refine QI ?_ ?_<;>intro hc<;>try omega)|fail)
       all_goals first
        | (exfalso;omega)
        | (exfalso;simp at hc;done)
        | (have h4:=h3 _ QAa
           refine Aj QS QT (h4))
     · obtain ⟨z1,z2,z3⟩:=hz rfl
       have hcm:=fun h' (hl:Le hh h')=>La h' (hG.le (hle.trans hl)) zs ps zf pf (z1.le hl) z2 (hfa.1.le (hle.trans hl)) hfa.2 z3 hok
       rw [i1] at hsn
       unfold Uc at hsn
       dsimp only at hsn
       by_cases hc9:Gp zf pf<0
       · rw [if_pos hc9] at hsn
         have h3:=fun h' (hl:Le hh h')=>ih (k+1,(ps,pf),true,h') ⟨by dsimp only;omega,hle.trans hl,.inr ⟨hsn,hmx,hok,rfl⟩⟩ QAh
         dsimp only at h3
         clear ih hz
         repeat' (first|refine QFs ?_|(apply Af;exact J;exact J;(first|exact QAc|exact QAf);exact QA)|(refine QB ?_;intro b)|(refine QG ?_;first|(refine QBe ?_)|(refine QEx ?_;rintro vr hr1 hle5 rfl))|(refine QH ?_ ?_<;>intro hc<;>try omega)|refine QJ ?_|(refine QI ?_ ?_<;>intro hc<;>try omega)|fail)
         all_goals first
          | (exfalso;omega)
          | (exfalso;simp at hc;done)
          | (have h4:=h3 hr1 hle5
             refine Aj QS QT (h4))
       · rw [if_neg hc9] at hsn
         have h3:=fun h' (hl:Le hh h')=>ih (k+1,(zs,zf),true,h') ⟨by dsimp only;omega,hle.trans hl,.inr ⟨hsn,i2,i3,rfl⟩⟩ QAh
         dsimp only at h3
         clear ih hz
         repeat' (first|refine QFs ?_|(apply Af;exact J;exact J;(first|exact QAc|exact QAf);exact QA)|(refine QB ?_;intro b)|(refine QG ?_;first|(refine QBe ?_)|(refine QEx ?_;rintro vr hr1 hle5 rfl))|(refine QH ?_ ?_<;>intro hc<;>try omega)|refine QJ ?_|(refine QI ?_ ?_<;>intro hc<;>try omega)|fail)
         all_goals first
          | (exfalso;omega)
          | (exfalso;simp at hc;done)
          | (have h4:=h3 hr1 hle5
             refine Aj QS QT (h4))
   · rw [if_neg hv] at hsn
     have h3:=fun h' (hl:Le hh h')=>ih (k+1,(zs,zf),ok,h') ⟨by dsimp only;omega,hle.trans hl,by dsimp only;rw [hsn];exact hI⟩ QAh
     dsimp only at h3
     clear ih hz hI
     by_cases hb:pf.kind=1∧pf.eS=s∧pf.eC=co
     · obtain ⟨e1,e2,e3⟩:=hb
       simp only [if_neg (show ¬ Bm pf from fun w=>hv ⟨e1,e2,e3,w⟩)] at hck
       repeat' (first|refine QFs ?_|(apply Af;exact J;exact J;(first|exact QAc|exact QAf);exact QA)|(refine QB ?_;intro b)|(refine QG ?_;first|(refine QBe ?_))|(refine QH ?_ ?_<;>intro hc<;>try omega)|refine QJ ?_|(refine QI ?_ ?_<;>intro hc<;>try omega)|fail)
       all_goals first
        | (exfalso;omega)
        | (exfalso;simp at hc;done)
        | (have h4:=h3 _ QAa
           refine Aj QS QT (h4))
     · repeat' (first|refine QFs ?_|(apply Af;exact J;exact J;(first|exact QAc|exact QAf);exact QA)|(refine QB ?_;intro b)|(refine QH ?_ ?_<;>intro hc<;>try omega)|refine QJ ?_|(refine QI ?_ ?_<;>intro hc<;>try omega)|fail)
       all_goals first
        | (exfalso;exact hb ⟨by assumption,by assumption,by assumption⟩)
        | (exfalso;omega)
        | (have h4:=h3 _ QAa
           refine Aj QS QT (h4))
 · rw [List.take_of_length_le QAd] at hI
   clear ih
   repeat' (first|refine QFs ?_|(refine QH ?_ ?_<;>intro hc<;>try omega)|fail)
   all_goals first
    | (exfalso;omega)
    | (exact Dw rfl rfl rfl QM rfl rfl rfl ⟨z,ok,rfl,hI⟩)
    | (exact Cs rfl rfl rfl rfl ⟨z,ok,rfl,hI⟩)
end Go.Hw
namespace Go.Hw
open Go
attribute [local irreducible] GO GOl GDp Val Fn Res Ab Du Blk Bd Cd Bf Has Yl Ik Bn Lt Kk Ew Up Db Gq ofF
open Go.Proofs.Tryz (prog)
theorem openE_bad {L:List Fct}{s c:Int}(h:¬ (0≤s∧s<64∧0≤c∧c<8)):Pi L s c=[]∧Se L s c=1:=by
 unfold Pi Se
 rw [if_neg h,if_neg h];exact ⟨rfl,rfl⟩
theorem K0a {L:List Fct}{s c:Int}(h:0≤s∧s<64∧0≤c∧c<8)(he:Zp L s c=none):Pi L s c=[]∧Se L s c=190:=by
 unfold Pi Se
 rw [if_pos h,if_pos h,he];exact ⟨rfl,rfl⟩
theorem Kza {L:List Fct}{s c:Int}(h:0≤s∧s<64∧0≤c∧c<8){f:Fct}(he:Zp L s c=some f):Pi L s c=Ln L s c f.eClubs f.eClubs∧Se L s c=0:=by
 unfold Pi Se
 rw [if_pos h,if_pos h,he];exact ⟨rfl,rfl⟩
theorem openK_0 (L:List Fct)(s c:Int)(aa:List Int):Ln L s c [] aa=[]:=rfl
open Classical in
theorem openH_0 (L:List Fct)(s c h:Int):Jr L s c h []=[]:=rfl
theorem isO_no1 {L:List Fct}{s c h a:Int}(e:h=a):¬ Ma L s c h a:=fun w=>w.1 e
theorem isO_no2 {L:List Fct}{s c h a:Int}{r:Ml}(e:ofF L ⟨s,c,h,a⟩=some r):¬ Ma L s c h a:=fun w=>by have w2:=w.2;rw [e] at w2;cases w2
theorem isO_yes {L:List Fct}{s c h a:Int}(e:h≠a)(k:ofF L ⟨s,c,h,a⟩=none):Ma L s c h a:=⟨e,k⟩
open Classical in
theorem openH_no {L:List Fct}{s c h a:Int}{aa bs:List Int}(eb:bs=aa++[a])(k:¬ Ma L s c h a):Jr L s c h bs=Jr L s c h aa:=by rw [eb,Yu,if_neg k]
open Classical in
theorem openH_yes {L:List Fct}{s c h a:Int}{aa bs:List Int}(eb:bs=aa++[a])(k:Ma L s c h a):Jr L s c h bs=Jr L s c h aa++[⟨s,c,h,a⟩]:=by rw [eb,Yu,if_pos k]
theorem Xp (h:Ro)(hG:Iv h)(A:Option Addr)(n c:Nat)(l:List (Fsh×Fct))(hx:Au h A n l)(s co:Int){e:Fct}(he:Zp (fcs l) s co=some e):Res prog 20 #[.slice A n c,.int .i64 s,.int .i64 co] h (fun u _=>∃ zs,u=.tuple #[Ug zs e,.bool true]∧(zs,e)∈l) :=
 (Aoa h hG A n c l hx s co).mono fun u h2 _ ⟨z,ok,q0,q⟩=>by
   rw [he] at q
   rcases q with ⟨q1,_⟩|⟨q1,q2,_,q4⟩
   · cases q1
   · obtain ⟨zs,zf⟩:=z
     injection q1 with q1
     dsimp only at q1 q2 q0
     subst q1;subst q4
     exact ⟨zs,q0,q2⟩
theorem Hwa (h:Ro)(hG:Iv h)(A:Option Addr)(n c:Nat)(l:List (Fsh×Fct))(hx:Au h A n l)(s co:Int)(he:Zp (fcs l) s co=none):Res prog 20 #[.slice A n c,.int .i64 s,.int .i64 co] h (fun u _=>u=.tuple #[Ug Ga Ef,.bool false]) :=
 (Aoa h hG A n c l hx s co).mono fun u h2 _ ⟨z,ok,q0,q⟩=>by
   rw [he] at q
   rcases q with ⟨_,rfl,rfl⟩|⟨q1,_⟩
   · exact q0
   · cases q1
theorem Open_c (h:Ro)(hG:Iv h)(A:Option Addr)(n c:Nat)(l:List (Fsh×Fct))(hx:Au h A n l)(hn6:n≤65536)(s co:Int):Res prog 19 #[.slice A n c,.int .i64 s,.int .i64 co] h (fun u h'=>∃ A' c',u=.tuple #[.slice A' (Pi (fcs l) s co).length c',.int .i64 (Se (fcs l) s co)]∧Ar Cx 4 h' A' (Pi (fcs l) s co).length (Pi (fcs l) s co)):=by
 refine QXR Proofs.Tryz.func19 fun w0 X0=>?_
 have h32:=Fa hx
 have hof:=fun h' (hl:Le h h') g=>Tx h' (hG.le hl) A n c l (hx.le hl) hn6 g
 by_cases hr:0≤s∧s<64∧0≤co∧co<8
 case' neg =>
  obtain ⟨e1,e2⟩:=openE_bad (L:=fcs l) hr
  rw [e1,e2]
  clear hof hx e1 e2
  repeat' (first|refine QF ?_|(refine QH ?_ ?_<;>intro hc<;>try omega)|refine QJ ?_|(refine QI ?_ ?_<;>intro hc<;>try omega)|fail)
  all_goals first
   | (exfalso;omega)
   | (exact Cs rfl rfl rfl rfl ⟨none,0,rfl,Ar.nil⟩)
 cases he:Zp (fcs l) s co with
 | none =>
   obtain ⟨e1,e2⟩:=K0a (L:=fcs l) hr he
   rw [e1,e2]
   have hen:=fun h' (hl:Le h h')=>Hwa h' (hG.le hl) A n c l (hx.le hl) s co he
   clear hof hx e1 e2 he
   repeat' (first|refine QFs ?_|(refine QB ?_;intro b)|(refine QG ?_;first|(refine QEy ?_;rintro v1 h1 hle1 rfl))|(refine QH ?_ ?_<;>intro hc<;>try omega)|refine QJ ?_|(refine QI ?_ ?_<;>intro hc<;>try omega)|fail)
   all_goals first
    | (exfalso;omega)
    | (exfalso;simp at hc;done)
    | (exact Cs rfl rfl rfl rfl ⟨none,0,rfl,Ar.nil⟩)
 | some e =>
   obtain ⟨e1,e2⟩:=Kza (L:=fcs l) hr he
   rw [e1,e2]
   have hen:=fun h' (hl:Le h h')=>Xp h' (hG.le hl) A n c l (hx.le hl) s co he
   obtain ⟨_,k1,k2,k3,hok⟩:=entF_some h32 he
   obtain ⟨hel,_⟩:=ent_clubs hok k1
   have hcl:∀ zs,(zs,e)∈l→Ar Cu 1 h zs.cl.A zs.cl.n e.eClubs:=fun zs hm=>(hx.fat _ hm).1.cl
   have hkl:=fun hs=>Dsa (fcs l) s co e.eClubs hs
   have hhl:=fun x aa=>Dta (fcs l) s co x aa
   have hks:=fun hs x=>Kya (fcs l) s co hs e.eClubs x
   have hno:=fun x a aa bs=>openH_no (L:=fcs l) (s:=s) (c:=co) (h:=x) (a:=a) (aa:=aa) (bs:=bs)
   have hye:=fun x a aa bs=>openH_yes (L:=fcs l) (s:=s) (c:=co) (h:=x) (a:=a) (aa:=aa) (bs:=bs)
   have hi1:=fun x a=>isO_no1 (L:=fcs l) (s:=s) (c:=co) (h:=x) (a:=a)
   have hi2:=fun x a r=>isO_no2 (L:=fcs l) (s:=s) (c:=co) (h:=x) (a:=a) (r:=r)
   have hi3:=fun x a=>isO_yes (L:=fcs l) (s:=s) (c:=co) (h:=x) (a:=a)
   have hz:=openK_0 (fcs l) s co e.eClubs
   have hz2:=openH_0 (fcs l) s co
   clear hx e1 e2 he k1 k2 k3 hok h32
   generalize Ln (fcs l) s co=K at *
   generalize Jr (fcs l) s co=H at *
   generalize Ma (fcs l) s co=O at *
   generalize ofF (fcs l)=F at *
   generalize hcl0:e.eClubs=cl at *
   repeat' (first|refine QC ?_|(apply Bo;(iterate 3 exact J);apply At (e:=42);exact J;intro b6)|refine QDs ?_|(refine QG ?_;first|(refine QEy ?_;rintro v1 h1 hle1 ⟨zs,rfl,hzm⟩))|(refine QH ?_ ?_<;>intro hc<;>try omega)|refine QJ ?_|(refine QI ?_ ?_<;>intro hc<;>try omega)|fail)
   all_goals (try (exfalso;omega))
   all_goals (try (exfalso;simp at hc;done))
   have hsl:=(hcl zs hzm).le hle1
   have hln:=hsl.len
   clear hen hcl hzm
   refine Fg 24 4 ?_
   refine Ai (X:=Nat×List Ak×Option Addr×Nat×Ro) (fun y=>y.1≤zs.cl.n∧Le h1 y.2.2.2.2∧y.2.1=K (cl.take y.1) cl) (fun y=>zs.cl.n-y.1)
    (fun y=>[(43,.int .i64 y.1),(42,.int .i64 zs.cl.n),(41,.slice zs.cl.A zs.cl.n zs.cl.c),(6,.slice y.2.2.1 y.2.1.length y.2.2.2.1),(8,Kr b6),(0,.slice A n c),(1,.int .i64 s),(2,.int .i64 co)])
    (fun y=>[Blk b6 42 (Bz (Ug zs e)),Bd 24 4 (.slice y.2.2.1 y.2.1.length y.2.2.2.1) y.2.1.length (y.2.1.flatMap Cx)]) (fun y=>y.2.2.2.2) (0,[],none,0,h1) ⟨by dsimp only;omega,Le.refl _,hz.symm⟩ QS QT rfl ?_
   rintro ⟨i,out,A2,c2,hh⟩ ⟨hi,hle,ho⟩ ih
   dsimp only at hi hle ho ih ⊢
   have hol:out.length≤24 * 24:=by
    have q1:=hkl (cl.take i)
    rw [← ho,List.length_take] at q1
    have q2:min i cl.length * cl.length≤24 * 24:=Nat.mul_le_mul QAd hel
    omega
   by_cases hin:i<zs.cl.n
   · have a1:=hsl.addrD hin
     have c1:Ab hh ((addrD zs.cl.A).add (i * ty3.size)) (Cu (cl.getD i 0)):=(hsl.cellsD 0 hin).le hle
     have et:=Cb 0 (xs:=cl) hln hin
     have hkn:=hks (cl.take i) (cl.getD i 0)
     rw [← et,← ho] at hkn
     generalize cl.getD i 0=x at *
     have hnx:=fun h' (hl:Le hh h') o A' c' (q:o=out++H x cl)=>ih (i+1,o,A',c',h') ⟨by dsimp only;omega,hle.trans hl,q.trans hkn.symm⟩ QAh
     dsimp only at hnx
     clear ih hkn et ho hks hkl
     repeat' (first|refine QF ?_|(apply Af;exact J;exact J;(first|(apply Cg (j:=i) (n:=zs.cl.n);(iterate 5 exact J);exact a1;(with_reducible exact J);omega)|exact QAf);exact QA)|(refine QH ?_ ?_<;>intro hc<;>try omega)|fail)
     all_goals (try (exfalso;omega))
     refine Ai (X:=Nat×List Ak×Option Addr×Nat×Ro) (fun y=>y.1≤zs.cl.n∧Le hh y.2.2.2.2∧y.2.1=out++H x (cl.take y.1)) (fun y=>zs.cl.n-y.1)
      (fun y=>[(50,.int .i64 y.1),(49,.int .i64 zs.cl.n),(48,.slice zs.cl.A zs.cl.n zs.cl.c),(11,.int .i64 x),(43,.int .i64 i),(42,.int .i64 zs.cl.n),(41,.slice zs.cl.A zs.cl.n zs.cl.c),(6,.slice y.2.2.1 y.2.1.length y.2.2.2.1),(8,Kr b6),(0,.slice A n c),(1,.int .i64 s),(2,.int .i64 co)])
      (fun y=>[Blk b6 42 (Bz (Ug zs e)),Bd 24 4 (.slice y.2.2.1 y.2.1.length y.2.2.2.1) y.2.1.length (y.2.1.flatMap Cx)]) (fun y=>y.2.2.2.2) (0,out,A2,c2,hh) ⟨by dsimp only;omega,Le.refl _,by dsimp only;rw [List.take_zero,hz2,List.append_nil]⟩ QS QT rfl ?_
     rintro ⟨j,ou,A3,c3,h3⟩ ⟨hj,hle3,ho3⟩ ihj
     dsimp only at hj hle3 ho3 ihj ⊢
     have hle03:Le h h3:=QAa
     have hol3:ou.length≤24 * 24+24:=by
      have q1:=hhl x (cl.take j)
      rw [List.length_take] at q1
      rw [ho3,List.length_append]
      omega
     by_cases hjn:j<zs.cl.n
     · have a2:=hsl.addrD hjn
       have c4:Ab h3 ((addrD zs.cl.A).add (j * ty3.size)) (Cu (cl.getD j 0)):=((hsl.cellsD 0 hjn).le hle).le hle3
       have et:=Cb 0 (xs:=cl) hln hjn
       generalize cl.getD j 0=a at *
       have hof3:=fun h' (hl:Le h3 h')=>hof h' (hle03.trans hl) ⟨s,co,x,a⟩
       have hnoj:=hno x a _ _ et
       have hyej:=hye x a _ _ et
       have hi1:=hi1 x a
       have hi2:=hi2 x a
       have hi3:=hi3 x a
       have hnj:=fun h' (hl:Le h3 h') (k:¬ O x a)=>ihj (j+1,ou,A3,c3,h') ⟨by dsimp only;omega,hle3.trans hl,by dsimp only;rw [hnoj k];exact ho3⟩ QAh
       have hyj:=fun h' (hl:Le h3 h') (k:O x a) A4 c4=>ihj (j+1,ou++[⟨s,co,x,a⟩],A4,c4,h') ⟨by dsimp only;omega,hle3.trans hl,by dsimp only;rw [hyej k,ho3,List.append_assoc]⟩ QAh
       dsimp only at hnj hyj
       clear ihj hnoj hyej hnx hno hye hof et ho3
       cases hF:F ⟨s,co,x,a⟩ with
       | some r =>
         rw [hF] at hof3
         have hq:=hi2 r hF
         clear hyj hi1 hi2 hi3 hF
         repeat' (first|refine QC ?_|(apply Bo;(iterate 3 exact J);apply At (e:=24);exact J;intro b7)|refine QDs ?_|(apply Af;exact J;exact J;(first|exact QCx|(apply Aw;exact J;exact Cy rfl c4 rfl));exact QA)|(refine QB ?_;intro b)|(refine QG ?_;first|(refine QB9 ?_;rintro v5 h5 hle5 rfl))|(refine QH ?_ ?_<;>intro hc<;>try omega)|refine QJ ?_|(refine QI ?_ ?_<;>intro hc<;>try omega)|fail)
         all_goals first
          | (exfalso;omega)
          | (exfalso;simp at hc;done)
          | (have h9:=hnj h5 hle5 hq
             refine Aj QS QT (h9))
       | none =>
         rw [hF] at hof3
         by_cases hxa:x=a
         · have hq:=hi1 hxa
           clear hyj hi1 hi2 hi3 hF
           repeat' (first|refine QC ?_|(apply Bo;(iterate 3 exact J);apply At (e:=24);exact J;intro b7)|refine QDs ?_|(apply Af;exact J;exact J;(first|exact QCx|(apply Aw;exact J;exact Cy rfl c4 rfl));exact QA)|(refine QB ?_;intro b)|(refine QG ?_;first|(refine QB9 ?_;rintro v5 h5 hle5 rfl))|(refine QH ?_ ?_<;>intro hc<;>try omega)|refine QJ ?_|(refine QI ?_ ?_<;>intro hc<;>try omega)|fail)
           all_goals first
            | (exfalso;omega)
            | (exfalso;simp at hc;done)
            | (have h9:=hnj h5 hle5 hq
               refine Aj QS QT (h9))
         · have hq:=hi3 hxa hF
           clear hnj hi1 hi2 hi3 hF
           repeat' (first|refine QC ?_|(apply Bo;(iterate 3 exact J);apply At (e:=24);exact J;intro b7)|refine QDs ?_|(apply Af;exact J;exact J;(first|exact QCx|(apply Aw;exact J;exact Cy rfl c4 rfl));exact QA)|(refine QB ?_;intro b)|(refine QG ?_;first|(refine QB9 ?_;rintro v5 h5 hle5 rfl)|(apply Ah (enc:=Cx) (n:=1) [⟨s,co,x,a⟩];(iterate 3 exact J);exact List.cons_ne_nil _ _;(iterate 4 exact J);exact (fun _=>rfl);exact J;exact J;intro b8 h6 hle6 hs6)|(apply Ap (enc:=Cx) (xs:=ou) (ys:=[⟨s,co,x,a⟩]);(iterate 7 exact J);exact hs6;exact (fun _=>rfl);exact (fun x=>Bh rfl);intro v1;exact QR;omega;exact J;intro A5 c5))|(refine QH ?_ ?_<;>intro hc<;>try omega)|refine QJ ?_|(refine QI ?_ ?_<;>intro hc<;>try omega)|fail)
           all_goals first
            | (exfalso;omega)
            | (exfalso;simp at hc;done)
            | (have h9:=hyj h6 (hle5.trans hle6) hq A5 c5
               rw [List.length_append] at h9
               refine Aj QS QT (h9))
     · rw [List.take_of_length_le QAd] at ho3
       clear ihj
       have h9:=hnx h3 hle3 ou A3 c3 ho3
       repeat' (first|refine QF ?_|(refine QH ?_ ?_<;>intro hc<;>try omega)|fail)
       all_goals first
        | (exfalso;omega)
        | (refine Aj QS QT (h9))
   · rw [List.take_of_length_le QAd] at ho
     clear ih hof
     rw [← ho]
     refine El (enc:=Cx) (e:=24) (sz:=4) (n:=out.length) (xs:=out) (fun _=>rfl) rfl QK ?_
     intro A7 c7 h7 hle7 e7 hnc7 hs7
     cases e7
     repeat' (first|refine QF ?_|(refine QH ?_ ?_<;>intro hc<;>try omega)|fail)
     all_goals first
      | (exfalso;omega)
      | (exact Cs rfl rfl rfl rfl ⟨A2,c2,rfl,hs7⟩)
end Go.Hw

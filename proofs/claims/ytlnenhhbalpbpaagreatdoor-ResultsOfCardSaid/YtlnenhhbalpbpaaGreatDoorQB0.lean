import Derived.Test.YtlnenhhbalpbpaaGreatDoorVF
import Derived.Test.YtlnenhhbalpbpaaGreatDoorVD
import Derived.Test.YtlnenhhbalpbpaaGreatDoorRB
import Derived.Test.YtlnenhhbalpbpaaGreatDoorXE
import Derived.Test.YtlnenhhbalpbpaaGreatDoorPA
import Derived.Test.YtlnenhhbalpbpaaGreatDoorBE
import Derived.Test.YtlnenhhbalpbpaaGreatDoorRE
import Derived.Test.YtlnenhhbalpbpaaGreatDoorFH
import Derived.Test.YtlnenhhbalpbpaaGreatDoorQA0
set_option linter.all false
set_option maxRecDepth 100000
set_option maxHeartbeats 8000000
namespace Go.Hw
open Go
attribute [local irreducible] GO GOl GDp Val Fn Res Ab Du Blk Bd Cd Bf Has Yl Ik Bn idF voidL Jo Py
open Go.Proofs.Tryz (prog)
def Hg (g:Ak) (l:List Fct):List Fct:=l.filter fun f=>decide (Fv g f.ru)
theorem Lu (g:Ak)(l:List Fct)(f:Fct):Hg g (l++[f])=if Fv g f.ru then Hg g l++[f] else Hg g l:=by
 unfold Hg
 rw [List.filter_append]
 by_cases h:Fv g f.ru <;> simp [h]
theorem E4a (C:List Fct)(g:Ak):Jo C g=Hg g (Bn C):=by unfold Jo Hg;rfl
theorem maxQ_not {g:Ak}{l:List Fct}{f:Fct}(h:¬ Fv g f.ru):Py (Hg g (l++[f]))=Py (Hg g l):=by rw [Lu,if_neg h]
theorem maxQ_new {g:Ak}{l:List Fct}{f:Fct}(h:Fv g f.ru)(hm:Py (Hg g l)=none):Py (Hg g (l++[f]))=some f:=by rw [Lu,if_pos h,Mu,hm]
theorem maxQ_more {g:Ak}{l:List Fct}{f b:Fct}(h:Fv g f.ru)(hm:Py (Hg g l)=some b)(hc:0<Gp f b):Py (Hg g (l++[f]))=some f:=by rw [Lu,if_pos h,Mu,hm];dsimp only;rw [if_pos hc]
theorem maxQ_less {g:Ak}{l:List Fct}{f b:Fct}(h:Fv g f.ru)(hm:Py (Hg g l)=some b)(hc:¬ 0<Gp f b):Py (Hg g (l++[f]))=some b:=by rw [Lu,if_pos h,Mu,hm];dsimp only;rw [if_neg hc]
def Kca (l:List (Fsh×Fct)) (g:Ak) (k:Nat) (b:Int):Prop:=(b = -1∧Py (Hg g (fcs (l.take k)))=none)∨∃ j:Nat,b=(j:Int)∧j<k∧Py (Hg g (fcs (l.take k)))=some (l.getD j p0).2
theorem OfGameR_c (h:Ro)(A:Option Addr)(n c:Nat)(l:List (Fsh×Fct))(hx:Au h A n l)(hn6:n≤65536)(g:Ak):Res prog 29 #[.slice A n c,De g] h (fun u _=>u=.tuple #[.agg (Iy (Db (Ba (fcs l)) g).1).toArray,.int .i64 (Db (Ba (fcs l)) g).2.1,.bool (Db (Ba (fcs l)) g).2.2]):=by
 refine QXR Proofs.Tryz.func29 fun w0 X0=>?_
 obtain ⟨C,hC⟩:∃ C,C=Ba (fcs l):=⟨_,rfl⟩
 have hfi:=fun h' (hl:Le h h')=>Zo h' A n c l (hx.le hl) hn6
 rw [← hC] at hfi ⊢
 clear hx
 repeat' (first|refine QF ?_|(refine QB ?_;intro b)|(refine QG ?_;first|(refine Bv (e:=24) QK ?_;intro h1 hle1 hcg;apply Ag;exact J;exact has66;exact hfi _ QAa;rintro w1 h2 hle2 ⟨A3,c3,l3,rfl,hL⟩))|fail)
 rename_i b3
 generalize b=b4
 have hlen3:l3.length=l3.length:=rfl
 have hsm3:=hL.2.1.small
 have hcg:Ab h2 ⟨b3,0,none⟩ (Cx g):=hcg.le hle2
 have hfo:Jo C g=Hg g (fcs l3):=by rw [hL.2.2];exact E4a C g
 refine Ai (X:=Nat×Int×Ro) (fun x=>x.1≤l3.length∧Le h2 x.2.2∧Kca l3 g x.1 x.2.1) (fun x=>l3.length-x.1)
  (fun x=>[(9,.int .i64 x.1),(8,.int .i64 x.2.1),(7,.slice A3 l3.length c3),(3,Kr b3),(4,Kr b4),(5,.int .i64 0),(6,.bool false)])
  (fun _=>[Blk b4 39 (Iy Hu)]) (fun x=>x.2.2) (0,-1,h2) ⟨by dsimp only;omega,Le.refl _,.inl ⟨rfl,by rw [List.take_zero];unfold Py;rfl⟩⟩ QS QT rfl ?_
 rintro ⟨k,bi,hh⟩ ⟨hk,hle,hI⟩ ih
 dsimp only at hk hle hI ih ⊢
 have hcg3:Ab hh ⟨b3,0,none⟩ (Cx g):=hcg.le hle
 by_cases hkn:k<l3.length
 · have a1:=hL.2.1.row.addrD hkn
   have c1:Ab hh ((addrD A3).add (k * Ara.size)) (Aq (l3.getD k p0)):=(hL.2.1.row.cellsD p0 hkn).le hle
   have et:=Cb p0 rfl hkn
   have ef:fcs (l3.take (k+1))=fcs (l3.take k)++[(l3.getD k p0).2]:=by rw [et,Nx]
   have gp:=(hL.2.1.good _ (mem7 p0 hkn)).le hle
   obtain ⟨p,hp⟩:∃ p,l3.getD k p0=p:=⟨_,rfl⟩
   rw [hp] at c1 ef gp
   have hge:=Lr p.2.ru.g g
   by_cases hA:Fv g p.2.ru
   · rcases hI with ⟨rfl,hm⟩|⟨j,rfl,hj,hm⟩
     · have h3:=ih (k+1,(k:Int),hh) ⟨by dsimp only;omega,hle,.inr ⟨k,rfl,by dsimp only;omega,by dsimp only;rw [ef,hp];exact maxQ_new hA hm⟩⟩ QAh
       dsimp only at h3
       obtain ⟨hg1,hk1⟩:=hA
       rw [decide_eq_true hg1] at hge
       clear hm hfi
       rcases hk1 with hk1|hk1|hk1
       all_goals (repeat' (first|refine QF ?_|(apply Af;exact J;exact J;(first|exact QAc|exact QAb);exact QA)|(apply Ad (n:=7) [0,1,2,3,4,5,6,7,8,9,10,11,12,13,14,15,16,17,18,19,20,21,22,23,24,25,26,27,28,29,30,31,32,33,34,35] [(0,0),(1,0),(2,0),(3,0),(4,0),(5,0),(6,0),(7,0),(8,0),(9,0),(10,0),(11,0),(12,0),(13,0),(14,0),(15,0),(16,0),(17,0),(18,0),(19,0),(20,0),(21,0),(22,0),(23,0),(24,0),(25,0),(26,0),(27,0),(28,0),(29,0),(30,0),(31,0),(32,1),(33,0),(34,0),(35,0)];kernel_rfl)|(apply Bk;exact J;kernel_rfl;exact J;exact J;(first|exact QAc|exact QA1|exact QAb);exact QA)|(apply Bq;(iterate 5 exact J);all_goals (intro hc;try simp only [hcS,reduceCtorEq] at hc;try omega))|(refine QH ?_ ?_<;>intro hc<;>try omega)|(apply Rp;exact J;kernel_rfl;exact J;exact J)))
       all_goals first
        | (exfalso;omega)
        | contradiction
        | (refine Aj QS QT (h3))
     · have hjn:j<l3.length:=by omega
       have a2:=hL.2.1.row.addrD hjn
       have c2:Ab hh ((addrD A3).add (j * Ara.size)) (Aq (l3.getD j p0)):=(hL.2.1.row.cellsD p0 hjn).le hle
       have gq:=(hL.2.1.good _ (mem7 p0 hjn)).le hle
       have ej:∀ k',fcs (l3.take (k+1))=fcs (l3.take k)++[p.2]→Py (Hg g (fcs (l3.take k)++[p.2]))=some (l3.getD j p0).2→j<k'→k'=k+1→Kca l3 g k' (j:Int):=fun k' e1 e2 e3 e4=>by
        subst e4
        exact .inr ⟨j,rfl,e3,by rw [e1,e2]⟩
       obtain ⟨q,hq⟩:∃ q,l3.getD j p0=q:=⟨_,rfl⟩
       rw [hq] at c2 gq hm ej
       have hcm:=fun h' (hl:Le hh h')=>Zu h' p q (gp.le hl) (gq.le hl)
       have hA2:=hA
       obtain ⟨hg1,hk1⟩:=hA2
       rw [decide_eq_true hg1] at hge
       by_cases hc9:0<Gp p.2 q.2
       · have hbk:Kca l3 g (k+1) (k:Int):=.inr ⟨k,rfl,by omega,by rw [ef,hp];exact maxQ_more hA hm hc9⟩
         clear hfi hm ej
         rcases hk1 with hk1|hk1|hk1
         all_goals (repeat' (first|refine QF ?_|(apply Af;exact J;exact J;(first|(first|exact QAc|exact QAt)|exact QAb);exact QA)|(apply Ad (n:=7) [0,1,2,3,4,5,6,7,8,9,10,11,12,13,14,15,16,17,18,19,20,21,22,23,24,25,26,27,28,29,30,31,32,33,34,35] [(0,0),(1,0),(2,0),(3,0),(4,0),(5,0),(6,0),(7,0),(8,0),(9,0),(10,0),(11,0),(12,0),(13,0),(14,0),(15,0),(16,0),(17,0),(18,0),(19,0),(20,0),(21,0),(22,0),(23,0),(24,0),(25,0),(26,0),(27,0),(28,0),(29,0),(30,0),(31,0),(32,1),(33,0),(34,0),(35,0)];kernel_rfl)|(apply Bk;exact J;kernel_rfl;exact J;exact J;(first|(first|exact QAc|exact QAt)|(first|exact QCh|(apply Aw;exact J;apply Cy;exact J;(with_reducible exact c2);exact J))|exact QA1|exact QAb);exact QA)|(apply Ao;exact J;kernel_rfl;(iterate 3 exact J);(first|(refine QE0 ?_;rintro vr hr1 hle5 rfl;refine ⟨hle5,QN,?_⟩)))|(apply Bq;(iterate 5 exact J);all_goals (intro hc;try simp only [hcS,reduceCtorEq] at hc;try omega))|(refine QH ?_ ?_<;>intro hc<;>try omega)|fail))
         all_goals first
          | (exfalso;omega)
          | contradiction
          | (have h3:=ih (k+1,(k:Int),hr1) ⟨by dsimp only;omega,hle.trans hle5,hbk⟩ QAh
             dsimp only at h3
             refine Aj QS QT (h3))
       · have hbk:Kca l3 g (k+1) (j:Int):=ej _ ef (maxQ_less hA hm hc9) QAd rfl
         clear hfi hm ej
         rcases hk1 with hk1|hk1|hk1
         all_goals (repeat' (first|refine QF ?_|(apply Af;exact J;exact J;(first|(first|exact QAc|exact QAt)|exact QAb);exact QA)|(apply Ad (n:=7) [0,1,2,3,4,5,6,7,8,9,10,11,12,13,14,15,16,17,18,19,20,21,22,23,24,25,26,27,28,29,30,31,32,33,34,35] [(0,0),(1,0),(2,0),(3,0),(4,0),(5,0),(6,0),(7,0),(8,0),(9,0),(10,0),(11,0),(12,0),(13,0),(14,0),(15,0),(16,0),(17,0),(18,0),(19,0),(20,0),(21,0),(22,0),(23,0),(24,0),(25,0),(26,0),(27,0),(28,0),(29,0),(30,0),(31,0),(32,1),(33,0),(34,0),(35,0)];kernel_rfl)|(apply Bk;exact J;kernel_rfl;exact J;exact J;(first|(first|exact QAc|exact QAt)|(first|exact QCh|(apply Aw;exact J;apply Cy;exact J;(with_reducible exact c2);exact J))|exact QA1|exact QAb);exact QA)|(apply Ao;exact J;kernel_rfl;(iterate 3 exact J);(first|(refine QE0 ?_;rintro vr hr1 hle5 rfl;refine ⟨hle5,QN,?_⟩)))|(apply Bq;(iterate 5 exact J);all_goals (intro hc;try simp only [hcS,reduceCtorEq] at hc;try omega))|(refine QH ?_ ?_<;>intro hc<;>try omega)|fail))
         all_goals first
          | (exfalso;omega)
          | contradiction
          | (have h3:=ih (k+1,(j:Int),hr1) ⟨by dsimp only;omega,hle.trans hle5,hbk⟩ QAh
             dsimp only at h3
             refine Aj QS QT (h3))
   · have hm':=maxQ_not (l:=fcs (l3.take k)) hA
     have h3:=ih (k+1,bi,hh) ⟨by dsimp only;omega,hle,by
      rcases hI with ⟨rfl,hm⟩|⟨j,rfl,hj,hm⟩
      · exact .inl ⟨rfl,by dsimp only;rw [ef,hm',hm]⟩
      · exact .inr ⟨j,rfl,by dsimp only;omega,by dsimp only;rw [ef,hm',hm]⟩⟩ QAh
     dsimp only at h3
     by_cases hg1:p.2.ru.g=g
     · rw [decide_eq_true hg1] at hge
       have k1:p.2.ru.kind≠1:=fun e=>hA ⟨hg1,.inl e⟩
       have k2:p.2.ru.kind≠2:=fun e=>hA ⟨hg1,.inr (.inl e)⟩
       have k3:p.2.ru.kind≠3:=fun e=>hA ⟨hg1,.inr (.inr e)⟩
       repeat' (first|refine QF ?_|(apply Af;exact J;exact J;(first|exact QAc|exact QAb);exact QA)|(apply Ad (n:=7) [0,1,2,3,4,5,6,7,8,9,10,11,12,13,14,15,16,17,18,19,20,21,22,23,24,25,26,27,28,29,30,31,32,33,34,35] [(0,0),(1,0),(2,0),(3,0),(4,0),(5,0),(6,0),(7,0),(8,0),(9,0),(10,0),(11,0),(12,0),(13,0),(14,0),(15,0),(16,0),(17,0),(18,0),(19,0),(20,0),(21,0),(22,0),(23,0),(24,0),(25,0),(26,0),(27,0),(28,0),(29,0),(30,0),(31,0),(32,1),(33,0),(34,0),(35,0)];kernel_rfl)|(apply Bk;exact J;kernel_rfl;exact J;exact J;(first|exact QAc|exact QA1|exact QAb);exact QA)|(apply Bq;(iterate 5 exact J);all_goals (intro hc;try simp only [hcS,reduceCtorEq] at hc;try omega))|(refine QH ?_ ?_<;>intro hc<;>try omega)|(apply Rp;exact J;kernel_rfl;exact J;exact J))
       all_goals first
        | (exfalso;omega)
        | contradiction
        | (refine Aj QS QT (h3))
     · rw [decide_eq_false hg1] at hge
       repeat' (first|refine QF ?_|(apply Af;exact J;exact J;(first|exact QAc|exact QAb);exact QA)|(apply Ad (n:=7) [0,1,2,3,4,5,6,7,8,9,10,11,12,13,14,15,16,17,18,19,20,21,22,23,24,25,26,27,28,29,30,31,32,33,34,35] [(0,0),(1,0),(2,0),(3,0),(4,0),(5,0),(6,0),(7,0),(8,0),(9,0),(10,0),(11,0),(12,0),(13,0),(14,0),(15,0),(16,0),(17,0),(18,0),(19,0),(20,0),(21,0),(22,0),(23,0),(24,0),(25,0),(26,0),(27,0),(28,0),(29,0),(30,0),(31,0),(32,1),(33,0),(34,0),(35,0)];kernel_rfl)|(apply Bk;exact J;kernel_rfl;exact J;exact J;(first|exact QAc|exact QA1|exact QAb);exact QA)|(refine QH ?_ ?_<;>intro hc<;>try omega)|(apply Rp;exact J;kernel_rfl;exact J;exact J))
       all_goals first
        | (exfalso;omega)
        | contradiction
        | (refine Aj QS QT (h3))
 · have ek:k=l3.length:=by omega
   subst ek
   clear ih hfi
   rcases hI with ⟨rfl,hm⟩|⟨j,rfl,hj,hm⟩
   · rw [List.take_length] at hm
     have e9:Db C g=(Hu,0,false):=by unfold Db;rw [hfo,hm]
     rw [e9]
     repeat' (first|refine QFs ?_|(refine QH ?_ ?_<;>intro hc<;>try omega)|fail)
     all_goals first
      | (exfalso;omega)
      | (exact Ni rfl rfl rfl QM rfl rfl rfl rfl rfl)
   · rw [List.take_length] at hm
     have a2:=hL.2.1.row.addrD hj
     have c2:Ab hh ((addrD A3).add (j * Ara.size)) (Aq (l3.getD j p0)):=(hL.2.1.row.cellsD p0 hj).le hle
     generalize l3.getD j p0=q at *
     have e9:Db C g=(q.2.ru,q.2.day,true):=by unfold Db;rw [hfo,hm]
     rw [e9]
     repeat' (first|refine QFs ?_|(apply Ad (n:=11) [0,1,2,3,4,10,5,6,7,8,9,11,12] [(0,0),(1,0),(2,0),(3,0),(4,0),(5,0),(6,0),(7,0),(8,0),(9,0),(10,1),(11,0),(12,0)];kernel_rfl)|(apply Bk;exact J;kernel_rfl;exact J;exact J;(first|exact QAt|exact QAb);exact QA)|(refine QH ?_ ?_<;>intro hc<;>try omega)|fail)
     all_goals first
      | (exfalso;omega)
      | (exact Ni rfl rfl rfl QM rfl rfl rfl rfl rfl)
end Go.Hw
namespace Go.Hw
open Go
attribute [local irreducible] GO GOl GDp Val Fn Res Ab Du Blk Bd Cd Bf Has Yl Ik Bn Lt Kk Ew Up Db Gq
open Go.Proofs.Tryz (prog)
theorem Zy (h:Ro)(A:Option Addr)(n c:Nat)(l:List Dx)(hx:Ar Ox 2 h A n l)(hn:n≤1000000):Val prog 33 #[.slice A n c] h (.int .i64 (Gq l)):=by
 refine QXV Proofs.Tryz.func33 fun w0 X0=>?_
 have hlen:=hx.len
 repeat' (first|refine QF ?_|fail)
 refine Ai (X:=Nat) (fun k=>k≤n) (fun k=>n-k) (fun k=>[(4,.int .i64 k),(3,.int .i64 (Gq (l.take k))),(0,.slice A n c)]) (fun _=>[]) (fun _=>h) 0 QAd (by rw [List.take_zero,show Gq []=0 by unfold Gq;rfl];exact QS) QT rfl ?_
 rintro k hk ih
 by_cases hkn:k<n
 · have a1:=hx.addrD hkn
   have c1:Ab h ((addrD A).add (k * Kga.size)) (Ox (l.getD k Dg)):=hx.cellsD Dg hkn
   have et:=Cb Dg (xs:=l) hlen hkn
   generalize l.getD k Dg=z at *
   have h3:=ih (k+1) QAd QAd
   rw [et,Sp] at h3
   have hb:=Jta (l.take k)
   rw [List.length_take] at hb
   generalize Gq (l.take k)=m at *
   obtain ⟨zp,zr⟩:=z
   unfold Exa at h3
   cases zr
   · rw [if_neg QAn] at h3
     repeat' (first|refine QF ?_|(apply Af;exact J;exact J;(first|exact QAc|exact QAb);exact QA)|(refine QH ?_ ?_<;>intro hc<;>try omega)|fail)
     all_goals first
      | (exfalso;omega)
      | (exfalso;simp at hc;done)
      | (refine Aj QS QT (h3))
   · rw [if_pos rfl,show m+3=m+1+2 by omega] at h3
     repeat' (first|refine QF ?_|(apply Af;exact J;exact J;(first|exact QAc|exact QAb);exact QA)|(refine QH ?_ ?_<;>intro hc<;>try omega)|fail)
     all_goals first
      | (exfalso;omega)
      | (exfalso;simp at hc;done)
      | (refine Aj QS QT (h3))
 · rw [List.take_of_length_le QAd]
   clear ih
   repeat' (first|refine QF ?_|(refine QH ?_ ?_<;>intro hc<;>try omega)|(apply Ac;(iterate 3 exact J)))
   all_goals first
    | (exfalso;omega)
    | rfl
theorem Zi (h:Ro)(g:Ak)(d:Int)(a:Bool):Val prog 30 #[De g,.int .i64 d,.bool a] h (Kta (Gz g d a (!a))):=by
 refine QXV Proofs.Tryz.func30 fun w0 X0=>?_
 cases a
 all_goals (repeat' (first|refine QFs ?_|(refine QB ?_;intro b)|(refine QH ?_ ?_<;>intro hc<;>try omega)|(apply Ct;(iterate 3 exact J);exact QM;exact J;exact J)|fail))
 all_goals first
  | rfl
  | (exfalso;simp at hc;done)
theorem Hha {r:Fk}{g:Ak}(hg:Dh g)(hr:Ej r)(he:r.g=g)(hk:r.kind=1)(d:Int):Gz g d (decide (r.club=g.h)) (decide (r.club=g.a))=Gz g d (decide (r.club=g.h)) (!(decide (r.club=g.h))):=by
 have hne:g.h≠g.a:=hg.2.2.2.2
 unfold Ej at hr
 rw [if_pos hk,he] at hr
 congr 1
 rcases hr.2 with e|e
 · rw [e,decide_eq_true rfl,decide_eq_false hne];rfl
 · rw [e,decide_eq_true rfl,decide_eq_false (fun w=>hne w.symm)];rfl
theorem OfR12_c (h:Ro)(A:Option Addr)(n c:Nat)(l:List (Fsh×Fct))(hx:Au h A n l)(hn6:n≤65536)(g:Ak):Res prog 11 #[.slice A n c,De g] h (fun u _=>u=resO (ofF (fcs l) g)):=by
 refine QXR Proofs.Tryz.func11 fun w0 X0=>?_
 have h32:=Fa hx
 have hgm:=fun h'=>gameR7_c h' g
 have hog:=fun h' (hl:Le h h')=>OfGameR_c h' A n c l (hx.le hl) hn6 g
 have hsc:=fun h' (hl:Le h h')=>Aua h' A n c l (hx.le hl) hn6 g
 have hof:=fun h' (hl:Le h h')=>Fha h' A n c l (hx.le hl) hn6 g
 have hsome:=Pj (C:=Ba (fcs l)) (Oc h32) (g:=g)
 by_cases hg:Dh g
 case' neg =>
  rw [ofF_bad hg]
  simp only [if_neg hg] at hgm
  clear hog hsc hof hsome hx h32
  repeat' (first|refine QC ?_|(apply Bo;(iterate 3 exact J);apply Dj (e:=24);exact J;intro b3)|refine QDs ?_|(refine QB ?_;intro b)|(refine QG ?_;first|(refine QEi ?_))|(refine QH ?_ ?_<;>intro hc<;>try omega)|fail)
  all_goals first
   | (exfalso;omega)
   | (exact Dw rfl rfl rfl QM rfl rfl rfl rfl)
 simp only [if_pos hg] at hgm
 have hru:=fun r d q=>Qn (L:=fcs l) hg (r:=r) (d:=d) q
 have hpy:=fun q=>Iz (L:=fcs l) hg q
 generalize Db (Ba (fcs l)) g=oo at *
 obtain ⟨r,d,ok⟩:=oo
 dsimp only at hog hpy hsome
 cases ok
 case' true =>
  rw [hru r d rfl]
  obtain ⟨f,_,_,_,hro,hab,_,hfe⟩:=hsome rfl
  have hrf:r=f.ru:=congrArg (·.1) hfe
  have hk:r.kind=1∨r.kind=2∨r.kind=3:=by rw [hrf];exact hab.2
  have hag:r.kind=1→∀ d,Gz g d (decide (r.club=g.h)) (decide (r.club=g.a))=Gz g d (decide (r.club=g.h)) (!(decide (r.club=g.h))):=fun q d=>Hha hg (by rw [hrf];exact hro.2.2.2.2.1) (by rw [hrf];exact hab.1) q d
  have hfo:=fun h' d=>Zi h' g d (decide (r.club=g.h))
  unfold Iga
  rcases hk with hk|hk|hk
  case' inl =>
   rw [if_pos hk,hag hk]
  case' inr.inl =>
   rw [if_neg QAd,if_neg QAd]
  case' inr.inr =>
   rw [if_neg QAd,if_pos hk]
  all_goals
   rw [← Fe] at hfo
   clear hsc hof hsome hx h32 hru hpy hab hfe hag hro hrf
   repeat' (first|refine QC ?_|(apply Bo;(iterate 3 exact J);apply Dj (e:=24);exact J;intro b3)|(apply Bo;(iterate 3 exact J);apply At (e:=39);exact J;intro b6)|refine QDs ?_|(refine QB ?_;intro b)|(refine QG ?_;first|(refine QEi ?_)|(refine QBg ?_;rintro v1 h1 hle1 rfl)|(apply Aa;exact J;exact has30;exact hfo _ d))|(refine QH ?_ ?_<;>intro hc<;>try omega)|fail)
  all_goals first
   | (exfalso;omega)
   | (exact Dw rfl rfl rfl QM rfl rfl rfl rfl)
   | (rw [← Fe];exact Dw rfl rfl rfl QM rfl rfl rfl rfl)
 rw [hpy rfl]
 have hno:=Yr (L:=fcs l) (g:=g)
 have hyes:=fun x o=>Vr (L:=fcs l) (g:=g) (x:=x) (o:=o)
 have hbd:=fun q=>Ida h32 (g:=g) q
 have hol:=Isa h32 g
 rw [show Oa l=fcs l from rfl] at hsc
 generalize Bj (fcs l) g=x at *
 generalize Up (fcs l) g=o at *
 clear hx h32 hru hpy hsome
 by_cases hk2:x.kind=2
 case' neg =>
  rw [hno hk2]
  clear hof hyes hbd hol
  repeat' (first|refine QC ?_|(apply Bo;(iterate 3 exact J);apply Dj (e:=24);exact J;intro b3)|(apply Bo;(iterate 3 exact J);apply At (e:=39);exact J;intro b6)|(apply Bo;(iterate 3 exact J);apply At (e:=62);exact J;intro b7)|refine QDs ?_|(refine QB ?_;intro b)|(refine QG ?_;first|(refine QEi ?_)|(refine QBg ?_;rintro v1 h1 hle1 rfl)|(refine QAw ?_;rintro w2 h2 hle2 ⟨s,rfl,hs1,hs2⟩))|(refine QH ?_ ?_<;>intro hc<;>try omega)|fail)
  all_goals first
   | (exfalso;omega)
   | (exfalso;simp at hc;done)
   | (exact Dw rfl rfl rfl QM rfl rfl rfl rfl)
 rw [hyes x o rfl rfl hk2]
 obtain ⟨⟨_,_,_,_,_,_,_,hq5,hq6,_⟩,_,_⟩:=hbd hk2
 have hl5:=hq5.1
 have hl6:=hq6.1
 obtain ⟨o1,o2⟩:=o
 unfold J4a at hof
 dsimp only at hof hol
 unfold A3a
 dsimp only
 by_cases he:o1=[]∧o2=[]
 · rw [if_pos he]
   obtain ⟨rfl,rfl⟩:=he
   clear hno hyes hbd
   repeat' (first|refine QC ?_|(apply Bo;(iterate 3 exact J);apply Dj (e:=24);exact J;intro b3)|(apply Bo;(iterate 3 exact J);apply At (e:=39);exact J;intro b6)|(apply Bo;(iterate 3 exact J);apply At (e:=62);exact J;intro b7)|(apply Bo;(iterate 3 exact J);apply At (e:=47);exact J;intro b8)|refine QDs ?_|(refine QB ?_;intro b)|(refine QG ?_;first|(refine QEi ?_)|(refine QBg ?_;rintro v1 h1 hle1 rfl)|(refine QAw ?_;rintro w2 h2 hle2 ⟨s,rfl,hs1,hs2⟩;(have hn1:=hs1.hc.len);(have hn2:=hs1.ac.len))|(refine QE1 ?_;rintro v3 e1 he1 ⟨A1,d1,A2,d2,rfl,hO1,hO2⟩))|(apply Ad (n:=20) [0,1,2,3,4,5,6,7,8,9,10,11,12,13,14,15,16,17,18,19] [(0,0),(1,0),(2,0),(3,0),(4,0),(5,0),(6,0),(7,0),(8,0),(9,0),(10,0),(11,0),(12,0),(14,0),(15,0),(13,1),(16,1),(17,0),(18,1),(19,0)];kernel_rfl)|(apply Ao;exact J;kernel_rfl;(iterate 3 exact J);(first|(apply Aa;exact J;exact has33;(first|exact Zy _ _ _ _ x.sh.hc (hs1.hc.le QAa) QAd|exact Zy _ _ _ _ x.sh.ac (hs1.ac.le QAa) QAd);refine ⟨Le.refl _,QN,?_⟩)))|(refine QH ?_ ?_<;>intro hc<;>try omega)|refine QJ ?_|(refine QI ?_ ?_<;>intro hc<;>try omega)|fail)
   all_goals first
    | (exfalso;omega)
    | (exfalso;simp at hc;done)
    | (exact Dw rfl rfl rfl QM rfl rfl rfl rfl)
 · rw [if_neg he]
   clear hno hyes hbd
   have hag:Gz g x.day (decide (o1≠[])) (decide (o2≠[]))=if 0<o1.length∧0<o2.length then { Aza with g:=g,day:=x.day,forf:=true,both:=true } else Gz g x.day (ltI 0 (o1.length:Int)) (!(ltI 0 (o1.length:Int))):=by
    cases o1 with
    | nil =>
      cases o2 with
      | nil=>exact absurd ⟨rfl,rfl⟩ he
      | cons a r=>simp [ltI,Gz]
    | cons a r =>
      cases o2 with
      | nil=>simp [ltI,Gz]
      | cons b r'=>simp [ltI,Gz,Aza]
   have hp:0<o1.length+o2.length:=by
    refine Classical.byContradiction fun w=>he ⟨List.eq_nil_of_length_eq_zero QAd,List.eq_nil_of_length_eq_zero QAd⟩
   rw [hag]
   have hfo:=fun h'=>Zi h' g x.day (ltI 0 (o1.length:Int))
   clear he hag
   by_cases hb:0<o1.length∧0<o2.length
   case' pos =>
    rw [if_pos hb]
   case' neg =>
    rw [if_neg hb]
   all_goals
    repeat' (first|refine QC ?_|(apply Bo;(iterate 3 exact J);apply Dj (e:=24);exact J;intro b3)|(apply Bo;(iterate 3 exact J);apply At (e:=39);exact J;intro b6)|(apply Bo;(iterate 3 exact J);apply At (e:=62);exact J;intro b7)|refine QDs ?_|(refine QB ?_;intro b)|(refine QG ?_;first|(refine QEi ?_)|(refine QBg ?_;rintro v1 h1 hle1 rfl)|(refine QAw ?_;rintro w2 h2 hle2 ⟨s,rfl,hs1,hs2⟩)|(refine QE1 ?_;rintro v3 e1 he1 ⟨A1,d1,A2,d2,rfl,hO1,hO2⟩)|(apply Aa;exact J;exact has30;exact hfo _))|(refine QH ?_ ?_<;>intro hc<;>try omega)|refine QJ ?_|(refine QI ?_ ?_<;>intro hc<;>try omega)|fail)
   all_goals first
    | (exfalso;omega)
    | (exfalso;simp at hc;done)
    | (exact Dw rfl rfl rfl QM rfl rfl rfl rfl)
end Go.Hw
namespace Go.Hw
open Go
attribute [local irreducible] GO GOl GDp Val Fn Res Ab Du Blk Bd Cd Bf Has Yl Ik Bn Lt Kk Ew Up Db Gq ofF
open Go.Proofs.Tryz (prog)
theorem of12_law (h:Ro)(hG:Iv h)(A:Option Addr)(n c:Nat)(l:List (Fsh×Fct))(hx:LedIn h A n c l)(g:Ak):Res prog 3 #[.slice A n c,De g] h (fun u _=>u=.bool true):=by
 refine QXR Proofs.Tryz.func3 fun w0 X0=>?_
 have hfew:=fewF_c h A n c l hx.row hx.small 16
 have hsane:=sane12_c h hG
 by_cases hF:(∀ p∈l,Tt p.1 p.2)∧(n:Int)≤16
 case' neg =>
  rw [decide_eq_false hF] at hfew
  repeat' (first|refine QF ?_|(refine QB ?_;intro b)|(refine QG ?_;first|(apply Aa;exact J;exact has8;exact hsane)|(apply Aa;exact J;exact has9;exact hfew))|(refine QH ?_ ?_<;>intro hc<;>try omega)|fail)
  all_goals first
   | (exact Ay rfl rfl rfl rfl)
   | (exfalso;simp at hc;done)
 rw [decide_eq_true hF] at hfew
 have hfa:Au h A n l:=⟨hx.row,hx.fat,by have:=hF.2;omega⟩
 have hn6:n≤65536:=by have:=hF.2;omega
 have k1:=fun h' (hl:Le h h')=>Tx h' (hG.le hl) A n c l (hfa.le hl) hn6 g
 have k2:=fun h' (hl:Le h h')=>OfR12_c h' A n c l (hfa.le hl) hn6 g
 generalize ofF (fcs l) g=o at *
 clear hx hF hfa
 unfold resO at k1 k2
 generalize o.getD Aza=r at *
 generalize o.isSome=ok at *
 cases ok
 all_goals (repeat' (first|refine QFs ?_|(apply Af;exact J;exact J;(first|(apply OV_eqlR;(iterate 3 exact J);kernel_rfl;kernel_rfl));exact QA)|(refine QB ?_;intro b)|(refine QG ?_;first|(apply Aa;exact J;exact has8;exact hsane)|(apply Aa;exact J;exact has9;exact hfew)|(apply Ag;exact J;exact Bga;exact k1 _ QAa;rintro v1 h1 hle1 rfl)|(apply Ag;exact J;exact has11;exact k2 _ QAa;rintro v2 h2 hle2 rfl))|(refine QH ?_ ?_<;>intro hc<;>try omega)|fail))
 all_goals first
  | (exact Ay rfl rfl rfl rfl)
  | (exfalso;simp at hc;done)
end Go.Hw

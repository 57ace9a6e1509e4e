import Derived.Test.YtlnenhhbalpbpaaGreatDoorVC
import Derived.Test.YtlnenhhbalpbpaaGreatDoorRA
import Derived.Test.YtlnenhhbalpbpaaGreatDoorRB
set_option linter.all false
set_option maxRecDepth 100000
set_option maxHeartbeats 8000000
namespace Go.Hw
open Go
attribute [local irreducible] GO GOl GDp Val Fn Res Ab Du Blk Bd Cd Bf Has Yl Ik Bn
open Go.Proofs.Tryz (prog)
theorem Nx (l:List (Fsh×Fct))(p:Fsh×Fct):fcs (l++[p])=fcs l++[p.2]:=by unfold fcs;rw [List.map_append];rfl
theorem D1a (h:Ro)(A:Option Addr)(n c:Nat)(l:List (Fsh×Fct))(hx:Au h A n l)(num:Int):Val prog 107 #[.slice A n c,.int .i64 num] h (.int .i64 (Di (fcs l) num)):=by
 refine QXV Proofs.Tryz.func107 fun w0 X0=>?_
 have hlen:=hx.row.len
 have hn:=hx.small
 repeat' (first|refine QF ?_|fail)
 refine Ai (X:=Nat) (fun k=>k≤n) (fun k=>n-k) (fun k=>[(6,.int .i64 k),(5,.int .i64 (Di (fcs (l.take k)) num)),(0,.slice A n c),(1,.int .i64 num)]) (fun _=>[]) (fun _=>h) 0 QAd QS QT rfl ?_
 rintro k hk ih
 by_cases hkn:k<n
 · have a1:=hx.row.addrD hkn
   have cc:Ab h ((addrD A).add (k * Ara.size)) (Aq (l.getD k p0)):=hx.row.cellsD p0 hkn
   have et:=Cb p0 hlen hkn
   generalize l.getD k p0=p at *
   have hsn:Di (fcs (l.take (k+1))) num=if Bp num p.2 then max (Di (fcs (l.take k)) num) p.2.ru.inst else Di (fcs (l.take k)) num:=by rw [et,Nx,Ku]
   generalize Di (fcs (l.take k)) num=q at *
   have h3:=ih (k+1) QAd QAd
   by_cases hP:Bp num p.2
   · rw [if_pos hP] at hsn
     obtain ⟨p1,p2⟩:=hP
     rw [hsn] at h3
     repeat' (first|refine QF ?_|(apply Af;exact J;exact J;(first|exact QAc|exact QAb);exact QA)|(refine QH ?_ ?_<;>intro hc<;>try omega)|refine QJ ?_|(refine QI ?_ ?_<;>intro hc<;>try omega)|fail)
     all_goals first
      | (exfalso;omega)
      | contradiction
      | (refine Aj QS QT (h3))
   · rw [if_neg hP] at hsn
     have hP2:¬ (p.2.kind=4∧p.2.ru.case=num):=hP
     rw [hsn] at h3
     repeat' (first|refine QF ?_|(apply Af;exact J;exact J;(first|exact QAc|exact QAb);exact QA)|(refine QH ?_ ?_<;>intro hc<;>try omega)|refine QJ ?_|(refine QI ?_ ?_<;>intro hc<;>try omega)|fail)
     all_goals first
      | (exfalso;omega)
      | (exfalso;exact hP2 ⟨by assumption,by assumption⟩)
      | (refine Aj QS QT (h3))
 · rw [List.take_of_length_le QAd]
   clear ih
   repeat' (first|refine QF ?_|(refine QH ?_ ?_<;>intro hc<;>try omega)|(apply Ac;(iterate 3 exact J)))
   all_goals rfl
theorem Koa (h:Ro)(A:Option Addr)(n c:Nat)(l:List (Fsh×Fct))(hx:Au h A n l)(num i:Int):Val prog 106 #[.slice A n c,.int .i64 num,.int .i64 i] h (.int .i64 (Qu (fun p:Fsh×Fct=>decide (Bp num p.2∧p.2.ru.inst=i)) l 0)):=by
 refine QXV Proofs.Tryz.func106 fun w0 X0=>?_
 have hlen:=hx.row.len
 have hn:=hx.small
 obtain ⟨P,hPd⟩:∃ P,P=fun p:Fsh×Fct=>decide (Bp num p.2∧p.2.ru.inst=i):=⟨_,rfl⟩
 rw [← hPd]
 repeat' (first|refine QF ?_|fail)
 refine Ai (X:=Nat) (fun k=>k≤n∧Qu P (l.drop k) k=Qu P l 0) (fun k=>n-k) (fun k=>[(7,.int .i64 k),(0,.slice A n c),(1,.int .i64 num),(2,.int .i64 i)]) (fun _=>[]) (fun _=>h) 0 ⟨by omega,rfl⟩ QS QT rfl ?_
 rintro k ⟨hk,hI⟩ ih
 by_cases hkn:k<n
 · have a1:=hx.row.addrD hkn
   have cc:Ab h ((addrD A).add (k * Ara.size)) (Aq (l.getD k p0)):=hx.row.cellsD p0 hkn
   have hd:=So p0 hlen hkn
   generalize l.getD k p0=p at *
   have hPp:P p=decide (Bp num p.2∧p.2.ru.inst=i):=by rw [hPd]
   by_cases hP:Bp num p.2∧p.2.ru.inst=i
   · have e9:Qu P l 0=k:=by rw [← hI,hd,Qu,hPp,decide_eq_true hP];rfl
     rw [e9]
     obtain ⟨⟨p1,p2⟩,p3⟩:=hP
     repeat' (first|refine QF ?_|(apply Af;exact J;exact J;(first|exact QAc|exact QAb);exact QA)|(refine QH ?_ ?_<;>intro hc<;>try omega)|refine QJ ?_|(refine QI ?_ ?_<;>intro hc<;>try omega)|fail)
     all_goals first
      | (exfalso;omega)
      | contradiction
      | (exact Ac rfl rfl rfl rfl)
   · have h3:=ih (k+1) ⟨by omega,by rw [← hI,hd,Qu,hPp,decide_eq_false hP];rfl⟩ QAd
     repeat' (first|refine QF ?_|(apply Af;exact J;exact J;(first|exact QAc|exact QAb);exact QA)|(refine QH ?_ ?_<;>intro hc<;>try omega)|refine QJ ?_|(refine QI ?_ ?_<;>intro hc<;>try omega)|fail)
     all_goals first
      | (exfalso;omega)
      | (exfalso;exact hP ⟨⟨by assumption,by assumption⟩,by assumption⟩)
      | (refine Aj QS QT (h3))
 · rw [show k=l.length by omega,List.drop_length] at hI
   have e9:Qu P l 0 = -1:=hI.symm
   rw [e9]
   clear ih
   repeat' (first|refine QF ?_|(refine QH ?_ ?_<;>intro hc<;>try omega)|(apply Ac;(iterate 3 exact J)))
   all_goals rfl
theorem suspR10_c (h:Ro)(A:Option Addr)(n c:Nat)(l:List (Fsh×Fct))(hx:Au h A n l)(num:Int):Val prog 105 #[.slice A n c,.int .i64 num] h (.bool (decide (Io (fcs l) num))):=by
 refine QXV Proofs.Tryz.func105 fun w0 X0=>?_
 have hlen:=hx.row.len
 have hn:=hx.small
 have hla:=D1a h A n c l hx num
 obtain ⟨j,hj⟩:∃ j,j=Di (fcs l) num:=⟨_,rfl⟩
 rw [← hj] at hla
 have hHd:Io (fcs l) num↔0<j∧∃ p∈l,p.2.kind=5∧p.2.aCase=num∧p.2.aInst=j∧p.2.aSusp=true:=by
  unfold Io
  rw [← hj]
  refine and_congr_right fun _=>⟨fun ⟨f,hf,q⟩ => ?_,fun ⟨p,hp,q⟩=>⟨p.2,List.mem_map_of_mem hp,q⟩⟩
  obtain ⟨p,hp,rfl⟩:=List.mem_map.1 hf
  exact ⟨p,hp,q⟩
 repeat' (first|refine QF ?_|(refine QG ?_;first|(apply Aa;exact J;exact has107;exact hla))|fail)
 refine Ai (X:=Nat) (fun k=>k≤n∧∀ p∈l.take k,¬ (0<j∧p.2.kind=5∧p.2.aCase=num∧p.2.aInst=j∧p.2.aSusp=true)) (fun k=>n-k) (fun k=>[(6,.int .i64 k),(5,.int .i64 j),(0,.slice A n c),(1,.int .i64 num)]) (fun _=>[]) (fun _=>h) 0 ⟨by omega,by simp⟩ QS QT rfl ?_
 rintro k ⟨hk,hI⟩ ih
 by_cases hkn:k<n
 · have a1:=hx.row.addrD hkn
   have cc:Ab h ((addrD A).add (k * Ara.size)) (Aq (l.getD k p0)):=hx.row.cellsD p0 hkn
   have et:=Cb p0 hlen hkn
   have hme:=mem7 p0 (show k<l.length by omega)
   generalize l.getD k p0=p at *
   by_cases hP:0<j∧p.2.kind=5∧p.2.aCase=num∧p.2.aInst=j∧p.2.aSusp=true
   · rw [decide_eq_true (hHd.2 ⟨hP.1,p,hme,hP.2⟩)]
     obtain ⟨p1,p2,p3,p4,p5⟩:=hP
     repeat' (first|refine QFs ?_|(apply Af;exact J;exact J;(first|exact QAc|exact QAb);exact QA)|(refine QB ?_;intro b)|(refine QH ?_ ?_<;>intro hc<;>try omega)|refine QJ ?_|(refine QI ?_ ?_<;>intro hc<;>try omega)|fail)
     all_goals first
      | (exfalso;omega)
      | contradiction
      | (exact Ac rfl rfl rfl rfl)
      | (exfalso;exact absurd (hc.symm.trans p5) QAs)
   · have h3:=ih (k+1) ⟨by omega,fun q hq=>by
      rw [et,List.mem_append,List.mem_singleton] at hq
      rcases hq with w|w
      · exact hI q w
      · rw [w];exact hP⟩ QAd
     repeat' (first|refine QFs ?_|(apply Af;exact J;exact J;(first|exact QAc|exact QAb);exact QA)|(refine QB ?_;intro b)|(refine QH ?_ ?_<;>intro hc<;>try omega)|refine QJ ?_|(refine QI ?_ ?_<;>intro hc<;>try omega)|fail)
     all_goals first
      | (exfalso;omega)
      | (exfalso;exact hP ⟨by assumption,by assumption,by assumption,by assumption,by assumption⟩)
      | (exfalso;refine hP ⟨by omega,?_,?_,?_,?_⟩ <;> assumption)
      | (refine Aj QS QT (h3))
 · rw [List.take_of_length_le QAd] at hI
   rw [decide_eq_false fun q=>by
    obtain ⟨q1,p,hp,q2⟩:=hHd.1 q
    exact hI p hp ⟨q1,q2⟩]
   clear ih
   repeat' (first|refine QF ?_|(refine QH ?_ ?_<;>intro hc<;>try omega)|(apply Ac;(iterate 3 exact J)))
   all_goals rfl
end Go.Hw
namespace Go.Hw
open Go
attribute [local irreducible] GO GOl GDp Val Fn Res Ab Du Blk Bd Cd Bf Has Yl Ik Bn
open Go.Proofs.Tryz (prog)
theorem D6a {n:Int}:∀ {L:List Int},L.Pairwise (· < ·)→n∈L→Cqa n L=L
 | [],_,h=>by cases h
 | m::r,hs,h=>by
   obtain ⟨h1,h2⟩:=List.pairwise_cons.1 hs
   unfold Cqa
   split
   · rename_i hm
     rcases List.mem_cons.1 h with e|e
     · omega
     · rw [D6a h2 e]
   · split
     · rfl
     · rename_i hm he
       rcases List.mem_cons.1 h with e|e
       · exact absurd e.symm he
       · have:=h1 n e;omega
theorem Gna {n:Int}:∀ {L:List Int} {k:Nat},k≤L.length→(∀ i,i<k→L.getD i 0<n)→(k<L.length→n<L.getD k 0)→Cqa n L=L.take k++n::L.drop k
 | [],k,hk,_,_=>by
   have:k=0:=by simpa using hk
   subst this;rfl
 | y::r,0,_,_,h2=>by
   have:=h2 QAn
   have h3:n<y:=this
   unfold Cqa
   rw [if_neg QAd,if_neg QAd]
   rfl
 | y::r,k+1,hk,h1,h2=>by
   have h3:y<n:=h1 0 QAd
   unfold Cqa
   rw [if_pos h3,Gna (L:=r) (k:=k) (by simpa using hk) (fun i hi=>h1 (i+1) QAd) (fun hq=>h2 (by simpa using hq))]
   rfl
theorem I4a (n:Int):∀ L:List Int,(Cqa n L).length≤L.length+1
 | []=>by simp [Cqa]
 | y::r=>by
   have:=I4a n r
   unfold Cqa
   split
   · simp;omega
   · split
     · simp
     · simp
theorem Zx (C:List Fct):(Cp C).length≤C.length:=by
 refine Mr (P:=fun C=>(Cp C).length≤C.length) (by simp [Cp]) (fun C f ih => ?_) C
 show (Cp (C++[f])).length≤(C++[f]).length
 rw [Hn,List.length_append]
 split
 · have:=I4a f.ru.case (Cp C)
   simp only [List.length_cons,List.length_nil]
   have:(Cp C).length≤C.length:=ih
   omega
 · have:(Cp C).length≤C.length:=ih
   omega
theorem casesR_c (h:Ro)(A:Option Addr)(n c:Nat)(l:List (Fsh×Fct))(hx:Au h A n l):Res prog 104 #[.slice A n c] h (fun u h'=>∃ A' c',u=.slice A' (Cp (fcs l)).length c'∧Ar Cu 1 h' A' (Cp (fcs l)).length (Cp (fcs l))):=by
 refine QXR Proofs.Tryz.func104 fun w0 X0=>?_
 have hlen:=hx.row.len
 have hn:=hx.small
 repeat' (first|refine QF ?_|(refine QG ?_;first|(refine QB0 ?_;intro b1 h1 hle1 hcs1))|fail)
 refine Ai (X:=Nat×List Int×Option Addr×Nat×Ro) (fun x=>x.1≤n∧Le h x.2.2.2.2∧x.2.1=Cp (fcs (l.take x.1))∧Ar Cu 1 x.2.2.2.2 x.2.2.1 x.2.1.length x.2.1∧x.2.1.length≤x.2.2.2.1) (fun x=>n-x.1)
  (fun x=>[(4,.int .i64 x.1),(3,.slice x.2.2.1 x.2.1.length x.2.2.2.1),(0,.slice A n c)]) (fun _=>[]) (fun x=>x.2.2.2.2) (0,[],some ⟨b1,0,none⟩,0,h1) ⟨by dsimp only;omega,hle1,rfl,Ar.nil,Nat.le_refl _⟩ QS QT rfl ?_
 rintro ⟨i,out,A3,c3,hh⟩ ⟨hi,hle,ho,hso,hoc⟩ ih
 dsimp only at hi hle ho hso hoc ih ⊢
 obtain ⟨k3,hk3⟩:∃ k3,k3=out.length:=⟨_,rfl⟩
 have hol:k3≤i:=by
  have:=Zx (fcs (l.take i))
  rw [← ho,List.length_map,List.length_take] at this
  omega
 have hsorted:out.Pairwise (· < ·):=by rw [ho];exact Gx _
 rw [← hk3] at hso hoc ⊢
 by_cases hin:i<n
 · have a1:=hx.row.addrD hin
   have c1:Ab hh ((addrD A).add (i * Ara.size)) (Aq (l.getD i p0)):=(hx.row.cellsD p0 hin).le hle
   have et:=Cb p0 hlen hin
   generalize l.getD i p0=p at *
   have e5:Cp (fcs (l.take (i+1)))=if p.2.kind=4 then Cqa p.2.ru.case out else out:=by rw [et,Nx,Hn,← ho]
   have hmm:=fun h' (hl:Le hh h')=>Ixa h' A3 k3 c3 out (hso.le hl) QAd p.2.ru.case
   by_cases hk4:p.2.kind=4
   · rw [if_pos hk4] at e5
     by_cases hmem:p.2.ru.case∈out
     · rw [D6a hsorted hmem] at e5
       rw [decide_eq_true hmem] at hmm
       have h3:=ih (i+1,out,A3,c3,hh) ⟨by dsimp only;omega,hle,e5.symm,by rw [← hk3];exact hso,by dsimp only;omega⟩ QAh
       dsimp only at h3
       rw [← hk3] at h3
       repeat' (first|refine QF ?_|(apply Af;exact J;exact J;(first|exact QAg|exact QAb);exact QA)|(refine QG ?_;first|(refine QEp ?_))|(refine QH ?_ ?_<;>intro hc<;>try omega)|refine QJ ?_|(refine QI ?_ ?_<;>intro hc<;>try omega)|fail)
       all_goals first
        | (exfalso;omega)
        | contradiction
        | (refine Aj QS QT (h3))
     · rw [decide_eq_false hmem] at hmm
       repeat' (first|refine QF ?_|(apply Af;exact J;exact J;(first|exact QAg|exact QAb);exact QA)|(refine QG ?_;first|(refine QEp ?_))|(refine QH ?_ ?_<;>intro hc<;>try omega)|refine QJ ?_|(refine QI ?_ ?_<;>intro hc<;>try omega)|fail)
       all_goals (try (exfalso;omega))
       refine Ai (X:=Nat) (fun x=>x≤k3∧∀ t,t<x→out.getD t 0<p.2.ru.case) (fun x=>k3-x) (fun x=>[(5,.int .i64 x),(4,.int .i64 i),(3,.slice A3 k3 c3),(0,.slice A n c)]) (fun _=>[]) (fun x=>hh) 0 ⟨by omega,fun t ht=>absurd ht QAd⟩ QS QT rfl ?_
       rintro j ⟨hj,hI⟩ ih2
       by_cases hjk:j<k3
       · have b1:=hso.addrD hjk
         have d1:Ab hh ((addrD A3).add (j * ty3.size)) (Cu (out.getD j 0)):=hso.cellsD 0 hjk
         have hmj:=Qv 0 (show j<out.length by omega)
         obtain ⟨q,hq⟩:∃ q,q=out.getD j 0:=⟨_,rfl⟩
         rw [← hq] at d1 hmj
         by_cases hlt:q<p.2.ru.case
         · have h3:=ih2 (j+1) ⟨by omega,fun t ht=>by
            rcases Nat.lt_or_ge t j with w1|w1
            · exact hI t w1
            · have:t=j:=by omega
              subst this;rw [← hq];exact hlt⟩ QAd
           repeat' (first|refine QF ?_|(apply Ad (n:=7) [0,1,2,3,4,5,6,7,8,9,10,11,12,13,14,15,16] [(0,0),(1,0),(2,0),(3,0),(4,0),(5,0),(6,0),(7,0),(8,0),(9,0),(10,0),(11,0),(12,0),(13,0),(14,0),(15,0),(16,0)];kernel_rfl)|(apply Bk;exact J;kernel_rfl;exact J;exact J;(first|(first|exact QFq|exact QC2)|exact QA6|exact QAb);exact QA)|(apply Bq;(iterate 5 exact J);all_goals (intro hc;try simp only [hcS,reduceCtorEq] at hc;try omega))|(refine QH ?_ ?_<;>intro hc<;>try omega)|fail)
           all_goals first
            | (exfalso;omega)
            | (refine Aj QS QT (h3))
         · have hgt:p.2.ru.case<q:=by
            rcases Int.lt_trichotomy q p.2.ru.case with w|w|w
            · omega
            · exact absurd (w ▸ hmj) hmem
            · exact w
           have hat:=Gna (n:=p.2.ru.case) (L:=out) (k:=j) QAd hI (fun _=>by rw [← hq];exact hgt)
           rw [hat] at e5
           clear ih2
           repeat' (first|refine QF ?_|(refine QG ?_;first|(refine QCo ?_;intro A6 hs6)|(refine QB6 ?_;intro A9 c9 h9 hle9 hnc9 hs9))|(apply Ad (n:=7) [0,1,2,3,4,5,6,7,8,9,10,11,12,13,14,15,16] [(0,0),(1,0),(2,0),(3,0),(4,0),(5,0),(6,0),(7,0),(8,0),(9,0),(10,0),(11,0),(12,0),(13,0),(14,0),(15,0),(16,0)];kernel_rfl)|(apply Ad (n:=9) [0,1,2,3,4,5,6,7,8,9,10,11] [(0,0),(1,0),(2,0),(3,0),(4,0),(5,0),(7,0),(8,0),(9,0),(6,1),(10,1),(11,0)];kernel_rfl)|(apply Bk;exact J;kernel_rfl;exact J;exact J;(first|(first|exact QFq|exact QC2)|exact QA6|exact QBx|exact QAb);exact QA)|(apply Ao;exact J;kernel_rfl;(iterate 3 exact J);(first|(refine QE9 ?_;intro b8;refine ⟨Le.refl _,QN,?_⟩)|(refine QBo ?_;intro A7 c7 h7 hle7 hnc7 hs7;refine ⟨hle7,QN,?_⟩)))|(apply Bq;(iterate 5 exact J);all_goals (intro hc;try simp only [hcS,reduceCtorEq] at hc;try omega))|(refine QH ?_ ?_<;>intro hc<;>try omega)|fail)
           all_goals (try (exfalso;omega))
           all_goals
            have hln:(out.take j++([p.2.ru.case]++out.drop j)).length=j+(1+(k3-j)):=by simp;omega
            have h3:=ih (i+1,out.take j++([p.2.ru.case]++out.drop j),A9,c9,h9) ⟨by dsimp only;omega,by dsimp only;exact hle.trans QAa,e5.symm,by dsimp only;rw [hln];exact hs9,by dsimp only;rw [hln];exact hnc9⟩ QAh
            dsimp only at h3
            rw [hln] at h3
            refine Aj QS QT (h3)
       · have hjk2:j=k3:=by omega
         have hat:=Gna (n:=p.2.ru.case) (L:=out) (k:=j) QAd hI (fun w=>by omega)
         rw [hat] at e5
         clear ih2
         repeat' (first|refine QF ?_|(refine QG ?_;first|(refine QCo ?_;intro A6 hs6)|(refine QB6 ?_;intro A9 c9 h9 hle9 hnc9 hs9))|(apply Ad (n:=7) [0,1,2,3,4,5,6,7,8,9,10,11,12,13,14,15,16] [(0,0),(1,0),(2,0),(3,0),(4,0),(5,0),(6,0),(7,0),(8,0),(9,0),(10,0),(11,0),(12,0),(13,0),(14,0),(15,0),(16,0)];kernel_rfl)|(apply Ad (n:=9) [0,1,2,3,4,5,6,7,8,9,10,11] [(0,0),(1,0),(2,0),(3,0),(4,0),(5,0),(7,0),(8,0),(9,0),(6,1),(10,1),(11,0)];kernel_rfl)|(apply Bk;exact J;kernel_rfl;exact J;exact J;(first|exact QC2|exact QBx|exact QAb);exact QA)|(apply Ao;exact J;kernel_rfl;(iterate 3 exact J);(first|(refine QE9 ?_;intro b8;refine ⟨Le.refl _,QN,?_⟩)|(refine QBo ?_;intro A7 c7 h7 hle7 hnc7 hs7;refine ⟨hle7,QN,?_⟩)))|(apply Bq;(iterate 5 exact J);all_goals (intro hc;try simp only [hcS,reduceCtorEq] at hc;try omega))|(refine QH ?_ ?_<;>intro hc<;>try omega)|fail)
         all_goals (try (exfalso;omega))
         all_goals
          have hln:(out.take j++([p.2.ru.case]++out.drop j)).length=j+(1+(k3-j)):=by simp;omega
          have h3:=ih (i+1,out.take j++([p.2.ru.case]++out.drop j),A9,c9,h9) ⟨by dsimp only;omega,by dsimp only;exact hle.trans QAa,e5.symm,by dsimp only;rw [hln];exact hs9,by dsimp only;rw [hln];exact hnc9⟩ QAh
          dsimp only at h3
          rw [hln] at h3
          refine Aj QS QT (h3)
   · rw [if_neg hk4] at e5
     have h3:=ih (i+1,out,A3,c3,hh) ⟨by dsimp only;omega,hle,e5.symm,by rw [← hk3];exact hso,by dsimp only;omega⟩ QAh
     dsimp only at h3
     rw [← hk3] at h3
     repeat' (first|refine QF ?_|(apply Af;exact J;exact J;(first|exact QAg|exact QAb);exact QA)|(refine QH ?_ ?_<;>intro hc<;>try omega)|refine QJ ?_|(refine QI ?_ ?_<;>intro hc<;>try omega)|fail)
     all_goals first
      | (exfalso;omega)
      | contradiction
      | (refine Aj QS QT (h3))
 · rw [List.take_of_length_le QAd] at ho
   clear ih
   rw [← ho,← hk3]
   repeat' (first|refine QF ?_|(refine QH ?_ ?_<;>intro hc<;>try omega)|fail)
   all_goals first
    | (exfalso;omega)
    | (exact Ay rfl rfl rfl ⟨A3,c3,rfl,hso⟩)
end Go.Hw
namespace Go.Hw
open Go
attribute [local irreducible] GO GOl GDp Val Fn Res Ab Du Blk Bd Cd Bf Has Yl Ik Bn
open Go.Proofs.Tryz (prog)
theorem stand_idx {l:List (Fsh×Fct)}{num i:Int}{f:Fct}(h:Fc (fcs l) num i=some f):∃ j y,j<l.length∧Qu (fun p:Fsh×Fct=>decide (Bp num p.2∧p.2.ru.inst=i)) l 0=(j:Int)∧l[j]? = some y∧y.2=f:=by
 have e:Fc (fcs l) num i=(l.find? fun p:Fsh×Fct=>decide (Bp num p.2∧p.2.ru.inst=i)).map (·.2):=by
  unfold Fc fcs
  rw [List.find?_map];rfl
 rw [e] at h
 obtain ⟨y,hy,hyf⟩:=Option.map_eq_some_iff.1 h
 rcases Kv (fun p:Fsh×Fct=>decide (Bp num p.2∧p.2.ru.inst=i)) l 0 with ⟨_,e2⟩|⟨j,x,e1,e2,e3,e4⟩
 · rw [e2] at hy;cases hy
 · rw [e4] at hy
   cases hy
   exact ⟨j,y,e1,by rw [e2,Nat.zero_add],e3,hyf⟩
theorem Zo (h:Ro)(A:Option Addr)(n c:Nat)(l:List (Fsh×Fct))(hx:Au h A n l)(hn6:n≤65536):Res prog 66 #[.slice A n c] h (fun u h'=>∃ A' c' l',u=.slice A' l'.length c'∧Fla h' A' l'.length c' l' (Bn (Ba (fcs l)))):=by
 refine QXR Proofs.Tryz.func66 fun w0 X0=>?_
 have h32:Mk (fcs l):=Ta hx.fat
 have hok:∀ f∈Ba (fcs l),Bm f:=fun f hf=>(((Bx (fcs l) h32).2 f).1 hf).2
 have hcan:=fun h' (hl:Le h h')=>Uv h' A n c l (hx.le hl) hn6
 obtain ⟨C,hC⟩:∃ C,C=Ba (fcs l):=⟨_,rfl⟩
 rw [← hC] at hcan hok ⊢
 clear hx
 repeat' (first|refine QF ?_|(refine QG ?_;first|(refine QB5 ?_;rintro v1 h1 hle1 ⟨A3,k3,c3,l3,rfl,hL⟩)|(apply Ag;exact J;exact has104;exact casesR_c _ A3 k3 c3 l3 (hL.2.1.facts.le QAa);rw [hL.2.2];rintro v2 h2 hle2 ⟨A5,c5,rfl,hs5⟩)|(refine QAj ?_;intro b8))|fail)
 have hlen3:=hL.2.1.row.len
 have hsm3:=hL.2.1.small
 have hnl:=Zx C
 have hCl:C.length=k3:=by rw [← hL.2.2,List.length_map,hlen3]
 have hmem:∀ m∈Cp C,∃ f∈C,Bp m f:=fun m hm=>(Ja C m).1 hm
 rw [show Bn C=Mb C (Cp C) from (Zk C).symm]
 generalize Cp C=ns at *
 refine Ai (X:=Nat×List (Fsh×Fct)×Option Addr×Nat×Ro) (fun x=>x.1≤ns.length∧Le h2 x.2.2.2.2∧(∀ p∈x.2.1,FGd h2 p)∧fcs x.2.1=Mb C (ns.take x.1)) (fun x=>ns.length-x.1)
  (fun x=>[(6,.int .i64 x.1),(3,.slice A3 k3 c3),(4,.slice A5 ns.length c5),(5,.slice x.2.2.1 x.2.1.length x.2.2.2.1)])
  (fun x=>[Bd 57 82 (.slice x.2.2.1 x.2.1.length x.2.2.2.1) x.2.1.length (x.2.1.flatMap Aq)]) (fun x=>x.2.2.2.2) (0,[],some ⟨b8,0,none⟩,0,h2) ⟨by dsimp only;omega,Le.refl _,by simp,rfl⟩ QS QT rfl ?_
 rintro ⟨k,out,A4,c4,hh⟩ ⟨hk,hle,hgd,ho⟩ ih
 dsimp only at hk hle hgd ho ih ⊢
 have hol:out.length≤k:=by
  have q:=congrArg List.length ho
  have q2:=Zj C (ns.take k)
  rw [List.length_map] at q
  rw [List.length_take] at q2
  omega
 by_cases hkn:k<ns.length
 · have a5:=hs5.addrD hkn
   have d5:Ab hh ((addrD A5).add (k * ty3.size)) (Cu (ns.getD k 0)):=(hs5.cellsD 0 hkn).le hle
   have et:=Cb 0 (xs:=ns) rfl hkn
   have hnm:=hmem _ (Qv 0 hkn)
   generalize ns.getD k 0=m at *
   have hxl:Au hh A3 k3 l3:=hL.2.1.facts.le QAa
   have hsu:=suspR10_c hh A3 k3 c3 l3 hxl m
   have hla:=D1a hh A3 k3 c3 l3 hxl m
   rw [hL.2.2] at hsu hla
   have e0:Mb C (ns.take (k+1))=fcs out++(if Io C m then none else Fc C m (Di C m)).toList:=by rw [et,Wq,ho]
   by_cases hH:Io C m
   · rw [decide_eq_true hH] at hsu
     rw [if_pos hH] at e0
     have h3:=ih (k+1,out,A4,c4,hh) ⟨by dsimp only;omega,hle,hgd,by dsimp only;rw [e0];simp⟩ QAh
     dsimp only at h3
     repeat' (first|refine QF ?_|(apply Af;exact J;exact J;(first|exact QCu|exact QDm);exact QA)|(refine QG ?_;first|(apply Aa;exact J;exact has105;exact hsu))|(refine QH ?_ ?_<;>intro hc<;>try omega)|fail)
     all_goals first
      | (exfalso;omega)
      | (refine Aj QS QT (h3))
   · rw [decide_eq_false hH] at hsu
     rw [if_neg hH] at e0
     obtain ⟨_,f9,hf9⟩:=No hok hnm
     rw [hf9] at e0
     have hstd:=Koa hh A3 k3 c3 l3 hxl m (Di C m)
     obtain ⟨jj,y,hjj,hij,hyy,hyf⟩:=stand_idx (l:=l3) (by rw [hL.2.2];exact hf9)
     rw [hij] at hstd
     have aL:=hL.2.1.row.addrD (show jj<k3 by omega)
     have dL:Ab hh ((addrD A3).add (jj * Ara.size)) (Aq y):=by
      have:=(hL.2.1.row.cellsD p0 (show jj<k3 by omega)).le (show Le h1 hh from QAa)
      rwa [List.getD_eq_getElem?_getD,hyy] at this
     have hyg:FGd h2 y:=(hL.2.1.good y (List.mem_of_getElem? hyy)).le hle2
     repeat' (first|refine QF ?_|(apply Af;exact J;exact J;(first|(first|exact QCu|exact QFp)|(first|exact QDm|(apply Aw;exact J;apply Cy;exact J;(with_reducible exact dL);exact J)));exact QA)|(refine QG ?_;first|(apply Aa;exact J;exact has105;exact hsu))|(apply Ad (n:=8) [0,1,2,3,4,5,6,7,8,9,10,11,12,13,14,15,16,17,18] [(0,0),(1,0),(2,0),(3,0),(4,0),(5,0),(6,0),(7,0),(8,0),(9,0),(10,0),(11,0),(12,1),(13,1),(14,0),(15,0),(16,1),(17,1),(18,0)];kernel_rfl)|(apply Bk;exact J;kernel_rfl;exact J;exact J;(first|(first|exact QCu|exact QFp)|(first|exact QDm|(apply Aw;exact J;apply Cy;exact J;(with_reducible exact dL);exact J)));exact QA)|(apply Ao;exact J;kernel_rfl;(iterate 3 exact J);(first|(apply Aa;exact J;exact has107;exact hla;refine ⟨Le.refl _,QN,?_⟩)|(apply Aa;exact J;exact has106;exact hstd;refine ⟨Le.refl _,QN,?_⟩)|(apply Ah (enc:=Aq) (n:=1) [y];(iterate 3 exact J);exact List.cons_ne_nil _ _;(iterate 4 exact J);exact Bc;exact J;exact J;intro b5 h5 hle5 hs6;refine ⟨hle5,QN,?_⟩)|(apply Ap (enc:=Aq) (xs:=out);(iterate 7 exact J);exact hs6;exact Bc;exact Kz;intro v1;exact QR;omega;exact J;intro A6 c6;refine ⟨Le.refl _,QN,?_⟩)))|(refine QH ?_ ?_<;>intro hc<;>try omega)|fail)
     all_goals first
      | (exfalso;omega)
      | (have h3:=ih (k+1,out++[y],A6,c6,h5) ⟨by dsimp only;omega,hle.trans hle5,fun q hq=>by
          rcases List.mem_append.1 hq with w|w
          · exact hgd q w
          · rw [List.mem_singleton] at w;subst w;exact hyg,by dsimp only;rw [e0,Nx,hyf];rfl⟩ QAh
         dsimp only at h3
         rw [List.length_append] at h3
         refine Aj QS QT (h3))
 · rw [List.take_of_length_le QAd] at ho
   clear ih
   refine El (enc:=Aq) (e:=57) (sz:=82) (n:=out.length) (xs:=out) Bc rfl QK ?_
   intro A6 c6 h6 hle6 e6 hnc6 hs6
   cases e6
   repeat' (first|refine QF ?_|(refine QH ?_ ?_<;>intro hc<;>try omega)|fail)
   all_goals first
    | (exfalso;omega)
    | (exact Ay rfl rfl rfl ⟨A4,c4,out,rfl,hnc6,⟨hs6,fun p hp=>(hgd p hp).le QAa,by omega⟩,ho⟩)
theorem Mba (h:Ro)(A:Option Addr)(n c:Nat)(l:List (Fsh×Fct))(hx:Au h A n l)(hn6:n≤65536):Res prog 175 #[.slice A n c] h (fun u h'=>∃ A' c' rl,u=.slice A' rl.length c'∧Ar Iy 17 h' A' rl.length rl∧rl=(Bn (Ba (fcs l))).map (·.ru)∧rl.length≤1000000):=by
 refine QXR Proofs.Tryz.func175 fun w0 X0=>?_
 obtain ⟨L,hL⟩:∃ L,L=Bn (Ba (fcs l)):=⟨_,rfl⟩
 have hfi:=fun h' (hl:Le h h')=>Zo h' A n c l (hx.le hl) hn6
 rw [← hL] at hfi ⊢
 repeat' (first|refine QF ?_|(refine QG ?_;first|(apply Ag;exact J;exact has66;exact hfi _ QAa;rintro w1 h1 hle1 ⟨A3,c3,l3,rfl,hL3⟩)|(refine QAj ?_;intro b8))|fail)
 have hs9:=hL3.2.1.row
 have hn3:=hL3.2.1.small
 have hf3:=hL3.2.2
 refine Ai (X:=Nat×List Fk×Option Addr×Nat×Ro) (fun x=>x.1≤l3.length∧Le h1 x.2.2.2.2∧x.2.1=(fcs (l3.take x.1)).map (·.ru)) (fun x=>l3.length-x.1)
  (fun x=>[(5,.int .i64 x.1),(3,.slice A3 l3.length c3),(4,.slice x.2.2.1 x.2.1.length x.2.2.2.1)])
  (fun x=>[Bd 39 17 (.slice x.2.2.1 x.2.1.length x.2.2.2.1) x.2.1.length (x.2.1.flatMap Iy)]) (fun x=>x.2.2.2.2) (0,[],some ⟨b8,0,none⟩,0,h1) ⟨by dsimp only;omega,Le.refl _,rfl⟩ QS QT rfl ?_
 rintro ⟨k,out,A4,c4,hh⟩ ⟨hk,hle,ho⟩ ih
 dsimp only at hk hle ho ih ⊢
 have hol:out.length≤k:=by
  rw [ho,List.length_map,List.length_map,List.length_take];omega
 by_cases hkn:k<l3.length
 · have a1:=hs9.addrD hkn
   have cc:Ab hh ((addrD A3).add (k * Ara.size)) (Aq (l3.getD k p0)):=(hs9.cellsD p0 hkn).le hle
   have et:=Cb p0 (xs:=l3) rfl hkn
   generalize l3.getD k p0=p at *
   repeat' (first|refine QF ?_|(apply Af;exact J;exact J;(first|exact QAc|exact QAb);exact QA)|(refine QG ?_;first|(refine QD7 ?_;intro b5 h5 hle5 hs5)|(refine QEd ?_;intro A5 c5))|(refine QH ?_ ?_<;>intro hc<;>try omega)|fail)
   all_goals first
    | (exfalso;omega)
    | (have h3:=ih (k+1,out++[p.2.ru],A5,c5,h5) ⟨by dsimp only;omega,hle.trans hle5,by dsimp only;rw [ho,et];simp [fcs]⟩ QAh
       dsimp only at h3
       rw [List.length_append] at h3
       refine Aj QS QT (h3))
 · rw [List.take_of_length_le QAd,hf3] at ho
   clear ih
   refine El (enc:=Iy) (e:=39) (sz:=17) (n:=out.length) (xs:=out) (fun _=>rfl) rfl QK ?_
   intro A7 c7 h7 hle7 e7 hnc7 hs7
   cases e7
   repeat' (first|refine QF ?_|(refine QH ?_ ?_<;>intro hc<;>try omega)|fail)
   all_goals first
    | (exfalso;omega)
    | (exact Ay rfl rfl rfl ⟨A4,c4,out,rfl,hs7,ho,by omega⟩)
end Go.Hw

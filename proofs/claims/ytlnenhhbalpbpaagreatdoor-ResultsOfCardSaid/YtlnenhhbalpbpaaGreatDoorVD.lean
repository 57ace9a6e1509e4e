import Derived.Test.YtlnenhhbalpbpaaGreatDoorVC
set_option linter.all false
set_option maxRecDepth 100000
set_option maxHeartbeats 8000000
namespace Go.Hw
open Go
attribute [local irreducible] GO GOl GDp Val Fn Res Ab Du Blk Bd Cd Bf Has Yl Ik Bn
open Go.Proofs.Tryz (prog)
theorem D9a (h:Ro)(b n c:Nat)(l:List (Fsh×Fct))(hn:n≤1000000000)(hl:l.length=n)(f:FuncId)(cs:List Value)(p:Fsh×Fct→Bool)(hh:Has prog f)
  (hf:∀ x∈l,Val prog f ([]++[Br x.1 x.2]++cs).toArray h (.bool (p x))) :
  Fn prog 76 #[.slice (some ⟨b,0,none⟩) n c,.func (.func f) #[] cs.toArray] [Bd 57 82 (.slice (some ⟨b,0,none⟩) n c) n (l.flatMap Aq)] h (fun u Es _=>u=.int .i64 (Qu p l 0)∧Es=[Bd 57 82 (.slice (some ⟨b,0,none⟩) n c) n (l.flatMap Aq)]):=by
 refine QXF Proofs.Tryz.func76 fun w0 X0=>?_
 repeat' (first|refine QF ?_|fail)
 refine Ai (X:=Nat) (fun k=>k≤n∧Qu p (l.drop k) k=Qu p l 0) (fun k=>n-k) (fun k=>[(8,.int .i64 k),(7,.int .i64 n),(0,.slice (some ⟨b,0,none⟩) n c),(1,.func (.func f) #[] cs.toArray)]) (fun _=>[Bd 57 82 (.slice (some ⟨b,0,none⟩) n c) n (l.flatMap Aq)]) (fun _=>h) 0 ⟨by omega,rfl⟩ QS QT rfl ?_
 rintro k ⟨hk,hI⟩ ih
 by_cases hkn:k<n
 · have hd:=So p0 hl hkn
   have hv:=hf _ (Qv p0 (show k<l.length by omega))
   have hx:l[k]? = some (l.getD k p0):=by rw [List.getD_eq_getElem?_getD,List.getElem?_eq_getElem QAd];rfl
   generalize l.getD k p0=x at *
   by_cases hp:p x=true
   · rw [hp] at hv
     have e:Qu p l 0=k:=by rw [← hI,hd,Qu,if_pos hp]
     rw [e]
     repeat' (first|refine QF ?_|(apply Af;exact J;exact J;(first|exact QA8|exact QDe);exact QA)|(refine QG ?_;first|(refine QCy ?_))|(refine QH ?_ ?_<;>intro hc<;>try omega)|fail)
     all_goals first
      | (exfalso;omega)
      | (exact Bi rfl rfl rfl (List.Sublist.refl _) ⟨rfl,rfl⟩)
   · have hp2:p x=false:=by simpa using hp
     rw [hp2] at hv
     have h3:=ih (k+1) ⟨by omega,by rw [← hI,hd,Qu,if_neg hp]⟩ QAd
     repeat' (first|refine QF ?_|(apply Af;exact J;exact J;(first|exact QA8|exact QDe);exact QA)|(refine QG ?_;first|(refine QCy ?_))|(refine QH ?_ ?_<;>intro hc<;>try omega)|fail)
     all_goals first
      | (exfalso;omega)
      | (refine Aj QS QT (h3))
 · rw [show k=l.length by omega,List.drop_length] at hI
   have e:Qu p l 0 = -1:=hI.symm
   rw [e]
   clear ih
   repeat' (first|refine QF ?_|(refine QH ?_ ?_<;>intro hc<;>try omega)|fail)
   all_goals first
    | (exfalso;omega)
    | (exact Bi rfl rfl rfl (List.Sublist.refl _) ⟨rfl,rfl⟩)
theorem I7a {α:Type}(p:α→Bool):∀ (l:List α) (k j:Nat),Qu p l k=((k+j:Nat):Int)→l.take j=(l.take j).filter (fun x => !p x)∧j<l.length∧(l.take (j+1)).filter (fun x => !p x)=l.take j
 | [],k,j,h=>by unfold Qu at h;omega
 | y::r,k,j,h=>by
   unfold Qu at h
   by_cases hy:p y=true
   · rw [if_pos hy] at h
     have:j=0:=by omega
     subst this
     simp [hy]
   · rw [if_neg hy] at h
     have hf:p y=false:=by simpa using hy
     cases j with
     | zero =>
       exfalso
       rcases Kv p r (k+1) with ⟨e1,_⟩|⟨j,x,_,e2,_⟩
       · omega
       · omega
     | succ j =>
       obtain ⟨h1,h2,h3⟩:=I7a p r (k+1) j (by rw [h];congr 1;omega)
       refine ⟨?_,by simp;omega,?_⟩
       · rw [List.take_succ_cons,List.filter_cons,hf]
         simp only [Bool.not_false,if_true]
         rw [← h1]
       · rw [List.take_succ_cons,List.filter_cons,hf]
         simp only [Bool.not_false,if_true]
         rw [h3,List.take_succ_cons]
theorem idxP_all {α:Type}(p:α→Bool)(l:List α)(h:Qu p l 0 = -1):l.filter (fun x => !p x)=l:=by
 rcases Kv p l 0 with ⟨_,e⟩|⟨j,x,_,e,_⟩
 · rw [List.filter_eq_self]
   intro x hx
   have:=List.find?_eq_none.1 e x hx
   simpa using this
 · omega
theorem deleteF_c (h:Ro)(v:Value)(n:Nat)(l:List (Fsh×Fct))(hn:n≤1000000)(hl:l.length=n)(f:FuncId)(cs:List Value)(p:Fsh×Fct→Bool)(hh:Has prog f)
  (hf:∀ h',Le h h'→∀ x∈l,Val prog f ([]++[Br x.1 x.2]++cs).toArray h' (.bool (p x))) :
  Fn prog 37 #[v,.func (.func f) #[] cs.toArray] [Bd 57 82 v n (l.flatMap Aq)] h (fun u Es _=>∃ A' c',u=.slice A' (l.filter fun x => !p x).length c'∧Es=[Bd 57 82 (.slice A' (l.filter fun x => !p x).length c') (l.filter fun x => !p x).length ((l.filter fun x => !p x).flatMap Aq)]):=by
 refine QXF Proofs.Tryz.func37 fun w0 X0=>?_
 by_cases h0:0<n
 · refine Cka QM h0 ?_
   intro bo c hnc e0
   subst e0
   have hixf:=D9a h bo n c l QAd hl f cs p hh (hf h (Le.refl h))
   rcases Kv p l 0 with ⟨e1,e2⟩|⟨j,y,e1,e2,e3,e4⟩
   · rw [e1] at hixf
     rw [idxP_all p l e1]
     repeat' (first|refine QF ?_|(refine QG ?_;first|(apply Be;exact J;exact has76;exact hixf;exact QT;rintro vi Ei hi1 hli ⟨rfl,rfl⟩))|(refine QH ?_ ?_<;>intro hc<;>try omega)|fail)
     all_goals first
      | (exfalso;omega)
      | (exact Bi rfl rfl rfl (List.Sublist.refl _) ⟨some ⟨bo,0,none⟩,c,by rw [hl],by rw [hl];rfl⟩)
   · rw [Nat.zero_add] at e2
     rw [e2] at hixf
     obtain ⟨q1,q2,q3⟩:=I7a p l 0 j (by rw [Nat.zero_add];exact e2)
     repeat' (first|refine QF ?_|(refine QG ?_;first|(apply Be;exact J;exact has76;exact hixf;exact QT;rintro vi Ei hi1 hli ⟨rfl,rfl⟩))|(refine QH ?_ ?_<;>intro hc<;>try omega)|fail)
     all_goals (try (exfalso;omega))
     refine Ai (X:=Nat×Nat×List (Fsh×Fct)×Ro) (fun x=>x.1<x.2.1∧x.2.1≤n∧x.2.2.1.length=n∧Le h x.2.2.2∧x.2.2.1.take x.1=(l.take x.2.1).filter (fun x => !p x)∧(∀ t,x.2.1≤t→x.2.2.1[t]? = l[t]?)) (fun x=>n-x.2.1)
      (fun x=>[(6,.int .i64 x.2.1),(5,.int .i64 x.1),(0,.slice (some ⟨bo,0,none⟩) n c),(1,.func (.func f) #[] cs.toArray)])
      (fun x=>[Bd 57 82 (.slice (some ⟨bo,0,none⟩) n c) n (x.2.2.1.flatMap Aq)]) (fun x=>x.2.2.2) (j,j+1,l,hi1) ⟨by dsimp only;omega,by dsimp only;omega,hl,hli,q3.symm,fun t _=>rfl⟩ QS QT rfl ?_
     rintro ⟨i,k,zs,hz⟩ ⟨j1,j2,j3,j4,j5,j6⟩ ih
     dsimp only at j1 j2 j3 j4 j5 j6 ih ⊢
     by_cases hlt:k<n
     · obtain ⟨x,hx⟩:∃ x,l[k]? = some x:=⟨_,List.getElem?_eq_getElem QAd⟩
       have hzx:zs[k]? = some x:=by rw [j6 _ (Nat.le_refl _)];exact hx
       have hv:=hf hz j4 x (List.mem_of_getElem? hx)
       have et:l.take (k+1)=l.take k++[x]:=by rw [List.take_add_one,hx];rfl
       by_cases hp:p x=true
       · rw [hp] at hv
         have h9:=ih (i,k+1,zs,hz) ⟨by dsimp only;omega,by dsimp only;omega,j3,j4,by dsimp only;rw [et,List.filter_append,j5];simp [hp],fun t ht=>j6 t (by dsimp only at ht;omega)⟩ QAh
         dsimp only at h9
         repeat' (first|refine QFs ?_|(apply Af;exact J;exact J;(first|exact QA8|exact QC7);exact QA)|(refine QB ?_;intro b)|(refine QG ?_;first|(refine QCy ?_))|(refine QH ?_ ?_<;>intro hc<;>try omega)|fail)
         all_goals first
          | (exfalso;omega)
          | (refine Aj QS QT (h9))
       · have hp2:p x=false:=by simpa using hp
         rw [hp2] at hv
         have hset:(zs.set i x).take (i+1)=zs.take i++[x]:=by
          rw [List.take_add_one,List.getElem?_set_self QAd,List.take_set_of_le (Nat.le_refl _)];rfl
         have h9:=ih (i+1,k+1,zs.set i x,hz) ⟨by dsimp only;omega,by dsimp only;omega,by dsimp only;rw [List.length_set];exact j3,j4,by dsimp only;rw [hset,et,List.filter_append,j5];simp [hp2],fun t ht=>by
          dsimp only at ht ⊢
          rw [List.getElem?_set_ne QAd];exact j6 t QAd⟩ QAh
         dsimp only at h9
         repeat' (first|refine QFs ?_|(apply Af;exact J;exact J;(first|(first|exact QA8|(apply Oz (j:=i);(iterate 5 exact J);(with_reducible exact J);omega))|exact QC7);exact QA)|(refine QB ?_;intro b)|(refine QG ?_;first|(refine QCy ?_)|(apply J3a (b:=bo) (enc:=Aq) (sz:=82) (k:=i) (z:=x) (xs:=zs);exact J;exact J;exact addE _ _;exact J;exact Bc;exact J;exact QR;omega;exact J;exact J))|(refine QH ?_ ?_<;>intro hc<;>try omega)|fail)
         all_goals first
          | (exfalso;omega)
          | (refine Aj QS QT (h9))
     · have hk:k=n:=by omega
       subst hk
       clear ih
       rw [List.take_of_length_le (l:=l) QAd] at j5
       rw [← j5]
       have hkl:(zs.take i).length=i:=by rw [List.length_take];omega
       rw [hkl]
       repeat' (first|refine QF ?_|(apply Af;exact J;exact J;(first|(apply Ho (lo:=i);(iterate 5 exact J);(with_reducible exact J);omega));exact QA)|(refine QH ?_ ?_<;>intro hc<;>try omega)|fail)
       all_goals (try (exfalso;omega))
       rw [Vj (show i<c by omega)]
       repeat' (first|refine QF ?_|(apply Af;exact J;exact J;(first|(apply Jc (hi:=i);(iterate 5 exact J);(with_reducible exact J);omega;exact hnc));exact QA)|(refine QG ?_;first|(apply Xf (enc:=Aq) (b:=bo) (k:=i) (m:=k-i) (n:=k) (c:=c) (xs:=zs);(iterate 3 exact J);exact List.cons_ne_nil _ _;(iterate 4 exact J);exact Bc;omega;omega;exact j3;exact QR))|fail)
       rw [Yo]
       exact Bi rfl rfl rfl (List.Sublist.refl _) ⟨some ⟨bo,0,none⟩,c,rfl,rfl⟩
 · have hn0:n=0:=by omega
   subst hn0
   have hl0:l=[]:=List.eq_nil_of_length_eq_zero hl
   subst hl0
   refine Ru QM ?_
   intro A0 c0 e0
   subst e0
   have hixf:=Sw (Mw h A0 0 c0 [] Ar.nil QAd f [] cs p hh QAn)
   have e9:Qu p ([]:List (Fsh×Fct)) 0 = -1:=rfl
   rw [e9] at hixf
   repeat' (first|refine QF ?_|(refine QG ?_;first|(apply Ag;exact J;exact has76;exact hixf;rintro vi hi1 hli rfl))|(refine QH ?_ ?_<;>intro hc<;>try omega)|fail)
   all_goals first
    | (exfalso;omega)
    | (exact Bi rfl rfl rfl (List.Sublist.refl _) ⟨A0,c0,rfl,rfl⟩)
end Go.Hw
namespace Go.Hw
open Go
attribute [local irreducible] GO GOl GDp Val Fn Res Ab Du Blk Bd Cd Bf Has Yl Ik Bn Jo Py
open Go.Proofs.Tryz (prog)
theorem maxF_c (h:Ro)(hG:Iv h)(A:Option Addr)(n c:Nat)(l:List (Fsh×Fct))(hx:Ar Aq 82 h A n l)(hn:n≤1000000)(hg:∀ p∈l,FGd h p)(h0:0<n):Res prog 40 #[.slice A n c,.func (.func 41) #[] #[]] h (fun u _=>∃ m,u=Br m.1 m.2∧m∈l∧Py (fcs l)=some m.2):=by
 refine QXR Proofs.Tryz.func40 fun w0 X0=>?_
 have hlen:=hx.len
 have a0:=hx.addrD h0
 have c0:=hx.cellsD p0 h0
 have hm0:=mem7 p0 (show 0<l.length by omega)
 have et0:=Cb p0 hlen h0
 rw [List.take_zero,List.nil_append] at et0
 generalize l.getD 0 p0=p at *
 have em0:Py (fcs (l.take 1))=some p.2:=by rw [et0];unfold Py;rfl
 repeat' (first|refine QFs ?_|(apply Af;exact J;exact J;(first|(apply Aw;exact J;exact Cy rfl c0 rfl)|(apply Cg;(iterate 5 exact J);assumption;exact J;first|assumption|omega));exact QA)|(refine QB ?_;intro b)|(refine QH ?_ ?_<;>intro hc<;>try omega)|fail)
 all_goals (try (exfalso;omega))
 rename_i b4
 generalize b=b5
 refine Ai (X:=Nat×(Fsh×Fct)×Ro) (fun x=>1≤x.1∧x.1≤n∧Le h x.2.2∧x.2.1∈l∧Py (fcs (l.take x.1))=some x.2.1.2) (fun x=>n-x.1)
  (fun x=>[(6,.int .i64 x.1),(0,.slice A n c),(1,.func (.func 41) #[] #[]),(4,Kr b4),(5,Kr b5)])
  (fun x=>[Blk b5 57 (Df x.2.1.1 x.2.1.2),Blk b4 57 (Df Ga Ef)]) (fun x=>x.2.2) (1,p,h) ⟨by dsimp only;omega,by dsimp only;omega,Le.refl _,hm0,em0⟩ QS QT rfl ?_
 rintro ⟨k,m,hh⟩ ⟨hk1,hk,hle,hm,hmx⟩ ih
 dsimp only at hk1 hk hle hm hmx ih ⊢
 by_cases hkn:k<n
 · have a1:=hx.addrD hkn
   have c1:=(hx.cellsD p0 hkn).le hle
   have et:=Cb p0 hlen hkn
   have hqm:=mem7 p0 (show k<l.length by omega)
   generalize l.getD k p0=q at *
   have hcm:=fun h' (hl:Le hh h')=>cmp_c h' (hG.le (hle.trans hl)) q m ((hg q hqm).le (hle.trans hl)) ((hg m hm).le (hle.trans hl))
   have hsn:Py (fcs (l.take (k+1)))=if 0<Gp q.2 m.2 then some q.2 else some m.2:=by
    rw [et]
    have:fcs (l.take k++[q])=fcs (l.take k)++[q.2]:=by simp [fcs]
    rw [this,Mu,hmx]
   by_cases hc9:0<Gp q.2 m.2
   · rw [if_pos hc9] at hsn
     repeat' (first|refine QFs ?_|(apply Af;exact J;exact J;(first|exact QAc|exact QBr);exact QA)|(apply Ad (n:=7) [0,1,2,3,4,5,6,7] [(0,0),(1,0),(2,0),(3,0),(4,0),(5,0),(6,1),(7,0)];kernel_rfl)|(apply Bk;exact J;kernel_rfl;exact J;exact J;(first|exact QAc|exact QBr);exact QA)|(apply Ao;exact J;kernel_rfl;(iterate 3 exact J);(first|(refine QDl ?_;rintro vc h3 hle3 rfl;refine ⟨hle3,QN,?_⟩)))|(refine QH ?_ ?_<;>intro hc<;>try omega)|fail)
     all_goals first
      | (exfalso;omega)
      | (have h3:=ih (k+1,q,h3) ⟨by dsimp only;omega,by dsimp only;omega,hle.trans hle3,hqm,hsn⟩ QAh
         dsimp only at h3
         refine Aj QS QT (h3))
   · rw [if_neg hc9] at hsn
     repeat' (first|refine QF ?_|(apply Ad (n:=7) [0,1,2,3,4,5,6,7] [(0,0),(1,0),(2,0),(3,0),(4,0),(5,0),(6,1),(7,0)];kernel_rfl)|(apply Bk;exact J;kernel_rfl;exact J;exact J;(first|exact QAc|exact QBr);exact QA)|(apply Ao;exact J;kernel_rfl;(iterate 3 exact J);(first|(refine QDl ?_;rintro vc h3 hle3 rfl;refine ⟨hle3,QN,?_⟩)))|(refine QH ?_ ?_<;>intro hc<;>try omega)|fail)
     all_goals first
      | (exfalso;omega)
      | (have h3:=ih (k+1,m,h3) ⟨by dsimp only;omega,by dsimp only;omega,hle.trans hle3,hm,hsn⟩ QAh
         dsimp only at h3
         refine Aj QS QT (h3))
 · rw [List.take_of_length_le QAd] at hmx
   clear ih
   repeat' (first|refine QFs ?_|(refine QH ?_ ?_<;>intro hc<;>try omega)|fail)
   all_goals first
    | (exfalso;omega)
    | (exact Bw rfl rfl rfl QM rfl rfl ⟨m,rfl,hm,hmx⟩)
theorem ofGame1_c (h:Ro)(b:Nat)(g:Ak)(hb:Ab h ⟨b,0,none⟩ (Cx g))(p:Fsh×Fct):Val prog 39 #[Br p.1 p.2,.pointer (some ⟨b,0,none⟩)] h (.bool (!decide (Fv g p.2.ru))):=by
 refine QXV Proofs.Tryz.func39 fun w0 X0=>?_
 by_cases hg:p.2.ru.g=g
 · have e:(!decide (Fv g p.2.ru)) = !decide (p.2.ru.kind=1∨p.2.ru.kind=2∨p.2.ru.kind=3):=by unfold Fv;simp [hg]
   rw [e]
   have hge:=Lr p.2.ru.g g
   rw [decide_eq_true hg] at hge
   repeat' (first|refine QF ?_|(apply Af;exact J;exact J;(first|(apply Cba;exact J;exact J;exact hge;kernel_rfl;kernel_rfl)|exact QAb);exact QA)|(refine QB ?_;intro b)|refine QJ ?_|(refine QI ?_ ?_<;>intro hc<;>try omega)|(apply Ac;(iterate 3 exact J)))
   all_goals first
    | ((try simp only [Fe]);congr 1;rw [Bool.eq_iff_iff];simp;omega)
 · have e:(!decide (Fv g p.2.ru))=true:=by unfold Fv;simp [hg]
   rw [e]
   have hge:=Lr p.2.ru.g g
   rw [decide_eq_false hg] at hge
   repeat' (first|refine QF ?_|(apply Af;exact J;exact J;(first|(apply Cba;exact J;exact J;exact hge;kernel_rfl;kernel_rfl)|exact QAb);exact QA)|(refine QB ?_;intro b)|(apply Ac;(iterate 3 exact J)))
   all_goals first
    | rfl
    | (exfalso;simp at hc;done)
theorem about_fcs {l:List (Fsh×Fct)}{C:List Fct}(hf:fcs l=Bn C)(g:Ak):fcs (l.filter fun x => !(!decide (Fv g x.2.ru)))=Jo C g:=by
 unfold Jo
 rw [← hf]
 unfold fcs
 rw [List.filter_map]
 congr 1
 refine List.filter_congr fun p _ => ?_
 rw [Bool.not_not];rfl
theorem OfGame_c (h:Ro)(hG:Iv h)(A:Option Addr)(n c:Nat)(l:List (Fsh×Fct))(hx:Au h A n l)(g:Ak):Res prog 15 #[.slice A n c,De g] h (fun u _=>u=.tuple #[.agg (Iy (Db (Ba (fcs l)) g).1).toArray,.int .i64 (Db (Ba (fcs l)) g).2.1,.bool (Db (Ba (fcs l)) g).2.2]):=by
 refine QXR Proofs.Tryz.func15 fun w0 X0=>?_
 obtain ⟨C,hC⟩:∃ C,C=Ba (fcs l):=⟨_,rfl⟩
 have hfi:=fun h' (hl:Le h h')=>Eaa h' (hG.le hl) A n c l (hx.le hl)
 rw [← hC] at hfi ⊢
 repeat' (first|refine QFs ?_|(refine QB ?_;intro b)|(refine QG ?_;first|(refine Bv (e:=24) QK ?_;intro h1 hle1 hcg;apply Be;exact J;exact has38;exact hfi _ QAa;exact QT;rintro w1 Ec h2 hle2 ⟨A3,c3,l3,rfl,rfl,hg3,hf3,hn3⟩)|(apply Be;exact J;exact has37;exact deleteF_c _ _ l3.length l3 hn3 rfl 39 [.pointer (some ⟨_,0,none⟩)] (fun x => !decide (Fv g x.2.ru)) has39 (fun h' hl x _=>ofGame1_c h' _ g (hcg.le (hle2.trans hl)) x);exact QT;rintro vd Ed h4 hle4 ⟨A5,c5,rfl,rfl⟩)|(refine E9a (enc:=Aq) (e:=57) (sz:=82) (xs:=l3.filter fun x => !(!decide (Fv g x.2.ru))) (n:=_) Bc rfl QK ?_;intro A6 c6 h6 hle6 e6 hnc6 hs6;cases e6;apply Ag;exact J;exact has40;exact maxF_c h6 (hG.le QAa) _ _ _ _ hs6 (Nat.le_trans (List.length_filter_le _ _) hn3) (fun p hp=>(hg3 p (List.mem_filter.1 hp).1).le QAa) (Nat.pos_of_ne_zero QAd);rintro vm h7 hle7 ⟨m,rfl,hmm,hmx⟩))|(apply Ad (n:=5) [0,1,4,2,3,5,6] [(0,0),(1,0),(2,0),(3,0),(4,1),(5,0),(6,0)];kernel_rfl)|(refine QH ?_ ?_<;>intro hc<;>try omega)|fail)
 all_goals (have hz:=about_fcs hf3 g)
 · have h9:Jo C g=[]:=by
    rw [← hz]
    have:(l3.filter fun x => !(!decide (Fv g x.2.ru)))=[]:=List.eq_nil_of_length_eq_zero QAd
    rw [this];rfl
   have e9:Db C g=(Hu,0,false):=by unfold Db;rw [h9];unfold Py;rfl
   rw [e9]
   exact Ni rfl rfl rfl QM rfl rfl rfl rfl rfl
 · rw [hz] at hmx
   have e9:Db C g=(m.2.ru,m.2.day,true):=by unfold Db;rw [hmx]
   rw [e9]
   exact Ni rfl rfl rfl QM rfl rfl rfl rfl rfl
end Go.Hw

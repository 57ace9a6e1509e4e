import Derived.Test.YtlnenhhbalpbpabGreatDoorVC
set_option linter.all false
set_option maxRecDepth 100000
set_option maxHeartbeats 8000000
namespace Go.Hw
open Go
attribute [local irreducible] GO GOl GDp Val Fn Res At Fx Blk By Dk Cl Has Yl Mn Ew
open Go.Proofs (Tryz.prog)
theorem Esa (h:Ro)(b n c:Nat)(l:List (Fsh×Fct))(hn:n≤1000000000)(hl:l.length=n)(f:FuncId)(cs:List Value)(p:Fsh×Fct→Bool)(hh:Has Tryz.prog f)
  (hf:∀ x∈l,Val Tryz.prog f ([]++[Fc x.1 x.2]++cs).toArray h (.bool (p x))) :
  Fn Tryz.prog 91 #[.slice (some ⟨b,0,none⟩) n c,.func (.func f) #[] cs.toArray] [By 57 82 (.slice (some ⟨b,0,none⟩) n c) n (l.flatMap Bx)] h (fun u Es _=>u=.int .i64 (Za p l 0)∧Es=[By 57 82 (.slice (some ⟨b,0,none⟩) n c) n (l.flatMap Bx)]):=by
 refine Bo (args:=[_,_]) ts_ok Go.Proofs.Tryz.func91 rfl rfl fun w0 X0 => ?_
 repeat' (first|apply Ac|apply Ak|apply Aa|apply Ab|(apply Ad;(iterate 3 exact J)))
 refine Bt (X:=Nat) (fun k=>k≤n∧Za p (l.drop k) k=Za p l 0) (fun k=>n-k) (fun k=>[(8,.int .i64 k),(7,.int .i64 n),(0,.slice (some ⟨b,0,none⟩) n c),(1,.func (.func f) #[] cs.toArray)]) (fun _=>[By 57 82 (.slice (some ⟨b,0,none⟩) n c) n (l.flatMap Bx)]) (fun _=>h) 0 ⟨by omega,rfl⟩ QS QT rfl ?_
 rintro k ⟨hk,hI⟩ ih
 by_cases hkn:k<n
 · have hd:=Aqa p0 hl hkn
   have hv:=hf _ (B0a p0 (show k<l.length by omega))
   have hx:l[k]? = some (l.getD k p0):=by rw [List.getD_eq_getElem?_getD,List.getElem?_eq_getElem (by omega)];rfl
   generalize l.getD k p0=x at *
   by_cases hp:p x=true
   · rw [hp] at hv
     have e:Za p l 0=k:=by rw [← hI,hd,Za,if_pos hp]
     rw [e]
     repeat' (first|apply Ac|apply Au|apply Ak|apply Aa|apply Ab|(apply Ad;(iterate 3 exact J))|(apply Bd;exact J;exact J;(first|(apply Hz (j:=k);(iterate 5 exact J);(with_reducible exact J);omega)|(apply Jx (off:=0) (enc:=Bx) (b:=b) (k:=k) (sz:=82) (n:=n) (c:=c) (xs:=l) (e:=57);exact J;exact J;exact addE _ _;exact Bv;exact hx;exact J));exact QA)|(apply Af;(iterate 3 exact J);(first|(apply Cd (f:=f) (fs:=[]) (cs:=cs);exact J;exact J;exact hh;exact hv;skip)))|(apply Aj;exact J;all_goals (intro hc;try simp only [hcS,reduceCtorEq] at hc;try (exfalso;omega))))
     all_goals first
      | (exfalso;omega)
      | (exact Ca rfl rfl rfl (List.Sublist.refl _) ⟨rfl,rfl⟩)
   · have hp2:p x=false:=by simpa using hp
     rw [hp2] at hv
     have h3:=ih (k+1) ⟨by omega,by rw [← hI,hd,Za,if_neg hp]⟩ (by omega)
     repeat' (first|apply Ac|apply Au|apply Ap|apply Ak|apply Aa|apply Ab|(apply Bg;(iterate 3 exact J);omega;exact J;exact J)|(apply Ad;(iterate 3 exact J))|(apply Bd;exact J;exact J;(first|(apply Hz (j:=k);(iterate 5 exact J);(with_reducible exact J);omega)|(apply Jx (off:=0) (enc:=Bx) (b:=b) (k:=k) (sz:=82) (n:=n) (c:=c) (xs:=l) (e:=57);exact J;exact J;exact addE _ _;exact Bv;exact hx;exact J));exact QA)|(apply Af;(iterate 3 exact J);(first|(apply Cd (f:=f) (fs:=[]) (cs:=cs);exact J;exact J;exact hh;exact hv;skip)))|(apply Aj;exact J;all_goals (intro hc;try simp only [hcS,reduceCtorEq] at hc;try (exfalso;omega))))
     all_goals first
      | (exfalso;omega)
      | (refine Bw QS QT (h3))
 · rw [show k=l.length by omega,List.drop_length] at hI
   have e:Za p l 0 = -1:=hI.symm
   rw [e]
   clear ih
   repeat' (first|apply Ac|apply Aa|apply Ab|(apply Bn;exact J)|(apply Ad;(iterate 3 exact J))|(apply Aj;exact J;all_goals (intro hc;try simp only [hcS,reduceCtorEq] at hc;try (exfalso;omega))))
   all_goals first
    | (exfalso;omega)
    | (exact Ca rfl rfl rfl (List.Sublist.refl _) ⟨rfl,rfl⟩)
theorem Jxa {α:Type}(p:α→Bool):∀ (l:List α) (k j:Nat),Za p l k=((k+j:Nat):Int)→l.take j=(l.take j).filter (fun x => !p x)∧j<l.length∧(l.take (j+1)).filter (fun x => !p x)=l.take j
 | [],k,j,h=>by unfold Za at h;omega
 | y::r,k,j,h=>by
   unfold Za at h
   by_cases hy:p y=true
   · rw [if_pos hy] at h
     have:j=0:=by omega
     subst this
     simp [hy]
   · rw [if_neg hy] at h
     have hf:p y=false:=by simpa using hy
     cases j with
     | zero =>
       exfalso
       rcases Oi p r (k+1) with ⟨e1,_⟩|⟨j,x,_,e2,_⟩
       · omega
       · omega
     | succ j =>
       obtain ⟨h1,h2,h3⟩:=Jxa p r (k+1) j (by rw [h];congr 1;omega)
       refine ⟨?_,by simp;omega,?_⟩
       · rw [List.take_succ_cons,List.filter_cons,hf]
         simp only [Bool.not_false,if_true]
         rw [← h1]
       · rw [List.take_succ_cons,List.filter_cons,hf]
         simp only [Bool.not_false,if_true]
         rw [h3,List.take_succ_cons]
theorem idxP_all {α:Type}(p:α→Bool)(l:List α)(h:Za p l 0 = -1):l.filter (fun x => !p x)=l:=by
 rcases Oi p l 0 with ⟨_,e⟩|⟨j,x,_,e,_⟩
 · rw [List.filter_eq_self]
   intro x hx
   have:=List.find?_eq_none.1 e x hx
   simpa using this
 · omega
theorem deleteF_c (h:Ro)(v:Value)(n:Nat)(l:List (Fsh×Fct))(hn:n≤1000000)(hl:l.length=n)(f:FuncId)(cs:List Value)(p:Fsh×Fct→Bool)(hh:Has Tryz.prog f)
  (hf:∀ h',Le h h'→∀ x∈l,Val Tryz.prog f ([]++[Fc x.1 x.2]++cs).toArray h' (.bool (p x))) :
  Fn Tryz.prog 53 #[v,.func (.func f) #[] cs.toArray] [By 57 82 v n (l.flatMap Bx)] h (fun u Es _=>∃ A' c',u=.slice A' (l.filter fun x => !p x).length c'∧Es=[By 57 82 (.slice A' (l.filter fun x => !p x).length c') (l.filter fun x => !p x).length ((l.filter fun x => !p x).flatMap Bx)]):=by
 refine Bo (args:=[_,_]) ts_ok Go.Proofs.Tryz.func53 rfl rfl fun w0 X0 => ?_
 by_cases h0:0<n
 · refine Cza QM h0 ?_
   intro bo c hnc e0
   subst e0
   have hixf:=Esa h bo n c l (by omega) hl f cs p hh (hf h (Le.refl h))
   rcases Oi p l 0 with ⟨e1,e2⟩|⟨j,y,e1,e2,e3,e4⟩
   · rw [e1] at hixf
     rw [idxP_all p l e1]
     repeat' (first|apply Ac|apply Aa|apply Ab|(apply Ad;(iterate 3 exact J))|(apply Af;(iterate 3 exact J);(first|(apply Bi;exact J;exact has91;exact hixf;exact QT;rintro vi Ei hi1 hli ⟨rfl,rfl⟩;skip)))|(apply Aj;exact J;all_goals (intro hc;try simp only [hcS,reduceCtorEq] at hc;try (exfalso;omega))))
     all_goals first
      | (exfalso;omega)
      | (exact Ca rfl rfl rfl (List.Sublist.refl _) ⟨some ⟨bo,0,none⟩,c,by rw [hl],by rw [hl];rfl⟩)
   · rw [Nat.zero_add] at e2
     rw [e2] at hixf
     obtain ⟨q1,q2,q3⟩:=Jxa p l 0 j (by rw [Nat.zero_add];exact e2)
     repeat' (first|apply Ac|apply Au|apply Ak|apply Aa|apply Ab|(apply Bg;(iterate 3 exact J);omega;exact J;exact J)|(apply Ad;(iterate 3 exact J))|(apply Af;(iterate 3 exact J);(first|(apply Bi;exact J;exact has91;exact hixf;exact QT;rintro vi Ei hi1 hli ⟨rfl,rfl⟩;skip)))|(apply Aj;exact J;all_goals (intro hc;try simp only [hcS,reduceCtorEq] at hc;try (exfalso;omega))))
     all_goals (try (exfalso;omega))
     refine Bt (X:=Nat×Nat×List (Fsh×Fct)×Ro) (fun x=>x.1<x.2.1∧x.2.1≤n∧x.2.2.1.length=n∧Le h x.2.2.2∧x.2.2.1.take x.1=(l.take x.2.1).filter (fun x => !p x)∧(∀ t,x.2.1≤t→x.2.2.1[t]? = l[t]?)) (fun x=>n-x.2.1)
      (fun x=>[(6,.int .i64 x.2.1),(5,.int .i64 x.1),(0,.slice (some ⟨bo,0,none⟩) n c),(1,.func (.func f) #[] cs.toArray)])
      (fun x=>[By 57 82 (.slice (some ⟨bo,0,none⟩) n c) n (x.2.2.1.flatMap Bx)]) (fun x=>x.2.2.2) (j,j+1,l,hi1) ⟨by dsimp only;omega,by dsimp only;omega,hl,hli,q3.symm,fun t _=>rfl⟩ QS QT rfl ?_
     rintro ⟨i,k,zs,hz⟩ ⟨j1,j2,j3,j4,j5,j6⟩ ih
     dsimp only at j1 j2 j3 j4 j5 j6 ih ⊢
     by_cases hlt:k<n
     · obtain ⟨x,hx⟩:∃ x,l[k]? = some x:=⟨_,List.getElem?_eq_getElem (by omega)⟩
       have hzx:zs[k]? = some x:=by rw [j6 _ (Nat.le_refl _)];exact hx
       have hv:=hf hz j4 x (List.mem_of_getElem? hx)
       have et:l.take (k+1)=l.take k++[x]:=by rw [List.take_add_one,hx];rfl
       by_cases hp:p x=true
       · rw [hp] at hv
         have h9:=ih (i,k+1,zs,hz) ⟨by dsimp only;omega,by dsimp only;omega,j3,j4,by dsimp only;rw [et,List.filter_append,j5];simp [hp],fun t ht=>j6 t (by dsimp only at ht;omega)⟩ (by dsimp only;omega)
         dsimp only at h9
         repeat' (first|apply Ac|apply Au|apply Ap|apply Ak|apply Aa|apply Ab|(apply Bg;(iterate 3 exact J);omega;exact J;exact J)|(apply Ad;(iterate 3 exact J))|(apply Ai;exact J;exact Av rfl QM rfl;exact J;exact J)|(apply Bd;exact J;exact J;(first|(apply Hz (j:=k);(iterate 5 exact J);(with_reducible exact J);omega)|(apply Jx (off:=0) (enc:=Bx) (b:=bo) (k:=k) (sz:=82) (n:=n) (c:=c) (xs:=zs) (e:=57);exact J;exact J;exact addE _ _;exact Bv;exact hzx;exact J));exact QA)|(apply Af;(iterate 3 exact J);(first|(apply Ah;(iterate 3 exact J);exact QR;(iterate 3 exact J);skip)|(apply Ag;exact J;intro b;skip)|(apply Cd (f:=f) (fs:=[]) (cs:=cs);exact J;exact J;exact hh;exact hv;skip)))|(apply Aj;exact J;all_goals (intro hc;try simp only [hcS,reduceCtorEq] at hc;try (exfalso;omega))))
         all_goals first
          | (exfalso;omega)
          | (refine Bw QS QT (h9))
       · have hp2:p x=false:=by simpa using hp
         rw [hp2] at hv
         have hset:(zs.set i x).take (i+1)=zs.take i++[x]:=by
          rw [List.take_add_one,List.getElem?_set_self (by omega),List.take_set_of_le (Nat.le_refl _)];rfl
         have h9:=ih (i+1,k+1,zs.set i x,hz) ⟨by dsimp only;omega,by dsimp only;omega,by dsimp only;rw [List.length_set];exact j3,j4,by dsimp only;rw [hset,et,List.filter_append,j5];simp [hp2],fun t ht=>by
          dsimp only at ht ⊢
          rw [List.getElem?_set_ne (by omega)];exact j6 t (by omega)⟩ (by dsimp only;omega)
         dsimp only at h9
         repeat' (first|apply Ac|apply Au|apply Ap|apply Ak|apply Aa|apply Ab|(apply Bg;(iterate 3 exact J);omega;exact J;exact J)|(apply Ad;(iterate 3 exact J))|(apply Ai;exact J;exact Av rfl QM rfl;exact J;exact J)|(apply Bd;exact J;exact J;(first|(first|(apply Hz (j:=k);(iterate 5 exact J);(with_reducible exact J);omega)|(apply Hz (j:=i);(iterate 5 exact J);(with_reducible exact J);omega))|(apply Jx (off:=0) (enc:=Bx) (b:=bo) (k:=k) (sz:=82) (n:=n) (c:=c) (xs:=zs) (e:=57);exact J;exact J;exact addE _ _;exact Bv;exact hzx;exact J));exact QA)|(apply Af;(iterate 3 exact J);(first|(apply Ah;(iterate 3 exact J);exact QR;(iterate 3 exact J);skip)|(apply Ag;exact J;intro b;skip)|(apply Cd (f:=f) (fs:=[]) (cs:=cs);exact J;exact J;exact hh;exact hv;skip)|(apply Kxa (b:=bo) (enc:=Bx) (sz:=82) (k:=i) (z:=x) (xs:=zs);exact J;exact J;exact addE _ _;exact J;exact Bv;exact J;exact QR;omega;exact J;exact J;skip)))|(apply Aj;exact J;all_goals (intro hc;try simp only [hcS,reduceCtorEq] at hc;try (exfalso;omega))))
         all_goals first
          | (exfalso;omega)
          | (refine Bw QS QT (h9))
     · have hk:k=n:=by omega
       subst hk
       clear ih
       rw [List.take_of_length_le (l:=l) (by omega)] at j5
       rw [← j5]
       have hkl:(zs.take i).length=i:=by rw [List.length_take];omega
       rw [hkl]
       repeat' (first|apply Ac|apply Aa|apply Ab|(apply Bn;exact J)|(apply Ad;(iterate 3 exact J))|(apply Bd;exact J;exact J;(first|(apply Iw (lo:=i);(iterate 5 exact J);(with_reducible exact J);omega));exact QA)|(apply Aj;exact J;all_goals (intro hc;try simp only [hcS,reduceCtorEq] at hc;try (exfalso;omega))))
       all_goals (try (exfalso;omega))
       rw [Wn (show i<c by omega)]
       repeat' (first|apply Ac|apply Aa|apply Ab|(apply Ad;(iterate 3 exact J))|(apply Bd;exact J;exact J;(first|(apply Mp (hi:=i);(iterate 5 exact J);(with_reducible exact J);omega;exact hnc));exact QA)|(apply Af;(iterate 3 exact J);(first|(apply Yr (enc:=Bx) (b:=bo) (k:=i) (m:=k-i) (n:=k) (c:=c) (xs:=zs);(iterate 3 exact J);exact List.cons_ne_nil _ _;(iterate 4 exact J);exact Bv;omega;omega;exact j3;exact QR;skip))))
       rw [Zu]
       exact Ca rfl rfl rfl (List.Sublist.refl _) ⟨some ⟨bo,0,none⟩,c,rfl,rfl⟩
 · have hn0:n=0:=by omega
   subst hn0
   have hl0:l=[]:=List.eq_nil_of_length_eq_zero hl
   subst hl0
   refine Sy QM ?_
   intro A0 c0 e0
   subst e0
   have hixf:=Ug (Oh h A0 0 c0 [] Cc.nil (by omega) f [] cs p hh (by simp))
   have e9:Za p ([]:List (Fsh×Fct)) 0 = -1:=rfl
   rw [e9] at hixf
   repeat' (first|apply Ac|apply Aa|apply Ab|(apply Ad;(iterate 3 exact J))|(apply Af;(iterate 3 exact J);(first|(apply Ay;exact J;exact has91;exact hixf;rintro vi hi1 hli rfl;skip)))|(apply Aj;exact J;all_goals (intro hc;try simp only [hcS,reduceCtorEq] at hc;try (exfalso;omega))))
   all_goals first
    | (exfalso;omega)
    | (exact Ca rfl rfl rfl (List.Sublist.refl _) ⟨A0,c0,rfl,rfl⟩)
end Go.Hw
namespace Go.Hw
open Go
attribute [local irreducible] GO GOl GDp Val Fn Res At Fx Blk By Dk Cl Has Yl Mn Ew Sq Eja
open Go.Proofs (Tryz.prog)
theorem maxF_c (h:Ro)(hG:Kg h)(A:Option Addr)(n c:Nat)(l:List (Fsh×Fct))(hx:Cc Bx 82 h A n l)(hn:n≤1000000)(hg:∀ p∈l,FGd h p)(h0:0<n):Res Tryz.prog 56 #[.slice A n c,.func (.func 47) #[] #[]] h (fun u _=>∃ m,u=Fc m.1 m.2∧m∈l∧Eja (fcs l)=some m.2):=by
 refine Bq (args:=[_,_]) ts_ok Go.Proofs.Tryz.func56 rfl rfl fun w0 X0 => ?_
 have hlen:=hx.len
 have a0:=hx.addrD h0
 have c0:=hx.cellsD p0 h0
 have hm0:=mem7 p0 (show 0<l.length by omega)
 have et0:=Fq p0 hlen h0
 rw [List.take_zero,List.nil_append] at et0
 generalize l.getD 0 p0=p at *
 have em0:Eja (fcs (l.take 1))=some p.2:=by rw [et0];unfold Eja;rfl
 repeat' (first|apply Ac|apply Au|apply Ak|apply Aa|apply Ab|(apply Ad;(iterate 3 exact J))|(apply Bd;exact J;exact J;(first|(apply Ar;exact J;exact Bh rfl c0 rfl)|(apply Be;(iterate 5 exact J);assumption;exact J;first|assumption|omega));exact QA)|(apply Af;(iterate 3 exact J);(first|(apply Ah;(iterate 3 exact J);exact QR;(iterate 3 exact J);skip)|(apply Ag;exact J;intro b;skip)))|(apply Aj;exact J;all_goals (intro hc;try simp only [hcS,reduceCtorEq] at hc;try (exfalso;omega))))
 all_goals (try (exfalso;omega))
 rename_i b4
 generalize b=b5
 refine Bt (X:=Nat×(Fsh×Fct)×Ro) (fun x=>1≤x.1∧x.1≤n∧Le h x.2.2∧x.2.1∈l∧Eja (fcs (l.take x.1))=some x.2.1.2) (fun x=>n-x.1)
  (fun x=>[(6,.int .i64 x.1),(0,.slice A n c),(1,.func (.func 47) #[] #[]),(4,Pt b4),(5,Pt b5)])
  (fun x=>[Blk b5 57 (Dx x.2.1.1 x.2.1.2),Blk b4 57 (Dx Nv Jp)]) (fun x=>x.2.2) (1,p,h) ⟨by dsimp only;omega,by dsimp only;omega,Le.refl _,hm0,em0⟩ QS QT rfl ?_
 rintro ⟨k,m,hh⟩ ⟨hk1,hk,hle,hm,hmx⟩ ih
 dsimp only at hk1 hk hle hm hmx ih ⊢
 by_cases hkn:k<n
 · have a1:=hx.addrD hkn
   have c1:=(hx.cellsD p0 hkn).le hle
   have et:=Fq p0 hlen hkn
   have hqm:=mem7 p0 (show k<l.length by omega)
   generalize l.getD k p0=q at *
   have hcm:=fun h' (hl:Le hh h')=>cmp_c h' (hG.le (hle.trans hl)) q m ((hg q hqm).le (hle.trans hl)) ((hg m hm).le (hle.trans hl))
   have hsn:Eja (fcs (l.take (k+1)))=if 0<Jv q.2 m.2 then some q.2 else some m.2:=by
    rw [et]
    have:fcs (l.take k++[q])=fcs (l.take k)++[q.2]:=by simp [fcs]
    rw [this,Eia,hmx]
   by_cases hc9:0<Jv q.2 m.2
   · rw [if_pos hc9] at hsn
     repeat' (first|apply Ac|apply Au|apply Ap|apply Ak|apply Aa|apply Ab|(apply Bg;(iterate 3 exact J);omega;exact J;exact J)|(apply Ad;(iterate 3 exact J))|(apply Bd;exact J;exact J;(first|(apply Be (j:=k);(iterate 5 exact J);exact a1;(with_reducible exact J);omega)|(apply Ar;exact J;exact Bh rfl (c1.le QL) rfl));exact QA)|(apply Af;(iterate 3 exact J);(first|(apply Ah;(iterate 3 exact J);exact QR;(iterate 3 exact J);skip)))|(apply Bf (n:=7) [0,1,2,3,4,5,6,7] [(0,0),(1,0),(2,0),(3,0),(4,0),(5,0),(6,1),(7,0)];kernel_rfl)|(apply Ce;exact J;kernel_rfl;(iterate 3 exact J))|(apply Bj;exact J;kernel_rfl;(iterate 3 exact J);exact QM;exact J;exact J)|(apply De;exact J;kernel_rfl;exact J;exact J;(first|(apply Be (j:=k);(iterate 5 exact J);exact a1;(with_reducible exact J);omega)|(apply Ar;exact J;exact Bh rfl (c1.le QL) rfl));exact QA)|(apply Br;exact J;kernel_rfl;(iterate 3 exact J);(first|(apply Gh (f:=47) (fs:=[]) (cs:=[]);exact J;exact J;exact Vh;exact hcm _ QL;rintro vc h3 hle3 rfl;refine ⟨hle3,QN,?_⟩)))|(apply Bm;kernel_rfl;exact J)|(apply Aj;exact J;all_goals (intro hc;try simp only [hcS,reduceCtorEq] at hc;try (exfalso;omega))))
     all_goals first
      | (exfalso;omega)
      | (have h3:=ih (k+1,q,h3) ⟨by dsimp only;omega,by dsimp only;omega,hle.trans hle3,hqm,hsn⟩ (by dsimp only;omega)
         dsimp only at h3
         refine Bw QS QT (h3))
   · rw [if_neg hc9] at hsn
     repeat' (first|apply Ac|apply Au|apply Ap|apply Ak|apply Aa|apply Ab|(apply Bg;(iterate 3 exact J);omega;exact J;exact J)|(apply Ad;(iterate 3 exact J))|(apply Bf (n:=7) [0,1,2,3,4,5,6,7] [(0,0),(1,0),(2,0),(3,0),(4,0),(5,0),(6,1),(7,0)];kernel_rfl)|(apply Ce;exact J;kernel_rfl;(iterate 3 exact J))|(apply Bj;exact J;kernel_rfl;(iterate 3 exact J);exact QM;exact J;exact J)|(apply De;exact J;kernel_rfl;exact J;exact J;(first|(apply Be (j:=k);(iterate 5 exact J);exact a1;(with_reducible exact J);omega)|(apply Ar;exact J;exact Bh rfl (c1.le QL) rfl));exact QA)|(apply Br;exact J;kernel_rfl;(iterate 3 exact J);(first|(apply Gh (f:=47) (fs:=[]) (cs:=[]);exact J;exact J;exact Vh;exact hcm _ QL;rintro vc h3 hle3 rfl;refine ⟨hle3,QN,?_⟩)))|(apply Bm;kernel_rfl;exact J)|(apply Aj;exact J;all_goals (intro hc;try simp only [hcS,reduceCtorEq] at hc;try (exfalso;omega))))
     all_goals first
      | (exfalso;omega)
      | (have h3:=ih (k+1,m,h3) ⟨by dsimp only;omega,by dsimp only;omega,hle.trans hle3,hm,hsn⟩ (by dsimp only;omega)
         dsimp only at h3
         refine Bw QS QT (h3))
 · rw [List.take_of_length_le (by omega)] at hmx
   clear ih
   repeat' (first|apply Ac|apply Aa|apply Ab|(apply Bn;exact J)|(apply Ad;(iterate 3 exact J))|(apply Ai;exact J;exact Av rfl QM rfl;exact J;exact J)|(apply Af;(iterate 3 exact J);(first|(apply Ah;(iterate 3 exact J);exact QR;(iterate 3 exact J);skip)))|(apply Aj;exact J;all_goals (intro hc;try simp only [hcS,reduceCtorEq] at hc;try (exfalso;omega))))
   all_goals first
    | (exfalso;omega)
    | (exact Gy rfl rfl rfl QM rfl rfl ⟨m,rfl,hm,hmx⟩)
theorem ofGame1_c (h:Ro)(b:Nat)(g:Bl)(hb:At h ⟨b,0,none⟩ (Km g))(p:Fsh×Fct):Val Tryz.prog 55 #[Fc p.1 p.2,.pointer (some ⟨b,0,none⟩)] h (.bool (!decide (Lj g p.2.ru))):=by
 refine Az (args:=[_,_]) ts_ok Go.Proofs.Tryz.func55 rfl rfl fun w0 X0 => ?_
 by_cases hg:p.2.ru.g=g
 · have e:(!decide (Lj g p.2.ru)) = !decide (p.2.ru.kind=1∨p.2.ru.kind=2∨p.2.ru.kind=3):=by unfold Lj;simp [hg]
   rw [e]
   have hge:=Tp p.2.ru.g g
   rw [decide_eq_true hg] at hge
   repeat' (first|apply Ac|apply Aa|apply Ab|(apply Aw;exact J;exact J)|(apply Ad;(iterate 3 exact J))|(apply Ai;exact J;exact Av rfl QM rfl;exact J;exact J)|(apply Bd;exact J;exact J;(first|(apply Ipa;exact J;exact J;exact hge;kernel_rfl;kernel_rfl)|(apply Ar;exact J;first|exact Bh rfl (by assumption) rfl|exact Dc rfl (by assumption) rfl|exact Db rfl (by assumption) rfl|exact Lv_roF3 rfl (by assumption) rfl));exact QA)|(apply Af;(iterate 3 exact J);(first|(apply Ao;exact J;intro b;skip)))|(apply Ba;exact J;exact J;all_goals (intro hc;try simp only [hcS,reduceCtorEq] at hc;try (exfalso;omega)))|(apply Bb;(iterate 3 exact J)))
   all_goals first
    | ((try simp only [Hm]);congr 1;rw [Bool.eq_iff_iff];simp;omega)
 · have e:(!decide (Lj g p.2.ru))=true:=by unfold Lj;simp [hg]
   rw [e]
   have hge:=Tp p.2.ru.g g
   rw [decide_eq_false hg] at hge
   repeat' (first|apply Ac|apply Aa|apply Ab|(apply Aw;exact J;exact J)|(apply Ad;(iterate 3 exact J))|(apply Ai;exact J;exact Av rfl QM rfl;exact J;exact J)|(apply Bd;exact J;exact J;(first|(apply Ipa;exact J;exact J;exact hge;kernel_rfl;kernel_rfl)|(apply Ar;exact J;first|exact Bh rfl (by assumption) rfl|exact Dc rfl (by assumption) rfl|exact Db rfl (by assumption) rfl|exact Lv_roF3 rfl (by assumption) rfl));exact QA)|(apply Af;(iterate 3 exact J);(first|(apply Ao;exact J;intro b;skip)))|(apply Bb;(iterate 3 exact J)))
   all_goals first
    | rfl
    | (exfalso;simp at hc;done)
theorem about_fcs {l:List (Fsh×Fct)}{C:List Fct}(hf:fcs l=Ew C)(g:Bl):fcs (l.filter fun x => !(!decide (Lj g x.2.ru)))=Sq C g:=by
 unfold Sq
 rw [← hf]
 unfold fcs
 rw [List.filter_map]
 congr 1
 refine List.filter_congr fun p _ => ?_
 rw [Bool.not_not];rfl
theorem OfGame_c (h:Ro)(hG:Kg h)(A:Option Addr)(n c:Nat)(l:List (Fsh×Fct))(hx:Co h A n l)(g:Bl):Res Tryz.prog 21 #[.slice A n c,Fr g] h (fun u _=>u=.tuple #[.agg (Lw (Hk (Da (fcs l)) g).1).toArray,.int .i64 (Hk (Da (fcs l)) g).2.1,.bool (Hk (Da (fcs l)) g).2.2]):=by
 refine Bq (args:=[_,_]) ts_ok Go.Proofs.Tryz.func21 rfl rfl fun w0 X0 => ?_
 obtain ⟨C,hC⟩:∃ C,C=Da (fcs l):=⟨_,rfl⟩
 have hfi:=fun h' (hl:Le h h')=>Eta h' (hG.le hl) A n c l (hx.le hl)
 rw [← hC] at hfi ⊢
 repeat' (first|apply Ac|apply Au|apply Aa|apply Ab|(apply Ad;(iterate 3 exact J))|(apply Af;(iterate 3 exact J);(first|(apply Ah;(iterate 3 exact J);exact QR;(iterate 3 exact J);skip)|(apply Ao;exact J;intro b;skip)|(apply Ag;exact J;intro b;skip)|(refine Cq (e:=38) QK ?_;intro h1 hle1 hcg;apply Bi;exact J;exact has54;exact hfi _ QL;exact QT;rintro w1 Ec h2 hle2 ⟨A3,c3,l3,rfl,rfl,hg3,hf3,hn3⟩;skip)|(apply Bi;exact J;exact has53;exact deleteF_c _ _ l3.length l3 hn3 rfl 55 [.pointer (some ⟨_,0,none⟩)] (fun x => !decide (Lj g x.2.ru)) has55 (fun h' hl x _=>ofGame1_c h' _ g (hcg.le (hle2.trans hl)) x);exact QT;rintro vd Ed h4 hle4 ⟨A5,c5,rfl,rfl⟩;skip)|(refine Fwa (enc:=Bx) (e:=57) (sz:=82) (xs:=l3.filter fun x => !(!decide (Lj g x.2.ru))) (n:=_) Bv rfl QK ?_;intro A6 c6 h6 hle6 e6 hnc6 hs6;cases e6;apply Ay;exact J;exact has56;exact maxF_c h6 (hG.le QL) _ _ _ _ hs6 (Nat.le_trans (List.length_filter_le _ _) hn3) (fun p hp=>(hg3 p (List.mem_filter.1 hp).1).le QL) (Nat.pos_of_ne_zero (by omega));rintro vm h7 hle7 ⟨m,rfl,hmm,hmx⟩;skip)))|(apply Bf (n:=5) [0,1,4,2,3,5,6] [(0,0),(1,0),(2,0),(3,0),(4,1),(5,0),(6,0)];kernel_rfl)|(apply Ce;exact J;kernel_rfl;(iterate 3 exact J))|(apply Bj;exact J;kernel_rfl;(iterate 3 exact J);exact QM;exact J;exact J)|(apply Br;exact J;kernel_rfl;(iterate 3 exact J);(first|(apply Ah;(iterate 3 exact J);exact QR;(iterate 3 exact J);refine ⟨Le.refl _,QN,?_⟩)))|(apply Bm;kernel_rfl;exact J)|(apply Aj;exact J;all_goals (intro hc;try simp only [hcS,reduceCtorEq] at hc;try (exfalso;omega))))
 all_goals (have hz:=about_fcs hf3 g)
 · have h9:Sq C g=[]:=by
    rw [← hz]
    have:(l3.filter fun x => !(!decide (Lj g x.2.ru)))=[]:=List.eq_nil_of_length_eq_zero (by omega)
    rw [this];rfl
   have e9:Hk C g=(Ps,0,false):=by unfold Hk;rw [h9];unfold Eja;rfl
   rw [e9]
   exact F2a rfl rfl rfl QM rfl rfl rfl rfl rfl
 · rw [hz] at hmx
   have e9:Hk C g=(m.2.ru,m.2.day,true):=by unfold Hk;rw [hmx]
   rw [e9]
   exact F2a rfl rfl rfl QM rfl rfl rfl rfl rfl
end Go.Hw

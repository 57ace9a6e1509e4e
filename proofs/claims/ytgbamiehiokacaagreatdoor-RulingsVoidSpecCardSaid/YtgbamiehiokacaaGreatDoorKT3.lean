import Derived.Test.YtgbamiehiokacaaGreatDoorKT2
import Derived.Test.YtgbamiehiokacaaGreatDoorDB
set_option linter.unusedVariables false
set_option linter.unusedSimpArgs false
set_option maxRecDepth 100000
set_option maxHeartbeats 4000000
namespace Go.Hw
open Go
theorem pad_eq (x : List UInt8) {j : Nat} (hj : j = 135 - x.length % 136) : (x ++ [6] ++ List.replicate j 0).set (x.length + 1 + j - 1) ((x ++ [6] ++ List.replicate j 0).getD (x.length + 1 + j - 1) 0 ^^^ 128) = x ++ endS x.length:=by
 have hq : 136 - x.length % 136 = j + 1:=by omega
 have e1 : (List.replicate (j + 1) (0 : UInt8)).set 0 6 = [6] ++ List.replicate j 0:=by rw [List.replicate_succ];rfl
 unfold endS
 rw [hq]
 simp only []
 rw [e1,show x.length + 1 + j - 1 = x.length + j by omega,show j + 1 - 1 = j by omega,List.append_assoc]
 generalize [6] ++ List.replicate j (0 : UInt8) = z
 have e2 : (x ++ z).getD (x.length + j) 0 = z.getD j 0:=by
  simp only [List.getD]
  rw [List.getElem?_append_right (by omega),show x.length + j - x.length = j by omega]
 rw [e2,List.set_append_right _ _ (by omega),show x.length + j - x.length = j by omega]
attribute [local irreducible] GO GOl GDp Val Fn Res CellsAt ValE Blk OwnS MapA OwnPf Has rotl permS roundS absS outT blkS endS
open Go.Proofs (Tryz.prog)
theorem padR_c (h : Ro) (A : Option Addr) (n c : Nat) (x : List UInt8) (hx : SlOf encB 1 h A n x) (hn : n ≤ 50000000) : Res Tryz.prog 266 #[.slice A n c] h fun u h' => ∃ A' c',u = .slice A' (n + (136 - n % 136)) c' ∧ SlOf encB 1 h' A' (n + (136 - n % 136)) (x ++ endS n):=by
 refine Bn (args:=[_]) ts_ok Go.Proofs.Tryz.func266 rfl rfl fun w0 X0 => ?_
 have hxl:=hx.len
 repeat' (first|apply Ad|apply Ag|apply Aa|apply Ab|(apply Ac;(iterate 3 exact J))|(apply Aj;(iterate 3 exact J);(first|(apply Bw (n:=0);(iterate 3 exact J);exact List.cons_ne_nil _ _;(iterate 6 exact J);intro b1;skip)|(apply Bo (enc:=encB) (n:=0) (xs:=[]) (ys:=x);(iterate 7 exact J);exact (hx.le QL);exact (fun _ => rfl);exact (fun _ => Bz rfl);intro v1;exact QR;omega;exact J;intro A2 c2;skip)|(apply Ar (enc:=encB) (n:=1) [(6 : UInt8)];(iterate 3 exact J);exact List.cons_ne_nil _ _;(iterate 4 exact J);exact (fun _ => rfl);exact J;exact J;intro b3 h3 hle3 hs3;skip)|(apply Bo (enc:=encB) (n:=0 + n) (xs:=[] ++ x) (ys:=[6]);(iterate 7 exact J);exact (hs3.le QL);exact (fun _ => rfl);exact (fun _ => Bz rfl);intro v1;exact QR;omega;exact J;intro A4 c4;skip))))
 refine Bh (X:=Nat × Nat × List UInt8 × Option Addr × Nat × Ro) (fun y => y.1 ≤ 135 - n % 136 ∧ y.2.1 = n + 1 + y.1 ∧ y.2.2.1 = x ++ [6] ++ List.replicate y.1 0 ∧ Le h3 y.2.2.2.2.2) (fun y => 135 - n % 136 - y.1)
  (fun y => [(3,.slice y.2.2.2.1 y.2.1 y.2.2.2.2.1)]) (fun y => [OwnS 5 1 (.slice y.2.2.2.1 y.2.1 y.2.2.2.2.1) y.2.1 (y.2.2.1.flatMap encB)]) (fun y => y.2.2.2.2.2) (0,0 + n + 1,[] ++ x ++ [6],A4,c4,h3) ⟨by dsimp only;omega,by dsimp only;omega,by simp,Le.refl _⟩ QS QT rfl ?_
 rintro ⟨j,m,o,A5,c5,hh⟩ ⟨hj,hm,ho,hle⟩ ih
 dsimp only at hj hm ho hle ih ⊢
 have hol : o.length = m:=by rw [ho];simp;omega
 by_cases hj2 : j < 135 - n % 136
 · have hmod : ¬ (m % 136 = 0):=by omega
   have e1 : o ++ [0] = x ++ [6] ++ List.replicate (j + 1) 0:=by rw [ho,List.append_assoc,List.replicate_succ']
   repeat' (first|apply Ad|apply Ap|apply Ah|apply Ag|apply Aa|apply Ab|(apply Bc;exact J;exact J;(first|(apply Dl;(iterate 3 exact J);omega;omega));exact QA)|(apply Ac;(iterate 3 exact J))|(apply Aj;(iterate 3 exact J);(first|(apply Ar (enc:=encB) (n:=1) [(0 : UInt8)];(iterate 3 exact J);exact List.cons_ne_nil _ _;(iterate 4 exact J);exact (fun _ => rfl);exact J;exact J;intro b6 h6 hle6 hs6;skip)|(apply Bo (enc:=encB) (n:=m) (xs:=o) (ys:=[0]);(iterate 7 exact J);exact (hs6.le QL);exact (fun _ => rfl);exact (fun _ => Bz rfl);intro v1;exact QR;omega;exact J;intro A7 c7;skip)))|(apply Af;exact J;all_goals (intro hc;try simp only [hcS,reduceCtorEq] at hc;try (exfalso;omega))))
   all_goals (try (exfalso;omega))
   all_goals
    have h9:=ih (j + 1,m + 1,o ++ [0],A7,c7,h6) ⟨by dsimp only;omega,by dsimp only;omega,e1,by dsimp only;exact hle.trans hle6⟩ (by dsimp only;omega)
    dsimp only at h9
    refine Bm QS QT (h9)
 · have hj3 : j = 135 - n % 136:=by omega
   have hmod : m % 136 = 0:=by omega
   clear ih
   have hpe:=pad_eq x (j:=j) (by rw [hxl];exact hj3)
   rw [← ho,hxl,show n + 1 + j - 1 = m - 1 by omega] at hpe
   have hz0 : o[m - 1]? = some (o.getD (m - 1) 0):=Zd (by omega)
   refine Kq (e:=5) (sz:=1) (n:=m) (xs:=o.flatMap encB) QM (by omega) ?_
   intro bo co hco eo
   injection eo with eo1 _ eo2
   subst eo1;subst eo2
   repeat' (first|apply Ad|apply Aa|apply Ab|(apply Bi;exact J)|(apply Bc;exact J;exact J;(first|(apply Dl;(iterate 3 exact J);omega;omega)|(apply OV_xor8 (b:=128);(iterate 3 exact J)));exact QA)|(apply Ln;(iterate 3 exact J);omega;exact J;exact J)|(apply Ac;(iterate 3 exact J))|(apply Bc;exact J;exact J;(first|(apply Dh (j:=m - 1);(iterate 5 exact J);omega;omega)|(apply Fl (off:=0) (enc:=encB) (k:=m - 1) (sz:=1) (b:=bo) (n:=m) (c:=c5) (xs:=o) (e:=5);exact J;exact J;exact addEq _ _;exact fun _ => rfl;exact hz0;exact J));exact QA)|(apply Aj;(iterate 3 exact J);(first|(apply Kh (b:=bo) (enc:=encB) (sz:=1) (k:=m - 1) (z:=o.getD (m - 1) 0 ^^^ 128) (xs:=o);exact J;exact J;exact addEq _ _;exact J;exact fun _ => rfl;exact J;exact QR;(rw [hol];omega);exact J;exact J;skip)))|(apply Af;exact J;all_goals (intro hc;try simp only [hcS,reduceCtorEq] at hc;try (exfalso;omega))))
   all_goals (try (exfalso;omega))
   all_goals
    rw [hpe]
    have hN : m = n + (136 - n % 136):=by omega
    refine Lp (enc:=encB) (n:=m) (xs:=x ++ endS n) (fun _ => rfl) (by rw [List.length_append,Aba,hxl];exact hN.symm) QK ?_
    intro A9 c9 h9 hle9 e9 hs9
    injection e9 with e91 _ e93
    subst e91;subst e93
    refine Ca rfl rfl rfl ?_
    rw [← hN]
    exact ⟨_,_,rfl,hs9⟩
theorem sumR_c (h : Ro) (A : Option Addr) (n c : Nat) (x : List UInt8) (hx : SlOf encB 1 h A n x) (hn : n ≤ 50000000) : Res Tryz.prog 195 #[.slice A n c] h fun u _ => u = dgV (sumF x):=by
 refine Bn (args:=[_]) ts_ok Go.Proofs.Tryz.func195 rfl rfl fun w0 X0 => ?_
 have hxl:=hx.len
 obtain ⟨T,hT⟩ : ∃ T,T = turnL.map encN:=⟨_,rfl⟩
 obtain ⟨Q,hQ⟩ : ∃ Q,Q = dgK.map u64V:=⟨_,rfl⟩
 have hTl : T.length = 25:=by rw [hT,List.length_map];exact Ji 24
 have hQl : Q.length = 24:=by rw [hQ,List.length_map];exact No 24
 have hT1 : allOne T = true:=by rw [hT];exact allOneN _
 have hQ1 : allOne Q = true:=by rw [hQ];exact Ss _
 have ht1:=turnsR_c h
 have ht2:=constR_c h
 rw [← hT] at ht1
 rw [← hQ] at ht2
 repeat' (first|apply Ad|apply Ag|apply Aa|apply Ab|(apply Ac;(iterate 3 exact J))|(apply Aj;(iterate 3 exact J);(first|(apply Cn (cs':=T);(iterate 3 exact J);exact QR;(first|exact hTl.symm|(rw [hTl];rfl));exact hTl;exact hT1;skip)|(apply Cn (cs':=Q);(iterate 3 exact J);exact QR;(first|exact hQl.symm|(rw [hQl];rfl));exact hQl;exact hQ1;skip)|(apply Ao;(iterate 3 exact J);exact QR;(iterate 3 exact J);skip)|(apply At;exact J;intro b;skip)|(apply Ai;exact J;exact has264;exact ht1;skip)|(apply Ai;exact J;exact has265;exact ht2;skip)|(apply Bf;exact J;exact has266;exact padR_c _ A n c x (hx.le QL) hn;rintro v6 h6 hle6 ⟨A6,c6,rfl,hs6⟩;skip))))
 rename_i b0 bl bt
 generalize b = bk
 obtain ⟨pp,hpp⟩ : ∃ pp,pp = x ++ endS n:=⟨_,rfl⟩
 rw [← hpp] at hs6
 obtain ⟨q,hq⟩ : ∃ q,q = (n + (136 - n % 136)) / 136:=⟨_,rfl⟩
 have hN : n + (136 - n % 136) = 136 * q:=by omega
 have hq9 : 136 * q ≤ 50000136:=by omega
 rw [hN] at hs6 ⊢
 have hb0 : (blkS pp 0).map u64V = partL ty282.zero:=by rw [Vq];rfl
 have hpl : pp.length = 136 * q:=hs6.len
 refine Bh (X:=Nat) (fun k => k ≤ q) (fun k => q - k)
  (fun k => [(7,.int .i64 (136 * (k : Int))),(6,.slice A6 (136 * q) c6),(5,.pointer (some ⟨bk,0,none⟩)),(4,.pointer (some ⟨bt,0,none⟩)),(3,.pointer (some ⟨bl,0,none⟩)),(2,.pointer (some ⟨b0,0,none⟩))])
  (fun k => [Blk bk 259 Q,Blk bt 257 T,Blk bl 282 ((blkS pp k).map u64V),Blk b0 52 (partL ty52.zero)]) (fun _ => h6) 0 (by omega) QS (by (try dsimp only);rw [hb0];exact QT) rfl ?_
 rintro k hk ih
 by_cases hkq : k < q
 · have hbk : blkS pp (k + 1) = permS (absS (blkS pp k) (pp.drop (136 * k)) 136) 24:=by rw [blkS]
   have hLl : (blkS pp k).length = 25:=Kd pp k
   generalize blkS pp k = L at *
   repeat' (first|apply Ad|apply Ap|apply Ag|apply Aa|apply Ab|(apply Ac;(iterate 3 exact J))|(apply Af;exact J;all_goals (intro hc;try simp only [hcS,reduceCtorEq] at hc;try (exfalso;omega))))
   all_goals (try (exfalso;omega))
   have ha0:=Vx L (pp.drop (136 * k))
   refine Bh (X:=Nat) (fun i => i ≤ 136) (fun i => 136 - i)
    (fun i => [(8,.int .i64 i),(7,.int .i64 (136 * (k : Int))),(6,.slice A6 (136 * q) c6),(5,.pointer (some ⟨bk,0,none⟩)),(4,.pointer (some ⟨bt,0,none⟩)),(3,.pointer (some ⟨bl,0,none⟩)),(2,.pointer (some ⟨b0,0,none⟩))])
    (fun i => [Blk bk 259 Q,Blk bt 257 T,Blk bl 282 ((absS L (pp.drop (136 * k)) i).map u64V),Blk b0 52 (partL ty52.zero)]) (fun _ => h6) 0 (by omega) QS (by (try dsimp only);rw [ha0];exact QT) rfl ?_
   rintro i hi ih2
   by_cases hi2 : i < 136
   · clear ih
     have a1:=hs6.addrD (k:=136 * k + i) (by omega)
     have cc:=hs6.cellsD 0 (k:=136 * k + i) (by omega)
     have hst:=Aua L (pp.drop (136 * k)) i
     have hgd : (pp.drop (136 * k)).getD i 0 = pp.getD (136 * k + i) 0:=by simp [List.getD]
     rw [hgd] at hst
     have hal : (absS L (pp.drop (136 * k)) i).length = 25:=by rw [Ik,hLl]
     have hv:=Cs (l:=absS L (pp.drop (136 * k)) i) (n:=i / 8) (by omega)
     have hml : ((absS L (pp.drop (136 * k)) i).map u64V).length = 25:=by rw [List.length_map,hal]
     generalize pp.getD (136 * k + i) 0 = by1 at *
     repeat' (first|apply Ad|apply Ap|apply Ah|apply Ag|apply Aa|apply Ab|(apply Cg;exact J;kernel_rfl;exact J;exact J;(first|(apply Je;(iterate 3 exact J);omega;omega)|(apply Dl;(iterate 3 exact J);omega;omega)|(apply Dc (p:=8);(iterate 3 exact J);omega)|(apply Fb;(iterate 3 exact J))|(apply Wh (c:=by1);(iterate 4 exact J)));exact QA)|(apply Be;(iterate 3 exact J);omega;exact J;exact J)|(apply Ac;(iterate 3 exact J))|(apply Ba (n:=11) [0,1,2,3,4,5,6,7,8,9,10,11,12,13,14,15,16,17,18,19] [(0,0),(1,0),(2,0),(3,0),(4,0),(5,0),(6,0),(7,0),(8,0),(9,0),(10,0),(11,0),(12,0),(13,0),(14,0),(15,0),(16,0),(17,0),(18,0),(19,1)];kernel_rfl)|(apply Hl;exact J;kernel_rfl;(iterate 5 exact J);omega)|(apply Cb;exact J;kernel_rfl;(iterate 3 exact J))|(apply Cg;exact J;kernel_rfl;exact J;exact J;(first|(apply Il (n:=8 * (i % 8));exact J;exact J;omega)|(apply Bb (j:=136 * k + i);(iterate 5 exact J);exact a1;omega;omega)|(apply Cd (j:=i / 8);(iterate 5 exact J);omega;omega)|(apply Dg (b:=bl) (e:=282) (n:=i / 8);(iterate 3 exact J);exact hv)|(apply Aw;exact J;exact Bp rfl cc rfl));exact QA)|(apply Bq;exact J;kernel_rfl;(iterate 3 exact J);(first|(apply Cw (n:=i / 8) (cs':=(absS L (pp.drop (136 * k)) (i + 1)).map u64V);(iterate 3 exact J);exact QR;exact J;(rw [hml];omega);exact hst;exact J;exact J;refine ⟨Le.refl _,QN,?_⟩)))|(apply Bj;kernel_rfl;exact J)|(apply Af;exact J;all_goals (intro hc;try simp only [hcS,reduceCtorEq] at hc;try (exfalso;omega))))
     all_goals first
      | (have h9:=ih2 (i + 1) (by omega) (by omega)
         refine Bm QS QT (h9))
   · have hi3 : i = 136:=by omega
     subst hi3
     clear ih2
     have hal : (absS L (pp.drop (136 * k)) 136).length = 25:=by rw [Ik,hLl]
     generalize absS L (pp.drop (136 * k)) 136 = M at *
     have hp0 : permS M 0 = M:=by rw [permS]
     repeat' (first|apply Ad|apply Ag|apply Aa|apply Ab|(apply Bi;exact J)|(apply Ac;(iterate 3 exact J))|(apply Af;exact J;all_goals (intro hc;try simp only [hcS,reduceCtorEq] at hc;try (exfalso;omega))))
     refine Bh (X:=Nat) (fun i => i ≤ 24) (fun i => 24 - i)
      (fun i => [(9,.int .i64 i),(7,.int .i64 (136 * (k : Int))),(6,.slice A6 (136 * q) c6),(5,.pointer (some ⟨bk,0,none⟩)),(4,.pointer (some ⟨bt,0,none⟩)),(3,.pointer (some ⟨bl,0,none⟩)),(2,.pointer (some ⟨b0,0,none⟩))])
      (fun i => [Blk bk 259 Q,Blk bt 257 T,Blk bl 282 ((permS M i).map u64V),Blk b0 52 (partL ty52.zero)]) (fun _ => h6) 0 (by omega) QS (by (try dsimp only);rw [hp0];exact QT) rfl ?_
     rintro i hi ih2
     by_cases hi2 : i < 24
     · clear ih
       have hpi : (permS M i).length = 25:=by rw [Jq,hal]
       have hro:=roundR_c h6 (permS M i) hpi (dgK.getD i 0)
       have hpn : permS M (i + 1) = roundS (permS M i) (dgK.getD i 0):=by rw [permS]
       rw [← hT,← hpn] at hro
       have hqv : Q[i]? = some (u64V (dgK.getD i 0)):=by rw [hQ];exact Cs (by rw [dgK,No];exact hi2)
       have hA1 : ((permS M i).map u64V).length = 25:=by rw [List.length_map,hpi]
       have hB1 : ((permS M (i + 1)).map u64V).length = 25:=by rw [List.length_map,Jq,hal]
       have hB2:=Ss (permS M (i + 1))
       generalize (permS M i).map u64V = PA at *
       generalize hPB : (permS M (i + 1)).map u64V = PB at *
       generalize dgK.getD i 0 = kv at *
       repeat' (first|apply Ad|apply Ap|apply Ah|apply Ag|apply Aa|apply Ab|(apply Cg;exact J;kernel_rfl;exact J;exact J;(first|(apply Hi (b:=bl) (e:=282) (cs:=PA);(iterate 3 exact J);exact hA1)|(apply Hi (b:=bt) (e:=257) (cs:=T);(iterate 3 exact J);exact hTl));exact QA)|(apply Be;(iterate 3 exact J);omega;exact J;exact J)|(apply Ac;(iterate 3 exact J))|(apply Ba (n:=15) [0,1,2,3,4,5,6] [(0,0),(1,0),(2,0),(3,0),(4,0),(5,1),(6,1)];kernel_rfl)|(apply Cb;exact J;kernel_rfl;(iterate 3 exact J))|(apply Cg;exact J;kernel_rfl;exact J;exact J;(first|(apply Cd (j:=i);(iterate 5 exact J);(with_reducible exact J);omega)|(apply Dg (b:=bk) (e:=259) (n:=i);(iterate 3 exact J);exact hqv));exact QA)|(apply Bq;exact J;kernel_rfl;(iterate 3 exact J);(first|(apply Cn (b:=bl) (cs:=PA) (cs':=PB);(iterate 3 exact J);exact QR;exact hA1.trans hB1.symm;exact hB1;exact hB2;refine ⟨Le.refl _,QN,?_⟩)|(apply Ai;exact J;exact has267;exact hro;refine ⟨Le.refl _,QN,?_⟩)))|(apply Bj;kernel_rfl;exact J)|(apply Af;exact J;all_goals (intro hc;try simp only [hcS,reduceCtorEq] at hc;try (exfalso;omega))))
       all_goals first
        | (have h9:=ih2 (i + 1) (by omega) (by omega)
           rw [hPB] at h9
           refine Bm QS QT (h9))
     · have hi3 : i = 24:=by omega
       subst hi3
       clear ih2
       repeat' (first|apply Ad|apply Ah|apply Aa|apply Ab|(apply Bi;exact J)|(apply Be;(iterate 3 exact J);omega;exact J;exact J)|(apply Ac;(iterate 3 exact J))|(apply Af;exact J;all_goals (intro hc;try simp only [hcS,reduceCtorEq] at hc;try (exfalso;omega))))
       all_goals
        have h9:=ih (k + 1) (by omega) (by omega)
        rw [hbk,show 136 * (((k + 1 : Nat)) : Int) = 136 * (k : Int) + 136 by omega] at h9
        refine Bm QS QT (h9)
 · have hkq2 : k = q:=by omega
   subst hkq2
   clear ih
   have hsum : sumF x = outT (blkS pp k) 32:=by
    unfold sumF;rw [hxl,hN,← hpp,Nat.mul_div_cancel_left k (by omega)]
   obtain ⟨L,hL⟩ : ∃ L,L = blkS pp k:=⟨_,rfl⟩
   have hLl : L.length = 25:=by rw [hL];exact Kd pp k
   rw [← hL]
   rw [← hL] at hsum
   repeat' (first|apply Ad|apply Ag|apply Aa|apply Ab|(apply Bi;exact J)|(apply Ac;(iterate 3 exact J))|(apply Aj;(iterate 3 exact J);(first|(apply Ao;(iterate 3 exact J);exact QR;(iterate 3 exact J);skip)|(apply At;exact J;intro b;skip)))|(apply Af;exact J;all_goals (intro hc;try simp only [hcS,reduceCtorEq] at hc;try (exfalso;omega))))
   all_goals (try (exfalso;omega))
   generalize b = bo
   have ho0 : (outT L 0).map u8V = partL ty52.zero:=by rw [Ue];rfl
   refine Bh (X:=Nat) (fun i => i ≤ 32) (fun i => 32 - i)
    (fun i => [(11,.int .i64 i),(10,.pointer (some ⟨bo,0,none⟩)),(3,.pointer (some ⟨bl,0,none⟩)),(2,.pointer (some ⟨b0,0,none⟩))])
    (fun i => [Blk bo 52 ((outT L i).map u8V),Blk bl 282 (L.map u64V),Blk b0 52 (partL ty52.zero)]) (fun _ => h6) 0 (by omega) QS (by (try dsimp only);rw [ho0];exact QT) rfl ?_
   rintro i hi ih2
   by_cases hi2 : i < 32
   · have hst:=Yy L i
     have hv:=Cs (l:=L) (n:=i / 8) (by omega)
     have hml : ((outT L i).map u8V).length = 32:=by rw [List.length_map,Mh]
     repeat' (first|apply Ad|apply Ap|apply Ah|apply Ag|apply Aa|apply Ab|(apply Bc;exact J;exact J;(first|(apply Je;(iterate 3 exact J);omega;omega)|(apply Dl;(iterate 3 exact J);omega;omega)|(apply Dc (p:=8);(iterate 3 exact J);omega)|(apply Aya;(iterate 4 exact J)));exact QA)|(apply Be;(iterate 3 exact J);omega;exact J;exact J)|(apply Ac;(iterate 3 exact J))|(apply Bc;exact J;exact J;(first|(apply Mp (n:=8 * (i % 8));exact J;exact J;omega)|(apply Cd (j:=i / 8);(iterate 5 exact J);omega;omega)|(apply Cd (j:=i);(iterate 5 exact J);(with_reducible exact J);omega)|(apply Dg (b:=bl) (e:=282) (n:=i / 8);(iterate 3 exact J);exact hv));exact QA)|(apply Aj;(iterate 3 exact J);(first|(apply Cw (n:=i) (cs':=(outT L (i + 1)).map u8V);(iterate 3 exact J);exact QR;exact J;(rw [hml];omega);exact hst;exact J;exact J;skip)))|(apply Af;exact J;all_goals (intro hc;try simp only [hcS,reduceCtorEq] at hc;try (exfalso;omega))))
     all_goals
      have h9:=ih2 (i + 1) (by omega) (by omega)
      refine Bm QS QT (h9)
   · have hi3 : i = 32:=by omega
     subst hi3
     clear ih2
     rw [← hsum]
     have hol : ((sumF x).map u8V).length = 32:=by rw [List.length_map,Fo]
     have ho1 : allOne ((sumF x).map u8V) = true:=by
      generalize sumF x = o
      clear hol
      induction o with
      | nil => rfl
      | cons a l ih => rw [List.map_cons];exact ih
     have hov : dgV (sumF x) = .agg ((sumF x).map u8V).toArray:=rfl
     generalize (sumF x).map u8V = o at *
     repeat' (first|apply Ad|apply Aa|apply Ab|(apply Bi;exact J)|(apply Bc;exact J;exact J;(first|(apply Hi (b:=bo) (e:=52) (cs:=o);(iterate 3 exact J);exact hol));exact QA)|(apply Ac;(iterate 3 exact J))|(apply Aj;(iterate 3 exact J);(first|(apply Cn (b:=b0) (cs':=o);(iterate 3 exact J);exact QR;(first|exact hol.symm|(rw [hol];rfl));exact hol;exact ho1;skip)))|(apply Af;exact J;all_goals (intro hc;try simp only [hcS,reduceCtorEq] at hc;try (exfalso;omega))))
     all_goals first
      | (exact Cu rfl rfl rfl QM rfl (Dx hol) hov.symm)
end Go.Hw

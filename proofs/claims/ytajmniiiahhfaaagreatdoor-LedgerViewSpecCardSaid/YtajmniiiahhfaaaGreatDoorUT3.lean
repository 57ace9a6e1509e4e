import Derived.Test.YtajmniiiahhfaaaGreatDoorUT2
import Derived.Test.YtajmniiiahhfaaaGreatDoorDB
set_option linter.unusedVariables false
set_option linter.unusedSimpArgs false
set_option maxRecDepth 100000
set_option maxHeartbeats 4000000
namespace Go.Hw
open Go
theorem pad_eq (x : List UInt8) {j : Nat} (hj : j = 135 - x.length % 136) : (x ++ [6] ++ List.replicate j 0).set (x.length + 1 + j - 1) ((x ++ [6] ++ List.replicate j 0).getD (x.length + 1 + j - 1) 0 ^^^ 128) = x ++ endS x.length:=by
  have hq : 136 - x.length % 136 = j + 1:=by omega
  have e1 : (List.replicate (j + 1) (0 : UInt8)).set 0 6 = [6] ++ List.replicate j 0:=by rw [List.replicate_succ];rfl
  unfold endS
  rw [hq]
  simp only []
  rw [e1,show x.length + 1 + j - 1 = x.length + j by omega,show j + 1 - 1 = j by omega,List.append_assoc]
  generalize [6] ++ List.replicate j (0 : UInt8) = z
  have e2 : (x ++ z).getD (x.length + j) 0 = z.getD j 0:=by
    simp only [List.getD]
    rw [List.getElem?_append_right (by omega),show x.length + j - x.length = j by omega]
  rw [e2,List.set_append_right _ _ (by omega),show x.length + j - x.length = j by omega]
attribute [local irreducible] GO GOl GDp Val Fn Res CellsAt ValE Blk OwnS MapA OwnPf Has rotl permS roundS absS outT blkS endS
open Go.Proofs (Tryz.prog)
theorem padR_c (h : Ro) (A : Option Addr) (n c : Nat) (x : List UInt8) (hx : SlOf encB 1 h A n x) (hn : n ≤ 50000000) : Res Tryz.prog 235 #[.slice A n c] h fun u h' => ∃ A' c',u = .slice A' (n + (136 - n % 136)) c' ∧ SlOf encB 1 h' A' (n + (136 - n % 136)) (x ++ endS n):=by
  refine Res_intro (args:=[_]) ts_ok Go.Proofs.Tryz.func235 rfl rfl fun w0 X0 => ?_
  have hxl:=hx.len
  repeat' (first|apply GO_seq|apply GO_block|apply GO_region|apply GOl_nil|(apply GOl_pv;(iterate 3 exact rfl))|(apply GOl_to;(iterate 3 exact rfl);(first|(apply OpTo_buildSliceO (n:=0);(iterate 3 exact rfl);exact List.cons_ne_nil _ _;(iterate 6 exact rfl);intro b1;skip)|(apply OpTo_appendS (enc:=encB) (n:=0) (xs:=[]) (ys:=x);(iterate 7 exact rfl);exact (hx.le (by first|exact Le.refl _|assumption|(repeat (first|assumption|(apply Le.trans;assumption)))));exact (fun _ => rfl);exact (fun _ => allOne_ok rfl);intro v1;exact QR;omega;exact rfl;intro A2 c2;skip)|(apply OpTo_buildSliceS (enc:=encB) (n:=1) [(6 : UInt8)];(iterate 3 exact rfl);exact List.cons_ne_nil _ _;(iterate 4 exact rfl);exact (fun _ => rfl);exact rfl;exact rfl;intro b3 h3 hle3 hs3;skip)|(apply OpTo_appendS (enc:=encB) (n:=0 + n) (xs:=[] ++ x) (ys:=[6]);(iterate 7 exact rfl);exact (hs3.le (by first|exact Le.refl _|assumption|(repeat (first|assumption|(apply Le.trans;assumption)))));exact (fun _ => rfl);exact (fun _ => allOne_ok rfl);intro v1;exact QR;omega;exact rfl;intro A4 c4;skip))))
  refine GO_loopT (X:=Nat × Nat × List UInt8 × Option Addr × Nat × Ro) (fun y => y.1 ≤ 135 - n % 136 ∧ y.2.1 = n + 1 + y.1 ∧ y.2.2.1 = x ++ [6] ++ List.replicate y.1 0 ∧ Le h3 y.2.2.2.2.2) (fun y => 135 - n % 136 - y.1)
    (fun y => [(3,.slice y.2.2.2.1 y.2.1 y.2.2.2.2.1)]) (fun y => [OwnS 5 1 (.slice y.2.2.2.1 y.2.1 y.2.2.2.2.1) y.2.1 (y.2.2.1.flatMap encB)]) (fun y => y.2.2.2.2.2) (0,0 + n + 1,[] ++ x ++ [6],A4,c4,h3) ⟨by dsimp only;omega,by dsimp only;omega,by simp,Le.refl _⟩ QS QT rfl ?_
  rintro ⟨j,m,o,A5,c5,hh⟩ ⟨hj,hm,ho,hle⟩ ih
  dsimp only at hj hm ho hle ih ⊢
  have hol : o.length = m:=by rw [ho];simp;omega
  by_cases hj2 : j < 135 - n % 136
  · have hmod : ¬ (m % 136 = 0):=by omega
    have e1 : o ++ [0] = x ++ [6] ++ List.replicate (j + 1) 0:=by rw [ho,List.append_assoc,List.replicate_succ']
    repeat' (first|apply GO_seq|apply GO_skip|apply GO_inBlock|apply GO_block|apply GO_region|apply GOl_nil|(apply GOl_ov;exact rfl;exact rfl;(first|(apply OV_remI;(iterate 3 exact rfl);omega;omega));exact QA)|(apply GOl_pv;(iterate 3 exact rfl))|(apply GOl_to;(iterate 3 exact rfl);(first|(apply OpTo_buildSliceS (enc:=encB) (n:=1) [(0 : UInt8)];(iterate 3 exact rfl);exact List.cons_ne_nil _ _;(iterate 4 exact rfl);exact (fun _ => rfl);exact rfl;exact rfl;intro b6 h6 hle6 hs6;skip)|(apply OpTo_appendS (enc:=encB) (n:=m) (xs:=o) (ys:=[0]);(iterate 7 exact rfl);exact (hs6.le (by first|exact Le.refl _|assumption|(repeat (first|assumption|(apply Le.trans;assumption)))));exact (fun _ => rfl);exact (fun _ => allOne_ok rfl);intro v1;exact QR;omega;exact rfl;intro A7 c7;skip)))|(apply GO_cond;exact rfl;all_goals (intro hc;try simp only [hcS,reduceCtorEq] at hc;try (exfalso;omega))))
    all_goals (try (exfalso;omega))
    all_goals
      have h9:=ih (j + 1,m + 1,o ++ [0],A7,c7,h6) ⟨by dsimp only;omega,by dsimp only;omega,e1,by dsimp only;exact hle.trans hle6⟩ (by dsimp only;omega)
      dsimp only at h9
      refine GO_fit QS QT (h9)
  · have hj3 : j = 135 - n % 136:=by omega
    have hmod : m % 136 = 0:=by omega
    clear ih
    have hpe:=pad_eq x (j:=j) (by rw [hxl];exact hj3)
    rw [← ho,hxl,show n + 1 + j - 1 = m - 1 by omega] at hpe
    have hz0 : o[m - 1]? = some (o.getD (m - 1) 0):=map_getB (by omega)
    refine GO_openB (e:=5) (sz:=1) (n:=m) (xs:=o.flatMap encB) QM (by omega) ?_
    intro bo co hco eo
    injection eo with eo1 _ eo2
    subst eo1;subst eo2
    repeat' (first|apply GO_seq|apply GO_region|apply GOl_nil|(apply GO_exit;exact rfl)|(apply GOl_ov;exact rfl;exact rfl;(first|(apply OV_remI;(iterate 3 exact rfl);omega;omega)|(apply OV_xor8 (b:=128);(iterate 3 exact rfl)));exact QA)|(apply GOl_sub;(iterate 3 exact rfl);omega;exact rfl;exact rfl)|(apply GOl_pv;(iterate 3 exact rfl))|(apply GOl_ov;exact rfl;exact rfl;(first|(apply OV_idx (j:=m - 1);(iterate 5 exact rfl);omega;omega)|(apply OV_ldS (off:=0) (enc:=encB) (k:=m - 1) (sz:=1) (b:=bo) (n:=m) (c:=c5) (xs:=o) (e:=5);exact rfl;exact rfl;exact addEq _ _;exact fun _ => rfl;exact hz0;exact rfl));exact QA)|(apply GOl_to;(iterate 3 exact rfl);(first|(apply OpTo_stS (b:=bo) (enc:=encB) (sz:=1) (k:=m - 1) (z:=o.getD (m - 1) 0 ^^^ 128) (xs:=o);exact rfl;exact rfl;exact addEq _ _;exact rfl;exact fun _ => rfl;exact rfl;exact QR;(rw [hol];omega);exact rfl;exact rfl;skip)))|(apply GO_cond;exact rfl;all_goals (intro hc;try simp only [hcS,reduceCtorEq] at hc;try (exfalso;omega))))
    all_goals (try (exfalso;omega))
    all_goals
      rw [hpe]
      have hN : m = n + (136 - n % 136):=by omega
      refine GO_relS (enc:=encB) (n:=m) (xs:=x ++ endS n) (fun _ => rfl) (by rw [List.length_append,endS_len,hxl];exact hN.symm) QK ?_
      intro A9 c9 h9 hle9 e9 hs9
      injection e9 with e91 _ e93
      subst e91;subst e93
      refine GO_retR1 rfl rfl rfl ?_
      rw [← hN]
      exact ⟨_,_,rfl,hs9⟩
theorem sumR_c (h : Ro) (A : Option Addr) (n c : Nat) (x : List UInt8) (hx : SlOf encB 1 h A n x) (hn : n ≤ 50000000) : Res Tryz.prog 180 #[.slice A n c] h fun u _ => u = dgV (sumF x):=by
  refine Res_intro (args:=[_]) ts_ok Go.Proofs.Tryz.func180 rfl rfl fun w0 X0 => ?_
  have hxl:=hx.len
  obtain ⟨T,hT⟩ : ∃ T,T = turnL.map encN:=⟨_,rfl⟩
  obtain ⟨Q,hQ⟩ : ∃ Q,Q = dgK.map u64V:=⟨_,rfl⟩
  have hTl : T.length = 25:=by rw [hT,List.length_map];exact turnT_len 24
  have hQl : Q.length = 24:=by rw [hQ,List.length_map];exact kT_len 24
  have hT1 : allOne T = true:=by rw [hT];exact allOneN _
  have hQ1 : allOne Q = true:=by rw [hQ];exact allOneU _
  have ht1:=turnsR_c h
  have ht2:=constR_c h
  rw [← hT] at ht1
  rw [← hQ] at ht2
  repeat' (first|apply GO_seq|apply GO_block|apply GO_region|apply GOl_nil|(apply GOl_pv;(iterate 3 exact rfl))|(apply GOl_to;(iterate 3 exact rfl);(first|(apply OpTo_stAll (cs':=T);(iterate 3 exact rfl);exact QR;(first|exact hTl.symm|(rw [hTl];rfl));exact hTl;exact hT1;skip)|(apply OpTo_stAll (cs':=Q);(iterate 3 exact rfl);exact QR;(first|exact hQl.symm|(rw [hQl];rfl));exact hQl;exact hQ1;skip)|(apply OpTo_store;(iterate 3 exact rfl);exact QR;(iterate 3 exact rfl);skip)|(apply OpTo_alloc;exact rfl;intro b;skip)|(apply OpTo_val;exact rfl;exact has233;exact ht1;skip)|(apply OpTo_val;exact rfl;exact has234;exact ht2;skip)|(apply OpTo_res;exact rfl;exact has235;exact padR_c _ A n c x (hx.le (by first|exact Le.refl _|assumption|(repeat (first|assumption|(apply Le.trans;assumption))))) hn;rintro v6 h6 hle6 ⟨A6,c6,rfl,hs6⟩;skip))))
  rename_i b0 bl bt
  generalize b = bk
  obtain ⟨pp,hpp⟩ : ∃ pp,pp = x ++ endS n:=⟨_,rfl⟩
  rw [← hpp] at hs6
  obtain ⟨q,hq⟩ : ∃ q,q = (n + (136 - n % 136)) / 136:=⟨_,rfl⟩
  have hN : n + (136 - n % 136) = 136 * q:=by omega
  have hq9 : 136 * q ≤ 50000136:=by omega
  rw [hN] at hs6 ⊢
  have hb0 : (blkS pp 0).map u64V = partL ty242.zero:=by rw [blkS_zero];rfl
  have hpl : pp.length = 136 * q:=hs6.len
  refine GO_loopT (X:=Nat) (fun k => k ≤ q) (fun k => q - k)
    (fun k => [(7,.int .i64 (136 * (k : Int))),(6,.slice A6 (136 * q) c6),(5,.pointer (some ⟨bk,0,none⟩)),(4,.pointer (some ⟨bt,0,none⟩)),(3,.pointer (some ⟨bl,0,none⟩)),(2,.pointer (some ⟨b0,0,none⟩))])
    (fun k => [Blk bk 193 Q,Blk bt 192 T,Blk bl 242 ((blkS pp k).map u64V),Blk b0 71 (partL ty71.zero)]) (fun _ => h6) 0 (by omega) QS (by (try dsimp only);rw [hb0];exact QT) rfl ?_
  rintro k hk ih
  by_cases hkq : k < q
  · have hbk : blkS pp (k + 1) = permS (absS (blkS pp k) (pp.drop (136 * k)) 136) 24:=by rw [blkS]
    have hLl : (blkS pp k).length = 25:=blkS_len pp k
    generalize blkS pp k = L at *
    repeat' (first|apply GO_seq|apply GO_skip|apply GO_block|apply GO_region|apply GOl_nil|(apply GOl_pv;(iterate 3 exact rfl))|(apply GO_cond;exact rfl;all_goals (intro hc;try simp only [hcS,reduceCtorEq] at hc;try (exfalso;omega))))
    all_goals (try (exfalso;omega))
    have ha0:=absS_zero L (pp.drop (136 * k))
    refine GO_loopT (X:=Nat) (fun i => i ≤ 136) (fun i => 136 - i)
      (fun i => [(8,.int .i64 i),(7,.int .i64 (136 * (k : Int))),(6,.slice A6 (136 * q) c6),(5,.pointer (some ⟨bk,0,none⟩)),(4,.pointer (some ⟨bt,0,none⟩)),(3,.pointer (some ⟨bl,0,none⟩)),(2,.pointer (some ⟨b0,0,none⟩))])
      (fun i => [Blk bk 193 Q,Blk bt 192 T,Blk bl 242 ((absS L (pp.drop (136 * k)) i).map u64V),Blk b0 71 (partL ty71.zero)]) (fun _ => h6) 0 (by omega) QS (by (try dsimp only);rw [ha0];exact QT) rfl ?_
    rintro i hi ih2
    by_cases hi2 : i < 136
    · clear ih
      have a1:=hs6.addrD (k:=136 * k + i) (by omega)
      have cc:=hs6.cellsD 0 (k:=136 * k + i) (by omega)
      have hst:=abs_step L (pp.drop (136 * k)) i
      have hgd : (pp.drop (136 * k)).getD i 0 = pp.getD (136 * k + i) 0:=by simp [List.getD]
      rw [hgd] at hst
      have hal : (absS L (pp.drop (136 * k)) i).length = 25:=by rw [absS_len,hLl]
      have hv:=map_getU (l:=absS L (pp.drop (136 * k)) i) (n:=i / 8) (by omega)
      have hml : ((absS L (pp.drop (136 * k)) i).map u64V).length = 25:=by rw [List.length_map,hal]
      generalize pp.getD (136 * k + i) 0 = by1 at *
      repeat' (first|apply GO_seq|apply GO_skip|apply GO_inBlock|apply GO_block|apply GO_region|apply GOl_nil|(apply GP_ov;exact rfl;kernel_rfl;exact rfl;exact rfl;(first|(apply OV_quoI;(iterate 3 exact rfl);omega;omega)|(apply OV_remI;(iterate 3 exact rfl);omega;omega)|(apply OV_mulI (p:=8);(iterate 3 exact rfl);omega)|(apply OV_xor64;(iterate 3 exact rfl))|(apply OV_u8to64 (c:=by1);(iterate 4 exact rfl)));exact QA)|(apply GOl_add;(iterate 3 exact rfl);omega;exact rfl;exact rfl)|(apply GOl_pv;(iterate 3 exact rfl))|(apply GO_drawp (n:=11) [0,1,2,3,4,5,6,7,8,9,10,11,12,13,14,15,16,17,18,19] [(0,0),(1,0),(2,0),(3,0),(4,0),(5,0),(6,0),(7,0),(8,0),(9,0),(10,0),(11,0),(12,0),(13,0),(14,0),(15,0),(16,0),(17,0),(18,0),(19,1)];kernel_rfl)|(apply GP_add;exact rfl;kernel_rfl;(iterate 5 exact rfl);omega)|(apply GP_pv;exact rfl;kernel_rfl;(iterate 3 exact rfl))|(apply GP_ov;exact rfl;kernel_rfl;exact rfl;exact rfl;(first|(apply OV_shl64 (n:=8 * (i % 8));exact rfl;exact rfl;omega)|(apply OV_idxS (j:=136 * k + i);(iterate 5 exact rfl);exact a1;omega;omega)|(apply OV_idxA (j:=i / 8);(iterate 5 exact rfl);omega;omega)|(apply OV_ldB (b:=bl) (e:=242) (n:=i / 8);(iterate 3 exact rfl);exact hv)|(apply OV_load;exact rfl;exact Lv_ro rfl cc rfl));exact QA)|(apply GP_real;exact rfl;kernel_rfl;(iterate 3 exact rfl);(first|(apply OpTo_stB (n:=i / 8) (cs':=(absS L (pp.drop (136 * k)) (i + 1)).map u64V);(iterate 3 exact rfl);exact QR;exact rfl;(rw [hml];omega);exact hst;exact rfl;exact rfl;refine ⟨Le.refl _,QN,?_⟩)))|(apply GP_done;kernel_rfl;exact rfl)|(apply GO_cond;exact rfl;all_goals (intro hc;try simp only [hcS,reduceCtorEq] at hc;try (exfalso;omega))))
      all_goals first
        | (have h9:=ih2 (i + 1) (by omega) (by omega)
           refine GO_fit QS QT (h9))
    · have hi3 : i = 136:=by omega
      subst hi3
      clear ih2
      have hal : (absS L (pp.drop (136 * k)) 136).length = 25:=by rw [absS_len,hLl]
      generalize absS L (pp.drop (136 * k)) 136 = M at *
      have hp0 : permS M 0 = M:=by rw [permS]
      repeat' (first|apply GO_seq|apply GO_block|apply GO_region|apply GOl_nil|(apply GO_exit;exact rfl)|(apply GOl_pv;(iterate 3 exact rfl))|(apply GO_cond;exact rfl;all_goals (intro hc;try simp only [hcS,reduceCtorEq] at hc;try (exfalso;omega))))
      refine GO_loopT (X:=Nat) (fun i => i ≤ 24) (fun i => 24 - i)
        (fun i => [(9,.int .i64 i),(7,.int .i64 (136 * (k : Int))),(6,.slice A6 (136 * q) c6),(5,.pointer (some ⟨bk,0,none⟩)),(4,.pointer (some ⟨bt,0,none⟩)),(3,.pointer (some ⟨bl,0,none⟩)),(2,.pointer (some ⟨b0,0,none⟩))])
        (fun i => [Blk bk 193 Q,Blk bt 192 T,Blk bl 242 ((permS M i).map u64V),Blk b0 71 (partL ty71.zero)]) (fun _ => h6) 0 (by omega) QS (by (try dsimp only);rw [hp0];exact QT) rfl ?_
      rintro i hi ih2
      by_cases hi2 : i < 24
      · clear ih
        have hpi : (permS M i).length = 25:=by rw [permS_len,hal]
        have hro:=roundR_c h6 (permS M i) hpi (dgK.getD i 0)
        have hpn : permS M (i + 1) = roundS (permS M i) (dgK.getD i 0):=by rw [permS]
        rw [← hT,← hpn] at hro
        have hqv : Q[i]? = some (u64V (dgK.getD i 0)):=by rw [hQ];exact map_getU (by rw [dgK,kT_len];exact hi2)
        have hA1 : ((permS M i).map u64V).length = 25:=by rw [List.length_map,hpi]
        have hB1 : ((permS M (i + 1)).map u64V).length = 25:=by rw [List.length_map,permS_len,hal]
        have hB2:=allOneU (permS M (i + 1))
        generalize (permS M i).map u64V = PA at *
        generalize hPB : (permS M (i + 1)).map u64V = PB at *
        generalize dgK.getD i 0 = kv at *
        repeat' (first|apply GO_seq|apply GO_skip|apply GO_inBlock|apply GO_block|apply GO_region|apply GOl_nil|(apply GP_ov;exact rfl;kernel_rfl;exact rfl;exact rfl;(first|(apply OV_ldAll (b:=bl) (e:=242) (cs:=PA);(iterate 3 exact rfl);exact hA1)|(apply OV_ldAll (b:=bt) (e:=192) (cs:=T);(iterate 3 exact rfl);exact hTl));exact QA)|(apply GOl_add;(iterate 3 exact rfl);omega;exact rfl;exact rfl)|(apply GOl_pv;(iterate 3 exact rfl))|(apply GO_drawp (n:=15) [0,1,2,3,4,5,6] [(0,0),(1,0),(2,0),(3,0),(4,0),(5,1),(6,1)];kernel_rfl)|(apply GP_pv;exact rfl;kernel_rfl;(iterate 3 exact rfl))|(apply GP_ov;exact rfl;kernel_rfl;exact rfl;exact rfl;(first|(apply OV_idxA (j:=i);(iterate 5 exact rfl);(with_reducible exact rfl);omega)|(apply OV_ldB (b:=bk) (e:=193) (n:=i);(iterate 3 exact rfl);exact hqv));exact QA)|(apply GP_real;exact rfl;kernel_rfl;(iterate 3 exact rfl);(first|(apply OpTo_stAll (b:=bl) (cs:=PA) (cs':=PB);(iterate 3 exact rfl);exact QR;exact hA1.trans hB1.symm;exact hB1;exact hB2;refine ⟨Le.refl _,QN,?_⟩)|(apply OpTo_val;exact rfl;exact has236;exact hro;refine ⟨Le.refl _,QN,?_⟩)))|(apply GP_done;kernel_rfl;exact rfl)|(apply GO_cond;exact rfl;all_goals (intro hc;try simp only [hcS,reduceCtorEq] at hc;try (exfalso;omega))))
        all_goals first
          | (have h9:=ih2 (i + 1) (by omega) (by omega)
             rw [hPB] at h9
             refine GO_fit QS QT (h9))
      · have hi3 : i = 24:=by omega
        subst hi3
        clear ih2
        repeat' (first|apply GO_seq|apply GO_inBlock|apply GO_region|apply GOl_nil|(apply GO_exit;exact rfl)|(apply GOl_add;(iterate 3 exact rfl);omega;exact rfl;exact rfl)|(apply GOl_pv;(iterate 3 exact rfl))|(apply GO_cond;exact rfl;all_goals (intro hc;try simp only [hcS,reduceCtorEq] at hc;try (exfalso;omega))))
        all_goals
          have h9:=ih (k + 1) (by omega) (by omega)
          rw [hbk,show 136 * (((k + 1 : Nat)) : Int) = 136 * (k : Int) + 136 by omega] at h9
          refine GO_fit QS QT (h9)
  · have hkq2 : k = q:=by omega
    subst hkq2
    clear ih
    have hsum : sumF x = outT (blkS pp k) 32:=by
      unfold sumF;rw [hxl,hN,← hpp,Nat.mul_div_cancel_left k (by omega)]
    obtain ⟨L,hL⟩ : ∃ L,L = blkS pp k:=⟨_,rfl⟩
    have hLl : L.length = 25:=by rw [hL];exact blkS_len pp k
    rw [← hL]
    rw [← hL] at hsum
    repeat' (first|apply GO_seq|apply GO_block|apply GO_region|apply GOl_nil|(apply GO_exit;exact rfl)|(apply GOl_pv;(iterate 3 exact rfl))|(apply GOl_to;(iterate 3 exact rfl);(first|(apply OpTo_store;(iterate 3 exact rfl);exact QR;(iterate 3 exact rfl);skip)|(apply OpTo_alloc;exact rfl;intro b;skip)))|(apply GO_cond;exact rfl;all_goals (intro hc;try simp only [hcS,reduceCtorEq] at hc;try (exfalso;omega))))
    all_goals (try (exfalso;omega))
    generalize b = bo
    have ho0 : (outT L 0).map u8V = partL ty71.zero:=by rw [outT_zero];rfl
    refine GO_loopT (X:=Nat) (fun i => i ≤ 32) (fun i => 32 - i)
      (fun i => [(11,.int .i64 i),(10,.pointer (some ⟨bo,0,none⟩)),(3,.pointer (some ⟨bl,0,none⟩)),(2,.pointer (some ⟨b0,0,none⟩))])
      (fun i => [Blk bo 71 ((outT L i).map u8V),Blk bl 242 (L.map u64V),Blk b0 71 (partL ty71.zero)]) (fun _ => h6) 0 (by omega) QS (by (try dsimp only);rw [ho0];exact QT) rfl ?_
    rintro i hi ih2
    by_cases hi2 : i < 32
    · have hst:=out_step L i
      have hv:=map_getU (l:=L) (n:=i / 8) (by omega)
      have hml : ((outT L i).map u8V).length = 32:=by rw [List.length_map,outT_len]
      repeat' (first|apply GO_seq|apply GO_skip|apply GO_inBlock|apply GO_block|apply GO_region|apply GOl_nil|(apply GOl_ov;exact rfl;exact rfl;(first|(apply OV_quoI;(iterate 3 exact rfl);omega;omega)|(apply OV_remI;(iterate 3 exact rfl);omega;omega)|(apply OV_mulI (p:=8);(iterate 3 exact rfl);omega)|(apply OV_64to8;(iterate 4 exact rfl)));exact QA)|(apply GOl_add;(iterate 3 exact rfl);omega;exact rfl;exact rfl)|(apply GOl_pv;(iterate 3 exact rfl))|(apply GOl_ov;exact rfl;exact rfl;(first|(apply OV_shr64 (n:=8 * (i % 8));exact rfl;exact rfl;omega)|(apply OV_idxA (j:=i / 8);(iterate 5 exact rfl);omega;omega)|(apply OV_idxA (j:=i);(iterate 5 exact rfl);(with_reducible exact rfl);omega)|(apply OV_ldB (b:=bl) (e:=242) (n:=i / 8);(iterate 3 exact rfl);exact hv));exact QA)|(apply GOl_to;(iterate 3 exact rfl);(first|(apply OpTo_stB (n:=i) (cs':=(outT L (i + 1)).map u8V);(iterate 3 exact rfl);exact QR;exact rfl;(rw [hml];omega);exact hst;exact rfl;exact rfl;skip)))|(apply GO_cond;exact rfl;all_goals (intro hc;try simp only [hcS,reduceCtorEq] at hc;try (exfalso;omega))))
      all_goals
        have h9:=ih2 (i + 1) (by omega) (by omega)
        refine GO_fit QS QT (h9)
    · have hi3 : i = 32:=by omega
      subst hi3
      clear ih2
      rw [← hsum]
      have hol : ((sumF x).map u8V).length = 32:=by rw [List.length_map,sumF_len]
      have ho1 : allOne ((sumF x).map u8V) = true:=by
        generalize sumF x = o
        clear hol
        induction o with
        | nil => rfl
        | cons a l ih => rw [List.map_cons];exact ih
      have hov : dgV (sumF x) = .agg ((sumF x).map u8V).toArray:=rfl
      generalize (sumF x).map u8V = o at *
      repeat' (first|apply GO_seq|apply GO_region|apply GOl_nil|(apply GO_exit;exact rfl)|(apply GOl_ov;exact rfl;exact rfl;(first|(apply OV_ldAll (b:=bo) (e:=71) (cs:=o);(iterate 3 exact rfl);exact hol));exact QA)|(apply GOl_pv;(iterate 3 exact rfl))|(apply GOl_to;(iterate 3 exact rfl);(first|(apply OpTo_stAll (b:=b0) (cs':=o);(iterate 3 exact rfl);exact QR;(first|exact hol.symm|(rw [hol];rfl));exact hol;exact ho1;skip)))|(apply GO_cond;exact rfl;all_goals (intro hc;try simp only [hcS,reduceCtorEq] at hc;try (exfalso;omega))))
      all_goals first
        | (exact GO_retRC1 rfl rfl rfl QM rfl (pvPart_all hol) hov.symm)
end Go.Hw

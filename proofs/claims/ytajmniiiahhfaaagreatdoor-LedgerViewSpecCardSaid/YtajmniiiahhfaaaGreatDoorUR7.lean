import Derived.Test.YtajmniiiahhfaaaGreatDoorUR6
import Derived.Test.YtajmniiiahhfaaaGreatDoorHwZf
set_option linter.unusedVariables false
set_option linter.unusedSimpArgs false
set_option maxRecDepth 100000
set_option maxHeartbeats 4000000
namespace Go.Hw
open Go
attribute [local irreducible] GO GOl GDp Val Fn Res CellsAt ValE Blk OwnS MapA OwnPf Has
open Go.Proofs (Tryz.prog)
def EnOk (d : Nat) : Prop:=∀ (h : Ro) (v : Va) (bs : List UInt8),VEnc d h v bs → bs.length ≤ 500000000 → Res Tryz.prog 213 #[vaV v] h (BOut bs)
theorem encR1_c (h : Ro) (m : Int) (hm : I64 m) : Res Tryz.prog 213 #[vaV ⟨1,m,[],sli0,sli0⟩] h (BOut (bInt m)):=by
  refine Res_intro (args:=[_]) ts_ok Go.Proofs.Tryz.func213 rfl rfl fun w0 X0 => ?_
  have hl:=itoa_len hm
  have hl2 : ([105] ++ Lib.itoa m).length ≤ 22:=by rw [List.length_append,List.length_singleton];omega
  have hl3 : ([105] ++ Lib.itoa m ++ [101]).length ≤ 23:=by rw [List.length_append,List.length_singleton];omega
  have e1 : [105] ++ Lib.itoa m ++ [101] = bInt m:=rfl
  repeat' (first|apply GO_seq|apply GO_block|apply GO_region|apply GOl_nil|(apply GOl_pv;(iterate 3 exact rfl))|(apply GOl_load;exact rfl;exact Ld_blk rfl QM rfl;exact rfl;exact rfl)|(apply GOl_ov;exact rfl;exact rfl;(first|(apply OV_strCat (a:=[105]) (b:=Lib.itoa m);(iterate 3 exact rfl);(simp only [List.length_cons,List.length_nil];omega))|(apply OV_strCat (a:=[105] ++ Lib.itoa m) (b:=[101]);(iterate 3 exact rfl);(simp only [List.length_singleton];omega)));exact QA)|(apply GOl_to;(iterate 3 exact rfl);(first|(apply OpTo_box;exact rfl;intro b;skip)|(apply OpTo_val;exact rfl;exact has243;exact decimal_c m hm _;skip)|(apply OpTo_bytesR (s:=[105] ++ Lib.itoa m ++ [101]);(iterate 6 exact rfl);omega;intro A1 c1 h1 hle1 hs1;skip)))|(apply GO_cond;exact rfl;all_goals (intro hc;try simp only [hcS,reduceCtorEq] at hc;try (exfalso;omega))))
  all_goals first
    | (exfalso;simp at *;done)
    | (exact GO_retR1 rfl rfl rfl ⟨_,_,rfl,hs1⟩)
theorem encR2_c (h : Ro) (s : List UInt8) (hs : s.length ≤ 900000000) : Res Tryz.prog 213 #[vaV ⟨2,0,s,sli0,sli0⟩] h (BOut (bText s)):=by
  refine Res_intro (args:=[_]) ts_ok Go.Proofs.Tryz.func213 rfl rfl fun w0 X0 => ?_
  repeat' (first|apply GO_seq|apply GO_block|apply GO_region|apply GOl_nil|(apply GOl_pv;(iterate 3 exact rfl))|(apply GOl_load;exact rfl;exact Ld_blk rfl QM rfl;exact rfl;exact rfl)|(apply GOl_to;(iterate 3 exact rfl);(first|(apply OpTo_box;exact rfl;intro b;skip)|(apply OpTo_res;exact rfl;exact has244;exact textE_c _ s hs;rintro v1 h1 hle1 hv1;skip)))|(apply GO_cond;exact rfl;all_goals (intro hc;try simp only [hcS,reduceCtorEq] at hc;try (exfalso;omega))))
  all_goals first
    | (exfalso;simp at *;done)
    | (exact GO_retR1 rfl rfl rfl hv1)
theorem encR3_c (d : Nat) (ih0 : EnOk d) (h : Ro) (L : Sli) (vs : List Va) (bss : List (List UInt8)) (hL : SlOf vaC 5 h L.A L.n vs) (hz : Zip7 (VEnc d h) vs bss) (hn : L.n ≤ 1000000) (hb : (bSeq bss).length ≤ 500000000) (hpos : ∀ b ∈ bss,0 < b.length) :
    Res Tryz.prog 213 #[vaV ⟨3,0,[],L,sli0⟩] h (BOut (bSeq bss)):=by
  refine Res_intro (args:=[_]) ts_ok Go.Proofs.Tryz.func213 rfl rfl fun w0 X0 => ?_
  have hlen:=hL.len
  have hzl:=hz.1
  have hbl : (bSeq bss).length = bss.flatten.length + 2:=by unfold bSeq;simp
  repeat' (first|apply GO_seq|apply GO_skip|apply GO_inBlock|apply GO_block|apply GO_region|apply GOl_nil|(apply GOl_pv;(iterate 3 exact rfl))|(apply GOl_load;exact rfl;exact Ld_blk rfl QM rfl;exact rfl;exact rfl)|(apply GOl_to;(iterate 3 exact rfl);(first|(apply OpTo_box;exact rfl;intro b;skip)|(apply OpTo_buildSliceO (n:=1) (cs:=[(108 : UInt8)].flatMap encB);(iterate 3 exact rfl);exact List.cons_ne_nil _ _;(iterate 6 exact rfl);intro bo;skip)|(apply OpTo_markS (xs:=[(108 : UInt8)].flatMap encB);(iterate 5 exact rfl);exact QR;skip)))|(apply GO_cond;exact rfl;all_goals (intro hc;try simp only [hcS,reduceCtorEq] at hc;try (exfalso;omega))))
  all_goals (try (exfalso;simp at *;done))
  generalize b = b0
  refine GO_loopT (X:=Nat × Option Addr × Nat × Ro) (fun x => x.1 ≤ L.n ∧ Le h x.2.2.2) (fun x => L.n - x.1)
    (fun x => [(4,.int .i64 x.1),(1,.pointer (some ⟨b0,0,none⟩)),(3,.slice x.2.1 (1 + (bss.take x.1).flatten.length) x.2.2.1)])
    (fun x => [OwnPf true 5 (.slice x.2.1 (1 + (bss.take x.1).flatten.length) x.2.2.1) (1 + (bss.take x.1).flatten.length) ((108 :: (bss.take x.1).flatten).flatMap encB),Blk b0 146 (vaC ⟨3,0,[],L,sli0⟩)]) (fun x => x.2.2.2) (0,some ⟨bo,0,none⟩,1,h) ⟨by dsimp only;omega,Le.refl _⟩ QS QT rfl ?_
  rintro ⟨k,A,c,hh⟩ ⟨hk,hle⟩ ih
  dsimp only at hk hle ih ⊢
  by_cases hkn : k < L.n
  · have a1:=hL.addrD hkn
    have cc:=(hL.cellsD va0 hkn).le hle
    have hv:=(zip_at hz (show k < vs.length by omega)).le hle
    have hfl:=flat_le (show k < bss.length by omega)
    have ht:=take7 [] rfl (show k < bss.length by omega)
    have hp0:=hpos _ (mem7 [] (show k < bss.length by omega))
    generalize vs.getD k va0 = u at *
    generalize bss.getD k [] = bb at *
    have hcon:=ih0 hh u bb hv (by omega)
    repeat' (first|apply GO_seq|apply GO_skip|apply GO_inBlock|apply GO_block|apply GO_region|apply GOl_nil|(apply GOl_add;(iterate 3 exact rfl);omega;exact rfl;exact rfl)|(apply GOl_pv;(iterate 3 exact rfl))|(apply GOl_load;exact rfl;exact Ld_blk rfl QM rfl;exact rfl;exact rfl)|(apply GOl_ov;exact rfl;exact rfl;(first|(apply OV_idxS (j:=k);(iterate 5 exact rfl);exact a1;(with_reducible exact rfl);omega)|(apply OV_load;exact rfl;exact Lv_ro rfl cc rfl));exact QA)|(apply GOl_to;(iterate 3 exact rfl);(first|(apply OpTo_res;exact rfl;exact has213;exact hcon;rintro v2 h2 hle2 ⟨A2,c2,rfl,hs2⟩;skip)|(apply OpTo_appendP (f:=true) (n:=1 + (bss.take k).flatten.length) (xs:=(108 :: (bss.take k).flatten).flatMap encB) (s:=bb);(iterate 8 exact rfl);exact hs2.le (by first|exact Le.refl _|assumption|(repeat (first|assumption|(apply Le.trans;assumption))));exact hp0;intro v9;exact QR;omega;intro A3 c3;skip)))|(apply GO_cond;exact rfl;all_goals (intro hc;try simp only [hcS,reduceCtorEq] at hc;try (exfalso;omega))))
    all_goals (try (exfalso;simp at *;done))
    all_goals
      have h3:=ih (k + 1,A3,c3,h2) ⟨by dsimp only;omega,by dsimp only;exact hle.trans hle2⟩ (by dsimp only;omega)
      dsimp only at h3
      rw [ht,List.flatten_append,List.flatten_singleton,List.length_append,← Nat.add_assoc,← List.cons_append,List.flatMap_append] at h3
      refine GO_fit QS QT (h3)
  · rw [List.take_of_length_le (by omega)]
    clear ih
    repeat' (first|apply GO_seq|apply GO_region|apply GOl_nil|(apply GO_exit;exact rfl)|(apply GOl_pv;(iterate 3 exact rfl))|(apply GOl_load;exact rfl;exact Ld_blk rfl QM rfl;exact rfl;exact rfl)|(apply GOl_to;(iterate 3 exact rfl);(first|(apply OpTo_buildSliceS (enc:=encB) (n:=1) [(101 : UInt8)];(iterate 3 exact rfl);exact List.cons_ne_nil _ _;(iterate 4 exact rfl);exact (fun _ => rfl);exact rfl;exact rfl;intro b3 h3 hle3 hs3;skip)|(apply OpTo_appendP (f:=true) (n:=1 + bss.flatten.length) (xs:=(108 :: bss.flatten).flatMap encB) (s:=[(101 : UInt8)]);(iterate 8 exact rfl);exact hs3.le (by first|exact Le.refl _|assumption|(repeat (first|assumption|(apply Le.trans;assumption))));omega;intro v9;exact QR;omega;intro A3 c3;skip)))|(apply GO_cond;exact rfl;all_goals (intro hc;try simp only [hcS,reduceCtorEq] at hc;try (exfalso;omega))))
    have e8 : (108 :: bss.flatten).flatMap encB ++ [(101 : UInt8)].flatMap encB = (bSeq bss).flatMap encB:=by unfold bSeq;simp only [List.flatMap_cons,List.flatMap_append,List.append_assoc,List.flatMap_nil,List.append_nil,List.nil_append]
    have e9 : 1 + bss.flatten.length + 1 = (bSeq bss).length:=by omega
    rw [e8,e9]
    refine GO_relQ8 (f:=true) (l8:=bSeq bss) (n:=(bSeq bss).length) (e:=5) rfl QK ?_
    intro A9 c9 h9 hle9 eq9 hnc hs9
    injection eq9 with e91 _ e93
    subst e91;subst e93
    exact GO_retR1 rfl rfl rfl ⟨_,_,rfl,hs9⟩
theorem encR4_c (d : Nat) (ih0 : EnOk d) (h : Ro) (L K : Sli) (vs : List Va) (bss ks : List (List UInt8)) (hL : SlOf vaC 5 h L.A L.n vs) (hz : Zip7 (VEnc d h) vs bss) (hK : SlOf encS7 1 h K.A K.n ks) (hkl : ks.length = vs.length) (hn : L.n ≤ 1000000) (hb : (bDict ks bss).length ≤ 500000000) (hpos : ∀ b ∈ bss,0 < b.length) :
    Res Tryz.prog 213 #[vaV ⟨4,0,[],L,K⟩] h (BOut (bDict ks bss)):=by
  refine Res_intro (args:=[_]) ts_ok Go.Proofs.Tryz.func213 rfl rfl fun w0 X0 => ?_
  have hlen:=hL.len
  have hlenK:=hK.len
  have hzl:=hz.1
  obtain ⟨tt,htt⟩ : ∃ tt,tt = (ks.zip bss).map (fun p => bText p.1 ++ p.2):=⟨_,rfl⟩
  have hfm : (ks.zip bss).flatMap (fun p => bText p.1 ++ p.2) = tt.flatten:=by rw [htt,List.flatMap_def]
  have htl : tt.length = vs.length:=by rw [htt,List.length_map,List.length_zip];omega
  have hbl : (bDict ks bss).length = tt.flatten.length + 2:=by unfold bDict;rw [hfm];simp
  have hta : ∀ k,k < vs.length → tt.getD k [] = bText (ks.getD k []) ++ bss.getD k []:=fun k hk => by
    rw [htt];simp [List.getD,List.getElem?_eq_getElem (show k < ks.length by omega),List.getElem?_eq_getElem (show k < bss.length by omega),List.zip_eq_zipWith,List.getElem?_zipWith]
  repeat' (first|apply GO_seq|apply GO_skip|apply GO_inBlock|apply GO_block|apply GO_region|apply GOl_nil|(apply GOl_pv;(iterate 3 exact rfl))|(apply GOl_load;exact rfl;exact Ld_blk rfl QM rfl;exact rfl;exact rfl)|(apply GOl_to;(iterate 3 exact rfl);(first|(apply OpTo_box;exact rfl;intro b;skip)|(apply OpTo_buildSliceO (n:=1) (cs:=[(108 : UInt8)].flatMap encB);(iterate 3 exact rfl);exact List.cons_ne_nil _ _;(iterate 6 exact rfl);intro bo;skip)|(apply OpTo_markS (b:=bp) (xs:=[(100 : UInt8)].flatMap encB);(iterate 5 exact rfl);exact QR;skip)|(apply OpTo_buildSliceO (n:=1) (cs:=[(100 : UInt8)].flatMap encB);(iterate 3 exact rfl);exact List.cons_ne_nil _ _;(iterate 6 exact rfl);intro bp;skip)|(apply OpTo_markS (b:=bo) (xs:=[(108 : UInt8)].flatMap encB);(iterate 5 exact rfl);exact QR;skip)))|(apply GO_cond;exact rfl;all_goals (intro hc;try simp only [hcS,reduceCtorEq] at hc;try (exfalso;omega))))
  all_goals (try (exfalso;simp at *;done))
  generalize b = b0
  refine GO_loopT (X:=Nat × Option Addr × Nat × Ro) (fun x => x.1 ≤ L.n ∧ Le h x.2.2.2) (fun x => L.n - x.1)
    (fun x => [(4,.int .i64 x.1),(1,.pointer (some ⟨b0,0,none⟩)),(3,.slice x.2.1 (1 + (tt.take x.1).flatten.length) x.2.2.1)])
    (fun x => [OwnPf true 5 (.slice x.2.1 (1 + (tt.take x.1).flatten.length) x.2.2.1) (1 + (tt.take x.1).flatten.length) ((100 :: (tt.take x.1).flatten).flatMap encB),Blk b0 146 (vaC ⟨4,0,[],L,K⟩)]) (fun x => x.2.2.2) (0,some ⟨bp,0,none⟩,1,h) ⟨by dsimp only;omega,Le.refl _⟩ QS QT rfl ?_
  rintro ⟨k,A,c,hh⟩ ⟨hk,hle⟩ ih
  dsimp only at hk hle ih ⊢
  by_cases hkn : k < L.n
  · have a1:=hL.addrD hkn
    have cc:=(hL.cellsD va0 hkn).le hle
    have hkK : k < K.n:=by omega
    have a2:=hK.addrD hkK
    have c2k:=(hK.cellsD [] (show k < K.n by omega)).le hle
    have hv:=(zip_at hz (show k < vs.length by omega)).le hle
    have hfl:=flat_le (show k < tt.length by omega)
    have ht:=take7 [] rfl (show k < tt.length by omega)
    have hta1:=hta k (by omega)
    have hp0:=hpos _ (mem7 [] (show k < bss.length by omega))
    generalize vs.getD k va0 = u at *
    generalize bss.getD k [] = bb at *
    generalize ks.getD k [] = kk at *
    have htal : (tt.getD k []).length = (bText kk).length + bb.length:=by rw [hta1,List.length_append]
    have hkk : kk.length < (bText kk).length:=by unfold bText;simp;omega
    have hcon:=fun h' (hl : Le hh h') => ih0 h' u bb (hv.le hl) (by omega)
    repeat' (first|apply GO_seq|apply GO_skip|apply GO_inBlock|apply GO_block|apply GO_region|apply GOl_nil|(apply GOl_add;(iterate 3 exact rfl);omega;exact rfl;exact rfl)|(apply GOl_pv;(iterate 3 exact rfl))|(apply GOl_load;exact rfl;exact Ld_blk rfl QM rfl;exact rfl;exact rfl)|(apply GOl_ov;exact rfl;exact rfl;(first|(apply OV_idxS (j:=k);(iterate 5 exact rfl);exact a1;(with_reducible exact rfl);omega)|(apply OV_idxS (j:=k);(iterate 5 exact rfl);exact a2;(with_reducible exact rfl);exact hkK)|(apply OV_load;exact rfl;exact Lv_ro rfl (cc.le (by first|exact Le.refl _|assumption|(repeat (first|assumption|(apply Le.trans;assumption))))) rfl)|(apply OV_load;exact rfl;exact Lv_ro rfl (c2k.le (by first|exact Le.refl _|assumption|(repeat (first|assumption|(apply Le.trans;assumption))))) rfl));exact QA)|(apply GOl_to;(iterate 3 exact rfl);(first|(apply OpTo_res;exact rfl;exact has244;exact textE_c _ kk (by omega);rintro v1 h1 hle1 ⟨A1,c1,rfl,hs1⟩;skip)|(apply OpTo_appendP (f:=true) (n:=1 + (tt.take k).flatten.length) (xs:=(100 :: (tt.take k).flatten).flatMap encB) (s:=bText kk);(iterate 8 exact rfl);exact hs1.le (by first|exact Le.refl _|assumption|(repeat (first|assumption|(apply Le.trans;assumption))));omega;intro v9;exact QR;omega;intro A8 c8;skip)|(apply OpTo_res;exact rfl;exact has213;exact hcon _ (by first|exact Le.refl _|assumption|(repeat (first|assumption|(apply Le.trans;assumption))));rintro v2 h2 hle2 ⟨A2,c2,rfl,hs2⟩;skip)|(apply OpTo_appendP (f:=true) (n:=1 + (tt.take k).flatten.length + (bText kk).length) (xs:=(100 :: (tt.take k).flatten).flatMap encB ++ (bText kk).flatMap encB) (s:=bb);(iterate 8 exact rfl);exact hs2.le (by first|exact Le.refl _|assumption|(repeat (first|assumption|(apply Le.trans;assumption))));exact hp0;intro v9;exact QR;omega;intro A3 c3;skip)))|(apply GO_cond;exact rfl;all_goals (intro hc;try simp only [hcS,reduceCtorEq] at hc;try (exfalso;omega))))
    all_goals (try (exfalso;simp at *;done))
    all_goals
      have h3:=ih (k + 1,A3,c3,h2) ⟨by dsimp only;omega,by dsimp only;exact hle.trans (by first|exact Le.refl _|assumption|(repeat (first|assumption|(apply Le.trans;assumption))))⟩ (by dsimp only;omega)
      dsimp only at h3
      rw [ht,List.flatten_append,List.flatten_singleton,hta1,List.length_append,List.length_append,← Nat.add_assoc,← Nat.add_assoc,← List.cons_append,List.flatMap_append,List.flatMap_append,← List.append_assoc] at h3
      refine GO_fit QS QT (h3)
  · rw [List.take_of_length_le (by omega)]
    clear ih
    repeat' (first|apply GO_seq|apply GO_region|apply GOl_nil|(apply GO_exit;exact rfl)|(apply GOl_pv;(iterate 3 exact rfl))|(apply GOl_load;exact rfl;exact Ld_blk rfl QM rfl;exact rfl;exact rfl)|(apply GOl_to;(iterate 3 exact rfl);(first|(apply OpTo_buildSliceS (enc:=encB) (n:=1) [(101 : UInt8)];(iterate 3 exact rfl);exact List.cons_ne_nil _ _;(iterate 4 exact rfl);exact (fun _ => rfl);exact rfl;exact rfl;intro b3 h3 hle3 hs3;skip)|(apply OpTo_appendP (f:=true) (n:=1 + tt.flatten.length) (xs:=(100 :: tt.flatten).flatMap encB) (s:=[(101 : UInt8)]);(iterate 8 exact rfl);exact hs3.le (by first|exact Le.refl _|assumption|(repeat (first|assumption|(apply Le.trans;assumption))));omega;intro v9;exact QR;omega;intro A3 c3;skip)))|(apply GO_cond;exact rfl;all_goals (intro hc;try simp only [hcS,reduceCtorEq] at hc;try (exfalso;omega))))
    have e8 : (100 :: tt.flatten).flatMap encB ++ [(101 : UInt8)].flatMap encB = (bDict ks bss).flatMap encB:=by unfold bDict;rw [hfm];simp only [List.flatMap_cons,List.flatMap_append,List.append_assoc,List.flatMap_nil,List.append_nil,List.nil_append]
    have e9 : 1 + tt.flatten.length + 1 = (bDict ks bss).length:=by omega
    rw [e8,e9]
    refine GO_relQ8 (f:=true) (l8:=bDict ks bss) (n:=(bDict ks bss).length) (e:=5) rfl QK ?_
    intro A9 c9 h9 hle9 eq9 hnc hs9
    injection eq9 with e91 _ e93
    subst e91;subst e93
    exact GO_retR1 rfl rfl rfl ⟨_,_,rfl,hs9⟩
theorem VEnc.pos {d : Nat} {h : Ro} {v : Va} {bs : List UInt8} (e : VEnc d h v bs) : 0 < bs.length:=by
  cases d with
  | zero => exact e.elim
  | succ d =>
    rcases e with ⟨m,rfl,hm,rfl⟩|⟨s,rfl,rfl⟩|⟨L,vs,bss,rfl,e2,e3,e4,rfl⟩|⟨L,K,vs,bss,ks,rfl,e2,e3,e4,e5,e6,e7,rfl⟩
    · unfold bInt;simp
    · unfold bText;simp only [List.length_append,List.length_cons];omega
    · unfold bSeq;simp
    · unfold bDict;simp
theorem zip_pos {d : Nat} {h : Ro} {vs : List Va} {bss : List (List UInt8)} (z : Zip7 (VEnc d h) vs bss) : ∀ b ∈ bss,0 < b.length:=fun b hb => by
  obtain ⟨k,hk,rfl⟩:=List.getElem_of_mem hb
  have hk2 : k < vs.length:=z.1 ▸ hk
  exact (z.2 k vs[k] bss[k] (List.getElem?_eq_getElem hk2) (List.getElem?_eq_getElem hk)).pos
theorem en_ok : ∀ d,EnOk d
  | 0 => fun h v bs hv _ => hv.elim
  | d + 1 => fun h v bs hv hb => by
    rcases hv with ⟨m,rfl,hm,rfl⟩|⟨s,rfl,rfl⟩|⟨L,vs,bss,rfl,e2,e3,e4,rfl⟩|⟨L,K,vs,bss,ks,rfl,e2,e3,e4,e5,e6,e7,rfl⟩
    · exact encR1_c h m hm
    · exact encR2_c h s (by unfold bText at hb;simp at hb;omega)
    · exact encR3_c d (en_ok d) h L vs bss e2 e3 e4 hb (zip_pos e3)
    · exact encR4_c d (en_ok d) h L K vs bss ks e2 e3 e4 e5 e7 hb (zip_pos e3)
theorem encodeR_c (h : Ro) (d : Nat) (hd : d ≤ 16) (v : Va) (bs : List UInt8) (hv : VEnc d h v bs) (hb : bs.length ≤ 500000000) : Res Tryz.prog 142 #[vaV v] h fun u h' => ∃ A c,u = .tuple #[.slice A bs.length c,.int .i64 0] ∧ SlOf encB 1 h' A bs.length bs:=by
  refine Res_intro (args:=[_]) ts_ok Go.Proofs.Tryz.func142 rfl rfl fun w0 X0 => ?_
  repeat' (first|apply GO_seq|apply GO_skip|apply GO_region|apply GOl_nil|(apply GOl_pv;(iterate 3 exact rfl))|(apply GOl_load;exact rfl;exact Ld_blk rfl QM rfl;exact rfl;exact rfl)|(apply GOl_to;(iterate 3 exact rfl);(first|(apply OpTo_box;exact rfl;intro b;skip)|(apply OpTo_res;exact rfl;exact has212;exact checkVR_c _ d hd v bs (hv.le (by first|exact Le.refl _|assumption|(repeat (first|assumption|(apply Le.trans;assumption)))));rintro v1 h1 hle1 rfl;skip)|(apply OpTo_res;exact rfl;exact has213;exact en_ok d _ v bs (hv.le (by first|exact Le.refl _|assumption|(repeat (first|assumption|(apply Le.trans;assumption))))) hb;rintro v2 h2 hle2 ⟨A2,c2,rfl,hs2⟩;skip)))|(apply GO_cond;exact rfl;all_goals (intro hc;try simp only [hcS,reduceCtorEq] at hc;try (exfalso;omega))))
  all_goals first
    | (exfalso;omega)
    | (exact GO_retR2 rfl rfl rfl rfl ⟨_,_,rfl,hs2⟩)
end Go.Hw

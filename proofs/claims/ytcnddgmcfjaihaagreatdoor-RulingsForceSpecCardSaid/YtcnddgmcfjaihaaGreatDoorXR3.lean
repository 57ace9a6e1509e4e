import Derived.Test.YtcnddgmcfjaihaaGreatDoorGB
import Derived.Test.YtcnddgmcfjaihaaGreatDoorRA
set_option linter.unusedVariables false
set_option linter.unusedSimpArgs false
set_option maxRecDepth 100000
set_option maxHeartbeats 4000000
namespace Go.Hw
open Go
attribute [local irreducible] GO GOl GDp Val Fn Res CellsAt ValE Blk OwnS MapA OwnPf Has
open Go.Proofs (Tryz.prog)
theorem intRV_c (h : Ro) (n : Int) : Val Tryz.prog 131 #[.int .i64 n] h (vaV (vaInt n)):=by
  refine Val_intro (args:=[_]) ts_ok Go.Proofs.Tryz.func131 rfl rfl fun w0 X0 => ?_
  repeat' (first|apply GO_seq|apply GO_region|apply GOl_nil|(apply GOl_pv;(iterate 3 exact rfl))|(apply GOl_to;(iterate 3 exact rfl);(first|(apply OpTo_store;(iterate 3 exact rfl);exact QR;(iterate 3 exact rfl);skip)|(apply OpTo_alloc;exact rfl;intro b;skip))))
  exact GO_retC1 rfl rfl rfl QM rfl rfl rfl
theorem listRV_c (h : Ro) (A : Option Addr) (n c : Nat) : Val Tryz.prog 183 #[.slice A n c] h (vaV (vaList A n c)):=by
  refine Val_intro (args:=[_]) ts_ok Go.Proofs.Tryz.func183 rfl rfl fun w0 X0 => ?_
  repeat' (first|apply GO_seq|apply GO_region|apply GOl_nil|(apply GOl_pv;(iterate 3 exact rfl))|(apply GOl_to;(iterate 3 exact rfl);(first|(apply OpTo_store;(iterate 3 exact rfl);exact QR;(iterate 3 exact rfl);skip)|(apply OpTo_alloc;exact rfl;intro b;skip))))
  exact GO_retC1 rfl rfl rfl QM rfl rfl rfl
theorem textRV_c (h : Ro) (s : List UInt8) : Val Tryz.prog 185 #[.string (str s)] h (vaV (vaText s)):=by
  refine Val_intro (args:=[_]) ts_ok Go.Proofs.Tryz.func185 rfl rfl fun w0 X0 => ?_
  repeat' (first|apply GO_seq|apply GO_region|apply GOl_nil|(apply GOl_pv;(iterate 3 exact rfl))|(apply GOl_to;(iterate 3 exact rfl);(first|(apply OpTo_store;(iterate 3 exact rfl);exact QR;(iterate 3 exact rfl);skip)|(apply OpTo_alloc;exact rfl;intro b;skip))))
  exact GO_retC1 rfl rfl rfl QM rfl rfl rfl
theorem truthR_c (h : Ro) (b : Bool) : Val Tryz.prog 188 #[.bool b] h (.int .i64 (if b then 1 else 0)):=by
  refine Val_intro (args:=[_]) ts_ok Go.Proofs.Tryz.func188 rfl rfl fun w0 X0 => ?_
  repeat' (first|apply GO_seq|apply GO_skip|apply GO_region|apply GOl_nil|(apply GOl_pv;(iterate 3 exact rfl))|(apply GO_cond;exact rfl;all_goals (intro hc;try simp only [hcS,reduceCtorEq] at hc;try (exfalso;omega)))|(apply GO_retV1;(iterate 3 exact rfl)))
  all_goals (subst hc;rfl)
theorem intsR_c (h : Ro) (A : Option Addr) (n c : Nat) (l : List Int) (hx : SlOf encI 1 h A n l) (hn : n ≤ 1000000) : Fn Tryz.prog 184 #[.slice A n c] [] h (numsPost l):=by
  refine Fn_intro (args:=[_]) ts_ok Go.Proofs.Tryz.func184 rfl rfl fun w0 X0 => ?_
  have hlen:=hx.len
  repeat' (first|apply GO_seq|apply GO_block|apply GO_region|apply GOl_nil|(apply GOl_pv;(iterate 3 exact rfl))|(apply GOl_to;(iterate 3 exact rfl);(first|(apply OpTo_store;(iterate 3 exact rfl);exact QR;(iterate 3 exact rfl);skip)|(apply OpTo_alloc;exact rfl;intro b;skip))))
  rename_i b2
  generalize b = b3
  refine GO_nilS 142 5 ?_
  refine GO_loopT (X:=Nat × Option Addr × Nat × Ro) (fun x => x.1 ≤ n ∧ Le h x.2.2.2) (fun x => n - x.1)
    (fun x => [(4,.int .i64 x.1),(0,.slice A n c),(3,.pointer (some ⟨b3,0,none⟩)),(2,.pointer (some ⟨b2,0,none⟩))])
    (fun x => [Blk b3 142 (vaC (vaList x.2.1 x.1 x.2.2.1)),OwnS 142 5 (.slice x.2.1 x.1 x.2.2.1) x.1 (((l.take x.1).map vaInt).flatMap vaC),Blk b2 142 (vaC va0)]) (fun x => x.2.2.2) (0,none,0,h) ⟨by dsimp only;omega,Le.refl _⟩ QS QT rfl ?_
  rintro ⟨k,A1,c1,hh⟩ ⟨hk,hle⟩ ih
  dsimp only at hk hle ih ⊢
  by_cases hkn : k < n
  · have a1:=hx.addrD hkn
    have cc:=(hx.cellsD 0 hkn).le hle
    have ht:=take7 0 hlen hkn
    generalize l.getD k 0 = u at *
    repeat' (first|apply GO_seq|apply GO_skip|apply GO_inBlock|apply GO_block|apply GO_region|apply GOl_nil|(apply GOl_add;(iterate 3 exact rfl);omega;exact rfl;exact rfl)|(apply GOl_pv;(iterate 3 exact rfl))|(apply GO_drawp (n:=5) [0,1,2,3,4,5,6,7,8,9,10] [(0,0),(1,0),(2,0),(3,0),(4,0),(5,0),(6,1),(7,1),(8,1),(9,0),(10,1)];kernel_rfl)|(apply GP_pv;exact rfl;kernel_rfl;(iterate 3 exact rfl))|(apply GP_loadB;exact rfl;kernel_rfl;(iterate 3 exact rfl);exact QM;exact rfl;exact rfl)|(apply GP_ov;exact rfl;kernel_rfl;exact rfl;exact rfl;(first|(apply OV_idxS (j:=k);(iterate 5 exact rfl);exact a1;(with_reducible exact rfl);omega)|(apply OV_load;exact rfl;exact Lv_ro rfl cc rfl));exact QA)|(apply GP_real;exact rfl;kernel_rfl;(iterate 3 exact rfl);(first|(apply OpTo_store;(iterate 3 exact rfl);exact QR;(iterate 3 exact rfl);refine ⟨Le.refl _,QN,?_⟩)|(apply OpTo_buildSliceS (enc:=vaC) (n:=1) [vaInt u];(iterate 3 exact rfl);exact List.cons_ne_nil _ _;(iterate 4 exact rfl);exact vaC_len;exact rfl;exact rfl;intro b1 h1 hle1 hs1;refine ⟨hle1,QN,?_⟩)|(apply OpTo_appendS (enc:=vaC) (xs:=(l.take k).map vaInt);(iterate 7 exact rfl);exact hs1;exact vaC_len;exact vaC_one;intro v1;exact QR;omega;exact rfl;intro A2 c2;refine ⟨Le.refl _,QN,?_⟩)|(apply OpTo_val;exact rfl;exact has131;exact intRV_c _ _;refine ⟨Le.refl _,QN,?_⟩)))|(apply GP_done;kernel_rfl;exact rfl)|(apply GO_cond;exact rfl;all_goals (intro hc;try simp only [hcS,reduceCtorEq] at hc;try (exfalso;omega))))
    all_goals
      have h3:=ih (k + 1,A2,c2,h1) ⟨by dsimp only;omega,by dsimp only;exact hle.trans hle1⟩ (by dsimp only;omega)
      dsimp only at h3
      rw [ht,List.map_append] at h3
      refine GO_fit QS QT (h3)
  · rw [List.take_of_length_le (by omega)]
    clear ih
    have hkk : k = l.length:=by omega
    subst hkk
    repeat' (first|apply GO_seq|apply GO_region|apply GOl_nil|(apply GO_exit;exact rfl)|(apply GOl_pv;(iterate 3 exact rfl))|(apply GOl_load;exact rfl;exact Ld_blk rfl QM rfl;exact rfl;exact rfl)|(apply GOl_to;(iterate 3 exact rfl);(first|(apply OpTo_store;(iterate 3 exact rfl);exact QR;(iterate 3 exact rfl);skip)))|(apply GO_cond;exact rfl;all_goals (intro hc;try simp only [hcS,reduceCtorEq] at hc;try (exfalso;omega))))
    exact GO_retS (rs:=[.cell 2 142]) (vs:=[vaV (vaList A1 l.length c1)]) rfl rfl ⟨⟨_,rfl,Ld_blk rfl QM rfl⟩,trivial⟩ (.cons _ (.cons_cons _ (List.nil_sublist _))) ⟨A1,c1,rfl,rfl⟩
theorem intsRR_c (h : Ro) (A : Option Addr) (n c : Nat) (l : List Int) (hx : SlOf encI 1 h A n l) (hn : n ≤ 1000000) : Res Tryz.prog 184 #[.slice A n c] h fun u h' => ∃ A' c',u = vaV (vaList A' l.length c') ∧ SlOf vaC 5 h' A' l.length (l.map vaInt):=by
  unfold Res
  exact Fn_free (intsR_c h A n c l hx hn) fun v Es h' hle ⟨A',c',e1,e2⟩ => ⟨_,_,e2,fun D h'' hl hD => by
    obtain ⟨A2,c2,e3,hs⟩:=OwnS_free vaC_len (by simp) hD
    injection e3 with e31 _ e33
    subst e31;subst e33
    exact ⟨rfl,A',c',e1,hs⟩⟩
theorem intsRV_c {d : Nat} (h : Ro) (A : Option Addr) (n c : Nat) (l : List Int) (hx : SlOf encI 1 h A n l) (hn : n ≤ 1000000) (hl : ∀ x ∈ l,I64 x) : Res Tryz.prog 184 #[.slice A n c] h (VR (d + 2) (bNums l)) :=
  (intsRR_c h A n c l hx hn).mono fun v h' _ ⟨A',c',e1,e2⟩ => ⟨_,e1,venc_nums e2 hl (by have:=hx.len;omega)⟩
theorem gameRV_c {d : Nat} (h : Ro) (g : FGame) (hg : GameI g) : Res Tryz.prog 186 #[gameV g] h (VR (d + 2) (bNums (gameL g))):=by
  refine Res_intro (args:=[_]) ts_ok Go.Proofs.Tryz.func186 rfl rfl fun w0 X0 => ?_
  repeat' (first|apply GO_seq|apply GO_region|apply GOl_nil|(apply GOl_pv;(iterate 3 exact rfl))|(apply GOl_load;exact rfl;exact Ld_blk rfl QM rfl;exact rfl;exact rfl)|(apply GOl_to;(iterate 3 exact rfl);(first|(apply OpTo_store;(iterate 3 exact rfl);exact QR;(iterate 3 exact rfl);skip)|(apply OpTo_box;exact rfl;intro b;skip)|(apply OpTo_alloc;exact rfl;intro b;skip)|(apply OpTo_buildSliceR (cs:=(gameL g).map fun i => .int .i64 i);(iterate 3 exact rfl);exact List.cons_ne_nil _ _;(iterate 4 exact rfl);intro b1 h1 hle1 hcs1;skip)|(apply OpTo_res;exact rfl;exact has184;exact intsRV_c (d:=d) _ _ 4 4 (gameL g) (SlOf_ints hcs1) (by omega) (gameI_all hg);rintro v2 h2 hle2 ⟨v,rfl,hv⟩;skip))))
  exact GO_retRC1 rfl rfl rfl QM rfl rfl ⟨v,rfl,hv⟩
theorem shownRV_c {d : Nat} (h : Ro) (A : Option Addr) (n c : Nat) (l : List FCard) (hx : SlOf encC 2 h A n l) (hn : n ≤ 1000000) (hl : ∀ c ∈ l,I64 c.p) : Res Tryz.prog 187 #[.slice A n c] h (VR (d + 3) (bCards l)):=by
  refine Res_intro (args:=[_]) ts_ok Go.Proofs.Tryz.func187 rfl rfl fun w0 X0 => ?_
  have hlen:=hx.len
  repeat' (first|apply GO_seq|apply GO_block|apply GO_region|apply GOl_nil|(apply GOl_pv;(iterate 3 exact rfl))|(apply GOl_to;(iterate 3 exact rfl);(first|(apply OpTo_store;(iterate 3 exact rfl);exact QR;(iterate 3 exact rfl);skip)|(apply OpTo_alloc;exact rfl;intro b;skip)|(apply OpTo_val;exact rfl;exact has183;exact listRV_c _ _ _ _;skip))))
  rename_i b2
  generalize b = b3
  refine GO_nilS 142 5 ?_
  refine GO_loopT (X:=Nat × List Va × Option Addr × Nat × Ro) (fun x => x.1 ≤ n ∧ x.2.1.length = x.1 ∧ Le h x.2.2.2.2 ∧ Zip7 (VEnc (d + 2) x.2.2.2.2) x.2.1 ((l.take x.1).map fun c => bNums (cardL c))) (fun x => n - x.1)
    (fun x => [(4,.int .i64 x.1),(0,.slice A n c),(3,.pointer (some ⟨b3,0,none⟩)),(2,.pointer (some ⟨b2,0,none⟩))])
    (fun x => [Blk b3 142 (vaC (vaList x.2.2.1 x.1 x.2.2.2.1)),OwnS 142 5 (.slice x.2.2.1 x.1 x.2.2.2.1) x.1 (x.2.1.flatMap vaC),Blk b2 142 (vaC va0)]) (fun x => x.2.2.2.2) (0,[],none,0,h) ⟨by dsimp only;omega,rfl,Le.refl _,⟨rfl,fun i a b h1 => by simp at h1⟩⟩ QS QT rfl ?_
  rintro ⟨k,vs,A1,c1,hh⟩ ⟨hk,hvl,hle,hz⟩ ih
  dsimp only at hk hvl hle hz ih ⊢
  by_cases hkn : k < n
  · have a1:=hx.addrD hkn
    have cc:=(hx.cellsD card0 hkn).le hle
    have ht:=take7 card0 hlen hkn
    have hc0:=card_all _ (hl _ (mem7 card0 (show k < l.length by omega)))
    generalize l.getD k card0 = u at *
    repeat' (first|apply GO_seq|apply GO_skip|apply GO_inBlock|apply GO_block|apply GO_region|apply GOl_nil|(apply GOl_add;(iterate 3 exact rfl);omega;exact rfl;exact rfl)|(apply GOl_pv;(iterate 3 exact rfl))|(apply GO_drawp (n:=5) [0,1,2,3,4,5,6,7,8,9,10,11,12,13,14,15,16,17,18] [(0,0),(1,0),(2,0),(3,0),(4,0),(5,0),(6,0),(7,0),(8,0),(9,0),(10,0),(11,0),(12,1),(13,1),(14,1),(15,1),(16,1),(17,0),(18,1)];kernel_rfl)|(apply GP_pv;exact rfl;kernel_rfl;(iterate 3 exact rfl))|(apply GP_loadB;exact rfl;kernel_rfl;(iterate 3 exact rfl);exact QM;exact rfl;exact rfl)|(apply GP_ov;exact rfl;kernel_rfl;exact rfl;exact rfl;(first|(apply OV_idxS (j:=k);(iterate 5 exact rfl);exact a1;(with_reducible exact rfl);omega)|(apply OV_load;exact rfl;exact Lv_ro rfl cc rfl)|(apply OV_load;exact rfl;first|exact Lv_ro rfl (by assumption) rfl|exact Lv_roF rfl (by assumption) rfl|exact Lv_roF2 rfl (by assumption) rfl|exact Lv_roF3 rfl (by assumption) rfl));exact QA)|(apply GP_real;exact rfl;kernel_rfl;(iterate 3 exact rfl);(first|(apply OpTo_store;(iterate 3 exact rfl);exact QR;(iterate 3 exact rfl);refine ⟨Le.refl _,QN,?_⟩)|(apply OpTo_buildSliceR (e:=3) (cs:=(cardL u).map fun i => .int .i64 i);(iterate 3 exact rfl);exact List.cons_ne_nil _ _;(iterate 4 exact rfl);intro b1 h1 hle1 hcs1;refine ⟨hle1,QN,?_⟩)|(apply OpTo_res;exact rfl;exact has184;exact intsRV_c (d:=d) _ _ 2 2 (cardL u) (SlOf_ints hcs1) (by omega) hc0;rintro v2 h2 hle2 ⟨v,rfl,hv⟩;refine ⟨hle2,QN,?_⟩)|(apply OpTo_buildSliceS (enc:=vaC) (n:=1) [v];(iterate 3 exact rfl);exact List.cons_ne_nil _ _;(iterate 4 exact rfl);exact vaC_len;exact rfl;exact rfl;intro b4 h4 hle4 hs4;refine ⟨hle4,QN,?_⟩)|(apply OpTo_appendS (enc:=vaC) (xs:=vs);(iterate 7 exact rfl);exact hs4;exact vaC_len;exact vaC_one;intro v1;exact QR;omega;exact rfl;intro A2 c2;refine ⟨Le.refl _,QN,?_⟩)|(apply OpTo_val;exact rfl;exact has188;exact truthR_c _ _;refine ⟨Le.refl _,QN,?_⟩)))|(apply GP_done;kernel_rfl;exact rfl)|(apply GO_cond;exact rfl;all_goals (intro hc;try simp only [hcS,reduceCtorEq] at hc;try (exfalso;omega))))
    all_goals
      have h3:=ih (k + 1,vs ++ [v],A2,c2,h4) ⟨by dsimp only;omega,by simp [hvl],by dsimp only;exact hle.trans (by first|exact Le.refl _|assumption|(repeat (first|assumption|(apply Le.trans;assumption)))),by
        dsimp only;rw [ht,List.map_append];exact (hz.imp fun a b q => q.le (by first|exact Le.refl _|assumption|(repeat (first|assumption|(apply Le.trans;assumption))))).snoc (hv.le hle4)⟩ (by dsimp only;omega)
      dsimp only at h3
      refine GO_fit QS QT (h3)
  · rw [List.take_of_length_le (by omega)] at hz
    clear ih
    have hkk : k = n:=by omega
    subst hkk
    repeat' (first|apply GO_seq|apply GO_region|apply GOl_nil|(apply GO_exit;exact rfl)|(apply GOl_pv;(iterate 3 exact rfl))|(apply GOl_load;exact rfl;exact Ld_blk rfl QM rfl;exact rfl;exact rfl)|(apply GOl_to;(iterate 3 exact rfl);(first|(apply OpTo_store;(iterate 3 exact rfl);exact QR;(iterate 3 exact rfl);skip)))|(apply GO_cond;exact rfl;all_goals (intro hc;try simp only [hcS,reduceCtorEq] at hc;try (exfalso;omega))))
    refine GO_relS (enc:=vaC) (xs:=vs) vaC_len hvl QK ?_
    intro A2 c2 h4 hle4 e2 hs4
    injection e2 with e21 _ e23
    subst e21;subst e23
    refine GO_retRC1 rfl rfl rfl QM rfl rfl ⟨vaList A1 k c1,rfl,?_⟩
    rw [← bSeq_cards]
    exact venc_list hs4 (hz.imp fun a b q => q.le hle4) hn
end Go.Hw

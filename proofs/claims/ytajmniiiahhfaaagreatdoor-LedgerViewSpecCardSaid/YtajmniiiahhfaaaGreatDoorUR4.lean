import Derived.Test.YtajmniiiahhfaaaGreatDoorUR3
import Derived.Test.YtajmniiiahhfaaaGreatDoorGC
import Derived.Test.YtajmniiiahhfaaaGreatDoorHwXd
set_option linter.unusedVariables false
set_option linter.unusedSimpArgs false
set_option maxRecDepth 100000
set_option maxHeartbeats 4000000
namespace Go.Hw
open Go
attribute [local irreducible] GO GOl GDp Val Fn Res CellsAt ValE Blk OwnS MapA OwnPf Has
open Go.Proofs (Tryz.prog)
theorem what1_c (h : Ro) (s : Fsh) (f : Fct) (hf : FAt h s f) (hs : FSm1 f) (e : f.kind = 1) (i1 : I64 f.eS) (i2 : I64 f.eC) (i3 : ∀ x ∈ f.eClubs,I64 x) : Res Tryz.prog 141 #[factV s f] h (VR 5 (bSeq (elemsB f))):=by
  have hxs : elemsB f = [bInt f.eS,bInt f.eC,bNums f.eClubs,bText f.eRules]:=by unfold elemsB;rw [e];rfl
  rw [hxs]
  refine Res_intro (args:=[_]) ts_ok Go.Proofs.Tryz.func141 rfl rfl fun w0 X0 => ?_
  obtain ⟨n1,n2,n3,n4,n5,n6⟩:=hf.small1 hs
  repeat' (first|apply GO_seq|apply GO_block|apply GO_region|apply GOl_nil|(apply GOl_pv;(iterate 3 exact rfl))|(apply GOl_load;exact rfl;exact Ld_blk rfl QM rfl;exact rfl;exact rfl)|(apply GOl_to;(iterate 3 exact rfl);(first|(apply OpTo_store;(iterate 3 exact rfl);exact QR;(iterate 3 exact rfl);skip)|(apply OpTo_box;exact rfl;intro b;skip)|(apply OpTo_alloc;exact rfl;intro b;skip)))|(apply GO_drawp (n:=4) [0,1,2,3,4,5,6,7,8,9,10,11,12,13,14] [(0,0),(1,0),(3,0),(4,0),(6,0),(7,0),(9,0),(10,0),(2,1),(5,1),(8,1),(11,1),(12,1),(13,1),(14,1)];kernel_rfl)|(apply GP_pv;exact rfl;kernel_rfl;(iterate 3 exact rfl))|(apply GP_loadB;exact rfl;kernel_rfl;(iterate 3 exact rfl);exact QM;exact rfl;exact rfl)|(apply GP_real;exact rfl;kernel_rfl;(iterate 3 exact rfl);(first|(apply OpTo_store;(iterate 3 exact rfl);exact QR;(iterate 3 exact rfl);refine ⟨Le.refl _,QN,?_⟩)|(apply OpTo_res;exact rfl;exact has207;exact intsRV_c (d:=2) _ _ _ _ f.eClubs (hf.cl.le (by first|exact Le.refl _|assumption|(repeat (first|assumption|(apply Le.trans;assumption))))) (by omega) i3;rintro wa ha hlea ⟨va,rfl,hva⟩;refine ⟨hlea,QN,?_⟩)|(apply OpTo_buildSliceS (enc:=vaC) (n:=4) [vaInt f.eS,vaInt f.eC,va,vaText f.eRules];(iterate 3 exact rfl);exact List.cons_ne_nil _ _;(iterate 4 exact rfl);exact vaC_len;exact rfl;exact rfl;intro bz hz hlebz hsl;refine ⟨hlebz,QN,?_⟩)|(apply OpTo_val;exact rfl;exact has140;exact intRV_c _ _;refine ⟨Le.refl _,QN,?_⟩)|(apply OpTo_val;exact rfl;exact has208;exact textRV_c _ _;refine ⟨Le.refl _,QN,?_⟩)|(apply OpTo_val;exact rfl;exact has206;exact listRV_c _ _ _ _;refine ⟨Le.refl _,QN,?_⟩)))|(apply GP_done;kernel_rfl;exact rfl)|(apply GO_cond;exact rfl;all_goals (intro hc;try simp only [hcS,reduceCtorEq] at hc;try (exfalso;omega))))
  all_goals (try (exfalso;omega))
  all_goals
    refine GO_retRC1 rfl rfl rfl QM rfl rfl ⟨vaList (some ⟨bz,0,none⟩) 4 4,rfl,venc_list (hsl) (Zip7.cons (venc_int i1) (Zip7.cons (venc_int i2) (Zip7.cons (hva.le (by first|exact Le.refl _|assumption|(repeat (first|assumption|(apply Le.trans;assumption))))) (Zip7.cons (venc_text) (Zip7.nil))))) (by omega)⟩
theorem what2_c (h : Ro) (s : Fsh) (f : Fct) (hf : FAt h s f) (hs : FSm1 f) (e : f.kind = 2) (i1 : GameI f.fg) (i2 : I64 f.venue) : Res Tryz.prog 141 #[factV s f] h (VR 5 (bSeq (elemsB f))):=by
  have hxs : elemsB f = [bNums (gameL f.fg),bInt f.venue]:=by unfold elemsB;rw [e];rfl
  rw [hxs]
  refine Res_intro (args:=[_]) ts_ok Go.Proofs.Tryz.func141 rfl rfl fun w0 X0 => ?_
  obtain ⟨n1,n2,n3,n4,n5,n6⟩:=hf.small1 hs
  repeat' (first|apply GO_seq|apply GO_block|apply GO_region|apply GOl_nil|(apply GOl_pv;(iterate 3 exact rfl))|(apply GOl_load;exact rfl;exact Ld_blk rfl QM rfl;exact rfl;exact rfl)|(apply GOl_to;(iterate 3 exact rfl);(first|(apply OpTo_box;exact rfl;intro b;skip)|(apply OpTo_alloc;exact rfl;intro b;skip)))|(apply GO_drawp (n:=6) [0,1,2,3,4,5,6,7,8,9,10] [(0,0),(1,0),(2,0),(4,0),(5,0),(6,0),(3,1),(7,1),(8,1),(9,1),(10,1)];kernel_rfl)|(apply GP_pv;exact rfl;kernel_rfl;(iterate 3 exact rfl))|(apply GP_loadB;exact rfl;kernel_rfl;(iterate 3 exact rfl);exact QM;exact rfl;exact rfl)|(apply GP_real;exact rfl;kernel_rfl;(iterate 3 exact rfl);(first|(apply OpTo_store;(iterate 3 exact rfl);exact QR;(iterate 3 exact rfl);refine ⟨Le.refl _,QN,?_⟩)|(apply OpTo_res;exact rfl;exact has209;exact gameRV_c (d:=2) _ f.fg i1;rintro wa ha hlea ⟨va,rfl,hva⟩;refine ⟨hlea,QN,?_⟩)|(apply OpTo_buildSliceS (enc:=vaC) (n:=2) [va,vaInt f.venue];(iterate 3 exact rfl);exact List.cons_ne_nil _ _;(iterate 4 exact rfl);exact vaC_len;exact rfl;exact rfl;intro bz hz hlebz hsl;refine ⟨hlebz,QN,?_⟩)|(apply OpTo_val;exact rfl;exact has140;exact intRV_c _ _;refine ⟨Le.refl _,QN,?_⟩)|(apply OpTo_val;exact rfl;exact has206;exact listRV_c _ _ _ _;refine ⟨Le.refl _,QN,?_⟩)))|(apply GP_done;kernel_rfl;exact rfl)|(apply GO_cond;exact rfl;all_goals (intro hc;try simp only [hcS,reduceCtorEq] at hc;try (exfalso;omega))))
  all_goals (try (exfalso;omega))
  all_goals
    refine GO_retRC1 rfl rfl rfl QM rfl rfl ⟨vaList (some ⟨bz,0,none⟩) 2 2,rfl,venc_list (hsl) (Zip7.cons (hva.le (by first|exact Le.refl _|assumption|(repeat (first|assumption|(apply Le.trans;assumption))))) (Zip7.cons (venc_int i2) (Zip7.nil))) (by omega)⟩
theorem what3_c (h : Ro) (s : Fsh) (f : Fct) (hf : FAt h s f) (hs : FSm1 f) (e : f.kind = 3) (i1 : GameI f.sh.g) (i2 : ∀ x ∈ [f.sh.ref,f.sh.hg,f.sh.ag,f.sh.hp,f.sh.ap],I64 x) (i3 : ∀ x ∈ f.sh.hs,I64 x) (i4 : ∀ x ∈ f.sh.asn,I64 x) (i5 : ∀ c ∈ f.sh.hc,I64 c.p) (i6 : ∀ c ∈ f.sh.ac,I64 c.p) : Res Tryz.prog 141 #[factV s f] h (VR 5 (bSeq (elemsB f))):=by
  have hxs : elemsB f = [bNums (gameL f.sh.g),bInt f.sh.ref,bInt f.sh.hg,bInt f.sh.ag,bInt f.sh.hp,bInt f.sh.ap,bNums f.sh.hs,bNums f.sh.asn,bCards f.sh.hc,bCards f.sh.ac]:=by unfold elemsB;rw [e];rfl
  rw [hxs]
  refine Res_intro (args:=[_]) ts_ok Go.Proofs.Tryz.func141 rfl rfl fun w0 X0 => ?_
  obtain ⟨n1,n2,n3,n4,n5,n6⟩:=hf.small1 hs
  repeat' (first|apply GO_seq|apply GO_block|apply GO_region|apply GOl_nil|(apply GOl_pv;(iterate 3 exact rfl))|(apply GOl_load;exact rfl;exact Ld_blk rfl QM rfl;exact rfl;exact rfl)|(apply GOl_to;(iterate 3 exact rfl);(first|(apply OpTo_store;(iterate 3 exact rfl);exact QR;(iterate 3 exact rfl);skip)|(apply OpTo_box;exact rfl;intro b;skip)|(apply OpTo_alloc;exact rfl;intro b;skip)|(apply OpTo_buildSliceR (e:=3) (cs:=[f.sh.ref,f.sh.hg,f.sh.ag,f.sh.hp,f.sh.ap].map fun i => .int .i64 i);(iterate 3 exact rfl);exact List.cons_ne_nil _ _;(iterate 4 exact rfl);intro bi hi hlei hcs1;skip)|(apply OpTo_res;exact rfl;exact has207;exact intsRR_c _ _ 5 5 [f.sh.ref,f.sh.hg,f.sh.ag,f.sh.hp,f.sh.ap] (SlOf_ints (hcs1.le (by first|exact Le.refl _|assumption|(repeat (first|assumption|(apply Le.trans;assumption)))))) (by omega);rintro wn hn hlen ⟨An,cn,rfl,hsn⟩;skip)))|(apply GO_drawp (n:=10) [0,1,2,3,4,5,6,7,8] [(0,0),(1,0),(4,0),(5,0),(2,1),(3,1),(6,1),(7,0),(8,1)];kernel_rfl)|(apply GO_drawp (n:=11) [0,1,2,3,4,5,6,7,8,9,10,11,12,13,14,15,16,17] [(0,0),(1,0),(2,0),(3,0),(5,0),(6,0),(8,0),(9,0),(11,0),(12,0),(4,1),(7,1),(10,1),(13,1),(14,1),(15,1),(16,0),(17,1)];kernel_rfl)|(apply GP_pv;exact rfl;kernel_rfl;(iterate 3 exact rfl))|(apply GP_loadB;exact rfl;kernel_rfl;(iterate 3 exact rfl);exact QM;exact rfl;exact rfl)|(apply GP_real;exact rfl;kernel_rfl;(iterate 3 exact rfl);(first|(apply OpTo_store;(iterate 3 exact rfl);exact QR;(iterate 3 exact rfl);refine ⟨Le.refl _,QN,?_⟩)|(apply OpTo_res;exact rfl;exact has209;exact gameRV_c (d:=2) _ f.sh.g i1;rintro wg hg hleg ⟨vg,rfl,hvg⟩;refine ⟨hleg,QN,?_⟩)|(apply OpTo_buildSliceO (n:=1);(iterate 3 exact rfl);exact List.cons_ne_nil _ _;(iterate 6 exact rfl);intro bo;refine ⟨Le.refl _,QN,?_⟩)|(apply OpTo_appendS (enc:=vaC) (xs:=[vg]) (ys:=[f.sh.ref,f.sh.hg,f.sh.ag,f.sh.hp,f.sh.ap].map vaInt);(iterate 7 exact rfl);exact hsn.le (by first|exact Le.refl _|assumption|(repeat (first|assumption|(apply Le.trans;assumption))));exact vaC_len;exact vaC_one;intro v1;exact QR;(first|omega|simp [vaList]);exact rfl;intro A2 c2;refine ⟨Le.refl _,QN,?_⟩)|(apply OpTo_res;exact rfl;exact has207;exact intsRV_c (d:=2) _ _ _ _ f.sh.hs (hf.sh.hs.le (by first|exact Le.refl _|assumption|(repeat (first|assumption|(apply Le.trans;assumption))))) (by omega) i3;rintro wp hp hlep ⟨vp,rfl,hvp⟩;refine ⟨hlep,QN,?_⟩)|(apply OpTo_res;exact rfl;exact has207;exact intsRV_c (d:=2) _ _ _ _ f.sh.asn (hf.sh.asn.le (by first|exact Le.refl _|assumption|(repeat (first|assumption|(apply Le.trans;assumption))))) (by omega) i4;rintro wq hq hleq ⟨vq,rfl,hvq⟩;refine ⟨hleq,QN,?_⟩)|(apply OpTo_res;exact rfl;exact has210;exact shownRV_c (d:=1) _ _ _ _ f.sh.hc (hf.sh.hc.le (by first|exact Le.refl _|assumption|(repeat (first|assumption|(apply Le.trans;assumption))))) (by omega) i5;rintro wr hr hler ⟨vr,rfl,hvr⟩;refine ⟨hler,QN,?_⟩)|(apply OpTo_res;exact rfl;exact has210;exact shownRV_c (d:=1) _ _ _ _ f.sh.ac (hf.sh.ac.le (by first|exact Le.refl _|assumption|(repeat (first|assumption|(apply Le.trans;assumption))))) (by omega) i6;rintro wt ht hlet ⟨vt,rfl,hvt⟩;refine ⟨hlet,QN,?_⟩)|(apply OpTo_buildSliceS (enc:=vaC) (n:=4) [vp,vq,vr,vt];(iterate 3 exact rfl);exact List.cons_ne_nil _ _;(iterate 4 exact rfl);exact vaC_len;exact rfl;exact rfl;intro bz hz hlebz hs4;refine ⟨hlebz,QN,?_⟩)|(apply OpTo_appendS (enc:=vaC) (xs:=[vg] ++ [f.sh.ref,f.sh.hg,f.sh.ag,f.sh.hp,f.sh.ap].map vaInt) (ys:=[vp,vq,vr,vt]);(iterate 7 exact rfl);exact hs4.le (by first|exact Le.refl _|assumption|(repeat (first|assumption|(apply Le.trans;assumption))));exact vaC_len;exact vaC_one;intro v1;exact QR;(first|omega|simp [vaList]);exact rfl;intro A3 c3;refine ⟨Le.refl _,QN,?_⟩)))|(apply GP_done;kernel_rfl;exact rfl)|(apply GO_cond;exact rfl;all_goals (intro hc;try simp only [hcS,reduceCtorEq] at hc;try (exfalso;omega))))
  all_goals (try (exfalso;omega))
  all_goals
    refine GO_relS (enc:=vaC) (xs:=([vg] ++ [f.sh.ref,f.sh.hg,f.sh.ag,f.sh.hp,f.sh.ap].map vaInt ++ [vp,vq,vr,vt])) vaC_len rfl QK ?_
    intro A7 c7 h7 hle7 e7 hsl
    injection e7 with e71 _ e73
    subst e71;subst e73
    refine GO_retRC1 rfl rfl rfl QM rfl rfl ⟨vaList A3 10 c3,rfl,venc_list (hsl) (Zip7.cons (hvg.le (by first|exact Le.refl _|assumption|(repeat (first|assumption|(apply Le.trans;assumption))))) (Zip7.cons (venc_int (i2 _ (by simp))) (Zip7.cons (venc_int (i2 _ (by simp))) (Zip7.cons (venc_int (i2 _ (by simp))) (Zip7.cons (venc_int (i2 _ (by simp))) (Zip7.cons (venc_int (i2 _ (by simp))) (Zip7.cons (hvp.le (by first|exact Le.refl _|assumption|(repeat (first|assumption|(apply Le.trans;assumption))))) (Zip7.cons (hvq.le (by first|exact Le.refl _|assumption|(repeat (first|assumption|(apply Le.trans;assumption))))) (Zip7.cons (hvr.le (by first|exact Le.refl _|assumption|(repeat (first|assumption|(apply Le.trans;assumption))))) (Zip7.cons (hvt.le (by first|exact Le.refl _|assumption|(repeat (first|assumption|(apply Le.trans;assumption))))) (Zip7.nil))))))))))) (by omega)⟩
theorem what4_c (h : Ro) (s : Fsh) (f : Fct) (hf : FAt h s f) (hs : FSm1 f) (e : f.kind = 4) (i1 : GameI f.ru.g) (i2 : ∀ x ∈ [f.ru.case,f.ru.inst,f.ru.kind],I64 x) (i3 : ∀ x ∈ [f.ru.club,f.ru.player,f.ru.season,f.ru.comp,f.ru.points,f.ru.amount,f.ru.hg,f.ru.ag,f.ru.lo,f.ru.hi],I64 x) : Res Tryz.prog 141 #[factV s f] h (VR 5 (bSeq (elemsB f))):=by
  have hxs : elemsB f = [bInt f.ru.case,bInt f.ru.inst,bInt f.ru.kind,bNums (gameL f.ru.g),bInt f.ru.club,bInt f.ru.player,bInt f.ru.season,bInt f.ru.comp,bInt f.ru.points,bInt f.ru.amount,bInt f.ru.hg,bInt f.ru.ag,bInt f.ru.lo,bInt f.ru.hi]:=by unfold elemsB;rw [e];rfl
  rw [hxs]
  refine Res_intro (args:=[_]) ts_ok Go.Proofs.Tryz.func141 rfl rfl fun w0 X0 => ?_
  obtain ⟨n1,n2,n3,n4,n5,n6⟩:=hf.small1 hs
  repeat' (first|apply GO_seq|apply GO_block|apply GO_region|apply GOl_nil|(apply GOl_pv;(iterate 3 exact rfl))|(apply GOl_load;exact rfl;exact Ld_blk rfl QM rfl;exact rfl;exact rfl)|(apply GOl_to;(iterate 3 exact rfl);(first|(apply OpTo_store;(iterate 3 exact rfl);exact QR;(iterate 3 exact rfl);skip)|(apply OpTo_box;exact rfl;intro b;skip)|(apply OpTo_alloc;exact rfl;intro b;skip)|(apply OpTo_buildSliceR (e:=3) (cs:=[f.ru.case,f.ru.inst,f.ru.kind].map fun i => .int .i64 i);(iterate 3 exact rfl);exact List.cons_ne_nil _ _;(iterate 4 exact rfl);intro bi hi hlei hcs1;skip)|(apply OpTo_callP;exact rfl;exact has207;exact intsR_c _ _ 3 3 [f.ru.case,f.ru.inst,f.ru.kind] (SlOf_ints (hcs1.le (by first|exact Le.refl _|assumption|(repeat (first|assumption|(apply Le.trans;assumption)))))) (by omega);exact QT;rintro wn En hn hlen ⟨An,cn,rfl,rfl⟩;skip)))|(apply GO_drawp (n:=16) [0,1,2,3,4,5,6,7,8] [(0,0),(1,0),(2,0),(3,0),(4,1),(5,1),(6,1),(7,0),(8,1)];kernel_rfl)|(apply GO_drawp (n:=17) [0,1,2,3,4,5,6,7,8,9,10,11,12,13,14,15,16,17,18,19,20,21,22,23,24,25,26,27,28,29] [(0,0),(1,0),(2,0),(3,0),(4,0),(5,0),(6,0),(7,0),(8,0),(9,0),(10,0),(11,0),(12,0),(13,0),(14,0),(15,0),(16,0),(17,0),(18,0),(19,0),(20,0),(21,0),(22,0),(23,0),(24,1),(25,1),(26,0),(27,1),(28,0),(29,1)];kernel_rfl)|(apply GP_pv;exact rfl;kernel_rfl;(iterate 3 exact rfl))|(apply GP_loadB;exact rfl;kernel_rfl;(iterate 3 exact rfl);exact QM;exact rfl;exact rfl)|(apply GP_real;exact rfl;kernel_rfl;(iterate 3 exact rfl);(first|(apply OpTo_store;(iterate 3 exact rfl);exact QR;(iterate 3 exact rfl);refine ⟨Le.refl _,QN,?_⟩)|(apply OpTo_res;exact rfl;exact has209;exact gameRV_c (d:=2) _ f.ru.g i1;rintro wg hg hleg ⟨vg,rfl,hvg⟩;refine ⟨hleg,QN,?_⟩)|(apply OpTo_buildSliceR (e:=3) (cs:=[f.ru.club,f.ru.player,f.ru.season,f.ru.comp,f.ru.points,f.ru.amount,f.ru.hg,f.ru.ag,f.ru.lo,f.ru.hi].map fun i => .int .i64 i);(iterate 3 exact rfl);exact List.cons_ne_nil _ _;(iterate 4 exact rfl);intro bj hj hlej hcs2;refine ⟨hlej,QN,?_⟩)|(apply OpTo_res;exact rfl;exact has207;exact intsRR_c _ _ 10 10 [f.ru.club,f.ru.player,f.ru.season,f.ru.comp,f.ru.points,f.ru.amount,f.ru.hg,f.ru.ag,f.ru.lo,f.ru.hi] (SlOf_ints (hcs2.le (by first|exact Le.refl _|assumption|(repeat (first|assumption|(apply Le.trans;assumption)))))) (by omega);rintro wm hm hlem ⟨Am,cm,rfl,hsm⟩;refine ⟨hlem,QN,?_⟩)|(apply OpTo_buildSliceS (enc:=vaC) (n:=1) [vg];(iterate 3 exact rfl);exact List.cons_ne_nil _ _;(iterate 4 exact rfl);exact vaC_len;exact rfl;exact rfl;intro bz hz hlebz hs4;refine ⟨hlebz,QN,?_⟩)|(apply OpTo_appendS (enc:=vaC) (xs:=[f.ru.case,f.ru.inst,f.ru.kind].map vaInt) (ys:=[vg]);(iterate 7 exact rfl);exact hs4.le (by first|exact Le.refl _|assumption|(repeat (first|assumption|(apply Le.trans;assumption))));exact vaC_len;exact vaC_one;intro v1;exact QR;(first|omega|simp [vaList]);exact rfl;intro A2 c2;refine ⟨Le.refl _,QN,?_⟩)|(apply OpTo_appendS (enc:=vaC) (xs:=[f.ru.case,f.ru.inst,f.ru.kind].map vaInt ++ [vg]) (ys:=[f.ru.club,f.ru.player,f.ru.season,f.ru.comp,f.ru.points,f.ru.amount,f.ru.hg,f.ru.ag,f.ru.lo,f.ru.hi].map vaInt);(iterate 7 exact rfl);exact hsm.le (by first|exact Le.refl _|assumption|(repeat (first|assumption|(apply Le.trans;assumption))));exact vaC_len;exact vaC_one;intro v1;exact QR;(first|omega|simp [vaList]);exact rfl;intro A3 c3;refine ⟨Le.refl _,QN,?_⟩)))|(apply GP_done;kernel_rfl;exact rfl)|(apply GO_cond;exact rfl;all_goals (intro hc;try simp only [hcS,reduceCtorEq] at hc;try (exfalso;omega))))
  all_goals (try (exfalso;omega))
  all_goals
    refine GO_relS (enc:=vaC) (xs:=([f.ru.case,f.ru.inst,f.ru.kind].map vaInt ++ [vg] ++ [f.ru.club,f.ru.player,f.ru.season,f.ru.comp,f.ru.points,f.ru.amount,f.ru.hg,f.ru.ag,f.ru.lo,f.ru.hi].map vaInt)) vaC_len rfl QK ?_
    intro A7 c7 h7 hle7 e7 hsl
    injection e7 with e71 _ e73
    subst e71;subst e73
    refine GO_retRC1 rfl rfl rfl QM rfl rfl ⟨vaList A3 14 c3,rfl,venc_list (hsl) (Zip7.cons (venc_int (i2 _ (by simp))) (Zip7.cons (venc_int (i2 _ (by simp))) (Zip7.cons (venc_int (i2 _ (by simp))) (Zip7.cons (hvg.le (by first|exact Le.refl _|assumption|(repeat (first|assumption|(apply Le.trans;assumption))))) (Zip7.cons (venc_int (i3 _ (by simp))) (Zip7.cons (venc_int (i3 _ (by simp))) (Zip7.cons (venc_int (i3 _ (by simp))) (Zip7.cons (venc_int (i3 _ (by simp))) (Zip7.cons (venc_int (i3 _ (by simp))) (Zip7.cons (venc_int (i3 _ (by simp))) (Zip7.cons (venc_int (i3 _ (by simp))) (Zip7.cons (venc_int (i3 _ (by simp))) (Zip7.cons (venc_int (i3 _ (by simp))) (Zip7.cons (venc_int (i3 _ (by simp))) (Zip7.nil))))))))))))))) (by omega)⟩
theorem what5_c (h : Ro) (s : Fsh) (f : Fct) (hf : FAt h s f) (hs : FSm1 f) (e : f.kind = 5) (i1 : ∀ x ∈ [f.aCase,f.aInst,if f.aSusp then 1 else 0],I64 x) : Res Tryz.prog 141 #[factV s f] h (VR 5 (bSeq (elemsB f))):=by
  have hxs : elemsB f = [bInt f.aCase,bInt f.aInst,bInt (if f.aSusp then 1 else 0)]:=by unfold elemsB;rw [e];rfl
  rw [hxs]
  refine Res_intro (args:=[_]) ts_ok Go.Proofs.Tryz.func141 rfl rfl fun w0 X0 => ?_
  obtain ⟨n1,n2,n3,n4,n5,n6⟩:=hf.small1 hs
  repeat' (first|apply GO_seq|apply GO_block|apply GO_region|apply GOl_nil|(apply GOl_pv;(iterate 3 exact rfl))|(apply GOl_load;exact rfl;exact Ld_blk rfl QM rfl;exact rfl;exact rfl)|(apply GOl_to;(iterate 3 exact rfl);(first|(apply OpTo_box;exact rfl;intro b;skip)|(apply OpTo_alloc;exact rfl;intro b;skip)))|(apply GO_drawp (n:=20) [0,1,2,3,4,5,6,7,8,9,10,11,12] [(0,0),(1,0),(2,0),(3,0),(4,0),(5,0),(6,0),(7,0),(8,0),(9,1),(10,1),(11,1),(12,1)];kernel_rfl)|(apply GP_pv;exact rfl;kernel_rfl;(iterate 3 exact rfl))|(apply GP_loadB;exact rfl;kernel_rfl;(iterate 3 exact rfl);exact QM;exact rfl;exact rfl)|(apply GP_real;exact rfl;kernel_rfl;(iterate 3 exact rfl);(first|(apply OpTo_store;(iterate 3 exact rfl);exact QR;(iterate 3 exact rfl);refine ⟨Le.refl _,QN,?_⟩)|(apply OpTo_buildSliceR (e:=3) (cs:=[f.aCase,f.aInst,if f.aSusp then 1 else 0].map fun i => .int .i64 i);(iterate 3 exact rfl);exact List.cons_ne_nil _ _;(iterate 4 exact rfl);intro bi hi hlei hcs1;refine ⟨hlei,QN,?_⟩)|(apply OpTo_res;exact rfl;exact has207;exact intsRR_c _ _ 3 3 [f.aCase,f.aInst,if f.aSusp then 1 else 0] (SlOf_ints (hcs1.le (by first|exact Le.refl _|assumption|(repeat (first|assumption|(apply Le.trans;assumption)))))) (by omega);rintro wn hn hlen ⟨An,cn,rfl,hsn⟩;refine ⟨hlen,QN,?_⟩)|(apply OpTo_val;exact rfl;exact has211;exact truthR_c _ _;refine ⟨Le.refl _,QN,?_⟩)))|(apply GP_done;kernel_rfl;exact rfl)|(apply GO_cond;exact rfl;all_goals (intro hc;try simp only [hcS,reduceCtorEq] at hc;try (exfalso;omega))))
  all_goals (try (exfalso;omega))
  all_goals
    refine GO_retRC1 rfl rfl rfl QM rfl rfl ⟨vaList An 3 cn,rfl,venc_list (hsn) (Zip7.cons (venc_int (i1 _ (by simp))) (Zip7.cons (venc_int (i1 _ (by simp))) (Zip7.cons (venc_int (i1 _ (by simp))) (Zip7.nil)))) (by omega)⟩
theorem what6_c (h : Ro) (s : Fsh) (f : Fct) (hf : FAt h s f) (hs : FSm1 f) (e : f.kind = 6) (i1 : I64 f.mP) (i2 : I64 f.mTo) : Res Tryz.prog 141 #[factV s f] h (VR 5 (bSeq (elemsB f))):=by
  have hxs : elemsB f = [bInt f.mP,bInt f.mTo]:=by unfold elemsB;rw [e];rfl
  rw [hxs]
  refine Res_intro (args:=[_]) ts_ok Go.Proofs.Tryz.func141 rfl rfl fun w0 X0 => ?_
  obtain ⟨n1,n2,n3,n4,n5,n6⟩:=hf.small1 hs
  repeat' (first|apply GO_seq|apply GO_block|apply GO_region|apply GOl_nil|(apply GOl_pv;(iterate 3 exact rfl))|(apply GOl_load;exact rfl;exact Ld_blk rfl QM rfl;exact rfl;exact rfl)|(apply GOl_to;(iterate 3 exact rfl);(first|(apply OpTo_store;(iterate 3 exact rfl);exact QR;(iterate 3 exact rfl);skip)|(apply OpTo_box;exact rfl;intro b;skip)|(apply OpTo_alloc;exact rfl;intro b;skip)|(apply OpTo_buildSliceR (e:=3) (cs:=[f.mP,f.mTo].map fun i => .int .i64 i);(iterate 3 exact rfl);exact List.cons_ne_nil _ _;(iterate 4 exact rfl);intro bi hi hlei hcs1;skip)|(apply OpTo_res;exact rfl;exact has207;exact intsRR_c _ _ 2 2 [f.mP,f.mTo] (SlOf_ints (hcs1.le (by first|exact Le.refl _|assumption|(repeat (first|assumption|(apply Le.trans;assumption)))))) (by omega);rintro wn hn hlen ⟨An,cn,rfl,hsn⟩;skip)))|(apply GO_cond;exact rfl;all_goals (intro hc;try simp only [hcS,reduceCtorEq] at hc;try (exfalso;omega))))
  all_goals (try (exfalso;omega))
  all_goals
    refine GO_retRC1 rfl rfl rfl QM rfl rfl ⟨vaList An 2 cn,rfl,venc_list (hsn) (Zip7.cons (venc_int i1) (Zip7.cons (venc_int i2) (Zip7.nil))) (by omega)⟩
theorem what7_c (h : Ro) (s : Fsh) (f : Fct) (hf : FAt h s f) (hs : FSm1 f) (e : f.kind = 7) (i1 : I64 f.lS) (i2 : I64 f.lC) (i3 : ∀ x ∈ f.lO,I64 x) : Res Tryz.prog 141 #[factV s f] h (VR 5 (bSeq (elemsB f))):=by
  have hxs : elemsB f = [bInt f.lS,bInt f.lC,bNums f.lO]:=by unfold elemsB;rw [e];rfl
  rw [hxs]
  refine Res_intro (args:=[_]) ts_ok Go.Proofs.Tryz.func141 rfl rfl fun w0 X0 => ?_
  obtain ⟨n1,n2,n3,n4,n5,n6⟩:=hf.small1 hs
  repeat' (first|apply GO_seq|apply GO_block|apply GO_region|apply GOl_nil|(apply GOl_pv;(iterate 3 exact rfl))|(apply GOl_load;exact rfl;exact Ld_blk rfl QM rfl;exact rfl;exact rfl)|(apply GOl_to;(iterate 3 exact rfl);(first|(apply OpTo_box;exact rfl;intro b;skip)|(apply OpTo_alloc;exact rfl;intro b;skip)))|(apply GO_drawp (n:=24) [0,1,2,3,4,5,6,7,8,9,10,11,12,13,14] [(0,0),(1,0),(2,0),(4,0),(5,0),(6,0),(8,0),(9,0),(10,0),(3,1),(7,1),(11,1),(12,1),(13,1),(14,1)];kernel_rfl)|(apply GP_pv;exact rfl;kernel_rfl;(iterate 3 exact rfl))|(apply GP_loadB;exact rfl;kernel_rfl;(iterate 3 exact rfl);exact QM;exact rfl;exact rfl)|(apply GP_real;exact rfl;kernel_rfl;(iterate 3 exact rfl);(first|(apply OpTo_store;(iterate 3 exact rfl);exact QR;(iterate 3 exact rfl);refine ⟨Le.refl _,QN,?_⟩)|(apply OpTo_res;exact rfl;exact has207;exact intsRV_c (d:=2) _ _ _ _ f.lO (hf.lo.le (by first|exact Le.refl _|assumption|(repeat (first|assumption|(apply Le.trans;assumption))))) (by omega) i3;rintro wa ha hlea ⟨va,rfl,hva⟩;refine ⟨hlea,QN,?_⟩)|(apply OpTo_buildSliceS (enc:=vaC) (n:=3) [vaInt f.lS,vaInt f.lC,va];(iterate 3 exact rfl);exact List.cons_ne_nil _ _;(iterate 4 exact rfl);exact vaC_len;exact rfl;exact rfl;intro bz hz hlebz hsl;refine ⟨hlebz,QN,?_⟩)|(apply OpTo_val;exact rfl;exact has140;exact intRV_c _ _;refine ⟨Le.refl _,QN,?_⟩)|(apply OpTo_val;exact rfl;exact has206;exact listRV_c _ _ _ _;refine ⟨Le.refl _,QN,?_⟩)))|(apply GP_done;kernel_rfl;exact rfl)|(apply GO_cond;exact rfl;all_goals (intro hc;try simp only [hcS,reduceCtorEq] at hc;try (exfalso;omega))))
  all_goals (try (exfalso;omega))
  all_goals
    refine GO_retRC1 rfl rfl rfl QM rfl rfl ⟨vaList (some ⟨bz,0,none⟩) 3 3,rfl,venc_list (hsl) (Zip7.cons (venc_int i1) (Zip7.cons (venc_int i2) (Zip7.cons (hva.le (by first|exact Le.refl _|assumption|(repeat (first|assumption|(apply Le.trans;assumption))))) (Zip7.nil)))) (by omega)⟩
theorem void_sl {h : Ro} {bx : Nat} {s : Fsh} {f : Fct} (hb : CellsAt h ⟨bx,0,none⟩ (partL (factV s f))) (hv : f.void.length = 32) : SlOf encB 1 h (some ⟨bx,50,none⟩) 32 f.void :=
  SlOf.of_flat (fun _ => rfl) hv (by
    have hb1 : CellsAt h ⟨bx,0,none⟩ (factC s f):=hb
    have h8:=hb1.shift 50
    rw [add_off,Nat.zero_add] at h8
    rw [← voidC_eq f.void hv];exact h8)
theorem what8_c (h : Ro) (s : Fsh) (f : Fct) (hf : FAt h s f) (hs : FSm1 f) (e : f.kind = 8)  : Res Tryz.prog 141 #[factV s f] h (VR 5 (bSeq (elemsB f))):=by
  have hxs : elemsB f = [bText f.void]:=by unfold elemsB;rw [e];rfl
  rw [hxs]
  refine Res_intro (args:=[_]) ts_ok Go.Proofs.Tryz.func141 rfl rfl fun w0 X0 => ?_
  obtain ⟨n1,n2,n3,n4,n5,n6⟩:=hf.small1 hs
  repeat' (first|apply GO_seq|apply GO_skip|apply GO_inBlock|apply GO_block|apply GO_region|apply GOl_nil|(have hq9 : f.kind ≠ 7:=(by assumption);refine GOl_relB (e:=73) (cs:=partL (factV s f)) QK ?_;intro h7 hle7 hq7;have hvs:=void_sl hq7 hf.void)|(apply GOl_pv;(iterate 3 exact rfl))|(apply GOl_load;exact rfl;exact Ld_blk rfl QM rfl;exact rfl;exact rfl)|(apply GOl_ov;exact rfl;exact rfl;(first|(apply OV_sliceAll;(iterate 4 exact rfl))|(apply OV_strOf (s:=f.void);(iterate 7 exact rfl);exact hvs.le (by first|exact Le.refl _|assumption|(repeat (first|assumption|(apply Le.trans;assumption))))));exact QA)|(apply GOl_to;(iterate 3 exact rfl);(first|(apply OpTo_store;(iterate 3 exact rfl);exact QR;(iterate 3 exact rfl);skip)|(apply OpTo_box;exact rfl;intro b;skip)|(apply OpTo_alloc;exact rfl;intro b;skip)|(apply OpTo_buildSliceS (enc:=vaC) (n:=1) [vaText f.void];(iterate 3 exact rfl);exact List.cons_ne_nil _ _;(iterate 4 exact rfl);exact vaC_len;exact rfl;exact rfl;intro bz hz hlebz hsl;skip)|(apply OpTo_val;exact rfl;exact has208;exact textRV_c _ _;skip)|(apply OpTo_val;exact rfl;exact has206;exact listRV_c _ _ _ _;skip)))|(apply GO_cond;exact rfl;all_goals (intro hc;try simp only [hcS,reduceCtorEq] at hc;try (exfalso;omega))))
  all_goals (try (exfalso;omega))
  all_goals
    refine GO_retRC1 rfl rfl rfl QM rfl rfl ⟨vaList (some ⟨bz,0,none⟩) 1 1,rfl,venc_list (hsl) (Zip7.cons (venc_text) (Zip7.nil)) (by omega)⟩
theorem what_c (h : Ro) (s : Fsh) (f : Fct) (hf : FAt h s f) (hs : FSm f) (hok : FctOk f) : Res Tryz.prog 141 #[factV s f] h (VR 5 (bSeq (elemsB f))):=by
  have hs:=hok.sm1
  have hco:=hok.2.2.1
  have hk : 1 ≤ f.kind ∧ f.kind ≤ 8:=by
    refine Classical.byContradiction fun hk => (fct_none f hk).2 hco
  have mx : ∀ {n m : Int},Bel n m → m ≤ 1000000 → I64 n:=fun h1 h2 => bel_i h1 (by omega)
  have : f.kind = 1 ∨ f.kind = 2 ∨ f.kind = 3 ∨ f.kind = 4 ∨ f.kind = 5 ∨ f.kind = 6 ∨ f.kind = 7 ∨ f.kind = 8:=by omega
  have hfz : ∀ {n : Int},n = 0 → I64 n:=fun h => by subst h;unfold I64;omega
  rcases this with e|e|e|e|e|e|e|e
  · rw [ContOk,if_pos e] at hco
    exact what1_c h s f hf hs e (mx hco.1 (by omega)) (mx hco.2.1 (by omega)) (fun x hx => mx (hco.2.2.1.2.2 x hx) (by omega))
  · rw [ContOk,if_neg (by omega),if_pos e] at hco
    exact what2_c h s f hf hs e (game_i hco.1) (mx hco.2 (by omega))
  · rw [ContOk,if_neg (by omega),if_neg (by omega),if_pos e] at hco
    obtain ⟨g1,g2,g3,g4,g5,g6,g7,g8,g9,g10⟩:=hco
    refine what3_c h s f hf hs e (game_i g1) ?_ (fun x hx => mx (g6.2.1 x hx) (by omega)) (fun x hx => mx (g7.2.1 x hx) (by omega)) (fun c hc => mx (g6.2.1 _ (g8.2 c hc)) (by omega)) (fun c hc => mx (g7.2.1 _ (g9.2 c hc)) (by omega))
    intro x hx
    have hp : I64 f.sh.hp ∧ I64 f.sh.ap:=by
      rcases g5 with ⟨q1,q2⟩|⟨_,q1,q2,_⟩
      · exact ⟨hfz q1,hfz q2⟩
      · exact ⟨mx q1 (by omega),mx q2 (by omega)⟩
    simp only [List.mem_cons,List.not_mem_nil,or_false] at hx
    rcases hx with rfl|rfl|rfl|rfl|rfl
    · exact mx g2 (by omega)
    · exact mx g3 (by omega)
    · exact mx g4 (by omega)
    · exact hp.1
    · exact hp.2
  · rw [ContOk,if_neg (by omega),if_neg (by omega),if_neg (by omega),if_pos e] at hco
    obtain ⟨r1,r2,r3,r4,r5,r6⟩:=hco
    have hI : GameI f.ru.g ∧ ∀ x ∈ [f.ru.kind,f.ru.club,f.ru.player,f.ru.season,f.ru.comp,f.ru.points,f.ru.amount,f.ru.hg,f.ru.ag,f.ru.lo,f.ru.hi],I64 x:=by
      rw [← r6]
      have z : I64 0:=by unfold I64;omega
      unfold RulGood at r5
      unfold onlyR
      unfold DaysOk Bel at r5
      by_cases k1 : f.ru.kind = 1
      · rw [if_pos k1] at r5 ⊢;refine ⟨game_i r5.1,fun x hx => ?_⟩
        have:=r5.1;unfold GameOk Bel at this
        simp [rul0] at hx;unfold I64;omega
      rw [if_neg k1] at r5 ⊢
      by_cases k1 : f.ru.kind = 2
      · rw [if_pos k1] at r5 ⊢;refine ⟨game_i r5,fun x hx => ?_⟩
        simp [rul0] at hx;unfold I64;omega
      rw [if_neg k1] at r5 ⊢
      by_cases k1 : f.ru.kind = 3
      · rw [if_pos k1] at r5 ⊢;refine ⟨game_i r5.1,fun x hx => ?_⟩
        simp [rul0] at hx;unfold I64;omega
      rw [if_neg k1] at r5 ⊢
      by_cases k1 : f.ru.kind = 4
      · rw [if_pos k1] at r5 ⊢;refine ⟨game0_i,fun x hx => ?_⟩
        simp [rul0] at hx;unfold I64;omega
      rw [if_neg k1] at r5 ⊢
      by_cases k1 : f.ru.kind = 5
      · rw [if_pos k1] at r5 ⊢;refine ⟨game0_i,fun x hx => ?_⟩
        simp [rul0] at hx;unfold I64;omega
      rw [if_neg k1] at r5 ⊢
      by_cases k1 : f.ru.kind = 6
      · rw [if_pos k1] at r5 ⊢;refine ⟨game0_i,fun x hx => ?_⟩
        simp [rul0] at hx;unfold I64;omega
      rw [if_neg k1] at r5 ⊢
      by_cases k1 : f.ru.kind = 7
      · rw [if_pos k1] at r5 ⊢;refine ⟨game0_i,fun x hx => ?_⟩
        simp [rul0] at hx;unfold I64;omega
      rw [if_neg k1] at r5 ⊢
      refine ⟨game0_i,fun x hx => ?_⟩
      simp [rul0] at hx;unfold I64;omega
    refine what4_c h s f hf hs e hI.1 (fun x hx => ?_) (fun x hx => hI.2 x (List.mem_cons_of_mem _ hx))
    simp only [List.mem_cons,List.not_mem_nil,or_false] at hx
    rcases hx with rfl|rfl|rfl
    · unfold I64;omega
    · unfold I64;omega
    · exact hI.2 _ (by simp)
  · rw [ContOk,if_neg (by omega),if_neg (by omega),if_neg (by omega),if_neg (by omega),if_pos e] at hco
    refine what5_c h s f hf hs e fun x hx => ?_
    simp only [List.mem_cons,List.not_mem_nil,or_false] at hx
    rcases hx with rfl|rfl|rfl
    · unfold I64;omega
    · unfold I64;omega
    · unfold I64;split <;> omega
  · rw [ContOk,if_neg (by omega),if_neg (by omega),if_neg (by omega),if_neg (by omega),if_neg (by omega),if_pos e] at hco
    exact what6_c h s f hf hs e (mx hco.1 (by omega)) (by rcases hco.2 with q|q;(rw [q];unfold I64;omega);exact mx q (by omega))
  · rw [ContOk,if_neg (by omega),if_neg (by omega),if_neg (by omega),if_neg (by omega),if_neg (by omega),if_neg (by omega),if_pos e] at hco
    exact what7_c h s f hf hs e (mx hco.1 (by omega)) (mx hco.2.1 (by omega)) (fun x hx => mx (hco.2.2.1.2.2 x hx) (by omega))
  · exact what8_c h s f hf hs e
end Go.Hw

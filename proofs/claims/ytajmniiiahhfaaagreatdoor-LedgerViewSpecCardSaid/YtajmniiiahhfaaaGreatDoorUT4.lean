import Derived.Test.YtajmniiiahhfaaaGreatDoorUT3
import Derived.Test.YtajmniiiahhfaaaGreatDoorDB
import Derived.Test.YtajmniiiahhfaaaGreatDoorUR8
set_option linter.unusedVariables false
set_option linter.unusedSimpArgs false
set_option maxRecDepth 100000
set_option maxHeartbeats 4000000
namespace Go.Hw
open Go
attribute [local irreducible] GO GOl GDp Val Fn Res CellsAt ValE Blk OwnS MapA OwnPf Has sumF
open Go.Proofs (Tryz.prog)
theorem taggedR_c (h : Ro) (tag : List UInt8) (ht : tag.length ≤ 1000) (A : Option Addr) (n c : Nat) (x : List UInt8) (hx : SlOf encB 1 h A n x) (hn : n ≤ 40000000) : Res Tryz.prog 117 #[.string (str tag),.slice A n c] h fun u _ => u = dgV (digF tag x):=by
  refine Res_intro (args:=[_,_]) ts_ok Go.Proofs.Tryz.func117 rfl rfl fun w0 X0 => ?_
  have hxl:=hx.len
  obtain ⟨P,hP⟩ : ∃ P,P = (sumF tag).map u8V:=⟨_,rfl⟩
  have hPl : P.length = 32:=by rw [hP,List.length_map,sumF_len]
  have hP1 : allOne P = true:=by rw [hP];exact dg_one _
  have hPv : dgV (sumF tag) = .agg P.toArray:=by rw [hP];rfl
  repeat' (first|apply GO_seq|apply GO_region|apply GOl_nil|(apply GOl_pv;(iterate 3 exact rfl))|(apply GOl_ov;exact rfl;exact rfl;(first|(apply OV_sliceAll;(iterate 4 exact rfl)));exact QA)|(apply GOl_to;(iterate 3 exact rfl);(first|(apply OpTo_stAll (cs':=P);(iterate 3 exact rfl);exact QR;(first|exact hPl.symm|(rw [hPl];rfl));exact hPl;exact hP1;skip)|(apply OpTo_alloc;exact rfl;intro b;skip)|(apply OpTo_bytesR;(iterate 6 exact rfl);omega;intro A1 c1 h1 hle1 hs1;skip)|(apply OpTo_res;exact rfl;exact has180;exact sumR_c _ A1 _ c1 tag hs1 (by omega);rw [hPv];rintro v2 h2 hle2 rfl;skip)|(apply OpTo_buildSliceO (n:=0);(iterate 3 exact rfl);exact List.cons_ne_nil _ _;(iterate 6 exact rfl);intro b5;skip))))
  rename_i bo
  generalize b = bt
  refine GOl_relB (b:=bt) (e:=71) (cs:=P) QK ?_
  intro h3 hle3 hc3
  have hs3 : SlOf encB 1 h3 (some ⟨bt,0,none⟩) 32 (sumF tag):=SlOf.of_flat (fun _ => rfl) (sumF_len tag) (by rw [map_u8,← hP];exact hc3)
  have hdl : (digF tag x) = sumF (sumF tag ++ x):=rfl
  obtain ⟨R,hR⟩ : ∃ R,R = (digF tag x).map u8V:=⟨_,rfl⟩
  have hRl : R.length = 32:=by rw [hR,List.length_map,digF_len]
  have hR1 : allOne R = true:=by rw [hR];exact dg_one _
  have hRv : dgV (digF tag x) = .agg R.toArray:=by rw [hR];rfl
  repeat' (first|apply GOl_nil|(apply GOl_pv;(iterate 3 exact rfl))|(apply GOl_to;(iterate 3 exact rfl);(first|(apply OpTo_stAll (cs':=R);(iterate 3 exact rfl);exact QR;(first|exact hRl.symm|(rw [hRl];rfl));exact hRl;exact hR1;skip)|(apply OpTo_appendS (enc:=encB) (n:=0) (xs:=[]) (ys:=sumF tag);(iterate 7 exact rfl);exact (hs3.le (by first|exact Le.refl _|assumption|(repeat (first|assumption|(apply Le.trans;assumption)))));exact (fun _ => rfl);exact (fun _ => allOne_ok rfl);intro v1;exact QR;omega;exact rfl;intro A7 c7;skip)|(apply OpTo_appendSR (enc:=encB) (n:=0 + 32) (xs:=[] ++ sumF tag) (ys:=x);(iterate 7 exact rfl);exact (hx.le (by first|exact Le.refl _|assumption|(repeat (first|assumption|(apply Le.trans;assumption)))));exact (fun _ => rfl);exact (fun _ => allOne_ok rfl);exact QK;(rw [List.nil_append,sumF_len]);omega;exact rfl;intro A8 c8 h8 hle8 hnc8 hs8;skip)|(apply OpTo_res;exact rfl;exact has180;exact sumR_c _ A8 _ c8 ([] ++ sumF tag ++ x) (hs8.le (by first|exact Le.refl _|assumption|(repeat (first|assumption|(apply Le.trans;assumption))))) (by omega);rw [List.nil_append,← hdl,hRv];rintro v2 h2 hle2 rfl;skip))))
  all_goals exact GO_retRC1 rfl rfl rfl QM rfl (pvPart_all hRl) rfl
theorem idR_c (h : Ro) (s : Fsh) (f : Fct) (hf : FAt h s f) (hs : FSm f) (hok : FctOk f) : Res Tryz.prog 90 #[factV s f] h fun u _ => u = .tuple #[dgV (idF f),.int .i64 0]:=by
  refine Res_intro (args:=[_]) ts_ok Go.Proofs.Tryz.func90 rfl rfl fun w0 X0 => ?_
  have hel:=encF_le f hok hf.void
  obtain ⟨R,hR⟩ : ∃ R,R = (idF f).map u8V:=⟨_,rfl⟩
  have hRl : R.length = 32:=by rw [hR,List.length_map,idF_len]
  have hR1 : allOne R = true:=by rw [hR];exact dg_one _
  have hRv : dgV (idF f) = .agg R.toArray:=by rw [hR];rfl
  have hid : digF [102,97,99,116] (encF f) = idF f:=rfl
  rw [hRv]
  repeat' (first|apply GO_seq|apply GO_skip|apply GO_region|apply GOl_nil|(apply GOl_pv;(iterate 3 exact rfl))|(apply GOl_load;exact rfl;exact Ld_blk rfl QM rfl;exact rfl;exact rfl)|(apply GOl_to;(iterate 3 exact rfl);(first|(apply OpTo_stAll (cs':=R);(iterate 3 exact rfl);exact QR;(first|exact hRl.symm|(rw [hRl];rfl));exact hRl;exact hR1;skip)|(apply OpTo_box;exact rfl;intro b;skip)|(apply OpTo_alloc;exact rfl;intro b;skip)|(apply OpTo_res;exact rfl;exact has104;exact encodeR7_c _ s f (hf.le (by first|exact Le.refl _|assumption|(repeat (first|assumption|(apply Le.trans;assumption))))) hs hok;rintro v2 h2 hle2 ⟨A2,c2,rfl,hr2⟩;skip)|(apply OpTo_res;exact rfl;exact has117;exact taggedR_c _ [102,97,99,116] (by decide) A2 _ c2 (encF f) hr2 (by omega);rw [hid,hRv];rintro v3 h3 hle3 rfl;skip)))|(apply GO_cond;exact rfl;all_goals (intro hc;try simp only [hcS,reduceCtorEq] at hc;try (exfalso;omega))))
  all_goals first
    | (exfalso;omega)
    | (exact GO_retRC2 rfl rfl rfl QM rfl (pvPart_all hRl) rfl rfl)
end Go.Hw

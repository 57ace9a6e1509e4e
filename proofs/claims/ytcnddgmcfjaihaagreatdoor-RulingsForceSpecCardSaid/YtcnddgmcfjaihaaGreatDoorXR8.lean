import Derived.Test.YtcnddgmcfjaihaaGreatDoorRB
import Derived.Test.YtcnddgmcfjaihaaGreatDoorXR4
import Derived.Test.YtcnddgmcfjaihaaGreatDoorGC
set_option linter.unusedVariables false
set_option linter.unusedSimpArgs false
set_option maxRecDepth 100000
set_option maxHeartbeats 8000000
namespace Go.Hw
open Go
attribute [local irreducible] GO GOl GDp Val Fn Res CellsAt ValE Blk OwnS MapA OwnPf Has
open Go.Proofs (Tryz.prog)
theorem less_cmp : ∀ (a b : List UInt8),Op.bytesLess a b = decide (cmpB a b < 0)
  | [],[] => rfl
  | [],_ :: _ => rfl
  | _ :: _,[] => rfl
  | a :: x,b :: y => by
    unfold Op.bytesLess cmpB
    rw [less_cmp x y]
    by_cases h1 : a.toNat < b.toNat
    · rw [if_pos h1]
      have : a < b:=UInt8.lt_iff_toNat_lt.2 h1
      simp [this]
    · rw [if_neg h1]
      have h2 : ¬ a < b:=fun h => h1 (UInt8.lt_iff_toNat_lt.1 h)
      by_cases h3 : b.toNat < a.toNat
      · rw [if_pos h3]
        have : a ≠ b:=fun h => by subst h;omega
        simp [h2,this]
      · rw [if_neg h3]
        have : a = b:=UInt8.toNat_inj.1 (by omega)
        simp [this]
theorem cmpR_c (h : Ro) (a b : Int) : Val Tryz.prog 104 #[.int .i64 a,.int .i64 b] h (.int .i64 (cmpI a b)):=by
  refine Val_intro (args:=[_,_]) ts_ok Go.Proofs.Tryz.func104 rfl rfl fun w0 X0 => ?_
  repeat' (first|apply GO_seq|apply GO_skip|apply GO_region|apply GOl_nil|(apply GOl_pv;(iterate 3 exact rfl))|(apply GO_cond;exact rfl;all_goals (intro hc;try simp only [hcS,reduceCtorEq] at hc;try (exfalso;omega)))|(apply GO_retV1;(iterate 3 exact rfl)))
  all_goals first
    | (unfold cmpI;rw [if_pos (by omega)];done)
    | (unfold cmpI;rw [if_neg (by omega),if_pos (by omega)];done)
    | (unfold cmpI;rw [if_neg (by omega),if_neg (by omega)];done)
open Classical in
theorem encodeR7_c (h : Ro) (s : Fsh) (f : Fct) (hf : FAt h s f) (hs : FSm f) (hg : FctOk f) : Res Tryz.prog 75 #[factV s f] h (fun u h' => ∃ A c,u = .tuple #[.slice A (encF f).length c,.int .i64 0] ∧ SlOf encB 1 h' A (encF f).length (encF f)):=by
  refine Res_intro (args:=[_]) ts_ok Go.Proofs.Tryz.func75 rfl rfl fun w0 X0 => ?_
  have hvl:=hf.void
  have hle0:=encF_le f hg hvl
  have hch:=fun h' (hl : Le h h') => by
    have:=checkR_c h' s f (hf.le hl) hs
    rw [if_pos hg] at this;exact this
  have hk : 1 ≤ f.kind ∧ f.kind ≤ 8:=by
    refine Classical.byContradiction fun hk => (fct_none f hk).2 hg.2.2.1
  have i1 : I64 f.day:=bel_i hg.1 (by omega)
  have i2 : I64 f.kind:=by unfold I64;omega
  have i3 : I64 f.known:=bel_i hg.2.1 (by omega)
  repeat' (first|apply GO_seq|apply GO_skip|apply GO_region|apply GOl_nil|(apply GOl_pv;(iterate 3 exact rfl))|(apply GOl_load;exact rfl;exact Ld_blk rfl QM rfl;exact rfl;exact rfl)|(apply GOl_to;(iterate 3 exact rfl);(first|(apply OpTo_box;exact rfl;intro b;skip)|(apply OpTo_val;exact rfl;exact has73;exact hch _ (by first|exact Le.refl _|assumption|(repeat (first|assumption|(apply Le.trans;assumption))));skip)|(apply OpTo_res;exact rfl;exact has133;exact encodeR_c _ 6 (by omega) ⟨4,0,[],⟨some ⟨bz,0,none⟩,4,4⟩,⟨some ⟨bk,0,none⟩,4,4⟩⟩ (encF f) (.inr (.inr (.inr ⟨⟨some ⟨bz,0,none⟩,4,4⟩,⟨some ⟨bk,0,none⟩,4,4⟩,[vaInt f.day,vaInt f.kind,vaInt f.known,v],[bInt f.day,bInt f.kind,bInt f.known,bSeq (elemsB f)],keys7,rfl,hs1.le (by first|exact Le.refl _|assumption|(repeat (first|assumption|(apply Le.trans;assumption)))),Zip7.cons (venc_int i1) (Zip7.cons (venc_int i2) (Zip7.cons (venc_int i3) (Zip7.cons (hv.le (by first|exact Le.refl _|assumption|(repeat (first|assumption|(apply Le.trans;assumption))))) Zip7.nil))),hks.le (by first|exact Le.refl _|assumption|(repeat (first|assumption|(apply Le.trans;assumption)))),rfl,keys7_up,four_le,encF_dict f⟩))) (by omega);rintro v4 h4 hle4 ⟨A4,c4,rfl,hr4⟩;skip)))|(apply GO_drawp (n:=4) [0,1,2,3,4,5,6,7,8,9,10,11,12,13,14,15] [(1,0),(2,0),(4,0),(5,0),(7,0),(8,0),(10,0),(0,3),(38,3),(164,14),(3,2),(29,14),(6,2),(21,14),(9,2),(14,14),(11,2),(8,14),(12,2),(3,14),(13,0),(14,1),(15,1),(12,1),(13,0),(15,1),(11,1),(12,1),(13,0),(15,1),(9,1),(11,1),(12,1),(13,0),(15,1),(6,1),(9,1),(11,1),(12,1),(13,0),(15,1),(3,1),(6,1),(9,1),(11,1),(12,1),(13,0),(15,1),(0,3),(29,6),(103,14),(6,2),(21,14),(9,2),(14,14),(11,2),(8,14),(12,2),(3,14),(13,0),(14,1),(15,1),(12,1),(13,0),(15,1),(11,1),(12,1),(13,0),(15,1),(9,1),(11,1),(12,1),(13,0),(15,1),(6,1),(9,1),(11,1),(12,1),(13,0),(15,1),(0,3),(21,9),(58,14),(9,2),(14,14),(11,2),(8,14),(12,2),(3,14),(13,0),(14,1),(15,1),(12,1),(13,0),(15,1),(11,1),(12,1),(13,0),(15,1),(9,1),(11,1),(12,1),(13,0),(15,1),(0,3),(14,11),(27,14),(11,2),(8,14),(12,2),(3,14),(13,0),(14,1),(15,1),(12,1),(13,0),(15,1),(11,1),(12,1),(13,0),(15,1),(0,3),(8,12),(8,14),(12,2),(3,14),(13,0),(14,1),(15,1),(12,1),(13,0),(15,1),(0,2),(3,14),(13,0),(14,1),(15,1),(0,1),(13,0),(15,1),(0,2),(3,12),(12,1),(13,0),(15,1),(0,1),(13,0),(15,1),(0,2),(4,11),(11,1),(12,1),(13,0),(15,1),(0,2),(3,12),(12,1),(13,0),(15,1),(0,1),(13,0),(15,1),(0,2),(5,9),(9,1),(11,1),(12,1),(13,0),(15,1),(0,2),(4,11),(11,1),(12,1),(13,0),(15,1),(0,2),(3,12),(12,1),(13,0),(15,1),(0,1),(13,0),(15,1),(0,2),(6,6),(6,1),(9,1),(11,1),(12,1),(13,0),(15,1),(0,2),(5,9),(9,1),(11,1),(12,1),(13,0),(15,1),(0,2),(4,11),(11,1),(12,1),(13,0),(15,1),(0,2),(3,12),(12,1),(13,0),(15,1),(0,1),(13,0),(15,1),(0,2),(7,3),(3,1),(6,1),(9,1),(11,1),(12,1),(13,0),(15,1),(0,2),(6,6),(6,1),(9,1),(11,1),(12,1),(13,0),(15,1),(0,2),(5,9),(9,1),(11,1),(12,1),(13,0),(15,1),(0,2),(4,11),(11,1),(12,1),(13,0),(15,1),(0,2),(3,12),(12,1),(13,0),(15,1),(0,1),(13,0),(15,1)];kernel_rfl)|(apply GP_pv;exact rfl;kernel_rfl;(iterate 3 exact rfl))|(apply GP_loadB;exact rfl;kernel_rfl;(iterate 3 exact rfl);exact QM;exact rfl;exact rfl)|(apply GP_real;exact rfl;kernel_rfl;(iterate 3 exact rfl);(first|(apply OpTo_store;(iterate 3 exact rfl);exact QR;(iterate 3 exact rfl);refine ⟨Le.refl _,QN,?_⟩)|(apply OpTo_alloc;exact rfl;intro b;refine ⟨Le.refl _,QN,?_⟩)|(apply OpTo_buildSliceS (enc:=encS7) (n:=4) (e:=9) keys7;(iterate 3 exact rfl);exact List.cons_ne_nil _ _;(iterate 4 exact rfl);exact (fun _ => rfl);exact rfl;exact rfl;intro bk hk7 hlek hks;refine ⟨hlek,QN,?_⟩)|(apply OpTo_res;exact rfl;exact has132;exact what_c _ s f (hf.le (by first|exact Le.refl _|assumption|(repeat (first|assumption|(apply Le.trans;assumption))))) hs hg;rintro wv hw hlew ⟨v,rfl,hv⟩;refine ⟨hlew,QN,?_⟩)|(apply OpTo_buildSliceS (enc:=vaC) (n:=4) (e:=142) [vaInt f.day,vaInt f.kind,vaInt f.known,v];(iterate 3 exact rfl);exact List.cons_ne_nil _ _;(iterate 4 exact rfl);exact vaC_len;exact rfl;exact rfl;intro bz hz1 hlez hs1;refine ⟨hlez,QN,?_⟩)|(apply OpTo_val;exact rfl;exact has131;exact intRV_c _ _;refine ⟨Le.refl _,QN,?_⟩)))|(apply GP_two;kernel_rfl;exact rfl;exact rfl)|(apply RealP_intro;(iterate 4 exact rfl);(first|(apply OpTo_alloc;exact rfl;intro b;refine ⟨Le.refl _,QN,?_⟩)|(apply OpTo_buildSliceS (enc:=encS7) (n:=4) (e:=9) keys7;(iterate 3 exact rfl);exact List.cons_ne_nil _ _;(iterate 4 exact rfl);exact (fun _ => rfl);exact rfl;exact rfl;intro bk hk7 hlek hks;refine ⟨hlek,QN,?_⟩)|(apply OpTo_res;exact rfl;exact has132;exact what_c _ s f (hf.le (by first|exact Le.refl _|assumption|(repeat (first|assumption|(apply Le.trans;assumption))))) hs hg;rintro wv hw hlew ⟨v,rfl,hv⟩;refine ⟨hlew,QN,?_⟩)|(apply OpTo_buildSliceS (enc:=vaC) (n:=4) (e:=142) [vaInt f.day,vaInt f.kind,vaInt f.known,v];(iterate 3 exact rfl);exact List.cons_ne_nil _ _;(iterate 4 exact rfl);exact vaC_len;exact rfl;exact rfl;intro bz hz1 hlez hs1;refine ⟨hlez,QN,?_⟩)|(apply OpTo_val;exact rfl;exact has131;exact intRV_c _ _;refine ⟨Le.refl _,QN,?_⟩)))|(apply GP_done;kernel_rfl;exact rfl)|(apply GO_cond;exact rfl;all_goals (intro hc;try simp only [hcS,reduceCtorEq] at hc;try (exfalso;omega)))|(apply GP_three;kernel_rfl;(iterate 4 exact rfl)))
  all_goals first
    | (exfalso;omega)
    | (exact GO_retR2 rfl rfl rfl rfl ⟨_,_,rfl,hr4⟩)
theorem compareR7_c (h : Ro) (s t : Fsh) (f g : Fct) (hf : FAt h s f) (hs : FSm f) (hg : FAt h t g) (ht : FSm g) (of : FctOk f) (og : FctOk g) : Res Tryz.prog 51 #[factV s f,factV t g] h (fun u h' => u = .int .i64 (cmpF f g)):=by
  refine Res_intro (args:=[_,_]) ts_ok Go.Proofs.Tryz.func51 rfl rfl fun w0 X0 => ?_
  have hl1:=less_cmp (encF f) (encF g)
  have hl2:=less_cmp (encF g) (encF f)
  have hsw:=cmpB_swap (encF f) (encF g)
  have hrg:=cmpB_range (encF f) (encF g)
  have hbe : (encF f == encF g) = decide (cmpB (encF f) (encF g) = 0):=by rw [Bool.eq_iff_iff,beq_iff_eq,decide_eq_true_eq,cmpB_eq]
  repeat' (first|apply GO_seq|apply GO_skip|apply GO_region|apply GOl_nil|(apply GOl_pv;(iterate 3 exact rfl))|(apply GOl_load;exact rfl;exact Ld_blk rfl QM rfl;exact rfl;exact rfl)|(apply GOl_ov;exact rfl;exact rfl;(first|(apply OV_strOf (s:=encF f) (A:=A4);(iterate 7 exact rfl);exact hr4.le (by first|exact Le.refl _|assumption|(repeat (first|assumption|(apply Le.trans;assumption)))))|(apply OV_strOf (s:=encF g) (A:=A5);(iterate 7 exact rfl);exact hr5.le (by first|exact Le.refl _|assumption|(repeat (first|assumption|(apply Le.trans;assumption))))));exact QA)|(apply GOl_to;(iterate 3 exact rfl);(first|(apply OpTo_box;exact rfl;intro b;skip)|(apply OpTo_val;exact rfl;exact has104;exact cmpR_c _ _ _;skip)|(apply OpTo_res;exact rfl;exact has75;exact encodeR7_c _ s f (hf.le (by first|exact Le.refl _|assumption|(repeat (first|assumption|(apply Le.trans;assumption))))) hs of;rintro v4 h4 hle4 ⟨A4,c4,rfl,hr4⟩;skip)|(apply OpTo_res;exact rfl;exact has75;exact encodeR7_c _ t g (hg.le (by first|exact Le.refl _|assumption|(repeat (first|assumption|(apply Le.trans;assumption))))) ht og;rintro v5 h5 hle5 ⟨A5,c5,rfl,hr5⟩;skip)))|(apply GO_cond;exact rfl;all_goals (intro hc;try simp only [hcS,reduceCtorEq] at hc;try (exfalso;omega))))
  all_goals (refine GO_retR1 rfl rfl rfl ?_)
  all_goals (simp only [str_toList,hl1,hl2,hbe,Bool.or_eq_true,Bool.or_eq_false_iff,decide_eq_true_eq,decide_eq_false_iff_not,Bool.not_eq_true',Bool.not_eq_true] at *)
  all_goals (refine congrArg (Value.int .i64) ?_)
  all_goals (clear hf hs hg ht of og;unfold cmpF;(repeat' split) <;> omega)
end Go.Hw

import Derived.Test.YtajmniiiahhfaaaGreatDoorUR10
import Derived.Test.YtajmniiiahhfaaaGreatDoorUT4
set_option linter.unusedVariables false
set_option linter.unusedSimpArgs false
set_option maxRecDepth 100000
set_option maxHeartbeats 8000000
namespace Go.Hw
open Go
attribute [local irreducible] GO GOl GDp Val Fn Res CellsAt ValE Blk OwnS MapA OwnPf Has Yl idF
open Go.Proofs (Tryz.prog)
theorem ledE_led {h : Ro} {A : Option Addr} {n : Nat} {l : List (Fsh × Fct)} (hx : FactsAt h A n l) (h0 : ledE (fcs l) = 0) : LedAt h A n l :=
  hx.led fun p hp => (ledE_zero.1 h0).2.1 _ (List.mem_map.2 ⟨p,hp,rfl⟩)
open Classical in
theorem addR_c (h : Ro) (A : Option Addr) (n c : Nat) (l : List (Fsh × Fct)) (hx : FactsAt h A n l) (hnc : n ≤ c) (hn : n ≤ 65535) (s : Fsh) (f : Fct) (hf : FAt h s f) (hs : FSm f) : Res Tryz.prog 47 #[ledV A n c,factV s f] h (fun u h' => ∃ v,u = .tuple #[v,.bool (addL (fcs l) f).2.1,.int .i64 (addL (fcs l) f).2.2] ∧ LedOut h' v (addL (fcs l) f).1):=by
  refine Res_intro (args:=[_,_]) ts_ok Go.Proofs.Tryz.func47 rfl rfl fun w0 X0 => ?_
  have hlen:=hx.row.len
  have h32 : In32 (fcs l):=In32_of hx.fat
  obtain ⟨e,he⟩ : ∃ e,e = ledE (fcs l):=⟨_,rfl⟩
  have hck:=fun h' (hl : Le h h') => checkLR_e (c:=c) h' (hx.le hl) he.symm
  by_cases h0 : e = 0
  · have hxl : LedAt h A n l:=ledE_led hx (he ▸ h0)
    have hok:=ledE_zero.1 (he ▸ h0)
    have hle0 : ledE (fcs l) = 0:=he ▸ h0
    subst h0
    clear he
    by_cases h1 : FctOk f
    · have hgf : FGd h (s,f):=⟨hf,hs,h1⟩
      have hch:=fun h' (hl : Le h h') => by
        have:=checkR_c h' s f (hf.le hl) hs
        rw [if_pos h1] at this;exact this
      by_cases h2 : f ∈ fcs l
      · have hadd : addL (fcs l) f = (fcs l,false,0):=by unfold addL;rw [if_neg (by rw [hle0];omega),if_neg (fun q => q h1),if_pos h2]
        rw [hadd]
        clear hle0
        repeat' (first|apply GO_seq|apply GO_skip|apply GO_region|apply GOl_nil|(apply GOl_pv;(iterate 3 exact rfl))|(apply GOl_load;exact rfl;exact Ld_blk rfl QM rfl;exact rfl;exact rfl)|(apply GOl_to;(iterate 3 exact rfl);(first|(apply OpTo_store;(iterate 3 exact rfl);exact QR;(iterate 3 exact rfl);skip)|(apply OpTo_box;exact rfl;intro b;skip)|(apply OpTo_alloc;exact rfl;intro b;skip)|(apply OpTo_res;exact rfl;exact has36;exact hck _ (by first|exact Le.refl _|assumption|(repeat (first|assumption|(apply Le.trans;assumption))));rintro v1 h3 hle1 rfl;skip)|(apply OpTo_val;exact rfl;exact has75;exact hch _ (by first|exact Le.refl _|assumption|(repeat (first|assumption|(apply Le.trans;assumption))));skip)|(apply OpTo_res;exact rfl;exact has89;exact hasR_c _ A n c l (hxl.le (by first|exact Le.refl _|assumption|(repeat (first|assumption|(apply Le.trans;assumption))))) (s,f) (hgf.le (by first|exact Le.refl _|assumption|(repeat (first|assumption|(apply Le.trans;assumption)))));rintro v4 h4 hle4 ⟨b4,rfl,hb4⟩;cases b4;all_goals skip)))|(apply GO_cond;exact rfl;all_goals (intro hc;try simp only [hcS,reduceCtorEq] at hc;try (exfalso;omega))))
        all_goals first
          | (exfalso;omega)
          | (exact GO_retRC3 rfl rfl rfl QM rfl rfl rfl rfl ⟨ledV A n c,rfl,A,n,c,l,rfl,hnc,hxl.le (by first|exact Le.refl _|assumption|(repeat (first|assumption|(apply Le.trans;assumption)))),rfl⟩)
          | (exfalso;have q:=hb4.2 h2;cases q)
      · have hun : unionL (fcs l) [f] = insF f (fcs l):=by
          unfold unionL
          rw [canonL_snoc,if_pos h1,canonL_self h32 hok.2.1 hok.2.2]
        have hcl : (unionL (fcs l) [f]).length ≤ n + 1:=by
          unfold unionL
          have:=canonL_len (l:=fcs l ++ [f]) (fun g hg => by
            rcases List.mem_append.1 hg with h|h
            · exact h32 g h
            · rw [List.mem_singleton] at h;subst h;exact hf.void)
          rw [List.length_append,List.length_map,hlen] at this
          simpa using this
        have hadd : addL (fcs l) f = (insF f (fcs l),true,0):=by unfold addL;rw [if_neg (by rw [hle0];omega),if_neg (fun q => q h1),if_neg h2,lim1 _ (by omega),hun];rfl
        rw [hadd]
        clear hle0 hcl hun
        repeat' (first|apply GO_seq|apply GO_skip|apply GO_region|apply GOl_nil|(apply GOl_pv;(iterate 3 exact rfl))|(apply GOl_load;exact rfl;exact Ld_blk rfl QM rfl;exact rfl;exact rfl)|(apply GOl_to;(iterate 3 exact rfl);(first|(apply OpTo_store;(iterate 3 exact rfl);exact QR;(iterate 3 exact rfl);skip)|(apply OpTo_box;exact rfl;intro b;skip)|(apply OpTo_alloc;exact rfl;intro b;skip)|(apply OpTo_res;exact rfl;exact has36;exact hck _ (by first|exact Le.refl _|assumption|(repeat (first|assumption|(apply Le.trans;assumption))));rintro v1 h3 hle1 rfl;skip)|(apply OpTo_val;exact rfl;exact has75;exact hch _ (by first|exact Le.refl _|assumption|(repeat (first|assumption|(apply Le.trans;assumption))));skip)|(apply OpTo_res;exact rfl;exact has89;exact hasR_c _ A n c l (hxl.le (by first|exact Le.refl _|assumption|(repeat (first|assumption|(apply Le.trans;assumption))))) (s,f) (hgf.le (by first|exact Le.refl _|assumption|(repeat (first|assumption|(apply Le.trans;assumption)))));rintro v4 h4 hle4 ⟨b4,rfl,hb4⟩;cases b4;all_goals skip)|(apply OpTo_res;exact rfl;exact has76;exact withR_c _ A n c l (hxl.le (by first|exact Le.refl _|assumption|(repeat (first|assumption|(apply Le.trans;assumption))))) hnc (s,f) (hgf.le (by first|exact Le.refl _|assumption|(repeat (first|assumption|(apply Le.trans;assumption))))) (by omega);rintro v5 h5 hle5 ⟨A5,k5,c5,l5,rfl,hL5⟩;skip)))|(apply GO_cond;exact rfl;all_goals (intro hc;try simp only [hcS,reduceCtorEq] at hc;try (exfalso;omega))))
        all_goals first
          | (exfalso;omega)
          | (exfalso;exact h2 (hb4.1 rfl))
          | (exact GO_retRC3 rfl rfl rfl QM rfl rfl rfl rfl ⟨ledV A5 k5 c5,rfl,A5,k5,c5,l5,rfl,hL5.1,hL5.2.1,hL5.2.2⟩)
    · have hch:=fun h' (hl : Le h h') => by
        have:=checkR_c h' s f (hf.le hl) hs
        rw [if_neg h1] at this;exact this
      have hadd : addL (fcs l) f = ([],false,70):=by unfold addL;rw [if_neg (by rw [hle0];omega),if_pos h1]
      rw [hadd]
      clear hle0
      repeat' (first|apply GO_seq|apply GO_skip|apply GO_region|apply GOl_nil|(apply GOl_pv;(iterate 3 exact rfl))|(apply GOl_load;exact rfl;exact Ld_blk rfl QM rfl;exact rfl;exact rfl)|(apply GOl_to;(iterate 3 exact rfl);(first|(apply OpTo_store;(iterate 3 exact rfl);exact QR;(iterate 3 exact rfl);skip)|(apply OpTo_box;exact rfl;intro b;skip)|(apply OpTo_alloc;exact rfl;intro b;skip)|(apply OpTo_res;exact rfl;exact has36;exact hck _ (by first|exact Le.refl _|assumption|(repeat (first|assumption|(apply Le.trans;assumption))));rintro v1 h3 hle1 rfl;skip)|(apply OpTo_val;exact rfl;exact has75;exact hch _ (by first|exact Le.refl _|assumption|(repeat (first|assumption|(apply Le.trans;assumption))));skip)))|(apply GO_cond;exact rfl;all_goals (intro hc;try simp only [hcS,reduceCtorEq] at hc;try (exfalso;omega))))
      all_goals first
        | (exfalso;omega)
        | (exact GO_retRC3 rfl rfl rfl QM rfl rfl rfl rfl ⟨ledV none 0 0,rfl,LedOut.nil _⟩)
  · have hadd : addL (fcs l) f = ([],false,e):=by unfold addL;rw [if_pos (by rw [← he];exact h0),he]
    rw [hadd]
    clear he
    repeat' (first|apply GO_seq|apply GO_region|apply GOl_nil|(apply GOl_pv;(iterate 3 exact rfl))|(apply GOl_load;exact rfl;exact Ld_blk rfl QM rfl;exact rfl;exact rfl)|(apply GOl_to;(iterate 3 exact rfl);(first|(apply OpTo_store;(iterate 3 exact rfl);exact QR;(iterate 3 exact rfl);skip)|(apply OpTo_box;exact rfl;intro b;skip)|(apply OpTo_alloc;exact rfl;intro b;skip)|(apply OpTo_res;exact rfl;exact has36;exact hck _ (by first|exact Le.refl _|assumption|(repeat (first|assumption|(apply Le.trans;assumption))));rintro v1 h3 hle1 rfl;skip)))|(apply GO_cond;exact rfl;all_goals (intro hc;try simp only [hcS,reduceCtorEq] at hc;try (exfalso;omega))))
    all_goals first
      | (exfalso;omega)
      | (exact GO_retRC3 rfl rfl rfl QM rfl rfl rfl rfl ⟨ledV none 0 0,rfl,LedOut.nil _⟩)
open Classical in
theorem mergeR_c (h : Ro) (A : Option Addr) (n c : Nat) (l : List (Fsh × Fct)) (hx : FactsAt h A n l) (B : Option Addr) (m d : Nat) (r : List (Fsh × Fct)) (hy : FactsAt h B m r) (hnm : n + m ≤ 65536) : Res Tryz.prog 48 #[ledV A n c,ledV B m d] h (fun u h' => ∃ v,u = .tuple #[v,.int .i64 (mergeL (fcs l) (fcs r)).2] ∧ LedOut h' v (mergeL (fcs l) (fcs r)).1):=by
  refine Res_intro (args:=[_,_]) ts_ok Go.Proofs.Tryz.func48 rfl rfl fun w0 X0 => ?_
  have hlen:=hx.row.len
  have hlen2:=hy.row.len
  obtain ⟨e,he⟩ : ∃ e,e = ledE (fcs l):=⟨_,rfl⟩
  obtain ⟨e2,he2⟩ : ∃ e2,e2 = ledE (fcs r):=⟨_,rfl⟩
  have hck:=fun h' (hl : Le h h') => checkLR_e (c:=c) h' (hx.le hl) he.symm
  have hcm:=fun h' (hl : Le h h') => checkLR_e (c:=d) h' (hy.le hl) he2.symm
  by_cases h0 : e = 0
  · by_cases h1 : e2 = 0
    · have hok:=ledE_zero.1 (he ▸ h0)
      have hok2:=ledE_zero.1 (he2 ▸ h1)
      have hfa : fcs (l ++ r) = fcs l ++ fcs r:=List.map_append
      have hnl : newL (fcs (l ++ r)) = mergeL (fcs l) (fcs r):=by
        have hall : ∀ f ∈ fcs l ++ fcs r,FctOk f:=fun f hf => by
          rcases List.mem_append.1 hf with q|q
          · exact hok.2.1 f q
          · exact hok2.2.1 f q
        rw [hfa]
        unfold newL mergeL
        rw [if_pos hall,if_neg (by rw [← he];omega),if_neg (by rw [← he2];omega)]
        rfl
      have hfat : ∀ p ∈ l ++ r,FAt h p.1 p.2 ∧ FSm p.2:=fun p hp => by
        rcases List.mem_append.1 hp with q|q
        · exact hx.fat p q
        · exact hy.fat p q
      have hnew:=fun h' A' (hl : Le h h') c' (hs : SlOf encF82 82 h' A' (0 + n + m) ([] ++ l ++ r)) => newR_c h' A' (0 + n + m) c' (l ++ r) ⟨by simpa using hs,fun p hp => ⟨(hfat p hp).1.le hl,(hfat p hp).2⟩,by omega⟩ (by omega)
      rw [hnl] at hnew
      generalize mergeL (fcs l) (fcs r) = G at *
      subst h0 h1
      clear he he2
      repeat' (first|apply GO_seq|apply GO_skip|apply GO_region|apply GOl_nil|(apply GOl_pv;(iterate 3 exact rfl))|(apply GOl_load;exact rfl;exact Ld_blk rfl QM rfl;exact rfl;exact rfl)|(apply GOl_to;(iterate 3 exact rfl);(first|(apply OpTo_box;exact rfl;intro b;skip)|(apply OpTo_alloc;exact rfl;intro b;skip)|(apply OpTo_res;exact rfl;exact has36;(first|exact hck _ (by first|exact Le.refl _|assumption|(repeat (first|assumption|(apply Le.trans;assumption))))|exact hcm _ (by first|exact Le.refl _|assumption|(repeat (first|assumption|(apply Le.trans;assumption)))));rintro v1 h3 hle1 rfl;skip)))|(apply GO_drawp (n:=7) [0,1,2,3,4,5,6,7,8,9,10,11] [(1,0),(2,0),(4,0),(5,0),(0,1),(3,1),(6,1),(7,1),(8,0),(9,0),(10,1),(11,0)];kernel_rfl)|(apply GP_pv;exact rfl;kernel_rfl;(iterate 3 exact rfl))|(apply GP_loadB;exact rfl;kernel_rfl;(iterate 3 exact rfl);exact QM;exact rfl;exact rfl)|(apply GP_real;exact rfl;kernel_rfl;(iterate 3 exact rfl);(first|(apply OpTo_store;(iterate 3 exact rfl);exact QR;(iterate 3 exact rfl);refine ⟨Le.refl _,QN,?_⟩)|(apply OpTo_buildSliceO (n:=0);(iterate 3 exact rfl);exact List.cons_ne_nil _ _;(iterate 6 exact rfl);intro b8;refine ⟨Le.refl _,QN,?_⟩)|(apply OpTo_appendS (enc:=encF82) (n:=0) (xs:=[]) (ys:=l);(iterate 7 exact rfl);exact (hx.row.le (by first|exact Le.refl _|assumption|(repeat (first|assumption|(apply Le.trans;assumption)))));exact encF82_len;exact (fun x => allOne_ok (factC_one x.1 x.2));intro v1;exact QR;omega;exact rfl;intro A8 c8;refine ⟨Le.refl _,QN,?_⟩)|(apply OpTo_appendSR (enc:=encF82) (n:=0 + n) (xs:=[] ++ l) (ys:=r);(iterate 7 exact rfl);exact (hy.row.le (by first|exact Le.refl _|assumption|(repeat (first|assumption|(apply Le.trans;assumption)))));exact encF82_len;exact (fun x => allOne_ok (factC_one x.1 x.2));exact QK;(rw [List.nil_append];omega);omega;exact rfl;intro A9 c9 h9 hle9 hnc9 hs9;refine ⟨hle9,QN,?_⟩)|(apply OpTo_res;exact rfl;exact has33;exact hnew _ A9 (by first|exact Le.refl _|assumption|(repeat (first|assumption|(apply Le.trans;assumption)))) c9 (hs9.le (by first|exact Le.refl _|assumption|(repeat (first|assumption|(apply Le.trans;assumption)))));rintro v5 h5 hle5 ⟨w5,rfl,hw5⟩;obtain ⟨A5,k5,c5,l5,rfl,hL5⟩:=ledOut_facts hw5;refine ⟨hle5,QN,?_⟩)))|(apply GP_done;kernel_rfl;exact rfl)|(apply GO_cond;exact rfl;all_goals (intro hc;try simp only [hcS,reduceCtorEq] at hc;try (exfalso;omega))))
      all_goals first
        | (exfalso;omega)
        | (exact GO_retRC2 rfl rfl rfl QM rfl rfl rfl ⟨ledV A5 k5 c5,rfl,A5,k5,c5,l5,rfl,hL5.1,hL5.2.1,hL5.2.2⟩)
    · have hmg : mergeL (fcs l) (fcs r) = ([],e2):=by unfold mergeL;rw [if_neg (by rw [← he];omega),if_pos (by rw [← he2];exact h1),he2]
      rw [hmg]
      clear he he2
      repeat' (first|apply GO_seq|apply GO_skip|apply GO_region|apply GOl_nil|(apply GOl_pv;(iterate 3 exact rfl))|(apply GOl_load;exact rfl;exact Ld_blk rfl QM rfl;exact rfl;exact rfl)|(apply GOl_to;(iterate 3 exact rfl);(first|(apply OpTo_store;(iterate 3 exact rfl);exact QR;(iterate 3 exact rfl);skip)|(apply OpTo_box;exact rfl;intro b;skip)|(apply OpTo_alloc;exact rfl;intro b;skip)|(apply OpTo_res;exact rfl;exact has36;(first|exact hck _ (by first|exact Le.refl _|assumption|(repeat (first|assumption|(apply Le.trans;assumption))))|exact hcm _ (by first|exact Le.refl _|assumption|(repeat (first|assumption|(apply Le.trans;assumption)))));rintro v1 h3 hle1 rfl;skip)))|(apply GO_cond;exact rfl;all_goals (intro hc;try simp only [hcS,reduceCtorEq] at hc;try (exfalso;omega))))
      all_goals first
        | (exfalso;omega)
        | (exact GO_retRC2 rfl rfl rfl QM rfl rfl rfl ⟨ledV none 0 0,rfl,LedOut.nil _⟩)
  · have hmg : mergeL (fcs l) (fcs r) = ([],e):=by unfold mergeL;rw [if_pos (by rw [← he];exact h0),he]
    rw [hmg]
    clear he he2
    repeat' (first|apply GO_seq|apply GO_region|apply GOl_nil|(apply GOl_pv;(iterate 3 exact rfl))|(apply GOl_load;exact rfl;exact Ld_blk rfl QM rfl;exact rfl;exact rfl)|(apply GOl_to;(iterate 3 exact rfl);(first|(apply OpTo_store;(iterate 3 exact rfl);exact QR;(iterate 3 exact rfl);skip)|(apply OpTo_box;exact rfl;intro b;skip)|(apply OpTo_alloc;exact rfl;intro b;skip)|(apply OpTo_res;exact rfl;exact has36;(first|exact hck _ (by first|exact Le.refl _|assumption|(repeat (first|assumption|(apply Le.trans;assumption))))|exact hcm _ (by first|exact Le.refl _|assumption|(repeat (first|assumption|(apply Le.trans;assumption)))));rintro v1 h3 hle1 rfl;skip)))|(apply GO_cond;exact rfl;all_goals (intro hc;try simp only [hcS,reduceCtorEq] at hc;try (exfalso;omega))))
    all_goals first
      | (exfalso;omega)
      | (exact GO_retRC2 rfl rfl rfl QM rfl rfl rfl ⟨ledV none 0 0,rfl,LedOut.nil _⟩)
end Go.Hw

import Derived.Test.YtajmniiiahhfaaaGreatDoorUR9
set_option linter.unusedVariables false
set_option linter.unusedSimpArgs false
set_option maxRecDepth 100000
set_option maxHeartbeats 8000000
namespace Go.Hw
open Go
attribute [local irreducible] GO GOl GDp Val Fn Res CellsAt ValE Blk OwnS MapA OwnPf Has Yl idF
open Go.Proofs (Tryz.prog)
open Classical in
theorem newR_c (h : Ro) (A : Option Addr) (n c : Nat) (l : List (Fsh × Fct)) (hx : FactsAt h A n l) (hn : n ≤ 65536) : Res Tryz.prog 33 #[.slice A n c] h (fun u h' => ∃ v,u = .tuple #[v,.int .i64 (newL (fcs l)).2] ∧ LedOut h' v (newL (fcs l)).1):=by
  refine Res_intro (args:=[_]) ts_ok Go.Proofs.Tryz.func33 rfl rfl fun w0 X0 => ?_
  have hlen:=hx.row.len
  have h32 : In32 (fcs l):=In32_of hx.fat
  repeat' (first|apply GO_seq|apply GO_block|apply GO_region|apply GOl_nil|(apply GOl_pv;(iterate 3 exact rfl))|(apply GOl_to;(iterate 3 exact rfl);(first|(apply OpTo_alloc;exact rfl;intro b;skip))))
  generalize b = b0
  refine GO_loopT (X:=Nat) (fun k => k ≤ n ∧ ∀ p ∈ l.take k,FctOk p.2) (fun k => n - k) (fun k => [(4,.int .i64 k),(3,.int .i64 0),(2,.pointer (some ⟨b0,0,none⟩)),(0,.slice A n c)]) (fun _ => [Blk b0 47 [.slice none 0 0]]) (fun _ => h) 0 ⟨by omega,by simp⟩ QS QT rfl ?_
  rintro k ⟨hk,hI⟩ ih
  by_cases hkn : k < n
  · have a1:=hx.row.addrD hkn
    have c1:=hx.row.cellsD p0 hkn
    have et:=take7 p0 hlen hkn
    have hm:=mem7 p0 (show k < l.length by omega)
    have hfp:=hx.fat _ hm
    generalize l.getD k p0 = p at *
    have hch:=checkR_c h p.1 p.2 hfp.1 hfp.2
    by_cases hp : FctOk p.2
    · rw [if_pos hp] at hch
      repeat' (first|apply GO_seq|apply GO_skip|apply GO_inBlock|apply GO_block|apply GO_region|apply GOl_nil|(apply GOl_add;(iterate 3 exact rfl);omega;exact rfl;exact rfl)|(apply GOl_pv;(iterate 3 exact rfl))|(apply GOl_ov;exact rfl;exact rfl;(first|(apply OV_idxS (j:=k);(iterate 5 exact rfl);exact a1;(with_reducible exact rfl);omega)|(apply OV_load;exact rfl;exact Lv_ro rfl c1 rfl));exact QA)|(apply GOl_to;(iterate 3 exact rfl);(first|(apply OpTo_val;exact rfl;exact has75;exact hch;skip)))|(apply GO_cond;exact rfl;all_goals (intro hc;try simp only [hcS,reduceCtorEq] at hc;try (exfalso;omega))))
      all_goals (try (exfalso;omega))
      all_goals
        have h3:=ih (k + 1) ⟨by omega,by
          rw [et];intro q hq
          rw [List.mem_append,List.mem_singleton] at hq
          rcases hq with hq|rfl
          · exact hI q hq
          · exact hp⟩ (by omega)
        refine GO_fit QS QT (h3)
    · rw [if_neg hp] at hch
      have he : newL (fcs l) = ([],70):=by
        unfold newL;rw [if_neg (fun w => hp (w p.2 (List.mem_map.2 ⟨p,hm,rfl⟩)))]
      rw [he]
      repeat' (first|apply GO_seq|apply GO_skip|apply GO_block|apply GO_region|apply GOl_nil|(apply GOl_pv;(iterate 3 exact rfl))|(apply GOl_ov;exact rfl;exact rfl;(first|(apply OV_idxS (j:=k);(iterate 5 exact rfl);exact a1;(with_reducible exact rfl);omega)|(apply OV_load;exact rfl;exact Lv_ro rfl c1 rfl));exact QA)|(apply GOl_to;(iterate 3 exact rfl);(first|(apply OpTo_store;(iterate 3 exact rfl);exact QR;(iterate 3 exact rfl);skip)|(apply OpTo_val;exact rfl;exact has75;exact hch;skip)))|(apply GO_cond;exact rfl;all_goals (intro hc;try simp only [hcS,reduceCtorEq] at hc;try (exfalso;omega))))
      all_goals first
        | (exfalso;omega)
        | (exact GO_retRC2 rfl rfl rfl QM rfl rfl rfl ⟨ledV none 0 0,rfl,LedOut.nil _⟩)
  · rw [List.take_of_length_le (by omega)] at hI
    clear ih
    have h2 : ∀ f ∈ fcs l,FctOk f:=fun f hf => by obtain ⟨p,hp,rfl⟩:=List.mem_map.1 hf;exact hI p hp
    have hg : ∀ p ∈ l,FGd h p:=fun p hp => ⟨(hx.fat p hp).1,(hx.fat p hp).2,hI p hp⟩
    rw [new_ok h32 h2 (by rw [List.length_map];omega)]
    repeat' (first|apply GO_seq|apply GO_block|apply GO_region|apply GOl_nil|(apply GO_exit;exact rfl)|(apply GOl_pv;(iterate 3 exact rfl))|(apply GOl_to;(iterate 3 exact rfl);(first|(apply OpTo_buildSliceR (cs:=[]);(iterate 3 exact rfl);exact List.cons_ne_nil _ _;(iterate 4 exact rfl);intro b1 h1 hle1 hcs1;skip)))|(apply GO_cond;exact rfl;all_goals (intro hc;try simp only [hcS,reduceCtorEq] at hc;try (exfalso;omega))))
    have hL0 : LedIs h1 (some ⟨b1,0,none⟩) 0 0 [] (canonL (fcs (l.take 0))):=⟨Nat.le_refl _,⟨SlOf.of_flat (fun _ => rfl) rfl hcs1,fun p hp => absurd hp (by simp),by omega⟩,rfl⟩
    refine GO_loopT (X:=Nat × Option Addr × Nat × Nat × List (Fsh × Fct) × Ro) (fun x => x.1 ≤ n ∧ Le h x.2.2.2.2.2 ∧ LedIs x.2.2.2.2.2 x.2.1 x.2.2.1 x.2.2.2.1 x.2.2.2.2.1 (canonL (fcs (l.take x.1)))) (fun x => n - x.1)
      (fun x => [(7,.int .i64 x.1),(6,.slice x.2.1 x.2.2.1 x.2.2.2.1),(3,.int .i64 0),(2,.pointer (some ⟨b0,0,none⟩)),(0,.slice A n c)]) (fun _ => [Blk b0 47 [.slice none 0 0]]) (fun x => x.2.2.2.2.2) (0,some ⟨b1,0,none⟩,0,0,[],h1) ⟨by dsimp only;omega,hle1,hL0⟩ QS QT rfl ?_
    rintro ⟨k,A3,k3,c3,l3,hh⟩ ⟨hk,hle,hL⟩ ih
    dsimp only at hk hle hL ih ⊢
    have ht32 : In32 (fcs (l.take k)):=fun f hf => h32 f (fcs_sub (fun p hp => List.mem_of_mem_take hp) f hf)
    have hcl:=canonL_len ht32
    rw [← hL.2.2,List.length_map,List.length_map,hL.2.1.row.len,List.length_take] at hcl
    by_cases hkn : k < n
    · have a1:=hx.row.addrD hkn
      have c1:=(hx.row.cellsD p0 hkn).le hle
      have et:=take7 p0 hlen hkn
      have hm:=mem7 p0 (show k < l.length by omega)
      have hgp:=hg _ hm
      generalize l.getD k p0 = p at *
      have hw:=withR_c hh A3 k3 c3 l3 hL.2.1 hL.1 p (hgp.le hle) (by omega)
      repeat' (first|apply GO_seq|apply GO_skip|apply GO_inBlock|apply GO_block|apply GO_region|apply GOl_nil|(apply GOl_add;(iterate 3 exact rfl);omega;exact rfl;exact rfl)|(apply GOl_pv;(iterate 3 exact rfl))|(apply GOl_ov;exact rfl;exact rfl;(first|(apply OV_idxS (j:=k);(iterate 5 exact rfl);exact a1;(with_reducible exact rfl);omega)|(apply OV_load;exact rfl;exact Lv_ro rfl c1 rfl));exact QA)|(apply GOl_to;(iterate 3 exact rfl);(first|(apply OpTo_res;exact rfl;exact has76;exact hw;rintro v2 h2 hle2 ⟨A4,k4,c4,l4,rfl,hL4⟩;skip)))|(apply GO_cond;exact rfl;all_goals (intro hc;try simp only [hcS,reduceCtorEq] at hc;try (exfalso;omega))))
      all_goals
        have e4 : insF p.2 (fcs l3) = canonL (fcs (l.take (k + 1))):=by
          have e5 : fcs (l.take (k + 1)) = fcs (l.take k) ++ [p.2]:=by rw [et];unfold fcs;rw [List.map_append];rfl
          rw [e5,canonL_snoc,if_pos hgp.2.2,hL.2.2]
        rw [e4] at hL4
        have h3:=ih (k + 1,A4,k4,c4,l4,h2) ⟨by dsimp only;omega,hle.trans hle2,hL4⟩ (by dsimp only;omega)
        dsimp only at h3
        refine GO_fit QS QT (h3)
    · rw [List.take_of_length_le (by omega)] at hL
      clear ih
      repeat' (first|apply GO_seq|apply GO_skip|apply GO_region|apply GOl_nil|(apply GO_exit;exact rfl)|(apply GOl_pv;(iterate 3 exact rfl))|(apply GOl_to;(iterate 3 exact rfl);(first|(apply OpTo_store;(iterate 3 exact rfl);exact QR;(iterate 3 exact rfl);skip)))|(apply GO_cond;exact rfl;all_goals (intro hc;try simp only [hcS,reduceCtorEq] at hc;try (exfalso;omega))))
      all_goals first
        | (exfalso;omega)
        | (exact GO_retRC2 rfl rfl rfl QM rfl rfl rfl ⟨ledV A3 k3 c3,rfl,A3,k3,c3,l3,rfl,hL.1,hL.2.1,hL.2.2⟩)
theorem ledOut_facts {h : Ro} {v : Value} {L : List Fct} (a : LedOut h v L) : ∃ A k c l,v = ledV A k c ∧ LedIs h A k c l L:=by
  obtain ⟨A,k,c,l,e1,e2,e3,e4⟩:=a
  exact ⟨A,k,c,l,e1,e2,e3,e4⟩
theorem checkLR_e (h : Ro) {A : Option Addr} {n c : Nat} {l : List (Fsh × Fct)} {e : Int} (hx : FactsAt h A n l) (he : ledE (fcs l) = e) : Res Tryz.prog 36 #[ledV A n c] h (fun u _ => u = .int .i64 e):=by
  rw [← he];exact checkLR_c h A n c l hx
end Go.Hw

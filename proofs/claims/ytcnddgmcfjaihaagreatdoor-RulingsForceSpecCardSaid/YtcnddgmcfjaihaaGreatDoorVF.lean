import Derived.Test.YtcnddgmcfjaihaaGreatDoorVE
import Derived.Test.YtcnddgmcfjaihaaGreatDoorVC
import Derived.Test.YtcnddgmcfjaihaaGreatDoorRA
set_option linter.unusedVariables false
set_option linter.unusedSimpArgs false
set_option maxRecDepth 100000
set_option maxHeartbeats 8000000
namespace Go.Hw
open Go
attribute [local irreducible] GO GOl GDp Val Fn Res CellsAt ValE Blk OwnS MapA OwnPf Has Yl SepA forceL
open Go.Proofs (Tryz.prog)
end Go.Hw
set_option linter.unusedVariables false
set_option linter.unusedSimpArgs false
set_option maxRecDepth 100000
set_option maxHeartbeats 8000000
namespace Go.Hw
open Go
attribute [local irreducible] GO GOl GDp Val Fn Res CellsAt ValE Blk OwnS MapA OwnPf Has Yl SepA forceL
open Go.Proofs (Tryz.prog)
theorem fcs_snoc (l : List (Fsh × Fct)) (p : Fsh × Fct) : fcs (l ++ [p]) = fcs l ++ [p.2]:=by unfold fcs;rw [List.map_append];rfl
theorem lastR10_c (h : Ro) (A : Option Addr) (n c : Nat) (l : List (Fsh × Fct)) (hx : FactsAt h A n l) (num : Int) : Val Tryz.prog 103 #[.slice A n c,.int .i64 num] h (.int .i64 (lastI (fcs l) num)):=by
  refine Val_intro (args:=[_,_]) ts_ok Go.Proofs.Tryz.func103 rfl rfl fun w0 X0 => ?_
  have hlen:=hx.row.len
  have hn:=hx.small
  repeat' (first|apply GO_seq|apply GO_block|apply GO_region|apply GOl_nil|(apply GOl_pv;(iterate 3 exact rfl)))
  refine GO_loopT (X:=Nat) (fun k => k ≤ n) (fun k => n - k) (fun k => [(6,.int .i64 k),(5,.int .i64 (lastI (fcs (l.take k)) num)),(0,.slice A n c),(1,.int .i64 num)]) (fun _ => []) (fun _ => h) 0 (by omega) QS QT rfl ?_
  rintro k hk ih
  by_cases hkn : k < n
  · have a1:=hx.row.addrD hkn
    have cc : CellsAt h ((addrD A).add (k * ty54.size)) (encF82 (l.getD k p0)):=hx.row.cellsD p0 hkn
    have et:=take7 p0 hlen hkn
    generalize l.getD k p0 = p at *
    have hsn : lastI (fcs (l.take (k + 1))) num = if OfCase num p.2 then max (lastI (fcs (l.take k)) num) p.2.ru.inst else lastI (fcs (l.take k)) num:=by rw [et,fcs_snoc,lastI_snoc]
    generalize lastI (fcs (l.take k)) num = q at *
    have h3:=ih (k + 1) (by omega) (by omega)
    by_cases hP : OfCase num p.2
    · rw [if_pos hP] at hsn
      obtain ⟨p1,p2⟩:=hP
      rw [hsn] at h3
      repeat' (first|apply GO_seq|apply GO_skip|apply GO_inBlock|apply GO_block|apply GO_region|apply GOl_nil|(apply GOl_add;(iterate 3 exact rfl);omega;exact rfl;exact rfl)|(apply GOl_pv;(iterate 3 exact rfl))|(apply GOl_ov;exact rfl;exact rfl;(first|(apply OV_idxS (j:=k);(iterate 5 exact rfl);exact a1;(with_reducible exact rfl);omega)|(apply OV_load;exact rfl;first|exact Lv_ro rfl (by assumption) rfl|exact Lv_roF rfl (by assumption) rfl|exact Lv_roF2 rfl (by assumption) rfl|exact Lv_roF3 rfl (by assumption) rfl));exact QA)|(apply GO_cond;exact rfl;all_goals (intro hc;try simp only [hcS,reduceCtorEq] at hc;try (exfalso;omega)))|(apply GOl_split;exact rfl;exact rfl;all_goals (intro hc;try simp only [hcS,reduceCtorEq] at hc;try (exfalso;omega))))
      all_goals first
        | (exfalso;omega)
        | contradiction
        | (refine GO_fit QS QT (h3))
    · rw [if_neg hP] at hsn
      have hP2 : ¬ (p.2.kind = 4 ∧ p.2.ru.case = num):=hP
      rw [hsn] at h3
      repeat' (first|apply GO_seq|apply GO_skip|apply GO_inBlock|apply GO_block|apply GO_region|apply GOl_nil|(apply GOl_unwanted;exact rfl;exact rfl)|(apply GOl_add;(iterate 3 exact rfl);omega;exact rfl;exact rfl)|(apply GOl_pv;(iterate 3 exact rfl))|(apply GOl_ov;exact rfl;exact rfl;(first|(apply OV_idxS (j:=k);(iterate 5 exact rfl);exact a1;(with_reducible exact rfl);omega)|(apply OV_load;exact rfl;first|exact Lv_ro rfl (by assumption) rfl|exact Lv_roF rfl (by assumption) rfl|exact Lv_roF2 rfl (by assumption) rfl|exact Lv_roF3 rfl (by assumption) rfl));exact QA)|(apply GO_cond;exact rfl;all_goals (intro hc;try simp only [hcS,reduceCtorEq] at hc;try (exfalso;omega)))|(apply GOl_split;exact rfl;exact rfl;all_goals (intro hc;try simp only [hcS,reduceCtorEq] at hc;try (exfalso;omega))))
      all_goals first
        | (exfalso;omega)
        | (exfalso;exact hP2 ⟨by assumption,by assumption⟩)
        | (refine GO_fit QS QT (h3))
  · rw [List.take_of_length_le (by omega)]
    clear ih
    repeat' (first|apply GO_seq|apply GO_region|apply GOl_nil|(apply GO_exit;exact rfl)|(apply GOl_pv;(iterate 3 exact rfl))|(apply GO_cond;exact rfl;all_goals (intro hc;try simp only [hcS,reduceCtorEq] at hc;try (exfalso;omega)))|(apply GO_retV1;(iterate 3 exact rfl)))
    all_goals rfl
theorem standR10_c (h : Ro) (A : Option Addr) (n c : Nat) (l : List (Fsh × Fct)) (hx : FactsAt h A n l) (num i : Int) : Val Tryz.prog 40 #[.slice A n c,.int .i64 num,.int .i64 i] h (.int .i64 (idxP (fun p : Fsh × Fct => decide (OfCase num p.2 ∧ p.2.ru.inst = i)) l 0)):=by
  refine Val_intro (args:=[_,_,_]) ts_ok Go.Proofs.Tryz.func40 rfl rfl fun w0 X0 => ?_
  have hlen:=hx.row.len
  have hn:=hx.small
  obtain ⟨P,hPd⟩ : ∃ P,P = fun p : Fsh × Fct => decide (OfCase num p.2 ∧ p.2.ru.inst = i):=⟨_,rfl⟩
  rw [← hPd]
  repeat' (first|apply GO_seq|apply GO_block|apply GO_region|apply GOl_nil|(apply GOl_pv;(iterate 3 exact rfl)))
  refine GO_loopT (X:=Nat) (fun k => k ≤ n ∧ idxP P (l.drop k) k = idxP P l 0) (fun k => n - k) (fun k => [(7,.int .i64 k),(0,.slice A n c),(1,.int .i64 num),(2,.int .i64 i)]) (fun _ => []) (fun _ => h) 0 ⟨by omega,rfl⟩ QS QT rfl ?_
  rintro k ⟨hk,hI⟩ ih
  by_cases hkn : k < n
  · have a1:=hx.row.addrD hkn
    have cc : CellsAt h ((addrD A).add (k * ty54.size)) (encF82 (l.getD k p0)):=hx.row.cellsD p0 hkn
    have hd:=drop_consD p0 hlen hkn
    generalize l.getD k p0 = p at *
    have hPp : P p = decide (OfCase num p.2 ∧ p.2.ru.inst = i):=by rw [hPd]
    by_cases hP : OfCase num p.2 ∧ p.2.ru.inst = i
    · have e9 : idxP P l 0 = k:=by rw [← hI,hd,idxP,hPp,decide_eq_true hP];rfl
      rw [e9]
      obtain ⟨⟨p1,p2⟩,p3⟩:=hP
      repeat' (first|apply GO_seq|apply GO_skip|apply GO_block|apply GO_region|apply GOl_nil|(apply GOl_pv;(iterate 3 exact rfl))|(apply GOl_ov;exact rfl;exact rfl;(first|(apply OV_idxS (j:=k);(iterate 5 exact rfl);exact a1;(with_reducible exact rfl);omega)|(apply OV_load;exact rfl;first|exact Lv_ro rfl (by assumption) rfl|exact Lv_roF rfl (by assumption) rfl|exact Lv_roF2 rfl (by assumption) rfl|exact Lv_roF3 rfl (by assumption) rfl));exact QA)|(apply GO_cond;exact rfl;all_goals (intro hc;try simp only [hcS,reduceCtorEq] at hc;try (exfalso;omega)))|(apply GOl_split;exact rfl;exact rfl;all_goals (intro hc;try simp only [hcS,reduceCtorEq] at hc;try (exfalso;omega))))
      all_goals first
        | (exfalso;omega)
        | contradiction
        | (exact GO_retV1 rfl rfl rfl rfl)
    · have h3:=ih (k + 1) ⟨by omega,by rw [← hI,hd,idxP,hPp,decide_eq_false hP];rfl⟩ (by omega)
      repeat' (first|apply GO_seq|apply GO_skip|apply GO_inBlock|apply GO_block|apply GO_region|apply GOl_nil|(apply GOl_unwanted;exact rfl;exact rfl)|(apply GOl_add;(iterate 3 exact rfl);omega;exact rfl;exact rfl)|(apply GOl_pv;(iterate 3 exact rfl))|(apply GOl_ov;exact rfl;exact rfl;(first|(apply OV_idxS (j:=k);(iterate 5 exact rfl);exact a1;(with_reducible exact rfl);omega)|(apply OV_load;exact rfl;first|exact Lv_ro rfl (by assumption) rfl|exact Lv_roF rfl (by assumption) rfl|exact Lv_roF2 rfl (by assumption) rfl|exact Lv_roF3 rfl (by assumption) rfl));exact QA)|(apply GO_cond;exact rfl;all_goals (intro hc;try simp only [hcS,reduceCtorEq] at hc;try (exfalso;omega)))|(apply GOl_split;exact rfl;exact rfl;all_goals (intro hc;try simp only [hcS,reduceCtorEq] at hc;try (exfalso;omega))))
      all_goals first
        | (exfalso;omega)
        | (exfalso;exact hP ⟨⟨by assumption,by assumption⟩,by assumption⟩)
        | (refine GO_fit QS QT (h3))
  · rw [show k = l.length by omega,List.drop_length] at hI
    have e9 : idxP P l 0 = -1:=hI.symm
    rw [e9]
    clear ih
    repeat' (first|apply GO_seq|apply GO_region|apply GOl_nil|(apply GO_exit;exact rfl)|(apply GOl_pv;(iterate 3 exact rfl))|(apply GO_cond;exact rfl;all_goals (intro hc;try simp only [hcS,reduceCtorEq] at hc;try (exfalso;omega)))|(apply GO_retV1;(iterate 3 exact rfl)))
    all_goals rfl
theorem suspR10_c (h : Ro) (A : Option Addr) (n c : Nat) (l : List (Fsh × Fct)) (hx : FactsAt h A n l) (num : Int) : Val Tryz.prog 47 #[.slice A n c,.int .i64 num] h (.bool (decide (HeldI (fcs l) num))):=by
  refine Val_intro (args:=[_,_]) ts_ok Go.Proofs.Tryz.func47 rfl rfl fun w0 X0 => ?_
  have hlen:=hx.row.len
  have hn:=hx.small
  have hla:=lastR10_c h A n c l hx num
  obtain ⟨j,hj⟩ : ∃ j,j = lastI (fcs l) num:=⟨_,rfl⟩
  rw [← hj] at hla
  have hHd : HeldI (fcs l) num ↔ 0 < j ∧ ∃ p ∈ l,p.2.kind = 5 ∧ p.2.aCase = num ∧ p.2.aInst = j ∧ p.2.aSusp = true:=by
    unfold HeldI
    rw [← hj]
    refine and_congr_right fun _ => ⟨fun ⟨f,hf,q⟩ => ?_,fun ⟨p,hp,q⟩ => ⟨p.2,List.mem_map_of_mem hp,q⟩⟩
    obtain ⟨p,hp,rfl⟩:=List.mem_map.1 hf
    exact ⟨p,hp,q⟩
  repeat' (first|apply GO_seq|apply GO_block|apply GO_region|apply GOl_nil|(apply GOl_pv;(iterate 3 exact rfl))|(apply GOl_to;(iterate 3 exact rfl);(first|(apply OpTo_val;exact rfl;exact has103;exact hla;skip))))
  refine GO_loopT (X:=Nat) (fun k => k ≤ n ∧ ∀ p ∈ l.take k,¬ (0 < j ∧ p.2.kind = 5 ∧ p.2.aCase = num ∧ p.2.aInst = j ∧ p.2.aSusp = true)) (fun k => n - k) (fun k => [(6,.int .i64 k),(5,.int .i64 j),(0,.slice A n c),(1,.int .i64 num)]) (fun _ => []) (fun _ => h) 0 ⟨by omega,by simp⟩ QS QT rfl ?_
  rintro k ⟨hk,hI⟩ ih
  by_cases hkn : k < n
  · have a1:=hx.row.addrD hkn
    have cc : CellsAt h ((addrD A).add (k * ty54.size)) (encF82 (l.getD k p0)):=hx.row.cellsD p0 hkn
    have et:=take7 p0 hlen hkn
    have hme:=mem7 p0 (show k < l.length by omega)
    generalize l.getD k p0 = p at *
    by_cases hP : 0 < j ∧ p.2.kind = 5 ∧ p.2.aCase = num ∧ p.2.aInst = j ∧ p.2.aSusp = true
    · rw [decide_eq_true (hHd.2 ⟨hP.1,p,hme,hP.2⟩)]
      obtain ⟨p1,p2,p3,p4,p5⟩:=hP
      repeat' (first|apply GO_seq|apply GO_skip|apply GO_inBlock|apply GO_block|apply GO_region|apply GOl_nil|(apply GOl_add;(iterate 3 exact rfl);omega;exact rfl;exact rfl)|(apply GOl_pv;(iterate 3 exact rfl))|(apply GOl_load;exact rfl;exact Ld_blk rfl QM rfl;exact rfl;exact rfl)|(apply GOl_ov;exact rfl;exact rfl;(first|(apply OV_idxS (j:=k);(iterate 5 exact rfl);exact a1;(with_reducible exact rfl);omega)|(apply OV_load;exact rfl;first|exact Lv_ro rfl (by assumption) rfl|exact Lv_roF rfl (by assumption) rfl|exact Lv_roF2 rfl (by assumption) rfl|exact Lv_roF3 rfl (by assumption) rfl));exact QA)|(apply GOl_to;(iterate 3 exact rfl);(first|(apply OpTo_store;(iterate 3 exact rfl);exact QR;(iterate 3 exact rfl);skip)|(apply OpTo_alloc;exact rfl;intro b;skip)))|(apply GO_cond;exact rfl;all_goals (intro hc;try simp only [hcS,reduceCtorEq] at hc;try (exfalso;omega)))|(apply GOl_split;exact rfl;exact rfl;all_goals (intro hc;try simp only [hcS,reduceCtorEq] at hc;try (exfalso;omega))))
      all_goals first
        | (exfalso;omega)
        | contradiction
        | (exact GO_retV1 rfl rfl rfl rfl)
        | (exfalso;exact absurd (hc.symm.trans p5) (by decide))
    · have h3:=ih (k + 1) ⟨by omega,fun q hq => by
        rw [et,List.mem_append,List.mem_singleton] at hq
        rcases hq with w|w
        · exact hI q w
        · rw [w];exact hP⟩ (by omega)
      repeat' (first|apply GO_seq|apply GO_skip|apply GO_inBlock|apply GO_block|apply GO_region|apply GOl_nil|(apply GOl_unwanted;exact rfl;exact rfl)|(apply GOl_add;(iterate 3 exact rfl);omega;exact rfl;exact rfl)|(apply GOl_pv;(iterate 3 exact rfl))|(apply GOl_load;exact rfl;exact Ld_blk rfl QM rfl;exact rfl;exact rfl)|(apply GOl_ov;exact rfl;exact rfl;(first|(apply OV_idxS (j:=k);(iterate 5 exact rfl);exact a1;(with_reducible exact rfl);omega)|(apply OV_load;exact rfl;first|exact Lv_ro rfl (by assumption) rfl|exact Lv_roF rfl (by assumption) rfl|exact Lv_roF2 rfl (by assumption) rfl|exact Lv_roF3 rfl (by assumption) rfl));exact QA)|(apply GOl_to;(iterate 3 exact rfl);(first|(apply OpTo_store;(iterate 3 exact rfl);exact QR;(iterate 3 exact rfl);skip)|(apply OpTo_alloc;exact rfl;intro b;skip)))|(apply GO_cond;exact rfl;all_goals (intro hc;try simp only [hcS,reduceCtorEq] at hc;try (exfalso;omega)))|(apply GOl_split;exact rfl;exact rfl;all_goals (intro hc;try simp only [hcS,reduceCtorEq] at hc;try (exfalso;omega))))
      all_goals first
        | (exfalso;omega)
        | (exfalso;exact hP ⟨by assumption,by assumption,by assumption,by assumption,by assumption⟩)
        | (exfalso;refine hP ⟨by omega,?_,?_,?_,?_⟩ <;> assumption)
        | (refine GO_fit QS QT (h3))
  · rw [List.take_of_length_le (by omega)] at hI
    rw [decide_eq_false fun q => by
      obtain ⟨q1,p,hp,q2⟩:=hHd.1 q
      exact hI p hp ⟨q1,q2⟩]
    clear ih
    repeat' (first|apply GO_seq|apply GO_region|apply GOl_nil|(apply GO_exit;exact rfl)|(apply GOl_pv;(iterate 3 exact rfl))|(apply GO_cond;exact rfl;all_goals (intro hc;try simp only [hcS,reduceCtorEq] at hc;try (exfalso;omega)))|(apply GO_retV1;(iterate 3 exact rfl)))
    all_goals rfl
end Go.Hw
set_option linter.unusedVariables false
set_option linter.unusedSimpArgs false
set_option maxRecDepth 100000
set_option maxHeartbeats 8000000
namespace Go.Hw
open Go
attribute [local irreducible] GO GOl GDp Val Fn Res CellsAt ValE Blk OwnS MapA OwnPf Has Yl SepA forceL
open Go.Proofs (Tryz.prog)
theorem insI_same {n : Int} : ∀ {L : List Int},L.Pairwise (· < ·) → n ∈ L → insI n L = L
  | [],_,h => by cases h
  | m :: r,hs,h => by
    obtain ⟨h1,h2⟩:=List.pairwise_cons.1 hs
    unfold insI
    split
    · rename_i hm
      rcases List.mem_cons.1 h with e|e
      · omega
      · rw [insI_same h2 e]
    · split
      · rfl
      · rename_i hm he
        rcases List.mem_cons.1 h with e|e
        · exact absurd e.symm he
        · have:=h1 n e;omega
theorem insI_at {n : Int} : ∀ {L : List Int} {k : Nat},k ≤ L.length → (∀ i,i < k → L.getD i 0 < n) → (k < L.length → n < L.getD k 0) → insI n L = L.take k ++ n :: L.drop k
  | [],k,hk,_,_ => by
    have : k = 0:=by simpa using hk
    subst this;rfl
  | y :: r,0,_,_,h2 => by
    have:=h2 (by simp)
    have h3 : n < y:=this
    unfold insI
    rw [if_neg (by omega),if_neg (by omega)]
    rfl
  | y :: r,k + 1,hk,h1,h2 => by
    have h3 : y < n:=h1 0 (by omega)
    unfold insI
    rw [if_pos h3,insI_at (L:=r) (k:=k) (by simpa using hk) (fun i hi => h1 (i + 1) (by omega)) (fun hq => h2 (by simpa using hq))]
    rfl
theorem insI_len (n : Int) : ∀ L : List Int,(insI n L).length ≤ L.length + 1
  | [] => by simp [insI]
  | y :: r => by
    have:=insI_len n r
    unfold insI
    split
    · simp;omega
    · split
      · simp
      · simp
theorem casesL_len (C : List Fct) : (casesL C).length ≤ C.length:=by
  refine rev_ind (P:=fun C => (casesL C).length ≤ C.length) (by simp [casesL]) (fun C f ih => ?_) C
  show (casesL (C ++ [f])).length ≤ (C ++ [f]).length
  rw [casesL_snoc,List.length_append]
  split
  · have:=insI_len f.ru.case (casesL C)
    simp only [List.length_cons,List.length_nil]
    have : (casesL C).length ≤ C.length:=ih
    omega
  · have : (casesL C).length ≤ C.length:=ih
    omega
theorem casesR_c (h : Ro) (A : Option Addr) (n c : Nat) (l : List (Fsh × Fct)) (hx : FactsAt h A n l) : Res Tryz.prog 102 #[.slice A n c] h (fun u h' => ∃ A' c',u = .slice A' (casesL (fcs l)).length c' ∧ SlOf encI 1 h' A' (casesL (fcs l)).length (casesL (fcs l))):=by
  refine Res_intro (args:=[_]) ts_ok Go.Proofs.Tryz.func102 rfl rfl fun w0 X0 => ?_
  have hlen:=hx.row.len
  have hn:=hx.small
  repeat' (first|apply GO_seq|apply GO_block|apply GO_region|apply GOl_nil|(apply GOl_pv;(iterate 3 exact rfl))|(apply GOl_to;(iterate 3 exact rfl);(first|(apply OpTo_buildSliceR (cs:=[]);(iterate 3 exact rfl);exact List.cons_ne_nil _ _;(iterate 4 exact rfl);intro b1 h1 hle1 hcs1;skip))))
  refine GO_loopT (X:=Nat × List Int × Option Addr × Nat × Ro) (fun x => x.1 ≤ n ∧ Le h x.2.2.2.2 ∧ x.2.1 = casesL (fcs (l.take x.1)) ∧ SlOf encI 1 x.2.2.2.2 x.2.2.1 x.2.1.length x.2.1 ∧ x.2.1.length ≤ x.2.2.2.1) (fun x => n - x.1)
    (fun x => [(4,.int .i64 x.1),(3,.slice x.2.2.1 x.2.1.length x.2.2.2.1),(0,.slice A n c)]) (fun _ => []) (fun x => x.2.2.2.2) (0,[],some ⟨b1,0,none⟩,0,h1) ⟨by dsimp only;omega,hle1,rfl,SlOf.nil,Nat.le_refl _⟩ QS QT rfl ?_
  rintro ⟨i,out,A3,c3,hh⟩ ⟨hi,hle,ho,hso,hoc⟩ ih
  dsimp only at hi hle ho hso hoc ih ⊢
  obtain ⟨k3,hk3⟩ : ∃ k3,k3 = out.length:=⟨_,rfl⟩
  have hol : k3 ≤ i:=by
    have:=casesL_len (fcs (l.take i))
    rw [← ho,List.length_map,List.length_take] at this
    omega
  have hsorted : out.Pairwise (· < ·):=by rw [ho];exact casesL_sorted _
  rw [← hk3] at hso hoc ⊢
  by_cases hin : i < n
  · have a1:=hx.row.addrD hin
    have c1 : CellsAt hh ((addrD A).add (i * ty54.size)) (encF82 (l.getD i p0)):=(hx.row.cellsD p0 hin).le hle
    have et:=take7 p0 hlen hin
    generalize l.getD i p0 = p at *
    have e5 : casesL (fcs (l.take (i + 1))) = if p.2.kind = 4 then insI p.2.ru.case out else out:=by rw [et,fcs_snoc,casesL_snoc,← ho]
    have hmm:=fun h' (hl : Le hh h') => memR_c h' A3 k3 c3 out (hso.le hl) (by omega) p.2.ru.case
    by_cases hk4 : p.2.kind = 4
    · rw [if_pos hk4] at e5
      by_cases hmem : p.2.ru.case ∈ out
      · rw [insI_same hsorted hmem] at e5
        rw [decide_eq_true hmem] at hmm
        have h3:=ih (i + 1,out,A3,c3,hh) ⟨by dsimp only;omega,hle,e5.symm,by rw [← hk3];exact hso,by dsimp only;omega⟩ (by dsimp only;omega)
        dsimp only at h3
        rw [← hk3] at h3
        repeat' (first|apply GO_seq|apply GO_skip|apply GO_block|apply GO_region|apply GOl_nil|(apply GO_exit;exact rfl)|(apply GOl_add;(iterate 3 exact rfl);omega;exact rfl;exact rfl)|(apply GOl_pv;(iterate 3 exact rfl))|(apply GOl_ov;exact rfl;exact rfl;(first|(apply OV_idxS (j:=i);(iterate 5 exact rfl);exact a1;(with_reducible exact rfl);omega)|(apply OV_load;exact rfl;first|exact Lv_ro rfl (by assumption) rfl|exact Lv_roF rfl (by assumption) rfl|exact Lv_roF2 rfl (by assumption) rfl|exact Lv_roF3 rfl (by assumption) rfl));exact QA)|(apply GOl_to;(iterate 3 exact rfl);(first|(apply OpTo_val;exact rfl;exact has146;exact hmm _ (by first|exact Le.refl _|assumption|(repeat (first|assumption|(apply Le.trans;assumption))));skip)))|(apply GO_cond;exact rfl;all_goals (intro hc;try simp only [hcS,reduceCtorEq] at hc;try (exfalso;omega)))|(apply GOl_split;exact rfl;exact rfl;all_goals (intro hc;try simp only [hcS,reduceCtorEq] at hc;try (exfalso;omega))))
        all_goals first
          | (exfalso;omega)
          | contradiction
          | (refine GO_fit QS QT (h3))
      · rw [decide_eq_false hmem] at hmm
        repeat' (first|apply GO_seq|apply GO_skip|apply GO_block|apply GO_region|apply GOl_nil|(apply GOl_pv;(iterate 3 exact rfl))|(apply GOl_ov;exact rfl;exact rfl;(first|(apply OV_idxS (j:=i);(iterate 5 exact rfl);exact a1;(with_reducible exact rfl);omega)|(apply OV_load;exact rfl;first|exact Lv_ro rfl (by assumption) rfl|exact Lv_roF rfl (by assumption) rfl|exact Lv_roF2 rfl (by assumption) rfl|exact Lv_roF3 rfl (by assumption) rfl));exact QA)|(apply GOl_to;(iterate 3 exact rfl);(first|(apply OpTo_val;exact rfl;exact has146;exact hmm _ (by first|exact Le.refl _|assumption|(repeat (first|assumption|(apply Le.trans;assumption))));skip)))|(apply GO_cond;exact rfl;all_goals (intro hc;try simp only [hcS,reduceCtorEq] at hc;try (exfalso;omega)))|(apply GOl_split;exact rfl;exact rfl;all_goals (intro hc;try simp only [hcS,reduceCtorEq] at hc;try (exfalso;omega))))
        all_goals (try (exfalso;omega))
        refine GO_loopT (X:=Nat) (fun x => x ≤ k3 ∧ ∀ t,t < x → out.getD t 0 < p.2.ru.case) (fun x => k3 - x) (fun x => [(5,.int .i64 x),(4,.int .i64 i),(3,.slice A3 k3 c3),(0,.slice A n c)]) (fun _ => []) (fun x => hh) 0 ⟨by omega,fun t ht => absurd ht (by omega)⟩ QS QT rfl ?_
        rintro j ⟨hj,hI⟩ ih2
        by_cases hjk : j < k3
        · have b1:=hso.addrD hjk
          have d1 : CellsAt hh ((addrD A3).add (j * ty3.size)) (encI (out.getD j 0)):=hso.cellsD 0 hjk
          have hmj:=getD_mem 0 (show j < out.length by omega)
          obtain ⟨q,hq⟩ : ∃ q,q = out.getD j 0:=⟨_,rfl⟩
          rw [← hq] at d1 hmj
          by_cases hlt : q < p.2.ru.case
          · have h3:=ih2 (j + 1) ⟨by omega,fun t ht => by
              rcases Nat.lt_or_ge t j with w1|w1
              · exact hI t w1
              · have : t = j:=by omega
                subst this;rw [← hq];exact hlt⟩ (by omega)
            repeat' (first|apply GO_seq|apply GO_skip|apply GO_inBlock|apply GO_block|apply GO_region|apply GOl_nil|(apply GOl_add;(iterate 3 exact rfl);omega;exact rfl;exact rfl)|(apply GOl_pv;(iterate 3 exact rfl))|(apply GO_drawp (n:=7) [0,1,2,3,4,5,6,7,8,9,10,11,12,13,14,15,16] [(0,0),(1,0),(2,0),(3,0),(4,0),(5,0),(6,0),(7,0),(8,0),(9,0),(10,0),(11,0),(12,0),(13,0),(14,0),(15,0),(16,0)];kernel_rfl)|(apply GP_pv;exact rfl;kernel_rfl;(iterate 3 exact rfl))|(apply GP_ov;exact rfl;kernel_rfl;exact rfl;exact rfl;(first|(first|(apply OV_idxS (j:=j) (n:=k3);(iterate 5 exact rfl);exact b1;(with_reducible exact rfl);omega)|(apply OV_idxS (j:=i) (n:=n);(iterate 5 exact rfl);exact a1;(with_reducible exact rfl);omega))|(apply OV_load;exact rfl;apply Lv_ro;exact rfl;(with_reducible exact d1);exact rfl)|(apply OV_load;exact rfl;first|exact Lv_ro rfl (by assumption) rfl|exact Lv_roF rfl (by assumption) rfl|exact Lv_roF2 rfl (by assumption) rfl|exact Lv_roF3 rfl (by assumption) rfl));exact QA)|(apply GP_done;kernel_rfl;exact rfl)|(apply GP_split;(iterate 5 exact rfl);all_goals (intro hc;try simp only [hcS,reduceCtorEq] at hc;try (exfalso;omega)))|(apply GO_cond;exact rfl;all_goals (intro hc;try simp only [hcS,reduceCtorEq] at hc;try (exfalso;omega))))
            all_goals first
              | (exfalso;omega)
              | (refine GO_fit QS QT (h3))
          · have hgt : p.2.ru.case < q:=by
              rcases Int.lt_trichotomy q p.2.ru.case with w|w|w
              · omega
              · exact absurd (w ▸ hmj) hmem
              · exact w
            have hat:=insI_at (n:=p.2.ru.case) (L:=out) (k:=j) (by omega) hI (fun _ => by rw [← hq];exact hgt)
            rw [hat] at e5
            clear ih2
            repeat' (first|apply GO_seq|apply GO_inBlock|apply GO_region|apply GOl_nil|(apply GO_exit;exact rfl)|(apply GOl_add;(iterate 3 exact rfl);omega;exact rfl;exact rfl)|(apply GOl_pv;(iterate 3 exact rfl))|(apply GOl_to;(iterate 3 exact rfl);(first|(apply OpTo_sliceHM (enc:=encI) (hi:=j);(iterate 6 exact rfl);exact (hso.le (by first|exact Le.refl _|assumption|(repeat (first|assumption|(apply Le.trans;assumption)))));(with_reducible exact rfl);(with_reducible exact rfl);omega;exact hoc;intro A6 hs6;skip)|(apply OpTo_appendFR (enc:=encI) (xs:=out.take j) (ys:=[p.2.ru.case] ++ out.drop j);(iterate 7 exact rfl);exact hs6;exact (hs7.le (by first|exact Le.refl _|assumption|(repeat (first|assumption|(apply Le.trans;assumption)))));exact rfl;omega;exact fun _ => rfl;omega;exact rfl;intro A9 c9 h9 hle9 hnc9 hs9;skip)))|(apply GO_drawp (n:=7) [0,1,2,3,4,5,6,7,8,9,10,11,12,13,14,15,16] [(0,0),(1,0),(2,0),(3,0),(4,0),(5,0),(6,0),(7,0),(8,0),(9,0),(10,0),(11,0),(12,0),(13,0),(14,0),(15,0),(16,0)];kernel_rfl)|(apply GO_drawp (n:=9) [0,1,2,3,4,5,6,7,8,9,10,11] [(0,0),(1,0),(2,0),(3,0),(4,0),(5,0),(7,0),(8,0),(9,0),(6,1),(10,1),(11,0)];kernel_rfl)|(apply GP_pv;exact rfl;kernel_rfl;(iterate 3 exact rfl))|(apply GP_ov;exact rfl;kernel_rfl;exact rfl;exact rfl;(first|(first|(apply OV_idxS (j:=j) (n:=k3);(iterate 5 exact rfl);exact b1;(with_reducible exact rfl);omega)|(apply OV_idxS (j:=i) (n:=n);(iterate 5 exact rfl);exact a1;(with_reducible exact rfl);omega))|(apply OV_load;exact rfl;apply Lv_ro;exact rfl;(with_reducible exact d1);exact rfl)|(apply OV_sliceLo (lo:=j) (n:=k3) (c:=c3);(iterate 5 exact rfl);(with_reducible exact rfl);omega)|(apply OV_load;exact rfl;first|exact Lv_ro rfl (by assumption) rfl|exact Lv_roF rfl (by assumption) rfl|exact Lv_roF2 rfl (by assumption) rfl|exact Lv_roF3 rfl (by assumption) rfl));exact QA)|(apply GP_real;exact rfl;kernel_rfl;(iterate 3 exact rfl);(first|(apply OpTo_buildSliceO (n:=1) (cs:=[p.2.ru.case].flatMap encI);(iterate 3 exact rfl);exact List.cons_ne_nil _ _;(iterate 6 exact rfl);intro b8;refine ⟨Le.refl _,QN,?_⟩)|(apply OpTo_appendSR (enc:=encI) (n:=1) (xs:=[p.2.ru.case]) (ys:=out.drop j);(iterate 7 exact rfl);exact ((hso.low (lo:=j) (c:=c3) (by omega) hoc).le (by first|exact Le.refl _|assumption|(repeat (first|assumption|(apply Le.trans;assumption)))));exact fun _ => rfl;exact (fun x => allOne_ok rfl);exact QK;exact rfl;omega;exact rfl;intro A7 c7 h7 hle7 hnc7 hs7;refine ⟨hle7,QN,?_⟩)))|(apply GP_done;kernel_rfl;exact rfl)|(apply GP_split;(iterate 5 exact rfl);all_goals (intro hc;try simp only [hcS,reduceCtorEq] at hc;try (exfalso;omega)))|(apply GO_cond;exact rfl;all_goals (intro hc;try simp only [hcS,reduceCtorEq] at hc;try (exfalso;omega))))
            all_goals (try (exfalso;omega))
            all_goals
              have hln : (out.take j ++ ([p.2.ru.case] ++ out.drop j)).length = j + (1 + (k3 - j)):=by simp;omega
              have h3:=ih (i + 1,out.take j ++ ([p.2.ru.case] ++ out.drop j),A9,c9,h9) ⟨by dsimp only;omega,by dsimp only;exact hle.trans (by first|exact Le.refl _|assumption|(repeat (first|assumption|(apply Le.trans;assumption)))),e5.symm,by dsimp only;rw [hln];exact hs9,by dsimp only;rw [hln];exact hnc9⟩ (by dsimp only;omega)
              dsimp only at h3
              rw [hln] at h3
              refine GO_fit QS QT (h3)
        · have hjk2 : j = k3:=by omega
          have hat:=insI_at (n:=p.2.ru.case) (L:=out) (k:=j) (by omega) hI (fun w => by omega)
          rw [hat] at e5
          clear ih2
          repeat' (first|apply GO_seq|apply GO_inBlock|apply GO_region|apply GOl_nil|(apply GO_exit;exact rfl)|(apply GOl_add;(iterate 3 exact rfl);omega;exact rfl;exact rfl)|(apply GOl_pv;(iterate 3 exact rfl))|(apply GOl_to;(iterate 3 exact rfl);(first|(apply OpTo_sliceHM (enc:=encI) (hi:=j);(iterate 6 exact rfl);exact (hso.le (by first|exact Le.refl _|assumption|(repeat (first|assumption|(apply Le.trans;assumption)))));(with_reducible exact rfl);(with_reducible exact rfl);omega;exact hoc;intro A6 hs6;skip)|(apply OpTo_appendFR (enc:=encI) (xs:=out.take j) (ys:=[p.2.ru.case] ++ out.drop j);(iterate 7 exact rfl);exact hs6;exact (hs7.le (by first|exact Le.refl _|assumption|(repeat (first|assumption|(apply Le.trans;assumption)))));exact rfl;omega;exact fun _ => rfl;omega;exact rfl;intro A9 c9 h9 hle9 hnc9 hs9;skip)))|(apply GO_drawp (n:=7) [0,1,2,3,4,5,6,7,8,9,10,11,12,13,14,15,16] [(0,0),(1,0),(2,0),(3,0),(4,0),(5,0),(6,0),(7,0),(8,0),(9,0),(10,0),(11,0),(12,0),(13,0),(14,0),(15,0),(16,0)];kernel_rfl)|(apply GO_drawp (n:=9) [0,1,2,3,4,5,6,7,8,9,10,11] [(0,0),(1,0),(2,0),(3,0),(4,0),(5,0),(7,0),(8,0),(9,0),(6,1),(10,1),(11,0)];kernel_rfl)|(apply GP_un;exact rfl;kernel_rfl;exact rfl;exact rfl)|(apply GP_pv;exact rfl;kernel_rfl;(iterate 3 exact rfl))|(apply GP_ov;exact rfl;kernel_rfl;exact rfl;exact rfl;(first|(apply OV_idxS (j:=i) (n:=n);(iterate 5 exact rfl);exact a1;(with_reducible exact rfl);omega)|(apply OV_sliceLo (lo:=j) (n:=k3) (c:=c3);(iterate 5 exact rfl);(with_reducible exact rfl);omega)|(apply OV_load;exact rfl;first|exact Lv_ro rfl (by assumption) rfl|exact Lv_roF rfl (by assumption) rfl|exact Lv_roF2 rfl (by assumption) rfl|exact Lv_roF3 rfl (by assumption) rfl));exact QA)|(apply GP_real;exact rfl;kernel_rfl;(iterate 3 exact rfl);(first|(apply OpTo_buildSliceO (n:=1) (cs:=[p.2.ru.case].flatMap encI);(iterate 3 exact rfl);exact List.cons_ne_nil _ _;(iterate 6 exact rfl);intro b8;refine ⟨Le.refl _,QN,?_⟩)|(apply OpTo_appendSR (enc:=encI) (n:=1) (xs:=[p.2.ru.case]) (ys:=out.drop j);(iterate 7 exact rfl);exact ((hso.low (lo:=j) (c:=c3) (by omega) hoc).le (by first|exact Le.refl _|assumption|(repeat (first|assumption|(apply Le.trans;assumption)))));exact fun _ => rfl;exact (fun x => allOne_ok rfl);exact QK;exact rfl;omega;exact rfl;intro A7 c7 h7 hle7 hnc7 hs7;refine ⟨hle7,QN,?_⟩)))|(apply GP_done;kernel_rfl;exact rfl)|(apply GP_split;(iterate 5 exact rfl);all_goals (intro hc;try simp only [hcS,reduceCtorEq] at hc;try (exfalso;omega)))|(apply GO_cond;exact rfl;all_goals (intro hc;try simp only [hcS,reduceCtorEq] at hc;try (exfalso;omega))))
          all_goals (try (exfalso;omega))
          all_goals
            have hln : (out.take j ++ ([p.2.ru.case] ++ out.drop j)).length = j + (1 + (k3 - j)):=by simp;omega
            have h3:=ih (i + 1,out.take j ++ ([p.2.ru.case] ++ out.drop j),A9,c9,h9) ⟨by dsimp only;omega,by dsimp only;exact hle.trans (by first|exact Le.refl _|assumption|(repeat (first|assumption|(apply Le.trans;assumption)))),e5.symm,by dsimp only;rw [hln];exact hs9,by dsimp only;rw [hln];exact hnc9⟩ (by dsimp only;omega)
            dsimp only at h3
            rw [hln] at h3
            refine GO_fit QS QT (h3)
    · rw [if_neg hk4] at e5
      have h3:=ih (i + 1,out,A3,c3,hh) ⟨by dsimp only;omega,hle,e5.symm,by rw [← hk3];exact hso,by dsimp only;omega⟩ (by dsimp only;omega)
      dsimp only at h3
      rw [← hk3] at h3
      repeat' (first|apply GO_seq|apply GO_skip|apply GO_block|apply GO_region|apply GOl_nil|(apply GO_exit;exact rfl)|(apply GOl_unwanted;exact rfl;exact rfl)|(apply GOl_add;(iterate 3 exact rfl);omega;exact rfl;exact rfl)|(apply GOl_pv;(iterate 3 exact rfl))|(apply GOl_ov;exact rfl;exact rfl;(first|(apply OV_idxS (j:=i);(iterate 5 exact rfl);exact a1;(with_reducible exact rfl);omega)|(apply OV_load;exact rfl;first|exact Lv_ro rfl (by assumption) rfl|exact Lv_roF rfl (by assumption) rfl|exact Lv_roF2 rfl (by assumption) rfl|exact Lv_roF3 rfl (by assumption) rfl));exact QA)|(apply GO_cond;exact rfl;all_goals (intro hc;try simp only [hcS,reduceCtorEq] at hc;try (exfalso;omega)))|(apply GOl_split;exact rfl;exact rfl;all_goals (intro hc;try simp only [hcS,reduceCtorEq] at hc;try (exfalso;omega))))
      all_goals first
        | (exfalso;omega)
        | contradiction
        | (refine GO_fit QS QT (h3))
  · rw [List.take_of_length_le (by omega)] at ho
    clear ih
    rw [← ho,← hk3]
    repeat' (first|apply GO_seq|apply GO_region|apply GOl_nil|(apply GO_exit;exact rfl)|(apply GOl_pv;(iterate 3 exact rfl))|(apply GO_cond;exact rfl;all_goals (intro hc;try simp only [hcS,reduceCtorEq] at hc;try (exfalso;omega))))
    all_goals first
      | (exfalso;omega)
      | (exact GO_retR1 rfl rfl rfl ⟨A3,c3,rfl,hso⟩)
end Go.Hw

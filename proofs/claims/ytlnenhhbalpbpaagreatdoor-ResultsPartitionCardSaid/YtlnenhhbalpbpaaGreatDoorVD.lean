import Derived.Test.YtlnenhhbalpbpaaGreatDoorVC
set_option linter.unusedVariables false
set_option linter.unusedSimpArgs false
set_option maxRecDepth 100000
set_option maxHeartbeats 8000000
namespace Go.Hw
open Go
attribute [local irreducible] GO GOl GDp Val Fn Res CellsAt ValE Blk OwnS MapA OwnPf Has Yl SepA forceL
open Go.Proofs (Tryz.prog)
theorem indexFuncO_c (h : Ro) (b n c : Nat) (l : List (Fsh × Fct)) (hn : n ≤ 1000000000) (hl : l.length = n) (f : FuncId) (cs : List Value) (p : Fsh × Fct → Bool) (hh : Has Tryz.prog f)
    (hf : ∀ x ∈ l,Val Tryz.prog f ([] ++ [factV x.1 x.2] ++ cs).toArray h (.bool (p x))) :
    Fn Tryz.prog 76 #[.slice (some ⟨b,0,none⟩) n c,.func (.func f) #[] cs.toArray] [OwnS 57 82 (.slice (some ⟨b,0,none⟩) n c) n (l.flatMap encF82)] h (fun u Es _ => u = .int .i64 (idxP p l 0) ∧ Es = [OwnS 57 82 (.slice (some ⟨b,0,none⟩) n c) n (l.flatMap encF82)]):=by
  refine Fn_intro (args:=[_,_]) ts_ok Go.Proofs.Tryz.func76 rfl rfl fun w0 X0 => ?_
  repeat' (first|apply GO_seq|apply GO_block|apply GO_region|apply GOl_nil|(apply GOl_pv;(iterate 3 exact rfl)))
  refine GO_loopT (X:=Nat) (fun k => k ≤ n ∧ idxP p (l.drop k) k = idxP p l 0) (fun k => n - k) (fun k => [(8,.int .i64 k),(7,.int .i64 n),(0,.slice (some ⟨b,0,none⟩) n c),(1,.func (.func f) #[] cs.toArray)]) (fun _ => [OwnS 57 82 (.slice (some ⟨b,0,none⟩) n c) n (l.flatMap encF82)]) (fun _ => h) 0 ⟨by omega,rfl⟩ QS QT rfl ?_
  rintro k ⟨hk,hI⟩ ih
  by_cases hkn : k < n
  · have hd:=drop_consD p0 hl hkn
    have hv:=hf _ (getD_mem p0 (show k < l.length by omega))
    have hx : l[k]? = some (l.getD k p0):=by rw [List.getD_eq_getElem?_getD,List.getElem?_eq_getElem (by omega)];rfl
    generalize l.getD k p0 = x at *
    by_cases hp : p x = true
    · rw [hp] at hv
      have e : idxP p l 0 = k:=by rw [← hI,hd,idxP,if_pos hp]
      rw [e]
      repeat' (first|apply GO_seq|apply GO_skip|apply GO_block|apply GO_region|apply GOl_nil|(apply GOl_pv;(iterate 3 exact rfl))|(apply GOl_ov;exact rfl;exact rfl;(first|(apply OV_idx (j:=k);(iterate 5 exact rfl);(with_reducible exact rfl);omega)|(apply OV_ldS (off:=0) (enc:=encF82) (b:=b) (k:=k) (sz:=82) (n:=n) (c:=c) (xs:=l) (e:=57);exact rfl;exact rfl;exact addE _ _;exact encF82_len;exact hx;exact rfl));exact QA)|(apply GOl_to;(iterate 3 exact rfl);(first|(apply OpTo_valF (f:=f) (fs:=[]) (cs:=cs);exact rfl;exact rfl;exact hh;exact hv;skip)))|(apply GO_cond;exact rfl;all_goals (intro hc;try simp only [hcS,reduceCtorEq] at hc;try (exfalso;omega))))
      all_goals first
        | (exfalso;omega)
        | (exact GO_retS1 rfl rfl rfl (List.Sublist.refl _) ⟨rfl,rfl⟩)
    · have hp2 : p x = false:=by simpa using hp
      rw [hp2] at hv
      have h3:=ih (k + 1) ⟨by omega,by rw [← hI,hd,idxP,if_neg hp]⟩ (by omega)
      repeat' (first|apply GO_seq|apply GO_skip|apply GO_inBlock|apply GO_block|apply GO_region|apply GOl_nil|(apply GOl_add;(iterate 3 exact rfl);omega;exact rfl;exact rfl)|(apply GOl_pv;(iterate 3 exact rfl))|(apply GOl_ov;exact rfl;exact rfl;(first|(apply OV_idx (j:=k);(iterate 5 exact rfl);(with_reducible exact rfl);omega)|(apply OV_ldS (off:=0) (enc:=encF82) (b:=b) (k:=k) (sz:=82) (n:=n) (c:=c) (xs:=l) (e:=57);exact rfl;exact rfl;exact addE _ _;exact encF82_len;exact hx;exact rfl));exact QA)|(apply GOl_to;(iterate 3 exact rfl);(first|(apply OpTo_valF (f:=f) (fs:=[]) (cs:=cs);exact rfl;exact rfl;exact hh;exact hv;skip)))|(apply GO_cond;exact rfl;all_goals (intro hc;try simp only [hcS,reduceCtorEq] at hc;try (exfalso;omega))))
      all_goals first
        | (exfalso;omega)
        | (refine GO_fit QS QT (h3))
  · rw [show k = l.length by omega,List.drop_length] at hI
    have e : idxP p l 0 = -1:=hI.symm
    rw [e]
    clear ih
    repeat' (first|apply GO_seq|apply GO_region|apply GOl_nil|(apply GO_exit;exact rfl)|(apply GOl_pv;(iterate 3 exact rfl))|(apply GO_cond;exact rfl;all_goals (intro hc;try simp only [hcS,reduceCtorEq] at hc;try (exfalso;omega))))
    all_goals first
      | (exfalso;omega)
      | (exact GO_retS1 rfl rfl rfl (List.Sublist.refl _) ⟨rfl,rfl⟩)
theorem idxP_bef {α : Type} (p : α → Bool) : ∀ (l : List α) (k j : Nat),idxP p l k = ((k + j : Nat) : Int) → l.take j = (l.take j).filter (fun x => !p x) ∧ j < l.length ∧ (l.take (j + 1)).filter (fun x => !p x) = l.take j
  | [],k,j,h => by unfold idxP at h;omega
  | y :: r,k,j,h => by
    unfold idxP at h
    by_cases hy : p y = true
    · rw [if_pos hy] at h
      have : j = 0:=by omega
      subst this
      simp [hy]
    · rw [if_neg hy] at h
      have hf : p y = false:=by simpa using hy
      cases j with
      | zero =>
        exfalso
        rcases idxP_find p r (k + 1) with ⟨e1,_⟩|⟨j,x,_,e2,_⟩
        · omega
        · omega
      | succ j =>
        obtain ⟨h1,h2,h3⟩:=idxP_bef p r (k + 1) j (by rw [h];congr 1;omega)
        refine ⟨?_,by simp;omega,?_⟩
        · rw [List.take_succ_cons,List.filter_cons,hf]
          simp only [Bool.not_false,if_true]
          rw [← h1]
        · rw [List.take_succ_cons,List.filter_cons,hf]
          simp only [Bool.not_false,if_true]
          rw [h3,List.take_succ_cons]
theorem idxP_all {α : Type} (p : α → Bool) (l : List α) (h : idxP p l 0 = -1) : l.filter (fun x => !p x) = l:=by
  rcases idxP_find p l 0 with ⟨_,e⟩|⟨j,x,_,e,_⟩
  · rw [List.filter_eq_self]
    intro x hx
    have:=List.find?_eq_none.1 e x hx
    simpa using this
  · omega
theorem deleteF_c (h : Ro) (v : Value) (n : Nat) (l : List (Fsh × Fct)) (hn : n ≤ 1000000) (hl : l.length = n) (f : FuncId) (cs : List Value) (p : Fsh × Fct → Bool) (hh : Has Tryz.prog f)
    (hf : ∀ h',Le h h' → ∀ x ∈ l,Val Tryz.prog f ([] ++ [factV x.1 x.2] ++ cs).toArray h' (.bool (p x))) :
    Fn Tryz.prog 37 #[v,.func (.func f) #[] cs.toArray] [OwnS 57 82 v n (l.flatMap encF82)] h (fun u Es _ => ∃ A' c',u = .slice A' (l.filter fun x => !p x).length c' ∧ Es = [OwnS 57 82 (.slice A' (l.filter fun x => !p x).length c') (l.filter fun x => !p x).length ((l.filter fun x => !p x).flatMap encF82)]):=by
  refine Fn_intro (args:=[_,_]) ts_ok Go.Proofs.Tryz.func37 rfl rfl fun w0 X0 => ?_
  by_cases h0 : 0 < n
  · refine GO_openB QM h0 ?_
    intro bo c hnc e0
    subst e0
    have hixf:=indexFuncO_c h bo n c l (by omega) hl f cs p hh (hf h (Le.refl h))
    rcases idxP_find p l 0 with ⟨e1,e2⟩|⟨j,y,e1,e2,e3,e4⟩
    · rw [e1] at hixf
      rw [idxP_all p l e1]
      repeat' (first|apply GO_seq|apply GO_region|apply GOl_nil|(apply GOl_pv;(iterate 3 exact rfl))|(apply GOl_to;(iterate 3 exact rfl);(first|(apply OpTo_callP;exact rfl;exact has76;exact hixf;exact QT;rintro vi Ei hi1 hli ⟨rfl,rfl⟩;skip)))|(apply GO_cond;exact rfl;all_goals (intro hc;try simp only [hcS,reduceCtorEq] at hc;try (exfalso;omega))))
      all_goals first
        | (exfalso;omega)
        | (exact GO_retS1 rfl rfl rfl (List.Sublist.refl _) ⟨some ⟨bo,0,none⟩,c,by rw [hl],by rw [hl];rfl⟩)
    · rw [Nat.zero_add] at e2
      rw [e2] at hixf
      obtain ⟨q1,q2,q3⟩:=idxP_bef p l 0 j (by rw [Nat.zero_add];exact e2)
      repeat' (first|apply GO_seq|apply GO_skip|apply GO_block|apply GO_region|apply GOl_nil|(apply GOl_add;(iterate 3 exact rfl);omega;exact rfl;exact rfl)|(apply GOl_pv;(iterate 3 exact rfl))|(apply GOl_to;(iterate 3 exact rfl);(first|(apply OpTo_callP;exact rfl;exact has76;exact hixf;exact QT;rintro vi Ei hi1 hli ⟨rfl,rfl⟩;skip)))|(apply GO_cond;exact rfl;all_goals (intro hc;try simp only [hcS,reduceCtorEq] at hc;try (exfalso;omega))))
      all_goals (try (exfalso;omega))
      refine GO_loopT (X:=Nat × Nat × List (Fsh × Fct) × Ro) (fun x => x.1 < x.2.1 ∧ x.2.1 ≤ n ∧ x.2.2.1.length = n ∧ Le h x.2.2.2 ∧ x.2.2.1.take x.1 = (l.take x.2.1).filter (fun x => !p x) ∧ (∀ t,x.2.1 ≤ t → x.2.2.1[t]? = l[t]?)) (fun x => n - x.2.1)
        (fun x => [(6,.int .i64 x.2.1),(5,.int .i64 x.1),(0,.slice (some ⟨bo,0,none⟩) n c),(1,.func (.func f) #[] cs.toArray)])
        (fun x => [OwnS 57 82 (.slice (some ⟨bo,0,none⟩) n c) n (x.2.2.1.flatMap encF82)]) (fun x => x.2.2.2) (j,j + 1,l,hi1) ⟨by dsimp only;omega,by dsimp only;omega,hl,hli,q3.symm,fun t _ => rfl⟩ QS QT rfl ?_
      rintro ⟨i,k,zs,hz⟩ ⟨j1,j2,j3,j4,j5,j6⟩ ih
      dsimp only at j1 j2 j3 j4 j5 j6 ih ⊢
      by_cases hlt : k < n
      · obtain ⟨x,hx⟩ : ∃ x,l[k]? = some x:=⟨_,List.getElem?_eq_getElem (by omega)⟩
        have hzx : zs[k]? = some x:=by rw [j6 _ (Nat.le_refl _)];exact hx
        have hv:=hf hz j4 x (List.mem_of_getElem? hx)
        have et : l.take (k + 1) = l.take k ++ [x]:=by rw [List.take_add_one,hx];rfl
        by_cases hp : p x = true
        · rw [hp] at hv
          have h9:=ih (i,k + 1,zs,hz) ⟨by dsimp only;omega,by dsimp only;omega,j3,j4,by dsimp only;rw [et,List.filter_append,j5];simp [hp],fun t ht => j6 t (by dsimp only at ht;omega)⟩ (by dsimp only;omega)
          dsimp only at h9
          repeat' (first|apply GO_seq|apply GO_skip|apply GO_inBlock|apply GO_block|apply GO_region|apply GOl_nil|(apply GOl_add;(iterate 3 exact rfl);omega;exact rfl;exact rfl)|(apply GOl_pv;(iterate 3 exact rfl))|(apply GOl_load;exact rfl;exact Ld_blk rfl QM rfl;exact rfl;exact rfl)|(apply GOl_ov;exact rfl;exact rfl;(first|(apply OV_idx (j:=k);(iterate 5 exact rfl);(with_reducible exact rfl);omega)|(apply OV_ldS (off:=0) (enc:=encF82) (b:=bo) (k:=k) (sz:=82) (n:=n) (c:=c) (xs:=zs) (e:=57);exact rfl;exact rfl;exact addE _ _;exact encF82_len;exact hzx;exact rfl));exact QA)|(apply GOl_to;(iterate 3 exact rfl);(first|(apply OpTo_store;(iterate 3 exact rfl);exact QR;(iterate 3 exact rfl);skip)|(apply OpTo_alloc;exact rfl;intro b;skip)|(apply OpTo_valF (f:=f) (fs:=[]) (cs:=cs);exact rfl;exact rfl;exact hh;exact hv;skip)))|(apply GO_cond;exact rfl;all_goals (intro hc;try simp only [hcS,reduceCtorEq] at hc;try (exfalso;omega))))
          all_goals first
            | (exfalso;omega)
            | (refine GO_fit QS QT (h9))
        · have hp2 : p x = false:=by simpa using hp
          rw [hp2] at hv
          have hset : (zs.set i x).take (i + 1) = zs.take i ++ [x]:=by
            rw [List.take_add_one,List.getElem?_set_self (by omega),List.take_set_of_le (Nat.le_refl _)];rfl
          have h9:=ih (i + 1,k + 1,zs.set i x,hz) ⟨by dsimp only;omega,by dsimp only;omega,by dsimp only;rw [List.length_set];exact j3,j4,by dsimp only;rw [hset,et,List.filter_append,j5];simp [hp2],fun t ht => by
            dsimp only at ht ⊢
            rw [List.getElem?_set_ne (by omega)];exact j6 t (by omega)⟩ (by dsimp only;omega)
          dsimp only at h9
          repeat' (first|apply GO_seq|apply GO_skip|apply GO_inBlock|apply GO_block|apply GO_region|apply GOl_nil|(apply GOl_add;(iterate 3 exact rfl);omega;exact rfl;exact rfl)|(apply GOl_pv;(iterate 3 exact rfl))|(apply GOl_load;exact rfl;exact Ld_blk rfl QM rfl;exact rfl;exact rfl)|(apply GOl_ov;exact rfl;exact rfl;(first|(first|(apply OV_idx (j:=k);(iterate 5 exact rfl);(with_reducible exact rfl);omega)|(apply OV_idx (j:=i);(iterate 5 exact rfl);(with_reducible exact rfl);omega))|(apply OV_ldS (off:=0) (enc:=encF82) (b:=bo) (k:=k) (sz:=82) (n:=n) (c:=c) (xs:=zs) (e:=57);exact rfl;exact rfl;exact addE _ _;exact encF82_len;exact hzx;exact rfl));exact QA)|(apply GOl_to;(iterate 3 exact rfl);(first|(apply OpTo_store;(iterate 3 exact rfl);exact QR;(iterate 3 exact rfl);skip)|(apply OpTo_alloc;exact rfl;intro b;skip)|(apply OpTo_valF (f:=f) (fs:=[]) (cs:=cs);exact rfl;exact rfl;exact hh;exact hv;skip)|(apply OpTo_stS (b:=bo) (enc:=encF82) (sz:=82) (k:=i) (z:=x) (xs:=zs);exact rfl;exact rfl;exact addE _ _;exact rfl;exact encF82_len;exact rfl;exact QR;omega;exact rfl;exact rfl;skip)))|(apply GO_cond;exact rfl;all_goals (intro hc;try simp only [hcS,reduceCtorEq] at hc;try (exfalso;omega))))
          all_goals first
            | (exfalso;omega)
            | (refine GO_fit QS QT (h9))
      · have hk : k = n:=by omega
        subst hk
        clear ih
        rw [List.take_of_length_le (l:=l) (by omega)] at j5
        rw [← j5]
        have hkl : (zs.take i).length = i:=by rw [List.length_take];omega
        rw [hkl]
        repeat' (first|apply GO_seq|apply GO_region|apply GOl_nil|(apply GO_exit;exact rfl)|(apply GOl_pv;(iterate 3 exact rfl))|(apply GOl_ov;exact rfl;exact rfl;(first|(apply OV_sliceLo (lo:=i);(iterate 5 exact rfl);(with_reducible exact rfl);omega));exact QA)|(apply GO_cond;exact rfl;all_goals (intro hc;try simp only [hcS,reduceCtorEq] at hc;try (exfalso;omega))))
        all_goals (try (exfalso;omega))
        rw [sliceA_at (show i < c by omega)]
        repeat' (first|apply GO_seq|apply GO_region|apply GOl_nil|(apply GOl_pv;(iterate 3 exact rfl))|(apply GOl_ov;exact rfl;exact rfl;(first|(apply OV_sliceHi (hi:=i);(iterate 5 exact rfl);(with_reducible exact rfl);omega;exact hnc));exact QA)|(apply GOl_to;(iterate 3 exact rfl);(first|(apply OpTo_clearS (enc:=encF82) (b:=bo) (k:=i) (m:=k - i) (n:=k) (c:=c) (xs:=zs);(iterate 3 exact rfl);exact List.cons_ne_nil _ _;(iterate 4 exact rfl);exact encF82_len;omega;omega;exact j3;exact QR;skip))))
        rw [sliceH_id7]
        exact GO_retS1 rfl rfl rfl (List.Sublist.refl _) ⟨some ⟨bo,0,none⟩,c,rfl,rfl⟩
  · have hn0 : n = 0:=by omega
    subst hn0
    have hl0 : l = []:=List.eq_nil_of_length_eq_zero hl
    subst hl0
    refine GO_openS QM ?_
    intro A0 c0 e0
    subst e0
    have hixf:=Res_of_val (indexFuncF_c h A0 0 c0 [] SlOf.nil (by omega) f [] cs p hh (by simp))
    have e9 : idxP p ([] : List (Fsh × Fct)) 0 = -1:=rfl
    rw [e9] at hixf
    repeat' (first|apply GO_seq|apply GO_region|apply GOl_nil|(apply GOl_pv;(iterate 3 exact rfl))|(apply GOl_to;(iterate 3 exact rfl);(first|(apply OpTo_res;exact rfl;exact has76;exact hixf;rintro vi hi1 hli rfl;skip)))|(apply GO_cond;exact rfl;all_goals (intro hc;try simp only [hcS,reduceCtorEq] at hc;try (exfalso;omega))))
    all_goals first
      | (exfalso;omega)
      | (exact GO_retS1 rfl rfl rfl (List.Sublist.refl _) ⟨A0,c0,rfl,rfl⟩)
end Go.Hw
set_option linter.unusedVariables false
set_option linter.unusedSimpArgs false
set_option maxRecDepth 100000
set_option maxHeartbeats 8000000
namespace Go.Hw
open Go
attribute [local irreducible] GO GOl GDp Val Fn Res CellsAt ValE Blk OwnS MapA OwnPf Has Yl SepA forceL aboutL maxF
open Go.Proofs (Tryz.prog)
theorem maxF_c (h : Ro) (hG : PowG h) (A : Option Addr) (n c : Nat) (l : List (Fsh × Fct)) (hx : SlOf encF82 82 h A n l) (hn : n ≤ 1000000) (hg : ∀ p ∈ l,FGd h p) (h0 : 0 < n) : Res Tryz.prog 40 #[.slice A n c,.func (.func 41) #[] #[]] h (fun u _ => ∃ m,u = factV m.1 m.2 ∧ m ∈ l ∧ maxF (fcs l) = some m.2):=by
  refine Res_intro (args:=[_,_]) ts_ok Go.Proofs.Tryz.func40 rfl rfl fun w0 X0 => ?_
  have hlen:=hx.len
  have a0:=hx.addrD h0
  have c0:=hx.cellsD p0 h0
  have hm0:=mem7 p0 (show 0 < l.length by omega)
  have et0:=take7 p0 hlen h0
  rw [List.take_zero,List.nil_append] at et0
  generalize l.getD 0 p0 = p at *
  have em0 : maxF (fcs (l.take 1)) = some p.2:=by rw [et0];unfold maxF;rfl
  repeat' (first|apply GO_seq|apply GO_skip|apply GO_block|apply GO_region|apply GOl_nil|(apply GOl_pv;(iterate 3 exact rfl))|(apply GOl_ov;exact rfl;exact rfl;(first|(apply OV_load;exact rfl;exact Lv_ro rfl c0 rfl)|(apply OV_idxS;(iterate 5 exact rfl);assumption;exact rfl;first|assumption|omega));exact QA)|(apply GOl_to;(iterate 3 exact rfl);(first|(apply OpTo_store;(iterate 3 exact rfl);exact QR;(iterate 3 exact rfl);skip)|(apply OpTo_alloc;exact rfl;intro b;skip)))|(apply GO_cond;exact rfl;all_goals (intro hc;try simp only [hcS,reduceCtorEq] at hc;try (exfalso;omega))))
  all_goals (try (exfalso;omega))
  rename_i b4
  generalize b = b5
  refine GO_loopT (X:=Nat × (Fsh × Fct) × Ro) (fun x => 1 ≤ x.1 ∧ x.1 ≤ n ∧ Le h x.2.2 ∧ x.2.1 ∈ l ∧ maxF (fcs (l.take x.1)) = some x.2.1.2) (fun x => n - x.1)
    (fun x => [(6,.int .i64 x.1),(0,.slice A n c),(1,.func (.func 41) #[] #[]),(4,ptrV b4),(5,ptrV b5)])
    (fun x => [Blk b5 57 (factC x.2.1.1 x.2.1.2),Blk b4 57 (factC fsh0 fct0)]) (fun x => x.2.2) (1,p,h) ⟨by dsimp only;omega,by dsimp only;omega,Le.refl _,hm0,em0⟩ QS QT rfl ?_
  rintro ⟨k,m,hh⟩ ⟨hk1,hk,hle,hm,hmx⟩ ih
  dsimp only at hk1 hk hle hm hmx ih ⊢
  by_cases hkn : k < n
  · have a1:=hx.addrD hkn
    have c1:=(hx.cellsD p0 hkn).le hle
    have et:=take7 p0 hlen hkn
    have hqm:=mem7 p0 (show k < l.length by omega)
    generalize l.getD k p0 = q at *
    have hcm:=fun h' (hl : Le hh h') => cmp_c h' (hG.le (hle.trans hl)) q m ((hg q hqm).le (hle.trans hl)) ((hg m hm).le (hle.trans hl))
    have hsn : maxF (fcs (l.take (k + 1))) = if 0 < cmpF q.2 m.2 then some q.2 else some m.2:=by
      rw [et]
      have : fcs (l.take k ++ [q]) = fcs (l.take k) ++ [q.2]:=by simp [fcs]
      rw [this,maxF_snoc,hmx]
    by_cases hc9 : 0 < cmpF q.2 m.2
    · rw [if_pos hc9] at hsn
      repeat' (first|apply GO_seq|apply GO_skip|apply GO_inBlock|apply GO_block|apply GO_region|apply GOl_nil|(apply GOl_add;(iterate 3 exact rfl);omega;exact rfl;exact rfl)|(apply GOl_pv;(iterate 3 exact rfl))|(apply GOl_ov;exact rfl;exact rfl;(first|(apply OV_idxS (j:=k);(iterate 5 exact rfl);exact a1;(with_reducible exact rfl);omega)|(apply OV_load;exact rfl;exact Lv_ro rfl (c1.le (by first|exact Le.refl _|assumption|(repeat (first|assumption|(apply Le.trans;assumption))))) rfl));exact QA)|(apply GOl_to;(iterate 3 exact rfl);(first|(apply OpTo_store;(iterate 3 exact rfl);exact QR;(iterate 3 exact rfl);skip)))|(apply GO_drawp (n:=7) [0,1,2,3,4,5,6,7] [(0,0),(1,0),(2,0),(3,0),(4,0),(5,0),(6,1),(7,0)];kernel_rfl)|(apply GP_pv;exact rfl;kernel_rfl;(iterate 3 exact rfl))|(apply GP_loadB;exact rfl;kernel_rfl;(iterate 3 exact rfl);exact QM;exact rfl;exact rfl)|(apply GP_ov;exact rfl;kernel_rfl;exact rfl;exact rfl;(first|(apply OV_idxS (j:=k);(iterate 5 exact rfl);exact a1;(with_reducible exact rfl);omega)|(apply OV_load;exact rfl;exact Lv_ro rfl (c1.le (by first|exact Le.refl _|assumption|(repeat (first|assumption|(apply Le.trans;assumption))))) rfl));exact QA)|(apply GP_real;exact rfl;kernel_rfl;(iterate 3 exact rfl);(first|(apply OpTo_resF (f:=41) (fs:=[]) (cs:=[]);exact rfl;exact rfl;exact has41;exact hcm _ (by first|exact Le.refl _|assumption|(repeat (first|assumption|(apply Le.trans;assumption))));rintro vc h3 hle3 rfl;refine ⟨hle3,QN,?_⟩)))|(apply GP_done;kernel_rfl;exact rfl)|(apply GO_cond;exact rfl;all_goals (intro hc;try simp only [hcS,reduceCtorEq] at hc;try (exfalso;omega))))
      all_goals first
        | (exfalso;omega)
        | (have h3:=ih (k + 1,q,h3) ⟨by dsimp only;omega,by dsimp only;omega,hle.trans hle3,hqm,hsn⟩ (by dsimp only;omega)
           dsimp only at h3
           refine GO_fit QS QT (h3))
    · rw [if_neg hc9] at hsn
      repeat' (first|apply GO_seq|apply GO_skip|apply GO_inBlock|apply GO_block|apply GO_region|apply GOl_nil|(apply GOl_add;(iterate 3 exact rfl);omega;exact rfl;exact rfl)|(apply GOl_pv;(iterate 3 exact rfl))|(apply GO_drawp (n:=7) [0,1,2,3,4,5,6,7] [(0,0),(1,0),(2,0),(3,0),(4,0),(5,0),(6,1),(7,0)];kernel_rfl)|(apply GP_pv;exact rfl;kernel_rfl;(iterate 3 exact rfl))|(apply GP_loadB;exact rfl;kernel_rfl;(iterate 3 exact rfl);exact QM;exact rfl;exact rfl)|(apply GP_ov;exact rfl;kernel_rfl;exact rfl;exact rfl;(first|(apply OV_idxS (j:=k);(iterate 5 exact rfl);exact a1;(with_reducible exact rfl);omega)|(apply OV_load;exact rfl;exact Lv_ro rfl (c1.le (by first|exact Le.refl _|assumption|(repeat (first|assumption|(apply Le.trans;assumption))))) rfl));exact QA)|(apply GP_real;exact rfl;kernel_rfl;(iterate 3 exact rfl);(first|(apply OpTo_resF (f:=41) (fs:=[]) (cs:=[]);exact rfl;exact rfl;exact has41;exact hcm _ (by first|exact Le.refl _|assumption|(repeat (first|assumption|(apply Le.trans;assumption))));rintro vc h3 hle3 rfl;refine ⟨hle3,QN,?_⟩)))|(apply GP_done;kernel_rfl;exact rfl)|(apply GO_cond;exact rfl;all_goals (intro hc;try simp only [hcS,reduceCtorEq] at hc;try (exfalso;omega))))
      all_goals first
        | (exfalso;omega)
        | (have h3:=ih (k + 1,m,h3) ⟨by dsimp only;omega,by dsimp only;omega,hle.trans hle3,hm,hsn⟩ (by dsimp only;omega)
           dsimp only at h3
           refine GO_fit QS QT (h3))
  · rw [List.take_of_length_le (by omega)] at hmx
    clear ih
    repeat' (first|apply GO_seq|apply GO_region|apply GOl_nil|(apply GO_exit;exact rfl)|(apply GOl_pv;(iterate 3 exact rfl))|(apply GOl_load;exact rfl;exact Ld_blk rfl QM rfl;exact rfl;exact rfl)|(apply GOl_to;(iterate 3 exact rfl);(first|(apply OpTo_store;(iterate 3 exact rfl);exact QR;(iterate 3 exact rfl);skip)))|(apply GO_cond;exact rfl;all_goals (intro hc;try simp only [hcS,reduceCtorEq] at hc;try (exfalso;omega))))
    all_goals first
      | (exfalso;omega)
      | (exact GO_retRC1 rfl rfl rfl QM rfl rfl ⟨m,rfl,hm,hmx⟩)
theorem ofGame1_c (h : Ro) (b : Nat) (g : FGame) (hb : CellsAt h ⟨b,0,none⟩ (gameC g)) (p : Fsh × Fct) : Val Tryz.prog 39 #[factV p.1 p.2,.pointer (some ⟨b,0,none⟩)] h (.bool (!decide (AboutG g p.2.ru))):=by
  refine Val_intro (args:=[_,_]) ts_ok Go.Proofs.Tryz.func39 rfl rfl fun w0 X0 => ?_
  by_cases hg : p.2.ru.g = g
  · have e : (!decide (AboutG g p.2.ru)) = !decide (p.2.ru.kind = 1 ∨ p.2.ru.kind = 2 ∨ p.2.ru.kind = 3):=by unfold AboutG;simp [hg]
    rw [e]
    have hge:=game_eq p.2.ru.g g
    rw [decide_eq_true hg] at hge
    repeat' (first|apply GO_seq|apply GO_region|apply GOl_nil|(apply GOl_unwanted;exact rfl;exact rfl)|(apply GOl_pv;(iterate 3 exact rfl))|(apply GOl_load;exact rfl;exact Ld_blk rfl QM rfl;exact rfl;exact rfl)|(apply GOl_ov;exact rfl;exact rfl;(first|(apply OV_neqS;exact rfl;exact rfl;exact hge;kernel_rfl;kernel_rfl)|(apply OV_load;exact rfl;first|exact Lv_ro rfl (by assumption) rfl|exact Lv_roF rfl (by assumption) rfl|exact Lv_roF2 rfl (by assumption) rfl|exact Lv_roF3 rfl (by assumption) rfl));exact QA)|(apply GOl_to;(iterate 3 exact rfl);(first|(apply OpTo_box;exact rfl;intro b;skip)))|(apply GOl_split;exact rfl;exact rfl;all_goals (intro hc;try simp only [hcS,reduceCtorEq] at hc;try (exfalso;omega)))|(apply GO_retV1;(iterate 3 exact rfl)))
    all_goals first
      | ((try simp only [eqI_eq]);congr 1;rw [Bool.eq_iff_iff];simp;omega)
  · have e : (!decide (AboutG g p.2.ru)) = true:=by unfold AboutG;simp [hg]
    rw [e]
    have hge:=game_eq p.2.ru.g g
    rw [decide_eq_false hg] at hge
    repeat' (first|apply GO_seq|apply GO_region|apply GOl_nil|(apply GOl_unwanted;exact rfl;exact rfl)|(apply GOl_pv;(iterate 3 exact rfl))|(apply GOl_load;exact rfl;exact Ld_blk rfl QM rfl;exact rfl;exact rfl)|(apply GOl_ov;exact rfl;exact rfl;(first|(apply OV_neqS;exact rfl;exact rfl;exact hge;kernel_rfl;kernel_rfl)|(apply OV_load;exact rfl;first|exact Lv_ro rfl (by assumption) rfl|exact Lv_roF rfl (by assumption) rfl|exact Lv_roF2 rfl (by assumption) rfl|exact Lv_roF3 rfl (by assumption) rfl));exact QA)|(apply GOl_to;(iterate 3 exact rfl);(first|(apply OpTo_box;exact rfl;intro b;skip)))|(apply GO_retV1;(iterate 3 exact rfl)))
    all_goals first
      | rfl
      | (exfalso;simp at hc;done)
theorem about_fcs {l : List (Fsh × Fct)} {C : List Fct} (hf : fcs l = forceL C) (g : FGame) : fcs (l.filter fun x => !(!decide (AboutG g x.2.ru))) = aboutL C g:=by
  unfold aboutL
  rw [← hf]
  unfold fcs
  rw [List.filter_map]
  congr 1
  refine List.filter_congr fun p _ => ?_
  rw [Bool.not_not];rfl
theorem OfGame_c (h : Ro) (hG : PowG h) (A : Option Addr) (n c : Nat) (l : List (Fsh × Fct)) (hx : FactsAt h A n l) (g : FGame) : Res Tryz.prog 15 #[.slice A n c,gameV g] h (fun u _ => u = .tuple #[.agg (rulC (ofGame (canonL (fcs l)) g).1).toArray,.int .i64 (ofGame (canonL (fcs l)) g).2.1,.bool (ofGame (canonL (fcs l)) g).2.2]):=by
  refine Res_intro (args:=[_,_]) ts_ok Go.Proofs.Tryz.func15 rfl rfl fun w0 X0 => ?_
  obtain ⟨C,hC⟩ : ∃ C,C = canonL (fcs l):=⟨_,rfl⟩
  have hfi:=fun h' (hl : Le h h') => inForce_c h' (hG.le hl) A n c l (hx.le hl)
  rw [← hC] at hfi ⊢
  repeat' (first|apply GO_seq|apply GO_skip|apply GO_region|apply GOl_nil|(apply GOl_pv;(iterate 3 exact rfl))|(apply GOl_to;(iterate 3 exact rfl);(first|(apply OpTo_store;(iterate 3 exact rfl);exact QR;(iterate 3 exact rfl);skip)|(apply OpTo_box;exact rfl;intro b;skip)|(apply OpTo_alloc;exact rfl;intro b;skip)|(refine OpTo_relB (e:=24) QK ?_;intro h1 hle1 hcg;apply OpTo_callP;exact rfl;exact has38;exact hfi _ (by first|exact Le.refl _|assumption|(repeat (first|assumption|(apply Le.trans;assumption))));exact QT;rintro w1 Ec h2 hle2 ⟨A3,c3,l3,rfl,rfl,hg3,hf3,hn3⟩;skip)|(apply OpTo_callP;exact rfl;exact has37;exact deleteF_c _ _ l3.length l3 hn3 rfl 39 [.pointer (some ⟨_,0,none⟩)] (fun x => !decide (AboutG g x.2.ru)) has39 (fun h' hl x _ => ofGame1_c h' _ g (hcg.le (hle2.trans hl)) x);exact QT;rintro vd Ed h4 hle4 ⟨A5,c5,rfl,rfl⟩;skip)|(refine OpTo_relX (enc:=encF82) (e:=57) (sz:=82) (xs:=l3.filter fun x => !(!decide (AboutG g x.2.ru))) (n:=_) encF82_len rfl QK ?_;intro A6 c6 h6 hle6 e6 hnc6 hs6;cases e6;apply OpTo_res;exact rfl;exact has40;exact maxF_c h6 (hG.le (by first|exact Le.refl _|assumption|(repeat (first|assumption|(apply Le.trans;assumption))))) _ _ _ _ hs6 (Nat.le_trans (List.length_filter_le _ _) hn3) (fun p hp => (hg3 p (List.mem_filter.1 hp).1).le (by first|exact Le.refl _|assumption|(repeat (first|assumption|(apply Le.trans;assumption))))) (Nat.pos_of_ne_zero (by omega));rintro vm h7 hle7 ⟨m,rfl,hmm,hmx⟩;skip)))|(apply GO_drawp (n:=5) [0,1,4,2,3,5,6] [(0,0),(1,0),(2,0),(3,0),(4,1),(5,0),(6,0)];kernel_rfl)|(apply GP_pv;exact rfl;kernel_rfl;(iterate 3 exact rfl))|(apply GP_loadB;exact rfl;kernel_rfl;(iterate 3 exact rfl);exact QM;exact rfl;exact rfl)|(apply GP_real;exact rfl;kernel_rfl;(iterate 3 exact rfl);(first|(apply OpTo_store;(iterate 3 exact rfl);exact QR;(iterate 3 exact rfl);refine ⟨Le.refl _,QN,?_⟩)))|(apply GP_done;kernel_rfl;exact rfl)|(apply GO_cond;exact rfl;all_goals (intro hc;try simp only [hcS,reduceCtorEq] at hc;try (exfalso;omega))))
  all_goals (have hz:=about_fcs hf3 g)
  · have h9 : aboutL C g = []:=by
      rw [← hz]
      have : (l3.filter fun x => !(!decide (AboutG g x.2.ru))) = []:=List.eq_nil_of_length_eq_zero (by omega)
      rw [this];rfl
    have e9 : ofGame C g = (rul0,0,false):=by unfold ofGame;rw [h9];unfold maxF;rfl
    rw [e9]
    exact GO_retRC3 rfl rfl rfl QM rfl rfl rfl rfl rfl
  · rw [hz] at hmx
    have e9 : ofGame C g = (m.2.ru,m.2.day,true):=by unfold ofGame;rw [hmx]
    rw [e9]
    exact GO_retRC3 rfl rfl rfl QM rfl rfl rfl rfl rfl
end Go.Hw

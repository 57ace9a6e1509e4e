import Derived.Test.YtajmniiiahhfaaaGreatDoorEA
import Derived.Test.YtajmniiiahhfaaaGreatDoorHD
import Derived.Test.YtajmniiiahhfaaaGreatDoorUSh
set_option linter.unusedVariables false
set_option linter.unusedSimpArgs false
set_option maxRecDepth 100000
set_option maxHeartbeats 8000000
namespace Go.Hw
open Go
attribute [local irreducible] GO GOl GDp Val Fn Res CellsAt ValE Blk OwnS MapA OwnPf Has Yl
open Go.Proofs (Tryz.prog)
theorem ltOfF {h : Ro} (x y : {p : Fsh × Fct // FGd h p}) : Go.Proofs.ltOf (fun (x y : {p : Fsh × Fct // FGd h p}) => cmpF x.1.2 y.1.2) x y = decide (cmpF x.1.2 y.1.2 < 0):=rfl
theorem FGd.tri {h : Ro} (x y : {p : Fsh × Fct // FGd h p}) : LtF x.1.2 y.1.2 ∨ x.1.2 = y.1.2 ∨ LtF y.1.2 x.1.2:=LtF.tri x.2.2.2 y.2.2.2 (by rw [x.2.1.void,y.2.1.void])
theorem cmpF_swo {h : Ro} : Go.Sort.SWO (Go.Proofs.ltOf fun (x y : {p : Fsh × Fct // FGd h p}) => cmpF x.1.2 y.1.2) where
  irrefl x:=by rw [ltOfF,decide_eq_false_iff_not,cmpF_lt];exact LtF.irrefl _
  trans x y z h1 h2:=by rw [ltOfF,decide_eq_true_eq,cmpF_lt] at *;exact h1.trans h2
  ntrans x y z h1 h2:=by
    rw [ltOfF,decide_eq_false_iff_not,cmpF_lt] at *
    intro h3
    rcases FGd.tri x y with q|q|q
    · exact h1 q
    · rw [q] at h3;exact h2 h3
    · exact h2 (q.trans h3)
theorem attach_flat {α : Type} {P : α → Prop} (e : α → List Value) : ∀ (l : List {x : α // P x}),l.flatMap (fun a => e a.1) = (l.map (·.1)).flatMap e
  | [] => rfl
  | x :: r => by rw [List.map_cons,List.flatMap_cons,List.flatMap_cons,attach_flat e r]
theorem attach_map {α : Type} {P : α → Prop} : ∀ (l : List α) (h : ∀ x ∈ l,P x),(l.attachWith P h).map (·.1) = l:=fun l h => List.attachWith_map_subtype_val h
theorem sortF_c (h : Ro) (hG : PowG h) (v : Value) (xs : List (Fsh × Fct)) (n : Nat) (hn : n ≤ 1000000) (hx : xs.length = n) (hg : ∀ p ∈ xs,FGd h p) :
    Fn Tryz.prog 70 #[v,.func (.func 71) #[] #[]] [OwnS 73 82 v n (xs.flatMap encF82)] h fun u Es _ => u = .tuple #[] ∧ ∃ ys : List (Fsh × Fct),ys.Perm xs ∧ LeSorted (ys.map (·.2)) ∧ Es = [OwnS 73 82 v n (ys.flatMap encF82)]:=by
  have hN : ∀ (p : Option Addr) (cap : Nat) (w : World),Calls Tryz.prog 70 #[.slice p 0 cap,.func (.func 71) #[] #[]] w fun e w' => e = .returned (.tuple #[]) ∧ w' = w:=fun p cap w => Go.Proofs.AnyF.slices_SortFunc_none Go.Proofs.Tryz.sortFacts p cap _ w
  haveI : Inhabited {p : Fsh × Fct // FGd h p ∨ True}:=⟨⟨p0,.inr trivial⟩⟩
  cases xs with
  | nil =>
    simp only [List.length_nil] at hx
    subst hx
    unfold Fn
    intro w X0 hl ⟨Ds,ho,hnd,hb⟩
    have H0:=Hp.start (w:=w) (X0:=X0) (h0:=h) hl ⟨Ds,ho,hnd,hb⟩
    obtain ⟨D,hD⟩:=H0.get (List.Mem.head _)
    obtain ⟨A,c,hvv⟩:=OwnS_form hD
    subst hvv
    refine (hN A c w).mono ?_
    rintro e' w' ⟨rfl,rfl⟩
    exact ⟨_,rfl,_,h,⟨rfl,[],.refl _,by simp [LeSorted],rfl⟩,H0⟩
  | cons x r =>
    have hgx:=hg x List.mem_cons_self
    haveI : Inhabited {p : Fsh × Fct // FGd h p}:=⟨⟨x,hgx⟩⟩
    have hC : ∀ (blk off cap : Nat) (d : Array {p : Fsh × Fct // FGd h p}) (w : World),Go.Proofs.CmpLays Tryz.prog 71 #[] (fun a : {p : Fsh × Fct // FGd h p} => encF82 a.1) 82 (fun x y => cmpF x.1.2 y.1.2) blk off d.size w → Go.Sort.HoldsK (fun a : {p : Fsh × Fct // FGd h p} => encF82 a.1) 82 w blk off d → blk < w.heap.size → d.size < 4611686018427387904 →
        Calls Tryz.prog 70 #[.slice (some ⟨blk,off,none⟩) d.size cap,.func (.func 71) #[] #[]] w fun e w' => e = .returned (.tuple #[]) ∧ ∃ d' n os,Go.Sort.PermIn 0 d.size d d' ∧ Go.Sort.SortedIn (Go.Proofs.ltOf fun (x y : {p : Fsh × Fct // FGd h p}) => cmpF x.1.2 y.1.2) 0 d.size d' ∧ w' = Go.Proofs.sortWorldK (fun a : {p : Fsh × Fct // FGd h p} => encF82 a.1) 82 w blk off n d' os:=fun blk off cap d w hc hH hb hs =>
      Go.Proofs.AnyQ.slices_SortFunc Go.Proofs.Tryz.sortFacts 82 (fun w => ts_ok.run_agg (n:=73) rfl w) (fun w => ts_ok.run_size (n:=73) rfl w) (fun a : {p : Fsh × Fct // FGd h p} => encF82 a.1) (fun a => encF82_len a.1) (fun a => encF82_one a.1) (fun x y => cmpF x.1.2 y.1.2) cmpF_swo 71 #[] blk off cap d w (Go.Proofs.enters_of Go.Proofs.Tryz.func71 (by kernel_rfl) rfl) hc hH hb hs
    have hcmp : ∀ x y : {p : Fsh × Fct // FGd h p},Res Tryz.prog 71 (#[.agg (encF82 x.1).toArray,.agg (encF82 y.1).toArray] ++ #[]) h fun u _ => u = .int .i64 (cmpF x.1.2 y.1.2):=fun x y => by
      rw [Array.append_empty]
      exact cmp_c h hG x.1 y.1 x.2 y.2
    have key:=sortFnP (α:={p : Fsh × Fct // FGd h p}) (P:=Tryz.prog) (f:=70) (gf:=71) (cb:=#[]) (fun a => encF82 a.1) 82 (fun a => encF82_len a.1) (by decide) (fun x y => cmpF x.1.2 y.1.2) h hC hN hcmp 73 v ((x :: r).attachWith (FGd h) hg) n (by omega) (by rw [List.length_attachWith];exact hx)
    rw [attach_flat encF82,attach_map] at key
    refine key.mono ?_
    rintro u Es h' hle ⟨rfl,ys,hp,hso,rfl⟩
    refine ⟨rfl,ys.map (·.1),?_,?_,by rw [attach_flat encF82]⟩
    · rw [← attach_map (x :: r) hg];exact hp.map _
    · unfold LeSorted
      refine List.pairwise_map.2 (List.pairwise_map.2 (hso.imp fun {a b} hab => ?_))
      rw [ltOfF,decide_eq_false_iff_not,cmpF_lt] at hab
      exact hab
theorem clone_c (h : Ro) (A : Option Addr) (n c : Nat) (l : List (Fsh × Fct)) (hx : SlOf encF82 82 h A n l) (hn : n ≤ 1000000) : Fn Tryz.prog 69 #[.slice A n c] [] h fun u Es _ => Es = [OwnS 73 82 u n (l.flatMap encF82)]:=by
  refine Fn_intro (args:=[_]) ts_ok Go.Proofs.Tryz.func69 rfl rfl fun w0 X0 => ?_
  have hxl:=hx.len
  refine GO_nilS 73 82 ?_
  cases A with
  | none =>
    have hn0 : n = 0:=by
      rcases Nat.eq_zero_or_pos n with q|q
      · exact q
      · have:=hx.addrD q;cases this
    have hl0 : l = []:=List.eq_nil_of_length_eq_zero (by omega)
    subst hn0;subst hl0
    repeat' (first|apply GO_seq|apply GO_skip|apply GO_region|apply GOl_nil|(apply GOl_pv;(iterate 3 exact rfl))|(apply GO_cond;exact rfl;all_goals (intro hc;try simp only [hcS,reduceCtorEq] at hc;try (exfalso;omega))))
    · exact GO_retS1 rfl rfl rfl (List.Sublist.refl _) rfl
    · exfalso;simp at hc
  | some ad =>
    repeat' (first|apply GO_seq|apply GO_skip|apply GO_region|apply GOl_nil|(apply GOl_pv;(iterate 3 exact rfl))|(apply GOl_to;(iterate 3 exact rfl);(first|(apply OpTo_buildSliceO (n:=0);(iterate 3 exact rfl);exact List.cons_ne_nil _ _;(iterate 6 exact rfl);intro bo;skip)|(apply OpTo_appendS (enc:=encF82) (xs:=[]) (ys:=l);(iterate 7 exact rfl);exact hx;exact encF82_len;exact encF82_one;intro v1;exact QR;omega;exact rfl;intro A3 c3;skip)))|(apply GO_cond;exact rfl;all_goals (intro hc;try simp only [hcS,reduceCtorEq] at hc;try (exfalso;omega))))
    all_goals
      rw [List.nil_append,Nat.zero_add]
      exact GO_retS1 rfl rfl rfl (.cons_cons _ (List.nil_sublist _)) rfl
theorem addE (b m : Nat) : (⟨b,0,none⟩ : Addr).add m = ⟨b,m,none⟩:=by rw [add_off,Nat.zero_add]
theorem addE2 (b k j : Nat) : (⟨b,k * 82,none⟩ : Addr).add (j * 82) = ⟨b,(k + j) * 82,none⟩:=by rw [add_off,← Nat.add_mul]
theorem sliceA_at {b c lo sz : Nat} (h : lo < c) : sliceA (some ⟨b,0,none⟩) c lo sz = some ⟨b,lo * sz,none⟩:=by
  unfold sliceA
  rw [if_neg (by omega),Option.map_some,add_off,Nat.zero_add]
theorem sliceH_id7 (A : Option Addr) (c sz : Nat) : sliceH A c sz = A:=by
  unfold sliceH
  split
  · rfl
  · cases A <;> simp [Addr.add]
abbrev compactP:=compactA (α:=Fsh × Fct) (·.2)
theorem compactP_step {ys : List (Fsh × Fct)} {k : Nat} (h0 : 1 ≤ k) (hk : k < ys.length) {x y : Fsh × Fct} (hx : ys[k]? = some x) (hy : ys[k - 1]? = some y) : compactP (ys.take (k + 1)) = compactP (ys.take k) ++ (if cmpF x.2 y.2 = 0 then [] else [x]):=by
  have hne : ys.take k ≠ []:=fun e => by
    have:=congrArg List.length e
    rw [List.length_take,List.length_nil] at this
    omega
  have e1 : ys.take (k + 1) = ys.take k ++ [x]:=by
    rw [List.take_add_one,hx];rfl
  have e2 : (ys.take k).getLast hne = y:=by
    rw [List.getLast_eq_getElem]
    have : (ys.take k).length - 1 = k - 1:=by rw [List.length_take];omega
    have h3 : (ys.take k)[(ys.take k).length - 1]? = some y:=by rw [this,List.getElem?_take,if_pos (by omega)];exact hy
    rw [List.getElem?_eq_getElem (by rw [List.length_take];omega)] at h3
    exact Option.some.inj h3
  have:=compactA_snoc (p:=fun a : Fsh × Fct => a.2) hne x
  rw [e2] at this
  rw [e1];exact this
theorem compactP_one {ys : List (Fsh × Fct)} (h : ys.length < 2) : compactP ys = ys:=by
  cases ys with
  | nil => rfl
  | cons x r =>
    cases r with
    | nil => rfl
    | cons y r => simp at h;omega
theorem compactF_c (h : Ro) (hG : PowG h) (v : Value) (ys : List (Fsh × Fct)) (n : Nat) (hn : n ≤ 1000000) (hl : ys.length = n) (hg : ∀ p ∈ ys,FGd h p) :
    Fn Tryz.prog 73 #[v,.func (.func 74) #[] #[]] [OwnS 73 82 v n (ys.flatMap encF82)] h fun u Es _ => Es = [OwnS 73 82 u (compactP ys).length ((compactP ys).flatMap encF82)]:=by
  refine Fn_intro (args:=[_,_]) ts_ok Go.Proofs.Tryz.func73 rfl rfl fun w0 X0 => ?_
  by_cases h2 : n < 2
  · refine GO_openS QM ?_
    intro A0 c0 e0
    subst e0
    rw [compactP_one (by omega),hl]
    repeat' (first|apply GO_seq|apply GO_region|apply GOl_nil|(apply GOl_pv;(iterate 3 exact rfl))|(apply GO_cond;exact rfl;all_goals (intro hc;try simp only [hcS,reduceCtorEq] at hc;try (exfalso;omega))))
    all_goals first
      | (exfalso;omega)
      | exact GO_retS1 rfl rfl rfl (List.Sublist.refl _) rfl
  · refine GO_openB QM (by omega) ?_
    intro b c hnc e0
    subst e0
    repeat' (first|apply GO_seq|apply GO_skip|apply GO_block|apply GO_region|apply GOl_nil|(apply GOl_pv;(iterate 3 exact rfl))|(apply GO_cond;exact rfl;all_goals (intro hc;try simp only [hcS,reduceCtorEq] at hc;try (exfalso;omega))))
    refine GO_loopT (X:=Nat × Ro) (fun x => 1 ≤ x.1 ∧ x.1 ≤ n ∧ Le h x.2 ∧ compactP (ys.take x.1) = ys.take x.1) (fun x => n - x.1)
      (fun x => [(5,.int .i64 x.1),(0,.slice (some ⟨b,0,none⟩) n c),(1,.func (.func 74) #[] #[])])
      (fun x => [OwnS 73 82 (.slice (some ⟨b,0,none⟩) n c) n (ys.flatMap encF82)]) (fun x => x.2) (1,h) ⟨by dsimp only;omega,by dsimp only;omega,Le.refl _,compactP_one (by rw [List.length_take];omega)⟩ QS QT rfl ?_
    rintro ⟨k,hh⟩ ⟨hk1,hkn,hle,hI⟩ ih
    dsimp only at hk1 hkn hle hI ih ⊢
    by_cases hlt : k < n
    · obtain ⟨x,hx⟩ : ∃ x,ys[k]? = some x:=⟨_,List.getElem?_eq_getElem (by omega)⟩
      obtain ⟨y,hy⟩ : ∃ y,ys[k - 1]? = some y:=⟨_,List.getElem?_eq_getElem (by omega)⟩
      have hgx:=hg x (List.mem_of_getElem? hx)
      have hgy:=hg y (List.mem_of_getElem? hy)
      have hst:=compactP_step hk1 (by omega) hx hy
      by_cases hc9 : cmpF x.2 y.2 = 0
      · rw [if_pos hc9,List.append_nil,hI] at hst
        repeat' (first|apply GO_seq|apply GO_skip|apply GO_block|apply GO_region|apply GOl_nil|(apply GOl_pv;(iterate 3 exact rfl))|(apply GOl_ov;exact rfl;exact rfl;(first|(apply OV_sliceLo (lo:=k);(iterate 5 exact rfl);(with_reducible exact rfl);omega));exact QA)|(apply GO_drawp (n:=6) [0,1,2,3,4,5,6,7,8,9,10] [(0,0),(1,0),(2,0),(3,0),(4,0),(5,0),(6,0),(7,0),(8,0),(9,0),(10,1)];kernel_rfl)|(apply GP_sub;exact rfl;kernel_rfl;(iterate 5 exact rfl);omega)|(apply GP_pv;exact rfl;kernel_rfl;(iterate 3 exact rfl))|(apply GP_ov;exact rfl;kernel_rfl;exact rfl;exact rfl;(first|(apply OV_idx (j:=k);(iterate 5 exact rfl);(with_reducible exact rfl);omega)|(apply OV_idx (j:=k - 1);(iterate 5 exact rfl);omega;omega)|(apply OV_ldS (off:=0) (enc:=encF82) (b:=b) (k:=k) (sz:=82) (n:=n) (c:=c) (xs:=ys) (e:=73);exact rfl;exact rfl;exact addE _ _;exact encF82_len;exact hx;exact rfl)|(apply OV_ldS (off:=0) (enc:=encF82) (b:=b) (k:=k - 1) (sz:=82) (n:=n) (c:=c) (xs:=ys) (e:=73);exact rfl;exact rfl;exact addE _ _;exact encF82_len;exact hy;exact rfl));exact QA)|(apply GP_real;exact rfl;kernel_rfl;(iterate 3 exact rfl);(first|(apply OpTo_resF (f:=74) (fs:=[]) (cs:=[]);exact rfl;exact rfl;exact has74;exact new1_c _ (hG.le (by first|exact Le.refl _|assumption|(repeat (first|assumption|(apply Le.trans;assumption))))) x y (hgx.le (by first|exact Le.refl _|assumption|(repeat (first|assumption|(apply Le.trans;assumption))))) (hgy.le (by first|exact Le.refl _|assumption|(repeat (first|assumption|(apply Le.trans;assumption)))));rw [decide_eq_true hc9];rintro vr hr1 hle1 rfl;refine ⟨hle1,QN,?_⟩)))|(apply GP_done;kernel_rfl;exact rfl)|(apply GO_cond;exact rfl;all_goals (intro hc;try simp only [hcS,reduceCtorEq] at hc;try (exfalso;omega))))
        rw [sliceA_at (show k < c by omega)]
        refine GO_loopT (X:=Nat × Nat × List (Fsh × Fct) × Ro) (fun x => 1 ≤ x.2.1 ∧ k + x.2.1 ≤ n ∧ x.1 ≤ k + x.2.1 - 1 ∧ x.2.2.1.length = n ∧ Le hr1 x.2.2.2 ∧ x.2.2.1.take x.1 = compactP (ys.take (k + x.2.1)) ∧ (∀ t,k + x.2.1 - 1 ≤ t → x.2.2.1[t]? = ys[t]?)) (fun x => n - (k + x.2.1))
          (fun x => [(7,.int .i64 x.2.1),(6,.slice (some ⟨b,k * 82,none⟩) (n - k) (c - k)),(5,.int .i64 x.1),(0,.slice (some ⟨b,0,none⟩) n c),(1,.func (.func 74) #[] #[])])
          (fun x => [OwnS 73 82 (.slice (some ⟨b,0,none⟩) n c) n (x.2.2.1.flatMap encF82)]) (fun x => x.2.2.2) (k,1,ys,hr1) ⟨by dsimp only;omega,by dsimp only;omega,by dsimp only;omega,hl,Le.refl _,hst.symm,fun t _ => rfl⟩ QS QT rfl ?_
        clear ih
        rintro ⟨kk,k2,zs,hz⟩ ⟨j1,j2,j3,j4,j5,j6,j7⟩ ih2
        dsimp only at j1 j2 j3 j4 j5 j6 j7 ih2 ⊢
        clear hst hgx hgy hx hy hc9
        by_cases hlt2 : k + k2 < n
        · obtain ⟨x2,hx2⟩ : ∃ x2,ys[k + k2]? = some x2:=⟨_,List.getElem?_eq_getElem (by omega)⟩
          obtain ⟨y2,hy2⟩ : ∃ y2,ys[k + k2 - 1]? = some y2:=⟨_,List.getElem?_eq_getElem (by omega)⟩
          have hgx2:=hg x2 (List.mem_of_getElem? hx2)
          have hgy2:=hg y2 (List.mem_of_getElem? hy2)
          have hst2:=compactP_step (show 1 ≤ k + k2 by omega) (by omega) hx2 hy2
          have hzx : zs[k + k2]? = some x2:=by rw [j7 _ (by omega)];exact hx2
          have hzy : zs[k + (k2 - 1)]? = some y2:=by rw [j7 _ (by omega),show k + (k2 - 1) = k + k2 - 1 by omega];exact hy2
          by_cases hc8 : cmpF x2.2 y2.2 = 0
          · rw [if_pos hc8,List.append_nil,← j6] at hst2
            repeat' (first|apply GO_seq|apply GO_skip|apply GO_inBlock|apply GO_block|apply GO_region|apply GOl_nil|(apply GOl_add;(iterate 3 exact rfl);omega;exact rfl;exact rfl)|(apply GOl_pv;(iterate 3 exact rfl))|(apply GO_drawp (n:=11) [0,1,2,3,4,5,6,7,8,9,10,11] [(0,0),(1,0),(2,0),(3,0),(4,0),(5,0),(6,0),(7,0),(8,0),(9,0),(10,1),(11,0)];kernel_rfl)|(apply GP_sub;exact rfl;kernel_rfl;(iterate 5 exact rfl);omega)|(apply GP_pv;exact rfl;kernel_rfl;(iterate 3 exact rfl))|(apply GP_ov;exact rfl;kernel_rfl;exact rfl;exact rfl;(first|(apply OV_idx (j:=k2);(iterate 5 exact rfl);(with_reducible exact rfl);omega)|(apply OV_idx (j:=k2 - 1);(iterate 5 exact rfl);omega;omega)|(apply OV_ldS (off:=0) (enc:=encF82) (b:=b) (k:=k + k2) (sz:=82) (n:=n) (c:=c) (xs:=zs) (e:=73);exact rfl;exact rfl;exact addE2 _ _ _;exact encF82_len;exact hzx;exact rfl)|(apply OV_ldS (off:=0) (enc:=encF82) (b:=b) (k:=k + (k2 - 1)) (sz:=82) (n:=n) (c:=c) (xs:=zs) (e:=73);exact rfl;exact rfl;exact addE2 _ _ _;exact encF82_len;exact hzy;exact rfl));exact QA)|(apply GP_real;exact rfl;kernel_rfl;(iterate 3 exact rfl);(first|(apply OpTo_resF (f:=74) (fs:=[]) (cs:=[]);exact rfl;exact rfl;exact has74;exact new1_c _ (hG.le (by first|exact Le.refl _|assumption|(repeat (first|assumption|(apply Le.trans;assumption))))) x2 y2 (hgx2.le (by first|exact Le.refl _|assumption|(repeat (first|assumption|(apply Le.trans;assumption))))) (hgy2.le (by first|exact Le.refl _|assumption|(repeat (first|assumption|(apply Le.trans;assumption)))));rw [decide_eq_true hc8];rintro vr hr2 hle2 rfl;refine ⟨hle2,QN,?_⟩)))|(apply GP_done;kernel_rfl;exact rfl)|(apply GO_cond;exact rfl;all_goals (intro hc;try simp only [hcS,reduceCtorEq] at hc;try (exfalso;omega))))
            all_goals
              have h9:=ih2 (kk,k2 + 1,zs,hr2) ⟨by dsimp only;omega,by dsimp only;omega,by dsimp only;omega,j4,by dsimp only;exact j5.trans hle2,by dsimp only;exact hst2.symm,fun t ht => j7 t (by dsimp only at ht;omega)⟩ (by dsimp only;omega)
              dsimp only at h9
              refine GO_fit QS QT (h9)
          · rw [if_neg hc8,← j6] at hst2
            repeat' (first|apply GO_seq|apply GO_skip|apply GO_inBlock|apply GO_block|apply GO_region|apply GOl_nil|(apply GOl_add;(iterate 3 exact rfl);omega;exact rfl;exact rfl)|(apply GOl_pv;(iterate 3 exact rfl))|(apply GOl_ov;exact rfl;exact rfl;(first|(apply OV_idx (j:=k2);(iterate 5 exact rfl);(with_reducible exact rfl);omega)|(apply OV_idx (j:=kk);(iterate 5 exact rfl);(with_reducible exact rfl);omega)|(apply OV_ldS (off:=0) (enc:=encF82) (b:=b) (k:=k + k2) (sz:=82) (n:=n) (c:=c) (xs:=zs) (e:=73);exact rfl;exact rfl;exact addE2 _ _ _;exact encF82_len;exact hzx;exact rfl));exact QA)|(apply GOl_to;(iterate 3 exact rfl);(first|(apply OpTo_stS (b:=b) (enc:=encF82) (sz:=82) (k:=kk) (z:=x2) (xs:=zs);exact rfl;exact rfl;exact addE _ _;exact rfl;exact encF82_len;exact rfl;exact QR;omega;exact rfl;exact rfl;skip)))|(apply GO_drawp (n:=11) [0,1,2,3,4,5,6,7,8,9,10,11] [(0,0),(1,0),(2,0),(3,0),(4,0),(5,0),(6,0),(7,0),(8,0),(9,0),(10,1),(11,0)];kernel_rfl)|(apply GP_sub;exact rfl;kernel_rfl;(iterate 5 exact rfl);omega)|(apply GP_pv;exact rfl;kernel_rfl;(iterate 3 exact rfl))|(apply GP_ov;exact rfl;kernel_rfl;exact rfl;exact rfl;(first|(apply OV_idx (j:=k2);(iterate 5 exact rfl);(with_reducible exact rfl);omega)|(apply OV_idx (j:=k2 - 1);(iterate 5 exact rfl);omega;omega)|(apply OV_ldS (off:=0) (enc:=encF82) (b:=b) (k:=k + k2) (sz:=82) (n:=n) (c:=c) (xs:=zs) (e:=73);exact rfl;exact rfl;exact addE2 _ _ _;exact encF82_len;exact hzx;exact rfl)|(apply OV_ldS (off:=0) (enc:=encF82) (b:=b) (k:=k + (k2 - 1)) (sz:=82) (n:=n) (c:=c) (xs:=zs) (e:=73);exact rfl;exact rfl;exact addE2 _ _ _;exact encF82_len;exact hzy;exact rfl));exact QA)|(apply GP_real;exact rfl;kernel_rfl;(iterate 3 exact rfl);(first|(apply OpTo_resF (f:=74) (fs:=[]) (cs:=[]);exact rfl;exact rfl;exact has74;exact new1_c _ (hG.le (by first|exact Le.refl _|assumption|(repeat (first|assumption|(apply Le.trans;assumption))))) x2 y2 (hgx2.le (by first|exact Le.refl _|assumption|(repeat (first|assumption|(apply Le.trans;assumption))))) (hgy2.le (by first|exact Le.refl _|assumption|(repeat (first|assumption|(apply Le.trans;assumption)))));rw [decide_eq_false hc8];rintro vr hr2 hle2 rfl;refine ⟨hle2,QN,?_⟩)))|(apply GP_done;kernel_rfl;exact rfl)|(apply GO_cond;exact rfl;all_goals (intro hc;try simp only [hcS,reduceCtorEq] at hc;try (exfalso;omega))))
            all_goals
              have hset : (zs.set kk x2).take (kk + 1) = zs.take kk ++ [x2]:=by
                rw [List.take_add_one,List.getElem?_set_self (by omega),List.take_set_of_le (Nat.le_refl _)];rfl
              have h9:=ih2 (kk + 1,k2 + 1,zs.set kk x2,hr2) ⟨by dsimp only;omega,by dsimp only;omega,by dsimp only;omega,by dsimp only;rw [List.length_set];exact j4,by dsimp only;exact j5.trans hle2,by dsimp only;rw [hset];exact hst2.symm,fun t ht => by
                dsimp only at ht ⊢
                rw [List.getElem?_set_ne (by omega)];exact j7 t (by omega)⟩ (by dsimp only;omega)
              dsimp only at h9
              refine GO_fit QS QT (h9)
        · have hkn2 : k + k2 = n:=by omega
          clear ih2
          rw [hkn2,List.take_of_length_le (l:=ys) (by omega)] at j6
          have hkl : (compactP ys).length = kk:=by rw [← j6,List.length_take];omega
          repeat' (first|apply GO_seq|apply GO_region|apply GOl_nil|(apply GO_exit;exact rfl)|(apply GOl_pv;(iterate 3 exact rfl))|(apply GOl_ov;exact rfl;exact rfl;(first|(apply OV_sliceLo (lo:=kk);(iterate 5 exact rfl);(with_reducible exact rfl);omega));exact QA)|(apply GO_cond;exact rfl;all_goals (intro hc;try simp only [hcS,reduceCtorEq] at hc;try (exfalso;omega))))
          all_goals (try (exfalso;omega))
          rw [sliceA_at (show kk < c by omega)]
          repeat' (first|apply GO_seq|apply GO_region|apply GOl_nil|(apply GOl_pv;(iterate 3 exact rfl))|(apply GOl_ov;exact rfl;exact rfl;(first|(apply OV_sliceHi (hi:=kk);(iterate 5 exact rfl);(with_reducible exact rfl);omega;exact hnc));exact QA)|(apply GOl_to;(iterate 3 exact rfl);(first|(apply OpTo_clearS (enc:=encF82) (b:=b) (k:=kk) (m:=n - kk) (n:=n) (c:=c) (xs:=zs);(iterate 3 exact rfl);exact List.cons_ne_nil _ _;(iterate 4 exact rfl);exact encF82_len;omega;omega;exact j4;exact QR;skip))))
          rw [sliceH_id7,j6,hkl]
          exact GO_retS1 rfl rfl rfl (List.Sublist.refl _) rfl
      · rw [if_neg hc9,hI] at hst
        repeat' (first|apply GO_seq|apply GO_skip|apply GO_inBlock|apply GO_block|apply GO_region|apply GOl_nil|(apply GOl_add;(iterate 3 exact rfl);omega;exact rfl;exact rfl)|(apply GOl_pv;(iterate 3 exact rfl))|(apply GO_drawp (n:=6) [0,1,2,3,4,5,6,7,8,9,10] [(0,0),(1,0),(2,0),(3,0),(4,0),(5,0),(6,0),(7,0),(8,0),(9,0),(10,1)];kernel_rfl)|(apply GP_sub;exact rfl;kernel_rfl;(iterate 5 exact rfl);omega)|(apply GP_pv;exact rfl;kernel_rfl;(iterate 3 exact rfl))|(apply GP_ov;exact rfl;kernel_rfl;exact rfl;exact rfl;(first|(apply OV_idx (j:=k);(iterate 5 exact rfl);(with_reducible exact rfl);omega)|(apply OV_idx (j:=k - 1);(iterate 5 exact rfl);omega;omega)|(apply OV_ldS (off:=0) (enc:=encF82) (b:=b) (k:=k) (sz:=82) (n:=n) (c:=c) (xs:=ys) (e:=73);exact rfl;exact rfl;exact addE _ _;exact encF82_len;exact hx;exact rfl)|(apply OV_ldS (off:=0) (enc:=encF82) (b:=b) (k:=k - 1) (sz:=82) (n:=n) (c:=c) (xs:=ys) (e:=73);exact rfl;exact rfl;exact addE _ _;exact encF82_len;exact hy;exact rfl));exact QA)|(apply GP_real;exact rfl;kernel_rfl;(iterate 3 exact rfl);(first|(apply OpTo_resF (f:=74) (fs:=[]) (cs:=[]);exact rfl;exact rfl;exact has74;exact new1_c _ (hG.le (by first|exact Le.refl _|assumption|(repeat (first|assumption|(apply Le.trans;assumption))))) x y (hgx.le (by first|exact Le.refl _|assumption|(repeat (first|assumption|(apply Le.trans;assumption))))) (hgy.le (by first|exact Le.refl _|assumption|(repeat (first|assumption|(apply Le.trans;assumption)))));rw [decide_eq_false hc9];rintro vr hr1 hle1 rfl;refine ⟨hle1,QN,?_⟩)))|(apply GP_done;kernel_rfl;exact rfl)|(apply GO_cond;exact rfl;all_goals (intro hc;try simp only [hcS,reduceCtorEq] at hc;try (exfalso;omega))))
        all_goals
          have h9:=ih (k + 1,hr1) ⟨by dsimp only;omega,by dsimp only;omega,by dsimp only;exact hle.trans hle1,by dsimp only;rw [hst,List.take_add_one,hx];rfl⟩ (by dsimp only;omega)
          dsimp only at h9
          refine GO_fit QS QT (h9)
    · have hk3 : k = n:=by omega
      subst hk3
      clear ih
      rw [List.take_of_length_le (by omega)] at hI
      rw [hI,hl]
      repeat' (first|apply GO_seq|apply GO_region|apply GOl_nil|(apply GO_exit;exact rfl)|(apply GOl_pv;(iterate 3 exact rfl))|(apply GO_cond;exact rfl;all_goals (intro hc;try simp only [hcS,reduceCtorEq] at hc;try (exfalso;omega))))
      all_goals exact GO_retS1 rfl rfl rfl (List.Sublist.refl _) rfl
end Go.Hw
set_option linter.unusedVariables false
set_option linter.unusedSimpArgs false
set_option maxRecDepth 100000
set_option maxHeartbeats 8000000
namespace Go.Hw
open Go
attribute [local irreducible] GO GOl GDp Val Fn Res CellsAt ValE Blk OwnS MapA OwnPf Has Yl
open Go.Proofs (Tryz.prog)
def ledV (A : Option Addr) (n c : Nat) : Value:=.agg #[.slice A n c]
abbrev fcs (l : List (Fsh × Fct)) : List Fct:=l.map (·.2)
theorem fcs_get (l : List (Fsh × Fct)) {k : Nat} (hk : k < l.length) (hk2 : k < (fcs l).length) : (fcs l)[k] = (l.getD k p0).2:=map_getD (·.2) l p0 hk
open Classical in
theorem chkE_zero {l : List (Fsh × Fct)} : chkE l = 0 ↔ ∀ f ∈ fcs l,FctOk f:=by
  unfold chkE
  constructor
  · intro h
    split at h
    · rename_i h2;intro f hf;obtain ⟨p,hp,rfl⟩:=List.mem_map.1 hf;exact h2 p hp
    · cases h
  · intro h;rw [if_pos];exact fun p hp => h _ (List.mem_map.2 ⟨p,hp,rfl⟩)
open Classical in
theorem chkE_or (l : List (Fsh × Fct)) : chkE l = 0 ∨ chkE l = 70:=by unfold chkE;split <;> simp
open Classical in
theorem checkL_c (h : Ro) (hG : PowG h) (A : Option Addr) (n c : Nat) (l : List (Fsh × Fct)) (hx : FactsAt h A n l) : Res Tryz.prog 35 #[ledV A n c] h (fun u _ => u = .int .i64 (ledE (fcs l))):=by
  refine Res_intro (args:=[_]) ts_ok Go.Proofs.Tryz.func35 rfl rfl fun w0 X0 => ?_
  have hlen:=hx.row.len
  have hn:=hx.small
  have hml : (fcs l).length = n:=by rw [List.length_map,hlen]
  by_cases h1 : 65536 < n
  · have he : ledE (fcs l) = 2:=by unfold ledE;rw [if_pos (by omega)]
    rw [he]
    repeat' (first|apply GO_seq|apply GO_region|apply GOl_nil|(apply GOl_pv;(iterate 3 exact rfl))|(apply GOl_load;exact rfl;exact Ld_blk rfl QM rfl;exact rfl;exact rfl)|(apply GOl_to;(iterate 3 exact rfl);(first|(apply OpTo_box;exact rfl;intro b;skip)))|(apply GO_cond;exact rfl;all_goals (intro hc;try simp only [hcS,reduceCtorEq] at hc;try (exfalso;omega)))|(apply GO_retR1;(iterate 3 exact rfl)))
    all_goals first|rfl|(exfalso;omega)
  · by_cases h2 : ∀ f ∈ fcs l,FctOk f
    · have hch:=check8_c h A n c l hx
      rw [chkE_zero.2 h2] at hch
      have hg : ∀ p ∈ l,FGd h p:=fun p hp => ⟨(hx.fat p hp).1,(hx.fat p hp).2,h2 _ (List.mem_map.2 ⟨p,hp,rfl⟩)⟩
      have hne : ¬ ∃ f ∈ fcs l,¬ FctOk f:=fun ⟨f,hf,hq⟩ => hq (h2 f hf)
      repeat' (first|apply GO_seq|apply GO_skip|apply GO_block|apply GO_region|apply GOl_nil|(apply GOl_pv;(iterate 3 exact rfl))|(apply GOl_load;exact rfl;exact Ld_blk rfl QM rfl;exact rfl;exact rfl)|(apply GOl_to;(iterate 3 exact rfl);(first|(apply OpTo_box;exact rfl;intro b;skip)|(apply OpTo_val;exact rfl;exact has68;exact hch;skip)))|(apply GO_cond;exact rfl;all_goals (intro hc;try simp only [hcS,reduceCtorEq] at hc;try (exfalso;omega))))
      all_goals (try (exfalso;omega))
      refine GO_loopT (X:=Nat × Ro) (fun x => x.1 ≤ n ∧ Le h x.2 ∧ ∀ (i : Nat) (hi : i + 1 < (fcs l).length),i + 1 < x.1 → cmpF (fcs l)[i] (fcs l)[i + 1] < 0) (fun x => n - x.1)
        (fun x => [(18,.int .i64 x.1),(17,.int .i64 n),(1,.pointer (some ⟨b,0,none⟩))]) (fun _ => [Blk b 47 [.slice A n c]]) (fun x => x.2) (0,h) ⟨by dsimp only;omega,Le.refl _,fun i hi hq => absurd hq (by dsimp only;omega)⟩ QS QT rfl ?_
      rintro ⟨k,hh⟩ ⟨hk,hle,hI⟩ ih
      dsimp only at hk hle hI ih ⊢
      by_cases hkn : k < n
      · by_cases hk0 : k = 0
        · subst hk0
          repeat' (first|apply GO_seq|apply GO_skip|apply GO_inBlock|apply GO_block|apply GO_region|apply GOl_nil|(apply GOl_add;(iterate 3 exact rfl);omega;exact rfl;exact rfl)|(apply GOl_pv;(iterate 3 exact rfl))|(apply GO_drawp (n:=9) [0,1,2,3,4,5,6,7,8,9,10,11,12,13,14,15,16] [(0,0),(1,0),(2,0),(3,0),(4,0),(5,0),(6,0),(7,0),(8,0),(9,0),(10,0),(11,0),(12,0),(13,0),(14,1),(15,0),(16,0)];kernel_rfl)|(apply GP_un;exact rfl;kernel_rfl;exact rfl;exact rfl)|(apply GP_pv;exact rfl;kernel_rfl;(iterate 3 exact rfl))|(apply GP_done;kernel_rfl;exact rfl)|(apply GP_split;(iterate 5 exact rfl);all_goals (intro hc;try simp only [hcS,reduceCtorEq] at hc;try (exfalso;omega)))|(apply GO_cond;exact rfl;all_goals (intro hc;try simp only [hcS,reduceCtorEq] at hc;try (exfalso;omega)))|(apply GP_un1;exact rfl;kernel_rfl;exact rfl;exact rfl))
          all_goals first
            | (exfalso;omega)
            | (have h3:=ih (0 + 1,hh) ⟨by dsimp only;omega,by dsimp only;exact hle,fun i hi hq => absurd hq (by dsimp only;omega)⟩ (by dsimp only;omega)
               dsimp only at h3
               refine GO_fit QS QT (h3))
        · have a1:=hx.row.addrD hkn
          have c1 : CellsAt hh ((addrD A).add (k * ty73.size)) (encF82 (l.getD k p0)):=(hx.row.cellsD p0 hkn).le hle
          have c2 : CellsAt hh ((addrD A).add ((k - 1) * ty73.size)) (encF82 (l.getD (k - 1) p0)):=(hx.row.cellsD p0 (k:=k - 1) (by omega)).le hle
          have g1:=hg _ (mem7 p0 (show k < l.length by omega))
          have g2:=hg _ (mem7 p0 (show k - 1 < l.length by omega))
          have e1:=fcs_get l (k:=k) (by omega) (by omega)
          have e2:=fcs_get l (k:=k - 1) (by omega) (by omega)
          generalize l.getD k p0 = p at *
          generalize l.getD (k - 1) p0 = q at *
          by_cases hc9 : cmpF q.2 p.2 < 0
          · repeat' (first|apply GO_seq|apply GO_skip|apply GO_inBlock|apply GO_block|apply GO_region|apply GOl_nil|(apply GOl_add;(iterate 3 exact rfl);omega;exact rfl;exact rfl)|(apply GOl_pv;(iterate 3 exact rfl))|(apply GO_drawp (n:=9) [0,1,2,3,4,5,6,7,8,9,10,11,12,13,14,15,16] [(0,0),(1,0),(2,0),(3,0),(4,0),(5,0),(6,0),(7,0),(8,0),(9,0),(10,0),(11,0),(12,0),(13,0),(14,1),(15,0),(16,0)];kernel_rfl)|(apply GP_sub;exact rfl;kernel_rfl;(iterate 5 exact rfl);omega)|(apply GP_pv;exact rfl;kernel_rfl;(iterate 3 exact rfl))|(apply GP_loadB;exact rfl;kernel_rfl;(iterate 3 exact rfl);exact QM;exact rfl;exact rfl)|(apply GP_ov;exact rfl;kernel_rfl;exact rfl;exact rfl;(first|(apply OV_idxS (j:=k);(iterate 5 exact rfl);exact a1;(with_reducible exact rfl);omega)|(apply OV_idxS (j:=k - 1);(iterate 5 exact rfl);exact a1;omega;omega)|(apply OV_load;exact rfl;apply Lv_ro;exact rfl;(with_reducible exact c1);exact rfl)|(apply OV_load;exact rfl;apply Lv_ro;exact rfl;(with_reducible exact c2);exact rfl));exact QA)|(apply GP_real;exact rfl;kernel_rfl;(iterate 3 exact rfl);(first|(apply OpTo_res;exact rfl;exact has71;exact cmp_c _ (hG.le (by first|exact Le.refl _|assumption|(repeat (first|assumption|(apply Le.trans;assumption))))) q p (g2.le (by first|exact Le.refl _|assumption|(repeat (first|assumption|(apply Le.trans;assumption))))) (g1.le (by first|exact Le.refl _|assumption|(repeat (first|assumption|(apply Le.trans;assumption)))));rintro vr hr1 hle1 rfl;refine ⟨hle1,QN,?_⟩)))|(apply GP_done;kernel_rfl;exact rfl)|(apply GP_split;(iterate 5 exact rfl);all_goals (intro hc;try simp only [hcS,reduceCtorEq] at hc;try (exfalso;omega)))|(apply GO_cond;exact rfl;all_goals (intro hc;try simp only [hcS,reduceCtorEq] at hc;try (exfalso;omega))))
            all_goals first
              | (exfalso;omega)
              | (have h3:=ih (k + 1,hr1) ⟨by dsimp only;omega,by dsimp only;exact hle.trans hle1,fun i hi hq => by
                   dsimp only at hq
                   rcases Nat.lt_or_ge (i + 1) k with w1|w1
                   · exact hI i hi w1
                   · have : k = i + 1:=by omega
                     subst this
                     have e3 : (fcs l)[i]'(by omega) = q.2:=e2
                     rw [e3,e1];exact hc9⟩ (by dsimp only;omega)
                 dsimp only at h3
                 refine GO_fit QS QT (h3))
          · have hnS : ¬ SortF (fcs l):=fun hS => by
              have:=sortF_get hS (i:=k - 1) (j:=k) (by omega) (by omega)
              rw [e1,e2] at this
              exact hc9 (cmpF_lt.2 this)
            have he : ledE (fcs l) = 80:=by unfold ledE;rw [if_neg (by omega),if_neg hne,if_neg hnS]
            rw [he]
            repeat' (first|apply GO_seq|apply GO_skip|apply GO_block|apply GO_region|apply GOl_nil|(apply GOl_pv;(iterate 3 exact rfl))|(apply GO_drawp (n:=9) [0,1,2,3,4,5,6,7,8,9,10,11,12,13,14,15,16] [(0,0),(1,0),(2,0),(3,0),(4,0),(5,0),(6,0),(7,0),(8,0),(9,0),(10,0),(11,0),(12,0),(13,0),(14,1),(15,0),(16,0)];kernel_rfl)|(apply GP_sub;exact rfl;kernel_rfl;(iterate 5 exact rfl);omega)|(apply GP_pv;exact rfl;kernel_rfl;(iterate 3 exact rfl))|(apply GP_loadB;exact rfl;kernel_rfl;(iterate 3 exact rfl);exact QM;exact rfl;exact rfl)|(apply GP_ov;exact rfl;kernel_rfl;exact rfl;exact rfl;(first|(apply OV_idxS (j:=k);(iterate 5 exact rfl);exact a1;(with_reducible exact rfl);omega)|(apply OV_idxS (j:=k - 1);(iterate 5 exact rfl);exact a1;omega;omega)|(apply OV_load;exact rfl;apply Lv_ro;exact rfl;(with_reducible exact c1);exact rfl)|(apply OV_load;exact rfl;apply Lv_ro;exact rfl;(with_reducible exact c2);exact rfl));exact QA)|(apply GP_real;exact rfl;kernel_rfl;(iterate 3 exact rfl);(first|(apply OpTo_res;exact rfl;exact has71;exact cmp_c _ (hG.le (by first|exact Le.refl _|assumption|(repeat (first|assumption|(apply Le.trans;assumption))))) q p (g2.le (by first|exact Le.refl _|assumption|(repeat (first|assumption|(apply Le.trans;assumption))))) (g1.le (by first|exact Le.refl _|assumption|(repeat (first|assumption|(apply Le.trans;assumption)))));rintro vr hr1 hle1 rfl;refine ⟨hle1,QN,?_⟩)))|(apply GP_done;kernel_rfl;exact rfl)|(apply GP_split;(iterate 5 exact rfl);all_goals (intro hc;try simp only [hcS,reduceCtorEq] at hc;try (exfalso;omega)))|(apply GO_cond;exact rfl;all_goals (intro hc;try simp only [hcS,reduceCtorEq] at hc;try (exfalso;omega)))|(apply GO_retR1;(iterate 3 exact rfl)))
            all_goals first|rfl|(exfalso;omega)
      · have hS : SortF (fcs l):=sortF_of_next fun i hi => hI i hi (by omega)
        have he : ledE (fcs l) = 0:=ledE_zero.2 ⟨by omega,h2,hS⟩
        rw [he]
        clear ih
        repeat' (first|apply GO_seq|apply GO_region|apply GOl_nil|(apply GO_exit;exact rfl)|(apply GOl_pv;(iterate 3 exact rfl))|(apply GO_cond;exact rfl;all_goals (intro hc;try simp only [hcS,reduceCtorEq] at hc;try (exfalso;omega)))|(apply GO_retR1;(iterate 3 exact rfl)))
        all_goals rfl
    · have hch:=check8_c h A n c l hx
      have hc70 : chkE l = 70:=(chkE_or l).resolve_left fun e => h2 (chkE_zero.1 e)
      rw [hc70] at hch
      have he : ledE (fcs l) = 70:=by
        unfold ledE;rw [if_neg (by omega),if_pos]
        exact Classical.byContradiction fun q => h2 fun f hf => Classical.byContradiction fun q2 => q ⟨f,hf,q2⟩
      rw [he]
      repeat' (first|apply GO_seq|apply GO_skip|apply GO_region|apply GOl_nil|(apply GOl_pv;(iterate 3 exact rfl))|(apply GOl_load;exact rfl;exact Ld_blk rfl QM rfl;exact rfl;exact rfl)|(apply GOl_to;(iterate 3 exact rfl);(first|(apply OpTo_box;exact rfl;intro b;skip)|(apply OpTo_val;exact rfl;exact has68;exact hch;skip)))|(apply GO_cond;exact rfl;all_goals (intro hc;try simp only [hcS,reduceCtorEq] at hc;try (exfalso;omega)))|(apply GO_retR1;(iterate 3 exact rfl)))
      all_goals first|rfl|(exfalso;omega)
end Go.Hw
set_option linter.unusedVariables false
namespace Go.Hw
open Go
structure LedIn (h : Ro) (A : Option Addr) (n c : Nat) (l : List (Fsh × Fct)) : Prop where
  row : SlOf encF82 82 h A n l
  fat : ∀ p ∈ l,FAt h p.1 p.2 ∧ FSm p.2
  cap : n ≤ c
  small : n ≤ 9223372036854775807
theorem LedIn.facts {h : Ro} {A : Option Addr} {n c : Nat} {l : List (Fsh × Fct)} (a : LedIn h A n c l) (hn : (n : Int) ≤ 14) : FactsAt h A n l:=⟨a.row,a.fat,by omega⟩
end Go.Hw
set_option linter.unusedVariables false
set_option linter.unusedSimpArgs false
set_option maxRecDepth 100000
set_option maxHeartbeats 8000000
namespace Go.Hw
open Go
attribute [local irreducible] GO GOl GDp Val Fn Res CellsAt ValE Blk OwnS MapA OwnPf Has Yl
open Go.Proofs (Tryz.prog)
theorem OpTo_relW {C : Ctx} {l : Sl} {Es Es' : List Asn} {h : Ro} {o : Oper} {G : Value → List Asn → Ro → Prop} {α : Type} {enc : α → List Value} {e sz : Nat} {v : Value} {n : Nat} {xs : List α} (hl : ∀ x,(enc x).length = sz) (hn : xs.length = n) (hT : Take Es (OwnS e sz v n (xs.flatMap enc)) Es')
    (g : ∀ A c h',Le h h' → v = .slice A n c → n ≤ c → SlOf enc sz h' A n xs → OpTo C l Es' h' o G) : OpTo C l Es h o G:=fun a w hs hp => by
  obtain ⟨D,h',hle,hD,hp'⟩:=hp.release hT
  obtain ⟨A,c,e1,e2,e3⟩:=OwnS_free' hl hn hD
  exact g A c h' hle e1 e2 e3 a w hs hp'
def LedOut (h : Ro) (v : Value) (L : List Fct) : Prop:=∃ A k c l,v = ledV A k c ∧ k ≤ c ∧ LedAt h A k l ∧ fcs l = L
theorem LedOut.le {h h' : Ro} {v : Value} {L : List Fct} (a : LedOut h v L) (hl : Le h h') : LedOut h' v L:=by
  obtain ⟨A,k,c,l,e1,e2,e3,e4⟩:=a
  exact ⟨A,k,c,l,e1,e2,e3.le hl,e4⟩
theorem LedOut.nil (h : Ro) : LedOut h (ledV none 0 0) []:=⟨none,0,0,[],rfl,Nat.le_refl _,LedAt.nil h,rfl⟩
def lim (L : List Fct) : List Fct × Int:=if 65536 < L.length then ([],2) else (L,0)
open Classical in
noncomputable def newL (l : List Fct) : List Fct × Int:=if ∀ f ∈ l,FctOk f then lim (canonL l) else ([],70)
open Classical in
noncomputable def addL (l : List Fct) (f : Fct) : List Fct × Bool × Int :=
  if ledE l ≠ 0 then ([],false,ledE l) else if ¬ FctOk f then ([],false,70) else if f ∈ l then (l,false,0) else ((lim (unionL l [f])).1,decide ((lim (unionL l [f])).2 = 0),(lim (unionL l [f])).2)
noncomputable def mergeL (a b : List Fct) : List Fct × Int:=if ledE a ≠ 0 then ([],ledE a) else if ledE b ≠ 0 then ([],ledE b) else lim (unionL a b)
theorem lim_val (A : Option Addr) (k c : Nat) : (if 65536 < k then Value.tuple #[.agg #[.slice none 0 0],.int .i64 2] else .tuple #[.agg #[.slice A k c],.int .i64 0]) = .tuple #[if 65536 < k then ledV none 0 0 else ledV A k c,.int .i64 (if 65536 < k then 2 else 0)]:=by split <;> rfl
theorem lim_out {h : Ro} {A : Option Addr} {k c : Nat} {l : List (Fsh × Fct)} (ha : LedAt h A k l) (hkc : k ≤ c) : LedOut h (if 65536 < k then ledV none 0 0 else ledV A k c) (lim (fcs l)).1 ∧ (lim (fcs l)).2 = (if 65536 < k then 2 else 0):=by
  have hl : (fcs l).length = k:=by rw [List.length_map,ha.row.len]
  unfold lim
  rw [hl]
  split
  · exact ⟨LedOut.nil h,rfl⟩
  · exact ⟨⟨A,k,c,l,rfl,hkc,ha,rfl⟩,rfl⟩
theorem compactP_good {h : Ro} {l ys : List (Fsh × Fct)} (hp : ys.Perm l) (hg : ∀ p ∈ l,FGd h p) : ∀ p ∈ compactP ys,FGd h p:=fun p hp2 => hg p (hp.mem_iff.1 ((compactA_sub ys).subset hp2))
theorem mergeP_good {h : Ro} {a b : List (Fsh × Fct)} (ha : ∀ p ∈ a,FGd h p) (hb : ∀ p ∈ b,FGd h p) : ∀ p ∈ mergeP a b,FGd h p:=fun p hp => by
  rcases mergeA_or p _ a b (Nat.le_refl _) hp with h1|h1
  · exact ha p h1
  · exact hb p h1
open Classical in
theorem newLed_c (h : Ro) (hG : PowG h) (A : Option Addr) (n c : Nat) (l : List (Fsh × Fct)) (hx : FactsAt h A n l) : Res Tryz.prog 32 #[.slice A n c] h (fun u h' => ∃ v,u = .tuple #[v,.int .i64 (newL (fcs l)).2] ∧ LedOut h' v (newL (fcs l)).1):=by
  refine Res_intro (args:=[_]) ts_ok Go.Proofs.Tryz.func32 rfl rfl fun w0 X0 => ?_
  have hlen:=hx.row.len
  have hn:=hx.small
  by_cases h2 : ∀ f ∈ fcs l,FctOk f
  · have hch:=check8_c h A n c l hx
    rw [chkE_zero.2 h2] at hch
    have hg : ∀ p ∈ l,FGd h p:=fun p hp => ⟨(hx.fat p hp).1,(hx.fat p hp).2,h2 _ (List.mem_map.2 ⟨p,hp,rfl⟩)⟩
    have hnew : newL (fcs l) = lim (canonL (fcs l)):=by unfold newL;rw [if_pos h2]
    rw [hnew]
    repeat' (first|apply GO_seq|apply GO_skip|apply GO_region|apply GOl_nil|(apply GOl_pv;(iterate 3 exact rfl))|(apply GOl_to;(iterate 3 exact rfl);(first|(apply OpTo_alloc;exact rfl;intro b;skip)|(apply OpTo_val;exact rfl;exact has68;exact hch;skip)|(apply OpTo_callP;exact rfl;exact has69;exact clone_c _ A n c l (hx.row.le (by first|exact Le.refl _|assumption|(repeat (first|assumption|(apply Le.trans;assumption))))) hn;exact QT;rintro vc Ec hc1 hlc rfl;skip)|(apply OpTo_callP;exact rfl;exact has70;exact sortF_c _ (hG.le (by first|exact Le.refl _|assumption|(repeat (first|assumption|(apply Le.trans;assumption))))) _ l n hn hlen (fun p hp => (hg p hp).le (by first|exact Le.refl _|assumption|(repeat (first|assumption|(apply Le.trans;assumption)))));exact QT;rintro vs Es9 hs9 hls ⟨rfl,ys,hpm,hso,rfl⟩;skip)|(apply OpTo_callP;exact rfl;exact has73;exact compactF_c _ (hG.le (by first|exact Le.refl _|assumption|(repeat (first|assumption|(apply Le.trans;assumption))))) _ ys n hn (by rw [hpm.length_eq,hlen]) (fun p hp => (hg p (hpm.mem_iff.1 hp)).le (by first|exact Le.refl _|assumption|(repeat (first|assumption|(apply Le.trans;assumption)))));exact QT;rintro vk Ek hk9 hlk rfl;skip)))|(apply GO_cond;exact rfl;all_goals (intro hc;try simp only [hcS,reduceCtorEq] at hc;try (exfalso;omega))))
    apply GOl_to
    exact rfl
    exact rfl
    exact rfl
    have hcl9 : (compactP ys).length ≤ 1000000:=by
      have q1 : (compactP ys).length ≤ ys.length:=compactA_len ys
      have q2:=hpm.length_eq
      omega
    refine OpTo_relW (enc:=encF82) (e:=73) (sz:=82) (xs:=compactP ys) (n:=(compactP ys).length) encF82_len rfl QK ?_
    intro A9 c9 h9 hle9 e9 hnc9 hs9
    subst e9
    apply OpTo_val
    exact rfl
    exact has72
    exact limited_c _ A9 _ c9 hcl9
    rw [lim_val]
    have hca : LedAt h9 A9 _ (compactP ys):=⟨hs9,fun p hp => (compactP_good hpm hg p hp).le (by first|exact Le.refl _|assumption|(repeat (first|assumption|(apply Le.trans;assumption)))),hcl9⟩
    have hcan : fcs (compactP ys) = canonL (fcs l):=compactA_canon hpm (fun z hz => (hg z hz).in_) hso
    obtain ⟨o1,o2⟩:=lim_out hca hnc9
    rw [hcan] at o1 o2
    obtain ⟨A7,k7,c7,l7,e7,hk7,hl7,hf7⟩:=o1
    rw [e7,← o2]
    repeat' (first|apply GOl_nil|(apply GOl_pv;(iterate 3 exact rfl))|(apply GOl_to;(iterate 3 exact rfl);(first|(apply OpTo_store;(iterate 3 exact rfl);exact QR;(iterate 3 exact rfl);skip))))
    exact GO_retRC2 rfl rfl rfl QM rfl rfl rfl ⟨ledV A7 k7 c7,rfl,A7,k7,c7,l7,rfl,hk7,hl7,hf7⟩
  · have hch:=check8_c h A n c l hx
    have hc70 : chkE l = 70:=(chkE_or l).resolve_left fun e => h2 (chkE_zero.1 e)
    rw [hc70] at hch
    have hnew : newL (fcs l) = ([],70):=by unfold newL;rw [if_neg h2]
    rw [hnew]
    repeat' (first|apply GO_seq|apply GO_region|apply GOl_nil|(apply GOl_pv;(iterate 3 exact rfl))|(apply GOl_load;exact rfl;exact Ld_blk rfl QM rfl;exact rfl;exact rfl)|(apply GOl_to;(iterate 3 exact rfl);(first|(apply OpTo_store;(iterate 3 exact rfl);exact QR;(iterate 3 exact rfl);skip)|(apply OpTo_alloc;exact rfl;intro b;skip)|(apply OpTo_val;exact rfl;exact has68;exact hch;skip)))|(apply GO_cond;exact rfl;all_goals (intro hc;try simp only [hcS,reduceCtorEq] at hc;try (exfalso;omega))))
    all_goals first
      | (exfalso;omega)
      | exact GO_retRC2 rfl rfl rfl QM rfl rfl rfl ⟨ledV none 0 0,rfl,LedOut.nil _⟩
theorem LedAt.one {h : Ro} {b : Nat} {x : Fsh × Fct} (hs : SlOf encF82 82 h (some ⟨b,0,none⟩) 1 [x]) (hg : FGd h x) : LedAt h (some ⟨b,0,none⟩) 1 [x]:=⟨hs,fun p hp => by rw [List.mem_singleton] at hp;subst hp;exact hg,by omega⟩
open Classical in
theorem addLed_c (h : Ro) (hG : PowG h) (A : Option Addr) (n c : Nat) (l : List (Fsh × Fct)) (hx : FactsAt h A n l) (hnc : n ≤ c) (s : Fsh) (f : Fct) (hf : FAt h s f) (hs : FSm f) : Res Tryz.prog 41 #[ledV A n c,factV s f] h (fun u h' => ∃ v,u = .tuple #[v,.bool (addL (fcs l) f).2.1,.int .i64 (addL (fcs l) f).2.2] ∧ LedOut h' v (addL (fcs l) f).1):=by
  refine Res_intro (args:=[_,_]) ts_ok Go.Proofs.Tryz.func41 rfl rfl fun w0 X0 => ?_
  have hlen:=hx.row.len
  have hn:=hx.small
  obtain ⟨e,he⟩ : ∃ e,e = ledE (fcs l):=⟨_,rfl⟩
  have hck : ∀ h',Le h h' → Res Tryz.prog 35 #[ledV A n c] h' (fun u _ => u = .int .i64 e):=fun h' hl => by rw [he];exact checkL_c h' (hG.le hl) A n c l (hx.le hl)
  by_cases h0 : e = 0
  · have hch7:=fun h' (hl : Le h h') => check7_c h' s f (hf.le hl) hs
    have hok:=ledE_zero.1 (he ▸ h0)
    have hg : ∀ p ∈ l,FGd h p:=fun p hp => ⟨(hx.fat p hp).1,(hx.fat p hp).2,hok.2.1 _ (List.mem_map.2 ⟨p,hp,rfl⟩)⟩
    have hxl : LedAt h A n l:=⟨hx.row,hg,hx.small⟩
    by_cases h1 : FctOk f
    · rw [if_pos h1] at hch7
      have hgf : FGd h (s,f):=⟨hf,hs,h1⟩
      by_cases h2 : f ∈ fcs l
      · have hadd : addL (fcs l) f = (fcs l,false,0):=by unfold addL;rw [if_neg (by rw [← he];omega),if_neg (fun q => q h1),if_pos h2]
        rw [hadd]
        repeat' (first|apply GO_seq|apply GO_skip|apply GO_region|apply GOl_nil|(apply GOl_pv;(iterate 3 exact rfl))|(apply GOl_load;exact rfl;exact Ld_blk rfl QM rfl;exact rfl;exact rfl)|(apply GOl_to;(iterate 3 exact rfl);(first|(apply OpTo_store;(iterate 3 exact rfl);exact QR;(iterate 3 exact rfl);skip)|(apply OpTo_box;exact rfl;intro b;skip)|(apply OpTo_alloc;exact rfl;intro b;skip)|(apply OpTo_res;exact rfl;exact has35;exact hck _ (by first|exact Le.refl _|assumption|(repeat (first|assumption|(apply Le.trans;assumption))));rintro v1 h3 hle1 rfl;skip)|(apply OpTo_val;exact rfl;exact has82;exact hch7 _ (by first|exact Le.refl _|assumption|(repeat (first|assumption|(apply Le.trans;assumption))));skip)|(apply OpTo_res;exact rfl;exact has83;exact search_c _ (hG.le (by first|exact Le.refl _|assumption|(repeat (first|assumption|(apply Le.trans;assumption))))) A n c l (hxl.le (by first|exact Le.refl _|assumption|(repeat (first|assumption|(apply Le.trans;assumption))))) hok.2.2 (s,f) (hgf.le (by first|exact Le.refl _|assumption|(repeat (first|assumption|(apply Le.trans;assumption)))));rw [decide_eq_true (show (s,f).2 ∈ l.map (·.2) from h2)];rintro v4 h4 hle4 ⟨i4,rfl⟩;skip)))|(apply GO_cond;exact rfl;all_goals (intro hc;try simp only [hcS,reduceCtorEq] at hc;try (exfalso;omega))))
        all_goals first
          | (exfalso;omega)
          | (exact GO_retRC3 rfl rfl rfl QM rfl rfl rfl rfl ⟨ledV A n c,rfl,A,n,c,l,rfl,hnc,hxl.le (by first|exact Le.refl _|assumption|(repeat (first|assumption|(apply Le.trans;assumption)))),rfl⟩)
      · have hadd : addL (fcs l) f = ((lim (unionL (fcs l) [f])).1,decide ((lim (unionL (fcs l) [f])).2 = 0),(lim (unionL (fcs l) [f])).2):=by unfold addL;rw [if_neg (by rw [← he];omega),if_neg (fun q => q h1),if_neg h2]
        rw [hadd]
        dsimp only
        repeat' (first|apply GO_seq|apply GO_skip|apply GO_region|apply GOl_nil|(apply GOl_pv;(iterate 3 exact rfl))|(apply GOl_load;exact rfl;exact Ld_blk rfl QM rfl;exact rfl;exact rfl)|(apply GOl_to;(iterate 3 exact rfl);(first|(apply OpTo_box;exact rfl;intro b;skip)|(apply OpTo_alloc;exact rfl;intro b;skip)|(apply OpTo_res;exact rfl;exact has35;exact hck _ (by first|exact Le.refl _|assumption|(repeat (first|assumption|(apply Le.trans;assumption))));rintro v1 h3 hle1 rfl;skip)|(apply OpTo_val;exact rfl;exact has82;exact hch7 _ (by first|exact Le.refl _|assumption|(repeat (first|assumption|(apply Le.trans;assumption))));skip)|(apply OpTo_res;exact rfl;exact has83;exact search_c _ (hG.le (by first|exact Le.refl _|assumption|(repeat (first|assumption|(apply Le.trans;assumption))))) A n c l (hxl.le (by first|exact Le.refl _|assumption|(repeat (first|assumption|(apply Le.trans;assumption))))) hok.2.2 (s,f) (hgf.le (by first|exact Le.refl _|assumption|(repeat (first|assumption|(apply Le.trans;assumption)))));rw [decide_eq_false (show ¬ (s,f).2 ∈ l.map (·.2) from h2)];rintro v4 h4 hle4 ⟨i4,rfl⟩;skip)|(apply OpTo_buildSliceS (enc:=encF82) (n:=1) [(s,f)];(iterate 3 exact rfl);exact List.cons_ne_nil _ _;(iterate 4 exact rfl);exact encF82_len;exact rfl;exact rfl;intro b1 h5 hle5 hs5;skip)|(apply OpTo_res;exact rfl;exact has84;exact merged_c _ (hG.le (by first|exact Le.refl _|assumption|(repeat (first|assumption|(apply Le.trans;assumption))))) A _ n c 1 1 l [(s,f)] (hxl.le (by first|exact Le.refl _|assumption|(repeat (first|assumption|(apply Le.trans;assumption))))) (LedAt.one hs5 (hgf.le (by first|exact Le.refl _|assumption|(repeat (first|assumption|(apply Le.trans;assumption)))))) hnc (Nat.le_refl _);rintro v6 h6 hle6 ⟨A8,k8,c8,rfl,hkc8,hk8,hs8⟩;skip)))|(apply GO_cond;exact rfl;all_goals (intro hc;try simp only [hcS,reduceCtorEq] at hc;try (exfalso;omega))))
        all_goals (try (exfalso;omega))
        have hk9 : k8 ≤ 1000000:=by
          have q1 : (mergeP l [(s,f)]).length ≤ l.length + [(s,f)].length:=mergeA_len _ _ _ (Nat.le_refl _)
          have q2:=hok.1
          rw [List.length_map] at q2
          simp only [List.length_cons,List.length_nil] at q1
          omega
        have hl7 : Le h h6:=(by first|exact Le.refl _|assumption|(repeat (first|assumption|(apply Le.trans;assumption))))
        have hca : LedAt h6 A8 k8 (mergeP l [(s,f)]):=⟨hs8,mergeP_good (fun p hp => (hg p hp).le hl7) (fun p hp => by rw [List.mem_singleton] at hp;subst hp;exact hgf.le hl7),hk9⟩
        have hcan : fcs (mergeP l [(s,f)]) = unionL (fcs l) [f]:=mergeA_canon (fun z hz => (hg z hz).in_) (fun z hz => by rw [List.mem_singleton] at hz;subst hz;exact hgf.in_) hok.2.2 (by unfold SortF;exact List.pairwise_singleton _ _)
        obtain ⟨o1,o2⟩:=lim_out hca hkc8
        rw [hcan] at o1 o2
        obtain ⟨A7,k7,c7,l7,e7,hk7,hl7b,hf7⟩:=o1
        apply GOl_to
        exact rfl
        exact rfl
        exact rfl
        apply OpTo_val
        exact rfl
        exact has72
        exact limited_c _ A8 k8 c8 hk9
        rw [lim_val,e7,← o2]
        generalize (lim (unionL (fcs l) [f])).2 = ee at *
        generalize (lim (unionL (fcs l) [f])).1 = LL at *
        repeat' (first|apply GO_seq|apply GO_region|apply GOl_nil|(apply GOl_pv;(iterate 3 exact rfl))|(apply GOl_load;exact rfl;exact Ld_blk rfl QM rfl;exact rfl;exact rfl)|(apply GOl_to;(iterate 3 exact rfl);(first|(apply OpTo_store;(iterate 3 exact rfl);exact QR;(iterate 3 exact rfl);skip))))
        all_goals exact GO_retRC3 rfl rfl rfl QM rfl rfl rfl rfl ⟨ledV A7 k7 c7,by rw [eqI_eq];try congr,A7,k7,c7,l7,rfl,hk7,hl7b,hf7⟩
    · rw [if_neg h1] at hch7
      have hadd : addL (fcs l) f = ([],false,70):=by unfold addL;rw [if_neg (by rw [← he];omega),if_pos h1]
      rw [hadd]
      repeat' (first|apply GO_seq|apply GO_skip|apply GO_region|apply GOl_nil|(apply GOl_pv;(iterate 3 exact rfl))|(apply GOl_load;exact rfl;exact Ld_blk rfl QM rfl;exact rfl;exact rfl)|(apply GOl_to;(iterate 3 exact rfl);(first|(apply OpTo_store;(iterate 3 exact rfl);exact QR;(iterate 3 exact rfl);skip)|(apply OpTo_box;exact rfl;intro b;skip)|(apply OpTo_alloc;exact rfl;intro b;skip)|(apply OpTo_res;exact rfl;exact has35;exact hck _ (by first|exact Le.refl _|assumption|(repeat (first|assumption|(apply Le.trans;assumption))));rintro v1 h3 hle1 rfl;skip)|(apply OpTo_val;exact rfl;exact has82;exact hch7 _ (by first|exact Le.refl _|assumption|(repeat (first|assumption|(apply Le.trans;assumption))));skip)))|(apply GO_cond;exact rfl;all_goals (intro hc;try simp only [hcS,reduceCtorEq] at hc;try (exfalso;omega))))
      all_goals first
        | (exfalso;omega)
        | (exact GO_retRC3 rfl rfl rfl QM rfl rfl rfl rfl ⟨ledV none 0 0,rfl,LedOut.nil _⟩)
  · have hadd : addL (fcs l) f = ([],false,e):=by unfold addL;rw [if_pos (by rw [← he];exact h0),he]
    rw [hadd]
    repeat' (first|apply GO_seq|apply GO_region|apply GOl_nil|(apply GOl_pv;(iterate 3 exact rfl))|(apply GOl_load;exact rfl;exact Ld_blk rfl QM rfl;exact rfl;exact rfl)|(apply GOl_to;(iterate 3 exact rfl);(first|(apply OpTo_store;(iterate 3 exact rfl);exact QR;(iterate 3 exact rfl);skip)|(apply OpTo_box;exact rfl;intro b;skip)|(apply OpTo_alloc;exact rfl;intro b;skip)|(apply OpTo_res;exact rfl;exact has35;exact hck _ (by first|exact Le.refl _|assumption|(repeat (first|assumption|(apply Le.trans;assumption))));rintro v1 h3 hle1 rfl;skip)))|(apply GO_cond;exact rfl;all_goals (intro hc;try simp only [hcS,reduceCtorEq] at hc;try (exfalso;omega))))
    all_goals first
      | (exfalso;omega)
      | (exact GO_retRC3 rfl rfl rfl QM rfl rfl rfl rfl ⟨ledV none 0 0,rfl,LedOut.nil _⟩)
open Classical in
theorem mergeLed_c (h : Ro) (hG : PowG h) (A : Option Addr) (n c : Nat) (l : List (Fsh × Fct)) (hx : FactsAt h A n l) (hnc : n ≤ c) (B : Option Addr) (m d : Nat) (r : List (Fsh × Fct)) (hy : FactsAt h B m r) (hmd : m ≤ d) : Res Tryz.prog 42 #[ledV A n c,ledV B m d] h (fun u h' => ∃ v,u = .tuple #[v,.int .i64 (mergeL (fcs l) (fcs r)).2] ∧ LedOut h' v (mergeL (fcs l) (fcs r)).1):=by
  refine Res_intro (args:=[_,_]) ts_ok Go.Proofs.Tryz.func42 rfl rfl fun w0 X0 => ?_
  obtain ⟨e,he⟩ : ∃ e,e = ledE (fcs l):=⟨_,rfl⟩
  have hck : ∀ h',Le h h' → Res Tryz.prog 35 #[ledV A n c] h' (fun u _ => u = .int .i64 e):=fun h' hl => by rw [he];exact checkL_c h' (hG.le hl) A n c l (hx.le hl)
  obtain ⟨g,hge⟩ : ∃ g,g = ledE (fcs r):=⟨_,rfl⟩
  have hcm : ∀ h',Le h h' → Res Tryz.prog 35 #[ledV B m d] h' (fun u _ => u = .int .i64 g):=fun h' hl => by rw [hge];exact checkL_c h' (hG.le hl) B m d r (hy.le hl)
  have hn:=hx.small
  have hm:=hy.small
  have hlen:=hx.row.len
  have hlem:=hy.row.len
  by_cases h0 : e = 0
  · by_cases h1 : g = 0
    · have hmg : mergeL (fcs l) (fcs r) = lim (unionL (fcs l) (fcs r)):=by unfold mergeL;rw [if_neg (by rw [← he];omega),if_neg (by rw [← hge];omega)]
      rw [hmg]
      have hok:=ledE_zero.1 (he ▸ h0)
      have hok2:=ledE_zero.1 (hge ▸ h1)
      have hg : ∀ p ∈ l,FGd h p:=fun p hp => ⟨(hx.fat p hp).1,(hx.fat p hp).2,hok.2.1 _ (List.mem_map.2 ⟨p,hp,rfl⟩)⟩
      have hg2 : ∀ p ∈ r,FGd h p:=fun p hp => ⟨(hy.fat p hp).1,(hy.fat p hp).2,hok2.2.1 _ (List.mem_map.2 ⟨p,hp,rfl⟩)⟩
      have hxl : LedAt h A n l:=⟨hx.row,hg,hx.small⟩
      have hyl : LedAt h B m r:=⟨hy.row,hg2,hy.small⟩
      repeat' (first|apply GO_seq|apply GO_skip|apply GO_inBlock|apply GO_block|apply GO_region|apply GOl_nil|(apply GO_exit;exact rfl)|(apply GO_loop)|(apply GO_inLoop)|(apply GOl_add;(iterate 3 exact rfl);omega;exact rfl;exact rfl)|(apply GOl_pv;(iterate 3 exact rfl))|(apply GOl_load;exact rfl;exact Ld_blk rfl QM rfl;exact rfl;exact rfl)|(apply GOl_ov;exact rfl;exact rfl;(first|(apply OV_idx (j:=0);(iterate 5 exact rfl);omega;omega)|(apply OV_idx (j:=1);(iterate 5 exact rfl);omega;omega)|(apply OV_load;exact rfl;exact Lv_ro rfl (hb0.le (by first|exact Le.refl _|assumption|(repeat (first|assumption|(apply Le.trans;assumption))))) rfl)|(apply OV_load;exact rfl;exact Lv_ro rfl (hb1.le (by first|exact Le.refl _|assumption|(repeat (first|assumption|(apply Le.trans;assumption))))) rfl));exact QA)|(apply GOl_to;(iterate 3 exact rfl);(first|(apply OpTo_store;(iterate 3 exact rfl);exact QR;(iterate 3 exact rfl);skip)|(apply OpTo_box;exact rfl;intro b;skip)|(apply OpTo_alloc;exact rfl;intro b;skip)|(apply OpTo_buildSliceR (cs:=[.slice A n c,.slice B m d]);(iterate 3 exact rfl);exact List.cons_ne_nil _ _;(iterate 4 exact rfl);intro b6 h6 hle6 hcs6;(have hb0:=cells_at hcs6 (k:=0) rfl);(have hb1:=cells_at hcs6 (k:=1) rfl);skip)|(apply OpTo_res;exact rfl;exact has35;exact hck _ (by first|exact Le.refl _|assumption|(repeat (first|assumption|(apply Le.trans;assumption))));rintro v1 h3 hle1 rfl;skip)|(apply OpTo_res;exact rfl;exact has35;exact hcm _ (by first|exact Le.refl _|assumption|(repeat (first|assumption|(apply Le.trans;assumption))));rintro v1 h3 hle1 rfl;skip)|(apply OpTo_res;exact rfl;exact has84;exact merged_c _ (hG.le (by first|exact Le.refl _|assumption|(repeat (first|assumption|(apply Le.trans;assumption))))) A B n c m d l r (hxl.le (by first|exact Le.refl _|assumption|(repeat (first|assumption|(apply Le.trans;assumption))))) (hyl.le (by first|exact Le.refl _|assumption|(repeat (first|assumption|(apply Le.trans;assumption))))) hnc hmd;rintro v6 h6 hle6 ⟨A8,k8,c8,rfl,hkc8,hk8,hs8⟩;skip)))|(apply GO_cond;exact rfl;all_goals (intro hc;try simp only [hcS,reduceCtorEq] at hc;try (exfalso;omega))))
      all_goals (try (exfalso;omega))
      have hk9 : k8 ≤ 1000000:=by
        have q1 : (mergeP l r).length ≤ l.length + r.length:=mergeA_len _ _ _ (Nat.le_refl _)
        have q2:=hok.1
        have q3:=hok2.1
        rw [List.length_map] at q2 q3
        omega
      have hl7 : Le h h6:=(by first|exact Le.refl _|assumption|(repeat (first|assumption|(apply Le.trans;assumption))))
      have hca : LedAt h6 A8 k8 (mergeP l r):=⟨hs8,mergeP_good (fun p hp => (hg p hp).le hl7) (fun p hp => (hg2 p hp).le hl7),hk9⟩
      have hcan : fcs (mergeP l r) = unionL (fcs l) (fcs r):=mergeA_canon (fun z hz => (hg z hz).in_) (fun z hz => (hg2 z hz).in_) hok.2.2 hok2.2.2
      obtain ⟨o1,o2⟩:=lim_out hca hkc8
      rw [hcan] at o1 o2
      obtain ⟨A7,k7,c7,l7,e7,hk7,hl7b,hf7⟩:=o1
      apply GOl_to
      exact rfl
      exact rfl
      exact rfl
      apply OpTo_val
      exact rfl
      exact has72
      exact limited_c _ A8 k8 c8 hk9
      rw [lim_val,e7,← o2]
      repeat' (first|apply GOl_nil|(apply GOl_pv;(iterate 3 exact rfl))|(apply GOl_to;(iterate 3 exact rfl);(first|(apply OpTo_store;(iterate 3 exact rfl);exact QR;(iterate 3 exact rfl);skip))))
      all_goals exact GO_retRC2 rfl rfl rfl QM rfl rfl rfl ⟨ledV A7 k7 c7,rfl,A7,k7,c7,l7,rfl,hk7,hl7b,hf7⟩
    · have hmg : mergeL (fcs l) (fcs r) = ([],g):=by unfold mergeL;rw [if_neg (by rw [← he];omega),if_pos (by rw [← hge];exact h1),hge]
      rw [hmg]
      repeat' (first|apply GO_seq|apply GO_skip|apply GO_inBlock|apply GO_block|apply GO_region|apply GOl_nil|(apply GO_loop)|(apply GO_inLoop)|(apply GOl_add;(iterate 3 exact rfl);omega;exact rfl;exact rfl)|(apply GOl_pv;(iterate 3 exact rfl))|(apply GOl_load;exact rfl;exact Ld_blk rfl QM rfl;exact rfl;exact rfl)|(apply GOl_ov;exact rfl;exact rfl;(first|(apply OV_idx (j:=0);(iterate 5 exact rfl);omega;omega)|(apply OV_idx (j:=1);(iterate 5 exact rfl);omega;omega)|(apply OV_load;exact rfl;exact Lv_ro rfl (hb0.le (by first|exact Le.refl _|assumption|(repeat (first|assumption|(apply Le.trans;assumption))))) rfl)|(apply OV_load;exact rfl;exact Lv_ro rfl (hb1.le (by first|exact Le.refl _|assumption|(repeat (first|assumption|(apply Le.trans;assumption))))) rfl));exact QA)|(apply GOl_to;(iterate 3 exact rfl);(first|(apply OpTo_store;(iterate 3 exact rfl);exact QR;(iterate 3 exact rfl);skip)|(apply OpTo_box;exact rfl;intro b;skip)|(apply OpTo_alloc;exact rfl;intro b;skip)|(apply OpTo_buildSliceR (cs:=[.slice A n c,.slice B m d]);(iterate 3 exact rfl);exact List.cons_ne_nil _ _;(iterate 4 exact rfl);intro b6 h6 hle6 hcs6;(have hb0:=cells_at hcs6 (k:=0) rfl);(have hb1:=cells_at hcs6 (k:=1) rfl);skip)|(apply OpTo_res;exact rfl;exact has35;exact hck _ (by first|exact Le.refl _|assumption|(repeat (first|assumption|(apply Le.trans;assumption))));rintro v1 h3 hle1 rfl;skip)|(apply OpTo_res;exact rfl;exact has35;exact hcm _ (by first|exact Le.refl _|assumption|(repeat (first|assumption|(apply Le.trans;assumption))));rintro v1 h3 hle1 rfl;skip)))|(apply GO_cond;exact rfl;all_goals (intro hc;try simp only [hcS,reduceCtorEq] at hc;try (exfalso;omega))))
      all_goals first
        | (exfalso;omega)
        | (exact GO_retRC2 rfl rfl rfl QM rfl rfl rfl ⟨ledV none 0 0,rfl,LedOut.nil _⟩)
  · have hmg : mergeL (fcs l) (fcs r) = ([],e):=by unfold mergeL;rw [if_pos (by rw [← he];exact h0),he]
    rw [hmg]
    repeat' (first|apply GO_seq|apply GO_skip|apply GO_block|apply GO_region|apply GOl_nil|(apply GO_loop)|(apply GOl_pv;(iterate 3 exact rfl))|(apply GOl_load;exact rfl;exact Ld_blk rfl QM rfl;exact rfl;exact rfl)|(apply GOl_ov;exact rfl;exact rfl;(first|(apply OV_idx (j:=0);(iterate 5 exact rfl);omega;omega)|(apply OV_load;exact rfl;exact Lv_ro rfl (hb0.le (by first|exact Le.refl _|assumption|(repeat (first|assumption|(apply Le.trans;assumption))))) rfl));exact QA)|(apply GOl_to;(iterate 3 exact rfl);(first|(apply OpTo_store;(iterate 3 exact rfl);exact QR;(iterate 3 exact rfl);skip)|(apply OpTo_box;exact rfl;intro b;skip)|(apply OpTo_alloc;exact rfl;intro b;skip)|(apply OpTo_buildSliceR (cs:=[.slice A n c,.slice B m d]);(iterate 3 exact rfl);exact List.cons_ne_nil _ _;(iterate 4 exact rfl);intro b6 h6 hle6 hcs6;(have hb0:=cells_at hcs6 (k:=0) rfl);(have hb1:=cells_at hcs6 (k:=1) rfl);skip)|(apply OpTo_res;exact rfl;exact has35;exact hck _ (by first|exact Le.refl _|assumption|(repeat (first|assumption|(apply Le.trans;assumption))));rintro v1 h3 hle1 rfl;skip)))|(apply GO_cond;exact rfl;all_goals (intro hc;try simp only [hcS,reduceCtorEq] at hc;try (exfalso;omega))))
    all_goals first
      | (exfalso;omega)
      | (exact GO_retRC2 rfl rfl rfl QM rfl rfl rfl ⟨ledV none 0 0,rfl,LedOut.nil _⟩)
end Go.Hw

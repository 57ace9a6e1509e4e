import Derived.Test.YtajmniiiahhfaaaGreatDoorSA
import Derived.Test.YtajmniiiahhfaaaGreatDoorFB
import Derived.Test.YtajmniiiahhfaaaGreatDoorHD
import Derived.Test.YtajmniiiahhfaaaGreatDoorHB
set_option linter.unusedVariables false
set_option linter.unusedSimpArgs false
set_option maxRecDepth 100000
set_option maxHeartbeats 4000000
namespace Go.Hw
open Go
attribute [local irreducible] GO GOl GDp Val Fn Res CellsAt ValE Blk OwnS MapA OwnPf Has Yl
open Go.Proofs (Tryz.prog)
def FGd (h : Ro) (p : Fsh × Fct) : Prop:=FAt h p.1 p.2 ∧ FSm p.2 ∧ FctOk p.2
theorem FGd.le {h h' : Ro} {p : Fsh × Fct} (g : FGd h p) (hl : Le h h') : FGd h' p:=⟨g.1.le hl,g.2⟩
theorem FGd.in_ {h : Ro} {p : Fsh × Fct} (g : FGd h p) : FctIn p.2:=⟨g.2.2,g.1.void⟩
structure LedAt (h : Ro) (A : Option Addr) (n : Nat) (l : List (Fsh × Fct)) : Prop where
  row : SlOf encF82 82 h A n l
  good : ∀ p ∈ l,FGd h p
  small : n ≤ 1000000
theorem LedAt.le {h h' : Ro} {A : Option Addr} {n : Nat} {l : List (Fsh × Fct)} (a : LedAt h A n l) (hl : Le h h') : LedAt h' A n l:=⟨a.row.le hl,fun p hp => (a.good p hp).le hl,a.small⟩
theorem LedAt.facts {h : Ro} {A : Option Addr} {n : Nat} {l : List (Fsh × Fct)} (a : LedAt h A n l) : FactsAt h A n l:=⟨a.row,fun p hp => ⟨(a.good p hp).1,(a.good p hp).2.1⟩,a.small⟩
theorem FactsAt.led {h : Ro} {A : Option Addr} {n : Nat} {l : List (Fsh × Fct)} (a : FactsAt h A n l) (hk : ∀ p ∈ l,FctOk p.2) : LedAt h A n l:=⟨a.row,fun p hp => ⟨(a.fat p hp).1,(a.fat p hp).2,hk p hp⟩,a.small⟩
theorem LedAt.nil (h : Ro) : LedAt h none 0 []:=⟨SlOf.nil,fun p hp => absurd hp (by simp),by omega⟩
open Classical in
noncomputable def chkE (l : List (Fsh × Fct)) : Int:=if ∀ p ∈ l,FctOk p.2 then 0 else 70
open Classical in
theorem check8_c (h : Ro) (A : Option Addr) (n c : Nat) (l : List (Fsh × Fct)) (hx : FactsAt h A n l) : Val Tryz.prog 68 #[.slice A n c] h (.int .i64 (chkE l)):=by
  refine Val_intro (args:=[_]) ts_ok Go.Proofs.Tryz.func68 rfl rfl fun w0 X0 => ?_
  have hlen:=hx.row.len
  have hn:=hx.small
  repeat' (first|apply GO_seq|apply GO_block|apply GO_region|apply GOl_nil|(apply GOl_pv;(iterate 3 exact rfl)))
  refine GO_loopT (X:=Nat) (fun k => k ≤ n ∧ ∀ p ∈ l.take k,FctOk p.2) (fun k => n - k) (fun k => [(8,.int .i64 k),(7,.int .i64 n),(6,.slice A n c)]) (fun _ => []) (fun _ => h) 0 ⟨by omega,by simp⟩ QS QT rfl ?_
  rintro k ⟨hk,hI⟩ ih
  by_cases hkn : k < n
  · have a1:=hx.row.addrD hkn
    have c1:=hx.row.cellsD p0 hkn
    have et:=take7 p0 (xs:=l) rfl (show k < l.length by omega)
    have hme:=mem7 p0 (show k < l.length by omega)
    have hfa:=hx.fat _ hme
    generalize l.getD k p0 = p at *
    have hch:=check7_c h p.1 p.2 hfa.1 hfa.2
    by_cases hv : FctOk p.2
    · rw [if_pos hv] at hch
      repeat' (first|apply GO_seq|apply GO_skip|apply GO_inBlock|apply GO_block|apply GO_region|apply GOl_nil|(apply GOl_add;(iterate 3 exact rfl);omega;exact rfl;exact rfl)|(apply GOl_pv;(iterate 3 exact rfl))|(apply GOl_load;exact rfl;exact Ld_blk rfl QM rfl;exact rfl;exact rfl)|(apply GOl_ov;exact rfl;exact rfl;(first|(apply OV_idxS (j:=k);(iterate 5 exact rfl);exact a1;(with_reducible exact rfl);omega)|(apply OV_load;exact rfl;exact Lv_ro rfl c1 rfl));exact QA)|(apply GOl_to;(iterate 3 exact rfl);(first|(apply OpTo_store;(iterate 3 exact rfl);exact QR;(iterate 3 exact rfl);skip)|(apply OpTo_alloc;exact rfl;intro b;skip)|(apply OpTo_val;exact rfl;exact has82;exact hch;skip)))|(apply GO_cond;exact rfl;all_goals (intro hc;try simp only [hcS,reduceCtorEq] at hc;try (exfalso;omega))))
      all_goals
        have h3:=ih (k + 1) ⟨by omega,by rw [et];intro q hq;rw [List.mem_append,List.mem_singleton] at hq;rcases hq with hq|rfl;exact hI q hq;exact hv⟩ (by omega)
        refine GO_fit QS QT (h3)
    · rw [if_neg hv] at hch
      have he : chkE l = 70:=by unfold chkE;rw [if_neg];exact fun hh => hv (hh p hme)
      rw [he]
      repeat' (first|apply GO_seq|apply GO_skip|apply GO_block|apply GO_region|apply GOl_nil|(apply GOl_pv;(iterate 3 exact rfl))|(apply GOl_load;exact rfl;exact Ld_blk rfl QM rfl;exact rfl;exact rfl)|(apply GOl_ov;exact rfl;exact rfl;(first|(apply OV_idxS (j:=k);(iterate 5 exact rfl);exact a1;(with_reducible exact rfl);omega)|(apply OV_load;exact rfl;exact Lv_ro rfl c1 rfl));exact QA)|(apply GOl_to;(iterate 3 exact rfl);(first|(apply OpTo_store;(iterate 3 exact rfl);exact QR;(iterate 3 exact rfl);skip)|(apply OpTo_alloc;exact rfl;intro b;skip)|(apply OpTo_val;exact rfl;exact has82;exact hch;skip)))|(apply GO_cond;exact rfl;all_goals (intro hc;try simp only [hcS,reduceCtorEq] at hc;try (exfalso;omega)))|(apply GO_retV1;(iterate 3 exact rfl)))
      all_goals rfl
  · rw [List.take_of_length_le (by omega)] at hI
    have he : chkE l = 0:=by unfold chkE;rw [if_pos hI]
    rw [he]
    clear ih
    repeat' (first|apply GO_seq|apply GO_region|apply GOl_nil|(apply GO_exit;exact rfl)|(apply GOl_pv;(iterate 3 exact rfl))|(apply GO_cond;exact rfl;all_goals (intro hc;try simp only [hcS,reduceCtorEq] at hc;try (exfalso;omega)))|(apply GO_retV1;(iterate 3 exact rfl)))
    all_goals rfl
theorem isDay_c (h : Ro) (n : Int) : Val Tryz.prog 78 #[.int .i64 n] h (.bool (decide (0 ≤ n ∧ n ≤ 1048576))):=by
  refine Val_intro (args:=[_]) ts_ok Go.Proofs.Tryz.func78 rfl rfl fun w0 X0 => ?_
  repeat' (first|apply GO_seq|apply GO_region|apply GOl_nil|(apply GOl_unwanted;exact rfl;exact rfl)|(apply GOl_pv;(iterate 3 exact rfl))|(apply GOl_split;exact rfl;exact rfl;all_goals (intro hc;try simp only [hcS,reduceCtorEq] at hc;try (exfalso;omega)))|(apply GO_retV1;(iterate 3 exact rfl)))
  all_goals (refine dec_ofV ?_;(try simp only [ltI_t,leI_t] at *);grind)
theorem limited_c (h : Ro) (A : Option Addr) (n c : Nat) (hn : n ≤ 1000000) : Val Tryz.prog 72 #[.slice A n c] h (if 65536 < n then .tuple #[.agg #[.slice none 0 0],.int .i64 2] else .tuple #[.agg #[.slice A n c],.int .i64 0]):=by
  refine Val_intro (args:=[_]) ts_ok Go.Proofs.Tryz.func72 rfl rfl fun w0 X0 => ?_
  by_cases h0 : 65536 < n
  · rw [if_pos h0]
    repeat' (first|apply GO_seq|apply GO_region|apply GOl_nil|(apply GOl_pv;(iterate 3 exact rfl))|(apply GOl_load;exact rfl;exact Ld_blk rfl QM rfl;exact rfl;exact rfl)|(apply GOl_to;(iterate 3 exact rfl);(first|(apply OpTo_store;(iterate 3 exact rfl);exact QR;(iterate 3 exact rfl);skip)|(apply OpTo_alloc;exact rfl;intro b;skip)))|(apply GO_cond;exact rfl;all_goals (intro hc;try simp only [hcS,reduceCtorEq] at hc;try (exfalso;omega)))|(apply GO_retC2;(iterate 3 exact rfl);exact QM;(iterate 3 exact rfl)))
    all_goals rfl
  · rw [if_neg h0]
    repeat' (first|apply GO_seq|apply GO_skip|apply GO_region|apply GOl_nil|(apply GOl_pv;(iterate 3 exact rfl))|(apply GOl_to;(iterate 3 exact rfl);(first|(apply OpTo_store;(iterate 3 exact rfl);exact QR;(iterate 3 exact rfl);skip)|(apply OpTo_alloc;exact rfl;intro b;skip)))|(apply GO_cond;exact rfl;all_goals (intro hc;try simp only [hcS,reduceCtorEq] at hc;try (exfalso;omega)))|(apply GO_retC2;(iterate 3 exact rfl);exact QM;(iterate 3 exact rfl)))
    all_goals rfl
theorem cmp_c (h : Ro) (hG : PowG h) (x y : Fsh × Fct) (hx : FGd h x) (hy : FGd h y) : Res Tryz.prog 71 #[factV x.1 x.2,factV y.1 y.2] h (fun u _ => u = .int .i64 (cmpF x.2 y.2)) :=
  compare7_c h hG x.1 y.1 x.2 y.2 hx.1 hx.2.1 hy.1 hy.2.1 hx.2.2 hy.2.2
theorem new1_c (h : Ro) (hG : PowG h) (x y : Fsh × Fct) (hx : FGd h x) (hy : FGd h y) : Res Tryz.prog 74 #[factV x.1 x.2,factV y.1 y.2] h (fun u _ => u = .bool (decide (cmpF x.2 y.2 = 0))):=by
  refine Res_intro (args:=[_,_]) ts_ok Go.Proofs.Tryz.func74 rfl rfl fun w0 X0 => ?_
  repeat' (first|apply GO_seq|apply GO_region|apply GOl_nil|(apply GOl_pv;(iterate 3 exact rfl))|(apply GOl_load;exact rfl;exact Ld_blk rfl QM rfl;exact rfl;exact rfl)|(apply GOl_to;(iterate 3 exact rfl);(first|(apply OpTo_box;exact rfl;intro b;skip)|(apply OpTo_res;exact rfl;exact has71;exact cmp_c _ (hG.le (by first|exact Le.refl _|assumption|(repeat (first|assumption|(apply Le.trans;assumption))))) x y (hx.le (by first|exact Le.refl _|assumption|(repeat (first|assumption|(apply Le.trans;assumption))))) (hy.le (by first|exact Le.refl _|assumption|(repeat (first|assumption|(apply Le.trans;assumption)))));rintro vr hr1 hle1 rfl;skip)))|(apply GO_retR1;(iterate 3 exact rfl)))
  all_goals (rw [eqI_eq])
end Go.Hw
set_option linter.unusedVariables false
set_option linter.unusedSimpArgs false
set_option maxRecDepth 100000
set_option maxHeartbeats 8000000
namespace Go.Hw
open Go
attribute [local irreducible] GO GOl GDp Val Fn Res CellsAt ValE Blk OwnS MapA OwnPf Has Yl
open Go.Proofs (Tryz.prog)
theorem bs_mid {l : List Fct} (hs : SortF l) {f : Fct} {m t : Nat} (hm : m < l.length) (ht : t < l.length) {x : Fct} (hx : l[m] = x) : (cmpF x f < 0 → t ≤ m → cmpF l[t] f < 0) ∧ (¬ cmpF x f < 0 → m ≤ t → ¬ cmpF l[t] f < 0):=by
  subst hx
  refine ⟨fun h1 h2 => ?_,fun h1 h2 h3 => ?_⟩
  · rcases Nat.lt_or_ge t m with q|q
    · exact cmpF_lt.2 ((sortF_get hs q hm).trans (cmpF_lt.1 h1))
    · have : t = m:=by omega
      subst this;exact h1
  · rcases Nat.lt_or_ge m t with q|q
    · exact h1 (cmpF_lt.2 ((sortF_get hs q ht).trans (cmpF_lt.1 h3)))
    · have : t = m:=by omega
      subst this;exact h1 h3
theorem map_getD {α β : Type} (f : α → β) (l : List α) (d : α) {k : Nat} (hk : k < l.length) : (l.map f)[k]'(by simpa using hk) = f (l.getD k d):=by
  simp [List.getD,List.getElem?_eq_getElem hk]
open Classical in
theorem search_c (h : Ro) (hG : PowG h) (A : Option Addr) (n c : Nat) (l : List (Fsh × Fct)) (hx : LedAt h A n l) (hs : SortF (l.map (·.2))) (y : Fsh × Fct) (hy : FGd h y) :
    Res Tryz.prog 83 #[.slice A n c,factV y.1 y.2,.func (.func 71) #[] #[]] h (fun u _ => ∃ i : Int,u = .tuple #[.int .i64 i,.bool (decide (y.2 ∈ l.map (·.2)))]):=by
  refine Res_intro (args:=[_,_,_]) ts_ok Go.Proofs.Tryz.func83 rfl rfl fun w0 X0 => ?_
  have hlen:=hx.row.len
  have hn:=hx.small
  have hml : (l.map (·.2)).length = n:=by rw [List.length_map,hlen]
  repeat' (first|apply GO_seq|apply GO_block|apply GO_region|apply GOl_nil|(apply GOl_pv;(iterate 3 exact rfl))|(apply GOl_to;(iterate 3 exact rfl);(first|(apply OpTo_box;exact rfl;intro b;skip))))
  refine GO_loopT (X:=Nat × Nat × Ro) (fun x => x.1 ≤ x.2.1 ∧ x.2.1 ≤ n ∧ Le h x.2.2 ∧ (∀ (t : Nat) (ht : t < (l.map (·.2)).length),t < x.1 → cmpF (l.map (·.2))[t] y.2 < 0) ∧ (∀ (t : Nat) (ht : t < (l.map (·.2)).length),x.2.1 ≤ t → ¬ cmpF (l.map (·.2))[t] y.2 < 0)) (fun x => x.2.1 - x.1)
    (fun x => [(9,.int .i64 x.1),(10,.int .i64 x.2.1),(8,.int .i64 n),(0,.slice A n c),(2,.func (.func 71) #[] #[]),(4,.pointer (some ⟨b,0,none⟩))])
    (fun _ => [Blk b 73 (factC y.1 y.2)]) (fun x => x.2.2) (0,n,h) ⟨by dsimp only;omega,by dsimp only;omega,Le.refl _,fun t ht h1 => absurd h1 (by dsimp only;omega),fun t ht h1 => absurd h1 (by dsimp only;omega)⟩ QS QT rfl ?_
  rintro ⟨i,j,hh⟩ ⟨hij,hj,hle,h1,h2⟩ ih
  dsimp only at hij hj hle h1 h2 ih ⊢
  by_cases hlt : i < j
  · obtain ⟨m,hm⟩ : ∃ m,m = (i + j) / 2:=⟨_,rfl⟩
    have hmi : i ≤ m ∧ m < j:=by omega
    have a1:=hx.row.addrD (k:=m) (by omega)
    have c1:=(hx.row.cellsD p0 (k:=m) (by omega)).le hle
    have hme:=mem7 p0 (show m < l.length by omega)
    have hgm:=hx.good _ hme
    have hgd:=map_getD (·.2) l p0 (show m < l.length by omega)
    have hmid:=fun (t : Nat) (ht : t < (l.map (·.2)).length) => bs_mid hs (f:=y.2) (m:=m) (t:=t) (by omega) ht hgd
    clear hgd
    generalize l.getD m p0 = p at *
    by_cases hc9 : cmpF p.2 y.2 < 0
    · repeat' (first|apply GO_seq|apply GO_skip|apply GO_inBlock|apply GO_block|apply GO_region|apply GOl_nil|(apply GOl_ov;exact rfl;exact rfl;(first|(apply OV_convI (k:=.i64) (k':=.u64);(iterate 4 exact rfl);exact u64_in (by omega))|(apply OV_convI (k:=.u64) (k':=.i64) (p:=(m : Int));(iterate 4 exact rfl);exact i64_in _ (by omega)));exact QA)|(apply GOl_add;(iterate 3 exact rfl);omega;exact rfl;exact rfl)|(apply GOl_pv;(iterate 3 exact rfl))|(apply GOl_ov;exact rfl;exact rfl;(first|(apply OV_shr1 (m:=m);exact rfl;exact rfl;omega));exact QA)|(apply GO_drawp (n:=5) [0,1,2,3,4,5,6,7] [(0,0),(1,0),(2,0),(3,0),(4,0),(5,0),(6,1),(7,0)];kernel_rfl)|(apply GP_pv;exact rfl;kernel_rfl;(iterate 3 exact rfl))|(apply GP_loadB;exact rfl;kernel_rfl;(iterate 3 exact rfl);exact QM;exact rfl;exact rfl)|(apply GP_ov;exact rfl;kernel_rfl;exact rfl;exact rfl;(first|(apply OV_idxS (j:=m);(iterate 5 exact rfl);exact a1;(with_reducible exact rfl);omega)|(apply OV_load;exact rfl;exact Lv_ro rfl c1 rfl));exact QA)|(apply GP_real;exact rfl;kernel_rfl;(iterate 3 exact rfl);(first|(apply OpTo_resF (f:=71) (fs:=[]) (cs:=[]);exact rfl;exact rfl;exact has71;exact cmp_c _ (hG.le (by first|exact Le.refl _|assumption|(repeat (first|assumption|(apply Le.trans;assumption))))) p y (hgm.le (by first|exact Le.refl _|assumption|(repeat (first|assumption|(apply Le.trans;assumption))))) (hy.le (by first|exact Le.refl _|assumption|(repeat (first|assumption|(apply Le.trans;assumption)))));rintro vr hr1 hle1 rfl;refine ⟨hle1,QN,?_⟩)))|(apply GP_done;kernel_rfl;exact rfl)|(apply GO_cond;exact rfl;all_goals (intro hc;try simp only [hcS,reduceCtorEq] at hc;try (exfalso;omega))))
      all_goals
        have h3:=ih (m + 1,j,hr1) ⟨by dsimp only;omega,by dsimp only;omega,by dsimp only;exact hle.trans hle1,fun t ht q => (hmid t ht).1 hc9 (by dsimp only at q;omega),fun t ht q => h2 t ht q⟩ (by dsimp only;omega)
        dsimp only at h3
        refine GO_fit QS QT (h3)
    · repeat' (first|apply GO_seq|apply GO_skip|apply GO_inBlock|apply GO_block|apply GO_region|apply GOl_nil|(apply GOl_ov;exact rfl;exact rfl;(first|(apply OV_convI (k:=.i64) (k':=.u64);(iterate 4 exact rfl);exact u64_in (by omega))|(apply OV_convI (k:=.u64) (k':=.i64) (p:=(m : Int));(iterate 4 exact rfl);exact i64_in _ (by omega)));exact QA)|(apply GOl_add;(iterate 3 exact rfl);omega;exact rfl;exact rfl)|(apply GOl_pv;(iterate 3 exact rfl))|(apply GOl_ov;exact rfl;exact rfl;(first|(apply OV_shr1 (m:=m);exact rfl;exact rfl;omega));exact QA)|(apply GO_drawp (n:=5) [0,1,2,3,4,5,6,7] [(0,0),(1,0),(2,0),(3,0),(4,0),(5,0),(6,1),(7,0)];kernel_rfl)|(apply GP_pv;exact rfl;kernel_rfl;(iterate 3 exact rfl))|(apply GP_loadB;exact rfl;kernel_rfl;(iterate 3 exact rfl);exact QM;exact rfl;exact rfl)|(apply GP_ov;exact rfl;kernel_rfl;exact rfl;exact rfl;(first|(apply OV_idxS (j:=m);(iterate 5 exact rfl);exact a1;(with_reducible exact rfl);omega)|(apply OV_load;exact rfl;exact Lv_ro rfl c1 rfl));exact QA)|(apply GP_real;exact rfl;kernel_rfl;(iterate 3 exact rfl);(first|(apply OpTo_resF (f:=71) (fs:=[]) (cs:=[]);exact rfl;exact rfl;exact has71;exact cmp_c _ (hG.le (by first|exact Le.refl _|assumption|(repeat (first|assumption|(apply Le.trans;assumption))))) p y (hgm.le (by first|exact Le.refl _|assumption|(repeat (first|assumption|(apply Le.trans;assumption))))) (hy.le (by first|exact Le.refl _|assumption|(repeat (first|assumption|(apply Le.trans;assumption)))));rintro vr hr1 hle1 rfl;refine ⟨hle1,QN,?_⟩)))|(apply GP_done;kernel_rfl;exact rfl)|(apply GO_cond;exact rfl;all_goals (intro hc;try simp only [hcS,reduceCtorEq] at hc;try (exfalso;omega))))
      all_goals first
        | (exfalso;omega)
        | (have h3:=ih (i,m,hr1) ⟨by dsimp only;omega,by dsimp only;omega,by dsimp only;exact hle.trans hle1,fun t ht q => h1 t ht q,fun t ht q => (hmid t ht).2 hc9 q⟩ (by dsimp only;omega)
           dsimp only at h3
           refine GO_fit QS QT (h3))
  · have hij2 : i = j:=by omega
    subst hij2
    clear ih
    have hbs:=bs_found hs hy.in_ (fun f hf => by obtain ⟨q,hq,rfl⟩:=List.mem_map.1 hf;exact (hx.good q hq).in_) (show i ≤ (l.map (·.2)).length by omega) h1 h2
    by_cases hin : i < n
    · have a1:=hx.row.addrD (k:=i) hin
      have c1:=(hx.row.cellsD p0 (k:=i) hin).le hle
      have hgm:=hx.good _ (mem7 p0 (show i < l.length by omega))
      have hgd:=map_getD (·.2) l p0 (show i < l.length by omega)
      have hdec : (y.2 ∈ l.map (·.2)) ↔ cmpF (l.getD i p0).2 y.2 = 0:=by
        rw [hbs]
        constructor
        · rintro ⟨q,e⟩;rw [hgd] at e;exact e
        · intro e;exact ⟨by omega,by rw [hgd];exact e⟩
      clear hgd hbs
      generalize l.getD i p0 = p at *
      have hb7 : decide (y.2 ∈ l.map (·.2)) = eqI (cmpF p.2 y.2) 0:=by
        rw [eqI_eq,decide_eq_decide];exact hdec
      rw [hb7]
      clear hb7 hdec h1 h2
      repeat' (first|apply GO_seq|apply GO_region|apply GOl_nil|(apply GO_exit;exact rfl)|(apply GOl_pv;(iterate 3 exact rfl))|(apply GO_drawp (n:=8) [0,1,2,3,4,5,6,7,8,9,10,11,14,12,13,15] [(0,0),(1,0),(2,0),(3,0),(4,0),(5,0),(6,0),(7,0),(8,0),(9,0),(10,0),(11,1),(12,0),(13,0),(14,0),(15,0)];kernel_rfl)|(apply GP_pv;exact rfl;kernel_rfl;(iterate 3 exact rfl))|(apply GP_loadB;exact rfl;kernel_rfl;(iterate 3 exact rfl);exact QM;exact rfl;exact rfl)|(apply GP_ov;exact rfl;kernel_rfl;exact rfl;exact rfl;(first|(apply OV_idxS (j:=i);(iterate 5 exact rfl);exact a1;(with_reducible exact rfl);omega)|(apply OV_load;exact rfl;exact Lv_ro rfl c1 rfl));exact QA)|(apply GP_real;exact rfl;kernel_rfl;(iterate 3 exact rfl);(first|(apply OpTo_resF (f:=71) (fs:=[]) (cs:=[]);exact rfl;exact rfl;exact has71;exact cmp_c _ (hG.le (by first|exact Le.refl _|assumption|(repeat (first|assumption|(apply Le.trans;assumption))))) p y (hgm.le (by first|exact Le.refl _|assumption|(repeat (first|assumption|(apply Le.trans;assumption))))) (hy.le (by first|exact Le.refl _|assumption|(repeat (first|assumption|(apply Le.trans;assumption)))));rintro vr hr1 hle1 rfl;refine ⟨hle1,QN,?_⟩)))|(apply GP_done;kernel_rfl;exact rfl)|(apply GP_split;(iterate 5 exact rfl);all_goals (intro hc;try simp only [hcS,reduceCtorEq] at hc;try (exfalso;omega)))|(apply GO_cond;exact rfl;all_goals (intro hc;try simp only [hcS,reduceCtorEq] at hc;try (exfalso;omega))))
      all_goals exact GO_retR2 rfl rfl rfl rfl ⟨_,rfl⟩
    · have hdec : ¬ (y.2 ∈ l.map (·.2)):=by
        rw [hbs];rintro ⟨q,e⟩;omega
      rw [decide_eq_false hdec]
      repeat' (first|apply GO_seq|apply GO_region|apply GOl_nil|(apply GO_exit;exact rfl)|(apply GOl_pv;(iterate 3 exact rfl))|(apply GO_drawp (n:=8) [0,1,2,3,4,5,6,7,8,9,10,11,14,12,13,15] [(0,0),(1,0),(2,0),(3,0),(4,0),(5,0),(6,0),(7,0),(8,0),(9,0),(10,0),(11,1),(12,0),(13,0),(14,0),(15,0)];kernel_rfl)|(apply GP_un;exact rfl;kernel_rfl;exact rfl;exact rfl)|(apply GP_pv;exact rfl;kernel_rfl;(iterate 3 exact rfl))|(apply GP_done;kernel_rfl;exact rfl)|(apply GP_split;(iterate 5 exact rfl);all_goals (intro hc;try simp only [hcS,reduceCtorEq] at hc;try (exfalso;omega)))|(apply GO_cond;exact rfl;all_goals (intro hc;try simp only [hcS,reduceCtorEq] at hc;try (exfalso;omega)))|(apply GP_un1;exact rfl;kernel_rfl;exact rfl;exact rfl))
      all_goals exact GO_retR2 rfl rfl rfl rfl ⟨_,rfl⟩
end Go.Hw
set_option linter.unusedVariables false
set_option linter.unusedSimpArgs false
set_option maxRecDepth 100000
set_option maxHeartbeats 8000000
namespace Go.Hw
open Go
attribute [local irreducible] GO GOl GDp Val Fn Res CellsAt ValE Blk OwnS MapA OwnPf Has Yl
open Go.Proofs (Tryz.prog)
abbrev mergeP:=mergeA (α:=Fsh × Fct) (·.2)
theorem encF82_one : ∀ x : Fsh × Fct,∀ v ∈ encF82 x,v.oneCell' = true:=fun x => allOne_ok rfl
theorem merged_c (h : Ro) (hG : PowG h) (A B : Option Addr) (n c m d : Nat) (l r : List (Fsh × Fct)) (hx : LedAt h A n l) (hy : LedAt h B m r) (hnc : n ≤ c) (hmd : m ≤ d) :
    Res Tryz.prog 84 #[.slice A n c,.slice B m d,.func (.func 71) #[] #[]] h (fun u h' => ∃ A' k c',u = .slice A' k c' ∧ k ≤ c' ∧ k = (mergeP l r).length ∧ SlOf encF82 82 h' A' k (mergeP l r)):=by
  refine Res_intro (args:=[_,_,_]) ts_ok Go.Proofs.Tryz.func84 rfl rfl fun w0 X0 => ?_
  have hn:=hx.small
  have hm:=hy.small
  refine GO_nilS 73 82 ?_
  refine GO_take (Es':=[OwnS 73 82 (.slice none 0 0) 0 []]) QT ?_
  repeat' (first|apply GO_seq|apply GO_block|apply GO_region|apply GOl_nil|(apply GOl_pv;(iterate 3 exact rfl)))
  refine GO_loopT (X:=List (Fsh × Fct) × List (Fsh × Fct) × List (Fsh × Fct) × Option Addr × Nat × Nat × Option Addr × Nat × Nat × Option Addr × Nat × Ro)
    (fun (out,a,b,A1,n1,c1,B1,m1,d1,A2,c2,hh) => Le h hh ∧ LedAt hh A1 n1 a ∧ LedAt hh B1 m1 b ∧ n1 ≤ c1 ∧ m1 ≤ d1 ∧ out ++ mergeP a b = mergeP l r ∧ out.length + a.length + b.length ≤ n + m) (fun (out,a,b,A1,n1,c1,B1,m1,d1,A2,c2,hh) => n1 + m1)
    (fun (out,a,b,A1,n1,c1,B1,m1,d1,A2,c2,hh) => [(0,.slice A1 n1 c1),(1,.slice B1 m1 d1),(2,.func (.func 71) #[] #[]),(6,.slice A2 out.length c2)])
    (fun (out,a,b,A1,n1,c1,B1,m1,d1,A2,c2,hh) => [OwnS 73 82 (.slice A2 out.length c2) out.length (out.flatMap encF82)]) (fun (out,a,b,A1,n1,c1,B1,m1,d1,A2,c2,hh) => hh) ([],l,r,A,n,c,B,m,d,none,0,h) ⟨Le.refl _,hx,hy,hnc,hmd,by simp,by have:=hx.row.len;have:=hy.row.len;simp;omega⟩ QS QT rfl ?_
  rintro ⟨out,a,b,A1,n1,c1,B1,m1,d1,A2,c2,hh⟩ ⟨hle,ha,hb,hnc1,hmd1,hmg,hlen⟩ ih
  dsimp only at hle ha hb hnc1 hmd1 hmg hlen ih ⊢
  have hal:=ha.row.len
  have hbl:=hb.row.len
  have hns:=ha.small
  have hms:=hb.small
  by_cases h0 : 0 < n1 ∧ 0 < m1
  · obtain ⟨x,a',rfl⟩ : ∃ x a',a = x :: a':=by cases a with|nil => simp at hal;omega|cons x a' => exact ⟨x,a',rfl⟩
    obtain ⟨y,b',rfl⟩ : ∃ y b',b = y :: b':=by cases b with|nil => simp at hbl;omega|cons y b' => exact ⟨y,b',rfl⟩
    have hxg:=ha.good x List.mem_cons_self
    have hyg:=hb.good y List.mem_cons_self
    have q1:=ha.row.addrD (k:=0) h0.1
    have q2:=hb.row.addrD (k:=0) h0.2
    have cx : CellsAt hh ((addrD A1).add (0 * 82)) (encF82 x):=ha.row.cellsD p0 (k:=0) h0.1
    have cy : CellsAt hh ((addrD B1).add (0 * 82)) (encF82 y):=hb.row.cellsD p0 (k:=0) h0.2
    have sa:=SlOf.low ha.row (lo:=1) (c:=c1) (by omega) hnc1
    have sb:=SlOf.low hb.row (lo:=1) (c:=d1) (by omega) hmd1
    have ga : ∀ {h'},Le hh h' → LedAt h' (sliceA A1 c1 1 82) (n1 - 1) a':=fun hl => ⟨sa.le hl,fun p hp => (ha.good p (List.mem_cons_of_mem _ hp)).le hl,by omega⟩
    have gb : ∀ {h'},Le hh h' → LedAt h' (sliceA B1 d1 1 82) (m1 - 1) b':=fun hl => ⟨sb.le hl,fun p hp => (hb.good p (List.mem_cons_of_mem _ hp)).le hl,by omega⟩
    simp only [List.length_cons] at hlen
    rcases Int.lt_trichotomy (cmpF x.2 y.2) 0 with hc9|hc9|hc9
    · repeat' (first|apply GO_seq|apply GO_skip|apply GO_inBlock|apply GO_block|apply GO_region|apply GOl_nil|(apply GOl_pv;(iterate 3 exact rfl))|(apply GOl_ov;exact rfl;exact rfl;(first|(apply OV_idxS (j:=0);(iterate 5 exact rfl);(first|exact q1|exact q2);exact rfl;(first|exact h0.1|exact h0.2))|(apply OV_load;exact rfl;exact Lv_ro rfl (cx.le (by first|exact Le.refl _|assumption|(repeat (first|assumption|(apply Le.trans;assumption))))) rfl)|(apply OV_sliceLo (lo:=1);(iterate 6 exact rfl);omega));exact QA)|(apply GOl_to;(iterate 3 exact rfl);(first|(apply OpTo_buildSliceS (enc:=encF82) (n:=1) [x];(iterate 3 exact rfl);exact List.cons_ne_nil _ _;(iterate 4 exact rfl);exact encF82_len;exact rfl;exact rfl;intro b1 h1 hle1 hs1;skip)|(apply OpTo_appendS (enc:=encF82) (xs:=out);(iterate 7 exact rfl);exact hs1;exact encF82_len;exact encF82_one;intro v1;exact QR;omega;exact rfl;intro A3 c3;skip)))|(apply GO_drawp (n:=2) [0,1,2,3,4,5,6,7,8] [(0,0),(1,0),(2,0),(3,0),(4,0),(5,0),(6,0),(7,1),(8,0)];kernel_rfl)|(apply GP_pv;exact rfl;kernel_rfl;(iterate 3 exact rfl))|(apply GP_ov;exact rfl;kernel_rfl;exact rfl;exact rfl;(first|(apply OV_idxS (j:=0);(iterate 5 exact rfl);(first|exact q1|exact q2);exact rfl;(first|exact h0.1|exact h0.2))|(apply OV_load;exact rfl;exact Lv_ro rfl (cx.le (by first|exact Le.refl _|assumption|(repeat (first|assumption|(apply Le.trans;assumption))))) rfl)|(apply OV_load;exact rfl;exact Lv_ro rfl (cy.le (by first|exact Le.refl _|assumption|(repeat (first|assumption|(apply Le.trans;assumption))))) rfl));exact QA)|(apply GP_real;exact rfl;kernel_rfl;(iterate 3 exact rfl);(first|(apply OpTo_resF (f:=71) (fs:=[]) (cs:=[]);exact rfl;exact rfl;exact has71;exact cmp_c _ (hG.le (by first|exact Le.refl _|assumption|(repeat (first|assumption|(apply Le.trans;assumption))))) x y (hxg.le (by first|exact Le.refl _|assumption|(repeat (first|assumption|(apply Le.trans;assumption))))) (hyg.le (by first|exact Le.refl _|assumption|(repeat (first|assumption|(apply Le.trans;assumption)))));rintro vr hr1 hle1 rfl;refine ⟨hle1,QN,?_⟩)))|(apply GP_done;kernel_rfl;exact rfl)|(apply GO_cond;exact rfl;all_goals (intro hc;try simp only [hcS,reduceCtorEq] at hc;try (exfalso;omega)))|(apply GOl_split;exact rfl;exact rfl;all_goals (intro hc;try simp only [hcS,reduceCtorEq] at hc;try (exfalso;omega))))
      all_goals first
        | (exfalso;omega)
        | (have hl7 : Le hh h1:=Le.trans (by assumption) (by assumption)
           have h3:=ih (out ++ [x],a',y :: b',sliceA A1 c1 1 82,n1 - 1,c1 - 1,B1,m1,d1,A3,c3,h1) ⟨hle.trans hl7,ga hl7,hb.le hl7,by dsimp only;omega,hmd1,by dsimp only;rw [← hmg,show mergeP (x :: a') (y :: b') = x :: mergeP a' (y :: b') from mergeA_lt hc9,List.append_assoc];rfl,by dsimp only;simp only [List.length_append,List.length_cons,List.length_nil];omega⟩ (by dsimp only;omega)
           dsimp only at h3
           rw [List.length_append] at h3
           refine GO_fit QS QT (h3))
    · repeat' (first|apply GO_seq|apply GO_skip|apply GO_inBlock|apply GO_block|apply GO_region|apply GOl_nil|(apply GOl_pv;(iterate 3 exact rfl))|(apply GOl_ov;exact rfl;exact rfl;(first|(apply OV_idxS (j:=0);(iterate 5 exact rfl);(first|exact q1|exact q2);exact rfl;(first|exact h0.1|exact h0.2))|(apply OV_load;exact rfl;exact Lv_ro rfl (cx.le (by first|exact Le.refl _|assumption|(repeat (first|assumption|(apply Le.trans;assumption))))) rfl)|(apply OV_sliceLo (lo:=1);(iterate 6 exact rfl);omega));exact QA)|(apply GOl_to;(iterate 3 exact rfl);(first|(apply OpTo_buildSliceS (enc:=encF82) (n:=1) [x];(iterate 3 exact rfl);exact List.cons_ne_nil _ _;(iterate 4 exact rfl);exact encF82_len;exact rfl;exact rfl;intro b1 h1 hle1 hs1;skip)|(apply OpTo_appendS (enc:=encF82) (xs:=out);(iterate 7 exact rfl);exact hs1;exact encF82_len;exact encF82_one;intro v1;exact QR;omega;exact rfl;intro A3 c3;skip)))|(apply GO_drawp (n:=2) [0,1,2,3,4,5,6,7,8] [(0,0),(1,0),(2,0),(3,0),(4,0),(5,0),(6,0),(7,1),(8,0)];kernel_rfl)|(apply GP_pv;exact rfl;kernel_rfl;(iterate 3 exact rfl))|(apply GP_ov;exact rfl;kernel_rfl;exact rfl;exact rfl;(first|(apply OV_idxS (j:=0);(iterate 5 exact rfl);(first|exact q1|exact q2);exact rfl;(first|exact h0.1|exact h0.2))|(apply OV_load;exact rfl;exact Lv_ro rfl (cx.le (by first|exact Le.refl _|assumption|(repeat (first|assumption|(apply Le.trans;assumption))))) rfl)|(apply OV_load;exact rfl;exact Lv_ro rfl (cy.le (by first|exact Le.refl _|assumption|(repeat (first|assumption|(apply Le.trans;assumption))))) rfl));exact QA)|(apply GP_real;exact rfl;kernel_rfl;(iterate 3 exact rfl);(first|(apply OpTo_resF (f:=71) (fs:=[]) (cs:=[]);exact rfl;exact rfl;exact has71;exact cmp_c _ (hG.le (by first|exact Le.refl _|assumption|(repeat (first|assumption|(apply Le.trans;assumption))))) x y (hxg.le (by first|exact Le.refl _|assumption|(repeat (first|assumption|(apply Le.trans;assumption))))) (hyg.le (by first|exact Le.refl _|assumption|(repeat (first|assumption|(apply Le.trans;assumption)))));rintro vr hr1 hle1 rfl;refine ⟨hle1,QN,?_⟩)))|(apply GP_done;kernel_rfl;exact rfl)|(apply GO_cond;exact rfl;all_goals (intro hc;try simp only [hcS,reduceCtorEq] at hc;try (exfalso;omega)))|(apply GOl_split;exact rfl;exact rfl;all_goals (intro hc;try simp only [hcS,reduceCtorEq] at hc;try (exfalso;omega))))
      all_goals first
        | (exfalso;omega)
        | (have hl7 : Le hh h1:=Le.trans (by assumption) (by assumption)
           have h3:=ih (out ++ [x],a',b',sliceA A1 c1 1 82,n1 - 1,c1 - 1,sliceA B1 d1 1 82,m1 - 1,d1 - 1,A3,c3,h1) ⟨hle.trans hl7,ga hl7,gb hl7,by dsimp only;omega,by dsimp only;omega,by dsimp only;rw [← hmg,show mergeP (x :: a') (y :: b') = x :: mergeP a' b' from mergeA_eq hc9,List.append_assoc];rfl,by dsimp only;simp only [List.length_append,List.length_cons,List.length_nil];omega⟩ (by dsimp only;omega)
           dsimp only at h3
           rw [List.length_append] at h3
           refine GO_fit QS QT (h3))
    · repeat' (first|apply GO_seq|apply GO_skip|apply GO_inBlock|apply GO_block|apply GO_region|apply GOl_nil|(apply GOl_pv;(iterate 3 exact rfl))|(apply GOl_ov;exact rfl;exact rfl;(first|(apply OV_idxS (j:=0);(iterate 5 exact rfl);(first|exact q1|exact q2);exact rfl;(first|exact h0.1|exact h0.2))|(apply OV_load;exact rfl;exact Lv_ro rfl (cy.le (by first|exact Le.refl _|assumption|(repeat (first|assumption|(apply Le.trans;assumption))))) rfl)|(apply OV_sliceLo (lo:=1);(iterate 6 exact rfl);omega));exact QA)|(apply GOl_to;(iterate 3 exact rfl);(first|(apply OpTo_buildSliceS (enc:=encF82) (n:=1) [y];(iterate 3 exact rfl);exact List.cons_ne_nil _ _;(iterate 4 exact rfl);exact encF82_len;exact rfl;exact rfl;intro b1 h1 hle1 hs1;skip)|(apply OpTo_appendS (enc:=encF82) (xs:=out);(iterate 7 exact rfl);exact hs1;exact encF82_len;exact encF82_one;intro v1;exact QR;omega;exact rfl;intro A3 c3;skip)))|(apply GO_drawp (n:=2) [0,1,2,3,4,5,6,7,8] [(0,0),(1,0),(2,0),(3,0),(4,0),(5,0),(6,0),(7,1),(8,0)];kernel_rfl)|(apply GP_pv;exact rfl;kernel_rfl;(iterate 3 exact rfl))|(apply GP_ov;exact rfl;kernel_rfl;exact rfl;exact rfl;(first|(apply OV_idxS (j:=0);(iterate 5 exact rfl);(first|exact q1|exact q2);exact rfl;(first|exact h0.1|exact h0.2))|(apply OV_load;exact rfl;exact Lv_ro rfl (cx.le (by first|exact Le.refl _|assumption|(repeat (first|assumption|(apply Le.trans;assumption))))) rfl)|(apply OV_load;exact rfl;exact Lv_ro rfl (cy.le (by first|exact Le.refl _|assumption|(repeat (first|assumption|(apply Le.trans;assumption))))) rfl));exact QA)|(apply GP_real;exact rfl;kernel_rfl;(iterate 3 exact rfl);(first|(apply OpTo_resF (f:=71) (fs:=[]) (cs:=[]);exact rfl;exact rfl;exact has71;exact cmp_c _ (hG.le (by first|exact Le.refl _|assumption|(repeat (first|assumption|(apply Le.trans;assumption))))) x y (hxg.le (by first|exact Le.refl _|assumption|(repeat (first|assumption|(apply Le.trans;assumption))))) (hyg.le (by first|exact Le.refl _|assumption|(repeat (first|assumption|(apply Le.trans;assumption)))));rintro vr hr1 hle1 rfl;refine ⟨hle1,QN,?_⟩)))|(apply GP_done;kernel_rfl;exact rfl)|(apply GO_cond;exact rfl;all_goals (intro hc;try simp only [hcS,reduceCtorEq] at hc;try (exfalso;omega)))|(apply GOl_split;exact rfl;exact rfl;all_goals (intro hc;try simp only [hcS,reduceCtorEq] at hc;try (exfalso;omega))))
      all_goals first
        | (exfalso;omega)
        | (have hl7 : Le hh h1:=Le.trans (by assumption) (by assumption)
           have h3:=ih (out ++ [y],x :: a',b',A1,n1,c1,sliceA B1 d1 1 82,m1 - 1,d1 - 1,A3,c3,h1) ⟨hle.trans hl7,ha.le hl7,gb hl7,hnc1,by dsimp only;omega,by dsimp only;rw [← hmg,show mergeP (x :: a') (y :: b') = y :: mergeP (x :: a') b' from mergeA_gt hc9,List.append_assoc];rfl,by dsimp only;simp only [List.length_append,List.length_cons,List.length_nil];omega⟩ (by dsimp only;omega)
           dsimp only at h3
           rw [List.length_append] at h3
           refine GO_fit QS QT (h3))
  · have hab : mergeP a b = a ++ b:=by
      by_cases hz : n1 = 0
      · have : a = []:=List.eq_nil_of_length_eq_zero (by omega)
        subst this;exact mergeA_nil_l b
      · have : b = []:=List.eq_nil_of_length_eq_zero (by omega)
        subst this;rw [List.append_nil];exact mergeA_nil_r a
    rw [hab,← List.append_assoc] at hmg
    have hgl : out.length + n1 + m1 = (mergeP l r).length:=by rw [← hmg,List.length_append,List.length_append];omega
    clear ih
    by_cases hz : n1 = 0
    · repeat' (first|apply GO_seq|apply GO_region|apply GOl_nil|(apply GO_exit;exact rfl)|(apply GOl_unwanted;exact rfl;exact rfl)|(apply GOl_pv;(iterate 3 exact rfl))|(apply GOl_to;(iterate 3 exact rfl);(first|(apply OpTo_appendS (enc:=encF82) (xs:=out) (ys:=a);(iterate 7 exact rfl);exact ha.row;exact encF82_len;exact encF82_one;intro v1;exact QR;omega;exact rfl;intro A3 c3;skip)|(apply OpTo_appendS (enc:=encF82) (xs:=out ++ a) (ys:=b);(iterate 7 exact rfl);exact hb.row;exact encF82_len;exact encF82_one;intro v1;exact QR;omega;exact rfl;intro A3 c3;skip)))|(apply GO_cond;exact rfl;all_goals (intro hc;try simp only [hcS,reduceCtorEq] at hc;try (exfalso;omega)))|(apply GOl_split;exact rfl;exact rfl;all_goals (intro hc;try simp only [hcS,reduceCtorEq] at hc;try (exfalso;omega))))
      all_goals first
        | (exfalso;omega)
        | (rw [hmg]
           refine GO_relC (enc:=encF82) (e:=73) (sz:=82) (n:=out.length + n1 + m1) (xs:=mergeP l r) encF82_len hgl.symm QK ?_
           intro A4 c4 h4 hle4 e4 hnc4 hs4
           injection e4 with e41 _ e43
           subst e41;subst e43
           exact GO_retR1 rfl rfl rfl ⟨_,_,_,rfl,hnc4,hgl,hs4⟩)
    · repeat' (first|apply GO_seq|apply GO_region|apply GOl_nil|(apply GO_exit;exact rfl)|(apply GOl_pv;(iterate 3 exact rfl))|(apply GOl_to;(iterate 3 exact rfl);(first|(apply OpTo_appendS (enc:=encF82) (xs:=out) (ys:=a);(iterate 7 exact rfl);exact ha.row;exact encF82_len;exact encF82_one;intro v1;exact QR;omega;exact rfl;intro A3 c3;skip)|(apply OpTo_appendS (enc:=encF82) (xs:=out ++ a) (ys:=b);(iterate 7 exact rfl);exact hb.row;exact encF82_len;exact encF82_one;intro v1;exact QR;omega;exact rfl;intro A3 c3;skip)))|(apply GO_cond;exact rfl;all_goals (intro hc;try simp only [hcS,reduceCtorEq] at hc;try (exfalso;omega)))|(apply GOl_split;exact rfl;exact rfl;all_goals (intro hc;try simp only [hcS,reduceCtorEq] at hc;try (exfalso;omega))))
      all_goals first
        | (exfalso;omega)
        | (rw [hmg]
           refine GO_relC (enc:=encF82) (e:=73) (sz:=82) (n:=out.length + n1 + m1) (xs:=mergeP l r) encF82_len hgl.symm QK ?_
           intro A4 c4 h4 hle4 e4 hnc4 hs4
           injection e4 with e41 _ e43
           subst e41;subst e43
           exact GO_retR1 rfl rfl rfl ⟨_,_,_,rfl,hnc4,hgl,hs4⟩)
end Go.Hw

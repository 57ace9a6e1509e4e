import Derived.Test.YtphlhpbmkejbaaaGreatDoorBB
import Derived.Test.YtphlhpbmkejbaaaGreatDoorFE
import Derived.Test.YtphlhpbmkejbaaaGreatDoorHF
set_option linter.unusedVariables false
set_option linter.unusedSimpArgs false
set_option maxRecDepth 100000
set_option maxHeartbeats 8000000
namespace Go.Hw
open Go
attribute [local irreducible] GO GOl GDp Val Fn Res CellsAt ValE Blk OwnS MapA OwnPf Has Yl
open Go.Proofs (Tryz.prog)
structure BrSm (s : Sli) (l : List RdS) : Prop where
  few : s.n ≤ 100
  each : ∀ r ∈ l,r.1.n ≤ 128
  legs : ∀ r ∈ l,∀ p ∈ r.2,p.1.n ≤ 4611686018427387904
theorem rounds_getD (l : List RdS) (i : Nat) : (rounds l).getD i [] = duels (l.getD i rd0).2:=by
  unfold rounds
  rw [List.getD_eq_getElem?_getD,List.getElem?_map,List.getD_eq_getElem?_getD]
  cases l[i]? <;> rfl
theorem rounds_head (l : List RdS) : (rounds l).headD [] = duels (l.getD 0 rd0).2:=by cases l <;> rfl
theorem duels_take (l : List DuS) (k : Nat) : duels (l.take k) = (duels l).take k:=by unfold duels;exact List.map_take
theorem check1B_c (h : Ro) (s s' : Sli) (d e : FDuel) : Val Tryz.prog 72 #[duelV s d,duelV s' e] h (.bool (decide (d.a = e.a ∧ d.b = e.b))):=by
  refine Val_intro (args:=[_,_]) ts_ok Go.Proofs.Tryz.func72 rfl rfl fun w0 X0 => ?_
  repeat' (first|apply GO_seq|apply GO_region|apply GOl_nil|(apply GOl_unwanted;exact rfl;exact rfl)|(apply GOl_pv;(iterate 3 exact rfl))|(apply GOl_load;exact rfl;exact Ld_blk rfl QM rfl;exact rfl;exact rfl)|(apply GOl_to;(iterate 3 exact rfl);(first|(apply OpTo_box;exact rfl;intro b;skip)))|(apply GOl_split;exact rfl;exact rfl;all_goals (intro hc;try simp only [hcS,reduceCtorEq] at hc;try (exfalso;omega)))|(apply GO_retV1;(iterate 3 exact rfl)))
  all_goals (refine dec_ofV ?_;(try rw [eqI_t]);grind)
theorem equalDu_c (h : Ro) (A B : Option Addr) (n c m e : Nat) (x y : List DuS) (hx : SlOf encDu 3 h A n x) (hy : SlOf encDu 3 h B m y) (hn : n ≤ 1000000) (hm : m ≤ 1000000) :
    Val Tryz.prog 73 #[.slice A n c,.slice B m e,.func (.func 72) #[] #[]] h (.bool (decide (sameR (duels x) (duels y)))):=by
  refine Val_intro (args:=[_,_,_]) ts_ok Go.Proofs.Tryz.func73 rfl rfl fun w0 X0 => ?_
  have hxl:=hx.len
  have hyl:=hy.len
  by_cases hnm : n = m
  · subst hnm
    repeat' (first|apply GO_seq|apply GO_skip|apply GO_block|apply GO_region|apply GOl_nil|(apply GOl_pv;(iterate 3 exact rfl))|(apply GO_cond;exact rfl;all_goals (intro hc;try simp only [hcS,reduceCtorEq] at hc;try (exfalso;omega))))
    all_goals (try (exfalso;omega))
    refine GO_loopT (X:=Nat) (fun k => k ≤ n ∧ sameR (duels (x.take k)) (duels (y.take k))) (fun k => n - k) (fun k => [(17,.int .i64 k),(16,.int .i64 n),(15,.slice A n c),(1,.slice B n e),(2,.func (.func 72) #[] #[])]) (fun _ => []) (fun _ => h) 0 ⟨by omega,rfl⟩ QS QT rfl ?_
    rintro k ⟨hk,hI⟩ ih
    by_cases hkn : k < n
    · have a1:=hx.addrD hkn
      have a2:=hy.addrD hkn
      have c1 : CellsAt h ((addrD A).add (k * ty24.size)) (encDu (x.getD k du0)):=hx.cellsD du0 hkn
      have c2 : CellsAt h ((addrD B).add (k * ty24.size)) (encDu (y.getD k du0)):=hy.cellsD du0 hkn
      have et1:=take7 du0 (xs:=x) hxl hkn
      have et2:=take7 du0 (xs:=y) hyl hkn
      have hne : ¬ ((x.getD k du0).2.a = (y.getD k du0).2.a ∧ (x.getD k du0).2.b = (y.getD k du0).2.b) → ¬ sameR (duels x) (duels y):=fun q w => q (by
        unfold sameR duels at w
        rw [List.map_map,List.map_map] at w
        have : (x.map ((fun d : FDuel => (d.a,d.b)) ∘ fun p => p.2))[k]? = (y.map ((fun d : FDuel => (d.a,d.b)) ∘ fun p => p.2))[k]?:=by rw [w]
        rw [List.getElem?_map,List.getElem?_map,List.getElem?_eq_getElem (show k < x.length by omega),List.getElem?_eq_getElem (show k < y.length by omega)] at this
        rw [List.getD_eq_getElem?_getD,List.getD_eq_getElem?_getD,List.getElem?_eq_getElem (show k < x.length by omega),List.getElem?_eq_getElem (show k < y.length by omega)]
        simpa using this)
      generalize x.getD k du0 = u at *
      generalize y.getD k du0 = v at *
      have hv:=check1B_c h u.1 v.1 u.2 v.2
      by_cases he : u.2.a = v.2.a ∧ u.2.b = v.2.b
      · rw [decide_eq_true he] at hv
        have h3:=ih (k + 1) ⟨by omega,by
          rw [et1,et2,duels_snoc,duels_snoc]
          unfold sameR at hI ⊢
          rw [List.map_append,List.map_append,hI]
          simp [he.1,he.2]⟩ (by omega)
        clear ih hne
        repeat' (first|apply GO_seq|apply GO_skip|apply GO_inBlock|apply GO_block|apply GO_region|apply GOl_nil|(apply GOl_to;(iterate 3 exact rfl);apply OpTo_alloc (e:=24);exact rfl;intro bX)|(apply GOl_add;(iterate 3 exact rfl);omega;exact rfl;exact rfl)|(apply GOl_pv;(iterate 3 exact rfl))|(apply GOl_load;exact rfl;exact Ld_blk rfl QM rfl;exact rfl;exact rfl)|(apply GOl_ov;exact rfl;exact rfl;(first|(apply OV_idxS (j:=k);(iterate 5 exact rfl);(first|exact a1|exact a2);(with_reducible exact rfl);omega)|(apply OV_load;exact rfl;first|exact Lv_ro rfl c1 rfl|exact Lv_ro rfl c2 rfl));exact QA)|(apply GOl_to;(iterate 3 exact rfl);(first|(apply OpTo_store;(iterate 3 exact rfl);exact QR;(iterate 3 exact rfl);skip)|(apply OpTo_valF (f:=72) (fs:=[]) (cs:=[]);exact rfl;exact rfl;exact has72;exact hv;skip)))|(apply GO_cond;exact rfl;all_goals (intro hc;try simp only [hcS,reduceCtorEq] at hc;try (exfalso;omega))))
        all_goals first
          | (exfalso;omega)
          | (exfalso;simp at hc;done)
          | (refine GO_fit QS QT (h3))
      · rw [decide_eq_false he] at hv
        rw [decide_eq_false (hne he)]
        clear ih hne
        repeat' (first|apply GO_seq|apply GO_skip|apply GO_block|apply GO_region|apply GOl_nil|(apply GOl_to;(iterate 3 exact rfl);apply OpTo_alloc (e:=24);exact rfl;intro bX)|(apply GOl_pv;(iterate 3 exact rfl))|(apply GOl_load;exact rfl;exact Ld_blk rfl QM rfl;exact rfl;exact rfl)|(apply GOl_ov;exact rfl;exact rfl;(first|(apply OV_idxS (j:=k);(iterate 5 exact rfl);(first|exact a1|exact a2);(with_reducible exact rfl);omega)|(apply OV_load;exact rfl;first|exact Lv_ro rfl c1 rfl|exact Lv_ro rfl c2 rfl));exact QA)|(apply GOl_to;(iterate 3 exact rfl);(first|(apply OpTo_store;(iterate 3 exact rfl);exact QR;(iterate 3 exact rfl);skip)|(apply OpTo_valF (f:=72) (fs:=[]) (cs:=[]);exact rfl;exact rfl;exact has72;exact hv;skip)))|(apply GO_cond;exact rfl;all_goals (intro hc;try simp only [hcS,reduceCtorEq] at hc;try (exfalso;omega))))
        all_goals first
          | (exfalso;omega)
          | (exfalso;simp at hc;done)
          | (exact GO_retV1 rfl rfl rfl rfl)
    · rw [List.take_of_length_le (by omega),List.take_of_length_le (by omega)] at hI
      rw [decide_eq_true hI]
      clear ih
      repeat' (first|apply GO_seq|apply GO_region|apply GOl_nil|(apply GO_exit;exact rfl)|(apply GOl_pv;(iterate 3 exact rfl))|(apply GO_cond;exact rfl;all_goals (intro hc;try simp only [hcS,reduceCtorEq] at hc;try (exfalso;omega))))
      all_goals first
        | (exfalso;omega)
        | (exact GO_retV1 rfl rfl rfl rfl)
  · rw [decide_eq_false (fun k => hnm (by have:=sameR_len k;rw [duels_len,duels_len] at this;omega))]
    repeat' (first|apply GO_seq|apply GO_region|apply GOl_nil|(apply GOl_pv;(iterate 3 exact rfl))|(apply GO_cond;exact rfl;all_goals (intro hc;try simp only [hcS,reduceCtorEq] at hc;try (exfalso;omega))))
    all_goals first
      | (exfalso;omega)
      | (exact GO_retV1 rfl rfl rfl rfl)
theorem idxFR_c (h : Ro) (A : Option Addr) (n c : Nat) (l : List FRes) (hx : SlOf resC 13 h A n l) (hn : n ≤ 1000000000) (f : FuncId) (fs cs : List Value) (p : FRes → Bool) (hh : Has Tryz.prog f)
    (hf : ∀ x ∈ l,Val Tryz.prog f (fs ++ [resV x] ++ cs).toArray h (.bool (p x))) :
    Val Tryz.prog 94 #[.slice A n c,.func (.func f) fs.toArray cs.toArray] h (.int .i64 (idx7 p l 0)):=by
  refine Val_intro (args:=[_,_]) ts_ok Go.Proofs.Tryz.func94 rfl rfl fun w0 X0 => ?_
  have hlen:=hx.len
  repeat' (first|apply GO_seq|apply GO_block|apply GO_region|apply GOl_nil|(apply GOl_pv;(iterate 3 exact rfl)))
  refine GO_loopT (X:=Nat) (fun k => k ≤ n ∧ idx7 p (l.drop k) k = idx7 p l 0) (fun k => n - k) (fun k => [(8,.int .i64 k),(7,.int .i64 n),(0,.slice A n c),(1,.func (.func f) fs.toArray cs.toArray)]) (fun _ => []) (fun _ => h) 0 ⟨by omega,rfl⟩ QS QT rfl ?_
  rintro k ⟨hk,hI⟩ ih
  by_cases hkn : k < n
  · have a1:=hx.addrD hkn
    have c1 : CellsAt h ((addrD A).add (k * ty40.size)) (resC (l.getD k res0)):=hx.cellsD res0 hkn
    have hd:=drop7 res0 hlen hkn
    have hv:=hf _ (mem7 res0 (show k < l.length by omega))
    generalize l.getD k res0 = x at *
    repeat' (first|apply GO_seq|apply GO_skip|apply GO_inBlock|apply GO_block|apply GO_region|apply GOl_nil|(apply GOl_add;(iterate 3 exact rfl);omega;exact rfl;exact rfl)|(apply GOl_pv;(iterate 3 exact rfl))|(apply GOl_ov;exact rfl;exact rfl;(first|(apply OV_idxS (j:=k);(iterate 5 exact rfl);exact a1;(with_reducible exact rfl);omega)|(apply OV_load;exact rfl;exact Lv_ro rfl c1 rfl));exact QA)|(apply GOl_to;(iterate 3 exact rfl);(first|(apply OpTo_valF (f:=f) (fs:=fs) (cs:=cs);exact rfl;exact rfl;exact hh;exact hv;skip)))|(apply GO_cond;exact rfl;all_goals (intro hc;try simp only [hcS,reduceCtorEq] at hc;try (exfalso;omega)))|(apply GO_retV1;(iterate 3 exact rfl)))
    · rw [← hI,hd,idx7,if_pos hc]
    · have h3:=ih (k + 1) ⟨by omega,by rw [← hI,hd,idx7,if_neg (by simp [hc])]⟩ (by omega)
      refine GO_fit QS QT (h3)
  · repeat' (first|apply GO_seq|apply GO_region|apply GOl_nil|(apply GO_exit;exact rfl)|(apply GOl_pv;(iterate 3 exact rfl))|(apply GO_cond;exact rfl;all_goals (intro hc;try simp only [hcS,reduceCtorEq] at hc;try (exfalso;omega)))|(apply GO_retV1;(iterate 3 exact rfl)))
    rw [← hI,show k = l.length by omega,List.drop_length];rfl
theorem conFR_c (h : Ro) (A : Option Addr) (n c : Nat) (l : List FRes) (hx : SlOf resC 13 h A n l) (hn : n ≤ 1000000000) (f : FuncId) (fs cs : List Value) (p : FRes → Bool) (hh : Has Tryz.prog f)
    (hf : ∀ x ∈ l,Val Tryz.prog f (fs ++ [resV x] ++ cs).toArray h (.bool (p x))) :
    Val Tryz.prog 74 #[.slice A n c,.func (.func f) fs.toArray cs.toArray] h (.bool (l.any p)):=by
  refine Val_intro (args:=[_,_]) ts_ok Go.Proofs.Tryz.func74 rfl rfl fun w0 X0 => ?_
  repeat' (first|apply GO_seq|apply GO_region|apply GOl_nil|(apply GOl_pv;(iterate 3 exact rfl))|(apply GOl_to;(iterate 3 exact rfl);(first|(apply OpTo_val;exact rfl;exact has94;exact idxFR_c _ _ _ _ _ hx hn f fs cs p hh hf;skip)))|(apply GO_retV1;(iterate 3 exact rfl)))
  rw [leI_eq];congr 1;rw [Bool.eq_iff_iff,decide_eq_true_eq];exact idx7_nonneg _ _ _
theorem check2B_c (h : Ro) (bl : Nat) (A : Option Addr) (n c : Nat) (l : List FRes) (hx : SlOf resC 13 h A n l) (h0 : 0 < n) (hb : CellsAt h ⟨bl,0,none⟩ [.slice A n c]) (x : FRes) : Val Tryz.prog 75 #[resV x,.pointer (some ⟨bl,0,none⟩)] h (.bool (!decide (SameCup x (l.headD res0)))):=by
  refine Val_intro (args:=[_,_]) ts_ok Go.Proofs.Tryz.func75 rfl rfl fun w0 X0 => ?_
  have a1:=hx.addrD h0
  have c1 : CellsAt h ((addrD A).add (0 * ty40.size)) (resC (l.getD 0 res0)):=hx.cellsD res0 h0
  have e0 : l.getD 0 res0 = l.headD res0:=by cases l <;> rfl
  rw [e0] at c1
  generalize l.headD res0 = y at *
  have hsc:=sameCup_c h x y
  repeat' (first|apply GO_seq|apply GO_region|apply GOl_nil|(apply GOl_pv;(iterate 3 exact rfl))|(apply GOl_to;(iterate 3 exact rfl);(first|(apply OpTo_box;exact rfl;intro b;skip)))|(apply GO_drawp (n:=1) [0,1,2,3,4,5,6] [(0,0),(1,0),(2,0),(3,0),(4,1),(5,0),(6,0)];kernel_rfl)|(apply GP_pv;exact rfl;kernel_rfl;(iterate 3 exact rfl))|(apply GP_loadB;exact rfl;kernel_rfl;(iterate 3 exact rfl);exact QM;exact rfl;exact rfl)|(apply GP_ov;exact rfl;kernel_rfl;exact rfl;exact rfl;(first|(apply OV_load;exact rfl;exact Lv_ro rfl hb rfl)|(apply OV_idxS (j:=0);(iterate 5 exact rfl);exact a1;omega;omega)|(apply OV_load;exact rfl;exact Lv_ro rfl c1 rfl));exact QA)|(apply GP_real;exact rfl;kernel_rfl;(iterate 3 exact rfl);(first|(apply OpTo_val;exact rfl;exact has32;exact hsc;refine ⟨Le.refl _,QN,?_⟩)))|(apply GP_done;kernel_rfl;exact rfl)|(apply GO_retV1;(iterate 3 exact rfl)))
  all_goals rfl
end Go.Hw
set_option linter.unusedVariables false
set_option linter.unusedSimpArgs false
set_option maxRecDepth 100000
set_option maxHeartbeats 8000000
namespace Go.Hw
open Go
attribute [local irreducible] GO GOl GDp Val Fn Res CellsAt ValE Blk OwnS MapA OwnPf Has Yl
open Go.Proofs (Tryz.prog)
theorem take_rounds (l : List RdS) {i : Nat} (h : i < l.length) : (rounds l).take (i + 1) = (rounds l).take i ++ [duels (l.getD i rd0).2]:=by
  rw [List.take_add_one,List.getElem?_eq_getElem (by rw [rounds_len];exact h)]
  congr 1
  rw [← rounds_getD,List.getD_eq_getElem?_getD,List.getElem?_eq_getElem (by rw [rounds_len];exact h)];rfl
theorem dus_getD (l : List DuS) {j : Nat} (h : j < l.length) : duels (l.take (j + 1)) = duels (l.take j) ++ [(l.getD j du0).2]:=by
  rw [List.take_add_one,List.getElem?_eq_getElem h,List.getD_eq_getElem?_getD,List.getElem?_eq_getElem h]
  exact duels_snoc _ _
theorem legs_few {t : FTie} {l : List RdS} {s : Sli} (hs : BrSm s l) {A : Option Addr} {h : Ro} (hb : RdsAt h A s.n l) {i : Nat} (hi : ∀ r ∈ (rounds l).take i,RoundOk r t) : (legsL ((rounds l).take i)).length ≤ 25600:=by
  have h1:=legsL_len (rs:=(rounds l).take i) (m:=128) (fun r hr d hd => duelOk_len (hi r hr d hd).1) (fun r hr => by
    obtain ⟨q,hq,e⟩:=List.mem_map.1 (List.mem_of_mem_take hr)
    rw [← e,duels_len,(hb.each q hq).1.row.len]
    exact hs.each q hq)
  have h2 : ((rounds l).take i).length ≤ 100:=by
    rw [List.length_take,rounds_len,hb.row.len]
    have:=hs.few
    omega
  have : 2 * 128 * ((rounds l).take i).length ≤ 2 * 128 * 100:=Nat.mul_le_mul_left _ h2
  omega
theorem legsR_few {t : FTie} {l : List FDuel} (hl : ∀ d ∈ l,DuelFit t d) (hn : l.length ≤ 128) : (legsR l).length ≤ 256:=by
  have:=legsR_len (l:=l) fun d hd => duelOk_len (hl d hd).1
  omega
theorem clubsR_snoc (l : List FDuel) (d : FDuel) : clubsR (l ++ [d]) = clubsR l ++ [d.a,d.b]:=by unfold clubsR;rw [List.flatMap_append];simp
structure ChkI (t : FTie) (l : List RdS) (i : Nat) : Prop where
  rounds : ∀ r ∈ (rounds l).take i,RoundOk r t
  chain : ∀ j,j < i → ChainAt t (Hw.rounds l) j
open Classical in
theorem checkB_c (h : Ro) (s : Sli) (l : List RdS) (t : FTie) (hb : RdsAt h s.A s.n l) (hs : BrSm s l) : Res Tryz.prog 44 #[brV s t] h (fun u _ => u = .bool (decide (BrOk ⟨t,rounds l⟩))):=by
  refine Res_intro (args:=[_]) ts_ok Go.Proofs.Tryz.func44 rfl rfl fun w0 X0 => ?_
  have hrow:=hb.row
  have hlen:=hrow.len
  have hn:=hs.few
  have hrl : (rounds l).length = s.n:=by rw [rounds_len,hlen]
  obtain ⟨q,hqe⟩ : ∃ q : Bool,q = decide (BrOk ⟨t,rounds l⟩):=⟨_,rfl⟩
  rw [← hqe]
  have hiff:=fun (_ : Unit) => brOk_iff ⟨t,rounds l⟩
  dsimp only at hiff
  have hF : ¬ BrOk ⟨t,rounds l⟩ → q = false:=fun k => by rw [hqe,decide_eq_false k]
  have hT : BrOk ⟨t,rounds l⟩ → q = true:=fun k => by rw [hqe,decide_eq_true k]
  clear hqe
  have hr:=isRules_c h t
  by_cases ht : IsTie t
  case' neg =>
    rw [decide_eq_false ht] at hr
    have e:=hF fun k => ht ((hiff ()).1 k).1
    clear hiff hF hT
    repeat' (first|apply GO_seq|apply GO_region|apply GOl_nil|(apply GO_scope)|(apply GOl_unwanted;exact rfl;exact rfl)|(apply GOl_pv;(iterate 3 exact rfl))|(apply GOl_load;exact rfl;exact Ld_blk rfl QM rfl;exact rfl;exact rfl)|(apply GOl_to;(iterate 3 exact rfl);(first|(apply OpTo_box;exact rfl;intro b;skip)|(apply OpTo_val;exact rfl;exact has28;exact hr;skip)))|(apply GO_cond;exact rfl;all_goals (intro hc;try simp only [hcS,reduceCtorEq] at hc;try (exfalso;omega))))
    all_goals first
      | (exfalso;simp at hc;done)
      | (exact GO_retR1 rfl rfl rfl (by rw [e]))
  rw [decide_eq_true ht] at hr
  by_cases h0 : s.n = 0
  · have e:=hF fun k => ((hiff ()).1 k).2.1 (List.eq_nil_of_length_eq_zero (by omega))
    clear hiff hF hT
    repeat' (first|apply GO_seq|apply GO_region|apply GOl_nil|(apply GO_scope)|(apply GOl_pv;(iterate 3 exact rfl))|(apply GOl_load;exact rfl;exact Ld_blk rfl QM rfl;exact rfl;exact rfl)|(apply GOl_to;(iterate 3 exact rfl);(first|(apply OpTo_box;exact rfl;intro b;skip)|(apply OpTo_val;exact rfl;exact has28;exact hr;skip)))|(apply GO_cond;exact rfl;all_goals (intro hc;try simp only [hcS,reduceCtorEq] at hc;try (exfalso;omega))))
    all_goals first
      | (exfalso;simp at hc;done)
      | (exfalso;omega)
      | (exact GO_retR1 rfl rfl rfl (by rw [e]))
  have hh:=rounds_head l
  have ra:=hrow.addrD (show 0 < s.n by omega)
  have rc : CellsAt h ((addrD s.A).add (0 * ty53.size)) (encRd (l.getD 0 rd0)):=hrow.cellsD rd0 (show 0 < s.n by omega)
  have hrm:=mem7 rd0 (show 0 < l.length by omega)
  have hr0:=hb.each _ hrm
  have hr0n:=hs.each _ hrm
  rw [hh] at hiff
  generalize l.getD 0 rd0 = R0 at *
  have h0row:=hr0.1.row
  have h0len:=h0row.len
  refine GO_nilS 3 1 ?_
  repeat' (first|apply GO_seq|apply GO_skip|apply GO_block|apply GO_region|apply GOl_nil|(apply GO_scope)|(apply GOl_to;(iterate 3 exact rfl);apply OpTo_box (e:=36);exact rfl;intro b1)|(apply GOl_pv;(iterate 3 exact rfl))|(apply GOl_load;exact rfl;exact Ld_blk rfl QM rfl;exact rfl;exact rfl)|(apply GOl_ov;exact rfl;exact rfl;(first|(apply OV_idxS (j:=0) (n:=s.n);(iterate 5 exact rfl);exact ra;omega;omega)|(apply OV_load;exact rfl;exact Lv_ro rfl rc rfl));exact QA)|(apply GOl_to;(iterate 3 exact rfl);(first|(apply OpTo_val;exact rfl;exact has28;exact hr;skip)))|(apply GO_cond;exact rfl;all_goals (intro hc;try simp only [hcS,reduceCtorEq] at hc;try (exfalso;omega))))
  all_goals (try (exfalso;omega))
  all_goals (try (exfalso;simp at hc;done))
  refine GO_loopT (X:=Nat × Option Addr × Nat × Ro) (fun x => x.1 ≤ R0.1.n ∧ Le h x.2.2.2) (fun x => R0.1.n - x.1)
    (fun x => [(33,.int .i64 x.1),(32,.int .i64 R0.1.n),(31,.slice R0.1.A R0.1.n R0.1.c),(3,.slice x.2.1 (2 * x.1) x.2.2.1),(1,ptrB b1)])
    (fun x => [Blk b1 36 (brC s t),OwnS 3 1 (.slice x.2.1 (2 * x.1) x.2.2.1) (2 * x.1) ((clubsR (duels (R0.2.take x.1))).flatMap encI)]) (fun x => x.2.2.2) (0,none,0,h) ⟨by dsimp only;omega,Le.refl _⟩ QS QT rfl ?_
  rintro ⟨k,A1,c1,h1⟩ ⟨hk,hle⟩ ih
  dsimp only at hk hle ih ⊢
  have hcl : (clubsR (duels (R0.2.take k))).length = 2 * k:=by rw [clubsR_len,duels_len,List.length_take];omega
  by_cases hkn : k < R0.1.n
  · have a1:=h0row.addrD hkn
    have c7 : CellsAt h1 ((addrD R0.1.A).add (k * ty24.size)) (encDu (R0.2.getD k du0)):=(h0row.cellsD du0 hkn).le hle
    have hsn:=dus_getD R0.2 (j:=k) (by omega)
    generalize R0.2.getD k du0 = p at *
    have h3:=fun A5 c5 h' (hl : Le h1 h') => ih (k + 1,A5,c5,h') ⟨by dsimp only;omega,hle.trans hl⟩ (by dsimp only;omega)
    dsimp only at h3
    rw [hsn,clubsR_snoc] at h3
    rw [show 2 * (k + 1) = 2 * k + 2 by omega] at h3
    generalize clubsR (duels (R0.2.take k)) = cs at *
    clear ih hiff hF hT hsn
    repeat' (first|apply GO_seq|apply GO_skip|apply GO_inBlock|apply GO_block|apply GO_region|apply GOl_nil|(apply GOl_to;(iterate 3 exact rfl);apply OpTo_alloc (e:=24);exact rfl;intro bX)|(apply GOl_add;(iterate 3 exact rfl);omega;exact rfl;exact rfl)|(apply GOl_pv;(iterate 3 exact rfl))|(apply GOl_load;exact rfl;exact Ld_blk rfl QM rfl;exact rfl;exact rfl)|(apply GOl_ov;exact rfl;exact rfl;(first|(apply OV_idxS (j:=k) (n:=R0.1.n);(iterate 5 exact rfl);exact a1;(with_reducible exact rfl);omega)|(apply OV_load;exact rfl;exact Lv_ro rfl c7 rfl));exact QA)|(apply GOl_to;(iterate 3 exact rfl);(first|(apply OpTo_store;(iterate 3 exact rfl);exact QR;(iterate 3 exact rfl);skip)|(apply OpTo_buildSliceS (enc:=encI) (n:=2) [p.2.a,p.2.b];(iterate 3 exact rfl);exact List.cons_ne_nil _ _;(iterate 4 exact rfl);exact fun _ => rfl;exact rfl;exact rfl;intro b5 h5 hle5 hs5;skip)|(apply OpTo_appendS (enc:=encI) (xs:=cs);(iterate 7 exact rfl);exact hs5;exact fun _ => rfl;exact fun x => allOne_ok rfl;intro v1;exact QR;omega;exact rfl;intro A5 c5;skip)))|(apply GO_cond;exact rfl;all_goals (intro hc;try simp only [hcS,reduceCtorEq] at hc;try (exfalso;omega))))
    all_goals first
      | (exfalso;omega)
      | (have h4:=h3 A5 c5 h5 hle5
         refine GO_fit QS QT (h4))
  rw [List.take_of_length_le (by omega)] at hcl ⊢
  have ek : k = R0.1.n:=by omega
  subst ek
  clear ih
  generalize hcse : clubsR (duels R0.2) = cs at *
  refine GO_relC (enc:=encI) (e:=3) (sz:=1) (n:=2 * R0.1.n) (xs:=cs) (fun _ => rfl) hcl QK ?_
  intro A7 c7 h7 hle7 e7 hnc7 hs7
  cases e7
  have hnew:=fun h' (hl : Le h7 h') => new_c h' A1 (2 * R0.1.n) c1 cs t (hs7.le hl) hnc7
  have hle07 : Le h h7:=hle.trans hle7
  generalize newB cs t = nb at *
  by_cases hnb : nb.2 = 0
  case' neg =>
    have e:=hF fun k => hnb ((hiff ()).1 k).2.2.1
    clear hiff hF hT
    repeat' (first|apply GO_seq|apply GO_region|apply GOl_nil|(apply GO_exit;exact rfl)|(apply GOl_to;(iterate 3 exact rfl);apply OpTo_alloc (e:=36);exact rfl;intro bN)|(apply GOl_pv;(iterate 3 exact rfl))|(apply GOl_load;exact rfl;exact Ld_blk rfl QM rfl;exact rfl;exact rfl)|(apply GOl_to;(iterate 3 exact rfl);(first|(apply OpTo_store;(iterate 3 exact rfl);exact QR;(iterate 3 exact rfl);skip)|(apply OpTo_res;exact rfl;exact has14;exact hnew _ (by first|exact Le.refl _|assumption|(repeat (first|assumption|(apply Le.trans;assumption))));rintro v2 h2 hle2 ⟨s2,l2,rfl,hbr2⟩;skip)))|(apply GO_cond;exact rfl;all_goals (intro hc;try simp only [hcS,reduceCtorEq] at hc;try (exfalso;omega))))
    all_goals first
      | (exfalso;omega)
      | (exact GO_retR1 rfl rfl rfl (by rw [e]))
  have hT2:=fun a b c => hT ((hiff ()).2 ⟨ht,fun k => h0 (by rw [k] at hrl;exact hrl.symm),hnb,a,b,c⟩)
  have hF2 : ∀ i,i < s.n → ¬ RoundOk ((rounds l).getD i []) t → q = false:=fun i hi k => hF fun w => k (((hiff ()).1 w).2.2.2.1 _ (by
    rw [List.getD_eq_getElem?_getD,List.getElem?_eq_getElem (show i < (rounds l).length by omega)]
    exact List.getElem_mem _))
  have hF3 : ∀ i,i < s.n → ¬ ChainAt t (rounds l) i → q = false:=fun i hi k => hF fun w => k (((hiff ()).1 w).2.2.2.2.1 i (by omega))
  have hF4 : ∀ x ∈ legsL (rounds l),¬ SameCup x ((legsL (rounds l)).headD res0) → q = false:=fun x hx k => hF fun w => k (((hiff ()).1 w).2.2.2.2.2 x hx)
  clear hiff hF hT hh hs7 hcse hr0 h0row h0len rc ra hrm hr0n hcl hk hkn
  refine GO_nilS 40 13 ?_
  repeat' (first|apply GO_seq|apply GO_skip|apply GO_block|apply GO_region|apply GOl_nil|(apply GO_exit;exact rfl)|(apply GOl_to;(iterate 3 exact rfl);apply OpTo_alloc (e:=36);exact rfl;intro bN)|(apply GOl_to;(iterate 3 exact rfl);apply OpTo_alloc (e:=22);exact rfl;intro bl)|(apply GO_label)|(apply GOl_pv;(iterate 3 exact rfl))|(apply GOl_load;exact rfl;exact Ld_blk rfl QM rfl;exact rfl;exact rfl)|(apply GOl_to;(iterate 3 exact rfl);(first|(apply OpTo_store;(iterate 3 exact rfl);exact QR;(iterate 3 exact rfl);skip)|(apply OpTo_res;exact rfl;exact has14;exact hnew _ (by first|exact Le.refl _|assumption|(repeat (first|assumption|(apply Le.trans;assumption))));rintro v2 h2 hle2 ⟨s2,l2,rfl,hbr2⟩;skip)))|(apply GO_cond;exact rfl;all_goals (intro hc;try simp only [hcS,reduceCtorEq] at hc;try (exfalso;omega))))
  all_goals (try (exfalso;omega))
  have hle2h : Le h h2:=hle07.trans hle2
  clear hnew hbr2 hnb
  refine GO_loopT (X:=Nat × Option Addr × Nat × Ro) (fun x => x.1 ≤ s.n ∧ Le h x.2.2.2 ∧ ChkI t l x.1) (fun x => s.n - x.1)
    (fun x => [(57,.int .i64 x.1),(56,.int .i64 s.n),(55,.slice s.A s.n s.c),(8,ptrB bl),(1,ptrB b1)])
    (fun x => [Blk b1 36 (brC s t),Blk bl 22 [.slice x.2.1 (legsL ((rounds l).take x.1)).length x.2.2.1],OwnS 40 13 (.slice x.2.1 (legsL ((rounds l).take x.1)).length x.2.2.1) (legsL ((rounds l).take x.1)).length ((legsL ((rounds l).take x.1)).flatMap resC)])
    (fun x => x.2.2.2) (0,none,0,h2) ⟨by dsimp only;omega,hle2h,⟨by simp,fun j hj => absurd hj (by dsimp only;omega)⟩⟩ QS QT rfl ?_
  rintro ⟨i,A3,c3,h3⟩ ⟨hi,hle3,hI⟩ ih
  dsimp only at hi hle3 hI ih ⊢
  have hfew:=legs_few hs hb hI.rounds
  by_cases hin : i < s.n
  case' neg =>
    rw [List.take_of_length_le (by omega)] at hfew ⊢
    have ei : i = s.n:=by omega
    have e1 : ∀ r ∈ rounds l,RoundOk r t:=fun r hr => hI.rounds r (by rw [List.take_of_length_le (by omega)];exact hr)
    have e2 : ∀ j,j < (rounds l).length → ChainAt t (rounds l) j:=fun j hj => hI.chain j (by omega)
    have hT3:=hT2 e1 e2
    clear ih hI hF2 hF3 hT2 e1 e2
    generalize legsL (rounds l) = L at *
    refine GO_relC (enc:=resC) (e:=40) (sz:=13) (n:=L.length) (xs:=L) resC_len rfl QK ?_
    intro A9 c9 h9 hle9 e9 hnc9 hs9
    cases e9
    refine GO_relB (b:=bl) (e:=22) (cs:=[.slice A3 L.length c3]) QK ?_
    intro h10 hle10 hc10
    have hcon : ∀ h',Le h10 h' → Val Tryz.prog 74 #[.slice A3 L.length c3,.func (.func 75) #[] #[.pointer (some ⟨bl,0,none⟩)]] h' (.bool (L.any fun x => !decide (SameCup x (L.headD res0)))):=fun h' hl =>
      conFR_c h' A3 L.length c3 L ((hs9.le hle10).le hl) (by omega) 75 [] [.pointer (some ⟨bl,0,none⟩)] _ has75 fun x hx => check2B_c h' bl A3 L.length c3 L ((hs9.le hle10).le hl) (List.length_pos_of_mem hx) (hc10.le hl) x
    have hqq : q = !(L.any fun x => !decide (SameCup x (L.headD res0))):=by
      by_cases hall : ∀ x ∈ L,SameCup x (L.headD res0)
      · rw [hT3 hall]
        symm
        rw [Bool.not_eq_true',List.any_eq_false]
        intro x hx
        rw [decide_eq_true (hall x hx)];simp
      · obtain ⟨x,hx⟩:=Classical.not_forall.1 hall
        obtain ⟨hx1,hx2⟩:=Classical.not_imp.1 hx
        rw [hF4 x hx1 hx2]
        symm
        rw [Bool.not_eq_false',List.any_eq_true]
        exact ⟨x,hx1,by rw [decide_eq_false hx2];rfl⟩
    rw [hqq]
    generalize (L.any fun x => !decide (SameCup x (L.headD res0))) = qa at *
    repeat' (first|apply GO_seq|apply GO_region|apply GOl_nil|(apply GO_exit;exact rfl)|(apply GOl_pv;(iterate 3 exact rfl))|(apply GOl_ov;exact rfl;exact rfl;(first|(apply OV_load;exact rfl;first|exact Lv_ro rfl (by assumption) rfl|exact Lv_roF rfl (by assumption) rfl|exact Lv_roF2 rfl (by assumption) rfl|exact Lv_roF3 rfl (by assumption) rfl));exact QA)|(apply GOl_to;(iterate 3 exact rfl);(first|(apply OpTo_val;exact rfl;exact has74;exact hcon _ (by first|exact Le.refl _|assumption|(repeat (first|assumption|(apply Le.trans;assumption))));skip)))|(apply GO_cond;exact rfl;all_goals (intro hc;try simp only [hcS,reduceCtorEq] at hc;try (exfalso;omega))))
    all_goals first
      | (exfalso;omega)
      | (exact GO_retR1 rfl rfl rfl rfl)
  have ra:=hrow.addrD hin
  have rc : CellsAt h3 ((addrD s.A).add (i * ty53.size)) (encRd (l.getD i rd0)):=(hrow.cellsD rd0 hin).le hle3
  have hrm:=mem7 rd0 (show i < l.length by omega)
  have hri:=(hb.each _ hrm).le hle3
  have hrn:=hs.each _ hrm
  have hgd:=rounds_getD l i
  have hgd1:=rounds_getD l (i + 1)
  have htk:=take_rounds l (i:=i) (by omega)
  have hF2i:=hF2 i hin
  have hF3i:=hF3 i hin
  rw [hgd] at hF2i
  generalize l.getD i rd0 = R at *
  have hRl:=hri.1.row.len
  have hRrow:=hri.1.row
  have ih1:=fun A5 c5 h' (hl : Le h3 h') (hro : RoundOk (duels R.2) t) (hch : ChainAt t (rounds l) i) => ih (i + 1,A5,c5,h') ⟨by dsimp only;omega,hle3.trans hl,⟨fun r hr => by
      dsimp only at hr
      rw [htk,List.mem_append,List.mem_singleton] at hr
      rcases hr with hr|hr
      · exact hI.rounds r hr
      · rw [hr];exact hro,fun j hj => by
      dsimp only at hj
      by_cases e : j = i
      · rw [e];exact hch
      · exact hI.chain j (by omega)⟩⟩ (by dsimp only;omega)
  dsimp only at ih1
  rw [htk,legsL_snoc] at ih1
  generalize legsL ((rounds l).take i) = P at *
  clear ih hI hT2 hF2 hF3 hF4 htk
  repeat' (first|apply GO_seq|apply GO_skip|apply GO_block|apply GO_region|apply GOl_nil|(apply GOl_pv;(iterate 3 exact rfl))|(apply GOl_ov;exact rfl;exact rfl;(first|(apply OV_idxS (j:=i) (n:=s.n);(iterate 5 exact rfl);exact ra;(with_reducible exact rfl);omega)|(apply OV_load;exact rfl;exact Lv_ro rfl rc rfl));exact QA)|(apply GO_cond;exact rfl;all_goals (intro hc;try simp only [hcS,reduceCtorEq] at hc;try (exfalso;omega))))
  all_goals (try (exfalso;omega))
  refine GO_loopT (X:=Nat × Option Addr × Nat × Ro) (fun x => x.1 ≤ R.1.n ∧ Le h3 x.2.2.2 ∧ ∀ d ∈ duels (R.2.take x.1),DuelFit t d) (fun x => R.1.n - x.1)
    (fun x => [(64,.int .i64 x.1),(63,.int .i64 R.1.n),(62,.slice R.1.A R.1.n R.1.c),(9,.int .i64 i),(10,.slice R.1.A R.1.n R.1.c),(57,.int .i64 i),(56,.int .i64 s.n),(55,.slice s.A s.n s.c),(8,ptrB bl),(1,ptrB b1)])
    (fun x => [Blk b1 36 (brC s t),Blk bl 22 [.slice x.2.1 (P ++ legsR (duels (R.2.take x.1))).length x.2.2.1],OwnS 40 13 (.slice x.2.1 (P ++ legsR (duels (R.2.take x.1))).length x.2.2.1) (P ++ legsR (duels (R.2.take x.1))).length ((P ++ legsR (duels (R.2.take x.1))).flatMap resC)])
    (fun x => x.2.2.2) (0,A3,c3,h3) ⟨by dsimp only;omega,Le.refl _,fun d hd => absurd hd (by dsimp only;rw [List.take_zero];simp [duels])⟩ QS (by rw [show legsR (duels (R.2.take 0)) = [] from rfl,List.append_nil];exact QT) rfl ?_
  rintro ⟨j,A4,c4,h4⟩ ⟨hj,hle4,hD⟩ ihj
  dsimp only at hj hle4 hD ihj ⊢
  have hqf:=legsR_few hD (by rw [duels_len,List.length_take];omega)
  by_cases hjn : j < R.1.n
  · have a1:=hRrow.addrD hjn
    have c7 : CellsAt h4 ((addrD R.1.A).add (j * ty24.size)) (encDu (R.2.getD j du0)):=(hRrow.cellsD du0 hjn).le hle4
    have hm:=mem7 du0 (show j < R.2.length by omega)
    have hda:=(hri.1.each _ hm).le hle4
    have hsn:=dus_getD R.2 (j:=j) (by omega)
    generalize R.2.getD j du0 = p at *
    obtain ⟨ps,pd⟩:=p
    have hck:=checkDu_c h4 ps pd t hda
    have hz:=checkD_zero (d:=pd) (t:=t)
    have hmd : pd ∈ duels R.2:=List.mem_map.2 ⟨_,hm,rfl⟩
    have hdl:=hda.len
    dsimp only at hdl hsn
    generalize checkD pd t = E at *
    by_cases hE : E = 0
    case' neg =>
      have e:=hF2i fun k => hE (hz.2 (k pd hmd).1)
      clear ihj ih1 hz hF2i hF3i
      repeat' (first|apply GO_seq|apply GO_skip|apply GO_block|apply GO_region|apply GOl_nil|(apply GOl_to;(iterate 3 exact rfl);apply OpTo_alloc (e:=24);exact rfl;intro bX)|(apply GOl_pv;(iterate 3 exact rfl))|(apply GOl_load;exact rfl;exact Ld_blk rfl QM rfl;exact rfl;exact rfl)|(apply GOl_ov;exact rfl;exact rfl;(first|(apply OV_idxS (j:=j) (n:=R.1.n);(iterate 5 exact rfl);exact a1;(with_reducible exact rfl);omega)|(apply OV_load;exact rfl;exact Lv_ro rfl c7 rfl));exact QA)|(apply GOl_to;(iterate 3 exact rfl);(first|(apply OpTo_store;(iterate 3 exact rfl);exact QR;(iterate 3 exact rfl);skip)|(apply OpTo_res;exact rfl;exact has11;exact hck;rintro v5 h5 hle5 rfl;skip)))|(apply GO_cond;exact rfl;all_goals (intro hc;try simp only [hcS,reduceCtorEq] at hc;try (exfalso;omega))))
      all_goals first
        | (exfalso;omega)
        | (exact GO_retR1 rfl rfl rfl (by rw [e]))
    have ho:=hz.1 hE
    subst hE
    have hwn:=fun h' (hl : Le h4 h') => winner_c h' ps pd t ((DuG.of hda ho).le hl)
    have hp2:=duelOk_len ho
    have hsl:=hda.1
    dsimp only at hsl
    have h5:=fun A5 c5 h' (hl : Le h4 h') (hfit : DuelFit t pd) => ihj (j + 1,A5,c5,h') ⟨by dsimp only;omega,hle4.trans hl,fun d hd => by
      dsimp only at hd
      rw [hsn,List.mem_append,List.mem_singleton] at hd
      rcases hd with hd|rfl
      · exact hD d hd
      · exact hfit⟩ (by dsimp only;omega)
    dsimp only at h5
    rw [hsn,legsR_snoc,← List.append_assoc] at h5
    have hQ : (P ++ legsR (duels (R.2.take j))).length ≤ 30000:=by rw [List.length_append];omega
    generalize P ++ legsR (duels (R.2.take j)) = Q at *
    have e9 : (Q ++ pd.ls).length = Q.length + ps.n:=by rw [List.length_append,hdl]
    rw [e9] at h5
    have hq63 : Q.length + ps.n ≤ 1000000000:=by omega
    cases hwd : winD pd t with
    | none =>
      obtain ⟨w,hw⟩:=winV_none hwd
      rw [hw] at hwn
      by_cases hfu : (ps.n : Int) = t.legs
      · have e:=hF2i fun k => (k pd hmd).2 (by unfold FullD;omega) (by omega) hwd
        clear ihj ih1 hz hF2i hF3i h5
        repeat' (first|apply GO_seq|apply GO_skip|apply GO_block|apply GO_region|apply GOl_nil|(apply GOl_to;(iterate 3 exact rfl);apply OpTo_alloc (e:=24);exact rfl;intro bX)|(apply GOl_pv;(iterate 3 exact rfl))|(apply GOl_load;exact rfl;exact Ld_blk rfl QM rfl;exact rfl;exact rfl)|(apply GOl_ov;exact rfl;exact rfl;(first|(apply OV_idxS (j:=j) (n:=R.1.n);(iterate 5 exact rfl);exact a1;(with_reducible exact rfl);omega)|(apply OV_load;exact rfl;exact Lv_ro rfl c7 rfl));exact QA)|(apply GOl_to;(iterate 3 exact rfl);(first|(apply OpTo_store;(iterate 3 exact rfl);exact QR;(iterate 3 exact rfl);skip)|(apply OpTo_res;exact rfl;exact has11;exact hck;rintro v5 h6 hle5 rfl;skip)|(apply OpTo_res;exact rfl;exact has26;exact hwn _ (by first|exact Le.refl _|assumption|(repeat (first|assumption|(apply Le.trans;assumption))));rintro v6 h8 hle6 rfl;skip)))|(apply GO_cond;exact rfl;all_goals (intro hc;try simp only [hcS,reduceCtorEq] at hc;try (exfalso;omega))))
        all_goals first
          | (exfalso;omega)
          | (exfalso;simp at hc;done)
          | (exact GO_retR1 rfl rfl rfl (by rw [e]))
      · have h7:=fun A5 c5 h' hl => h5 A5 c5 h' hl ⟨ho,fun _ k => absurd k (by omega)⟩
        clear ihj ih1 hz hF2i hF3i h5
        repeat' (first|apply GO_seq|apply GO_skip|apply GO_inBlock|apply GO_block|apply GO_region|apply GOl_nil|(apply GOl_to;(iterate 3 exact rfl);apply OpTo_alloc (e:=24);exact rfl;intro bX)|(apply GOl_add;(iterate 3 exact rfl);omega;exact rfl;exact rfl)|(apply GOl_pv;(iterate 3 exact rfl))|(apply GOl_load;exact rfl;exact Ld_blk rfl QM rfl;exact rfl;exact rfl)|(apply GOl_ov;exact rfl;exact rfl;(first|(apply OV_idxS (j:=j) (n:=R.1.n);(iterate 5 exact rfl);exact a1;(with_reducible exact rfl);omega)|(apply OV_load;exact rfl;exact Lv_ro rfl c7 rfl));exact QA)|(apply GOl_to;(iterate 3 exact rfl);(first|(apply OpTo_store;(iterate 3 exact rfl);exact QR;(iterate 3 exact rfl);skip)|(apply OpTo_res;exact rfl;exact has11;exact hck;rintro v5 h6 hle5 rfl;skip)|(apply OpTo_res;exact rfl;exact has26;exact hwn _ (by first|exact Le.refl _|assumption|(repeat (first|assumption|(apply Le.trans;assumption))));rintro v6 h8 hle6 rfl;skip)|(apply OpTo_appendS (enc:=resC) (xs:=Q) (ys:=pd.ls);(iterate 7 exact rfl);exact hsl.le (by first|exact Le.refl _|assumption|(repeat (first|assumption|(apply Le.trans;assumption))));exact resC_len;exact resC_one;intro v1;exact QR;exact hq63;exact rfl;intro A5 c5;skip)))|(apply GO_cond;exact rfl;all_goals (intro hc;try simp only [hcS,reduceCtorEq] at hc;try (exfalso;omega))))
        all_goals first
          | (exfalso;omega)
          | (exfalso;simp at hc;done)
          | (have h9:=h7 A5 c5 h8 (by first|exact Le.refl _|assumption|(repeat (first|assumption|(apply Le.trans;assumption))))
             refine GO_fit QS QT (h9))
    | some w =>
      rw [winV_some hwd] at hwn
      have h7:=fun A5 c5 h' hl => h5 A5 c5 h' hl ⟨ho,fun _ _ k => by rw [hwd] at k;cases k⟩
      clear ihj ih1 hz hF2i hF3i h5
      repeat' (first|apply GO_seq|apply GO_skip|apply GO_inBlock|apply GO_block|apply GO_region|apply GOl_nil|(apply GOl_to;(iterate 3 exact rfl);apply OpTo_alloc (e:=24);exact rfl;intro bX)|(apply GOl_unwanted;exact rfl;exact rfl)|(apply GOl_add;(iterate 3 exact rfl);omega;exact rfl;exact rfl)|(apply GOl_pv;(iterate 3 exact rfl))|(apply GOl_load;exact rfl;exact Ld_blk rfl QM rfl;exact rfl;exact rfl)|(apply GOl_ov;exact rfl;exact rfl;(first|(apply OV_idxS (j:=j) (n:=R.1.n);(iterate 5 exact rfl);exact a1;(with_reducible exact rfl);omega)|(apply OV_load;exact rfl;exact Lv_ro rfl c7 rfl));exact QA)|(apply GOl_to;(iterate 3 exact rfl);(first|(apply OpTo_store;(iterate 3 exact rfl);exact QR;(iterate 3 exact rfl);skip)|(apply OpTo_res;exact rfl;exact has11;exact hck;rintro v5 h6 hle5 rfl;skip)|(apply OpTo_res;exact rfl;exact has26;exact hwn _ (by first|exact Le.refl _|assumption|(repeat (first|assumption|(apply Le.trans;assumption))));rintro v6 h8 hle6 rfl;skip)|(apply OpTo_appendS (enc:=resC) (xs:=Q) (ys:=pd.ls);(iterate 7 exact rfl);exact hsl.le (by first|exact Le.refl _|assumption|(repeat (first|assumption|(apply Le.trans;assumption))));exact resC_len;exact resC_one;intro v1;exact QR;exact hq63;exact rfl;intro A5 c5;skip)))|(apply GO_cond;exact rfl;all_goals (intro hc;try simp only [hcS,reduceCtorEq] at hc;try (exfalso;omega))))
      all_goals first
        | (exfalso;omega)
        | (exfalso;simp at hc;done)
        | (have h9:=h7 A5 c5 h8 (by first|exact Le.refl _|assumption|(repeat (first|assumption|(apply Le.trans;assumption))))
           refine GO_fit QS QT (h9))
  rw [List.take_of_length_le (by omega)] at hD hqf ⊢
  clear ihj hF2i rc
  have hfo:=follow_c h4 R.1.A R.1.n R.1.c R.2 t (hri.1.le hle4) hrn fun p hp => DuG.of ((hri.1.each p hp).le hle4) (hD p.2 (List.mem_map.2 ⟨p,hp,rfl⟩)).1
  have ih2:=fun A5 c5 h' (hl : Le h4 h') hch => ih1 A5 c5 h' (hle4.trans hl) hD hch
  generalize P ++ legsR (duels R.2) = Q at *
  clear ih1 hD hqf hfew
  have hca : ∀ x,nextR (duels R.2) t = x → (ChainAt t (rounds l) i ↔ if i + 1 < s.n then ∃ n,x = some n ∧ sameR n (duels (l.getD (i + 1) rd0).2) else x = none):=fun x e => by
    unfold ChainAt
    rw [hrl,hgd,hgd1,e]
  cases hnx : nextR (duels R.2) t with
  | none =>
    have hca:=hca none hnx
    rw [hnx] at hfo
    rw [show (none : Option (List FDuel)).isSome = false from rfl] at hfo
    by_cases hi1 : i + 1 < s.n
    · rw [if_pos hi1] at hca
      have e:=hF3i fun k => by obtain ⟨m,h1,_⟩:=hca.1 k;cases h1
      have hx7 : ¬ ((false == ltI ((i : Int) + 1) (s.n : Int)) = true):=by rw [(ltI_t _ _).mpr (by omega)];simp
      clear ih2 hF3i hca
      repeat' (first|apply GO_seq|apply GO_skip|apply GO_region|apply GOl_nil|(apply GO_exit;exact rfl)|(apply GOl_add;(iterate 3 exact rfl);omega;exact rfl;exact rfl)|(apply GOl_pv;(iterate 3 exact rfl))|(apply GOl_load;exact rfl;exact Ld_blk rfl QM rfl;exact rfl;exact rfl)|(apply GOl_to;(iterate 3 exact rfl);(first|(apply OpTo_res;exact rfl;exact has52;exact hfo;rintro v5 h5 hle5 ⟨r,rfl,hr5,hrm5⟩;skip)))|(apply GO_cond;exact rfl;all_goals (intro hc;try simp only [hcS,reduceCtorEq] at hc;try (exfalso;omega))))
      all_goals first
        | (exfalso;omega)
        | (exfalso;exact hx7 (by assumption))
        | (exact GO_retR1 rfl rfl rfl (by rw [e]))
    · rw [if_neg hi1] at hca
      have h7:=fun A5 c5 h' (hl : Le h4 h') => ih2 A5 c5 h' hl (hca.2 rfl)
      clear ih2 hF3i hca
      repeat' (first|apply GO_seq|apply GO_skip|apply GO_region|apply GOl_nil|(apply GO_exit;exact rfl)|(apply GOl_add;(iterate 3 exact rfl);omega;exact rfl;exact rfl)|(apply GOl_pv;(iterate 3 exact rfl))|(apply GOl_load;exact rfl;exact Ld_blk rfl QM rfl;exact rfl;exact rfl)|(apply GOl_to;(iterate 3 exact rfl);(first|(apply OpTo_res;exact rfl;exact has52;exact hfo;rintro v5 h5 hle5 ⟨r,rfl,hr5,hrm5⟩;skip)))|(apply GO_cond;exact rfl;all_goals (intro hc;try simp only [hcS,reduceCtorEq] at hc;try (exfalso;omega))))
      all_goals first
        | (exfalso;omega)
        | (have h9:=h7 A4 c4 h5 hle5
           refine GO_fit QS QT (h9))
        | (exfalso;simp [ltI_eq] at hc;omega)
  | some m =>
    have hca:=hca (some m) hnx
    have hml : m.length ≤ 128:=by
      obtain ⟨cs9,k1,_,k3⟩:=nextR_some hnx
      have k4:=winsR_len k1
      rw [duels_len] at k4
      rw [k3,pairD_len];omega
    rw [hnx] at hfo
    rw [show (some m).isSome = true from rfl] at hfo
    by_cases hi1 : i + 1 < s.n
    · rw [if_pos hi1] at hca
      have rc1 : CellsAt h4 ((addrD s.A).add ((i + 1) * ty53.size)) (encRd (l.getD (i + 1) rd0)):=((hrow.cellsD rd0 hi1).le hle3).le hle4
      have hrm1:=mem7 rd0 (show i + 1 < l.length by omega)
      have hri1:=((hb.each _ hrm1).le hle3).le hle4
      have hrn1:=hs.each _ hrm1
      generalize l.getD (i + 1) rd0 = R1 at *
      have heq:=fun h' (hl : Le h4 h') (r : RdS) (hr5 : RdAt h' r) (hd : duels r.2 = m) => equalDu_c h' r.1.A R1.1.A r.1.n r.1.c R1.1.n R1.1.c r.2 R1.2 hr5.1.row (hri1.1.row.le hl) (by have:=hr5.1.row.len;rw [← duels_len,hd] at this;omega) (by omega)
      by_cases hsa : sameR m (duels R1.2)
      · have h7:=fun A5 c5 h' (hl : Le h4 h') => ih2 A5 c5 h' hl (hca.2 ⟨m,rfl,hsa⟩)
        have heq : ∀ h',Le h4 h' → ∀ r : RdS,RdAt h' r → duels r.2 = m → Val Tryz.prog 73 #[.slice r.1.A r.1.n r.1.c,.slice R1.1.A R1.1.n R1.1.c,.func (.func 72) #[] #[]] h' (.bool true):=fun h' hl r hr5 hd => by
          have:=heq h' hl r hr5 hd
          rw [hd,decide_eq_true hsa] at this;exact this
        clear ih2 hF3i hca
        repeat' (first|apply GO_seq|apply GO_skip|apply GO_inBlock|apply GO_region|apply GOl_nil|(apply GO_exit;exact rfl)|(apply GOl_add;(iterate 3 exact rfl);omega;exact rfl;exact rfl)|(apply GOl_pv;(iterate 3 exact rfl))|(apply GOl_load;exact rfl;exact Ld_blk rfl QM rfl;exact rfl;exact rfl)|(apply GOl_ov;exact rfl;exact rfl;(first|(apply OV_idxS (j:=i + 1) (n:=s.n);(iterate 5 exact rfl);exact ra;omega;omega)|(apply OV_load;exact rfl;exact Lv_ro rfl (rc1.le (by first|exact Le.refl _|assumption|(repeat (first|assumption|(apply Le.trans;assumption))))) rfl));exact QA)|(apply GOl_to;(iterate 3 exact rfl);(first|(apply OpTo_res;exact rfl;exact has52;exact hfo;rintro v5 h5 hle5 ⟨r,rfl,hr5,hrm5⟩;skip)|(apply OpTo_val;exact rfl;exact has73;exact heq _ (by first|exact Le.refl _|assumption|(repeat (first|assumption|(apply Le.trans;assumption)))) r hr5 (hrm5 m rfl);skip)))|(apply GO_cond;exact rfl;all_goals (intro hc;try simp only [hcS,reduceCtorEq] at hc;try (exfalso;omega))))
        all_goals first
          | (exfalso;omega)
          | (exfalso;simp at hc;done)
          | (have h9:=h7 A4 c4 h5 hle5
             refine GO_fit QS QT (h9))
          | (exfalso;simp [ltI_eq] at hc;omega)
      · have e:=hF3i fun k => by
          obtain ⟨n9,k1,k2⟩:=hca.1 k
          cases k1
          exact hsa k2
        have heq : ∀ h',Le h4 h' → ∀ r : RdS,RdAt h' r → duels r.2 = m → Val Tryz.prog 73 #[.slice r.1.A r.1.n r.1.c,.slice R1.1.A R1.1.n R1.1.c,.func (.func 72) #[] #[]] h' (.bool false):=fun h' hl r hr5 hd => by
          have:=heq h' hl r hr5 hd
          rw [hd,decide_eq_false hsa] at this;exact this
        clear ih2 hF3i hca
        repeat' (first|apply GO_seq|apply GO_skip|apply GO_region|apply GOl_nil|(apply GO_exit;exact rfl)|(apply GOl_add;(iterate 3 exact rfl);omega;exact rfl;exact rfl)|(apply GOl_pv;(iterate 3 exact rfl))|(apply GOl_load;exact rfl;exact Ld_blk rfl QM rfl;exact rfl;exact rfl)|(apply GOl_ov;exact rfl;exact rfl;(first|(apply OV_idxS (j:=i + 1) (n:=s.n);(iterate 5 exact rfl);exact ra;omega;omega)|(apply OV_load;exact rfl;exact Lv_ro rfl (rc1.le (by first|exact Le.refl _|assumption|(repeat (first|assumption|(apply Le.trans;assumption))))) rfl));exact QA)|(apply GOl_to;(iterate 3 exact rfl);(first|(apply OpTo_res;exact rfl;exact has52;exact hfo;rintro v5 h5 hle5 ⟨r,rfl,hr5,hrm5⟩;skip)|(apply OpTo_val;exact rfl;exact has73;exact heq _ (by first|exact Le.refl _|assumption|(repeat (first|assumption|(apply Le.trans;assumption)))) r hr5 (hrm5 m rfl);skip)))|(apply GO_cond;exact rfl;all_goals (intro hc;try simp only [hcS,reduceCtorEq] at hc;try (exfalso;omega))))
        all_goals first
          | (exfalso;omega)
          | (exfalso;simp at hc;done)
          | (exact GO_retR1 rfl rfl rfl (by rw [e]))
    · rw [if_neg hi1] at hca
      have e:=hF3i fun k => by have:=hca.1 k;cases this
      have hx7 : ¬ ((true == ltI ((i : Int) + 1) (s.n : Int)) = true):=by rw [(ltI_f _ _).mpr (by omega)];simp
      clear ih2 hF3i hca
      repeat' (first|apply GO_seq|apply GO_skip|apply GO_region|apply GOl_nil|(apply GO_exit;exact rfl)|(apply GOl_add;(iterate 3 exact rfl);omega;exact rfl;exact rfl)|(apply GOl_pv;(iterate 3 exact rfl))|(apply GOl_load;exact rfl;exact Ld_blk rfl QM rfl;exact rfl;exact rfl)|(apply GOl_to;(iterate 3 exact rfl);(first|(apply OpTo_res;exact rfl;exact has52;exact hfo;rintro v5 h5 hle5 ⟨r,rfl,hr5,hrm5⟩;skip)))|(apply GO_cond;exact rfl;all_goals (intro hc;try simp only [hcS,reduceCtorEq] at hc;try (exfalso;omega))))
      all_goals first
        | (exfalso;omega)
        | (exfalso;exact hx7 (by assumption))
        | (exact GO_retR1 rfl rfl rfl (by rw [e]))
end Go.Hw
set_option linter.unusedVariables false
set_option linter.unusedSimpArgs false
set_option maxRecDepth 100000
set_option maxHeartbeats 8000000
namespace Go.Hw
open Go
attribute [local irreducible] GO GOl GDp Val Fn Res CellsAt ValE Blk OwnS MapA OwnPf Has Yl
open Go.Proofs (Tryz.prog)
theorem cloneDu_c (h : Ro) (A : Option Addr) (n c : Nat) (xs : List DuS) (hx : SlOf encDu 3 h A n xs) (hn : n ≤ 1000000) :
    Fn Tryz.prog 45 #[.slice A n c] [] h fun u Es _ => Es = [OwnS 24 3 u n (xs.flatMap encDu)]:=by
  refine Fn_intro (args:=[_]) ts_ok Go.Proofs.Tryz.func45 rfl rfl fun w0 X0 => ?_
  have hlen:=hx.len
  cases A with
  | none =>
    have h0 : n = 0:=by
      by_cases h0 : n = 0
      · exact h0
      · have:=hx.addrD (show 0 < n by omega);cases this
    subst h0
    have hxs : xs = []:=List.eq_nil_of_length_eq_zero hlen
    subst hxs
    refine GO_nilS 24 3 ?_
    repeat' (first|apply GO_seq|apply GO_skip|apply GO_region|apply GOl_nil|(apply GOl_pv;(iterate 3 exact rfl))|(apply GO_cond;exact rfl;all_goals (intro hc;try simp only [hcS,reduceCtorEq] at hc;try (exfalso;omega))))
    · exact GO_retS1 rfl rfl rfl (List.Sublist.refl _) rfl
    · simp at hc
  | some ad =>
    repeat' (first|apply GO_seq|apply GO_skip|apply GO_region|apply GOl_nil|(apply GOl_pv;(iterate 3 exact rfl))|(apply GOl_to;(iterate 3 exact rfl);(first|(apply OpTo_buildSliceO (n:=0);(iterate 3 exact rfl);exact List.cons_ne_nil _ _;(iterate 6 exact rfl);intro b1;skip)|(apply OpTo_appendS (enc:=encDu) (xs:=[]);(iterate 7 exact rfl);exact hx;exact encDu_len;exact encDu_one;intro v1;exact QR;omega;exact rfl;intro A1 c1;skip)))|(apply GO_cond;exact rfl;all_goals (intro hc;try simp only [hcS,reduceCtorEq] at hc;try (exfalso;omega))))
    refine GO_retS1 rfl rfl rfl (List.Sublist.refl _) ?_
    simp
    rfl
theorem cloneRe_c (h : Ro) (A : Option Addr) (n c : Nat) (xs : List FRes) (hx : SlOf resC 13 h A n xs) (hn : n ≤ 1000000) :
    Fn Tryz.prog 49 #[.slice A n c] [] h fun u Es _ => Es = [OwnS 40 13 u n (xs.flatMap resC)]:=by
  refine Fn_intro (args:=[_]) ts_ok Go.Proofs.Tryz.func49 rfl rfl fun w0 X0 => ?_
  have hlen:=hx.len
  cases A with
  | none =>
    have h0 : n = 0:=by
      by_cases h0 : n = 0
      · exact h0
      · have:=hx.addrD (show 0 < n by omega);cases this
    subst h0
    have hxs : xs = []:=List.eq_nil_of_length_eq_zero hlen
    subst hxs
    refine GO_nilS 40 13 ?_
    repeat' (first|apply GO_seq|apply GO_skip|apply GO_region|apply GOl_nil|(apply GOl_pv;(iterate 3 exact rfl))|(apply GO_cond;exact rfl;all_goals (intro hc;try simp only [hcS,reduceCtorEq] at hc;try (exfalso;omega))))
    · exact GO_retS1 rfl rfl rfl (List.Sublist.refl _) rfl
    · simp at hc
  | some ad =>
    repeat' (first|apply GO_seq|apply GO_skip|apply GO_region|apply GOl_nil|(apply GOl_pv;(iterate 3 exact rfl))|(apply GOl_to;(iterate 3 exact rfl);(first|(apply OpTo_buildSliceO (n:=0);(iterate 3 exact rfl);exact List.cons_ne_nil _ _;(iterate 6 exact rfl);intro b1;skip)|(apply OpTo_appendS (enc:=resC) (xs:=[]);(iterate 7 exact rfl);exact hx;exact resC_len;exact resC_one;intro v1;exact QR;omega;exact rfl;intro A1 c1;skip)))|(apply GO_cond;exact rfl;all_goals (intro hc;try simp only [hcS,reduceCtorEq] at hc;try (exfalso;omega))))
    refine GO_retS1 rfl rfl rfl (List.Sublist.refl _) ?_
    simp
    rfl
theorem cloneRd_c (h : Ro) (A : Option Addr) (n c : Nat) (xs : List RdS) (hx : SlOf encRd 1 h A n xs) (hn : n ≤ 1000000) :
    Fn Tryz.prog 51 #[.slice A n c] [] h fun u Es _ => Es = [OwnS 53 1 u n (xs.flatMap encRd)]:=by
  refine Fn_intro (args:=[_]) ts_ok Go.Proofs.Tryz.func51 rfl rfl fun w0 X0 => ?_
  have hlen:=hx.len
  cases A with
  | none =>
    have h0 : n = 0:=by
      by_cases h0 : n = 0
      · exact h0
      · have:=hx.addrD (show 0 < n by omega);cases this
    subst h0
    have hxs : xs = []:=List.eq_nil_of_length_eq_zero hlen
    subst hxs
    refine GO_nilS 53 1 ?_
    repeat' (first|apply GO_seq|apply GO_skip|apply GO_region|apply GOl_nil|(apply GOl_pv;(iterate 3 exact rfl))|(apply GO_cond;exact rfl;all_goals (intro hc;try simp only [hcS,reduceCtorEq] at hc;try (exfalso;omega))))
    · exact GO_retS1 rfl rfl rfl (List.Sublist.refl _) rfl
    · simp at hc
  | some ad =>
    repeat' (first|apply GO_seq|apply GO_skip|apply GO_region|apply GOl_nil|(apply GOl_pv;(iterate 3 exact rfl))|(apply GOl_to;(iterate 3 exact rfl);(first|(apply OpTo_buildSliceO (n:=0);(iterate 3 exact rfl);exact List.cons_ne_nil _ _;(iterate 6 exact rfl);intro b1;skip)|(apply OpTo_appendS (enc:=encRd) (xs:=[]);(iterate 7 exact rfl);exact hx;exact encRd_len;exact encRd_one;intro v1;exact QR;omega;exact rfl;intro A1 c1;skip)))|(apply GO_cond;exact rfl;all_goals (intro hc;try simp only [hcS,reduceCtorEq] at hc;try (exfalso;omega))))
    refine GO_retS1 rfl rfl rfl (List.Sublist.refl _) ?_
    simp
    rfl
theorem idxFDu_c (h : Ro) (A : Option Addr) (n c : Nat) (l : List DuS) (hx : SlOf encDu 3 h A n l) (hn : n ≤ 1000000000) (f : FuncId) (fs cs : List Value) (p : DuS → Bool) (hh : Has Tryz.prog f)
    (hf : ∀ x ∈ l,Val Tryz.prog f (fs ++ [duelV x.1 x.2] ++ cs).toArray h (.bool (p x))) :
    Val Tryz.prog 46 #[.slice A n c,.func (.func f) fs.toArray cs.toArray] h (.int .i64 (idx7 p l 0)):=by
  refine Val_intro (args:=[_,_]) ts_ok Go.Proofs.Tryz.func46 rfl rfl fun w0 X0 => ?_
  have hlen:=hx.len
  repeat' (first|apply GO_seq|apply GO_block|apply GO_region|apply GOl_nil|(apply GOl_pv;(iterate 3 exact rfl)))
  refine GO_loopT (X:=Nat) (fun k => k ≤ n ∧ idx7 p (l.drop k) k = idx7 p l 0) (fun k => n - k) (fun k => [(8,.int .i64 k),(7,.int .i64 n),(0,.slice A n c),(1,.func (.func f) fs.toArray cs.toArray)]) (fun _ => []) (fun _ => h) 0 ⟨by omega,rfl⟩ QS QT rfl ?_
  rintro k ⟨hk,hI⟩ ih
  by_cases hkn : k < n
  · have a1:=hx.addrD hkn
    have c1 : CellsAt h ((addrD A).add (k * ty24.size)) (encDu (l.getD k du0)):=hx.cellsD du0 hkn
    have hd:=drop7 du0 hlen hkn
    have hv:=hf _ (mem7 du0 (show k < l.length by omega))
    generalize l.getD k du0 = x at *
    repeat' (first|apply GO_seq|apply GO_skip|apply GO_inBlock|apply GO_block|apply GO_region|apply GOl_nil|(apply GOl_add;(iterate 3 exact rfl);omega;exact rfl;exact rfl)|(apply GOl_pv;(iterate 3 exact rfl))|(apply GOl_ov;exact rfl;exact rfl;(first|(apply OV_idxS (j:=k);(iterate 5 exact rfl);exact a1;(with_reducible exact rfl);omega)|(apply OV_load;exact rfl;exact Lv_ro rfl c1 rfl));exact QA)|(apply GOl_to;(iterate 3 exact rfl);(first|(apply OpTo_valF (f:=f) (fs:=fs) (cs:=cs);exact rfl;exact rfl;exact hh;exact hv;skip)))|(apply GO_cond;exact rfl;all_goals (intro hc;try simp only [hcS,reduceCtorEq] at hc;try (exfalso;omega)))|(apply GO_retV1;(iterate 3 exact rfl)))
    · rw [← hI,hd,idx7,if_pos hc]
    · have h3:=ih (k + 1) ⟨by omega,by rw [← hI,hd,idx7,if_neg (by simp [hc])]⟩ (by omega)
      refine GO_fit QS QT (h3)
  · repeat' (first|apply GO_seq|apply GO_region|apply GOl_nil|(apply GO_exit;exact rfl)|(apply GOl_pv;(iterate 3 exact rfl))|(apply GO_cond;exact rfl;all_goals (intro hc;try simp only [hcS,reduceCtorEq] at hc;try (exfalso;omega)))|(apply GO_retV1;(iterate 3 exact rfl)))
    rw [← hI,show k = l.length by omega,List.drop_length];rfl
theorem enter1_c (h : Ro) (b2 b3 : Nat) (s s' : Sli) (d : FDuel) (t : FTie) (x : FRes) (c2 : CellsAt h ⟨b2,0,none⟩ (brC s' t)) (c3 : CellsAt h ⟨b3,0,none⟩ (resC x)) (hl : d.ls.length = s.n) :
    Val Tryz.prog 47 #[duelV s d,.pointer (some ⟨b2,0,none⟩),.pointer (some ⟨b3,0,none⟩)] h (.bool (decide (WaitD d t x))):=by
  refine Val_intro (args:=[_,_,_]) ts_ok Go.Proofs.Tryz.func47 rfl rfl fun w0 X0 => ?_
  have hw:=waits_c h s d t hl x
  repeat' (first|apply GO_seq|apply GO_region|apply GOl_nil|(apply GOl_pv;(iterate 3 exact rfl))|(apply GOl_load;exact rfl;exact Ld_blk rfl QM rfl;exact rfl;exact rfl)|(apply GOl_ov;exact rfl;exact rfl;(first|(apply OV_load;exact rfl;first|exact Lv_roF rfl c2 rfl|exact Lv_ro rfl c3 rfl));exact QA)|(apply GOl_to;(iterate 3 exact rfl);(first|(apply OpTo_box;exact rfl;intro b;skip)|(apply OpTo_valF (f:=48) (fs:=[bduV s d t]) (cs:=[]);exact rfl;exact rfl;exact has48;exact hw;skip)))|(apply GO_retV1;(iterate 3 exact rfl)))
  all_goals rfl
theorem idx_wait (t : FTie) (x : FRes) : ∀ (l : List DuS) (k : Nat),idx7 (fun p : DuS => decide (WaitD p.2 t x)) l k = waitAt t x (duels l) k
  | [],_ => rfl
  | p :: r,k => by
    unfold idx7
    show _ = waitAt t x (p.2 :: duels r) k
    unfold waitAt
    by_cases h : WaitD p.2 t x
    · rw [if_pos h,if_pos (decide_eq_true h)]
    · rw [if_neg h,if_neg (by rw [decide_eq_false h];simp),idx_wait t x r]
theorem enterIdx_c (h : Ro) (b7 c7 b2 b3 n : Nat) (s : Sli) (t : FTie) (x : FRes) (l : List DuS) (hl : l.length = n) (hn : n ≤ 1000) (hd : ∀ p ∈ l,p.2.ls.length = p.1.n) :
    ValE Tryz.prog 46 #[.slice (some ⟨b7,0,none⟩) n c7,.func (.func 47) #[] #[.pointer (some ⟨b2,0,none⟩),.pointer (some ⟨b3,0,none⟩)]] [OwnS 24 3 (.slice (some ⟨b7,0,none⟩) n c7) n (l.flatMap encDu),Blk b2 36 (brC s t),Blk b3 40 (resC x)] h (.int .i64 (waitAt t x (duels l) 0)) :=
  ValE_lend fun h1 Ds hl1 ho => by
    obtain ⟨A,c,e1,e2,hs1⟩:=Own_row encDu_len hl ho
    cases e1
    obtain ⟨Dr,ho2⟩:=Own_tail ho
    have k2:=Own_blk ho2
    obtain ⟨Dr2,ho3⟩:=Own_tail ho2
    have k3:=Own_blk ho3
    have:=idxFDu_c h1 _ n c7 l hs1 (by omega) 47 [] [.pointer (some ⟨b2,0,none⟩),.pointer (some ⟨b3,0,none⟩)] (fun p => decide (WaitD p.2 t x)) has47 (fun p hp => enter1_c h1 b2 b3 p.1 s p.2 t x k2 k3 (hd p hp))
    rw [idx_wait] at this
    exact this
end Go.Hw
set_option linter.unusedVariables false
set_option linter.unusedSimpArgs false
set_option maxRecDepth 100000
set_option maxHeartbeats 8000000
namespace Go.Hw
open Go
attribute [local irreducible] GO GOl GDp Val Fn Res CellsAt ValE Blk OwnS MapA OwnPf Has Yl
open Go.Proofs (Tryz.prog)
theorem champB_bad {b : FBr} (h : ¬ BrOk b) : champB b = (0,false,210):=by unfold champB;rw [if_neg h]
theorem champB_many {b : FBr} (h : BrOk b) (k : (b.rs.getLastD []).length ≠ 1) : champB b = (0,false,0):=by
  unfold champB;rw [if_pos h]
  split
  · rename_i d e;rw [e] at k;exact absurd rfl k
  · rfl
theorem champB_one {b : FBr} (h : BrOk b) {d : FDuel} (k : b.rs.getLastD [] = [d]) : champB b = match winD d b.t with|none => (0,false,0)|some c => (c,true,0):=by
  unfold champB;rw [if_pos h,k];dsimp only;cases winD d b.t <;> rfl
theorem take_lastB {l : List (List FDuel)} {n : Nat} (h : l.length = n) (h0 : 0 < n) : l.getLastD [] = l.getD (n - 1) []:=by
  subst h
  rw [List.getLastD_eq_getLast?,List.getLast?_eq_getElem?,List.getD_eq_getElem?_getD]
open Classical in
theorem champ_c (h : Ro) (s : Sli) (l : List RdS) (t : FTie) (hb : RdsAt h s.A s.n l) (hs : BrSm s l) : Res Tryz.prog 18 #[brV s t] h (fun u _ => u = .tuple #[.int .i64 (champB ⟨t,rounds l⟩).1,.bool (champB ⟨t,rounds l⟩).2.1,.int .i64 (champB ⟨t,rounds l⟩).2.2]):=by
  refine Res_intro (args:=[_]) ts_ok Go.Proofs.Tryz.func18 rfl rfl fun w0 X0 => ?_
  have hck:=fun h' (hl : Le h h') => checkB_c h' s l t (hb.le hl) hs
  by_cases hB : BrOk ⟨t,rounds l⟩
  case' neg =>
    simp only [decide_eq_false hB] at hck
    rw [champB_bad hB]
    dsimp only
    repeat' (first|apply GO_seq|apply GO_region|apply GOl_nil|(apply GOl_pv;(iterate 3 exact rfl))|(apply GOl_load;exact rfl;exact Ld_blk rfl QM rfl;exact rfl;exact rfl)|(apply GOl_to;(iterate 3 exact rfl);(first|(apply OpTo_box;exact rfl;intro b;skip)|(apply OpTo_res;exact rfl;exact has44;exact hck _ (by first|exact Le.refl _|assumption|(repeat (first|assumption|(apply Le.trans;assumption))));rintro v2 h2 hle2 rfl;skip)))|(apply GO_cond;exact rfl;all_goals (intro hc;try simp only [hcS,reduceCtorEq] at hc;try (exfalso;omega))))
    all_goals first
      | (exfalso;simp at hc;done)
      | (exact GO_retR3 rfl rfl rfl rfl rfl rfl)
  simp only [decide_eq_true hB] at hck
  have hlen:=hb.row.len
  have hrow:=hb.row
  have hrl : (rounds l).length = s.n:=by rw [rounds_len,hlen]
  have h0 : 0 < s.n:=by
    rcases Nat.eq_zero_or_pos s.n with e|e
    · exact absurd (List.eq_nil_of_length_eq_zero (show (rounds l).length = 0 by omega)) hB.some
    · exact e
  have hlast:=take_lastB hrl h0
  have hnn:=hs.few
  have ra:=hrow.addrD (show s.n - 1 < s.n by omega)
  have rc : CellsAt h ((addrD s.A).add ((s.n - 1) * ty53.size)) (encRd (l.getD (s.n - 1) rd0)):=hrow.cellsD rd0 (show s.n - 1 < s.n by omega)
  have hRm:=mem7 rd0 (show s.n - 1 < l.length by omega)
  rw [rounds_getD] at hlast
  have hRa:=hb.each _ hRm
  have hRin:=last_in hB
  dsimp only at hRin
  rw [hlast] at hRin
  have hRok:=hB.rounds _ hRin
  dsimp only at hRok
  have hmany:=champB_many hB
  have hone:=fun d => champB_one hB (d:=d)
  dsimp only at hmany hone
  rw [hlast] at hmany hone
  generalize l.getD (s.n - 1) rd0 = R at *
  have hRl:=hRa.1.row.len
  generalize champB ⟨t,rounds l⟩ = E at *
  by_cases h1 : R.1.n = 1
  case' neg =>
    rw [hmany (by rw [duels_len];omega)]
    dsimp only
    clear hmany hone hRok
    repeat' (first|apply GO_seq|apply GO_skip|apply GO_region|apply GOl_nil|(apply GOl_sub;(iterate 3 exact rfl);omega;exact rfl;exact rfl)|(apply GOl_pv;(iterate 3 exact rfl))|(apply GOl_load;exact rfl;exact Ld_blk rfl QM rfl;exact rfl;exact rfl)|(apply GOl_ov;exact rfl;exact rfl;(first|(apply OV_idxS (j:=s.n - 1) (n:=s.n);(iterate 5 exact rfl);exact ra;omega;omega)|(apply OV_load;exact rfl;exact Lv_ro rfl (rc.le (by first|exact Le.refl _|assumption|(repeat (first|assumption|(apply Le.trans;assumption))))) rfl));exact QA)|(apply GOl_to;(iterate 3 exact rfl);(first|(apply OpTo_box;exact rfl;intro b;skip)|(apply OpTo_res;exact rfl;exact has44;exact hck _ (by first|exact Le.refl _|assumption|(repeat (first|assumption|(apply Le.trans;assumption))));rintro v2 h2 hle2 rfl;skip)))|(apply GO_cond;exact rfl;all_goals (intro hc;try simp only [hcS,reduceCtorEq] at hc;try (exfalso;omega))))
    all_goals first
      | (exfalso;simp at hc;done)
      | (exfalso;omega)
      | (exact GO_retR3 rfl rfl rfl rfl rfl rfl)
  have a0:=hRa.1.row.addrD (show 0 < R.1.n by omega)
  have c0 : CellsAt h ((addrD R.1.A).add (0 * ty24.size)) (encDu (R.2.getD 0 du0)):=hRa.1.row.cellsD du0 (show 0 < R.1.n by omega)
  have hm0:=mem7 du0 (show 0 < R.2.length by omega)
  have hd0:=hRa.1.each _ hm0
  have hl1 : duels R.2 = [(R.2.getD 0 du0).2]:=by
    match hR2 : R.2,hRl with
    | [p],_ => rfl
    | [],k => simp at k;omega
    | p :: q :: r,k => simp at k;omega
  generalize R.2.getD 0 du0 = p at *
  obtain ⟨ps,pd⟩:=p
  dsimp only at hl1
  have hE:=hone pd hl1
  have hdok:=(hRok pd (by rw [hl1];simp)).1
  have hwn:=fun h' (hl : Le h h') => winner_c h' ps pd t ((DuG.of hd0 hdok).le hl)
  clear hmany hone hRok
  cases hwd : winD pd t with
  | none =>
    rw [hwd] at hE
    dsimp only at hE
    obtain ⟨q,hq⟩:=winV_none hwd
    rw [hq] at hwn
    rw [hE]
    dsimp only
    repeat' (first|apply GO_seq|apply GO_skip|apply GO_region|apply GOl_nil|(apply GOl_sub;(iterate 3 exact rfl);omega;exact rfl;exact rfl)|(apply GOl_pv;(iterate 3 exact rfl))|(apply GOl_load;exact rfl;exact Ld_blk rfl QM rfl;exact rfl;exact rfl)|(apply GOl_ov;exact rfl;exact rfl;(first|(apply OV_idxS (j:=s.n - 1) (n:=s.n);(iterate 5 exact rfl);exact ra;omega;omega)|(apply OV_load;exact rfl;first|exact Lv_ro rfl (rc.le (by first|exact Le.refl _|assumption|(repeat (first|assumption|(apply Le.trans;assumption))))) rfl|exact Lv_ro rfl (c0.le (by first|exact Le.refl _|assumption|(repeat (first|assumption|(apply Le.trans;assumption))))) rfl));exact QA)|(apply GOl_to;(iterate 3 exact rfl);(first|(apply OpTo_box;exact rfl;intro b;skip)|(apply OpTo_res;exact rfl;exact has44;exact hck _ (by first|exact Le.refl _|assumption|(repeat (first|assumption|(apply Le.trans;assumption))));rintro v2 h2 hle2 rfl;skip)))|(apply GO_drawp (n:=6) [0,1,2,3,4,5,6,7,8,10,9,11] [(0,0),(1,0),(2,0),(3,0),(4,0),(5,0),(6,1),(7,0),(8,0),(9,0),(10,0),(11,0)];kernel_rfl)|(apply GP_pv;exact rfl;kernel_rfl;(iterate 3 exact rfl))|(apply GP_loadB;exact rfl;kernel_rfl;(iterate 3 exact rfl);exact QM;exact rfl;exact rfl)|(apply GP_ov;exact rfl;kernel_rfl;exact rfl;exact rfl;(first|(apply OV_idxS (j:=0) (n:=R.1.n);(iterate 5 exact rfl);exact a0;omega;omega)|(apply OV_load;exact rfl;first|exact Lv_ro rfl (rc.le (by first|exact Le.refl _|assumption|(repeat (first|assumption|(apply Le.trans;assumption))))) rfl|exact Lv_ro rfl (c0.le (by first|exact Le.refl _|assumption|(repeat (first|assumption|(apply Le.trans;assumption))))) rfl));exact QA)|(apply GP_real;exact rfl;kernel_rfl;(iterate 3 exact rfl);(first|(apply OpTo_res;exact rfl;exact has26;exact hwn _ (by first|exact Le.refl _|assumption|(repeat (first|assumption|(apply Le.trans;assumption))));rintro v3 h3 hle3 rfl;refine ⟨hle3,QN,?_⟩)))|(apply GP_done;kernel_rfl;exact rfl)|(apply GO_cond;exact rfl;all_goals (intro hc;try simp only [hcS,reduceCtorEq] at hc;try (exfalso;omega))))
    all_goals first
      | (exfalso;simp at hc;done)
      | (exfalso;omega)
      | (exact GO_retR3 rfl rfl rfl rfl rfl rfl)
  | some w =>
    rw [hwd] at hE
    dsimp only at hE
    rw [winV_some hwd] at hwn
    rw [hE]
    dsimp only
    repeat' (first|apply GO_seq|apply GO_skip|apply GO_region|apply GOl_nil|(apply GOl_sub;(iterate 3 exact rfl);omega;exact rfl;exact rfl)|(apply GOl_pv;(iterate 3 exact rfl))|(apply GOl_load;exact rfl;exact Ld_blk rfl QM rfl;exact rfl;exact rfl)|(apply GOl_ov;exact rfl;exact rfl;(first|(apply OV_idxS (j:=s.n - 1) (n:=s.n);(iterate 5 exact rfl);exact ra;omega;omega)|(apply OV_load;exact rfl;first|exact Lv_ro rfl (rc.le (by first|exact Le.refl _|assumption|(repeat (first|assumption|(apply Le.trans;assumption))))) rfl|exact Lv_ro rfl (c0.le (by first|exact Le.refl _|assumption|(repeat (first|assumption|(apply Le.trans;assumption))))) rfl));exact QA)|(apply GOl_to;(iterate 3 exact rfl);(first|(apply OpTo_box;exact rfl;intro b;skip)|(apply OpTo_res;exact rfl;exact has44;exact hck _ (by first|exact Le.refl _|assumption|(repeat (first|assumption|(apply Le.trans;assumption))));rintro v2 h2 hle2 rfl;skip)))|(apply GO_drawp (n:=6) [0,1,2,3,4,5,6,7,8,10,9,11] [(0,0),(1,0),(2,0),(3,0),(4,0),(5,0),(6,1),(7,0),(8,0),(9,0),(10,0),(11,0)];kernel_rfl)|(apply GP_pv;exact rfl;kernel_rfl;(iterate 3 exact rfl))|(apply GP_loadB;exact rfl;kernel_rfl;(iterate 3 exact rfl);exact QM;exact rfl;exact rfl)|(apply GP_ov;exact rfl;kernel_rfl;exact rfl;exact rfl;(first|(apply OV_idxS (j:=0) (n:=R.1.n);(iterate 5 exact rfl);exact a0;omega;omega)|(apply OV_load;exact rfl;first|exact Lv_ro rfl (rc.le (by first|exact Le.refl _|assumption|(repeat (first|assumption|(apply Le.trans;assumption))))) rfl|exact Lv_ro rfl (c0.le (by first|exact Le.refl _|assumption|(repeat (first|assumption|(apply Le.trans;assumption))))) rfl));exact QA)|(apply GP_real;exact rfl;kernel_rfl;(iterate 3 exact rfl);(first|(apply OpTo_res;exact rfl;exact has26;exact hwn _ (by first|exact Le.refl _|assumption|(repeat (first|assumption|(apply Le.trans;assumption))));rintro v3 h3 hle3 rfl;refine ⟨hle3,QN,?_⟩)))|(apply GP_done;kernel_rfl;exact rfl)|(apply GO_cond;exact rfl;all_goals (intro hc;try simp only [hcS,reduceCtorEq] at hc;try (exfalso;omega))))
    all_goals first
      | (exfalso;simp at hc;done)
      | (exfalso;omega)
      | (exact GO_retR3 rfl rfl rfl rfl rfl rfl)
theorem entrants0_c (h : Ro) (s co : Int) : Val Tryz.prog 56 #[.slice none 0 0,.int .i64 s,.int .i64 co] h (.tuple #[.agg (partL ty93.zero).toArray,.bool false]):=by
  refine Val_intro (args:=[_,_,_]) ts_ok Go.Proofs.Tryz.func56 rfl rfl fun w0 X0 => ?_
  repeat' (first|apply GO_seq|apply GO_block|apply GO_region|apply GOl_nil|(apply GO_exit;exact rfl)|(apply GO_loop)|(apply GOl_pv;(iterate 3 exact rfl))|(apply GOl_load;exact rfl;exact Ld_blk rfl QM rfl;exact rfl;exact rfl)|(apply GOl_to;(iterate 3 exact rfl);(first|(apply OpTo_store;(iterate 3 exact rfl);exact QR;(iterate 3 exact rfl);skip)|(apply OpTo_alloc;exact rfl;intro b;skip)))|(apply GO_cond;exact rfl;all_goals (intro hc;try simp only [hcS,reduceCtorEq] at hc;try (exfalso;omega))))
  all_goals first
    | (exfalso;omega)
    | (first|(apply GO_retC2;(iterate 3 exact rfl);exact QM;(iterate 3 exact rfl)))
  all_goals rfl
theorem view0_c (h : Ro) (s co : Int) (t : FTie) (ht : IsTie t) : Val Tryz.prog 25 #[.slice none 0 0,.int .i64 s,.int .i64 co,tieV t] h (.tuple #[brV sli0 tie0,.int .i64 190]):=by
  refine Val_intro (args:=[_,_,_,_]) ts_ok Go.Proofs.Tryz.func25 rfl rfl fun w0 X0 => ?_
  have hr:=isRules_c h t
  rw [decide_eq_true ht] at hr
  have he:=entrants0_c h s co
  repeat' (first|apply GO_seq|apply GO_skip|apply GO_region|apply GOl_nil|(apply GOl_unwanted;exact rfl;exact rfl)|(apply GOl_pv;(iterate 3 exact rfl))|(apply GOl_load;exact rfl;exact Ld_blk rfl QM rfl;exact rfl;exact rfl)|(apply GOl_to;(iterate 3 exact rfl);(first|(apply OpTo_store;(iterate 3 exact rfl);exact QR;(iterate 3 exact rfl);skip)|(apply OpTo_box;exact rfl;intro b;skip)|(apply OpTo_alloc;exact rfl;intro b;skip)|(apply OpTo_val;exact rfl;exact has28;exact hr;skip)|(apply OpTo_val;exact rfl;exact has56;exact he;skip)))|(apply GO_cond;exact rfl;all_goals (intro hc;try simp only [hcS,reduceCtorEq] at hc;try (exfalso;omega)))|(apply GOl_split;exact rfl;exact rfl;all_goals (intro hc;try simp only [hcS,reduceCtorEq] at hc;try (exfalso;omega))))
  all_goals first
    | (exfalso;simp at hc;done)
    | (exact GO_retC2 rfl rfl rfl QM rfl rfl rfl rfl)
    | (fail)
end Go.Hw

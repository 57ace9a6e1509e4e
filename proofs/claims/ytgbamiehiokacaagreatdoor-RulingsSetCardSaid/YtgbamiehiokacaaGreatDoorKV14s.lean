import Derived.Test.YtgbamiehiokacaaGreatDoorKV14
set_option linter.unusedVariables false
set_option linter.unusedSimpArgs false
set_option maxRecDepth 100000
set_option maxHeartbeats 8000000
namespace Go.Hw
open Go
attribute [local irreducible] GO GOl GDp Val Fn Res CellsAt ValE Blk OwnS MapA OwnPf Has Yl SepA forceL idF voidL
open Go.Proofs (Tryz.prog)
theorem sameRu_c (h : Ro) (A : Option Addr) (n c : Nat) (l : List FRul) (hx : SlOf rulC 17 h A n l) (hn : n ≤ 1000000) (B : Option Addr) (m d : Nat) (r : List FRul) (hy : SlOf rulC 17 h B m r) (hlr : l = r) :
    Val Tryz.prog 21 #[.slice A n c,.slice B m d] h (.bool true):=by
  refine Val_intro (args:=[_,_]) ts_ok Go.Proofs.Tryz.func21 rfl rfl fun w0 X0 => ?_
  subst hlr
  have hlen:=hx.len
  have hlen2:=hy.len
  have hnm : m = n:=by omega
  subst hnm
  repeat' (first|apply GO_seq|apply GO_skip|apply GO_block|apply GO_region|apply GOl_nil|(apply GOl_pv;(iterate 3 exact rfl))|(apply GO_cond;exact rfl;all_goals (intro hc;try simp only [hcS,reduceCtorEq] at hc;try (exfalso;omega))))
  all_goals (try (exfalso;omega))
  refine GO_loopT (X:=Nat) (fun k => k ≤ m) (fun k => m - k) (fun k => [(5,.int .i64 k),(0,.slice A m c),(1,.slice B m d)]) (fun _ => []) (fun _ => h) 0 (by omega) QS QT rfl ?_
  rintro k hk ih
  by_cases hkn : k < m
  · have a1:=hx.addrD hkn
    have c1 : CellsAt h ((addrD A).add (k * ty44.size)) (rulC (l.getD k rul0)):=hx.cellsD rul0 hkn
    have a2:=hy.addrD hkn
    have c2 : CellsAt h ((addrD B).add (k * ty44.size)) (rulC (l.getD k rul0)):=hy.cellsD rul0 hkn
    generalize l.getD k rul0 = x at *
    have h3:=ih (k + 1) (by omega) (by omega)
    have hre:=rul_eq x x
    rw [decide_eq_true rfl] at hre
    repeat' (first|apply GO_seq|apply GO_skip|apply GO_inBlock|apply GO_block|apply GO_region|apply GOl_nil|(apply GOl_add;(iterate 3 exact rfl);omega;exact rfl;exact rfl)|(apply GOl_pv;(iterate 3 exact rfl))|(apply GO_drawp (n:=6) [0,1,2,3,4,5,6,7,8] [(0,0),(1,0),(2,0),(3,0),(4,0),(5,0),(6,0),(7,0),(8,0)];kernel_rfl)|(apply GP_pv;exact rfl;kernel_rfl;(iterate 3 exact rfl))|(apply GP_ov;exact rfl;kernel_rfl;exact rfl;exact rfl;(first|(first|(apply OV_idxS (j:=k) (A:=A);(iterate 5 exact rfl);exact a1;(with_reducible exact rfl);omega)|(apply OV_idxS (j:=k) (A:=B);(iterate 5 exact rfl);exact a2;(with_reducible exact rfl);omega))|(first|(apply OV_load;exact rfl;apply Lv_ro;exact rfl;(with_reducible exact c1);exact rfl)|(apply OV_load;exact rfl;apply Lv_ro;exact rfl;(with_reducible exact c2);exact rfl))|(apply OV_neqS;exact rfl;exact rfl;exact hre;kernel_rfl;kernel_rfl));exact QA)|(apply GP_done;kernel_rfl;exact rfl)|(apply GO_cond;exact rfl;all_goals (intro hc;try simp only [hcS,reduceCtorEq] at hc;try (exfalso;omega))))
    all_goals first
      | (exfalso;omega)
      | (exfalso;simp at hc;done)
      | (refine GO_fit QS QT (h3))
  · clear ih
    repeat' (first|apply GO_seq|apply GO_region|apply GOl_nil|(apply GO_exit;exact rfl)|(apply GOl_pv;(iterate 3 exact rfl))|(apply GO_cond;exact rfl;all_goals (intro hc;try simp only [hcS,reduceCtorEq] at hc;try (exfalso;omega)))|(apply GO_retV1;(iterate 3 exact rfl)))
    all_goals rfl
theorem sameDg_c (h : Ro) (A : Option Addr) (n c : Nat) (l : List (List UInt8)) (hx : SlOf voidC 32 h A n l) (hn : n ≤ 1000000) (B : Option Addr) (m d : Nat) (r : List (List UInt8)) (hy : SlOf voidC 32 h B m r) (hlr : l = r) (h32 : ∀ x ∈ l,x.length = 32) :
    Val Tryz.prog 19 #[.slice A n c,.slice B m d] h (.bool true):=by
  refine Val_intro (args:=[_,_]) ts_ok Go.Proofs.Tryz.func19 rfl rfl fun w0 X0 => ?_
  subst hlr
  have hlen:=hx.len
  have hlen2:=hy.len
  have hnm : m = n:=by omega
  subst hnm
  repeat' (first|apply GO_seq|apply GO_skip|apply GO_block|apply GO_region|apply GOl_nil|(apply GOl_pv;(iterate 3 exact rfl))|(apply GO_cond;exact rfl;all_goals (intro hc;try simp only [hcS,reduceCtorEq] at hc;try (exfalso;omega))))
  all_goals (try (exfalso;omega))
  refine GO_loopT (X:=Nat) (fun k => k ≤ m) (fun k => m - k) (fun k => [(5,.int .i64 k),(0,.slice A m c),(1,.slice B m d)]) (fun _ => []) (fun _ => h) 0 (by omega) QS QT rfl ?_
  rintro k hk ih
  by_cases hkn : k < m
  · have a1:=hx.addrD hkn
    have c1 : CellsAt h ((addrD A).add (k * ty52.size)) (voidC (l.getD k [])):=hx.cellsD [] hkn
    have a2:=hy.addrD hkn
    have c2 : CellsAt h ((addrD B).add (k * ty52.size)) (voidC (l.getD k [])):=hy.cellsD [] hkn
    have hv:=h32 _ (getD_mem [] (show k < l.length by omega))
    generalize l.getD k [] = x at *
    have h3:=ih (k + 1) (by omega) (by omega)
    repeat' (first|apply GO_seq|apply GO_skip|apply GO_inBlock|apply GO_block|apply GO_region|apply GOl_nil|(apply GOl_add;(iterate 3 exact rfl);omega;exact rfl;exact rfl)|(apply GOl_pv;(iterate 3 exact rfl))|(apply GO_drawp (n:=6) [0,1,2,3,4,5,6,7,8] [(0,0),(1,0),(2,0),(3,0),(4,0),(5,0),(6,0),(7,0),(8,0)];kernel_rfl)|(apply GP_pv;exact rfl;kernel_rfl;(iterate 3 exact rfl))|(apply GP_ov;exact rfl;kernel_rfl;exact rfl;exact rfl;(first|(first|(apply OV_idxS (j:=k) (A:=A);(iterate 5 exact rfl);exact a1;(with_reducible exact rfl);omega)|(apply OV_idxS (j:=k) (A:=B);(iterate 5 exact rfl);exact a2;(with_reducible exact rfl);omega))|(first|(apply OV_load;exact rfl;apply Lv_ro;exact rfl;(with_reducible exact c1);exact rfl)|(apply OV_load;exact rfl;apply Lv_ro;exact rfl;(with_reducible exact c2);exact rfl))|(apply OV_neqR;exact rfl;exact rfl;(exact Option.isSome_iff_exists.2 ⟨_,void_eq x x hv hv⟩);kernel_rfl;kernel_rfl));exact QA)|(apply GP_done;kernel_rfl;exact rfl)|(apply GO_cond;exact rfl;all_goals (intro hc;try simp only [hcS,reduceCtorEq] at hc;try (exfalso;omega))))
    all_goals first
      | (exfalso;omega)
      | (exfalso;simp at hc;done)
      | (refine GO_fit QS QT (h3))
  · clear ih
    repeat' (first|apply GO_seq|apply GO_region|apply GOl_nil|(apply GO_exit;exact rfl)|(apply GOl_pv;(iterate 3 exact rfl))|(apply GO_cond;exact rfl;all_goals (intro hc;try simp only [hcS,reduceCtorEq] at hc;try (exfalso;omega)))|(apply GO_retV1;(iterate 3 exact rfl)))
    all_goals rfl
theorem ivl_eq10 (a b : Ivl) : eqD ts 10 42 (.agg (encV a).toArray) (.agg (encV b).toArray) = some (decide (a = b)):=by
  have e : eqD ts 10 42 (.agg (encV a).toArray) (.agg (encV b).toArray) = some (eqI a.lo b.lo && (eqI a.hi b.hi && true)):=rfl
  rw [e];congr 1;refine dec_of ?_;simp only [Bool.and_eq_true,eqI_t,and_true];cases a;cases b;simp
theorem sameDa_c (h : Ro) (A : Option Addr) (n c : Nat) (l : List Ivl) (hx : SlOf encV 2 h A n l) (hn : n ≤ 1000000) (B : Option Addr) (m d : Nat) (r : List Ivl) (hy : SlOf encV 2 h B m r) (hlr : l = r) :
    Val Tryz.prog 27 #[.slice A n c,.slice B m d] h (.bool true):=by
  refine Val_intro (args:=[_,_]) ts_ok Go.Proofs.Tryz.func27 rfl rfl fun w0 X0 => ?_
  subst hlr
  have hlen:=hx.len
  have hlen2:=hy.len
  have hnm : m = n:=by omega
  subst hnm
  repeat' (first|apply GO_seq|apply GO_skip|apply GO_block|apply GO_region|apply GOl_nil|(apply GOl_pv;(iterate 3 exact rfl))|(apply GO_cond;exact rfl;all_goals (intro hc;try simp only [hcS,reduceCtorEq] at hc;try (exfalso;omega))))
  all_goals (try (exfalso;omega))
  refine GO_loopT (X:=Nat) (fun k => k ≤ m) (fun k => m - k) (fun k => [(5,.int .i64 k),(0,.slice A m c),(1,.slice B m d)]) (fun _ => []) (fun _ => h) 0 (by omega) QS QT rfl ?_
  rintro k hk ih
  by_cases hkn : k < m
  · have a1:=hx.addrD hkn
    have c1 : CellsAt h ((addrD A).add (k * ty42.size)) (encV (l.getD k ⟨0,0⟩)):=hx.cellsD ⟨0,0⟩ hkn
    have a2:=hy.addrD hkn
    have c2 : CellsAt h ((addrD B).add (k * ty42.size)) (encV (l.getD k ⟨0,0⟩)):=hy.cellsD ⟨0,0⟩ hkn
    generalize l.getD k ⟨0,0⟩ = x at *
    have h3:=ih (k + 1) (by omega) (by omega)
    have hre:=ivl_eq10 x x
    rw [decide_eq_true rfl] at hre
    repeat' (first|apply GO_seq|apply GO_skip|apply GO_inBlock|apply GO_block|apply GO_region|apply GOl_nil|(apply GOl_add;(iterate 3 exact rfl);omega;exact rfl;exact rfl)|(apply GOl_pv;(iterate 3 exact rfl))|(apply GO_drawp (n:=6) [0,1,2,3,4,5,6,7,8] [(0,0),(1,0),(2,0),(3,0),(4,0),(5,0),(6,0),(7,0),(8,0)];kernel_rfl)|(apply GP_pv;exact rfl;kernel_rfl;(iterate 3 exact rfl))|(apply GP_ov;exact rfl;kernel_rfl;exact rfl;exact rfl;(first|(first|(apply OV_idxS (j:=k) (A:=A);(iterate 5 exact rfl);exact a1;(with_reducible exact rfl);omega)|(apply OV_idxS (j:=k) (A:=B);(iterate 5 exact rfl);exact a2;(with_reducible exact rfl);omega))|(first|(apply OV_load;exact rfl;apply Lv_ro;exact rfl;(with_reducible exact c1);exact rfl)|(apply OV_load;exact rfl;apply Lv_ro;exact rfl;(with_reducible exact c2);exact rfl))|(apply OV_neqS;exact rfl;exact rfl;exact hre;kernel_rfl;kernel_rfl));exact QA)|(apply GP_done;kernel_rfl;exact rfl)|(apply GO_cond;exact rfl;all_goals (intro hc;try simp only [hcS,reduceCtorEq] at hc;try (exfalso;omega))))
    all_goals first
      | (exfalso;omega)
      | (exfalso;simp at hc;done)
      | (refine GO_fit QS QT (h3))
  · clear ih
    repeat' (first|apply GO_seq|apply GO_region|apply GOl_nil|(apply GO_exit;exact rfl)|(apply GOl_pv;(iterate 3 exact rfl))|(apply GO_cond;exact rfl;all_goals (intro hc;try simp only [hcS,reduceCtorEq] at hc;try (exfalso;omega)))|(apply GO_retV1;(iterate 3 exact rfl)))
    all_goals rfl
end Go.Hw

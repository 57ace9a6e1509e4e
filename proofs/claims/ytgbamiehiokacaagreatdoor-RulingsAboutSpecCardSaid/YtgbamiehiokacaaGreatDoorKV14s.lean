import Derived.Test.YtgbamiehiokacaaGreatDoorKV14
set_option linter.unusedVariables false
set_option linter.unusedSimpArgs false
set_option maxRecDepth 100000
set_option maxHeartbeats 8000000
namespace Go.Hw
open Go
attribute [local irreducible] GO GOl GDp Val Fn Res CellsAt ValE Blk OwnS MapA OwnPf Has Yl SepA forceL idF voidL
open Go.Proofs (Tryz.prog)
theorem sameDg_c (h : Ro) (A : Option Addr) (n c : Nat) (l : List (List UInt8)) (hx : SlOf voidC 32 h A n l) (hn : n ≤ 1000000) (B : Option Addr) (m d : Nat) (r : List (List UInt8)) (hy : SlOf voidC 32 h B m r) (hlr : l = r) (h32 : ∀ x ∈ l,x.length = 32) :
 Val Tryz.prog 19 #[.slice A n c,.slice B m d] h (.bool true):=by
 refine Au (args:=[_,_]) ts_ok Go.Proofs.Tryz.func19 rfl rfl fun w0 X0 => ?_
 subst hlr
 have hlen:=hx.len
 have hlen2:=hy.len
 have hnm : m = n:=by omega
 subst hnm
 repeat' (first|apply Ad|apply Ap|apply Ag|apply Aa|apply Ab|(apply Ac;(iterate 3 exact J))|(apply Af;exact J;all_goals (intro hc;try simp only [hcS,reduceCtorEq] at hc;try (exfalso;omega))))
 all_goals (try (exfalso;omega))
 refine Bh (X:=Nat) (fun k => k ≤ m) (fun k => m - k) (fun k => [(5,.int .i64 k),(0,.slice A m c),(1,.slice B m d)]) (fun _ => []) (fun _ => h) 0 (by omega) QS QT rfl ?_
 rintro k hk ih
 by_cases hkn : k < m
 · have a1:=hx.addrD hkn
   have c1 : CellsAt h ((addrD A).add (k * ty52.size)) (voidC (l.getD k [])):=hx.cellsD [] hkn
   have a2:=hy.addrD hkn
   have c2 : CellsAt h ((addrD B).add (k * ty52.size)) (voidC (l.getD k [])):=hy.cellsD [] hkn
   have hv:=h32 _ (Dt [] (show k < l.length by omega))
   generalize l.getD k [] = x at *
   have h3:=ih (k + 1) (by omega) (by omega)
   repeat' (first|apply Ad|apply Ap|apply Ah|apply Ag|apply Aa|apply Ab|(apply Be;(iterate 3 exact J);omega;exact J;exact J)|(apply Ac;(iterate 3 exact J))|(apply Ba (n:=6) [0,1,2,3,4,5,6,7,8] [(0,0),(1,0),(2,0),(3,0),(4,0),(5,0),(6,0),(7,0),(8,0)];kernel_rfl)|(apply Cb;exact J;kernel_rfl;(iterate 3 exact J))|(apply Cg;exact J;kernel_rfl;exact J;exact J;(first|(first|(apply Bb (j:=k) (A:=A);(iterate 5 exact J);exact a1;(with_reducible exact J);omega)|(apply Bb (j:=k) (A:=B);(iterate 5 exact J);exact a2;(with_reducible exact J);omega))|(first|(apply Aw;exact J;apply Bp;exact J;(with_reducible exact c1);exact J)|(apply Aw;exact J;apply Bp;exact J;(with_reducible exact c2);exact J))|(apply OV_neqR;exact J;exact J;(exact Option.isSome_iff_exists.2 ⟨_,Qw x x hv hv⟩);kernel_rfl;kernel_rfl));exact QA)|(apply Bj;kernel_rfl;exact J)|(apply Af;exact J;all_goals (intro hc;try simp only [hcS,reduceCtorEq] at hc;try (exfalso;omega))))
   all_goals first
    | (exfalso;omega)
    | (exfalso;simp at hc;done)
    | (refine Bm QS QT (h3))
 · clear ih
   repeat' (first|apply Ad|apply Aa|apply Ab|(apply Bi;exact J)|(apply Ac;(iterate 3 exact J))|(apply Af;exact J;all_goals (intro hc;try simp only [hcS,reduceCtorEq] at hc;try (exfalso;omega)))|(apply Av;(iterate 3 exact J)))
   all_goals rfl
theorem ivl_eq10 (a b : Ivl) : eqD ts 10 42 (.agg (encV a).toArray) (.agg (encV b).toArray) = some (decide (a = b)):=by
 have e : eqD ts 10 42 (.agg (encV a).toArray) (.agg (encV b).toArray) = some (eqI a.lo b.lo && (eqI a.hi b.hi && true)):=rfl
 rw [e];congr 1;refine Iq ?_;simp only [Bool.and_eq_true,Ga,and_true];cases a;cases b;simp
theorem sameDa_c (h : Ro) (A : Option Addr) (n c : Nat) (l : List Ivl) (hx : SlOf encV 2 h A n l) (hn : n ≤ 1000000) (B : Option Addr) (m d : Nat) (r : List Ivl) (hy : SlOf encV 2 h B m r) (hlr : l = r) :
 Val Tryz.prog 27 #[.slice A n c,.slice B m d] h (.bool true):=by
 refine Au (args:=[_,_]) ts_ok Go.Proofs.Tryz.func27 rfl rfl fun w0 X0 => ?_
 subst hlr
 have hlen:=hx.len
 have hlen2:=hy.len
 have hnm : m = n:=by omega
 subst hnm
 repeat' (first|apply Ad|apply Ap|apply Ag|apply Aa|apply Ab|(apply Ac;(iterate 3 exact J))|(apply Af;exact J;all_goals (intro hc;try simp only [hcS,reduceCtorEq] at hc;try (exfalso;omega))))
 all_goals (try (exfalso;omega))
 refine Bh (X:=Nat) (fun k => k ≤ m) (fun k => m - k) (fun k => [(5,.int .i64 k),(0,.slice A m c),(1,.slice B m d)]) (fun _ => []) (fun _ => h) 0 (by omega) QS QT rfl ?_
 rintro k hk ih
 by_cases hkn : k < m
 · have a1:=hx.addrD hkn
   have c1 : CellsAt h ((addrD A).add (k * ty42.size)) (encV (l.getD k ⟨0,0⟩)):=hx.cellsD ⟨0,0⟩ hkn
   have a2:=hy.addrD hkn
   have c2 : CellsAt h ((addrD B).add (k * ty42.size)) (encV (l.getD k ⟨0,0⟩)):=hy.cellsD ⟨0,0⟩ hkn
   generalize l.getD k ⟨0,0⟩ = x at *
   have h3:=ih (k + 1) (by omega) (by omega)
   have hre:=ivl_eq10 x x
   rw [decide_eq_true rfl] at hre
   repeat' (first|apply Ad|apply Ap|apply Ah|apply Ag|apply Aa|apply Ab|(apply Be;(iterate 3 exact J);omega;exact J;exact J)|(apply Ac;(iterate 3 exact J))|(apply Ba (n:=6) [0,1,2,3,4,5,6,7,8] [(0,0),(1,0),(2,0),(3,0),(4,0),(5,0),(6,0),(7,0),(8,0)];kernel_rfl)|(apply Cb;exact J;kernel_rfl;(iterate 3 exact J))|(apply Cg;exact J;kernel_rfl;exact J;exact J;(first|(first|(apply Bb (j:=k) (A:=A);(iterate 5 exact J);exact a1;(with_reducible exact J);omega)|(apply Bb (j:=k) (A:=B);(iterate 5 exact J);exact a2;(with_reducible exact J);omega))|(first|(apply Aw;exact J;apply Bp;exact J;(with_reducible exact c1);exact J)|(apply Aw;exact J;apply Bp;exact J;(with_reducible exact c2);exact J))|(apply Ll;exact J;exact J;exact hre;kernel_rfl;kernel_rfl));exact QA)|(apply Bj;kernel_rfl;exact J)|(apply Af;exact J;all_goals (intro hc;try simp only [hcS,reduceCtorEq] at hc;try (exfalso;omega))))
   all_goals first
    | (exfalso;omega)
    | (exfalso;simp at hc;done)
    | (refine Bm QS QT (h3))
 · clear ih
   repeat' (first|apply Ad|apply Aa|apply Ab|(apply Bi;exact J)|(apply Ac;(iterate 3 exact J))|(apply Af;exact J;all_goals (intro hc;try simp only [hcS,reduceCtorEq] at hc;try (exfalso;omega)))|(apply Av;(iterate 3 exact J)))
   all_goals rfl
end Go.Hw

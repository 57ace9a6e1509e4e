import Derived.Test.YtgbamiehiokacaaGreatDoorKT3
import Derived.Test.YtgbamiehiokacaaGreatDoorDB
import Derived.Test.YtgbamiehiokacaaGreatDoorRD
set_option linter.unusedVariables false
set_option linter.unusedSimpArgs false
set_option maxRecDepth 100000
set_option maxHeartbeats 4000000
namespace Go.Hw
open Go
attribute [local irreducible] GO GOl GDp Val Fn Res CellsAt ValE Blk OwnS MapA OwnPf Has sumF
open Go.Proofs (Tryz.prog)
theorem taggedR_c (h : Ro) (tag : List UInt8) (ht : tag.length ≤ 1000) (A : Option Addr) (n c : Nat) (x : List UInt8) (hx : SlOf encB 1 h A n x) (hn : n ≤ 40000000) : Res Tryz.prog 118 #[.string (str tag),.slice A n c] h fun u _ => u = dgV (digF tag x):=by
 refine Bn (args:=[_,_]) ts_ok Go.Proofs.Tryz.func118 rfl rfl fun w0 X0 => ?_
 have hxl:=hx.len
 obtain ⟨P,hP⟩ : ∃ P,P = (sumF tag).map u8V:=⟨_,rfl⟩
 have hPl : P.length = 32:=by rw [hP,List.length_map,Fo]
 have hP1 : allOne P = true:=by rw [hP];exact Qc _
 have hPv : dgV (sumF tag) = .agg P.toArray:=by rw [hP];rfl
 repeat' (first|apply Ad|apply Aa|apply Ab|(apply Ac;(iterate 3 exact J))|(apply Bc;exact J;exact J;(first|(apply Hh;(iterate 4 exact J)));exact QA)|(apply Aj;(iterate 3 exact J);(first|(apply Cn (cs':=P);(iterate 3 exact J);exact QR;(first|exact hPl.symm|(rw [hPl];rfl));exact hPl;exact hP1;skip)|(apply At;exact J;intro b;skip)|(apply Hg;(iterate 6 exact J);omega;intro A1 c1 h1 hle1 hs1;skip)|(apply Bf;exact J;exact has195;exact sumR_c _ A1 _ c1 tag hs1 (by omega);rw [hPv];rintro v2 h2 hle2 rfl;skip)|(apply Bw (n:=0);(iterate 3 exact J);exact List.cons_ne_nil _ _;(iterate 6 exact J);intro b5;skip))))
 rename_i bo
 generalize b = bt
 refine Tb (b:=bt) (e:=52) (cs:=P) QK ?_
 intro h3 hle3 hc3
 have hs3 : SlOf encB 1 h3 (some ⟨bt,0,none⟩) 32 (sumF tag):=SlOf.of_flat (fun _ => rfl) (Fo tag) (by rw [map_u8,← hP];exact hc3)
 have hdl : (digF tag x) = sumF (sumF tag ++ x):=rfl
 obtain ⟨R,hR⟩ : ∃ R,R = (digF tag x).map u8V:=⟨_,rfl⟩
 have hRl : R.length = 32:=by rw [hR,List.length_map,Se]
 have hR1 : allOne R = true:=by rw [hR];exact Qc _
 have hRv : dgV (digF tag x) = .agg R.toArray:=by rw [hR];rfl
 repeat' (first|apply Ab|(apply Ac;(iterate 3 exact J))|(apply Aj;(iterate 3 exact J);(first|(apply Cn (cs':=R);(iterate 3 exact J);exact QR;(first|exact hRl.symm|(rw [hRl];rfl));exact hRl;exact hR1;skip)|(apply Bo (enc:=encB) (n:=0) (xs:=[]) (ys:=sumF tag);(iterate 7 exact J);exact (hs3.le QL);exact (fun _ => rfl);exact (fun _ => Bz rfl);intro v1;exact QR;omega;exact J;intro A7 c7;skip)|(apply Fa (enc:=encB) (n:=0 + 32) (xs:=[] ++ sumF tag) (ys:=x);(iterate 7 exact J);exact (hx.le QL);exact (fun _ => rfl);exact (fun _ => Bz rfl);exact QK;(rw [List.nil_append,Fo]);omega;exact J;intro A8 c8 h8 hle8 hnc8 hs8;skip)|(apply Bf;exact J;exact has195;exact sumR_c _ A8 _ c8 ([] ++ sumF tag ++ x) (hs8.le QL) (by omega);rw [List.nil_append,← hdl,hRv];rintro v2 h2 hle2 rfl;skip))))
 all_goals exact Cu rfl rfl rfl QM rfl (Dx hRl) rfl
theorem idR_c (h : Ro) (s : Fsh) (f : Fct) (hf : FAt h s f) (hs : FSm f) (hok : FctOk f) : Res Tryz.prog 58 #[factV s f] h fun u _ => u = .tuple #[dgV (idF f),.int .i64 0]:=by
 refine Bn (args:=[_]) ts_ok Go.Proofs.Tryz.func58 rfl rfl fun w0 X0 => ?_
 have hel:=Sd f hok hf.void
 obtain ⟨R,hR⟩ : ∃ R,R = (idF f).map u8V:=⟨_,rfl⟩
 have hRl : R.length = 32:=by rw [hR,List.length_map,Iv]
 have hR1 : allOne R = true:=by rw [hR];exact Qc _
 have hRv : dgV (idF f) = .agg R.toArray:=by rw [hR];rfl
 have hid : digF [102,97,99,116] (encF f) = idF f:=rfl
 rw [hRv]
 repeat' (first|apply Ad|apply Ap|apply Aa|apply Ab|(apply Ac;(iterate 3 exact J))|(apply Aq;exact J;exact Bd rfl QM rfl;exact J;exact J)|(apply Aj;(iterate 3 exact J);(first|(apply Cn (cs':=R);(iterate 3 exact J);exact QR;(first|exact hRl.symm|(rw [hRl];rfl));exact hRl;exact hR1;skip)|(apply Ay;exact J;intro b;skip)|(apply At;exact J;intro b;skip)|(apply Bf;exact J;exact has117;exact La _ s f (hf.le QL) hs hok;rintro v2 h2 hle2 ⟨A2,c2,rfl,hr2⟩;skip)|(apply Bf;exact J;exact has118;exact taggedR_c _ [102,97,99,116] (by decide) A2 _ c2 (encF f) hr2 (by omega);rw [hid,hRv];rintro v3 h3 hle3 rfl;skip)))|(apply Af;exact J;all_goals (intro hc;try simp only [hcS,reduceCtorEq] at hc;try (exfalso;omega))))
 all_goals first
  | (exfalso;omega)
  | (exact Ox rfl rfl rfl QM rfl (Dx hRl) rfl rfl)
end Go.Hw

import Derived.Test.YtgbamiehiokacaaGreatDoorVF
import Derived.Test.YtgbamiehiokacaaGreatDoorVD
import Derived.Test.YtgbamiehiokacaaGreatDoorVE
set_option linter.unusedVariables false
set_option linter.unusedSimpArgs false
set_option maxRecDepth 100000
set_option maxHeartbeats 8000000
namespace Go.Hw
open Go
attribute [local irreducible] GO GOl GDp Val Fn Res CellsAt ValE Blk OwnS MapA OwnPf Has Yl SepA forceL idF voidL
open Go.Proofs (Tryz.prog)
theorem PointsR_c (h : Ro) (A : Option Addr) (n c : Nat) (l : List (Fsh × Fct)) (hx : FactsAt h A n l) (hn6 : n ≤ 65536) (s co cl : Int) : Res Tryz.prog 26 #[.slice A n c,.int .i64 s,.int .i64 co,.int .i64 cl] h (fun u _ => u = .int .i64 (pointsL (canonL (fcs l)) s co cl)):=by
 refine Bn (args:=[_,_,_,_]) ts_ok Go.Proofs.Tryz.func26 rfl rfl fun w0 X0 => ?_
 have hok : ∀ f ∈ canonL (fcs l),FctOk f:=fun f hf => (((Ck (fcs l) (Oq hx.fat)).2 f).1 hf).2
 have hpt:=Uz hok
 have hpe : pointsL (canonL (fcs l)) s co cl = sumQ s co cl ((forceL (canonL (fcs l))).map (·.ru)):=by unfold pointsL;rw [Yo]
 rw [hpe]
 have hfi:=fun h' (hl : Le h h') => Qr h' A n c l (hx.le hl) hn6
 obtain ⟨L,hL⟩ : ∃ L,L = (forceL (canonL (fcs l))).map (·.ru):=⟨_,rfl⟩
 rw [← hL] at hfi hpt ⊢
 clear hok hpe
 repeat' (first|apply Ad|apply Ag|apply Aa|apply Ab|(apply Ac;(iterate 3 exact J))|(apply Aj;(iterate 3 exact J);(first|(apply Bf;exact J;exact has67;exact hfi _ QL;rintro w1 h1 hle1 ⟨A3,c3,rl,rfl,hsl,rfl,hn3⟩;skip))))
 refine Bh (X:=Nat) (fun k => k ≤ rl.length) (fun k => rl.length - k)
  (fun k => [(11,.int .i64 k),(9,.slice A3 rl.length c3),(10,.int .i64 (sumQ s co cl (rl.take k))),(1,.int .i64 s),(2,.int .i64 co),(3,.int .i64 cl)])
  (fun _ => []) (fun _ => h1) 0 (by omega) QS QT rfl ?_
 rintro k hk ih
 have hb:=sumQ_bd (s:=s) (c:=co) (k:=cl) hpt k hk
 by_cases hkn : k < rl.length
 · have a1:=hsl.addrD hkn
   have cc : CellsAt h1 ((addrD A3).add (k * ty44.size)) (rulC (rl.getD k rul0)):=hsl.cellsD rul0 hkn
   have et:=Cq rul0 (xs:=rl) rfl hkn
   have hme:=hpt _ (Dt rul0 hkn)
   generalize rl.getD k rul0 = r at *
   have hsn:=Mv s co cl (rl.take k) r
   rw [← et] at hsn
   generalize sumQ s co cl (rl.take k) = q at *
   have h3:=ih (k + 1) (by omega) (by omega)
   by_cases hp : PtsOf s co cl r
   · rw [if_pos hp] at hsn
     obtain ⟨p1,p2,p3,p4⟩:=hp
     have hme2:=hme p1
     rw [hsn] at h3
     repeat' (first|apply Ad|apply Ap|apply Ah|apply Ag|apply Aa|apply Ab|(apply Be;(iterate 3 exact J);omega;exact J;exact J)|(apply Ac;(iterate 3 exact J))|(apply Bc;exact J;exact J;(first|(apply Bb (j:=k);(iterate 5 exact J);exact a1;(with_reducible exact J);omega)|(apply Aw;exact J;first|exact Bp rfl (by assumption) rfl|exact By rfl (by assumption) rfl|exact Bv rfl (by assumption) rfl|exact Lv_roF3 rfl (by assumption) rfl));exact QA)|(apply Af;exact J;all_goals (intro hc;try simp only [hcS,reduceCtorEq] at hc;try (exfalso;omega)))|(apply Bg;exact J;exact J;all_goals (intro hc;try simp only [hcS,reduceCtorEq] at hc;try (exfalso;omega))))
     all_goals first
      | (exfalso;omega)
      | contradiction
      | (refine Bm QS QT (h3))
   · rw [if_neg hp] at hsn
     rw [hsn] at h3
     have hp2 : ¬ (r.kind = 4 ∧ r.season = s ∧ r.comp = co ∧ r.club = cl):=hp
     repeat' (first|apply Ad|apply Ap|apply Ah|apply Ag|apply Aa|apply Ab|(apply Az;exact J;exact J)|(apply Be;(iterate 3 exact J);omega;exact J;exact J)|(apply Ac;(iterate 3 exact J))|(apply Bc;exact J;exact J;(first|(apply Bb (j:=k);(iterate 5 exact J);exact a1;(with_reducible exact J);omega)|(apply Aw;exact J;first|exact Bp rfl (by assumption) rfl|exact By rfl (by assumption) rfl|exact Bv rfl (by assumption) rfl|exact Lv_roF3 rfl (by assumption) rfl));exact QA)|(apply Af;exact J;all_goals (intro hc;try simp only [hcS,reduceCtorEq] at hc;try (exfalso;omega)))|(apply Bg;exact J;exact J;all_goals (intro hc;try simp only [hcS,reduceCtorEq] at hc;try (exfalso;omega))))
     all_goals first
      | (exfalso;omega)
      | (exfalso;exact hp2 ⟨by assumption,by assumption,by assumption,by assumption⟩)
      | (refine Bm QS QT (h3))
 · rw [List.take_of_length_le (by omega)]
   clear ih
   repeat' (first|apply Ad|apply Aa|apply Ab|(apply Bi;exact J)|(apply Ac;(iterate 3 exact J))|(apply Af;exact J;all_goals (intro hc;try simp only [hcS,reduceCtorEq] at hc;try (exfalso;omega))))
   all_goals first
    | (exfalso;omega)
    | (exact Ca rfl rfl rfl rfl)
theorem BansR_c (h : Ro) (A : Option Addr) (n c : Nat) (l : List (Fsh × Fct)) (hx : FactsAt h A n l) (hn6 : n ≤ 65536) (cl : Int) : Res Tryz.prog 29 #[.slice A n c,.int .i64 cl] h (fun u h' => ∃ A' c' ul,u = .slice A' ul.length c' ∧ SlOf encV 2 h' A' ul.length ul ∧ ul = bansL (canonL (fcs l)) cl ∧ ul.length ≤ 1000000):=by
 refine Bn (args:=[_,_]) ts_ok Go.Proofs.Tryz.func29 rfl rfl fun w0 X0 => ?_
 have hok : ∀ f ∈ canonL (fcs l),FctOk f:=fun f hf => (((Ck (fcs l) (Oq hx.fat)).2 f).1 hf).2
 have hbn:=Vb hok
 have hpe : bansL (canonL (fcs l)) cl = unionR (banQ cl ((forceL (canonL (fcs l))).map (·.ru))):=by unfold bansL;rw [Aoa]
 rw [hpe]
 have hfi:=fun h' (hl : Le h h') => Qr h' A n c l (hx.le hl) hn6
 obtain ⟨L,hL⟩ : ∃ L,L = (forceL (canonL (fcs l))).map (·.ru):=⟨_,rfl⟩
 rw [← hL] at hfi hbn ⊢
 clear hok hpe
 repeat' (first|apply Ad|apply Ag|apply Aa|apply Ab|(apply Ac;(iterate 3 exact J))|(apply Aj;(iterate 3 exact J);(first|(apply Bf;exact J;exact has67;exact hfi _ QL;rintro w1 h1 hle1 ⟨A3,c3,rl,rfl,hsl,rfl,hn3⟩;skip)|(apply Bw (n:=0);(iterate 3 exact J);exact List.cons_ne_nil _ _;(iterate 6 exact J);intro b8;skip))))
 refine Bh (X:=Nat × List Ivl × Option Addr × Nat × Ro) (fun x => x.1 ≤ rl.length ∧ Le h1 x.2.2.2.2 ∧ x.2.1 = banQ cl (rl.take x.1)) (fun x => rl.length - x.1)
  (fun x => [(7,.int .i64 x.1),(5,.slice A3 rl.length c3),(6,.slice x.2.2.1 x.2.1.length x.2.2.2.1),(1,.int .i64 cl)])
  (fun x => [OwnS 42 2 (.slice x.2.2.1 x.2.1.length x.2.2.2.1) x.2.1.length (x.2.1.flatMap encV)]) (fun x => x.2.2.2.2) (0,[],some ⟨b8,0,none⟩,0,h1) ⟨by dsimp only;omega,Le.refl _,rfl⟩ QS QT rfl ?_
 rintro ⟨k,out,A4,c4,hh⟩ ⟨hk,hle,ho⟩ ih
 dsimp only at hk hle ho ih ⊢
 have hol : out.length ≤ k:=by
  have:=Apa cl (rl.take k)
  rw [← ho,List.length_take] at this
  omega
 by_cases hkn : k < rl.length
 · have a1:=hsl.addrD hkn
   have cc : CellsAt hh ((addrD A3).add (k * ty44.size)) (rulC (rl.getD k rul0)):=(hsl.cellsD rul0 hkn).le hle
   have et:=Cq rul0 (xs:=rl) rfl hkn
   generalize rl.getD k rul0 = r at *
   have hsn:=Vr cl (rl.take k) r
   rw [← et,← ho] at hsn
   by_cases hp : r.kind = 5 ∧ r.club = cl
   · rw [if_pos hp] at hsn
     obtain ⟨p1,p2⟩:=hp
     repeat' (first|apply Ad|apply Ap|apply Ah|apply Ag|apply Aa|apply Ab|(apply Be;(iterate 3 exact J);omega;exact J;exact J)|(apply Ac;(iterate 3 exact J))|(apply Bc;exact J;exact J;(first|(apply Bb (j:=k);(iterate 5 exact J);exact a1;(with_reducible exact J);omega)|(apply Aw;exact J;first|exact Bp rfl (by assumption) rfl|exact By rfl (by assumption) rfl|exact Bv rfl (by assumption) rfl|exact Lv_roF3 rfl (by assumption) rfl));exact QA)|(apply Aj;(iterate 3 exact J);(first|(apply Ar (enc:=encV) (n:=1) [(⟨r.lo,r.hi⟩ : Ivl)];(iterate 3 exact J);exact List.cons_ne_nil _ _;(iterate 4 exact J);exact fun _ => rfl;exact J;exact J;intro b5 h5 hle5 hs5;skip)|(apply Bo (enc:=encV) (xs:=out);(iterate 7 exact J);exact hs5;exact fun _ => rfl;exact fun x => Bz rfl;intro v1;exact QR;omega;exact J;intro A6 c6;skip)))|(apply Af;exact J;all_goals (intro hc;try simp only [hcS,reduceCtorEq] at hc;try (exfalso;omega)))|(apply Bg;exact J;exact J;all_goals (intro hc;try simp only [hcS,reduceCtorEq] at hc;try (exfalso;omega))))
     all_goals first
      | (exfalso;omega)
      | contradiction
      | (have h3:=ih (k + 1,out ++ [⟨r.lo,r.hi⟩],A6,c6,h5) ⟨by dsimp only;omega,hle.trans hle5,by dsimp only;rw [hsn]⟩ (by dsimp only;omega)
         dsimp only at h3
         rw [List.length_append] at h3
         refine Bm QS QT (h3))
   · rw [if_neg hp] at hsn
     have h3:=ih (k + 1,out,A4,c4,hh) ⟨by dsimp only;omega,hle,by dsimp only;rw [hsn]⟩ (by dsimp only;omega)
     dsimp only at h3
     repeat' (first|apply Ad|apply Ap|apply Ah|apply Ag|apply Aa|apply Ab|(apply Az;exact J;exact J)|(apply Be;(iterate 3 exact J);omega;exact J;exact J)|(apply Ac;(iterate 3 exact J))|(apply Bc;exact J;exact J;(first|(apply Bb (j:=k);(iterate 5 exact J);exact a1;(with_reducible exact J);omega)|(apply Aw;exact J;first|exact Bp rfl (by assumption) rfl|exact By rfl (by assumption) rfl|exact Bv rfl (by assumption) rfl|exact Lv_roF3 rfl (by assumption) rfl));exact QA)|(apply Af;exact J;all_goals (intro hc;try simp only [hcS,reduceCtorEq] at hc;try (exfalso;omega)))|(apply Bg;exact J;exact J;all_goals (intro hc;try simp only [hcS,reduceCtorEq] at hc;try (exfalso;omega))))
     all_goals first
      | (exfalso;omega)
      | (exfalso;exact hp ⟨by assumption,by assumption⟩)
      | (refine Bm QS QT (h3))
 · rw [List.take_of_length_le (by omega)] at ho
   clear ih
   have hio : ∀ i ∈ out,IvOk i:=by rw [ho];exact banQ_ok hbn
   rw [← ho]
   repeat' (first|apply Ad|apply Aa|apply Ab|(apply Bi;exact J)|(apply Ac;(iterate 3 exact J))|(apply Aj;(iterate 3 exact J);(first|(refine Ki (enc:=encV) (e:=42) (sz:=2) (xs:=out) (n:=out.length) (fun _ => rfl) rfl QK ?_;intro A6 c6 h6 hle6 e6 hnc6 hs6;cases e6;apply Bf;exact J;exact has69;exact UnionR_c h6 _ _ _ out hs6 (by omega) hio;rintro vm h7 hle7 ⟨A7,c7,ul,rfl,hs7,hul,hun⟩;skip)))|(apply Af;exact J;all_goals (intro hc;try simp only [hcS,reduceCtorEq] at hc;try (exfalso;omega))))
   all_goals first
    | (exfalso;omega)
    | (exact Ca rfl rfl rfl ⟨A7,c7,ul,rfl,hs7,hul,hun⟩)
end Go.Hw

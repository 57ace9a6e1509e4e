import Derived.Test.YtgbamiehiokacaaGreatDoorVF
import Derived.Test.YtgbamiehiokacaaGreatDoorKT4
set_option linter.unusedVariables false
set_option linter.unusedSimpArgs false
set_option maxRecDepth 100000
set_option maxHeartbeats 8000000
namespace Go.Hw
open Go
attribute [local irreducible] GO GOl GDp Val Fn Res CellsAt ValE Blk OwnS MapA OwnPf Has Yl SepA forceL idF voidL
open Go.Proofs (Tryz.prog)
theorem A5a (C : List Fct) (l : List Fct) (f : Fct) : (l ++ [f]).filter (fun f => decide (VoidIn C f)) = if VoidIn C f then l.filter (fun f => decide (VoidIn C f)) ++ [f] else l.filter (fun f => decide (VoidIn C f)):=by
 rw [List.filter_append]
 by_cases h : VoidIn C f <;> simp [h]
theorem VoidR_c (h : Ro) (A : Option Addr) (n c : Nat) (l : List (Fsh × Fct)) (hx : FactsAt h A n l) (hn6 : n ≤ 65536) : Res Tryz.prog 18 #[.slice A n c] h (fun u h' => ∃ A' c' ds,u = .tuple #[.slice A' ds.length c',.int .i64 0] ∧ SlOf voidC 32 h' A' ds.length ds ∧ ds = (voidL (canonL (fcs l))).map idF ∧ ds.length ≤ 1000000):=by
 refine Bn (args:=[_]) ts_ok Go.Proofs.Tryz.func18 rfl rfl fun w0 X0 => ?_
 have hcan:=fun h' (hl : Le h h') => Ama h' A n c l (hx.le hl) hn6
 obtain ⟨C,hC⟩ : ∃ C,C = canonL (fcs l):=⟨_,rfl⟩
 have hsC : SortF C:=by rw [hC];exact (Ck (fcs l) (Oq hx.fat)).1
 rw [← hC] at hcan ⊢
 repeat' (first|apply Ad|apply Ap|apply Ag|apply Aa|apply Ab|(apply Ac;(iterate 3 exact J))|(apply Aj;(iterate 3 exact J);(first|(apply Bf;exact J;exact has56;exact hcan _ QL;rintro v1 h1 hle1 ⟨A3,k3,c3,l3,rfl,hL⟩;skip)|(apply Bw (n:=0);(iterate 3 exact J);exact List.cons_ne_nil _ _;(iterate 6 exact J);intro b8;skip)))|(apply Af;exact J;all_goals (intro hc;try simp only [hcS,reduceCtorEq] at hc;try (exfalso;omega))))
 all_goals (try (exfalso;omega))
 have hlen3:=hL.2.1.row.len
 have hsm3:=hL.2.1.small
 have hvl : voidL C = (fcs l3).filter (fun f => decide (VoidIn C f)):=by unfold voidL;rw [hL.2.2]
 refine Bh (X:=Nat × List (List UInt8) × Option Addr × Nat × Ro) (fun x => x.1 ≤ k3 ∧ Le h1 x.2.2.2.2 ∧ x.2.1 = ((fcs (l3.take x.1)).filter (fun f => decide (VoidIn C f))).map idF) (fun x => k3 - x.1)
  (fun x => [(6,.int .i64 x.1),(4,.slice A3 k3 c3),(5,.slice x.2.2.1 x.2.1.length x.2.2.2.1)])
  (fun x => [OwnS 52 32 (.slice x.2.2.1 x.2.1.length x.2.2.2.1) x.2.1.length (x.2.1.flatMap voidC)]) (fun x => x.2.2.2.2) (0,[],some ⟨b8,0,none⟩,0,h1) ⟨by dsimp only;omega,Le.refl _,rfl⟩ QS QT rfl ?_
 rintro ⟨k,out,A4,c4,hh⟩ ⟨hk,hle,ho⟩ ih
 dsimp only at hk hle ho ih ⊢
 have hol : out.length ≤ k:=by
  have:=List.length_filter_le (fun f => decide (VoidIn C f)) (fcs (l3.take k))
  rw [ho,List.length_map]
  rw [List.length_map,List.length_take] at this
  omega
 by_cases hkn : k < k3
 · have a1:=hL.2.1.row.addrD hkn
   have cc : CellsAt hh ((addrD A3).add (k * ty54.size)) (encF82 (l3.getD k p0)):=(hL.2.1.row.cellsD p0 hkn).le hle
   have et:=Cq p0 hlen3 hkn
   have hgm:=(hL.2.1.good _ (mem7 p0 (show k < l3.length by omega))).le hle
   have hpk : l3[k]? = some (l3.getD k p0):=by rw [List.getD_eq_getElem?_getD,List.getElem?_eq_getElem (by omega)];rfl
   generalize l3.getD k p0 = p at *
   have hxl : FactsAt hh A3 k3 l3:=hL.2.1.facts.le hle
   have hsn : ((fcs (l3.take (k + 1))).filter (fun f => decide (VoidIn C f))).map idF = if VoidIn C p.2 then out ++ [idF p.2] else out:=by
    rw [et,Jz,A5a]
    split
    · rw [List.map_append,← ho];rfl
    · exact ho.symm
   have hstd:=Pk hh A3 k3 c3 l3 hxl p.2.ru.case p.2.ru.inst
   have hvi : p.2.kind = 4 → (VoidIn C p.2 ↔ idxP (fun q : Fsh × Fct => decide (OfCase p.2.ru.case q.2 ∧ q.2.ru.inst = p.2.ru.inst)) l3 0 ≠ (k : Int)):=fun hk4 => by
    unfold VoidIn
    rw [← hL.2.2]
    cases hsd : standI (fcs l3) p.2.ru.case p.2.ru.inst with
    | none =>
      exfalso
      exact My hsd p.2 (List.mem_map_of_mem (List.mem_of_getElem? hpk)) ⟨⟨hk4,rfl⟩,rfl⟩
    | some f =>
      obtain ⟨j,y,hj,hij,hyj,hyf⟩:=Ts hsd
      rw [hij]
      constructor
      · rintro ⟨_,hne⟩ e
        have : j = k:=by omega
        subst this
        rw [hpk] at hyj
        exact hne (by rw [← hyf,Option.some.inj hyj])
      · intro hne
        refine ⟨hk4,fun e => hne ?_⟩
        have e1 : f = p.2:=Option.some.inj e
        have hs3 : SortF (fcs l3):=by rw [hL.2.2];exact hsC
        have hnd:=Mz hs3
        have q1 : (fcs l3)[j]? = some p.2:=by unfold fcs;rw [List.getElem?_map,hyj];simp [hyf,e1]
        have q2 : (fcs l3)[k]? = some p.2:=by unfold fcs;rw [List.getElem?_map,hpk];rfl
        have hjl : j < (fcs l3).length:=(List.getElem?_eq_some_iff.1 q1).1
        have:=(List.getElem?_inj hjl hnd).1 (q1.trans q2.symm)
        omega
   have hid : ∀ h',Le hh h' → Res Tryz.prog 58 #[factV p.1 p.2] h' fun u _ => u = .tuple #[digV (idF p.2),.int .i64 0]:=fun h' hl => by
    have:=idR_c h' p.1 p.2 (hgm.le hl).1 hgm.2.1 hgm.2.2
    rwa [digV_eq (Iv _)] at this
   obtain ⟨ix,hix⟩ : ∃ ix,ix = idxP (fun q : Fsh × Fct => decide (OfCase p.2.ru.case q.2 ∧ q.2.ru.inst = p.2.ru.inst)) l3 0:=⟨_,rfl⟩
   rw [← hix] at hstd hvi
   by_cases hP : p.2.kind = 4 ∧ ix ≠ (k : Int)
   · rw [if_pos ((hvi hP.1).2 hP.2)] at hsn
     obtain ⟨P1,P2⟩:=hP
     clear hvi
     repeat' (first|apply Ad|apply Ap|apply Ah|apply Ag|apply Aa|apply Ab|(apply Be;(iterate 3 exact J);omega;exact J;exact J)|(apply Ac;(iterate 3 exact J))|(apply Aq;exact J;exact Bd rfl QM rfl;exact J;exact J)|(apply Bc;exact J;exact J;(first|(apply Bb (j:=k);(iterate 5 exact J);exact a1;(with_reducible exact J);omega)|(apply Aw;exact J;first|exact Bp rfl (by assumption) rfl|exact By rfl (by assumption) rfl|exact Bv rfl (by assumption) rfl|exact Lv_roF3 rfl (by assumption) rfl));exact QA)|(apply Aj;(iterate 3 exact J);(first|(apply Ao;(iterate 3 exact J);exact QR;(iterate 3 exact J);skip)|(apply At;exact J;intro b;skip)|(apply Bf;exact J;exact has58;exact hid _ QL;rintro vi hi1 hle3 rfl;skip)|(apply Ar (enc:=voidC) (n:=1) [idF p.2];(iterate 3 exact J);exact List.cons_ne_nil _ _;(iterate 4 exact J);exact Gn;exact J;exact J;intro b5 h5 hle5 hs5;skip)|(apply Bo (enc:=voidC) (xs:=out);(iterate 7 exact J);exact hs5;exact Gn;exact Th;intro v1;exact QR;omega;exact J;intro A6 c6;skip)))|(apply Ba (n:=8) [0,1,2,3,4,5,6,7,8,9,10,11,12,13,14,15,16,17,18,19,20,21,22,23] [(0,0),(1,0),(2,0),(3,0),(4,0),(5,0),(6,0),(7,0),(8,0),(9,0),(10,0),(11,0),(12,0),(13,0),(14,0),(15,0),(16,0),(17,0),(18,0),(19,0),(21,0),(20,1),(22,0),(23,0)];kernel_rfl)|(apply Cb;exact J;kernel_rfl;(iterate 3 exact J))|(apply Cg;exact J;kernel_rfl;exact J;exact J;(first|(apply Bb (j:=k);(iterate 5 exact J);exact a1;(with_reducible exact J);omega)|(apply Aw;exact J;first|exact Bp rfl (by assumption) rfl|exact By rfl (by assumption) rfl|exact Bv rfl (by assumption) rfl|exact Lv_roF3 rfl (by assumption) rfl));exact QA)|(apply Bq;exact J;kernel_rfl;(iterate 3 exact J);(first|(apply Ai;exact J;exact has57;exact hstd;refine ⟨Le.refl _,QN,?_⟩)))|(apply Bj;kernel_rfl;exact J)|(apply Cy;(iterate 5 exact J);all_goals (intro hc;try simp only [hcS,reduceCtorEq] at hc;try (exfalso;omega)))|(apply Af;exact J;all_goals (intro hc;try simp only [hcS,reduceCtorEq] at hc;try (exfalso;omega))))
     all_goals first
      | (exfalso;omega)
      | contradiction
      | (have h3:=ih (k + 1,out ++ [idF p.2],A6,c6,h5) ⟨by dsimp only;omega,(hle.trans hle3).trans hle5,by dsimp only;rw [hsn]⟩ (by dsimp only;omega)
         dsimp only at h3
         rw [List.length_append] at h3
         refine Bm QS QT (h3))
   · rw [if_neg (fun q => hP ⟨q.1,(hvi q.1).1 q⟩)] at hsn
     clear hvi
     have h3:=ih (k + 1,out,A4,c4,hh) ⟨by dsimp only;omega,hle,by dsimp only;rw [hsn]⟩ (by dsimp only;omega)
     dsimp only at h3
     repeat' (first|apply Ad|apply Ap|apply Ah|apply Ag|apply Aa|apply Ab|(apply Be;(iterate 3 exact J);omega;exact J;exact J)|(apply Ac;(iterate 3 exact J))|(apply Ba (n:=8) [0,1,2,3,4,5,6,7,8,9,10,11,12,13,14,15,16,17,18,19,20,21,22,23] [(0,0),(1,0),(2,0),(3,0),(4,0),(5,0),(6,0),(7,0),(8,0),(9,0),(10,0),(11,0),(12,0),(13,0),(14,0),(15,0),(16,0),(17,0),(18,0),(19,0),(21,0),(20,1),(22,0),(23,0)];kernel_rfl)|(apply Lm;exact J;kernel_rfl;exact J;exact J)|(apply Cb;exact J;kernel_rfl;(iterate 3 exact J))|(apply Cg;exact J;kernel_rfl;exact J;exact J;(first|(apply Bb (j:=k);(iterate 5 exact J);exact a1;(with_reducible exact J);omega)|(apply Aw;exact J;first|exact Bp rfl (by assumption) rfl|exact By rfl (by assumption) rfl|exact Bv rfl (by assumption) rfl|exact Lv_roF3 rfl (by assumption) rfl));exact QA)|(apply Bq;exact J;kernel_rfl;(iterate 3 exact J);(first|(apply Ai;exact J;exact has57;exact hstd;refine ⟨Le.refl _,QN,?_⟩)))|(apply Bj;kernel_rfl;exact J)|(apply Cy;(iterate 5 exact J);all_goals (intro hc;try simp only [hcS,reduceCtorEq] at hc;try (exfalso;omega)))|(apply Af;exact J;all_goals (intro hc;try simp only [hcS,reduceCtorEq] at hc;try (exfalso;omega)))|(apply Ot;exact J;kernel_rfl;exact J;exact J))
     all_goals first
      | (exfalso;omega)
      | (exfalso;exact hP ⟨by assumption,by assumption⟩)
      | (refine Bm QS QT (h3))
 · rw [List.take_of_length_le (by omega),← hvl] at ho
   clear ih
   refine Dw (enc:=voidC) (e:=52) (sz:=32) (n:=out.length) (xs:=out) Gn rfl QK ?_
   intro A6 c6 h6 hle6 e6 hnc6 hs6
   cases e6
   repeat' (first|apply Ad|apply Aa|apply Ab|(apply Bi;exact J)|(apply Ac;(iterate 3 exact J))|(apply Af;exact J;all_goals (intro hc;try simp only [hcS,reduceCtorEq] at hc;try (exfalso;omega))))
   all_goals first
    | (exfalso;omega)
    | (exact Fh rfl rfl rfl rfl ⟨A4,c4,out,rfl,hs6,ho,by omega⟩)
end Go.Hw

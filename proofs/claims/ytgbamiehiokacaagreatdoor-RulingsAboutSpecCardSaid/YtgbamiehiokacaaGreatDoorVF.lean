import Derived.Test.YtgbamiehiokacaaGreatDoorVE
import Derived.Test.YtgbamiehiokacaaGreatDoorVC
import Derived.Test.YtgbamiehiokacaaGreatDoorRA
import Derived.Test.YtgbamiehiokacaaGreatDoorKR11
set_option linter.unusedVariables false
set_option linter.unusedSimpArgs false
set_option maxRecDepth 100000
set_option maxHeartbeats 8000000
namespace Go.Hw
open Go
attribute [local irreducible] GO GOl GDp Val Fn Res CellsAt ValE Blk OwnS MapA OwnPf Has Yl SepA forceL
open Go.Proofs (Tryz.prog)
theorem Tj (h : Ro) (n : Int) : Val Tryz.prog 212 #[.int .i64 n] h (.bool (decide (0 ≤ n ∧ n ≤ 1048576))):=by
 refine Au (args:=[_]) ts_ok Go.Proofs.Tryz.func212 rfl rfl fun w0 X0 => ?_
 repeat' (first|apply Ad|apply Aa|apply Ab|(apply Az;exact J;exact J)|(apply Ac;(iterate 3 exact J))|(apply Bg;exact J;exact J;all_goals (intro hc;try simp only [hcS,reduceCtorEq] at hc;try (exfalso;omega)))|(apply Av;(iterate 3 exact J)))
 all_goals (refine Ce ?_;(try simp only [ltI_t,Hm] at *);grind)
theorem checkR1_c (h : Ro) (i : Ivl) (hi : IvOk i) : Val Tryz.prog 152 #[ivlV i] h (.int .i64 0):=by
 refine Au (args:=[_]) ts_ok Go.Proofs.Tryz.func152 rfl rfl fun w0 X0 => ?_
 have hi2 : 0 ≤ i.lo ∧ i.lo ≤ i.hi ∧ i.hi ≤ 1048576:=hi
 have h1 : Val Tryz.prog 212 #[.int .i64 i.lo] h (.bool true):=by
  have:=Tj h i.lo
  rwa [decide_eq_true (by omega)] at this
 have h2 : Val Tryz.prog 212 #[.int .i64 i.hi] h (.bool true):=by
  have:=Tj h i.hi
  rwa [decide_eq_true (by omega)] at this
 repeat' (first|apply Ad|apply Ap|apply Aa|apply Ab|(apply Ac;(iterate 3 exact J))|(apply Aq;exact J;exact Bd rfl QM rfl;exact J;exact J)|(apply Aj;(iterate 3 exact J);(first|(apply Ay;exact J;intro b;skip)|(apply Ai;exact J;exact has212;(first|exact h1|exact h2);skip)))|(apply Af;exact J;all_goals (intro hc;try simp only [hcS,reduceCtorEq] at hc;try (exfalso;omega)))|(apply Av;(iterate 3 exact J)))
 all_goals first
  | rfl
  | (exfalso;omega)
theorem addS_ok {x : List Ivl × Ivl × Bool} {k : Ivl} (h1 : ∀ j ∈ x.1,IvOk j) (h2 : IvOk x.2.1) (h3 : IvOk k) : (∀ j ∈ (addS x k).1,IvOk j) ∧ IvOk (addS x k).2.1:=by
 unfold addS
 unfold IvOk at *
 split
 · refine ⟨fun j hj => ?_,h2⟩
   rcases List.mem_append.1 hj with q|q
   · exact h1 j q
   · rw [List.mem_singleton] at q;rw [q];exact h3
 · split
   · refine ⟨fun j hj => ?_,h2⟩
     rcases List.mem_append.1 hj with q|q
     · split at q
       · exact h1 j q
       · rcases List.mem_append.1 q with w|w
         · exact h1 j w
         · rw [List.mem_singleton] at w;rw [w];exact h2
     · rw [List.mem_singleton] at q;rw [q];exact h3
   · refine ⟨h1,?_⟩
     dsimp only
     omega
theorem Xv : ∀ {l : List Ivl} {x : List Ivl × Ivl × Bool},(∀ j ∈ l,IvOk j) → (∀ j ∈ x.1,IvOk j) → IvOk x.2.1 → (∀ j ∈ (l.foldl addS x).1,IvOk j) ∧ IvOk (l.foldl addS x).2.1
 | [],x,_,h1,h2 => ⟨h1,h2⟩
 | k :: l,x,h,h1,h2 => by
   obtain ⟨q1,q2⟩:=addS_ok h1 h2 (h k List.mem_cons_self)
   exact Xv (l:=l) (x:=addS x k) (fun j hj => h j (List.mem_cons_of_mem _ hj)) q1 q2
theorem addU_iv {l : List Ivl} {i : Ivl} (hl : ∀ j ∈ l,IvOk j) (hi : IvOk i) : ∀ j ∈ addU l i,IvOk j:=by
 obtain ⟨h1,h2⟩:=Xv (x:=([],i,false)) hl (by simp) hi
 intro j hj
 unfold addU addE7 at hj
 split at hj
 · exact h1 j hj
 · rcases List.mem_append.1 hj with q|q
   · exact h1 j q
   · rw [List.mem_singleton] at q;rw [q];exact h2
theorem addS_len (x : List Ivl × Ivl × Bool) (k : Ivl) : (addE7 (addS x k)).length ≤ (addE7 x).length + 1:=by
 obtain ⟨o,i,d⟩:=x
 unfold addS
 split
 · unfold addE7
   cases d <;> simp
 · split
   · unfold addE7
     cases d <;> simp
   · unfold addE7
     cases d <;> simp
theorem Su : ∀ (l : List Ivl) (x : List Ivl × Ivl × Bool),(addE7 (l.foldl addS x)).length ≤ (addE7 x).length + l.length
 | [],x => by simp
 | k :: l,x => by
   have h1:=Su l (addS x k)
   have h2:=addS_len x k
   rw [List.foldl_cons,List.length_cons]
   omega
theorem addU_len (l : List Ivl) (i : Ivl) : (addU l i).length ≤ l.length + 1:=by
 have:=Su l ([],i,false)
 unfold addU
 have e : (addE7 (([] : List Ivl),i,false)).length = 1:=rfl
 omega
theorem addE7_ge (x : List Ivl × Ivl × Bool) : x.1.length ≤ (addE7 x).length:=by
 unfold addE7
 split
 · exact Nat.le_refl _
 · simp
theorem addR1_c (h : Ro) (A : Option Addr) (n c : Nat) (l : List Ivl) (hx : SlOf encV 2 h A n l) (hn : n ≤ 1000000) (hok : ∀ i ∈ l,IvOk i) (i : Ivl) (hi : IvOk i) : Res Tryz.prog 153 #[.slice A n c,ivlV i] h (fun u h' => ∃ A' c',u = .slice A' (addU l i).length c' ∧ SlOf encV 2 h' A' (addU l i).length (addU l i)):=by
 refine Bn (args:=[_,_]) ts_ok Go.Proofs.Tryz.func153 rfl rfl fun w0 X0 => ?_
 have hlen:=hx.len
 repeat' (first|apply Ad|apply Ag|apply Aa|apply Ab|(apply Ac;(iterate 3 exact J))|(apply Aj;(iterate 3 exact J);(first|(apply Ay;exact J;intro b;skip)|(apply Bw (n:=0);(iterate 3 exact J);exact List.cons_ne_nil _ _;(iterate 6 exact J);intro b8;skip))))
 generalize b = b3
 refine Bh (X:=Nat × (List Ivl × Ivl × Bool) × Option Addr × Nat × Ro) (fun x => x.1 ≤ n ∧ Le h x.2.2.2.2 ∧ x.2.1 = (l.take x.1).foldl addS ([],i,false)) (fun x => n - x.1)
  (fun x => [(7,.int .i64 x.1),(0,.slice A n c),(6,.bool x.2.1.2.2),(3,ptrV b3),(5,.slice x.2.2.1 x.2.1.1.length x.2.2.2.1)])
  (fun x => [OwnS 42 2 (.slice x.2.2.1 x.2.1.1.length x.2.2.2.1) x.2.1.1.length (x.2.1.1.flatMap encV),Blk b3 42 (encV x.2.1.2.1)]) (fun x => x.2.2.2.2) (0,([],i,false),some ⟨b8,0,none⟩,0,h) ⟨by dsimp only;omega,Le.refl _,rfl⟩ QS QT rfl ?_
 rintro ⟨k,⟨out,z,d⟩,A4,c4,hh⟩ ⟨hk,hle,ho⟩ ih
 dsimp only at hk hle ho ih ⊢
 have hzk : ∀ j ∈ l.take k,IvOk j:=fun j hj => hok j (List.mem_of_mem_take hj)
 have hoz:=Xv (x:=([],i,false)) hzk (by simp) hi
 have holn:=Su (l.take k) ([],i,false)
 have hge:=addE7_ge (out,z,d)
 rw [← ho] at hoz holn
 have e1 : (addE7 (([] : List Ivl),i,false)).length = 1:=rfl
 rw [e1,List.length_take] at holn
 dsimp only at hge
 obtain ⟨hoo,hzi⟩:=hoz
 dsimp only at hoo hzi
 have hz2 : 0 ≤ z.lo ∧ z.lo ≤ z.hi ∧ z.hi ≤ 1048576:=hzi
 by_cases hkn : k < n
 · have a1:=hx.addrD hkn
   have c1 : CellsAt hh ((addrD A).add (k * ty42.size)) (encV (l.getD k v0)):=(hx.cellsD v0 hkn).le hle
   have et:=Cq v0 hlen hkn
   have hme:=hok _ (Dt v0 (show k < l.length by omega))
   generalize l.getD k v0 = y at *
   have hme2 : 0 ≤ y.lo ∧ y.lo ≤ y.hi ∧ y.hi ≤ 1048576:=hme
   have hsn : (l.take (k + 1)).foldl addS ([],i,false) = addS (out,z,d) y:=by rw [et,List.foldl_append,← ho];rfl
   have holn2 : out.length ≤ k + 1:=by omega
   clear holn hge ho hoo
   by_cases q1 : y.hi + 1 < z.lo
   · have e2 : addS (out,z,d) y = (out ++ [y],z,d):=by unfold addS;rw [if_pos q1]
     rw [e2] at hsn
     repeat' (first|apply Ad|apply Ap|apply Ah|apply Ag|apply Aa|apply Ab|(apply Be;(iterate 3 exact J);omega;exact J;exact J)|(apply Ac;(iterate 3 exact J))|(apply Bc;exact J;exact J;(first|(apply Bb (j:=k);(iterate 5 exact J);exact a1;(with_reducible exact J);omega)|(apply Aw;exact J;first|exact Bp rfl (by assumption) rfl|exact By rfl (by assumption) rfl|exact Bv rfl (by assumption) rfl|exact Lv_roF3 rfl (by assumption) rfl));exact QA)|(apply Aj;(iterate 3 exact J);(first|(apply Ar (enc:=encV) (n:=1) [y];(iterate 3 exact J);exact List.cons_ne_nil _ _;(iterate 4 exact J);exact fun _ => rfl;exact J;exact J;intro b5 h5 hle5 hs5;skip)|(apply Bo (enc:=encV) (xs:=out);(iterate 7 exact J);exact hs5;exact fun _ => rfl;exact fun x => Bz rfl;intro v1;exact QR;omega;exact J;intro A6 c6;skip)))|(apply Ba (n:=7) [0,1,2,3,4,5,6,7,8,9] [(0,0),(1,0),(2,0),(3,0),(4,0),(5,0),(6,0),(7,0),(8,0),(9,0)];kernel_rfl)|(apply Hl;exact J;kernel_rfl;(iterate 5 exact J);omega)|(apply Cb;exact J;kernel_rfl;(iterate 3 exact J))|(apply Bx;exact J;kernel_rfl;(iterate 3 exact J);exact QM;exact J;exact J)|(apply Cg;exact J;kernel_rfl;exact J;exact J;(first|(apply Bb (j:=k);(iterate 5 exact J);exact a1;(with_reducible exact J);omega)|(apply Aw;exact J;first|exact Bp rfl (by assumption) rfl|exact By rfl (by assumption) rfl|exact Bv rfl (by assumption) rfl|exact Lv_roF3 rfl (by assumption) rfl));exact QA)|(apply Bj;kernel_rfl;exact J)|(apply Af;exact J;all_goals (intro hc;try simp only [hcS,reduceCtorEq] at hc;try (exfalso;omega))))
     all_goals first
      | (exfalso;omega)
      | (have h3:=ih (k + 1,(out ++ [y],z,d),A6,c6,h5) ⟨by dsimp only;omega,hle.trans hle5,hsn.symm⟩ (by dsimp only;omega)
         dsimp only at h3
         rw [List.length_append] at h3
         refine Bm QS QT (h3))
   · by_cases q2 : z.hi + 1 < y.lo
     · cases d with
       | true =>
         have e2 : addS (out,z,true) y = (out ++ [y],z,true):=by unfold addS;rw [if_neg q1,if_pos q2];rfl
         rw [e2] at hsn
         repeat' (first|apply Ad|apply Ap|apply Ah|apply Ag|apply Aa|apply Ab|(apply Be;(iterate 3 exact J);omega;exact J;exact J)|(apply Ac;(iterate 3 exact J))|(apply Bc;exact J;exact J;(first|(apply Bb (j:=k);(iterate 5 exact J);exact a1;(with_reducible exact J);omega)|(apply Aw;exact J;first|exact Bp rfl (by assumption) rfl|exact By rfl (by assumption) rfl|exact Bv rfl (by assumption) rfl|exact Lv_roF3 rfl (by assumption) rfl));exact QA)|(apply Aj;(iterate 3 exact J);(first|(apply Ar (enc:=encV) (n:=1) [y];(iterate 3 exact J);exact List.cons_ne_nil _ _;(iterate 4 exact J);exact fun _ => rfl;exact J;exact J;intro b5 h5 hle5 hs5;skip)|(apply Bo (enc:=encV) (xs:=out);(iterate 7 exact J);exact hs5;exact fun _ => rfl;exact fun x => Bz rfl;intro v1;exact QR;omega;exact J;intro A6 c6;skip)))|(apply Ba (n:=7) [0,1,2,3,4,5,6,7,8,9] [(0,0),(1,0),(2,0),(3,0),(4,0),(5,0),(6,0),(7,0),(8,0),(9,0)];kernel_rfl)|(apply Ba (n:=9) [0,1,2,3,4,5,6,7,8,9] [(0,0),(1,0),(2,0),(3,0),(4,0),(5,0),(6,0),(7,0),(8,0),(9,0)];kernel_rfl)|(apply Hl;exact J;kernel_rfl;(iterate 5 exact J);omega)|(apply Cb;exact J;kernel_rfl;(iterate 3 exact J))|(apply Bx;exact J;kernel_rfl;(iterate 3 exact J);exact QM;exact J;exact J)|(apply Cg;exact J;kernel_rfl;exact J;exact J;(first|(apply Bb (j:=k);(iterate 5 exact J);exact a1;(with_reducible exact J);omega)|(apply Aw;exact J;first|exact Bp rfl (by assumption) rfl|exact By rfl (by assumption) rfl|exact Bv rfl (by assumption) rfl|exact Lv_roF3 rfl (by assumption) rfl));exact QA)|(apply Bj;kernel_rfl;exact J)|(apply Af;exact J;all_goals (intro hc;try simp only [hcS,reduceCtorEq] at hc;try (exfalso;omega))))
         all_goals first
          | (exfalso;omega)
          | (have h3:=ih (k + 1,(out ++ [y],z,true),A6,c6,h5) ⟨by dsimp only;omega,hle.trans hle5,hsn.symm⟩ (by dsimp only;omega)
             dsimp only at h3
             rw [List.length_append] at h3
             refine Bm QS QT (h3))
       | false =>
         have e2 : addS (out,z,false) y = (out ++ [z] ++ [y],z,true):=by unfold addS;rw [if_neg q1,if_pos q2];rfl
         rw [e2] at hsn
         repeat' (first|apply Ad|apply Ap|apply Ah|apply Ag|apply Aa|apply Ab|(apply Be;(iterate 3 exact J);omega;exact J;exact J)|(apply Ac;(iterate 3 exact J))|(apply Aq;exact J;exact Bd rfl QM rfl;exact J;exact J)|(apply Bc;exact J;exact J;(first|(apply Bb (j:=k);(iterate 5 exact J);exact a1;(with_reducible exact J);omega)|(apply Aw;exact J;apply Bp;exact J;(with_reducible exact (c1.le QL));exact J));exact QA)|(apply Aj;(iterate 3 exact J);(first|(apply Ar (enc:=encV) (n:=1) [z];(iterate 3 exact J);exact List.cons_ne_nil _ _;(iterate 4 exact J);exact fun _ => rfl;exact J;exact J;intro b5 h5 hle5 hs5;skip)|(apply Bo (enc:=encV) (xs:=out);(iterate 7 exact J);exact hs5;exact fun _ => rfl;exact fun x => Bz rfl;intro v1;exact QR;omega;exact J;intro A6 c6;skip)|(apply Ar (enc:=encV) (n:=1) [y];(iterate 3 exact J);exact List.cons_ne_nil _ _;(iterate 4 exact J);exact fun _ => rfl;exact J;exact J;intro b6 h6 hle6 hs6;skip)|(apply Bo (enc:=encV) (xs:=out ++ [z]);(iterate 7 exact J);exact hs6;exact fun _ => rfl;exact fun x => Bz rfl;intro v1;exact QR;omega;exact J;intro A7 c7;skip)))|(apply Ba (n:=7) [0,1,2,3,4,5,6,7,8,9] [(0,0),(1,0),(2,0),(3,0),(4,0),(5,0),(6,0),(7,0),(8,0),(9,0)];kernel_rfl)|(apply Ba (n:=9) [0,1,2,3,4,5,6,7,8,9] [(0,0),(1,0),(2,0),(3,0),(4,0),(5,0),(6,0),(7,0),(8,0),(9,0)];kernel_rfl)|(apply Hl;exact J;kernel_rfl;(iterate 5 exact J);omega)|(apply Cb;exact J;kernel_rfl;(iterate 3 exact J))|(apply Bx;exact J;kernel_rfl;(iterate 3 exact J);exact QM;exact J;exact J)|(apply Cg;exact J;kernel_rfl;exact J;exact J;(first|(apply Bb (j:=k);(iterate 5 exact J);exact a1;(with_reducible exact J);omega)|(apply Aw;exact J;first|exact Bp rfl (by assumption) rfl|exact By rfl (by assumption) rfl|exact Bv rfl (by assumption) rfl|exact Lv_roF3 rfl (by assumption) rfl));exact QA)|(apply Bj;kernel_rfl;exact J)|(apply Af;exact J;all_goals (intro hc;try simp only [hcS,reduceCtorEq] at hc;try (exfalso;omega))))
         all_goals first
          | (exfalso;omega)
          | (have h3:=ih (k + 1,(out ++ [z] ++ [y],z,true),A7,c7,h6) ⟨by dsimp only;omega,(hle.trans hle5).trans hle6,hsn.symm⟩ (by dsimp only;omega)
             dsimp only at h3
             rw [List.length_append,List.length_append] at h3
             refine Bm QS QT (h3))
     · have e2 : addS (out,z,d) y = (out,⟨min z.lo y.lo,max z.hi y.hi⟩,d):=by unfold addS;rw [if_neg q1,if_neg q2]
       rw [e2] at hsn
       have h3:=ih (k + 1,(out,⟨min z.lo y.lo,max z.hi y.hi⟩,d),A4,c4,hh) ⟨by dsimp only;omega,hle,hsn.symm⟩ (by dsimp only;omega)
       dsimp only at h3
       repeat' (first|apply Ad|apply Ap|apply Ah|apply Ag|apply Aa|apply Ab|(apply Be;(iterate 3 exact J);omega;exact J;exact J)|(apply Ac;(iterate 3 exact J))|(apply Ba (n:=7) [0,1,2,3,4,5,6,7,8,9] [(0,0),(1,0),(2,0),(3,0),(4,0),(5,0),(6,0),(7,0),(8,0),(9,0)];kernel_rfl)|(apply Ba (n:=9) [0,1,2,3,4,5,6,7,8,9] [(0,0),(1,0),(2,0),(3,0),(4,0),(5,0),(6,0),(7,0),(8,0),(9,0)];kernel_rfl)|(apply Ba (n:=6) [0,1,2,3,4,5,6,7,8,9,10,11,12,13,14,15,16,17] [(0,0),(1,0),(2,0),(3,0),(4,0),(5,0),(6,0),(7,0),(8,0),(9,0),(10,0),(11,0),(12,0),(13,0),(14,0),(15,0),(16,0),(17,1)];kernel_rfl)|(apply Hl;exact J;kernel_rfl;(iterate 5 exact J);omega)|(apply Cb;exact J;kernel_rfl;(iterate 3 exact J))|(apply Bx;exact J;kernel_rfl;(iterate 3 exact J);exact QM;exact J;exact J)|(apply Cg;exact J;kernel_rfl;exact J;exact J;(first|(apply Bb (j:=k);(iterate 5 exact J);exact a1;(with_reducible exact J);omega)|(apply Aw;exact J;first|exact Bp rfl (by assumption) rfl|exact By rfl (by assumption) rfl|exact Bv rfl (by assumption) rfl|exact Lv_roF3 rfl (by assumption) rfl));exact QA)|(apply Bq;exact J;kernel_rfl;(iterate 3 exact J);(first|(apply Ao;(iterate 3 exact J);exact QR;(iterate 3 exact J);refine ⟨Le.refl _,QN,?_⟩)))|(apply Bj;kernel_rfl;exact J)|(apply Af;exact J;all_goals (intro hc;try simp only [hcS,reduceCtorEq] at hc;try (exfalso;omega))))
       all_goals first
        | (exfalso;omega)
        | (refine Bm QS QT (h3))
 · rw [List.take_of_length_le (by omega)] at ho
   clear ih
   have hau : addU l i = if d = true then out else out ++ [z]:=by unfold addU;rw [← ho];rfl
   rw [hau]
   cases d with
   | true =>
     rw [if_pos rfl]
     refine Dw (enc:=encV) (e:=42) (sz:=2) (n:=out.length) (xs:=out) (fun _ => rfl) rfl QK ?_
     intro A6 c6 h6 hle6 e6 hnc6 hs6
     cases e6
     repeat' (first|apply Ad|apply Ap|apply Aa|apply Ab|(apply Bi;exact J)|(apply Ac;(iterate 3 exact J))|(apply Af;exact J;all_goals (intro hc;try simp only [hcS,reduceCtorEq] at hc;try (exfalso;omega))))
     all_goals first
      | (exfalso;omega)
      | (exact Ca rfl rfl rfl ⟨A4,c4,rfl,hs6⟩)
   | false =>
     rw [if_neg (by decide)]
     repeat' (first|apply Ad|apply Aa|apply Ab|(apply Bi;exact J)|(apply Ac;(iterate 3 exact J))|(apply Aq;exact J;exact Bd rfl QM rfl;exact J;exact J)|(apply Aj;(iterate 3 exact J);(first|(apply Ar (enc:=encV) (n:=1) [z];(iterate 3 exact J);exact List.cons_ne_nil _ _;(iterate 4 exact J);exact fun _ => rfl;exact J;exact J;intro b5 h5 hle5 hs5;skip)|(apply Bo (enc:=encV) (xs:=out);(iterate 7 exact J);exact hs5;exact fun _ => rfl;exact fun x => Bz rfl;intro v1;exact QR;omega;exact J;intro A6 c6;skip)))|(apply Af;exact J;all_goals (intro hc;try simp only [hcS,reduceCtorEq] at hc;try (exfalso;omega))))
     all_goals (try (exfalso;omega))
     refine Dw (enc:=encV) (e:=42) (sz:=2) (n:=out.length + 1) (xs:=out ++ [z]) (fun _ => rfl) (by simp) QK ?_
     intro A7 c7 h7 hle7 e7 hnc7 hs7
     cases e7
     rw [show out.length + 1 = (out ++ [z]).length by simp] at hs7 ⊢
     exact Ca rfl rfl rfl ⟨A6,c6,rfl,hs7⟩
theorem Ms (l : List Ivl) (i : Ivl) : unionR (l ++ [i]) = addU (unionR l) i:=by unfold unionR;rw [List.foldl_append];rfl
theorem unionR_0 : unionR [] = []:=rfl
theorem unionR_iv {l : List Ivl} (h : ∀ i ∈ l,IvOk i) : ∀ k,k ≤ l.length → (∀ i ∈ unionR (l.take k),IvOk i) ∧ (unionR (l.take k)).length ≤ k:=by
 intro k
 induction k with
 | zero => intro _;rw [List.take_zero,unionR_0];simp
 | succ k ih =>
   intro hk
   obtain ⟨h1,h2⟩:=ih (by omega)
   rw [← List.take_append_getElem (by omega),Ms]
   refine ⟨addU_iv h1 (h _ (List.getElem_mem _)),?_⟩
   have:=addU_len (unionR (l.take k)) l[k]
   omega
theorem UnionR_c (h : Ro) (A : Option Addr) (n c : Nat) (l : List Ivl) (hx : SlOf encV 2 h A n l) (hn : n ≤ 1000000) (hok : ∀ i ∈ l,IvOk i) : Res Tryz.prog 69 #[.slice A n c] h (fun u h' => ∃ A' c' ul,u = .tuple #[.slice A' ul.length c',.int .i64 0] ∧ SlOf encV 2 h' A' ul.length ul ∧ ul = unionR l ∧ ul.length ≤ 1000000):=by
 refine Bn (args:=[_]) ts_ok Go.Proofs.Tryz.func69 rfl rfl fun w0 X0 => ?_
 have hlen:=hx.len
 repeat' (first|apply Ad|apply Ag|apply Aa|apply Ab|(apply Ac;(iterate 3 exact J))|(apply Aj;(iterate 3 exact J);(first|(apply Bw (n:=0);(iterate 3 exact J);exact List.cons_ne_nil _ _;(iterate 6 exact J);intro b8;skip))))
 refine Bh (X:=Nat × List Ivl × Option Addr × Nat × Ro) (fun x => x.1 ≤ n ∧ Le h x.2.2.2.2 ∧ x.2.1 = unionR (l.take x.1) ∧ SlOf encV 2 x.2.2.2.2 x.2.2.1 x.2.1.length x.2.1) (fun x => n - x.1)
  (fun x => [(5,.int .i64 x.1),(0,.slice A n c),(4,.slice x.2.2.1 x.2.1.length x.2.2.2.1)])
  (fun x => []) (fun x => x.2.2.2.2) (0,[],some ⟨b8,0,none⟩,0,h) ⟨by dsimp only;omega,Le.refl _,rfl,SlOf.nil⟩ QS QT rfl ?_
 rintro ⟨k,out,A4,c4,hh⟩ ⟨hk,hle,ho,hso⟩ ih
 dsimp only at hk hle ho hso ih ⊢
 obtain ⟨hoi,hol⟩:=unionR_iv hok k (by omega)
 rw [← ho] at hoi hol
 by_cases hkn : k < n
 · have a1:=hx.addrD hkn
   have c1:=(hx.cellsD v0 hkn)
   have et:=Cq v0 hlen hkn
   have hme:=hok _ (Dt v0 (show k < l.length by omega))
   generalize l.getD k v0 = y at *
   have hsn : unionR (l.take (k + 1)) = addU out y:=by rw [et,Ms,← ho]
   repeat' (first|apply Ad|apply Ap|apply Ah|apply Ag|apply Aa|apply Ab|(apply Be;(iterate 3 exact J);omega;exact J;exact J)|(apply Ac;(iterate 3 exact J))|(apply Bc;exact J;exact J;(first|(apply Bb (j:=k);(iterate 5 exact J);exact a1;(with_reducible exact J);omega)|(apply Aw;exact J;exact Bp rfl (c1.le QL) rfl));exact QA)|(apply Aj;(iterate 3 exact J);(first|(apply Ai;exact J;exact has152;exact checkR1_c _ y hme;skip)|(apply Bf;exact J;exact has153;exact addR1_c _ A4 out.length c4 out (hso.le QL) (by omega) hoi y hme;rintro vu h5 hle5 ⟨A5,c5,rfl,hs5⟩;skip)))|(apply Af;exact J;all_goals (intro hc;try simp only [hcS,reduceCtorEq] at hc;try (exfalso;omega))))
   all_goals first
    | (exfalso;omega)
    | (have h3:=ih (k + 1,addU out y,A5,c5,h5) ⟨by dsimp only;omega,hle.trans hle5,hsn.symm,hs5⟩ (by dsimp only;omega)
       dsimp only at h3
       refine Bm QS QT (h3))
 · rw [List.take_of_length_le (by omega)] at ho
   clear ih
   repeat' (first|apply Ad|apply Aa|apply Ab|(apply Bi;exact J)|(apply Ac;(iterate 3 exact J))|(apply Af;exact J;all_goals (intro hc;try simp only [hcS,reduceCtorEq] at hc;try (exfalso;omega))))
   all_goals first
    | (exfalso;omega)
    | (exact Fh rfl rfl rfl rfl ⟨A4,c4,out,rfl,hso,ho,by omega⟩)
end Go.Hw
namespace Go.Hw
open Go
attribute [local irreducible] GO GOl GDp Val Fn Res CellsAt ValE Blk OwnS MapA OwnPf Has Yl SepA forceL
open Go.Proofs (Tryz.prog)
theorem Jz (l : List (Fsh × Fct)) (p : Fsh × Fct) : fcs (l ++ [p]) = fcs l ++ [p.2]:=by unfold fcs;rw [List.map_append];rfl
theorem Uk (h : Ro) (A : Option Addr) (n c : Nat) (l : List (Fsh × Fct)) (hx : FactsAt h A n l) (num : Int) : Val Tryz.prog 146 #[.slice A n c,.int .i64 num] h (.int .i64 (lastI (fcs l) num)):=by
 refine Au (args:=[_,_]) ts_ok Go.Proofs.Tryz.func146 rfl rfl fun w0 X0 => ?_
 have hlen:=hx.row.len
 have hn:=hx.small
 repeat' (first|apply Ad|apply Ag|apply Aa|apply Ab|(apply Ac;(iterate 3 exact J)))
 refine Bh (X:=Nat) (fun k => k ≤ n) (fun k => n - k) (fun k => [(6,.int .i64 k),(5,.int .i64 (lastI (fcs (l.take k)) num)),(0,.slice A n c),(1,.int .i64 num)]) (fun _ => []) (fun _ => h) 0 (by omega) QS QT rfl ?_
 rintro k hk ih
 by_cases hkn : k < n
 · have a1:=hx.row.addrD hkn
   have cc : CellsAt h ((addrD A).add (k * ty54.size)) (encF82 (l.getD k p0)):=hx.row.cellsD p0 hkn
   have et:=Cq p0 hlen hkn
   generalize l.getD k p0 = p at *
   have hsn : lastI (fcs (l.take (k + 1))) num = if OfCase num p.2 then max (lastI (fcs (l.take k)) num) p.2.ru.inst else lastI (fcs (l.take k)) num:=by rw [et,Jz,Gr]
   generalize lastI (fcs (l.take k)) num = q at *
   have h3:=ih (k + 1) (by omega) (by omega)
   by_cases hP : OfCase num p.2
   · rw [if_pos hP] at hsn
     obtain ⟨p1,p2⟩:=hP
     rw [hsn] at h3
     repeat' (first|apply Ad|apply Ap|apply Ah|apply Ag|apply Aa|apply Ab|(apply Be;(iterate 3 exact J);omega;exact J;exact J)|(apply Ac;(iterate 3 exact J))|(apply Bc;exact J;exact J;(first|(apply Bb (j:=k);(iterate 5 exact J);exact a1;(with_reducible exact J);omega)|(apply Aw;exact J;first|exact Bp rfl (by assumption) rfl|exact By rfl (by assumption) rfl|exact Bv rfl (by assumption) rfl|exact Lv_roF3 rfl (by assumption) rfl));exact QA)|(apply Af;exact J;all_goals (intro hc;try simp only [hcS,reduceCtorEq] at hc;try (exfalso;omega)))|(apply Bg;exact J;exact J;all_goals (intro hc;try simp only [hcS,reduceCtorEq] at hc;try (exfalso;omega))))
     all_goals first
      | (exfalso;omega)
      | contradiction
      | (refine Bm QS QT (h3))
   · rw [if_neg hP] at hsn
     have hP2 : ¬ (p.2.kind = 4 ∧ p.2.ru.case = num):=hP
     rw [hsn] at h3
     repeat' (first|apply Ad|apply Ap|apply Ah|apply Ag|apply Aa|apply Ab|(apply Az;exact J;exact J)|(apply Be;(iterate 3 exact J);omega;exact J;exact J)|(apply Ac;(iterate 3 exact J))|(apply Bc;exact J;exact J;(first|(apply Bb (j:=k);(iterate 5 exact J);exact a1;(with_reducible exact J);omega)|(apply Aw;exact J;first|exact Bp rfl (by assumption) rfl|exact By rfl (by assumption) rfl|exact Bv rfl (by assumption) rfl|exact Lv_roF3 rfl (by assumption) rfl));exact QA)|(apply Af;exact J;all_goals (intro hc;try simp only [hcS,reduceCtorEq] at hc;try (exfalso;omega)))|(apply Bg;exact J;exact J;all_goals (intro hc;try simp only [hcS,reduceCtorEq] at hc;try (exfalso;omega))))
     all_goals first
      | (exfalso;omega)
      | (exfalso;exact hP2 ⟨by assumption,by assumption⟩)
      | (refine Bm QS QT (h3))
 · rw [List.take_of_length_le (by omega)]
   clear ih
   repeat' (first|apply Ad|apply Aa|apply Ab|(apply Bi;exact J)|(apply Ac;(iterate 3 exact J))|(apply Af;exact J;all_goals (intro hc;try simp only [hcS,reduceCtorEq] at hc;try (exfalso;omega)))|(apply Av;(iterate 3 exact J)))
   all_goals rfl
theorem Pk (h : Ro) (A : Option Addr) (n c : Nat) (l : List (Fsh × Fct)) (hx : FactsAt h A n l) (num i : Int) : Val Tryz.prog 57 #[.slice A n c,.int .i64 num,.int .i64 i] h (.int .i64 (idxP (fun p : Fsh × Fct => decide (OfCase num p.2 ∧ p.2.ru.inst = i)) l 0)):=by
 refine Au (args:=[_,_,_]) ts_ok Go.Proofs.Tryz.func57 rfl rfl fun w0 X0 => ?_
 have hlen:=hx.row.len
 have hn:=hx.small
 obtain ⟨P,hPd⟩ : ∃ P,P = fun p : Fsh × Fct => decide (OfCase num p.2 ∧ p.2.ru.inst = i):=⟨_,rfl⟩
 rw [← hPd]
 repeat' (first|apply Ad|apply Ag|apply Aa|apply Ab|(apply Ac;(iterate 3 exact J)))
 refine Bh (X:=Nat) (fun k => k ≤ n ∧ idxP P (l.drop k) k = idxP P l 0) (fun k => n - k) (fun k => [(7,.int .i64 k),(0,.slice A n c),(1,.int .i64 num),(2,.int .i64 i)]) (fun _ => []) (fun _ => h) 0 ⟨by omega,rfl⟩ QS QT rfl ?_
 rintro k ⟨hk,hI⟩ ih
 by_cases hkn : k < n
 · have a1:=hx.row.addrD hkn
   have cc : CellsAt h ((addrD A).add (k * ty54.size)) (encF82 (l.getD k p0)):=hx.row.cellsD p0 hkn
   have hd:=Lb p0 hlen hkn
   generalize l.getD k p0 = p at *
   have hPp : P p = decide (OfCase num p.2 ∧ p.2.ru.inst = i):=by rw [hPd]
   by_cases hP : OfCase num p.2 ∧ p.2.ru.inst = i
   · have e9 : idxP P l 0 = k:=by rw [← hI,hd,idxP,hPp,decide_eq_true hP];rfl
     rw [e9]
     obtain ⟨⟨p1,p2⟩,p3⟩:=hP
     repeat' (first|apply Ad|apply Ap|apply Ag|apply Aa|apply Ab|(apply Ac;(iterate 3 exact J))|(apply Bc;exact J;exact J;(first|(apply Bb (j:=k);(iterate 5 exact J);exact a1;(with_reducible exact J);omega)|(apply Aw;exact J;first|exact Bp rfl (by assumption) rfl|exact By rfl (by assumption) rfl|exact Bv rfl (by assumption) rfl|exact Lv_roF3 rfl (by assumption) rfl));exact QA)|(apply Af;exact J;all_goals (intro hc;try simp only [hcS,reduceCtorEq] at hc;try (exfalso;omega)))|(apply Bg;exact J;exact J;all_goals (intro hc;try simp only [hcS,reduceCtorEq] at hc;try (exfalso;omega))))
     all_goals first
      | (exfalso;omega)
      | contradiction
      | (exact Av rfl rfl rfl rfl)
   · have h3:=ih (k + 1) ⟨by omega,by rw [← hI,hd,idxP,hPp,decide_eq_false hP];rfl⟩ (by omega)
     repeat' (first|apply Ad|apply Ap|apply Ah|apply Ag|apply Aa|apply Ab|(apply Az;exact J;exact J)|(apply Be;(iterate 3 exact J);omega;exact J;exact J)|(apply Ac;(iterate 3 exact J))|(apply Bc;exact J;exact J;(first|(apply Bb (j:=k);(iterate 5 exact J);exact a1;(with_reducible exact J);omega)|(apply Aw;exact J;first|exact Bp rfl (by assumption) rfl|exact By rfl (by assumption) rfl|exact Bv rfl (by assumption) rfl|exact Lv_roF3 rfl (by assumption) rfl));exact QA)|(apply Af;exact J;all_goals (intro hc;try simp only [hcS,reduceCtorEq] at hc;try (exfalso;omega)))|(apply Bg;exact J;exact J;all_goals (intro hc;try simp only [hcS,reduceCtorEq] at hc;try (exfalso;omega))))
     all_goals first
      | (exfalso;omega)
      | (exfalso;exact hP ⟨⟨by assumption,by assumption⟩,by assumption⟩)
      | (refine Bm QS QT (h3))
 · rw [show k = l.length by omega,List.drop_length] at hI
   have e9 : idxP P l 0 = -1:=hI.symm
   rw [e9]
   clear ih
   repeat' (first|apply Ad|apply Aa|apply Ab|(apply Bi;exact J)|(apply Ac;(iterate 3 exact J))|(apply Af;exact J;all_goals (intro hc;try simp only [hcS,reduceCtorEq] at hc;try (exfalso;omega)))|(apply Av;(iterate 3 exact J)))
   all_goals rfl
theorem suspR10_c (h : Ro) (A : Option Addr) (n c : Nat) (l : List (Fsh × Fct)) (hx : FactsAt h A n l) (num : Int) : Val Tryz.prog 145 #[.slice A n c,.int .i64 num] h (.bool (decide (HeldI (fcs l) num))):=by
 refine Au (args:=[_,_]) ts_ok Go.Proofs.Tryz.func145 rfl rfl fun w0 X0 => ?_
 have hlen:=hx.row.len
 have hn:=hx.small
 have hla:=Uk h A n c l hx num
 obtain ⟨j,hj⟩ : ∃ j,j = lastI (fcs l) num:=⟨_,rfl⟩
 rw [← hj] at hla
 have hHd : HeldI (fcs l) num ↔ 0 < j ∧ ∃ p ∈ l,p.2.kind = 5 ∧ p.2.aCase = num ∧ p.2.aInst = j ∧ p.2.aSusp = true:=by
  unfold HeldI
  rw [← hj]
  refine and_congr_right fun _ => ⟨fun ⟨f,hf,q⟩ => ?_,fun ⟨p,hp,q⟩ => ⟨p.2,List.mem_map_of_mem hp,q⟩⟩
  obtain ⟨p,hp,rfl⟩:=List.mem_map.1 hf
  exact ⟨p,hp,q⟩
 repeat' (first|apply Ad|apply Ag|apply Aa|apply Ab|(apply Ac;(iterate 3 exact J))|(apply Aj;(iterate 3 exact J);(first|(apply Ai;exact J;exact has146;exact hla;skip))))
 refine Bh (X:=Nat) (fun k => k ≤ n ∧ ∀ p ∈ l.take k,¬ (0 < j ∧ p.2.kind = 5 ∧ p.2.aCase = num ∧ p.2.aInst = j ∧ p.2.aSusp = true)) (fun k => n - k) (fun k => [(6,.int .i64 k),(5,.int .i64 j),(0,.slice A n c),(1,.int .i64 num)]) (fun _ => []) (fun _ => h) 0 ⟨by omega,by simp⟩ QS QT rfl ?_
 rintro k ⟨hk,hI⟩ ih
 by_cases hkn : k < n
 · have a1:=hx.row.addrD hkn
   have cc : CellsAt h ((addrD A).add (k * ty54.size)) (encF82 (l.getD k p0)):=hx.row.cellsD p0 hkn
   have et:=Cq p0 hlen hkn
   have hme:=mem7 p0 (show k < l.length by omega)
   generalize l.getD k p0 = p at *
   by_cases hP : 0 < j ∧ p.2.kind = 5 ∧ p.2.aCase = num ∧ p.2.aInst = j ∧ p.2.aSusp = true
   · rw [decide_eq_true (hHd.2 ⟨hP.1,p,hme,hP.2⟩)]
     obtain ⟨p1,p2,p3,p4,p5⟩:=hP
     repeat' (first|apply Ad|apply Ap|apply Ah|apply Ag|apply Aa|apply Ab|(apply Be;(iterate 3 exact J);omega;exact J;exact J)|(apply Ac;(iterate 3 exact J))|(apply Aq;exact J;exact Bd rfl QM rfl;exact J;exact J)|(apply Bc;exact J;exact J;(first|(apply Bb (j:=k);(iterate 5 exact J);exact a1;(with_reducible exact J);omega)|(apply Aw;exact J;first|exact Bp rfl (by assumption) rfl|exact By rfl (by assumption) rfl|exact Bv rfl (by assumption) rfl|exact Lv_roF3 rfl (by assumption) rfl));exact QA)|(apply Aj;(iterate 3 exact J);(first|(apply Ao;(iterate 3 exact J);exact QR;(iterate 3 exact J);skip)|(apply At;exact J;intro b;skip)))|(apply Af;exact J;all_goals (intro hc;try simp only [hcS,reduceCtorEq] at hc;try (exfalso;omega)))|(apply Bg;exact J;exact J;all_goals (intro hc;try simp only [hcS,reduceCtorEq] at hc;try (exfalso;omega))))
     all_goals first
      | (exfalso;omega)
      | contradiction
      | (exact Av rfl rfl rfl rfl)
      | (exfalso;exact absurd (hc.symm.trans p5) (by decide))
   · have h3:=ih (k + 1) ⟨by omega,fun q hq => by
      rw [et,List.mem_append,List.mem_singleton] at hq
      rcases hq with w|w
      · exact hI q w
      · rw [w];exact hP⟩ (by omega)
     repeat' (first|apply Ad|apply Ap|apply Ah|apply Ag|apply Aa|apply Ab|(apply Az;exact J;exact J)|(apply Be;(iterate 3 exact J);omega;exact J;exact J)|(apply Ac;(iterate 3 exact J))|(apply Aq;exact J;exact Bd rfl QM rfl;exact J;exact J)|(apply Bc;exact J;exact J;(first|(apply Bb (j:=k);(iterate 5 exact J);exact a1;(with_reducible exact J);omega)|(apply Aw;exact J;first|exact Bp rfl (by assumption) rfl|exact By rfl (by assumption) rfl|exact Bv rfl (by assumption) rfl|exact Lv_roF3 rfl (by assumption) rfl));exact QA)|(apply Aj;(iterate 3 exact J);(first|(apply Ao;(iterate 3 exact J);exact QR;(iterate 3 exact J);skip)|(apply At;exact J;intro b;skip)))|(apply Af;exact J;all_goals (intro hc;try simp only [hcS,reduceCtorEq] at hc;try (exfalso;omega)))|(apply Bg;exact J;exact J;all_goals (intro hc;try simp only [hcS,reduceCtorEq] at hc;try (exfalso;omega))))
     all_goals first
      | (exfalso;omega)
      | (exfalso;exact hP ⟨by assumption,by assumption,by assumption,by assumption,by assumption⟩)
      | (exfalso;refine hP ⟨by omega,?_,?_,?_,?_⟩ <;> assumption)
      | (refine Bm QS QT (h3))
 · rw [List.take_of_length_le (by omega)] at hI
   rw [decide_eq_false fun q => by
    obtain ⟨q1,p,hp,q2⟩:=hHd.1 q
    exact hI p hp ⟨q1,q2⟩]
   clear ih
   repeat' (first|apply Ad|apply Aa|apply Ab|(apply Bi;exact J)|(apply Ac;(iterate 3 exact J))|(apply Af;exact J;all_goals (intro hc;try simp only [hcS,reduceCtorEq] at hc;try (exfalso;omega)))|(apply Av;(iterate 3 exact J)))
   all_goals rfl
end Go.Hw
namespace Go.Hw
open Go
attribute [local irreducible] GO GOl GDp Val Fn Res CellsAt ValE Blk OwnS MapA OwnPf Has Yl SepA forceL
open Go.Proofs (Tryz.prog)
theorem Un {n : Int} : ∀ {L : List Int},L.Pairwise (· < ·) → n ∈ L → insI n L = L
 | [],_,h => by cases h
 | m :: r,hs,h => by
   obtain ⟨h1,h2⟩:=List.pairwise_cons.1 hs
   unfold insI
   split
   · rename_i hm
     rcases List.mem_cons.1 h with e|e
     · omega
     · rw [Un h2 e]
   · split
     · rfl
     · rename_i hm he
       rcases List.mem_cons.1 h with e|e
       · exact absurd e.symm he
       · have:=h1 n e;omega
theorem Wz {n : Int} : ∀ {L : List Int} {k : Nat},k ≤ L.length → (∀ i,i < k → L.getD i 0 < n) → (k < L.length → n < L.getD k 0) → insI n L = L.take k ++ n :: L.drop k
 | [],k,hk,_,_ => by
   have : k = 0:=by simpa using hk
   subst this;rfl
 | y :: r,0,_,_,h2 => by
   have:=h2 (by simp)
   have h3 : n < y:=this
   unfold insI
   rw [if_neg (by omega),if_neg (by omega)]
   rfl
 | y :: r,k + 1,hk,h1,h2 => by
   have h3 : y < n:=h1 0 (by omega)
   unfold insI
   rw [if_pos h3,Wz (L:=r) (k:=k) (by simpa using hk) (fun i hi => h1 (i + 1) (by omega)) (fun hq => h2 (by simpa using hq))]
   rfl
theorem Zk (n : Int) : ∀ L : List Int,(insI n L).length ≤ L.length + 1
 | [] => by simp [insI]
 | y :: r => by
   have:=Zk n r
   unfold insI
   split
   · simp;omega
   · split
     · simp
     · simp
theorem Qh (C : List Fct) : (casesL C).length ≤ C.length:=by
 refine It (P:=fun C => (casesL C).length ≤ C.length) (by simp [casesL]) (fun C f ih => ?_) C
 show (casesL (C ++ [f])).length ≤ (C ++ [f]).length
 rw [Ff,List.length_append]
 split
 · have:=Zk f.ru.case (casesL C)
   simp only [List.length_cons,List.length_nil]
   have : (casesL C).length ≤ C.length:=ih
   omega
 · have : (casesL C).length ≤ C.length:=ih
   omega
theorem casesR_c (h : Ro) (A : Option Addr) (n c : Nat) (l : List (Fsh × Fct)) (hx : FactsAt h A n l) : Res Tryz.prog 144 #[.slice A n c] h (fun u h' => ∃ A' c',u = .slice A' (casesL (fcs l)).length c' ∧ SlOf encI 1 h' A' (casesL (fcs l)).length (casesL (fcs l))):=by
 refine Bn (args:=[_]) ts_ok Go.Proofs.Tryz.func144 rfl rfl fun w0 X0 => ?_
 have hlen:=hx.row.len
 have hn:=hx.small
 repeat' (first|apply Ad|apply Ag|apply Aa|apply Ab|(apply Ac;(iterate 3 exact J))|(apply Aj;(iterate 3 exact J);(first|(apply Bk (cs:=[]);(iterate 3 exact J);exact List.cons_ne_nil _ _;(iterate 4 exact J);intro b1 h1 hle1 hcs1;skip))))
 refine Bh (X:=Nat × List Int × Option Addr × Nat × Ro) (fun x => x.1 ≤ n ∧ Le h x.2.2.2.2 ∧ x.2.1 = casesL (fcs (l.take x.1)) ∧ SlOf encI 1 x.2.2.2.2 x.2.2.1 x.2.1.length x.2.1 ∧ x.2.1.length ≤ x.2.2.2.1) (fun x => n - x.1)
  (fun x => [(4,.int .i64 x.1),(3,.slice x.2.2.1 x.2.1.length x.2.2.2.1),(0,.slice A n c)]) (fun _ => []) (fun x => x.2.2.2.2) (0,[],some ⟨b1,0,none⟩,0,h1) ⟨by dsimp only;omega,hle1,rfl,SlOf.nil,Nat.le_refl _⟩ QS QT rfl ?_
 rintro ⟨i,out,A3,c3,hh⟩ ⟨hi,hle,ho,hso,hoc⟩ ih
 dsimp only at hi hle ho hso hoc ih ⊢
 obtain ⟨k3,hk3⟩ : ∃ k3,k3 = out.length:=⟨_,rfl⟩
 have hol : k3 ≤ i:=by
  have:=Qh (fcs (l.take i))
  rw [← ho,List.length_map,List.length_take] at this
  omega
 have hsorted : out.Pairwise (· < ·):=by rw [ho];exact Fq _
 rw [← hk3] at hso hoc ⊢
 by_cases hin : i < n
 · have a1:=hx.row.addrD hin
   have c1 : CellsAt hh ((addrD A).add (i * ty54.size)) (encF82 (l.getD i p0)):=(hx.row.cellsD p0 hin).le hle
   have et:=Cq p0 hlen hin
   generalize l.getD i p0 = p at *
   have e5 : casesL (fcs (l.take (i + 1))) = if p.2.kind = 4 then insI p.2.ru.case out else out:=by rw [et,Jz,Ff,← ho]
   have hmm:=fun h' (hl : Le hh h') => Zc h' A3 k3 c3 out (hso.le hl) (by omega) p.2.ru.case
   by_cases hk4 : p.2.kind = 4
   · rw [if_pos hk4] at e5
     by_cases hmem : p.2.ru.case ∈ out
     · rw [Un hsorted hmem] at e5
       rw [decide_eq_true hmem] at hmm
       have h3:=ih (i + 1,out,A3,c3,hh) ⟨by dsimp only;omega,hle,e5.symm,by rw [← hk3];exact hso,by dsimp only;omega⟩ (by dsimp only;omega)
       dsimp only at h3
       rw [← hk3] at h3
       repeat' (first|apply Ad|apply Ap|apply Ag|apply Aa|apply Ab|(apply Bi;exact J)|(apply Be;(iterate 3 exact J);omega;exact J;exact J)|(apply Ac;(iterate 3 exact J))|(apply Bc;exact J;exact J;(first|(apply Bb (j:=i);(iterate 5 exact J);exact a1;(with_reducible exact J);omega)|(apply Aw;exact J;first|exact Bp rfl (by assumption) rfl|exact By rfl (by assumption) rfl|exact Bv rfl (by assumption) rfl|exact Lv_roF3 rfl (by assumption) rfl));exact QA)|(apply Aj;(iterate 3 exact J);(first|(apply Ai;exact J;exact Uu;exact hmm _ QL;skip)))|(apply Af;exact J;all_goals (intro hc;try simp only [hcS,reduceCtorEq] at hc;try (exfalso;omega)))|(apply Bg;exact J;exact J;all_goals (intro hc;try simp only [hcS,reduceCtorEq] at hc;try (exfalso;omega))))
       all_goals first
        | (exfalso;omega)
        | contradiction
        | (refine Bm QS QT (h3))
     · rw [decide_eq_false hmem] at hmm
       repeat' (first|apply Ad|apply Ap|apply Ag|apply Aa|apply Ab|(apply Ac;(iterate 3 exact J))|(apply Bc;exact J;exact J;(first|(apply Bb (j:=i);(iterate 5 exact J);exact a1;(with_reducible exact J);omega)|(apply Aw;exact J;first|exact Bp rfl (by assumption) rfl|exact By rfl (by assumption) rfl|exact Bv rfl (by assumption) rfl|exact Lv_roF3 rfl (by assumption) rfl));exact QA)|(apply Aj;(iterate 3 exact J);(first|(apply Ai;exact J;exact Uu;exact hmm _ QL;skip)))|(apply Af;exact J;all_goals (intro hc;try simp only [hcS,reduceCtorEq] at hc;try (exfalso;omega)))|(apply Bg;exact J;exact J;all_goals (intro hc;try simp only [hcS,reduceCtorEq] at hc;try (exfalso;omega))))
       all_goals (try (exfalso;omega))
       refine Bh (X:=Nat) (fun x => x ≤ k3 ∧ ∀ t,t < x → out.getD t 0 < p.2.ru.case) (fun x => k3 - x) (fun x => [(5,.int .i64 x),(4,.int .i64 i),(3,.slice A3 k3 c3),(0,.slice A n c)]) (fun _ => []) (fun x => hh) 0 ⟨by omega,fun t ht => absurd ht (by omega)⟩ QS QT rfl ?_
       rintro j ⟨hj,hI⟩ ih2
       by_cases hjk : j < k3
       · have b1:=hso.addrD hjk
         have d1 : CellsAt hh ((addrD A3).add (j * ty3.size)) (encI (out.getD j 0)):=hso.cellsD 0 hjk
         have hmj:=Dt 0 (show j < out.length by omega)
         obtain ⟨q,hq⟩ : ∃ q,q = out.getD j 0:=⟨_,rfl⟩
         rw [← hq] at d1 hmj
         by_cases hlt : q < p.2.ru.case
         · have h3:=ih2 (j + 1) ⟨by omega,fun t ht => by
            rcases Nat.lt_or_ge t j with w1|w1
            · exact hI t w1
            · have : t = j:=by omega
              subst this;rw [← hq];exact hlt⟩ (by omega)
           repeat' (first|apply Ad|apply Ap|apply Ah|apply Ag|apply Aa|apply Ab|(apply Be;(iterate 3 exact J);omega;exact J;exact J)|(apply Ac;(iterate 3 exact J))|(apply Ba (n:=7) [0,1,2,3,4,5,6,7,8,9,10,11,12,13,14,15,16] [(0,0),(1,0),(2,0),(3,0),(4,0),(5,0),(6,0),(7,0),(8,0),(9,0),(10,0),(11,0),(12,0),(13,0),(14,0),(15,0),(16,0)];kernel_rfl)|(apply Cb;exact J;kernel_rfl;(iterate 3 exact J))|(apply Cg;exact J;kernel_rfl;exact J;exact J;(first|(first|(apply Bb (j:=j) (n:=k3);(iterate 5 exact J);exact b1;(with_reducible exact J);omega)|(apply Bb (j:=i) (n:=n);(iterate 5 exact J);exact a1;(with_reducible exact J);omega))|(apply Aw;exact J;apply Bp;exact J;(with_reducible exact d1);exact J)|(apply Aw;exact J;first|exact Bp rfl (by assumption) rfl|exact By rfl (by assumption) rfl|exact Bv rfl (by assumption) rfl|exact Lv_roF3 rfl (by assumption) rfl));exact QA)|(apply Bj;kernel_rfl;exact J)|(apply Cy;(iterate 5 exact J);all_goals (intro hc;try simp only [hcS,reduceCtorEq] at hc;try (exfalso;omega)))|(apply Af;exact J;all_goals (intro hc;try simp only [hcS,reduceCtorEq] at hc;try (exfalso;omega))))
           all_goals first
            | (exfalso;omega)
            | (refine Bm QS QT (h3))
         · have hgt : p.2.ru.case < q:=by
            rcases Int.lt_trichotomy q p.2.ru.case with w|w|w
            · omega
            · exact absurd (w ▸ hmj) hmem
            · exact w
           have hat:=Wz (n:=p.2.ru.case) (L:=out) (k:=j) (by omega) hI (fun _ => by rw [← hq];exact hgt)
           rw [hat] at e5
           clear ih2
           repeat' (first|apply Ad|apply Ah|apply Aa|apply Ab|(apply Bi;exact J)|(apply Be;(iterate 3 exact J);omega;exact J;exact J)|(apply Ac;(iterate 3 exact J))|(apply Aj;(iterate 3 exact J);(first|(apply Gg (enc:=encI) (hi:=j);(iterate 6 exact J);exact (hso.le QL);(with_reducible exact J);(with_reducible exact J);omega;exact hoc;intro A6 hs6;skip)|(apply Fr (enc:=encI) (xs:=out.take j) (ys:=[p.2.ru.case] ++ out.drop j);(iterate 7 exact J);exact hs6;exact (hs7.le QL);exact J;omega;exact fun _ => rfl;omega;exact J;intro A9 c9 h9 hle9 hnc9 hs9;skip)))|(apply Ba (n:=7) [0,1,2,3,4,5,6,7,8,9,10,11,12,13,14,15,16] [(0,0),(1,0),(2,0),(3,0),(4,0),(5,0),(6,0),(7,0),(8,0),(9,0),(10,0),(11,0),(12,0),(13,0),(14,0),(15,0),(16,0)];kernel_rfl)|(apply Ba (n:=9) [0,1,2,3,4,5,6,7,8,9,10,11] [(0,0),(1,0),(2,0),(3,0),(4,0),(5,0),(7,0),(8,0),(9,0),(6,1),(10,1),(11,0)];kernel_rfl)|(apply Cb;exact J;kernel_rfl;(iterate 3 exact J))|(apply Cg;exact J;kernel_rfl;exact J;exact J;(first|(first|(apply Bb (j:=j) (n:=k3);(iterate 5 exact J);exact b1;(with_reducible exact J);omega)|(apply Bb (j:=i) (n:=n);(iterate 5 exact J);exact a1;(with_reducible exact J);omega))|(apply Aw;exact J;apply Bp;exact J;(with_reducible exact d1);exact J)|(apply Et (lo:=j) (n:=k3) (c:=c3);(iterate 5 exact J);(with_reducible exact J);omega)|(apply Aw;exact J;first|exact Bp rfl (by assumption) rfl|exact By rfl (by assumption) rfl|exact Bv rfl (by assumption) rfl|exact Lv_roF3 rfl (by assumption) rfl));exact QA)|(apply Bq;exact J;kernel_rfl;(iterate 3 exact J);(first|(apply Bw (n:=1) (cs:=[p.2.ru.case].flatMap encI);(iterate 3 exact J);exact List.cons_ne_nil _ _;(iterate 6 exact J);intro b8;refine ⟨Le.refl _,QN,?_⟩)|(apply Fa (enc:=encI) (n:=1) (xs:=[p.2.ru.case]) (ys:=out.drop j);(iterate 7 exact J);exact ((hso.low (lo:=j) (c:=c3) (by omega) hoc).le QL);exact fun _ => rfl;exact (fun x => Bz rfl);exact QK;exact J;omega;exact J;intro A7 c7 h7 hle7 hnc7 hs7;refine ⟨hle7,QN,?_⟩)))|(apply Bj;kernel_rfl;exact J)|(apply Cy;(iterate 5 exact J);all_goals (intro hc;try simp only [hcS,reduceCtorEq] at hc;try (exfalso;omega)))|(apply Af;exact J;all_goals (intro hc;try simp only [hcS,reduceCtorEq] at hc;try (exfalso;omega))))
           all_goals (try (exfalso;omega))
           all_goals
            have hln : (out.take j ++ ([p.2.ru.case] ++ out.drop j)).length = j + (1 + (k3 - j)):=by simp;omega
            have h3:=ih (i + 1,out.take j ++ ([p.2.ru.case] ++ out.drop j),A9,c9,h9) ⟨by dsimp only;omega,by dsimp only;exact hle.trans QL,e5.symm,by dsimp only;rw [hln];exact hs9,by dsimp only;rw [hln];exact hnc9⟩ (by dsimp only;omega)
            dsimp only at h3
            rw [hln] at h3
            refine Bm QS QT (h3)
       · have hjk2 : j = k3:=by omega
         have hat:=Wz (n:=p.2.ru.case) (L:=out) (k:=j) (by omega) hI (fun w => by omega)
         rw [hat] at e5
         clear ih2
         repeat' (first|apply Ad|apply Ah|apply Aa|apply Ab|(apply Bi;exact J)|(apply Be;(iterate 3 exact J);omega;exact J;exact J)|(apply Ac;(iterate 3 exact J))|(apply Aj;(iterate 3 exact J);(first|(apply Gg (enc:=encI) (hi:=j);(iterate 6 exact J);exact (hso.le QL);(with_reducible exact J);(with_reducible exact J);omega;exact hoc;intro A6 hs6;skip)|(apply Fr (enc:=encI) (xs:=out.take j) (ys:=[p.2.ru.case] ++ out.drop j);(iterate 7 exact J);exact hs6;exact (hs7.le QL);exact J;omega;exact fun _ => rfl;omega;exact J;intro A9 c9 h9 hle9 hnc9 hs9;skip)))|(apply Ba (n:=7) [0,1,2,3,4,5,6,7,8,9,10,11,12,13,14,15,16] [(0,0),(1,0),(2,0),(3,0),(4,0),(5,0),(6,0),(7,0),(8,0),(9,0),(10,0),(11,0),(12,0),(13,0),(14,0),(15,0),(16,0)];kernel_rfl)|(apply Ba (n:=9) [0,1,2,3,4,5,6,7,8,9,10,11] [(0,0),(1,0),(2,0),(3,0),(4,0),(5,0),(7,0),(8,0),(9,0),(6,1),(10,1),(11,0)];kernel_rfl)|(apply Lm;exact J;kernel_rfl;exact J;exact J)|(apply Cb;exact J;kernel_rfl;(iterate 3 exact J))|(apply Cg;exact J;kernel_rfl;exact J;exact J;(first|(apply Bb (j:=i) (n:=n);(iterate 5 exact J);exact a1;(with_reducible exact J);omega)|(apply Et (lo:=j) (n:=k3) (c:=c3);(iterate 5 exact J);(with_reducible exact J);omega)|(apply Aw;exact J;first|exact Bp rfl (by assumption) rfl|exact By rfl (by assumption) rfl|exact Bv rfl (by assumption) rfl|exact Lv_roF3 rfl (by assumption) rfl));exact QA)|(apply Bq;exact J;kernel_rfl;(iterate 3 exact J);(first|(apply Bw (n:=1) (cs:=[p.2.ru.case].flatMap encI);(iterate 3 exact J);exact List.cons_ne_nil _ _;(iterate 6 exact J);intro b8;refine ⟨Le.refl _,QN,?_⟩)|(apply Fa (enc:=encI) (n:=1) (xs:=[p.2.ru.case]) (ys:=out.drop j);(iterate 7 exact J);exact ((hso.low (lo:=j) (c:=c3) (by omega) hoc).le QL);exact fun _ => rfl;exact (fun x => Bz rfl);exact QK;exact J;omega;exact J;intro A7 c7 h7 hle7 hnc7 hs7;refine ⟨hle7,QN,?_⟩)))|(apply Bj;kernel_rfl;exact J)|(apply Cy;(iterate 5 exact J);all_goals (intro hc;try simp only [hcS,reduceCtorEq] at hc;try (exfalso;omega)))|(apply Af;exact J;all_goals (intro hc;try simp only [hcS,reduceCtorEq] at hc;try (exfalso;omega))))
         all_goals (try (exfalso;omega))
         all_goals
          have hln : (out.take j ++ ([p.2.ru.case] ++ out.drop j)).length = j + (1 + (k3 - j)):=by simp;omega
          have h3:=ih (i + 1,out.take j ++ ([p.2.ru.case] ++ out.drop j),A9,c9,h9) ⟨by dsimp only;omega,by dsimp only;exact hle.trans QL,e5.symm,by dsimp only;rw [hln];exact hs9,by dsimp only;rw [hln];exact hnc9⟩ (by dsimp only;omega)
          dsimp only at h3
          rw [hln] at h3
          refine Bm QS QT (h3)
   · rw [if_neg hk4] at e5
     have h3:=ih (i + 1,out,A3,c3,hh) ⟨by dsimp only;omega,hle,e5.symm,by rw [← hk3];exact hso,by dsimp only;omega⟩ (by dsimp only;omega)
     dsimp only at h3
     rw [← hk3] at h3
     repeat' (first|apply Ad|apply Ap|apply Ag|apply Aa|apply Ab|(apply Bi;exact J)|(apply Az;exact J;exact J)|(apply Be;(iterate 3 exact J);omega;exact J;exact J)|(apply Ac;(iterate 3 exact J))|(apply Bc;exact J;exact J;(first|(apply Bb (j:=i);(iterate 5 exact J);exact a1;(with_reducible exact J);omega)|(apply Aw;exact J;first|exact Bp rfl (by assumption) rfl|exact By rfl (by assumption) rfl|exact Bv rfl (by assumption) rfl|exact Lv_roF3 rfl (by assumption) rfl));exact QA)|(apply Af;exact J;all_goals (intro hc;try simp only [hcS,reduceCtorEq] at hc;try (exfalso;omega)))|(apply Bg;exact J;exact J;all_goals (intro hc;try simp only [hcS,reduceCtorEq] at hc;try (exfalso;omega))))
     all_goals first
      | (exfalso;omega)
      | contradiction
      | (refine Bm QS QT (h3))
 · rw [List.take_of_length_le (by omega)] at ho
   clear ih
   rw [← ho,← hk3]
   repeat' (first|apply Ad|apply Aa|apply Ab|(apply Bi;exact J)|(apply Ac;(iterate 3 exact J))|(apply Af;exact J;all_goals (intro hc;try simp only [hcS,reduceCtorEq] at hc;try (exfalso;omega))))
   all_goals first
    | (exfalso;omega)
    | (exact Ca rfl rfl rfl ⟨A3,c3,rfl,hso⟩)
end Go.Hw
namespace Go.Hw
open Go
attribute [local irreducible] GO GOl GDp Val Fn Res CellsAt ValE Blk OwnS MapA OwnPf Has Yl SepA forceL
open Go.Proofs (Tryz.prog)
theorem Ts {l : List (Fsh × Fct)} {num i : Int} {f : Fct} (h : standI (fcs l) num i = some f) : ∃ j y,j < l.length ∧ idxP (fun p : Fsh × Fct => decide (OfCase num p.2 ∧ p.2.ru.inst = i)) l 0 = (j : Int) ∧ l[j]? = some y ∧ y.2 = f:=by
 have e : standI (fcs l) num i = (l.find? fun p : Fsh × Fct => decide (OfCase num p.2 ∧ p.2.ru.inst = i)).map (·.2):=by
  unfold standI fcs
  rw [List.find?_map];rfl
 rw [e] at h
 obtain ⟨y,hy,hyf⟩:=Option.map_eq_some_iff.1 h
 rcases Gt (fun p : Fsh × Fct => decide (OfCase num p.2 ∧ p.2.ru.inst = i)) l 0 with ⟨_,e2⟩|⟨j,x,e1,e2,e3,e4⟩
 · rw [e2] at hy;cases hy
 · rw [e4] at hy
   cases hy
   exact ⟨j,y,e1,by rw [e2,Nat.zero_add],e3,hyf⟩
theorem Qa (h : Ro) (A : Option Addr) (n c : Nat) (l : List (Fsh × Fct)) (hx : FactsAt h A n l) (hn6 : n ≤ 65536) : Res Tryz.prog 65 #[.slice A n c] h (fun u h' => ∃ A' c' l',u = .slice A' l'.length c' ∧ LedIs h' A' l'.length c' l' (forceL (canonL (fcs l)))):=by
 refine Bn (args:=[_]) ts_ok Go.Proofs.Tryz.func65 rfl rfl fun w0 X0 => ?_
 have h32 : In32 (fcs l):=Oq hx.fat
 have hok : ∀ f ∈ canonL (fcs l),FctOk f:=fun f hf => (((Ck (fcs l) h32).2 f).1 hf).2
 have hcan:=fun h' (hl : Le h h') => Ama h' A n c l (hx.le hl) hn6
 obtain ⟨C,hC⟩ : ∃ C,C = canonL (fcs l):=⟨_,rfl⟩
 rw [← hC] at hcan hok ⊢
 clear hx
 repeat' (first|apply Ad|apply Ag|apply Aa|apply Ab|(apply Ac;(iterate 3 exact J))|(apply Aj;(iterate 3 exact J);(first|(apply Bf;exact J;exact has56;exact hcan _ QL;rintro v1 h1 hle1 ⟨A3,k3,c3,l3,rfl,hL⟩;skip)|(apply Bf;exact J;exact has144;exact casesR_c _ A3 k3 c3 l3 (hL.2.1.facts.le QL);rw [hL.2.2];rintro v2 h2 hle2 ⟨A5,c5,rfl,hs5⟩;skip)|(apply Bw (n:=0);(iterate 3 exact J);exact List.cons_ne_nil _ _;(iterate 6 exact J);intro b8;skip))))
 have hlen3:=hL.2.1.row.len
 have hsm3:=hL.2.1.small
 have hnl:=Qh C
 have hCl : C.length = k3:=by rw [← hL.2.2,List.length_map,hlen3]
 have hmem : ∀ m ∈ casesL C,∃ f ∈ C,OfCase m f:=fun m hm => (Ep C m).1 hm
 rw [show forceL C = forceN C (casesL C) from (Pw C).symm]
 generalize casesL C = ns at *
 refine Bh (X:=Nat × List (Fsh × Fct) × Option Addr × Nat × Ro) (fun x => x.1 ≤ ns.length ∧ Le h2 x.2.2.2.2 ∧ (∀ p ∈ x.2.1,FGd h2 p) ∧ fcs x.2.1 = forceN C (ns.take x.1)) (fun x => ns.length - x.1)
  (fun x => [(6,.int .i64 x.1),(3,.slice A3 k3 c3),(4,.slice A5 ns.length c5),(5,.slice x.2.2.1 x.2.1.length x.2.2.2.1)])
  (fun x => [OwnS 54 82 (.slice x.2.2.1 x.2.1.length x.2.2.2.1) x.2.1.length (x.2.1.flatMap encF82)]) (fun x => x.2.2.2.2) (0,[],some ⟨b8,0,none⟩,0,h2) ⟨by dsimp only;omega,Le.refl _,by simp,rfl⟩ QS QT rfl ?_
 rintro ⟨k,out,A4,c4,hh⟩ ⟨hk,hle,hgd,ho⟩ ih
 dsimp only at hk hle hgd ho ih ⊢
 have hol : out.length ≤ k:=by
  have q:=congrArg List.length ho
  have q2:=Pv C (ns.take k)
  rw [List.length_map] at q
  rw [List.length_take] at q2
  omega
 by_cases hkn : k < ns.length
 · have a5:=hs5.addrD hkn
   have d5 : CellsAt hh ((addrD A5).add (k * ty3.size)) (encI (ns.getD k 0)):=(hs5.cellsD 0 hkn).le hle
   have et:=Cq 0 (xs:=ns) rfl hkn
   have hnm:=hmem _ (Dt 0 hkn)
   generalize ns.getD k 0 = m at *
   have hxl : FactsAt hh A3 k3 l3:=hL.2.1.facts.le QL
   have hsu:=suspR10_c hh A3 k3 c3 l3 hxl m
   have hla:=Uk hh A3 k3 c3 l3 hxl m
   rw [hL.2.2] at hsu hla
   have e0 : forceN C (ns.take (k + 1)) = fcs out ++ (if HeldI C m then none else standI C m (lastI C m)).toList:=by rw [et,Oa,ho]
   by_cases hH : HeldI C m
   · rw [decide_eq_true hH] at hsu
     rw [if_pos hH] at e0
     have h3:=ih (k + 1,out,A4,c4,hh) ⟨by dsimp only;omega,hle,hgd,by dsimp only;rw [e0];simp⟩ (by dsimp only;omega)
     dsimp only at h3
     repeat' (first|apply Ad|apply Ap|apply Ah|apply Ag|apply Aa|apply Ab|(apply Be;(iterate 3 exact J);omega;exact J;exact J)|(apply Ac;(iterate 3 exact J))|(apply Bc;exact J;exact J;(first|(apply Bb (j:=k) (n:=ns.length);(iterate 5 exact J);exact a5;(with_reducible exact J);omega)|(apply Aw;exact J;apply Bp;exact J;(with_reducible exact d5);exact J));exact QA)|(apply Aj;(iterate 3 exact J);(first|(apply Ai;exact J;exact has145;exact hsu;skip)))|(apply Af;exact J;all_goals (intro hc;try simp only [hcS,reduceCtorEq] at hc;try (exfalso;omega))))
     all_goals first
      | (exfalso;omega)
      | (refine Bm QS QT (h3))
   · rw [decide_eq_false hH] at hsu
     rw [if_neg hH] at e0
     obtain ⟨_,f9,hf9⟩:=Ks hok hnm
     rw [hf9] at e0
     have hstd:=Pk hh A3 k3 c3 l3 hxl m (lastI C m)
     obtain ⟨jj,y,hjj,hij,hyy,hyf⟩:=Ts (l:=l3) (by rw [hL.2.2];exact hf9)
     rw [hij] at hstd
     have aL:=hL.2.1.row.addrD (show jj < k3 by omega)
     have dL : CellsAt hh ((addrD A3).add (jj * ty54.size)) (encF82 y):=by
      have:=(hL.2.1.row.cellsD p0 (show jj < k3 by omega)).le (show Le h1 hh from QL)
      rwa [List.getD_eq_getElem?_getD,hyy] at this
     have hyg : FGd h2 y:=(hL.2.1.good y (List.mem_of_getElem? hyy)).le hle2
     repeat' (first|apply Ad|apply Ap|apply Ah|apply Ag|apply Aa|apply Ab|(apply Be;(iterate 3 exact J);omega;exact J;exact J)|(apply Ac;(iterate 3 exact J))|(apply Bc;exact J;exact J;(first|(first|(apply Bb (j:=k) (n:=ns.length);(iterate 5 exact J);exact a5;(with_reducible exact J);omega)|(apply Bb (j:=jj) (n:=k3);(iterate 5 exact J);exact aL;(with_reducible exact J);omega))|(first|(apply Aw;exact J;apply Bp;exact J;(with_reducible exact d5);exact J)|(apply Aw;exact J;apply Bp;exact J;(with_reducible exact dL);exact J)));exact QA)|(apply Aj;(iterate 3 exact J);(first|(apply Ai;exact J;exact has145;exact hsu;skip)))|(apply Ba (n:=8) [0,1,2,3,4,5,6,7,8,9,10,11,12,13,14,15,16,17,18] [(0,0),(1,0),(2,0),(3,0),(4,0),(5,0),(6,0),(7,0),(8,0),(9,0),(10,0),(11,0),(12,1),(13,1),(14,0),(15,0),(16,1),(17,1),(18,0)];kernel_rfl)|(apply Cb;exact J;kernel_rfl;(iterate 3 exact J))|(apply Cg;exact J;kernel_rfl;exact J;exact J;(first|(first|(apply Bb (j:=k) (n:=ns.length);(iterate 5 exact J);exact a5;(with_reducible exact J);omega)|(apply Bb (j:=jj) (n:=k3);(iterate 5 exact J);exact aL;(with_reducible exact J);omega))|(first|(apply Aw;exact J;apply Bp;exact J;(with_reducible exact d5);exact J)|(apply Aw;exact J;apply Bp;exact J;(with_reducible exact dL);exact J)));exact QA)|(apply Bq;exact J;kernel_rfl;(iterate 3 exact J);(first|(apply Ai;exact J;exact has146;exact hla;refine ⟨Le.refl _,QN,?_⟩)|(apply Ai;exact J;exact has57;exact hstd;refine ⟨Le.refl _,QN,?_⟩)|(apply Ar (enc:=encF82) (n:=1) [y];(iterate 3 exact J);exact List.cons_ne_nil _ _;(iterate 4 exact J);exact Bl;exact J;exact J;intro b5 h5 hle5 hs6;refine ⟨hle5,QN,?_⟩)|(apply Bo (enc:=encF82) (xs:=out);(iterate 7 exact J);exact hs6;exact Bl;exact Fe;intro v1;exact QR;omega;exact J;intro A6 c6;refine ⟨Le.refl _,QN,?_⟩)))|(apply Bj;kernel_rfl;exact J)|(apply Af;exact J;all_goals (intro hc;try simp only [hcS,reduceCtorEq] at hc;try (exfalso;omega))))
     all_goals first
      | (exfalso;omega)
      | (have h3:=ih (k + 1,out ++ [y],A6,c6,h5) ⟨by dsimp only;omega,hle.trans hle5,fun q hq => by
          rcases List.mem_append.1 hq with w|w
          · exact hgd q w
          · rw [List.mem_singleton] at w;subst w;exact hyg,by dsimp only;rw [e0,Jz,hyf];rfl⟩ (by dsimp only;omega)
         dsimp only at h3
         rw [List.length_append] at h3
         refine Bm QS QT (h3))
 · rw [List.take_of_length_le (by omega)] at ho
   clear ih
   refine Dw (enc:=encF82) (e:=54) (sz:=82) (n:=out.length) (xs:=out) Bl rfl QK ?_
   intro A6 c6 h6 hle6 e6 hnc6 hs6
   cases e6
   repeat' (first|apply Ad|apply Aa|apply Ab|(apply Bi;exact J)|(apply Ac;(iterate 3 exact J))|(apply Af;exact J;all_goals (intro hc;try simp only [hcS,reduceCtorEq] at hc;try (exfalso;omega))))
   all_goals first
    | (exfalso;omega)
    | (exact Ca rfl rfl rfl ⟨A4,c4,out,rfl,hnc6,⟨hs6,fun p hp => (hgd p hp).le QL,by omega⟩,ho⟩)
theorem Qr (h : Ro) (A : Option Addr) (n c : Nat) (l : List (Fsh × Fct)) (hx : FactsAt h A n l) (hn6 : n ≤ 65536) : Res Tryz.prog 67 #[.slice A n c] h (fun u h' => ∃ A' c' rl,u = .slice A' rl.length c' ∧ SlOf rulC 17 h' A' rl.length rl ∧ rl = (forceL (canonL (fcs l))).map (·.ru) ∧ rl.length ≤ 1000000):=by
 refine Bn (args:=[_]) ts_ok Go.Proofs.Tryz.func67 rfl rfl fun w0 X0 => ?_
 obtain ⟨L,hL⟩ : ∃ L,L = forceL (canonL (fcs l)):=⟨_,rfl⟩
 have hfi:=fun h' (hl : Le h h') => Qa h' A n c l (hx.le hl) hn6
 rw [← hL] at hfi ⊢
 repeat' (first|apply Ad|apply Ag|apply Aa|apply Ab|(apply Ac;(iterate 3 exact J))|(apply Aj;(iterate 3 exact J);(first|(apply Bf;exact J;exact has65;exact hfi _ QL;rintro w1 h1 hle1 ⟨A3,c3,l3,rfl,hL3⟩;skip)|(apply Bw (n:=0);(iterate 3 exact J);exact List.cons_ne_nil _ _;(iterate 6 exact J);intro b8;skip))))
 have hs9:=hL3.2.1.row
 have hn3:=hL3.2.1.small
 have hf3:=hL3.2.2
 refine Bh (X:=Nat × List FRul × Option Addr × Nat × Ro) (fun x => x.1 ≤ l3.length ∧ Le h1 x.2.2.2.2 ∧ x.2.1 = (fcs (l3.take x.1)).map (·.ru)) (fun x => l3.length - x.1)
  (fun x => [(5,.int .i64 x.1),(3,.slice A3 l3.length c3),(4,.slice x.2.2.1 x.2.1.length x.2.2.2.1)])
  (fun x => [OwnS 44 17 (.slice x.2.2.1 x.2.1.length x.2.2.2.1) x.2.1.length (x.2.1.flatMap rulC)]) (fun x => x.2.2.2.2) (0,[],some ⟨b8,0,none⟩,0,h1) ⟨by dsimp only;omega,Le.refl _,rfl⟩ QS QT rfl ?_
 rintro ⟨k,out,A4,c4,hh⟩ ⟨hk,hle,ho⟩ ih
 dsimp only at hk hle ho ih ⊢
 have hol : out.length ≤ k:=by
  rw [ho,List.length_map,List.length_map,List.length_take];omega
 by_cases hkn : k < l3.length
 · have a1:=hs9.addrD hkn
   have cc : CellsAt hh ((addrD A3).add (k * ty54.size)) (encF82 (l3.getD k p0)):=(hs9.cellsD p0 hkn).le hle
   have et:=Cq p0 (xs:=l3) rfl hkn
   generalize l3.getD k p0 = p at *
   repeat' (first|apply Ad|apply Ap|apply Ah|apply Ag|apply Aa|apply Ab|(apply Be;(iterate 3 exact J);omega;exact J;exact J)|(apply Ac;(iterate 3 exact J))|(apply Bc;exact J;exact J;(first|(apply Bb (j:=k);(iterate 5 exact J);exact a1;(with_reducible exact J);omega)|(apply Aw;exact J;first|exact Bp rfl (by assumption) rfl|exact By rfl (by assumption) rfl|exact Bv rfl (by assumption) rfl|exact Lv_roF3 rfl (by assumption) rfl));exact QA)|(apply Aj;(iterate 3 exact J);(first|(apply Ar (enc:=rulC) (n:=1) [p.2.ru];(iterate 3 exact J);exact List.cons_ne_nil _ _;(iterate 4 exact J);exact fun _ => rfl;exact J;exact J;intro b5 h5 hle5 hs5;skip)|(apply Bo (enc:=rulC) (xs:=out);(iterate 7 exact J);exact hs5;exact fun _ => rfl;exact fun x => Bz rfl;intro v1;exact QR;omega;exact J;intro A5 c5;skip)))|(apply Af;exact J;all_goals (intro hc;try simp only [hcS,reduceCtorEq] at hc;try (exfalso;omega))))
   all_goals first
    | (exfalso;omega)
    | (have h3:=ih (k + 1,out ++ [p.2.ru],A5,c5,h5) ⟨by dsimp only;omega,hle.trans hle5,by dsimp only;rw [ho,et];simp [fcs]⟩ (by dsimp only;omega)
       dsimp only at h3
       rw [List.length_append] at h3
       refine Bm QS QT (h3))
 · rw [List.take_of_length_le (by omega),hf3] at ho
   clear ih
   refine Dw (enc:=rulC) (e:=44) (sz:=17) (n:=out.length) (xs:=out) (fun _ => rfl) rfl QK ?_
   intro A7 c7 h7 hle7 e7 hnc7 hs7
   cases e7
   repeat' (first|apply Ad|apply Aa|apply Ab|(apply Bi;exact J)|(apply Ac;(iterate 3 exact J))|(apply Af;exact J;all_goals (intro hc;try simp only [hcS,reduceCtorEq] at hc;try (exfalso;omega))))
   all_goals first
    | (exfalso;omega)
    | (exact Ca rfl rfl rfl ⟨A4,c4,out,rfl,hs7,ho,by omega⟩)
end Go.Hw

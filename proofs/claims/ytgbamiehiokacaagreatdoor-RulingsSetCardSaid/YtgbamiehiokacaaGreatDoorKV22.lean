import Derived.Test.YtgbamiehiokacaaGreatDoorKV15
import Derived.Test.YtgbamiehiokacaaGreatDoorKV14s
import Derived.Test.YtgbamiehiokacaaGreatDoorHB
set_option linter.unusedVariables false
set_option linter.unusedSimpArgs false
set_option maxRecDepth 100000
set_option maxHeartbeats 8000000
namespace Go.Hw
open Go
attribute [local irreducible] GO GOl GDp Val Fn Res CellsAt ValE Blk OwnS MapA OwnPf Has Yl SepA forceL idF voidL
open Go.Proofs (Tryz.prog)
theorem GOl_convW {C : Ctx} {ds : List Deferred} {l : Sl} {Es : List Asn} {h : Ro} {ops : Array Oper} {os : List Oper} {K : List Item} {s t : TypeId} {x : Operand} {k : IntKind} {p : Int} {d : Tmp} {ty : TypeId} {pos : String} {aft : Array Edge} {gd : Option (Nat × Bool)} {S : Ty} {sz by' : Nat} {z : Value}
 (hS : tyOf s C.ts = some S) (hT : tyOf t C.ts = some ⟨t,.int .u64,sz,by',z⟩) (hx : evl l x = some (.int k p))
 (hg : wantedB ops l gd = some true) (hd : dstOk C.N (some d) = true) (g : ∀ w : Int,0 ≤ w → GOl C ds ((d,(.int .u64 w)) :: l) Es h ops os K) : GOl C ds l Es h ops (⟨some d,.convert s t x,ty,pos,aft,gd⟩ :: os) K :=
 Ac (by simp [pv,hS,hT,hx,pvConv]) hg hd (g (IntKind.u64.wrap p) (by simp [IntKind.wrap,IntKind.bits,IntKind.signed];omega))
open Classical in
noncomputable def okP (l : List (Fsh × Fct)) : List (Fsh × Fct):=l.filter fun p => decide (FctOk p.2)
open Classical in
theorem okP_snoc (l : List (Fsh × Fct)) (p : Fsh × Fct) : okP (l ++ [p]) = if FctOk p.2 then okP l ++ [p] else okP l:=by
 unfold okP
 rw [List.filter_append]
 by_cases h : FctOk p.2 <;> simp [h]
open Classical in
theorem Sm {l : List (Fsh × Fct)} {p : Fsh × Fct} : p ∈ okP l ↔ p ∈ l ∧ FctOk p.2:=by
 unfold okP;rw [List.mem_filter,decide_eq_true_eq]
open Classical in
theorem okP_len (l : List (Fsh × Fct)) : (okP l).length ≤ l.length:=by unfold okP;exact List.length_filter_le _ _
theorem okP_canon {a b : List (Fsh × Fct)} (h32 : ∀ p ∈ a,p.2.void.length = 32) (hm : ∀ p,p ∈ b ↔ p ∈ a) : canonL (fcs (okP b)) = canonL (fcs a):=by
 refine Iv (fun f hf => ?_) (fun f hf => ?_) (fun x hx => ?_)
 · obtain ⟨p,hp,rfl⟩:=List.mem_map.1 hf
   exact h32 p ((hm p).1 (Sm.1 hp).1)
 · obtain ⟨p,hp,rfl⟩:=List.mem_map.1 hf
   exact h32 p hp
 · unfold fcs
   rw [List.mem_map,List.mem_map]
   constructor
   · rintro ⟨p,hp,rfl⟩
     exact ⟨p,(hm p).1 (Sm.1 hp).1,rfl⟩
   · rintro ⟨p,hp,rfl⟩
     exact ⟨p,Sm.2 ⟨(hm p).2 hp,hx⟩,rfl⟩
open Classical in
theorem set10_law (h : Ro) (hG : PowG h) (A : Option Addr) (n c : Nat) (l : List (Fsh × Fct)) (hx : LedIn h A n c l) (turn : Int) : Res Tryz.prog 4 #[.slice A n c,.int .i64 turn] h (fun u _ => u = .bool true):=by
 refine Br (args:=[_,_]) ts_ok Go.Proofs.Tryz.func4 rfl rfl fun w0 X0 => ?_
 have hfew:=few10_c h A n c l hx.row hx.small
 have hsane:=Aba h hG
 by_cases hF : (∀ p ∈ l,SmallS p.1 p.2) ∧ (n : Int) ≤ 16
 · rw [decide_eq_true hF] at hfew
   have hfa:=hx.facts16 hF.2
   have hlen:=hfa.row.len
   have hn16:=hF.2
   have hnc:=hx.cap
   have h32 : ∀ p ∈ l,p.2.void.length = 32:=fun p hp => (hfa.fat p hp).1.void
   by_cases hn0 : n = 0
   · clear hF hfa hx h32
     repeat' (first|apply Ad|apply At|apply Aa|apply Ab|(apply Ac;(iterate 3 exact J))|(apply Aj;(iterate 3 exact J);(first|(apply Ap;exact J;exact has15;exact hsane;skip)|(apply Ap;exact J;exact has16;exact hfew;skip)))|(apply Af;exact J;all_goals (intro hc;try simp only [hcS,reduceCtorEq] at hc;try (exfalso;omega))))
     all_goals first
      | (exfalso;simp at hc;done)
      | (exfalso;omega)
      | (exact Bv rfl rfl rfl rfl)
   · have hfat:=hfa.fat
     have hrow:=hfa.row
     have hlow:=fun i (hi : i ≤ n) => hrow.low (lo:=i) (c:=c) hi hnc
     have hhigh:=fun i (hi : i ≤ n) => hrow.high (hi:=i) (c:=c) hi hnc
     have hadr:=fun i (hi : i < n) => hrow.addrD hi
     have hcel:=fun i (hi : i < n) => hrow.cellsD p0 hi
     have hv1:=fun h' (hl : Le h h') => Void_c h' (hG.le hl) A n c l (hfa.le hl) (by omega)
     have hf1:=fun h' (hl : Le h h') => Fa h' (hG.le hl) A n c l (hfa.le hl)
     have hcan : ∀ T,(∀ p,p ∈ T ↔ p ∈ l) → canonL (fcs (okP T)) = canonL (fcs l):=fun T hT => okP_canon h32 hT
     generalize canonL (fcs l) = C at *
     clear hF hfa hx h32
     repeat' (first|apply Ad|apply At|apply Ah|apply Aa|apply Ab|(apply GOl_convU;(iterate 3 exact J);omega;exact J;exact J)|(apply GOl_conv;(iterate 3 exact J);omega;exact J;exact J)|(apply GOl_convW;(iterate 5 exact J);intro w hw0)|(apply GOl_remU;(iterate 3 exact J);omega;exact J;exact J;intro i hi)|(apply Ac;(iterate 3 exact J))|(apply Aj;(iterate 3 exact J);(first|(apply Ap;exact J;exact has15;exact hsane;skip)|(apply Ap;exact J;exact has16;exact hfew;skip)))|(apply Bh (n:=7) [0,1,2,3,4,5,6,7,8,9,10,11,12,13,14,15,16] [(1,0),(2,0),(3,0),(5,0),(6,0),(7,0),(9,0),(10,0),(11,0),(12,0),(16,0),(0,2),(14,13),(4,2),(8,13),(8,2),(3,13),(13,1),(14,1),(15,0),(8,1),(14,1),(15,0),(4,1),(8,1),(14,1),(15,0),(0,1),(4,1),(8,1),(14,1),(15,0)];kernel_rfl)|(apply Ca;exact J;kernel_rfl;(iterate 3 exact J))|(apply Ci;exact J;kernel_rfl;exact J;exact J;(first|(apply Ep (lo:=i) (n:=n) (c:=c);(iterate 6 exact J);omega)|(apply Er (hi:=i) (n:=n) (c:=c);(iterate 6 exact J);omega;exact hnc)|(apply Bd (j:=i);(iterate 5 exact J);exact hadr i (by omega);(with_reducible exact J);omega)|(apply Au;exact J;exact Bl rfl (hcel i (by omega)) rfl));exact QA)|(apply Bt;exact J;kernel_rfl;(iterate 3 exact J);(first|(apply Cl (n:=0);(iterate 3 exact J);exact List.cons_ne_nil _ _;(iterate 6 exact J);intro b1;refine ⟨Le.refl _,QN,?_⟩)|(apply Bj (enc:=encF82) (xs:=[]) (ys:=l.drop i);(iterate 7 exact J);exact ((hlow i (by omega)).le QL);exact Be;exact Cb;intro v1;exact QR;omega;exact J;intro A1 c1;refine ⟨Le.refl _,QN,?_⟩)|(apply Bj (enc:=encF82) (xs:=l.drop i) (ys:=l.take i);(iterate 7 exact J);exact ((hhigh i (by omega)).le QL);exact Be;exact Cb;intro v1;exact QR;omega;exact J;intro A2 c2;refine ⟨Le.refl _,QN,?_⟩)|(apply Az (enc:=encF82) (n:=1) [l.getD i p0];(iterate 3 exact J);exact List.cons_ne_nil _ _;(iterate 4 exact J);exact Be;exact J;exact J;intro bz hz1 hlez hs1;refine ⟨hlez,QN,?_⟩)|(apply Bj (enc:=encF82) (xs:=l.drop i ++ l.take i) (ys:=[l.getD i p0]);(iterate 7 exact J);exact (hs1.le QL);exact Be;exact Cb;intro v1;exact QR;omega;exact J;intro A3 c3;refine ⟨Le.refl _,QN,?_⟩)))|(apply Fc;kernel_rfl;exact J;exact J)|(apply Ce;(iterate 4 exact J);(first|(apply Cl (n:=0);(iterate 3 exact J);exact List.cons_ne_nil _ _;(iterate 6 exact J);intro b1;refine ⟨Le.refl _,QN,?_⟩)|(apply Bj (enc:=encF82) (xs:=[]) (ys:=l.drop i);(iterate 7 exact J);exact ((hlow i (by omega)).le QL);exact Be;exact Cb;intro v1;exact QR;omega;exact J;intro A1 c1;refine ⟨Le.refl _,QN,?_⟩)|(apply Bj (enc:=encF82) (xs:=l.drop i) (ys:=l.take i);(iterate 7 exact J);exact ((hhigh i (by omega)).le QL);exact Be;exact Cb;intro v1;exact QR;omega;exact J;intro A2 c2;refine ⟨Le.refl _,QN,?_⟩)|(apply Az (enc:=encF82) (n:=1) [l.getD i p0];(iterate 3 exact J);exact List.cons_ne_nil _ _;(iterate 4 exact J);exact Be;exact J;exact J;intro bz hz1 hlez hs1;refine ⟨hlez,QN,?_⟩)))|(apply Bn;kernel_rfl;exact J)|(apply Af;exact J;all_goals (intro hc;try simp only [hcS,reduceCtorEq] at hc;try (exfalso;omega))))
     all_goals (try (exfalso;simp at hc;done))
     all_goals
      have hin : i < n:=by omega
      have hmi:=mem7 p0 (show i < l.length by omega)
      generalize l.getD i p0 = xi at *
      obtain ⟨T,hTe⟩ : ∃ T,T = l.drop i ++ l.take i ++ [xi]:=⟨_,rfl⟩
      have hTm : ∀ p,p ∈ T ↔ p ∈ l:=fun p => by
       rw [hTe,List.mem_append,List.mem_append,List.mem_singleton]
       constructor
       · rintro ((h1|h1)|rfl)
         · exact List.mem_of_mem_drop h1
         · exact List.mem_of_mem_take h1
         · exact hmi
       · intro h1
         rw [← List.take_append_drop i l,List.mem_append] at h1
         exact .inl h1.symm
      have hTl : T.length = 0 + (n - i) + i + 1:=by rw [hTe];simp;omega
      rw [← hTe]
      refine Dg (enc:=encF82) (e:=54) (sz:=82) (n:=0 + (n - i) + i + 1) (xs:=T) Be hTl QK ?_
      intro A4 c4 h4 hle4 e4 hnc4 hsT
      injection e4 with e41 _ e43
      subst e41;subst e43
      have hl4 : Le h h4:=QL
      have hnT : 0 + (n - i) + i + 1 ≤ 17:=by omega
      generalize 0 + (n - i) + i + 1 = nT at *
      have hfT : ∀ p ∈ T,FAt h4 p.1 p.2 ∧ FSm p.2:=fun p hp => by
       have:=hfat p ((hTm p).1 hp)
       exact ⟨this.1.le hl4,this.2⟩
      have hcT:=hcan T hTm
      clear hlow hhigh hadr hcel hcan hTm hTe hmi hs1 hrow hfat
      refine Cz 54 82 ?_
      refine Bi (X:=Nat × List (Fsh × Fct) × Option Addr × Nat × Ro) (fun x => x.1 ≤ nT ∧ Le h4 x.2.2.2.2 ∧ x.2.1 = okP (T.take x.1)) (fun x => nT - x.1)
       (fun x => [(46,.int .i64 x.1),(45,.int .i64 nT),(44,.slice A3 nT c3),(6,.slice x.2.2.1 x.2.1.length x.2.2.2.1),(0,.slice A n c)])
       (fun x => [OwnS 54 82 (.slice x.2.2.1 x.2.1.length x.2.2.2.1) x.2.1.length (x.2.1.flatMap encF82)]) (fun x => x.2.2.2.2) (0,[],none,0,h4) ⟨by dsimp only;omega,Le.refl _,by rw [List.take_zero];unfold okP;rfl⟩ QS QT rfl ?_
      rintro ⟨k,out,A5,c5,hh⟩ ⟨hk,hle,ho⟩ ih
      dsimp only at hk hle ho ih ⊢
      have hol : out.length ≤ k:=by
       have:=okP_len (T.take k)
       rw [← ho,List.length_take] at this
       omega
      by_cases hkn : k < nT
      · have a1:=hsT.addrD hkn
        have c1:=(hsT.cellsD p0 hkn).le hle
        have et:=Cr p0 hTl hkn
        have hme:=mem7 p0 (show k < T.length by omega)
        have hfa:=hfT _ hme
        generalize T.getD k p0 = p at *
        have hch:=Fq hh p.1 p.2 (hfa.1.le hle) hfa.2
        have hsn:=okP_snoc (T.take k) p
        rw [← et,← ho] at hsn
        by_cases hP : FctOk p.2
        · rw [if_pos hP] at hsn hch
          repeat' (first|apply Ad|apply At|apply Ao|apply Ah|apply Aa|apply Ab|(apply Bg;(iterate 3 exact J);omega;exact J;exact J)|(apply Ac;(iterate 3 exact J))|(apply Aq;exact J;exact Ba rfl QM rfl;exact J;exact J)|(apply Bc;exact J;exact J;(first|(apply Bd (j:=k);(iterate 5 exact J);exact a1;(with_reducible exact J);omega)|(apply Au;exact J;exact Bl rfl c1 rfl));exact QA)|(apply Aj;(iterate 3 exact J);(first|(apply Ag;(iterate 3 exact J);exact QR;(iterate 3 exact J);skip)|(apply Ai;exact J;intro b;skip)|(apply Ap;exact J;exact Gh;exact hch;skip)|(apply Az (enc:=encF82) (n:=1) [p];(iterate 3 exact J);exact List.cons_ne_nil _ _;(iterate 4 exact J);exact Be;exact J;exact J;intro b5 h5 hle5 hs5;skip)|(apply Bj (enc:=encF82) (xs:=out);(iterate 7 exact J);exact hs5;exact Be;exact Cb;intro v1;exact QR;omega;exact J;intro A6 c6;skip)))|(apply Af;exact J;all_goals (intro hc;try simp only [hcS,reduceCtorEq] at hc;try (exfalso;omega))))
          all_goals first
           | (exfalso;omega)
           | (have h3:=ih (k + 1,out ++ [p],A6,c6,h5) ⟨by dsimp only;omega,hle.trans hle5,by dsimp only;exact hsn.symm⟩ (by dsimp only;omega)
              dsimp only at h3
              rw [List.length_append] at h3
              refine Bk QS QT (h3))
        · rw [if_neg hP] at hsn hch
          have h3:=ih (k + 1,out,A5,c5,hh) ⟨by dsimp only;omega,hle,by dsimp only;exact hsn.symm⟩ (by dsimp only;omega)
          dsimp only at h3
          repeat' (first|apply Ad|apply At|apply Ao|apply Ah|apply Aa|apply Ab|(apply Bg;(iterate 3 exact J);omega;exact J;exact J)|(apply Ac;(iterate 3 exact J))|(apply Aq;exact J;exact Ba rfl QM rfl;exact J;exact J)|(apply Bc;exact J;exact J;(first|(apply Bd (j:=k);(iterate 5 exact J);exact a1;(with_reducible exact J);omega)|(apply Au;exact J;exact Bl rfl c1 rfl));exact QA)|(apply Aj;(iterate 3 exact J);(first|(apply Ag;(iterate 3 exact J);exact QR;(iterate 3 exact J);skip)|(apply Ai;exact J;intro b;skip)|(apply Ap;exact J;exact Gh;exact hch;skip)))|(apply Af;exact J;all_goals (intro hc;try simp only [hcS,reduceCtorEq] at hc;try (exfalso;omega))))
          all_goals first
           | (exfalso;omega)
           | (refine Bk QS QT (h3))
      · rw [List.take_of_length_le (by omega)] at ho
        clear ih
        refine Dg (enc:=encF82) (e:=54) (sz:=82) (n:=out.length) (xs:=out) Be rfl QK ?_
        intro A7 c7 h7 hle7 e7 hnc7 hs7
        injection e7 with e71 _ e73
        subst e71;subst e73
        have hle77 : Le h h7:=QL
        have hle47 : Le h4 h7:=QL
        have hfo : FactsAt h7 A5 out.length out:=⟨hs7,fun p hp => by
         rw [ho] at hp
         have:=hfT p (Sm.1 hp).1
         exact ⟨this.1.le hle47,this.2⟩,by omega⟩
        rw [← ho] at hcT
        have hv2:=fun h' (hl : Le h7 h') => Void_c h' (hG.le (hle77.trans hl)) A5 out.length c5 out (hfo.le hl) (by omega)
        have hf2:=fun h' (hl : Le h7 h') => Fa h' (hG.le (hle77.trans hl)) A5 out.length c5 out (hfo.le hl)
        rw [hcT] at hv2 hf2
        have hd32 : ∀ x ∈ (voidL C).map idF,x.length = 32:=fun x hx => by
         obtain ⟨f,_,rfl⟩:=List.mem_map.1 hx
         exact On f
        clear hcT ho hs7 hfT
        repeat' (first|apply Ad|apply Aa|apply Ab|(apply Bm;exact J)|(apply Ac;(iterate 3 exact J))|(apply Aj;(iterate 3 exact J);(first|(apply Bf;exact J;exact has17;exact hv1 _ QL;rintro w3 h3 hle3 ⟨B3,d3,rl,rfl,hsl,hrl,hn3⟩;skip)|(apply Bf;exact J;exact has17;exact hv2 _ QL;rintro w4 h44 hle44 ⟨B4,d4,ql,rfl,hql,hrq,hn4⟩;skip)|(apply Bf;exact J;exact Ot;exact hf1 _ QL;rintro w5 h55 hle55 ⟨B5,d5,sl,rfl,hsl5,hrl5,hn5⟩;skip)|(apply Bf;exact J;exact Ot;exact hf2 _ QL;rintro w6 h66 hle66 ⟨B6,d6,tl,rfl,hsl6,hrl6,hn6⟩;skip)|(apply Ap;exact J;exact has21;exact sameRu_c _ B5 sl.length d5 sl (hsl5.le QL) hn5 B6 tl.length d6 tl (hsl6.le QL) (hrl5.trans hrl6.symm);skip)|(apply Ap;exact J;exact has19;exact sameDg_c _ B3 rl.length d3 rl (hsl.le QL) hn3 B4 ql.length d4 ql (hql.le QL) (hrl.trans hrq.symm) (by rw [hrl];exact hd32);skip)))|(apply Af;exact J;all_goals (intro hc;try simp only [hcS,reduceCtorEq] at hc;try (exfalso;omega))))
        all_goals first
         | (exfalso;simp at hc;done)
         | (exact Bv rfl rfl rfl rfl)
         | (exact Bv rfl rfl rfl (by simp [Dh]))
 · rw [decide_eq_false hF] at hfew
   repeat' (first|apply Ad|apply At|apply Aa|apply Ab|(apply Ar;exact J;exact J)|(apply Ac;(iterate 3 exact J))|(apply Aj;(iterate 3 exact J);(first|(apply Ap;exact J;exact has15;exact hsane;skip)|(apply Ap;exact J;exact has16;exact hfew;skip)))|(apply Af;exact J;all_goals (intro hc;try simp only [hcS,reduceCtorEq] at hc;try (exfalso;omega))))
   all_goals first
    | (exact Bv rfl rfl rfl rfl)
    | (exfalso;simp at hc;done)
end Go.Hw

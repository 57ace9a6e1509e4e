import Derived.Test.YtgbamiehiokacaaGreatDoorXB
import Derived.Test.YtgbamiehiokacaaGreatDoorKX8t
import Derived.Test.YtgbamiehiokacaaGreatDoorKR2s
import Derived.Test.YtgbamiehiokacaaGreatDoorHB
import Derived.Test.YtgbamiehiokacaaGreatDoorF24
set_option linter.unusedVariables false
set_option linter.unusedSimpArgs false
set_option maxRecDepth 100000
set_option maxHeartbeats 8000000
namespace Go.Hw
open Go
attribute [local irreducible] GO GOl GDp Val Fn Res CellsAt ValE Blk OwnS MapA OwnPf Has Yl SepA forceL decC memS suspC suspN suspOne yelC cardsF nextC regF offS offL unfitL
open Go.Proofs (Tryz.prog)
theorem same_all {a b : List (Fsh × Fct)} (h32 : In32 (fcs a)) (hm : ∀ p,p ∈ b ↔ p ∈ a) (pl day : Int) (g : FGame) : regF (fcs b) pl day = regF (fcs a) pl day ∧ unfitL (canonL (fcs b)) pl day = unfitL (canonL (fcs a)) pl day ∧ decC (fcs b) g.s g.c = decC (fcs a) g.s g.c ∧ offL (fcs b) g = offL (fcs a) g:=by
 have he : ∀ x,x ∈ fcs b ↔ x ∈ fcs a:=fun x => by
  unfold fcs
  rw [List.mem_map,List.mem_map]
  exact ⟨fun ⟨p,q,e⟩ => ⟨p,(hm p).1 q,e⟩,fun ⟨p,q,e⟩ => ⟨p,(hm p).2 q,e⟩⟩
 have h32b : In32 (fcs b):=fun f hf => h32 f ((he f).1 hf)
 have hx : ∀ x,FctOk x → (x ∈ fcs b ↔ x ∈ fcs a):=fun x _ => he x
 exact ⟨Sf h32b h32 fun x _ _ => he x,by rw [Iv h32b h32 hx],Bca h32b h32 hx _ _,offL_ext h32b h32 hx g⟩
open Classical in
theorem Yc (h : Ro) (hG : PowG h) (A : Option Addr) (n c : Nat) (l : List (Fsh × Fct)) (hx : LedIn h A n c l) (pl day : Int) (g : FGame) (turn : Int) : Res Tryz.prog 10 #[.slice A n c,.int .i64 pl,.int .i64 day,gameV g,.int .i64 turn] h (fun u _ => u = .bool true):=by
 refine Br (args:=[_,_,_,_,_]) ts_ok Go.Proofs.Tryz.func10 rfl rfl fun w0 X0 => ?_
 have hfew:=Wn h A n c l hx.row hx.small 12
 have hsane:=Mw h hG
 by_cases hF : (∀ p ∈ l,SmallS p.1 p.2) ∧ (n : Int) ≤ 12
 · rw [decide_eq_true hF] at hfew
   have hfa : FactsAt h A n l:=⟨hx.row,hx.fat,by have:=hF.2;omega⟩
   have hlen:=hfa.row.len
   have hn12:=hF.2
   have hnc:=hx.cap
   by_cases hn0 : n = 0
   · clear hF hfa hx
     repeat' (first|apply Ad|apply At|apply Aa|apply Ab|(apply Ac;(iterate 3 exact J))|(apply Aj;(iterate 3 exact J);(first|(apply Av;exact J;intro b;skip)|(apply Ap;exact J;exact Oo;exact hsane;skip)|(apply Ap;exact J;exact Mq;exact hfew;skip)))|(apply Af;exact J;all_goals (intro hc;try simp only [hcS,reduceCtorEq] at hc;try (exfalso;omega))))
     all_goals first
      | (exfalso;simp at hc;done)
      | (exfalso;omega)
      | (exact Bv rfl rfl rfl rfl)
   · have hn6 : n ≤ 65536:=by omega
     have hfat:=hfa.fat
     have hrow:=hfa.row
     have h32 : In32 (fcs l):=Fh hfa
     have hlow:=fun i (hi : i ≤ n) => hrow.low (lo:=i) (c:=c) hi hnc
     have hhigh:=fun i (hi : i ≤ n) => hrow.high (hi:=i) (c:=c) hi hnc
     have hadr:=fun i (hi : i < n) => hrow.addrD hi
     have hcel:=fun i (hi : i < n) => hrow.cellsD p0 hi
     have hr1:=fun h' (hl : Le h h') => Cx h' (hG.le hl) A n c l (hfa.le hl) pl day
     have hu1:=fun h' (hl : Le h h') => Lz h' (hG.le hl) A n c l (hfa.le hl) pl day
     have hs1:=fun h' (hl : Le h h') => Ex h' (hG.le hl) A n c l (hfa.le hl) hn6 g.s g.c
     have ho1:=fun h' (hl : Le h h') => Gf h' (hG.le hl) A n c l (hfa.le hl) hn6 g
     have hOl:=offL_len h32 g
     have hsa:=fun b hm => same_all (a:=l) (b:=b) h32 hm pl day g
     unfold regV at hr1
     generalize regF (fcs l) pl day = Z at *
     generalize unfitL (canonL (fcs l)) pl day = U at *
     generalize decC (fcs l) g.s g.c = D at *
     generalize offL (fcs l) g = O at *
     clear hF hfa hx h32
     repeat' (first|apply Ad|apply At|apply Aa|apply Ab|(apply GOl_mask;(iterate 3 exact J);decide;exact J;exact J;intro wm hw0 hw3)|(apply GOl_remB;(iterate 3 exact J);(constructor <;> omega);exact J;exact J;intro wk hk0 hk1;obtain ⟨i,rfl⟩ : ∃ i : Nat,wk = (i : Int):=⟨wk.toNat,by omega⟩)|(apply Ac;(iterate 3 exact J))|(apply Aj;(iterate 3 exact J);(first|(apply Av;exact J;intro b;skip)|(apply Ap;exact J;exact Oo;exact hsane;skip)|(apply Ap;exact J;exact Mq;exact hfew;skip)))|(apply Bh (n:=6) [0,1,2,3,4,5,6,7,8,9,10,11,12,13,14,15] [(1,0),(2,0),(3,0),(5,0),(6,0),(7,0),(9,0),(10,0),(11,0),(12,0),(0,2),(14,13),(4,2),(8,13),(8,2),(3,13),(13,1),(14,1),(15,0),(8,1),(14,1),(15,0),(4,1),(8,1),(14,1),(15,0),(0,1),(4,1),(8,1),(14,1),(15,0)];kernel_rfl)|(apply Ca;exact J;kernel_rfl;(iterate 3 exact J))|(apply Ci;exact J;kernel_rfl;exact J;exact J;(first|(apply Ep (lo:=i) (n:=n) (c:=c);(iterate 6 exact J);omega)|(apply Er (hi:=i) (n:=n) (c:=c);(iterate 6 exact J);omega;exact hnc)|(apply Bd (j:=i);(iterate 5 exact J);exact hadr i (by omega);(with_reducible exact J);omega)|(apply Au;exact J;exact Bl rfl (hcel i (by omega)) rfl));exact QA)|(apply Bt;exact J;kernel_rfl;(iterate 3 exact J);(first|(apply Cl (n:=0);(iterate 3 exact J);exact List.cons_ne_nil _ _;(iterate 6 exact J);intro b1;refine ⟨Le.refl _,QN,?_⟩)|(apply Bj (enc:=encF82) (xs:=[]) (ys:=l.drop i);(iterate 7 exact J);exact ((hlow i (by omega)).le QL);exact Be;exact Cb;intro v1;exact QR;omega;exact J;intro A1 c1;refine ⟨Le.refl _,QN,?_⟩)|(apply Bj (enc:=encF82) (xs:=l.drop i) (ys:=l.take i);(iterate 7 exact J);exact ((hhigh i (by omega)).le QL);exact Be;exact Cb;intro v1;exact QR;omega;exact J;intro A2 c2;refine ⟨Le.refl _,QN,?_⟩)|(apply Az (enc:=encF82) (n:=1) [l.getD i p0];(iterate 3 exact J);exact List.cons_ne_nil _ _;(iterate 4 exact J);exact Be;exact J;exact J;intro bz hz1 hlez hs1';refine ⟨hlez,QN,?_⟩)|(apply Bj (enc:=encF82) (xs:=l.drop i ++ l.take i) (ys:=[l.getD i p0]);(iterate 7 exact J);exact (hs1'.le QL);exact Be;exact Cb;intro v1;exact QR;omega;exact J;intro A3 c3;refine ⟨Le.refl _,QN,?_⟩)))|(apply Fc;kernel_rfl;exact J;exact J)|(apply Ce;(iterate 4 exact J);(first|(apply Cl (n:=0);(iterate 3 exact J);exact List.cons_ne_nil _ _;(iterate 6 exact J);intro b1;refine ⟨Le.refl _,QN,?_⟩)|(apply Bj (enc:=encF82) (xs:=[]) (ys:=l.drop i);(iterate 7 exact J);exact ((hlow i (by omega)).le QL);exact Be;exact Cb;intro v1;exact QR;omega;exact J;intro A1 c1;refine ⟨Le.refl _,QN,?_⟩)|(apply Bj (enc:=encF82) (xs:=l.drop i) (ys:=l.take i);(iterate 7 exact J);exact ((hhigh i (by omega)).le QL);exact Be;exact Cb;intro v1;exact QR;omega;exact J;intro A2 c2;refine ⟨Le.refl _,QN,?_⟩)|(apply Az (enc:=encF82) (n:=1) [l.getD i p0];(iterate 3 exact J);exact List.cons_ne_nil _ _;(iterate 4 exact J);exact Be;exact J;exact J;intro bz hz1 hlez hs1';refine ⟨hlez,QN,?_⟩)))|(apply Bn;kernel_rfl;exact J)|(apply Af;exact J;all_goals (intro hc;try simp only [hcS,reduceCtorEq] at hc;try (exfalso;omega))))
     all_goals (try (exfalso;simp at hc;done))
     all_goals
      have hin : i < n:=by omega
      have hmi:=mem7 p0 (show i < l.length by omega)
      generalize l.getD i p0 = xi at *
      obtain ⟨T,hTe⟩ : ∃ T,T = l.drop i ++ l.take i ++ [xi]:=⟨_,rfl⟩
      have hTm : ∀ p,p ∈ T ↔ p ∈ l:=fun p => by
       rw [hTe,List.mem_append,List.mem_append,List.mem_singleton]
       constructor
       · rintro ((h1|h1)|rfl)
         · exact List.mem_of_mem_drop h1
         · exact List.mem_of_mem_take h1
         · exact hmi
       · intro h1
         rw [← List.take_append_drop i l,List.mem_append] at h1
         exact .inl h1.symm
      have hTl : T.length = 0 + (n - i) + i + 1:=by rw [hTe];simp;omega
      rw [← hTe]
      refine Bva (enc:=encF82) (e:=54) (sz:=82) (n:=0 + (n - i) + i + 1) (xs:=T) Be hTl QK ?_
      intro A4 c4 h4 hle4 e4 hnc4 hsT
      injection e4 with e41 _ e43
      subst e41;subst e43
      have hl4 : Le h h4:=QL
      have hnT : 0 + (n - i) + i + 1 ≤ 17:=by omega
      generalize 0 + (n - i) + i + 1 = nT at *
      have hfT : FactsAt h4 A3 nT T:=⟨hsT,fun p hp => by
       have:=hfat p ((hTm p).1 hp)
       exact ⟨this.1.le hl4,this.2⟩,by omega⟩
      have hr2:=fun h' (hl : Le h4 h') => Cx h' (hG.le (hl4.trans hl)) A3 nT c3 T (hfT.le hl) pl day
      have hu2:=fun h' (hl : Le h4 h') => Lz h' (hG.le (hl4.trans hl)) A3 nT c3 T (hfT.le hl) pl day
      have hs2:=fun h' (hl : Le h4 h') => Ex h' (hG.le (hl4.trans hl)) A3 nT c3 T (hfT.le hl) (by omega) g.s g.c
      have ho2:=fun h' (hl : Le h4 h') => Gf h' (hG.le (hl4.trans hl)) A3 nT c3 T (hfT.le hl) (by omega) g
      obtain ⟨q1,q2,q3,q4⟩:=hsa T hTm
      unfold regV at hr2
      rw [q1] at hr2
      rw [q2] at hu2
      rw [q3] at hs2
      rw [q4] at ho2
      clear hlow hhigh hadr hcel hTm hTe hmi hs1' hrow hfat hfT hsT hsa q1 q2 q3 q4
      generalize suspC D = S at *
      obtain ⟨O1,O2⟩:=O
      unfold OffOut at ho1 ho2
      dsimp only at ho1 ho2 hOl
      repeat' (first|apply Ad|apply Aa|apply Ab|(apply Ac;(iterate 3 exact J))|(apply Aq;exact J;exact Ba rfl QM rfl;exact J;exact J)|(apply Aj;(iterate 3 exact J);(first|(apply Bf;exact J;exact Wb;(first|exact hr1 _ QL|exact hr2 _ QL);rintro v1 h5 hle5 rfl;skip)|(apply Bf;exact J;exact Cxa;exact ho1 _ QL;rintro v2 h6 hle6 ⟨B1,e1,B2,e2,rfl,hO1,hO2⟩;skip)|(apply Bf;exact J;exact Cxa;exact ho2 _ QL;rintro v3 h7 hle7 ⟨B3,e3,B4,e4,rfl,hO3,hO4⟩;skip)))|(apply Bh (n:=11) [0,1,2,3,4,5,6,7,8,9,10,11,12,13,14,15,16,17,18,19,20,21,22,23,24,25,26,27,28,29,30,31,32,33,34,35,36,37,38,39,40,41,42,43,44] [(0,0),(1,0),(2,0),(3,0),(4,0),(5,0),(6,0),(7,0),(8,0),(9,0),(10,0),(11,0),(13,0),(14,0),(15,0),(12,1),(16,1),(17,0),(18,0),(19,0),(20,0),(21,0),(22,0),(23,0),(24,0),(26,0),(27,0),(28,0),(29,0),(30,0),(25,1),(31,1),(32,1),(33,0),(34,0),(35,0),(36,0),(37,1),(38,0),(39,0),(40,0),(41,0),(42,1),(43,0),(44,0)];kernel_rfl)|(apply Tz;exact J;kernel_rfl;exact J;exact J)|(apply Ca;exact J;kernel_rfl;(iterate 3 exact J))|(apply Bu;exact J;kernel_rfl;(iterate 3 exact J);exact QM;exact J;exact J)|(apply Bt;exact J;kernel_rfl;(iterate 3 exact J);(first|(apply Bf;exact J;exact has37;(first|exact hu1 _ QL|exact hu2 _ QL);rintro v4 h8 hle8 rfl;refine ⟨hle8,QN,?_⟩)|(apply Bf;exact J;exact has40;exact hs1 _ QL;rintro v5 h9 hle9 ⟨B5,e5,rfl,hS1,hn1⟩;refine ⟨hle9,QN,?_⟩)|(apply Bf;exact J;exact has40;exact hs2 _ QL;rintro v6 h10 hle10 ⟨B6,e6,rfl,hS2,hn2⟩;refine ⟨hle10,QN,?_⟩)|(apply Ap;exact J;exact has39;exact sameSu_c _ B5 S.length e5 S (hS1.le QL) hn1 B6 S.length e6 S (hS2.le QL) rfl;refine ⟨Le.refl _,QN,?_⟩)|(apply Ap;exact J;exact has44;exact sameI_t _ B1 O1.length e1 O1 (hO1.le QL) (by omega) B3 O1.length e3 (hO3.le QL) (by omega);refine ⟨Le.refl _,QN,?_⟩)|(apply Ap;exact J;exact has44;exact sameI_t _ B2 O2.length e2 O2 (hO2.le QL) (by omega) B4 O2.length e4 (hO4.le QL) (by omega);refine ⟨Le.refl _,QN,?_⟩)))|(apply Bn;kernel_rfl;exact J)|(apply Dj;(iterate 5 exact J);all_goals (intro hc;try simp only [hcS,reduceCtorEq] at hc;try (exfalso;omega)))|(apply Xg;exact J;kernel_rfl;exact J;exact J))
      all_goals first
       | (exfalso;simp at hc;done)
       | (exact Bv rfl rfl rfl rfl)
       | (exact Bv rfl rfl rfl (by simp [Dh];done))
 · rw [decide_eq_false hF] at hfew
   repeat' (first|apply Ad|apply At|apply Aa|apply Ab|(apply Ar;exact J;exact J)|(apply Ac;(iterate 3 exact J))|(apply Aj;(iterate 3 exact J);(first|(apply Av;exact J;intro b;skip)|(apply Ap;exact J;exact Oo;exact hsane;skip)|(apply Ap;exact J;exact Mq;exact hfew;skip)))|(apply Af;exact J;all_goals (intro hc;try simp only [hcS,reduceCtorEq] at hc;try (exfalso;omega))))
   all_goals first
    | (exact Bv rfl rfl rfl rfl)
    | (exfalso;simp at hc;done)
end Go.Hw

import Derived.Test.YtgbamiehiokacaaGreatDoorXB
import Derived.Test.YtgbamiehiokacaaGreatDoorKX8
import Derived.Test.YtgbamiehiokacaaGreatDoorF24
set_option linter.all false
set_option maxRecDepth 100000
set_option maxHeartbeats 8000000
namespace Go.Hw
open Go
attribute [local irreducible] GO GOl GDp Val Fn Res CellsAt ValE Blk OwnS MapA OwnPf Has Yl SepA forceL decC memS suspC suspN suspOne yelC cardsF nextC regF offS offL unfitL
open Go.Proofs (Tryz.prog)
open Classical in
theorem Xc (h:Ro)(hG:PowG h)(A:Option Addr)(n c:Nat)(l:List (Fsh×Fct))(hx:LedIn h A n c l)(g:FGame):Res Tryz.prog 9 #[.slice A n c,gameV g] h (fun u _=>u=.bool true):=by
 refine Bi (args:=[_,_]) ts_ok Go.Proofs.Tryz.func9 rfl rfl fun w0 X0 => ?_
 have hfew:=fewF_c h A n c l hx.row hx.small 12
 have hsane:=Qx h hG
 by_cases hF:(∀ p∈l,SmallS p.1 p.2)∧(n:Int)≤12
 · rw [decide_eq_true hF] at hfew
   have hfa:FactsAt h A n l:=⟨hx.row,hx.fat,by have:=hF.2;omega⟩
   have hn12:=hF.2
   have hn6:n≤65536:=by omega
   have hrow:=hfa.row
   have h32:In32 (fcs l):=Ee hfa
   have hof1:=fun g h' (hl:Le h h')=>Iu h' (hG.le hl) A n c l (hfa.le hl) hn6 g
   have hof2:=fun g h' (hl:Le h h')=>Wb h' A n c l (hfa.le hl) hn6 g
   have hol:=fun g=>offL_len h32 g
   generalize fcs l=L at *
   clear hF hfa hx
   repeat' (first|apply Ac|apply Av|apply Ag|apply Aa|apply Ab|(apply Ad;(iterate 3 exact J))|(apply Ao;exact J;exact Bb rfl QM rfl;exact J;exact J)|(apply Ai;(iterate 3 exact J);(first|(apply Ar;exact J;intro b;skip)|(apply Ak;exact J;exact B7a;exact hsane;skip)|(apply Ak;exact J;exact B6a;exact hfew;skip)|(apply Bq (n:=1) (cs:=[g].flatMap gameC);(iterate 3 exact J);exact List.cons_ne_nil _ _;(iterate 6 exact J);intro b7;skip)))|(apply Af;exact J;all_goals (intro hc;try simp only [hcS,reduceCtorEq] at hc;try (exfalso;omega))))
   all_goals (try (exfalso;simp at hc;done))
   clear hfew hsane
   refine Bj (X:=Nat×List FGame×Option Addr×Nat×Ro) (fun x=>x.1≤n∧Le h x.2.2.2.2∧x.2.1.length≤1+x.1) (fun x=>n-x.1)
    (fun x=>[(23,.int .i64 x.1),(22,.int .i64 n),(21,.slice A n c),(5,.slice x.2.2.1 x.2.1.length x.2.2.2.1),(0,.slice A n c)])
    (fun x=>[OwnS 35 4 (.slice x.2.2.1 x.2.1.length x.2.2.2.1) x.2.1.length (x.2.1.flatMap gameC)]) (fun x=>x.2.2.2.2) (0,[g],some ⟨b7,0,none⟩,1,h) ⟨by dsimp only;omega,Le.refl _,by simp⟩ QS QT rfl ?_
   rintro ⟨k,gs,A4,c4,hh⟩ ⟨hk,hle,hgl⟩ ih
   dsimp only at hk hle hgl ih ⊢
   by_cases hkn:k<n
   · have a1:=hrow.addrD hkn
     have c1:CellsAt hh ((addrD A).add (k * ty54.size)) (encF82 (l.getD k p0)):=(hrow.cellsD p0 hkn).le hle
     generalize l.getD k p0=p at *
     by_cases hp3:p.2.kind=3∧(gs.length:Int)<5
     · obtain ⟨q1,q2⟩:=hp3
       repeat' (first|apply Ac|apply Av|apply Ah|apply Ag|apply Aa|apply Ab|(apply Bf;(iterate 3 exact J);omega;exact J;exact J)|(apply Ad;(iterate 3 exact J))|(apply Ao;exact J;exact Bb rfl QM rfl;exact J;exact J)|(apply Be;exact J;exact J;(first|(apply Az (j:=k);(iterate 5 exact J);exact a1;(with_reducible exact J);omega)|(apply Aq;exact J;exact Bh rfl c1 rfl));exact QA)|(apply Ai;(iterate 3 exact J);(first|(apply Aj;(iterate 3 exact J);exact QR;(iterate 3 exact J);skip)|(apply Ap;exact J;intro b;skip)|(apply At (enc:=gameC) (n:=1) [p.2.sh.g];(iterate 3 exact J);exact List.cons_ne_nil _ _;(iterate 4 exact J);exact fun _=>rfl;exact J;exact J;intro b5 h9 hle9 hs5;skip)|(apply Bg (enc:=gameC) (xs:=gs);(iterate 7 exact J);exact hs5;exact fun _=>rfl;exact fun x=>Bv rfl;intro v1;exact QR;omega;exact J;intro A5 c5;skip)))|(apply Af;exact J;all_goals (intro hc;try simp only [hcS,reduceCtorEq] at hc;try (exfalso;omega)))|(apply Bc;exact J;exact J;all_goals (intro hc;try simp only [hcS,reduceCtorEq] at hc;try (exfalso;omega))))
       all_goals first
        | (exfalso;omega)
        | (have h3:=ih (k+1,gs++[p.2.sh.g],A5,c5,h9) ⟨by dsimp only;omega,hle.trans hle9,by dsimp only;rw [List.length_append,List.length_singleton];omega⟩ (by dsimp only;omega)
           dsimp only at h3
           rw [List.length_append] at h3
           refine Bn QS QT (h3))
     · have h3:=ih (k+1,gs,A4,c4,hh) ⟨by dsimp only;omega,hle,by dsimp only;omega⟩ (by dsimp only;omega)
       dsimp only at h3
       repeat' (first|apply Ac|apply Av|apply Ah|apply Ag|apply Aa|apply Ab|(apply Au;exact J;exact J)|(apply Bf;(iterate 3 exact J);omega;exact J;exact J)|(apply Ad;(iterate 3 exact J))|(apply Ao;exact J;exact Bb rfl QM rfl;exact J;exact J)|(apply Be;exact J;exact J;(first|(apply Az (j:=k);(iterate 5 exact J);exact a1;(with_reducible exact J);omega)|(apply Aq;exact J;exact Bh rfl c1 rfl));exact QA)|(apply Ai;(iterate 3 exact J);(first|(apply Aj;(iterate 3 exact J);exact QR;(iterate 3 exact J);skip)|(apply Ap;exact J;intro b;skip)))|(apply Af;exact J;all_goals (intro hc;try simp only [hcS,reduceCtorEq] at hc;try (exfalso;omega)))|(apply Bc;exact J;exact J;all_goals (intro hc;try simp only [hcS,reduceCtorEq] at hc;try (exfalso;omega))))
       all_goals first
        | (exfalso;exact hp3 ⟨by assumption,by assumption⟩)
        | (exfalso;omega)
        | (refine Bn QS QT (h3))
   · clear ih
     repeat' (first|apply Ac|apply Ag|apply Aa|apply Ab|(apply Bl;exact J)|(apply Ad;(iterate 3 exact J))|(apply Af;exact J;all_goals (intro hc;try simp only [hcS,reduceCtorEq] at hc;try (exfalso;omega))))
     all_goals (try (exfalso;omega))
     refine Db (enc:=gameC) (e:=35) (sz:=4) (n:=gs.length) (xs:=gs) (fun _=>rfl) rfl QK ?_
     intro A7 c7 h7 hle7 e7 hnc7 hs7
     cases e7
     refine Bj (X:=Nat×Ro) (fun x=>x.1≤gs.length∧Le h7 x.2) (fun x=>gs.length-x.1)
      (fun x=>[(44,.int .i64 x.1),(43,.int .i64 gs.length),(42,.slice A4 gs.length c4),(0,.slice A n c)])
      (fun x=>[]) (fun x=>x.2) (0,h7) ⟨by dsimp only;omega,Le.refl _⟩ QS QT rfl ?_
     rintro ⟨j,h8⟩ ⟨hj,hle8⟩ ih
     dsimp only at hj hle8 ih ⊢
     have hle0:Le h h8:=hle.trans (hle7.trans hle8)
     by_cases hjn:j<gs.length
     · have a2:=hs7.addrD hjn
       have c2:CellsAt h8 ((addrD A4).add (j * ty35.size)) (gameC (gs.getD j g9)):=(hs7.cellsD g9 hjn).le hle8
       generalize gs.getD j g9=q at *
       have k1:=fun h' (hl:Le h8 h')=>hof1 q h' (hle0.trans hl)
       have k2:=fun h' (hl:Le h8 h')=>hof2 q h' (hle0.trans hl)
       have k3:=hol q
       have h9:=fun h' (hl:Le h8 h')=>ih (j+1,h') ⟨by dsimp only;omega,hle8.trans hl⟩ (by dsimp only;omega)
       dsimp only at h9
       generalize offL L q=o at *
       obtain ⟨o1,o2⟩:=o
       unfold OffOut at k1 k2
       dsimp only at k1 k2 k3
       clear hof1 hof2 hol ih
       repeat' (first|apply Ac|apply Av|apply Ah|apply Ag|apply Aa|apply Ab|(apply Bf;(iterate 3 exact J);omega;exact J;exact J)|(apply Ad;(iterate 3 exact J))|(apply Ao;exact J;exact Bb rfl QM rfl;exact J;exact J)|(apply Be;exact J;exact J;(first|(apply Az (j:=j);(iterate 5 exact J);exact a2;(with_reducible exact J);omega)|(apply Aq;exact J;exact Bh rfl c2 rfl));exact QA)|(apply Ai;(iterate 3 exact J);(first|(apply Aj;(iterate 3 exact J);exact QR;(iterate 3 exact J);skip)|(apply Ap;exact J;intro b;skip)|(apply Ba;exact J;exact has42;exact k1 _ QL;rintro v1 e1 he1 ⟨A1,d1,A2,d2,rfl,hs1,hs2⟩;skip)|(apply Ba;exact J;exact has43;exact k2 _ QL;rintro v2 e2 he2 ⟨A3,d3,A5,d5,rfl,hs3,hs5⟩;skip)|(apply Ak;exact J;exact has44;exact sameI_t _ A1 o1.length d1 o1 (hs1.le QL) (by omega) A3 o1.length d3 (hs3.le QL) (by omega);skip)|(apply Ak;exact J;exact has44;exact sameI_t _ A2 o2.length d2 o2 (hs2.le QL) (by omega) A5 o2.length d5 (hs5.le QL) (by omega);skip)))|(apply Af;exact J;all_goals (intro hc;try simp only [hcS,reduceCtorEq] at hc;try (exfalso;omega))))
       all_goals first
        | (exfalso;simp at hc;done)
        | (exfalso;omega)
        | (have h9:=h9 e2 (he1.trans he2)
           refine Bn QS QT (h9))
     · clear ih
       repeat' (first|apply Ac|apply Aa|apply Ab|(apply Bl;exact J)|(apply Ad;(iterate 3 exact J))|(apply Af;exact J;all_goals (intro hc;try simp only [hcS,reduceCtorEq] at hc;try (exfalso;omega))))
       all_goals first
        | (exfalso;omega)
        | (exact Bt rfl rfl rfl rfl)
 · rw [decide_eq_false hF] at hfew
   repeat' (first|apply Ac|apply Av|apply Aa|apply Ab|(apply Ad;(iterate 3 exact J))|(apply Ai;(iterate 3 exact J);(first|(apply Ar;exact J;intro b;skip)|(apply Ak;exact J;exact B7a;exact hsane;skip)|(apply Ak;exact J;exact B6a;exact hfew;skip)))|(apply Af;exact J;all_goals (intro hc;try simp only [hcS,reduceCtorEq] at hc;try (exfalso;omega))))
   all_goals first
    | (exact Bt rfl rfl rfl rfl)
    | (exfalso;simp at hc;done)
end Go.Hw

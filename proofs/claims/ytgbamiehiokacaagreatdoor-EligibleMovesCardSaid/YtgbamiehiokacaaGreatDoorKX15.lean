import Derived.Test.YtgbamiehiokacaaGreatDoorXB
import Derived.Test.YtgbamiehiokacaaGreatDoorRA
import Derived.Test.YtgbamiehiokacaaGreatDoorF24
set_option linter.unusedVariables false
set_option linter.unusedSimpArgs false
set_option maxRecDepth 100000
set_option maxHeartbeats 8000000
namespace Go.Hw
open Go
attribute [local irreducible] GO GOl GDp Val Fn Res CellsAt ValE Blk OwnS MapA OwnPf Has Yl SepA forceL decC memS suspC suspN suspOne yelC cardsF nextC regF offS offL unfitL
open Go.Proofs (Tryz.prog)
theorem fcsX_snoc (l : List (Fsh × Fct)) (x : Fsh × Fct) : fcs (l ++ [x]) = fcs l ++ [x.2]:=by unfold fcs;rw [List.map_append];rfl
theorem mvK_at (h : Ro) (d k p t : Int) : FAt h fsh0 (mvK d k p t) ∧ FSm (mvK d k p t):=⟨⟨⟨SlOf.nil,SlOf.nil,SlOf.nil,SlOf.nil⟩,SlOf.nil,SlOf.nil,rfl,Nat.le_refl _⟩,⟨Nat.zero_le _,Nat.zero_le _,Nat.zero_le _,Nat.zero_le _⟩,Nat.zero_le _,Nat.zero_le _,Nat.zero_le _⟩
open Classical in
theorem moves_law (h : Ro) (hG : PowG h) (A : Option Addr) (n c : Nat) (l : List (Fsh × Fct)) (hx : LedIn h A n c l) (pl to day known other on : Int) : Res Tryz.prog 11 #[.slice A n c,.int .i64 pl,.int .i64 to,.int .i64 day,.int .i64 known,.int .i64 other,.int .i64 on] h (fun u _ => u = .bool true):=by
 refine Br (args:=[_,_,_,_,_,_,_]) ts_ok Go.Proofs.Tryz.func11 rfl rfl fun w0 X0 => ?_
 have hfew:=Wn h A n c l hx.row hx.small 12
 have hsane:=Mw h hG
 have hck:=Tg h fsh0 (mvK day known pl to) (mvK_at h day known pl to).1 (mvK_at h day known pl to).2
 by_cases hF : (∀ p ∈ l,SmallS p.1 p.2) ∧ (n : Int) ≤ 12
 · rw [decide_eq_true hF] at hfew
   by_cases hK : FctOk (mvK day known pl to) ∧ on ≤ 1048576
   · obtain ⟨hK,hon⟩:=hK
     rw [if_pos hK] at hck
     have hfa : FactsAt h A n l:=⟨hx.row,hx.fat,by have:=hF.2;omega⟩
     have hn12:=hF.2
     have hlen:=hfa.row.len
     have hrow:=hfa.row
     have hfat:=hfa.fat
     have h32 : In32 (fcs l):=Fh hfa
     have hra:=fun p h' (hl : Le h h') => Cx h' (hG.le hl) A n c l (hfa.le hl) p on
     have hto:=mvK_to hK
     have hnew:=move_new h32 (on:=on) hK
     have hold:=fun q hq => move_old h32 (d:=day) (k:=known) (p:=pl) (t:=to) (on:=on) (q:=q) hq
     have hnb:=Aka (fcs l) pl day
     have hdl:=hK.1.2
     have hdd : (mvK day known pl to).day = day:=rfl
     rw [hdd] at hdl
     clear hF hx
     repeat' (first|apply Ad|apply At|apply Ah|apply Aa|apply Ab|(apply Aj;(iterate 3 exact J);apply Ai (e:=54);exact J;intro b7)|(apply Ac;(iterate 3 exact J))|(apply Aq;exact J;exact Ba rfl QM rfl;exact J;exact J)|(apply Aj;(iterate 3 exact J);(first|(apply Ag;(iterate 3 exact J);exact QR;(iterate 3 exact J);skip)|(apply Ap;exact J;exact Oo;exact hsane;skip)|(apply Ap;exact J;exact Mq;exact hfew;skip)|(apply Ap;exact J;exact Sw;exact hck;skip)))|(apply Bh (n:=6) [0,1,2,3,4,5,6] [(1,0),(3,0),(0,2),(8,4),(2,2),(3,4),(4,1),(5,1),(6,0),(2,1),(5,1),(6,0),(0,1),(2,1),(5,1),(6,0)];kernel_rfl)|(apply Ca;exact J;kernel_rfl;(iterate 3 exact J))|(apply Bu;exact J;kernel_rfl;(iterate 3 exact J);exact QM;exact J;exact J)|(apply Bt;exact J;kernel_rfl;(iterate 3 exact J);(first|(apply Cl (n:=0);(iterate 3 exact J);exact List.cons_ne_nil _ _;(iterate 6 exact J);intro b1;refine ⟨Le.refl _,QN,?_⟩)|(apply Bj (enc:=encF82) (n:=0) (xs:=[]) (ys:=l);(iterate 7 exact J);exact hrow.le QL;exact Be;exact Cb;intro v1;exact QR;omega;exact J;intro A1 c1;refine ⟨Le.refl _,QN,?_⟩)|(apply Az (enc:=encF82) (n:=1) [(fsh0,mvK day known pl to)];(iterate 3 exact J);exact List.cons_ne_nil _ _;(iterate 4 exact J);exact Be;exact J;exact J;intro bz hz1 hlez hs1;refine ⟨hlez,QN,?_⟩)|(apply Bj (enc:=encF82) (n:=0 + n) (xs:=[] ++ l) (ys:=[(fsh0,mvK day known pl to)]);(iterate 7 exact J);exact (hs1.le QL);exact Be;exact Cb;intro v1;exact QR;omega;exact J;intro A3 c3;refine ⟨Le.refl _,QN,?_⟩)))|(apply Fc;kernel_rfl;exact J;exact J)|(apply Ce;(iterate 4 exact J);(first|(apply Cl (n:=0);(iterate 3 exact J);exact List.cons_ne_nil _ _;(iterate 6 exact J);intro b1;refine ⟨Le.refl _,QN,?_⟩)|(apply Bj (enc:=encF82) (n:=0) (xs:=[]) (ys:=l);(iterate 7 exact J);exact hrow.le QL;exact Be;exact Cb;intro v1;exact QR;omega;exact J;intro A1 c1;refine ⟨Le.refl _,QN,?_⟩)|(apply Az (enc:=encF82) (n:=1) [(fsh0,mvK day known pl to)];(iterate 3 exact J);exact List.cons_ne_nil _ _;(iterate 4 exact J);exact Be;exact J;exact J;intro bz hz1 hlez hs1;refine ⟨hlez,QN,?_⟩)))|(apply Bn;kernel_rfl;exact J)|(apply Af;exact J;all_goals (intro hc;try simp only [hcS,reduceCtorEq] at hc;try (exfalso;omega)))|(apply Bb;exact J;exact J;all_goals (intro hc;try simp only [hcS,reduceCtorEq] at hc;try (exfalso;omega))))
     all_goals (try (exfalso;simp at hc;done))
     all_goals (try (exfalso;omega))
     all_goals
      rw [List.nil_append,Nat.zero_add]
      refine Dg (enc:=encF82) (e:=54) (sz:=82) (n:=n + 1) (xs:=l ++ [(fsh0,mvK day known pl to)]) Be (by rw [List.length_append,hlen];rfl) QK ?_
      intro A4 c4 h4 hle4 e4 hnc4 hsT
      injection e4 with e41 _ e43
      subst e41;subst e43
      have hl4 : Le h h4:=QL
      have hfT : FactsAt h4 A3 (n + 1) (l ++ [(fsh0,mvK day known pl to)]):=⟨hsT,fun p hp => by
       rcases List.mem_append.1 hp with w|w
       · exact ⟨(hfat p w).1.le hl4,(hfat p w).2⟩
       · rw [List.mem_singleton] at w;subst w
         exact mvK_at _ _ _ _ _,by omega⟩
      have hrb:=fun p h' (hl : Le h4 h') => Cx h' (hG.le (hl4.trans hl)) A3 (n + 1) c3 _ (hfT.le hl) p on
      have hfc : fcs (l ++ [(fsh0,mvK day known pl to)]) = fcs l ++ [mvK day known pl to]:=by unfold fcs;rw [List.map_append];rfl
      rw [hfc] at hrb
      clear hfT hsT hs1 hck hfew hsane
      refine Bi (X:=Nat) (fun k => k ≤ n) (fun k => n - k)
       (fun k => [(56,.int .i64 k),(55,.int .i64 n),(54,.slice A n c),(17,.int .i64 (nextD (fcs (l.take k)) pl day)),(16,.slice A3 (n + 1) c3),(0,.slice A n c),(1,.int .i64 pl),(2,.int .i64 to),(3,.int .i64 day),(5,.int .i64 other),(6,.int .i64 on)])
       (fun k => []) (fun _ => h4) 0 (by omega) (by rw [List.take_zero,show nextD (fcs []) pl day = 1048577 by unfold nextD;rfl];exact QS) QT rfl ?_
      rintro k hk ih
      by_cases hkn : k < n
      · have a1:=hrow.addrD hkn
        have c1 : CellsAt h4 ((addrD A).add (k * ty54.size)) (encF82 (l.getD k p0)):=(hrow.cellsD p0 hkn).le hl4
        have et:=Cr p0 hlen hkn
        have hfp:=hfat _ (mem7 p0 (show k < l.length by omega))
        generalize l.getD k p0 = p at *
        have hch:=Tg h4 p.1 p.2 (hfp.1.le hl4) hfp.2
        have h3:=ih (k + 1) (by omega) (by omega)
        have hsn : nextD (fcs (l.take (k + 1))) pl day = nextS pl day (nextD (fcs (l.take k)) pl day) p.2:=by rw [et,fcsX_snoc,Lm]
        rw [hsn] at h3
        have hb9:=Aka (fcs (l.take k)) pl day
        generalize nextD (fcs (l.take k)) pl day = z at *
        unfold nextS at h3
        clear ih hsn et
        by_cases hM : MvOf pl p.2
        · obtain ⟨m1,m2,m3⟩:=hM
          rw [if_pos m3] at hch
          by_cases hd : day ≤ p.2.day
          · rw [if_pos ⟨⟨m1,m2,m3⟩,hd⟩] at h3
            repeat' (first|apply Ad|apply At|apply Ao|apply Ah|apply Aa|apply Ab|(apply GOl_min;(iterate 3 exact J);intro wn hwn)|(apply Bg;(iterate 3 exact J);omega;exact J;exact J)|(apply Ac;(iterate 3 exact J))|(apply Aq;exact J;exact Ba rfl QM rfl;exact J;exact J)|(apply Bc;exact J;exact J;(first|(apply Bd (j:=k);(iterate 5 exact J);exact a1;(with_reducible exact J);omega)|(apply Au;exact J;exact Bl rfl c1 rfl));exact QA)|(apply Aj;(iterate 3 exact J);(first|(apply Ag;(iterate 3 exact J);exact QR;(iterate 3 exact J);skip)|(apply Ai;exact J;intro b;skip)|(apply Ap;exact J;exact Sw;exact hch;skip)))|(apply Af;exact J;all_goals (intro hc;try simp only [hcS,reduceCtorEq] at hc;try (exfalso;omega)))|(apply Bb;exact J;exact J;all_goals (intro hc;try simp only [hcS,reduceCtorEq] at hc;try (exfalso;omega))))
            all_goals first
             | (exfalso;omega)
             | (rw [hwn];refine Bk QS QT (h3))
          · rw [if_neg (fun w => hd w.2)] at h3
            repeat' (first|apply Ad|apply At|apply Ao|apply Ah|apply Aa|apply Ab|(apply Bg;(iterate 3 exact J);omega;exact J;exact J)|(apply Ac;(iterate 3 exact J))|(apply Aq;exact J;exact Ba rfl QM rfl;exact J;exact J)|(apply Bc;exact J;exact J;(first|(apply Bd (j:=k);(iterate 5 exact J);exact a1;(with_reducible exact J);omega)|(apply Au;exact J;exact Bl rfl c1 rfl));exact QA)|(apply Aj;(iterate 3 exact J);(first|(apply Ag;(iterate 3 exact J);exact QR;(iterate 3 exact J);skip)|(apply Ai;exact J;intro b;skip)|(apply Ap;exact J;exact Sw;exact hch;skip)))|(apply Af;exact J;all_goals (intro hc;try simp only [hcS,reduceCtorEq] at hc;try (exfalso;omega)))|(apply Bb;exact J;exact J;all_goals (intro hc;try simp only [hcS,reduceCtorEq] at hc;try (exfalso;omega))))
            all_goals first
             | (exfalso;omega)
             | (refine Bk QS QT (h3))
        · rw [if_neg (fun w => hM w.1)] at h3
          by_cases m1 : p.2.kind = 6 ∧ p.2.mP = pl
          · rw [if_neg (fun w => hM ⟨m1.1,m1.2,w⟩)] at hch
            repeat' (first|apply Ad|apply At|apply Ao|apply Ah|apply Aa|apply Ab|(apply Ar;exact J;exact J)|(apply Bg;(iterate 3 exact J);omega;exact J;exact J)|(apply Ac;(iterate 3 exact J))|(apply Aq;exact J;exact Ba rfl QM rfl;exact J;exact J)|(apply Bc;exact J;exact J;(first|(apply Bd (j:=k);(iterate 5 exact J);exact a1;(with_reducible exact J);omega)|(apply Au;exact J;exact Bl rfl c1 rfl));exact QA)|(apply Aj;(iterate 3 exact J);(first|(apply Ag;(iterate 3 exact J);exact QR;(iterate 3 exact J);skip)|(apply Ai;exact J;intro b;skip)|(apply Ap;exact J;exact Sw;exact hch;skip)))|(apply Af;exact J;all_goals (intro hc;try simp only [hcS,reduceCtorEq] at hc;try (exfalso;omega)))|(apply Bb;exact J;exact J;all_goals (intro hc;try simp only [hcS,reduceCtorEq] at hc;try (exfalso;omega))))
            all_goals first
             | (exfalso;omega)
             | (exfalso;simp at hc;done)
             | (refine Bk QS QT (h3))
          · generalize (if FctOk p.2 then (0 : Int) else 70) = chv at hch
            repeat' (first|apply Ad|apply At|apply Ao|apply Ah|apply Aa|apply Ab|(apply Ar;exact J;exact J)|(apply Bg;(iterate 3 exact J);omega;exact J;exact J)|(apply Ac;(iterate 3 exact J))|(apply Aq;exact J;exact Ba rfl QM rfl;exact J;exact J)|(apply Bc;exact J;exact J;(first|(apply Bd (j:=k);(iterate 5 exact J);exact a1;(with_reducible exact J);omega)|(apply Au;exact J;exact Bl rfl c1 rfl));exact QA)|(apply Aj;(iterate 3 exact J);(first|(apply Ag;(iterate 3 exact J);exact QR;(iterate 3 exact J);skip)|(apply Ai;exact J;intro b;skip)))|(apply Af;exact J;all_goals (intro hc;try simp only [hcS,reduceCtorEq] at hc;try (exfalso;omega)))|(apply Bb;exact J;exact J;all_goals (intro hc;try simp only [hcS,reduceCtorEq] at hc;try (exfalso;omega))))
            all_goals first
             | (exfalso;exact m1 ⟨by assumption,by assumption⟩)
             | (exfalso;omega)
             | (refine Bk QS QT (h3))
      · rw [List.take_of_length_le (by omega)]
        clear ih
        have k1:=hra pl
        have k3:=hra other
        have k2:=hrb pl
        have k4:=hrb other
        have F1 : other ≠ pl → regF (fcs l ++ [mvK day known pl to]) other on = regF (fcs l) other on:=fun q => hold other (.inl (Ne.symm q))
        have F2 : on < day → regF (fcs l ++ [mvK day known pl to]) pl on = regF (fcs l) pl on:=fun q => hold pl (.inr q)
        generalize nextD (fcs l) pl day = nx at *
        have F3 : day ≤ on → on < nx → (regF (fcs l ++ [mvK day known pl to]) pl on).mTo = to:=fun q1 q2 => by rw [hnew q1 q2];rfl
        unfold regV at k1 k2 k3 k4
        clear hra hrb hold hnew hK hfa
        obtain ⟨z1,hz1⟩ : ∃ z,z = (regF (fcs l) pl on).mTo:=⟨_,rfl⟩
        obtain ⟨z2,hz2⟩ : ∃ z,z = (regF (fcs l ++ [mvK day known pl to]) pl on).mTo:=⟨_,rfl⟩
        obtain ⟨z3,hz3⟩ : ∃ z,z = (regF (fcs l) other on).mTo:=⟨_,rfl⟩
        obtain ⟨z4,hz4⟩ : ∃ z,z = (regF (fcs l ++ [mvK day known pl to]) other on).mTo:=⟨_,rfl⟩
        have F1 : other ≠ pl → z4 = z3:=fun q => by rw [hz4,hz3,F1 q]
        have F2 : on < day → z2 = z1:=fun q => by rw [hz2,hz1,F2 q]
        have F3 : day ≤ on → on < nx → z2 = to:=fun q1 q2 => by rw [hz2,F3 q1 q2]
        rw [← hz1] at k1
        rw [← hz2] at k2
        rw [← hz3] at k3
        rw [← hz4] at k4
        clear hz1 hz2 hz3 hz4
        have F1 : other ≠ pl → (if z4 < 0 then 0 else z4) = (if z3 < 0 then 0 else z3) ∧ decide (0 ≤ z4) = decide (0 ≤ z3):=fun q => by rw [F1 q];exact ⟨rfl,rfl⟩
        have F2 : on < day → (if z2 < 0 then 0 else z2) = (if z1 < 0 then 0 else z1) ∧ decide (0 ≤ z2) = decide (0 ≤ z1):=fun q => by rw [F2 q];exact ⟨rfl,rfl⟩
        have F4 : day ≤ on → on < nx → 0 ≤ to → (if z2 < 0 then 0 else z2) = to ∧ decide (0 ≤ z2) = true:=fun q1 q2 q3 => by rw [F3 q1 q2,if_neg (by omega),decide_eq_true q3];exact ⟨rfl,rfl⟩
        have F5 : day ≤ on → on < nx → ¬ 0 ≤ to → decide (0 ≤ z2) = false:=fun q1 q2 q3 => by rw [F3 q1 q2,decide_eq_false q3]
        clear F3
        generalize (if z1 < 0 then 0 else z1) = a1 at *
        generalize (if z2 < 0 then 0 else z2) = a2 at *
        generalize (if z3 < 0 then 0 else z3) = a3 at *
        generalize (if z4 < 0 then 0 else z4) = a4 at *
        generalize decide (0 ≤ z1) = b1 at *
        generalize decide (0 ≤ z2) = b2 at *
        generalize decide (0 ≤ z3) = b3 at *
        generalize decide (0 ≤ z4) = b4 at *
        have big1 : other = pl ∨ (other ≠ pl ∧ a4 = a3 ∧ b4 = b3):=by
         by_cases o1 : other = pl
         · exact .inl o1
         · exact .inr ⟨o1,F1 o1⟩
        have big2 : (on < day ∧ a2 = a1 ∧ b2 = b1) ∨ (day ≤ on ∧ on < nx ∧ 0 ≤ to ∧ a2 = to ∧ b2 = true) ∨ (day ≤ on ∧ on < nx ∧ ¬ 0 ≤ to ∧ b2 = false) ∨ (day ≤ on ∧ nx ≤ on):=by
         by_cases o2 : on < day
         · exact .inl ⟨o2,F2 o2⟩
         · by_cases o3 : on < nx
           · by_cases o4 : 0 ≤ to
             · exact .inr (.inl ⟨by omega,o3,o4,F4 (by omega) o3 o4⟩)
             · exact .inr (.inr (.inl ⟨by omega,o3,o4,F5 (by omega) o3 o4⟩))
           · exact .inr (.inr (.inr ⟨by omega,by omega⟩))
        clear F1 F2 F4 F5
        rcases big1 with o1|⟨o1,rfl,rfl⟩
        all_goals rcases big2 with ⟨o2,rfl,rfl⟩|⟨o2,o3,o4,rfl,rfl⟩|⟨o2,o3,o4,rfl⟩|⟨o2,o3⟩
        all_goals (repeat' (first|apply Ad|apply At|apply Ao|apply Ah|apply Aa|apply Ab|(apply Bm;exact J)|(apply Ar;exact J;exact J)|(apply Ac;(iterate 3 exact J))|(apply Aj;(iterate 3 exact J);(first|(apply Bf;exact J;exact Wb;(first|exact k1 _ QL|exact k2 _ QL|exact k3 _ QL|exact k4 _ QL);rintro v1 h5 hle5 rfl;skip)))|(apply Af;exact J;all_goals (intro hc;try simp only [hcS,reduceCtorEq] at hc;try (exfalso;omega)))|(apply Bb;exact J;exact J;all_goals (intro hc;try simp only [hcS,reduceCtorEq] at hc;try (exfalso;omega)))))
        all_goals first
         | (exfalso;omega)
         | (exfalso;simp at hc;done)
         | (exact Bv rfl rfl rfl rfl)
         | (rw [show leI nx 1048576 = true from (Hb _ _).mpr (by omega)];exact Bv rfl rfl rfl rfl)
         | (exact Bv rfl rfl rfl (by simp [Dh];done))
   · by_cases hK0 : FctOk (mvK day known pl to)
     case' pos =>
      rw [if_pos hK0] at hck
      have hon : 1048576 < on:=by
       refine Classical.byContradiction fun w => hK ⟨hK0,by omega⟩
     case' neg => rw [if_neg hK0] at hck
     all_goals (repeat' (first|apply Ad|apply At|apply Aa|apply Ab|(apply Aj;(iterate 3 exact J);apply Ai (e:=54);exact J;intro b7)|(apply Ar;exact J;exact J)|(apply Ac;(iterate 3 exact J))|(apply Aq;exact J;exact Ba rfl QM rfl;exact J;exact J)|(apply Aj;(iterate 3 exact J);(first|(apply Ag;(iterate 3 exact J);exact QR;(iterate 3 exact J);skip)|(apply Ap;exact J;exact Oo;exact hsane;skip)|(apply Ap;exact J;exact Mq;exact hfew;skip)|(apply Ap;exact J;exact Sw;exact hck;skip)))|(apply Af;exact J;all_goals (intro hc;try simp only [hcS,reduceCtorEq] at hc;try (exfalso;omega)))|(apply Bb;exact J;exact J;all_goals (intro hc;try simp only [hcS,reduceCtorEq] at hc;try (exfalso;omega)))))
     all_goals first
      | (exact Bv rfl rfl rfl rfl)
      | (exfalso;omega)
      | (exfalso;simp at hc;done)
 · rw [decide_eq_false hF] at hfew
   generalize (if FctOk (mvK day known pl to) then (0 : Int) else 70) = chv at hck
   repeat' (first|apply Ad|apply At|apply Aa|apply Ab|(apply Aj;(iterate 3 exact J);apply Ai (e:=54);exact J;intro b7)|(apply Ar;exact J;exact J)|(apply Ac;(iterate 3 exact J))|(apply Aj;(iterate 3 exact J);(first|(apply Ag;(iterate 3 exact J);exact QR;(iterate 3 exact J);skip)|(apply Ap;exact J;exact Oo;exact hsane;skip)|(apply Ap;exact J;exact Mq;exact hfew;skip)))|(apply Af;exact J;all_goals (intro hc;try simp only [hcS,reduceCtorEq] at hc;try (exfalso;omega))))
   all_goals first
    | (exact Bv rfl rfl rfl rfl)
    | (exfalso;simp at hc;done)
end Go.Hw

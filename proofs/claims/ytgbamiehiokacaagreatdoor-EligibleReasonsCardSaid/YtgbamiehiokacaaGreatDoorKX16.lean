import Derived.Test.YtgbamiehiokacaaGreatDoorXB
import Derived.Test.YtgbamiehiokacaaGreatDoorRA
import Derived.Test.YtgbamiehiokacaaGreatDoorF24
set_option linter.unusedVariables false
set_option linter.unusedSimpArgs false
set_option maxRecDepth 100000
set_option maxHeartbeats 8000000
namespace Go.Hw
open Go
attribute [local irreducible] GO GOl GDp Val Fn Res CellsAt ValE Blk OwnS MapA OwnPf Has Yl SepA forceL decC memS suspC suspN suspOne yelC cardsF nextC regF offS offL unfitL
open Go.Proofs (Tryz.prog)
theorem fcsY_snoc (l : List (Fsh × Fct)) (x : Fsh × Fct) : fcs (l ++ [x]) = fcs l ++ [x.2]:=by unfold fcs;rw [List.map_append];rfl
open Classical in
noncomputable def badM (L : List Fct) (p t cl : Int) : Bool:=L.any fun x => decide (MvOf p x ∧ ¬ (0 ≤ t ∧ t = cl))
open Classical in
theorem badM_snoc (L : List Fct) (x : Fct) (p t cl : Int) : badM (L ++ [x]) p t cl = (badM L p t cl || decide (MvOf p x ∧ ¬ (0 ≤ t ∧ t = cl))):=by unfold badM;rw [List.any_append];simp
open Classical in
theorem badM_iff {L : List Fct} {p t cl : Int} : badM L p t cl = true ↔ (∃ x ∈ L,MvOf p x) ∧ ¬ (0 ≤ t ∧ t = cl):=by
 unfold badM
 rw [List.any_eq_true]
 constructor
 · rintro ⟨x,hx,q⟩
   have q:=of_decide_eq_true q
   exact ⟨⟨x,hx,q.1⟩,q.2⟩
 · rintro ⟨⟨x,hx,q⟩,w⟩;exact ⟨x,hx,decide_eq_true ⟨q,w⟩⟩
def badS (S : List FSusp) (p : Int) (g : FGame) : Bool:=S.any fun s => decide (s.p = p ∧ s.g = g)
theorem badS_snoc (S : List FSusp) (s : FSusp) (p : Int) (g : FGame) : badS (S ++ [s]) p g = (badS S p g || decide (s.p = p ∧ s.g = g)):=by unfold badS;rw [List.any_append];simp
theorem badS_iff {S : List FSusp} {p : Int} {g : FGame} : badS S p g = true ↔ ∃ s ∈ S,s.p = p ∧ s.g = g:=by
 unfold badS
 rw [List.any_eq_true]
 constructor
 · rintro ⟨x,hx,q⟩;exact ⟨x,hx,of_decide_eq_true q⟩
 · rintro ⟨x,hx,q⟩;exact ⟨x,hx,decide_eq_true q⟩
theorem bad_off {L : List Fct} {S : List FSusp} {g : FGame} {day cl p : Int} : (unfitL (canonL L) p day || badM L p (regF L p day).mTo cl || badS S p g) = true ↔ OffB L S g day cl p:=by
 unfold OffB
 rw [Bool.or_eq_true,Bool.or_eq_true,badM_iff,badS_iff]
 constructor
 · rintro ((q|q)|q)
   · exact .inr (.inl q)
   · exact .inl q
   · exact .inr (.inr q)
 · rintro (q|q|q)
   · exact .inl (.inr q)
   · exact .inl (.inl q)
   · exact .inr q
open Classical in
theorem side11_c (h : Ro) (hG : PowG h) (A : Option Addr) (n c : Nat) (l : List (Fsh × Fct)) (hfa : FactsAt h A n l) (hn6 : n ≤ 65536) (g : FGame) (day cl : Int) (B : Option Addr) (nb d : Nat) (sq : List Int) (hsq : SlOf encI 1 h B nb sq) (hnb : nb ≤ 40) (E : Option Addr) (e : Nat) (hof : SlOf encI 1 h E (offS (fcs l) (suspC (decC (fcs l) g.s g.c)) g day cl sq).length (offS (fcs l) (suspC (decC (fcs l) g.s g.c)) g day cl sq)) :
 Res Tryz.prog 47 #[.slice A n c,gameV g,.int .i64 day,.int .i64 cl,.slice B nb d,.slice E (offS (fcs l) (suspC (decC (fcs l) g.s g.c)) g day cl sq).length e] h (fun u _ => u = .bool true):=by
 refine Br (args:=[_,_,_,_,_,_]) ts_ok Go.Proofs.Tryz.func47 rfl rfl fun w0 X0 => ?_
 have hlen:=hfa.row.len
 have hrow:=hfa.row
 have hfat:=hfa.fat
 have hsl:=hsq.len
 have hra:=fun p h' (hl : Le h h') => Cx h' (hG.le hl) A n c l (hfa.le hl) p day
 have hua:=fun p h' (hl : Le h h') => Lz h' (hG.le hl) A n c l (hfa.le hl) p day
 have hsu:=fun h' (hl : Le h h') => Ex h' (hG.le hl) A n c l (hfa.le hl) hn6 g.s g.c
 generalize suspC (decC (fcs l) g.s g.c) = S at *
 have hoff:=fun p => bad_off (L:=fcs l) (S:=S) (g:=g) (day:=day) (cl:=cl) (p:=p)
 have hsp:=fun k hk => Cla (fcs l) S g day cl sq (k:=k) hk
 have hsn:=Vl (fcs l) S g day cl
 have hO0 : offS (fcs l) S g day cl [] = []:=by unfold offS;rfl
 have hol:=Mz (fcs l) S g day cl sq
 generalize OffB (fcs l) S g day cl = Q at *
 generalize offS (fcs l) S g day cl = O at *
 obtain ⟨ol,hole⟩ : ∃ ol,ol = (O sq).length:=⟨_,rfl⟩
 obtain ⟨os,hose⟩ : ∃ os,os = O sq:=⟨_,rfl⟩
 rw [← hole,← hose] at hof
 rw [← hole]
 unfold regV at hra
 clear hfa
 repeat' (first|apply Ad|apply Ah|apply Aa|apply Ab|(apply Ac;(iterate 3 exact J))|(apply Aj;(iterate 3 exact J);(first|(apply Av;exact J;intro b;skip))))
 generalize b = b7
 refine Bi (X:=Nat × Ro) (fun x => x.1 ≤ nb ∧ Le h x.2) (fun x => nb - x.1)
  (fun x => [(25,.int .i64 x.1),(24,.int .i64 nb),(23,.slice B nb d),(13,.int .i64 (O (sq.take x.1)).length),(0,.slice A n c),(2,.int .i64 day),(3,.int .i64 cl),(5,.slice E ol e),(7,ptrV b7)])
  (fun x => [Blk b7 35 (gameC g)]) (fun x => x.2) (0,h) ⟨by dsimp only;omega,Le.refl _⟩ (by rw [List.take_zero,hO0];exact QS) QT rfl ?_
 rintro ⟨k,h1⟩ ⟨hk,hle⟩ ih
 dsimp only at hk hle ih ⊢
 by_cases hkn : k < nb
 · have a1:=hsq.addrD hkn
   have c1 : CellsAt h1 ((addrD B).add (k * ty3.size)) (encI (sq.getD k 0)):=(hsq.cellsD 0 hkn).le hle
   have et:=Cr 0 (xs:=sq) hsl hkn
   have hsp1:=hsp k (by omega)
   generalize sq.getD k 0 = p at *
   have hsn1:=hsn (sq.take k) p
   rw [← et] at hsn1
   have hra1:=fun h' (hl : Le h1 h') => hra p h' (hle.trans hl)
   have hua1:=fun h' (hl : Le h1 h') => hua p h' (hle.trans hl)
   have hoff1:=hoff p
   have h9:=fun h' (hl : Le h1 h') => ih (k + 1,h') ⟨by dsimp only;omega,hle.trans hl⟩ (by dsimp only;omega)
   dsimp only at h9
   generalize (regF (fcs l) p day).mTo = t at *
   generalize unfitL (canonL (fcs l)) p day = U at *
   clear ih hra hua hoff hsp hsn et
   repeat' (first|apply Ad|apply At|apply Ah|apply Aa|apply Ab|(apply Ac;(iterate 3 exact J))|(apply Bc;exact J;exact J;(first|(apply Bd (j:=k);(iterate 5 exact J);exact a1;(with_reducible exact J);omega)|(apply Au;exact J;exact Bl rfl c1 rfl));exact QA)|(apply Aj;(iterate 3 exact J);(first|(apply Bf;exact J;exact Wb;exact hra1 _ QL;rintro v1 e1 he1 rfl;skip)|(apply Bf;exact J;exact has37;exact hua1 _ QL;rintro v2 e2 he2 rfl;skip)))|(apply Af;exact J;all_goals (intro hc;try simp only [hcS,reduceCtorEq] at hc;try (exfalso;omega))))
   all_goals (try (exfalso;omega))
   have hle2 : Le h e2:=hle.trans (he1.trans he2)
   have hB0 : (U || badM (fcs (l.take 0)) p t cl) = U:=by rw [List.take_zero];unfold badM fcs;simp
   refine Bi (X:=Nat) (fun j => j ≤ n) (fun j => n - j)
    (fun j => [(42,.int .i64 j),(41,.int .i64 n),(40,.slice A n c),(18,.bool (U || badM (fcs (l.take j)) p t cl)),(15,.int .i64 p),(16,.int .i64 (if t < 0 then 0 else t)),(17,.bool (decide (0 ≤ t))),(25,.int .i64 k),(24,.int .i64 nb),(23,.slice B nb d),(13,.int .i64 (O (sq.take k)).length),(0,.slice A n c),(2,.int .i64 day),(3,.int .i64 cl),(5,.slice E ol e),(7,ptrV b7)])
    (fun j => [Blk b7 35 (gameC g)]) (fun _ => e2) 0 (by omega) (by rw [hB0];exact QS) QT rfl ?_
   rintro j hj ih
   by_cases hjn : j < n
   · have a2:=hrow.addrD hjn
     have c2 : CellsAt e2 ((addrD A).add (j * ty54.size)) (encF82 (l.getD j p0)):=(hrow.cellsD p0 hjn).le hle2
     have et2:=Cr p0 hlen hjn
     have hfp:=hfat _ (mem7 p0 (show j < l.length by omega))
     generalize l.getD j p0 = q at *
     have hch:=Tg e2 q.1 q.2 (hfp.1.le hle2) hfp.2
     have h3:=ih (j + 1) (by omega) (by omega)
     have hsn2 : badM (fcs (l.take (j + 1))) p t cl = (badM (fcs (l.take j)) p t cl || decide (MvOf p q.2 ∧ ¬ (0 ≤ t ∧ t = cl))):=by rw [et2,fcsY_snoc,badM_snoc]
     rw [hsn2,← Bool.or_assoc] at h3
     generalize (U || badM (fcs (l.take j)) p t cl) = bb at *
     clear ih hsn2 et2
     cases bb
     · rw [Bool.false_or] at h3
       by_cases hM : MvOf p q.2
       · obtain ⟨m1,m2,m3⟩:=hM
         rw [if_pos m3] at hch
         by_cases ht : 0 ≤ t
         · rw [if_neg (show ¬ t < 0 by omega),decide_eq_true ht] at h3 ⊢
           by_cases htc : t = cl
           · rw [decide_eq_false (fun w => w.2 ⟨ht,htc⟩)] at h3
             have e7 : eqI t cl = true:=(Fk _ _).mpr htc
             repeat' (first|apply Ad|apply At|apply Ao|apply Ah|apply Aa|apply Ab|(apply Bg;(iterate 3 exact J);omega;exact J;exact J)|(apply Ac;(iterate 3 exact J))|(apply Aq;exact J;exact Ba rfl QM rfl;exact J;exact J)|(apply Bc;exact J;exact J;(first|(apply Bd (j:=j) (n:=n);(iterate 5 exact J);exact a2;(with_reducible exact J);omega)|(apply Au;exact J;exact Bl rfl c2 rfl));exact QA)|(apply Aj;(iterate 3 exact J);(first|(apply Ag;(iterate 3 exact J);exact QR;(iterate 3 exact J);skip)|(apply Ai;exact J;intro b;skip)|(apply Ap;exact J;exact Sw;exact hch;skip)))|(apply Af;exact J;all_goals (intro hc;try simp only [hcS,reduceCtorEq] at hc;try (exfalso;omega)))|(apply Bb;exact J;exact J;all_goals (intro hc;try simp only [hcS,reduceCtorEq] at hc;try (exfalso;omega))))
             all_goals first
              | (exfalso;omega)
              | (exfalso;simp at hc;done)
              | (rw [e7];refine Bk QS QT (h3))
              | (refine Bk QS QT (h3))
           · rw [decide_eq_true ⟨⟨m1,m2,m3⟩,fun w => htc w.2⟩] at h3
             have e7 : eqI t cl = false:=(eqI_f _ _).mpr htc
             repeat' (first|apply Ad|apply At|apply Ao|apply Ah|apply Aa|apply Ab|(apply Bg;(iterate 3 exact J);omega;exact J;exact J)|(apply Ac;(iterate 3 exact J))|(apply Aq;exact J;exact Ba rfl QM rfl;exact J;exact J)|(apply Bc;exact J;exact J;(first|(apply Bd (j:=j) (n:=n);(iterate 5 exact J);exact a2;(with_reducible exact J);omega)|(apply Au;exact J;exact Bl rfl c2 rfl));exact QA)|(apply Aj;(iterate 3 exact J);(first|(apply Ag;(iterate 3 exact J);exact QR;(iterate 3 exact J);skip)|(apply Ai;exact J;intro b;skip)|(apply Ap;exact J;exact Sw;exact hch;skip)))|(apply Af;exact J;all_goals (intro hc;try simp only [hcS,reduceCtorEq] at hc;try (exfalso;omega)))|(apply Bb;exact J;exact J;all_goals (intro hc;try simp only [hcS,reduceCtorEq] at hc;try (exfalso;omega))))
             all_goals first
              | (exfalso;omega)
              | (exfalso;simp at hc;done)
              | (rw [e7];refine Bk QS QT (h3))
              | (refine Bk QS QT (h3))
         · rw [if_pos (show t < 0 by omega),decide_eq_false ht,decide_eq_true (⟨⟨m1,m2,m3⟩,fun w => ht w.1⟩ : MvOf p q.2 ∧ ¬ (0 ≤ t ∧ t = cl))] at h3
           rw [if_pos (show t < 0 by omega),decide_eq_false ht]
           repeat' (first|apply Ad|apply At|apply Ao|apply Ah|apply Aa|apply Ab|(apply Ar;exact J;exact J)|(apply Bg;(iterate 3 exact J);omega;exact J;exact J)|(apply Ac;(iterate 3 exact J))|(apply Aq;exact J;exact Ba rfl QM rfl;exact J;exact J)|(apply Bc;exact J;exact J;(first|(apply Bd (j:=j) (n:=n);(iterate 5 exact J);exact a2;(with_reducible exact J);omega)|(apply Au;exact J;exact Bl rfl c2 rfl));exact QA)|(apply Aj;(iterate 3 exact J);(first|(apply Ag;(iterate 3 exact J);exact QR;(iterate 3 exact J);skip)|(apply Ai;exact J;intro b;skip)|(apply Ap;exact J;exact Sw;exact hch;skip)))|(apply Af;exact J;all_goals (intro hc;try simp only [hcS,reduceCtorEq] at hc;try (exfalso;omega)))|(apply Bb;exact J;exact J;all_goals (intro hc;try simp only [hcS,reduceCtorEq] at hc;try (exfalso;omega))))
           all_goals first
            | (exfalso;omega)
            | (exfalso;simp at hc;done)
            | (refine Bk QS QT (h3))
       · rw [decide_eq_false (fun w => hM w.1)] at h3
         generalize (if t < 0 then 0 else t) = at' at *
         by_cases m1 : q.2.kind = 6 ∧ q.2.mP = p
         · rw [if_neg (fun w => hM ⟨m1.1,m1.2,w⟩)] at hch
           repeat' (first|apply Ad|apply At|apply Ao|apply Ah|apply Aa|apply Ab|(apply Ar;exact J;exact J)|(apply Bg;(iterate 3 exact J);omega;exact J;exact J)|(apply Ac;(iterate 3 exact J))|(apply Aq;exact J;exact Ba rfl QM rfl;exact J;exact J)|(apply Bc;exact J;exact J;(first|(apply Bd (j:=j) (n:=n);(iterate 5 exact J);exact a2;(with_reducible exact J);omega)|(apply Au;exact J;exact Bl rfl c2 rfl));exact QA)|(apply Aj;(iterate 3 exact J);(first|(apply Ag;(iterate 3 exact J);exact QR;(iterate 3 exact J);skip)|(apply Ai;exact J;intro b;skip)|(apply Ap;exact J;exact Sw;exact hch;skip)))|(apply Af;exact J;all_goals (intro hc;try simp only [hcS,reduceCtorEq] at hc;try (exfalso;omega)))|(apply Bb;exact J;exact J;all_goals (intro hc;try simp only [hcS,reduceCtorEq] at hc;try (exfalso;omega))))
           all_goals first
            | (exfalso;omega)
            | (exfalso;simp at hc;done)
            | (refine Bk QS QT (h3))
         · generalize (if FctOk q.2 then (0 : Int) else 70) = chv at hch
           repeat' (first|apply Ad|apply At|apply Ao|apply Ah|apply Aa|apply Ab|(apply Ar;exact J;exact J)|(apply Bg;(iterate 3 exact J);omega;exact J;exact J)|(apply Ac;(iterate 3 exact J))|(apply Aq;exact J;exact Ba rfl QM rfl;exact J;exact J)|(apply Bc;exact J;exact J;(first|(apply Bd (j:=j) (n:=n);(iterate 5 exact J);exact a2;(with_reducible exact J);omega)|(apply Au;exact J;exact Bl rfl c2 rfl));exact QA)|(apply Aj;(iterate 3 exact J);(first|(apply Ag;(iterate 3 exact J);exact QR;(iterate 3 exact J);skip)|(apply Ai;exact J;intro b;skip)))|(apply Af;exact J;all_goals (intro hc;try simp only [hcS,reduceCtorEq] at hc;try (exfalso;omega)))|(apply Bb;exact J;exact J;all_goals (intro hc;try simp only [hcS,reduceCtorEq] at hc;try (exfalso;omega))))
           all_goals first
            | (exfalso;exact m1 ⟨by assumption,by assumption⟩)
            | (exfalso;omega)
            | (refine Bk QS QT (h3))
     · rw [Bool.true_or] at h3
       generalize (if t < 0 then 0 else t) = at' at *
       repeat' (first|apply Ad|apply At|apply Ao|apply Ah|apply Aa|apply Ab|(apply Ar;exact J;exact J)|(apply Bg;(iterate 3 exact J);omega;exact J;exact J)|(apply Ac;(iterate 3 exact J))|(apply Bc;exact J;exact J;(first|(apply Bd (j:=j) (n:=n);(iterate 5 exact J);exact a2;(with_reducible exact J);omega)|(apply Au;exact J;exact Bl rfl c2 rfl));exact QA)|(apply Aj;(iterate 3 exact J);(first|(apply Ag;(iterate 3 exact J);exact QR;(iterate 3 exact J);skip)|(apply Ai;exact J;intro b;skip)))|(apply Af;exact J;all_goals (intro hc;try simp only [hcS,reduceCtorEq] at hc;try (exfalso;omega))))
       all_goals first
        | (exfalso;omega)
        | (exfalso;simp at hc;done)
        | (refine Bk QS QT (h3))
   · rw [List.take_of_length_le (by omega)]
     clear ih
     generalize (if t < 0 then 0 else t) = at' at *
     generalize (U || badM (fcs l) p t cl) = V at *
     have hsu2:=fun h' (hl : Le e2 h') => hsu h' (hle2.trans hl)
     clear hsu
     repeat' (first|apply Ad|apply Ah|apply Aa|apply Ab|(apply Bm;exact J)|(apply Ac;(iterate 3 exact J))|(apply Aq;exact J;exact Ba rfl QM rfl;exact J;exact J)|(apply Aj;(iterate 3 exact J);(first|(apply Bf;exact J;exact has40;exact hsu2 _ QL;rintro w4 h4 hle4 ⟨A5,c5,rfl,hsS,hSn⟩;skip)))|(apply Af;exact J;all_goals (intro hc;try simp only [hcS,reduceCtorEq] at hc;try (exfalso;omega))))
     all_goals (try (exfalso;omega))
     clear hsu2
     have hS0 : (V || badS (S.take 0) p g) = V:=by rw [List.take_zero];unfold badS;simp
     refine Bi (X:=Nat) (fun j => j ≤ S.length) (fun j => S.length - j)
      (fun j => [(81,.int .i64 j),(80,.int .i64 S.length),(79,.slice A5 S.length c5),(18,.bool (V || badS (S.take j) p g)),(15,.int .i64 p),(25,.int .i64 k),(24,.int .i64 nb),(23,.slice B nb d),(13,.int .i64 (O (sq.take k)).length),(0,.slice A n c),(2,.int .i64 day),(3,.int .i64 cl),(5,.slice E ol e),(7,ptrV b7)])
      (fun j => [Blk b7 35 (gameC g)]) (fun _ => h4) 0 (by omega) (by rw [hS0];exact QS) QT rfl ?_
     rintro j2 hj2 ih
     by_cases hjs : j2 < S.length
     · have a3:=hsS.addrD hjs
       have c3 : CellsAt h4 ((addrD A5).add (j2 * ty88.size)) (encSu (S.getD j2 su0)):=hsS.cellsD su0 hjs
       have et3:=Cr su0 (xs:=S) rfl hjs
       generalize S.getD j2 su0 = z at *
       have h3:=ih (j2 + 1) (by omega) (by omega)
       rw [et3,badS_snoc,← Bool.or_assoc] at h3
       generalize (V || badS (S.take j2) p g) = bb at *
       have hge:=Ie z.g g
       clear ih et3
       cases bb
       · rw [Bool.false_or] at h3
         by_cases hz1 : z.p = p
         · by_cases hz2 : z.g = g
           · rw [decide_eq_true ⟨hz1,hz2⟩] at h3
             rw [decide_eq_true hz2] at hge
             repeat' (first|apply Ad|apply At|apply Ao|apply Ah|apply Aa|apply Ab|(apply Bg;(iterate 3 exact J);omega;exact J;exact J)|(apply Ac;(iterate 3 exact J))|(apply Aq;exact J;exact Ba rfl QM rfl;exact J;exact J)|(apply Bc;exact J;exact J;(first|(apply Bd (j:=j2) (n:=S.length);(iterate 5 exact J);exact a3;(with_reducible exact J);omega)|(apply Au;exact J;exact Bl rfl c3 rfl)|(apply Da;exact J;exact J;exact hge;kernel_rfl;kernel_rfl));exact QA)|(apply Aj;(iterate 3 exact J);(first|(apply Ag;(iterate 3 exact J);exact QR;(iterate 3 exact J);skip)|(apply Ai;exact J;intro b;skip)))|(apply Af;exact J;all_goals (intro hc;try simp only [hcS,reduceCtorEq] at hc;try (exfalso;omega)))|(apply Bb;exact J;exact J;all_goals (intro hc;try simp only [hcS,reduceCtorEq] at hc;try (exfalso;omega))))
             all_goals first
              | (exfalso;omega)
              | (exfalso;simp at hc;done)
              | (refine Bk QS QT (h3))
           · rw [decide_eq_false (fun w => hz2 w.2)] at h3
             rw [decide_eq_false hz2] at hge
             repeat' (first|apply Ad|apply At|apply Ao|apply Ah|apply Aa|apply Ab|(apply Bg;(iterate 3 exact J);omega;exact J;exact J)|(apply Ac;(iterate 3 exact J))|(apply Aq;exact J;exact Ba rfl QM rfl;exact J;exact J)|(apply Bc;exact J;exact J;(first|(apply Bd (j:=j2) (n:=S.length);(iterate 5 exact J);exact a3;(with_reducible exact J);omega)|(apply Au;exact J;exact Bl rfl c3 rfl)|(apply Da;exact J;exact J;exact hge;kernel_rfl;kernel_rfl));exact QA)|(apply Aj;(iterate 3 exact J);(first|(apply Ag;(iterate 3 exact J);exact QR;(iterate 3 exact J);skip)|(apply Ai;exact J;intro b;skip)))|(apply Af;exact J;all_goals (intro hc;try simp only [hcS,reduceCtorEq] at hc;try (exfalso;omega)))|(apply Bb;exact J;exact J;all_goals (intro hc;try simp only [hcS,reduceCtorEq] at hc;try (exfalso;omega))))
             all_goals first
              | (exfalso;omega)
              | (exfalso;simp at hc;done)
              | (refine Bk QS QT (h3))
         · rw [decide_eq_false (fun w => hz1 w.1)] at h3
           repeat' (first|apply Ad|apply At|apply Ao|apply Ah|apply Aa|apply Ab|(apply Ar;exact J;exact J)|(apply Bg;(iterate 3 exact J);omega;exact J;exact J)|(apply Ac;(iterate 3 exact J))|(apply Aq;exact J;exact Ba rfl QM rfl;exact J;exact J)|(apply Bc;exact J;exact J;(first|(apply Bd (j:=j2) (n:=S.length);(iterate 5 exact J);exact a3;(with_reducible exact J);omega)|(apply Au;exact J;exact Bl rfl c3 rfl));exact QA)|(apply Aj;(iterate 3 exact J);(first|(apply Ag;(iterate 3 exact J);exact QR;(iterate 3 exact J);skip)|(apply Ai;exact J;intro b;skip)))|(apply Af;exact J;all_goals (intro hc;try simp only [hcS,reduceCtorEq] at hc;try (exfalso;omega)))|(apply Bb;exact J;exact J;all_goals (intro hc;try simp only [hcS,reduceCtorEq] at hc;try (exfalso;omega))))
           all_goals first
            | (exfalso;omega)
            | (exfalso;simp at hc;done)
            | (refine Bk QS QT (h3))
       · rw [Bool.true_or] at h3
         repeat' (first|apply Ad|apply At|apply Ao|apply Ah|apply Aa|apply Ab|(apply Ar;exact J;exact J)|(apply Bg;(iterate 3 exact J);omega;exact J;exact J)|(apply Ac;(iterate 3 exact J))|(apply Bc;exact J;exact J;(first|(apply Bd (j:=j2) (n:=S.length);(iterate 5 exact J);exact a3;(with_reducible exact J);omega)|(apply Au;exact J;exact Bl rfl c3 rfl));exact QA)|(apply Aj;(iterate 3 exact J);(first|(apply Ag;(iterate 3 exact J);exact QR;(iterate 3 exact J);skip)|(apply Ai;exact J;intro b;skip)))|(apply Af;exact J;all_goals (intro hc;try simp only [hcS,reduceCtorEq] at hc;try (exfalso;omega))))
         all_goals first
          | (exfalso;omega)
          | (exfalso;simp at hc;done)
          | (refine Bk QS QT (h3))
     · rw [List.take_of_length_le (by omega)]
       clear ih
       generalize (V || badS S p g) = bb at *
       cases bb
       · have hQ : ¬ Q p:=fun w => by have:=hoff1.2 w;cases this
         rw [if_neg hQ] at hsn1
         have h9:=h9 h4 (he1.trans (he2.trans hle4))
         rw [hsn1] at h9
         repeat' (first|apply Ad|apply Aa|apply Ab|(apply Bm;exact J)|(apply Bg;(iterate 3 exact J);omega;exact J;exact J)|(apply Ac;(iterate 3 exact J))|(apply Af;exact J;all_goals (intro hc;try simp only [hcS,reduceCtorEq] at hc;try (exfalso;omega))))
         all_goals first
          | (exfalso;omega)
          | (exfalso;simp at hc;done)
          | (refine Bk QS QT (h9))
       · have hQ : Q p:=hoff1.1 rfl
         rw [if_pos hQ] at hsn1
         rw [if_pos hQ] at hsp1
         have h9:=h9 h4 (he1.trans (he2.trans hle4))
         rw [hsn1,List.length_append] at h9
         generalize O (sq.take k) = ok at *
         have hlt : ok.length < ol:=by rw [hole,hsp1,List.length_append,List.length_append,List.length_singleton];omega
         have hget : os.getD ok.length 0 = p:=by rw [hose,hsp1];simp [List.getD]
         have a4:=hof.addrD hlt
         have c4 : CellsAt h4 ((addrD E).add (ok.length * ty3.size)) (encI (os.getD ok.length 0)):=(hof.cellsD 0 hlt).le (hle2.trans hle4)
         rw [hget] at c4
         repeat' (first|apply Ad|apply At|apply Ao|apply Aa|apply Ab|(apply Bm;exact J)|(apply Bg;(iterate 3 exact J);omega;exact J;exact J)|(apply Ac;(iterate 3 exact J))|(apply Bc;exact J;exact J;(first|(apply Bd (j:=ok.length) (n:=ol);(iterate 5 exact J);exact a4;(with_reducible exact J);omega)|(apply Au;exact J;exact Bl rfl c4 rfl));exact QA)|(apply Af;exact J;all_goals (intro hc;try simp only [hcS,reduceCtorEq] at hc;try (exfalso;omega)))|(apply Bb;exact J;exact J;all_goals (intro hc;try simp only [hcS,reduceCtorEq] at hc;try (exfalso;omega))))
         all_goals first
          | (exfalso;omega)
          | (exfalso;simp [Dh] at hc;done)
          | (refine Bk QS QT (h9))
 · rw [List.take_of_length_le (by omega)]
   clear ih
   rw [← hole]
   repeat' (first|apply Ad|apply Aa|apply Ab|(apply Bm;exact J)|(apply Ac;(iterate 3 exact J))|(apply Af;exact J;all_goals (intro hc;try simp only [hcS,reduceCtorEq] at hc;try (exfalso;omega))))
   all_goals first
    | (exfalso;omega)
    | (exact Bv rfl rfl rfl (by simp [Dh]))
open Classical in
theorem Sg (h : Ro) (hG : PowG h) (A : Option Addr) (n c : Nat) (l : List (Fsh × Fct)) (hx : LedIn h A n c l) (g : FGame) : Res Tryz.prog 12 #[.slice A n c,gameV g] h (fun u _ => u = .bool true):=by
 refine Br (args:=[_,_]) ts_ok Go.Proofs.Tryz.func12 rfl rfl fun w0 X0 => ?_
 have hfew:=Wn h A n c l hx.row hx.small 12
 have hsane:=Mw h hG
 by_cases hF : (∀ p ∈ l,SmallS p.1 p.2) ∧ (n : Int) ≤ 12
 · rw [decide_eq_true hF] at hfew
   have hfa : FactsAt h A n l:=⟨hx.row,hx.fat,by have:=hF.2;omega⟩
   have hn6 : n ≤ 65536:=by have:=hF.2;omega
   have h32 : In32 (fcs l):=Fh hfa
   have hof:=fun h' (hl : Le h h') => Gf h' (hG.le hl) A n c l (hfa.le hl) hn6 g
   have hsc:=fun h' (hl : Le h h') => Sc h' (hG.le hl) A n c l (hfa.le hl) g
   have hside:=fun day cl B nb d sq E e h' (hl : Le h h') hsq hnb hof => side11_c h' (hG.le hl) A n c l (hfa.le hl) hn6 g day cl B nb d sq hsq hnb E e hof
   have hsh:=Dc h32 (g:=g)
   have hno:=offL_no (L:=fcs l) (g:=g)
   have hyes:=fun x => Aja (L:=fcs l) (g:=g) (x:=x)
   rw [show cont l = fcs l from rfl] at hsc
   generalize scoreF (fcs l) g = x at *
   by_cases hk2 : x.kind = 2
   · have hyes:=hyes x rfl hk2
     have hsz : x.sh.hs.length ≤ 40 ∧ x.sh.asn.length ≤ 40:=by
      obtain ⟨f,_,ok,kf,e,_⟩:=hsh hk2
      have:=ok.2.2.1
      unfold ContOk at this
      rw [if_neg (by omega),if_neg (by omega),if_pos kf,e] at this
      exact ⟨this.2.2.2.2.2.1.1,this.2.2.2.2.2.2.1.1⟩
     rw [hyes] at hof
     unfold OffOut at hof
     dsimp only at hof
     clear hF hfa hx hno hyes hsh
     repeat' (first|apply Ad|apply At|apply Aa|apply Ab|(apply Aj;(iterate 3 exact J);apply Av (e:=35);exact J;intro b3)|(apply Aj;(iterate 3 exact J);apply Ai (e:=84);exact J;intro b6)|(apply Ac;(iterate 3 exact J))|(apply Aq;exact J;exact Ba rfl QM rfl;exact J;exact J)|(apply Aj;(iterate 3 exact J);(first|(apply Ag;(iterate 3 exact J);exact QR;(iterate 3 exact J);skip)|(apply Ap;exact J;exact Oo;exact hsane;skip)|(apply Ap;exact J;exact Mq;exact hfew;skip)|(apply Bf;exact J;exact Cxa;exact hof _ QL;rintro v1 e1 he1 ⟨A1,d1,A2,d2,rfl,hs1,hs2⟩;skip)|(apply Bf;exact J;exact Cwa;exact hsc _ QL;rintro w2 h3 hle3 ⟨s,rfl,hs3,hs4⟩;(have hn1:=hs3.hs.len);(have hn2:=hs3.asn.len);skip)|(apply Bf;exact J;exact has47;exact hside x.day g.h s.hs.A s.hs.n s.hs.c x.sh.hs A1 d1 _ QL (hs3.hs.le QL) (by omega) (hs1.le QL);rintro v7 h7 hle7 rfl;skip)|(apply Bf;exact J;exact has47;exact hside x.day g.a s.asn.A s.asn.n s.asn.c x.sh.asn A2 d2 _ QL (hs3.asn.le QL) (by omega) (hs2.le QL);rintro v8 h8 hle8 rfl;skip)))|(apply Af;exact J;all_goals (intro hc;try simp only [hcS,reduceCtorEq] at hc;try (exfalso;omega))))
     all_goals first
      | (exfalso;simp at hc;done)
      | (exfalso;omega)
      | (exact Bv rfl rfl rfl rfl)
      | (exact Bv rfl rfl rfl (by simp [Dh]))
   · rw [hno hk2] at hof
     unfold OffOut at hof
     dsimp only at hof
     clear hF hfa hx hno hyes hsh hside
     repeat' (first|apply Ad|apply At|apply Aa|apply Ab|(apply Aj;(iterate 3 exact J);apply Av (e:=35);exact J;intro b3)|(apply Aj;(iterate 3 exact J);apply Ai (e:=84);exact J;intro b6)|(apply Ar;exact J;exact J)|(apply Ac;(iterate 3 exact J))|(apply Aq;exact J;exact Ba rfl QM rfl;exact J;exact J)|(apply Aj;(iterate 3 exact J);(first|(apply Ag;(iterate 3 exact J);exact QR;(iterate 3 exact J);skip)|(apply Ap;exact J;exact Oo;exact hsane;skip)|(apply Ap;exact J;exact Mq;exact hfew;skip)|(apply Bf;exact J;exact Cxa;exact hof _ QL;rintro v1 e1 he1 ⟨A1,d1,A2,d2,rfl,hs1,hs2⟩;skip)|(apply Bf;exact J;exact Cwa;exact hsc _ QL;rintro w2 h3 hle3 ⟨s,rfl,hs3,hs4⟩;skip)))|(apply Af;exact J;all_goals (intro hc;try simp only [hcS,reduceCtorEq] at hc;try (exfalso;omega)))|(apply Bb;exact J;exact J;all_goals (intro hc;try simp only [hcS,reduceCtorEq] at hc;try (exfalso;omega))))
     all_goals first
      | (exfalso;simp at hc;done)
      | (exfalso;omega)
      | (exact Bv rfl rfl rfl rfl)
      | (exact Bv rfl rfl rfl (by simp [Dh]))
 · rw [decide_eq_false hF] at hfew
   repeat' (first|apply Ad|apply At|apply Aa|apply Ab|(apply Ac;(iterate 3 exact J))|(apply Aj;(iterate 3 exact J);(first|(apply Av;exact J;intro b;skip)|(apply Ap;exact J;exact Oo;exact hsane;skip)|(apply Ap;exact J;exact Mq;exact hfew;skip)))|(apply Af;exact J;all_goals (intro hc;try simp only [hcS,reduceCtorEq] at hc;try (exfalso;omega))))
   all_goals first
    | (exact Bv rfl rfl rfl rfl)
    | (exfalso;simp at hc;done)
end Go.Hw

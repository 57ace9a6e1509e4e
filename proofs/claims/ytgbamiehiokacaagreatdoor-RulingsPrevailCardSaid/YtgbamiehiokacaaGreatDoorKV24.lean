import Derived.Test.YtgbamiehiokacaaGreatDoorKV23
set_option linter.unusedVariables false
set_option linter.unusedSimpArgs false
set_option maxRecDepth 100000
set_option maxHeartbeats 16000000
namespace Go.Hw
open Go
attribute [local irreducible] GO GOl GDp Val Fn Res CellsAt ValE Blk OwnS MapA OwnPf Has Yl SepA forceL idF voidL OwnAt ofR
open Go.Proofs (Tryz.prog)
theorem In32_v {h : Ro} {l : List (Fsh × Fct)} (hf : ∀ p ∈ l,FAt h p.1 p.2 ∧ FSm p.2) : In32 (fcs l):=fun f hf2 => by
 obtain ⟨p,hp,rfl⟩:=List.mem_map.1 hf2
 exact (hf p hp).1.void
open Classical in
theorem Si (h : Ro) (hG : PowG h) (A : Option Addr) (n c : Nat) (l : List (Fsh × Fct)) (hx : LedIn h A n c l) : Res Tryz.prog 6 #[.slice A n c] h (fun u _ => u = .bool true):=by
 refine Br (args:=[_]) ts_ok Go.Proofs.Tryz.func6 rfl rfl fun w0 X0 => ?_
 have hfew:=few10_c h A n c l hx.row hx.small
 have hsane:=Aba h hG
 by_cases hF : (∀ p ∈ l,SmallS p.1 p.2) ∧ (n : Int) ≤ 16
 · rw [decide_eq_true hF] at hfew
   have hfa:=hx.facts16 hF.2
   have hlen:=hfa.row.len
   have hn16:=hF.2
   have hfat:=hfa.fat
   have hrow:=hfa.row
   have h32 : In32 (fcs l):=In32_v hfa.fat
   have hsC:=(Cp (fcs l) h32).1
   have hok : ∀ f ∈ canonL (fcs l),FctOk f:=fun f hf => ((Kr h32 f).1 hf).2
   have hmC:=Kr h32
   have hend : ∀ f,f ∈ forceL (canonL (fcs l)) → ∀ o,OwnAt l f.ru l.length o → o ∈ l ∧ o.2 = f:=fun f hf o ho => own_end h32 hf ho
   have hf1:=fun h' (hl : Le h h') => Fa h' (hG.le hl) A n c l (hfa.le hl)
   have ho1:=fun num h' (hl : Le h h') => Of_c h' (hG.le hl) A n c l (hfa.le hl) num
   have hs1:=fun num h' (hl : Le h h') => Ju h' (hG.le hl) A n c l (hfa.le hl) num
   have hgd : ∀ p ∈ l,FctOk p.2 → FGd h p:=fun p hp hk => ⟨(hfat p hp).1,(hfat p hp).2,hk⟩
   generalize canonL (fcs l) = C at *
   clear hF hfa hx
   repeat' (first|apply Ad|apply At|apply Ah|apply Aa|apply Ab|(apply Ac;(iterate 3 exact J))|(apply Aj;(iterate 3 exact J);(first|(apply Ap;exact J;exact has15;exact hsane;skip)|(apply Ap;exact J;exact has16;exact hfew;skip)|(apply Bf;exact J;exact Ot;exact hf1 _ QL;rintro w3 h3 hle3 ⟨A3,c3,rl,rfl,hsl,hrl,hn3⟩;skip)))|(apply Af;exact J;all_goals (intro hc;try simp only [hcS,reduceCtorEq] at hc;try (exfalso;omega))))
   all_goals (try (exfalso;simp at hc;done))
   clear hf1 hfew hsane
   refine Bi (X:=Nat × Ro) (fun x => x.1 ≤ rl.length ∧ Le h3 x.2) (fun x => rl.length - x.1)
    (fun x => [(26,.int .i64 x.1),(25,.int .i64 rl.length),(24,.slice A3 rl.length c3),(3,.slice A3 rl.length c3),(0,.slice A n c)])
    (fun x => []) (fun x => x.2) (0,h3) ⟨by dsimp only;omega,Le.refl _⟩ QS QT rfl ?_
   rintro ⟨i,hi⟩ ⟨hil,hle⟩ ih
   dsimp only at hil hle ih ⊢
   by_cases hin : i < rl.length
   · have hin2 : i < ((forceL C).map (·.ru)).length:=by rw [← hrl];exact hin
     obtain ⟨f,hff,hfr,hof⟩:=force_ru hin2
     rw [← hrl] at hfr
     have hlt:=fun h0 => force_lt (C:=C) (k:=i) h0 hin2
     rw [← hrl] at hlt
     have a1:=hsl.addrD hin
     have c1 : CellsAt hi ((addrD A3).add (i * ty44.size)) (rulC (rl.getD i rul0)):=(hsl.cellsD rul0 hin).le hle
     have c2:=fun (h0 : 0 < i) => (show CellsAt hi ((addrD A3).add ((i - 1) * ty44.size)) (rulC (rl.getD (i - 1) rul0)) from (hsl.cellsD rul0 (by omega)).le hle)
     rw [hfr] at c1 hlt
     generalize rl.getD (i - 1) rul0 = pr at *
     have hle0 : Le h hi:=QL
     have hnx:=fun h' (hl : Le hi h') => ih (i + 1,h') ⟨by dsimp only;omega,hle.trans hl⟩ (by dsimp only;omega)
     dsimp only at hnx
     clear ih
     obtain ⟨hfC,hfk,hnh,hst5,hla5⟩:=Ga hff
     have hend:=hend f hff
     have hsu : ∀ h',Le h h' → Res Tryz.prog 31 #[.slice A n c,.int .i64 f.ru.case] h' (fun u _ => u = .bool false):=fun h' hl => by
      have:=hs1 f.ru.case h' hl
      rwa [decide_eq_false hnh] at this
     have hoo : ∀ h',Le h h' → Res Tryz.prog 32 #[.slice A n c,.int .i64 f.ru.case] h' (fun u _ => u = .tuple #[.agg (rulC f.ru).toArray,.bool true]):=fun h' hl => by
      have:=ho1 f.ru.case h' hl
      rw [hof] at this
      exact this
     have hru:=fun x (hx : x ∈ C) hk hc => Cia hsC hff (x:=x) hx hk hc
     have hap:=fun x (hx : x ∈ C) hk hc hi hs => Cja hok hff (x:=x) hx hk hc hi hs
     have hpC : ∀ p ∈ l,FctOk p.2 → p.2 ∈ C:=fun p hp hk => (hmC p.2).2 ⟨⟨p.1,hp⟩,hk⟩
     have hfo:=hok f hfC
     have hre:=Gk f.ru f.ru
     rw [decide_eq_true rfl] at hre
     clear hst5 hla5 hs1 ho1 hnh hof hsC hok hmC hff hfr hrl hin2 hfC
     by_cases h0 : 0 < i
     case' pos =>
      have hlt:=hlt h0
      have c2:=c2 h0
      repeat' (first|apply Ad|apply At|apply Ah|apply Aa|apply Ab|(apply Aj;(iterate 3 exact J);apply Ai (e:=44);exact J;intro b5)|(apply Aj;(iterate 3 exact J);apply Ai (e:=54);exact J;intro b6)|(apply Ac;(iterate 3 exact J))|(apply Bc;exact J;exact J;(first|(first|(apply Bd (j:=i);(iterate 5 exact J);exact a1;(with_reducible exact J);omega)|(apply Bd (j:=i - 1);(iterate 5 exact J);exact a1;omega;omega))|(first|(apply Au;exact J;apply Bl;exact J;(with_reducible exact c1);exact J)|(apply Au;exact J;apply Bl;exact J;(with_reducible exact c2);exact J)));exact QA)|(apply Aj;(iterate 3 exact J);(first|(apply Ag;(iterate 3 exact J);exact QR;(iterate 3 exact J);skip)))|(apply Bh (n:=9) [0,1,2,3,4,5,6,7,8,9,10,11,12] [(0,0),(1,0),(2,0),(3,0),(4,0),(5,0),(6,0),(7,0),(8,0),(9,0),(10,0),(11,0),(12,0)];kernel_rfl)|(apply Hr;exact J;kernel_rfl;(iterate 5 exact J);omega)|(apply Ca;exact J;kernel_rfl;(iterate 3 exact J))|(apply Bu;exact J;kernel_rfl;(iterate 3 exact J);exact QM;exact J;exact J)|(apply Ci;exact J;kernel_rfl;exact J;exact J;(first|(first|(apply Bd (j:=i);(iterate 5 exact J);exact a1;(with_reducible exact J);omega)|(apply Bd (j:=i - 1);(iterate 5 exact J);exact a1;omega;omega))|(apply Au;exact J;first|exact Bl rfl (by assumption) rfl|exact Ck rfl (by assumption) rfl|exact Cf rfl (by assumption) rfl|exact Lv_roF3 rfl (by assumption) rfl));exact QA)|(apply Bn;kernel_rfl;exact J)|(apply Dj;(iterate 5 exact J);all_goals (intro hc;try simp only [hcS,reduceCtorEq] at hc;try (exfalso;omega)))|(apply Af;exact J;all_goals (intro hc;try simp only [hcS,reduceCtorEq] at hc;try (exfalso;omega))))
     case' neg =>
      clear hlt c2
      repeat' (first|apply Ad|apply At|apply Ah|apply Aa|apply Ab|(apply Aj;(iterate 3 exact J);apply Ai (e:=44);exact J;intro b5)|(apply Aj;(iterate 3 exact J);apply Ai (e:=54);exact J;intro b6)|(apply Ac;(iterate 3 exact J))|(apply Bc;exact J;exact J;(first|(apply Bd (j:=i);(iterate 5 exact J);exact a1;(with_reducible exact J);omega)|(apply Au;exact J;apply Bl;exact J;(with_reducible exact c1);exact J));exact QA)|(apply Aj;(iterate 3 exact J);(first|(apply Ag;(iterate 3 exact J);exact QR;(iterate 3 exact J);skip)))|(apply Bh (n:=9) [0,1,2,3,4,5,6,7,8,9,10,11,12] [(0,0),(1,0),(2,0),(3,0),(4,0),(5,0),(6,0),(7,0),(8,0),(9,0),(10,0),(11,0),(12,0)];kernel_rfl)|(apply Tz;exact J;kernel_rfl;exact J;exact J)|(apply Ca;exact J;kernel_rfl;(iterate 3 exact J))|(apply Bn;kernel_rfl;exact J)|(apply Dj;(iterate 5 exact J);all_goals (intro hc;try simp only [hcS,reduceCtorEq] at hc;try (exfalso;omega)))|(apply Af;exact J;all_goals (intro hc;try simp only [hcS,reduceCtorEq] at hc;try (exfalso;omega))))
     all_goals (try (exfalso;omega))
     all_goals
      refine Bi (X:=Nat × (Fsh × Fct) × Ro) (fun x => x.1 ≤ n ∧ Le hi x.2.2 ∧ OwnAt l f.ru x.1 x.2.1) (fun x => n - x.1)
       (fun x => [(46,.int .i64 x.1),(45,.int .i64 n),(44,.slice A n c),(6,ptrV b6),(5,ptrV b5),(26,.int .i64 i),(25,.int .i64 rl.length),(24,.slice A3 rl.length c3),(3,.slice A3 rl.length c3),(0,.slice A n c)])
       (fun x => [Blk b6 54 (factC x.2.1.1 x.2.1.2),Blk b5 44 (rulC f.ru)]) (fun x => x.2.2) (0,(fsh0,fct0),hi) ⟨by dsimp only;omega,Le.refl _,own_zero _ _⟩ QS QT rfl ?_
      rintro ⟨k,o,hh⟩ ⟨hk,hlh,hO⟩ ihA
      dsimp only at hk hlh hO ihA ⊢
      by_cases hkn : k < n
      · have aL:=hrow.addrD hkn
        have cL : CellsAt hh ((addrD A).add (k * ty54.size)) (encF82 (l.getD k p0)):=(hrow.cellsD p0 hkn).le (hle0.trans hlh)
        have et:=Cr p0 hlen hkn
        have hme:=mem7 p0 (show k < l.length by omega)
        have hfp:=hfat _ hme
        have hgp:=hgd _ hme
        generalize l.getD k p0 = p at *
        have hch:=Fq hh p.1 p.2 (hfp.1.le (hle0.trans hlh)) hfp.2
        have hge:=Gk p.2.ru f.ru
        by_cases hM : Mt f.ru p.2
        · have hM2:=hM
          obtain ⟨m1,m2,m3⟩:=hM2
          have gp:=hgp m3
          rw [if_pos m3] at hch
          rw [decide_eq_true m2] at hge
          unfold OwnAt at hO
          rcases hO with ⟨ho,hO1⟩|⟨o1,o2,o3⟩
          · have o4 : o.2.kind = 0:=by rw [ho];rfl
            clear ho
            have h4:=ihA (k + 1,p,hh) ⟨by dsimp only;omega,hlh,own_new et hO1 hme hM⟩ (by dsimp only;omega)
            dsimp only at h4 ⊢
            clear ihA hnx hend hru hap hO1
            repeat' (first|apply Ad|apply At|apply Ao|apply Ah|apply Aa|apply Ab|(apply Ar;exact J;exact J)|(apply Bg;(iterate 3 exact J);omega;exact J;exact J)|(apply Ac;(iterate 3 exact J))|(apply Aq;exact J;exact Ba rfl QM rfl;exact J;exact J)|(apply Bc;exact J;exact J;(first|(apply Bd (j:=k);(iterate 5 exact J);exact aL;(with_reducible exact J);omega)|(apply Au;exact J;exact Bl rfl cL rfl)|(apply Da;exact J;exact J;exact hge;kernel_rfl;kernel_rfl));exact QA)|(apply Aj;(iterate 3 exact J);(first|(apply Ag;(iterate 3 exact J);exact QR;(iterate 3 exact J);skip)|(apply Ai;exact J;intro b;skip)|(apply Ap;exact J;exact Gh;exact hch;skip)))|(apply Af;exact J;all_goals (intro hc;try simp only [hcS,reduceCtorEq] at hc;try (exfalso;omega)))|(apply Bb;exact J;exact J;all_goals (intro hc;try simp only [hcS,reduceCtorEq] at hc;try (exfalso;omega))))
            all_goals first
             | (exfalso;omega)
             | (exfalso;simp at hc;done)
             | (refine Bk QS QT (h4))
          · have go:=hgd o o1 o2.2.2
            have o4:=o2.1
            have hcm:=fun h' (hl : Le hh h') => cmp_c h' (hG.le ((hle0.trans hlh).trans hl)) p o (gp.le ((hle0.trans hlh).trans hl)) (go.le ((hle0.trans hlh).trans hl))
            by_cases hc9 : cmpF p.2 o.2 < 0
            · have h4:=fun h' (hl : Le hh h') => ihA (k + 1,p,h') ⟨by dsimp only;omega,hlh.trans hl,own_less et o3 hme hM (Dx.1 hc9)⟩ (by dsimp only;omega)
              dsimp only at h4 ⊢
              clear ihA hnx hend hru hap o3
              repeat' (first|apply Ad|apply At|apply Ao|apply Ah|apply Aa|apply Ab|(apply Bg;(iterate 3 exact J);omega;exact J;exact J)|(apply Ac;(iterate 3 exact J))|(apply Aq;exact J;exact Ba rfl QM rfl;exact J;exact J)|(apply Bc;exact J;exact J;(first|(apply Bd (j:=k);(iterate 5 exact J);exact aL;(with_reducible exact J);omega)|(apply Au;exact J;exact Bl rfl cL rfl)|(apply Da;exact J;exact J;exact hge;kernel_rfl;kernel_rfl));exact QA)|(apply Aj;(iterate 3 exact J);(first|(apply Ag;(iterate 3 exact J);exact QR;(iterate 3 exact J);skip)|(apply Ai;exact J;intro b;skip)|(apply Ap;exact J;exact Gh;exact hch;skip)|(apply Bf;exact J;exact Oq;exact hcm _ QL;rintro vr hr1 hle5 rfl;skip)))|(apply Af;exact J;all_goals (intro hc;try simp only [hcS,reduceCtorEq] at hc;try (exfalso;omega)))|(apply Bb;exact J;exact J;all_goals (intro hc;try simp only [hcS,reduceCtorEq] at hc;try (exfalso;omega))))
              all_goals first
               | (exfalso;omega)
               | (exfalso;simp at hc;done)
               | (have h4:=h4 hr1 hle5
                  refine Bk QS QT (h4))
            · have h4:=fun h' (hl : Le hh h') => ihA (k + 1,o,h') ⟨by dsimp only;omega,hlh.trans hl,own_keep et o1 o2 o3 (fun q => hc9 (Dx.2 q))⟩ (by dsimp only;omega)
              dsimp only at h4 ⊢
              clear ihA hnx hend hru hap o3
              repeat' (first|apply Ad|apply At|apply Ao|apply Ah|apply Aa|apply Ab|(apply Bg;(iterate 3 exact J);omega;exact J;exact J)|(apply Ac;(iterate 3 exact J))|(apply Aq;exact J;exact Ba rfl QM rfl;exact J;exact J)|(apply Bc;exact J;exact J;(first|(apply Bd (j:=k);(iterate 5 exact J);exact aL;(with_reducible exact J);omega)|(apply Au;exact J;exact Bl rfl cL rfl)|(apply Da;exact J;exact J;exact hge;kernel_rfl;kernel_rfl));exact QA)|(apply Aj;(iterate 3 exact J);(first|(apply Ag;(iterate 3 exact J);exact QR;(iterate 3 exact J);skip)|(apply Ai;exact J;intro b;skip)|(apply Ap;exact J;exact Gh;exact hch;skip)|(apply Bf;exact J;exact Oq;exact hcm _ QL;rintro vr hr1 hle5 rfl;skip)))|(apply Af;exact J;all_goals (intro hc;try simp only [hcS,reduceCtorEq] at hc;try (exfalso;omega)))|(apply Bb;exact J;exact J;all_goals (intro hc;try simp only [hcS,reduceCtorEq] at hc;try (exfalso;omega))))
              all_goals first
               | (exfalso;omega)
               | (exfalso;simp at hc;done)
               | (have h4:=h4 hr1 hle5
                  refine Bk QS QT (h4))
        · have h4:=ihA (k + 1,o,hh) ⟨by dsimp only;omega,hlh,own_skip et hO hM⟩ (by dsimp only;omega)
          dsimp only at h4 ⊢
          clear ihA hnx hend hru hap hO
          by_cases m1 : p.2.kind = 4
          · by_cases m2 : p.2.ru = f.ru
            · have m3 : ¬ FctOk p.2:=fun q => hM ⟨m1,m2,q⟩
              rw [if_neg m3] at hch
              rw [decide_eq_true m2] at hge
              repeat' (first|apply Ad|apply At|apply Ao|apply Ah|apply Aa|apply Ab|(apply Ar;exact J;exact J)|(apply Bg;(iterate 3 exact J);omega;exact J;exact J)|(apply Ac;(iterate 3 exact J))|(apply Aq;exact J;exact Ba rfl QM rfl;exact J;exact J)|(apply Bc;exact J;exact J;(first|(apply Bd (j:=k);(iterate 5 exact J);exact aL;(with_reducible exact J);omega)|(apply Au;exact J;exact Bl rfl cL rfl)|(apply Da;exact J;exact J;exact hge;kernel_rfl;kernel_rfl));exact QA)|(apply Aj;(iterate 3 exact J);(first|(apply Ag;(iterate 3 exact J);exact QR;(iterate 3 exact J);skip)|(apply Ai;exact J;intro b;skip)|(apply Ap;exact J;exact Gh;exact hch;skip)))|(apply Af;exact J;all_goals (intro hc;try simp only [hcS,reduceCtorEq] at hc;try (exfalso;omega)))|(apply Bb;exact J;exact J;all_goals (intro hc;try simp only [hcS,reduceCtorEq] at hc;try (exfalso;omega))))
              all_goals first
               | (exfalso;omega)
               | (exfalso;simp at hc;done)
               | (refine Bk QS QT (h4))
            · rw [decide_eq_false m2] at hge
              repeat' (first|apply Ad|apply At|apply Ao|apply Ah|apply Aa|apply Ab|(apply Ar;exact J;exact J)|(apply Bg;(iterate 3 exact J);omega;exact J;exact J)|(apply Ac;(iterate 3 exact J))|(apply Aq;exact J;exact Ba rfl QM rfl;exact J;exact J)|(apply Bc;exact J;exact J;(first|(apply Bd (j:=k);(iterate 5 exact J);exact aL;(with_reducible exact J);omega)|(apply Au;exact J;exact Bl rfl cL rfl)|(apply Da;exact J;exact J;exact hge;kernel_rfl;kernel_rfl));exact QA)|(apply Aj;(iterate 3 exact J);(first|(apply Ag;(iterate 3 exact J);exact QR;(iterate 3 exact J);skip)|(apply Ai;exact J;intro b;skip)))|(apply Af;exact J;all_goals (intro hc;try simp only [hcS,reduceCtorEq] at hc;try (exfalso;omega)))|(apply Bb;exact J;exact J;all_goals (intro hc;try simp only [hcS,reduceCtorEq] at hc;try (exfalso;omega))))
              all_goals first
               | (exfalso;omega)
               | (exfalso;simp at hc;done)
               | (refine Bk QS QT (h4))
          · repeat' (first|apply Ad|apply At|apply Ao|apply Ah|apply Aa|apply Ab|(apply Ar;exact J;exact J)|(apply Bg;(iterate 3 exact J);omega;exact J;exact J)|(apply Ac;(iterate 3 exact J))|(apply Aq;exact J;exact Ba rfl QM rfl;exact J;exact J)|(apply Bc;exact J;exact J;(first|(apply Bd (j:=k);(iterate 5 exact J);exact aL;(with_reducible exact J);omega)|(apply Au;exact J;exact Bl rfl cL rfl));exact QA)|(apply Aj;(iterate 3 exact J);(first|(apply Ag;(iterate 3 exact J);exact QR;(iterate 3 exact J);skip)|(apply Ai;exact J;intro b;skip)))|(apply Af;exact J;all_goals (intro hc;try simp only [hcS,reduceCtorEq] at hc;try (exfalso;omega)))|(apply Bb;exact J;exact J;all_goals (intro hc;try simp only [hcS,reduceCtorEq] at hc;try (exfalso;omega))))
            all_goals first
             | (exfalso;omega)
             | (exfalso;simp at hc;done)
             | (refine Bk QS QT (h4))
      · have ek : k = l.length:=by omega
        rw [ek] at hO
        obtain ⟨hol,hof2⟩:=hend o hO
        obtain ⟨so,fo⟩:=o
        dsimp only at hof2 hol ⊢
        subst hof2
        have go:=hgd _ hol hfo
        clear ihA hO hend
        repeat' (first|apply Ad|apply At|apply Ah|apply Aa|apply Ab|(apply Bm;exact J)|(apply Ac;(iterate 3 exact J))|(apply Aq;exact J;exact Ba rfl QM rfl;exact J;exact J)|(apply Aj;(iterate 3 exact J);(first|(apply Bf;exact J;exact has31;exact hsu _ QL;rintro vs hs9 hle9 rfl;skip)))|(apply Af;exact J;all_goals (intro hc;try simp only [hcS,reduceCtorEq] at hc;try (exfalso;omega)))|(apply Bb;exact J;exact J;all_goals (intro hc;try simp only [hcS,reduceCtorEq] at hc;try (exfalso;omega))))
        all_goals (try (exfalso;omega))
        all_goals (try (exfalso;simp at hc;done))
        refine Bi (X:=Nat × Ro) (fun x => x.1 ≤ n ∧ Le hs9 x.2) (fun x => n - x.1)
         (fun x => [(88,.int .i64 x.1),(87,.int .i64 n),(86,.slice A n c),(6,ptrV b6),(5,ptrV b5),(26,.int .i64 i),(25,.int .i64 rl.length),(24,.slice A3 rl.length c3),(3,.slice A3 rl.length c3),(0,.slice A n c)])
         (fun x => [Blk b6 54 (factC so fo),Blk b5 44 (rulC fo.ru)]) (fun x => x.2) (0,hs9) ⟨by dsimp only;omega,Le.refl _⟩ QS QT rfl ?_
        rintro ⟨k,hh⟩ ⟨hk,hlj⟩ ihB
        dsimp only at hk hlj ihB ⊢
        have hle0 : Le h hh:=QL
        by_cases hkn : k < n
        · have aL:=hrow.addrD hkn
          have cL : CellsAt hh ((addrD A).add (k * ty54.size)) (encF82 (l.getD k p0)):=(hrow.cellsD p0 hkn).le hle0
          have hme:=mem7 p0 (show k < l.length by omega)
          have hfp:=hfat _ hme
          have hgp:=hgd _ hme
          have hpc:=hpC _ hme
          generalize l.getD k p0 = p at *
          have hch:=Fq hh p.1 p.2 (hfp.1.le hle0) hfp.2
          have h4:=fun h' (hl : Le hh h') => ihB (k + 1,h') ⟨by dsimp only;omega,hlj.trans hl⟩ (by dsimp only;omega)
          dsimp only at h4
          clear ihB hnx hpC hfat hgd
          by_cases m3 : FctOk p.2
          · rw [if_pos m3] at hch
            have hru:=hru p.2 (hpc m3)
            have hap:=hap p.2 (hpc m3)
            have gp:=hgp m3
            have hcm:=fun h' (hl : Le hh h') => cmp_c h' (hG.le (hle0.trans hl)) p (so,fo) (gp.le (hle0.trans hl)) (go.le (hle0.trans hl))
            by_cases m1 : p.2.kind = 4
            · have hru:=hru m1
              clear hap
              by_cases m2 : p.2.ru.case = fo.ru.case
              · obtain ⟨q1,q2⟩:=hru m2
                by_cases m4 : p.2.ru.inst = fo.ru.inst
                · have q3 : ¬ cmpF p.2 fo < 0:=fun e => q2 m4 (Dx.1 e)
                  clear q2 hru
                  repeat' (first|apply Ad|apply At|apply Ao|apply Ah|apply Aa|apply Ab|(apply Ar;exact J;exact J)|(apply Bg;(iterate 3 exact J);omega;exact J;exact J)|(apply Ac;(iterate 3 exact J))|(apply Aq;exact J;exact Ba rfl QM rfl;exact J;exact J)|(apply Bc;exact J;exact J;(first|(apply Bd (j:=k);(iterate 5 exact J);exact aL;(with_reducible exact J);omega)|(apply Au;exact J;exact Bl rfl cL rfl));exact QA)|(apply Aj;(iterate 3 exact J);(first|(apply Ag;(iterate 3 exact J);exact QR;(iterate 3 exact J);skip)|(apply Ai;exact J;intro b;skip)|(apply Ap;exact J;exact Gh;exact hch;skip)|(apply Bf;exact J;exact Oq;exact hcm _ QL;rintro vr hr1 hle5 rfl;skip)))|(apply Af;exact J;all_goals (intro hc;try simp only [hcS,reduceCtorEq] at hc;try (exfalso;omega)))|(apply Bb;exact J;exact J;all_goals (intro hc;try simp only [hcS,reduceCtorEq] at hc;try (exfalso;omega))))
                  all_goals first
                   | (exfalso;omega)
                   | (exfalso;simp at hc;done)
                   | (have h4:=h4 hr1 hle5
                      refine Bk QS QT (h4))
                · clear q2 hru hcm
                  have h4:=h4 hh (Le.refl _)
                  repeat' (first|apply Ad|apply At|apply Ao|apply Ah|apply Aa|apply Ab|(apply Ar;exact J;exact J)|(apply Bg;(iterate 3 exact J);omega;exact J;exact J)|(apply Ac;(iterate 3 exact J))|(apply Aq;exact J;exact Ba rfl QM rfl;exact J;exact J)|(apply Bc;exact J;exact J;(first|(apply Bd (j:=k);(iterate 5 exact J);exact aL;(with_reducible exact J);omega)|(apply Au;exact J;exact Bl rfl cL rfl));exact QA)|(apply Aj;(iterate 3 exact J);(first|(apply Ag;(iterate 3 exact J);exact QR;(iterate 3 exact J);skip)|(apply Ai;exact J;intro b;skip)|(apply Ap;exact J;exact Gh;exact hch;skip)))|(apply Af;exact J;all_goals (intro hc;try simp only [hcS,reduceCtorEq] at hc;try (exfalso;omega)))|(apply Bb;exact J;exact J;all_goals (intro hc;try simp only [hcS,reduceCtorEq] at hc;try (exfalso;omega))))
                  all_goals first
                   | (exfalso;omega)
                   | (exfalso;simp at hc;done)
                   | (refine Bk QS QT (h4))
              · clear hru hcm
                have h4:=h4 hh (Le.refl _)
                repeat' (first|apply Ad|apply At|apply Ao|apply Ah|apply Aa|apply Ab|(apply Ar;exact J;exact J)|(apply Bg;(iterate 3 exact J);omega;exact J;exact J)|(apply Ac;(iterate 3 exact J))|(apply Aq;exact J;exact Ba rfl QM rfl;exact J;exact J)|(apply Bc;exact J;exact J;(first|(apply Bd (j:=k);(iterate 5 exact J);exact aL;(with_reducible exact J);omega)|(apply Au;exact J;exact Bl rfl cL rfl));exact QA)|(apply Aj;(iterate 3 exact J);(first|(apply Ag;(iterate 3 exact J);exact QR;(iterate 3 exact J);skip)|(apply Ai;exact J;intro b;skip)|(apply Ap;exact J;exact Gh;exact hch;skip)))|(apply Af;exact J;all_goals (intro hc;try simp only [hcS,reduceCtorEq] at hc;try (exfalso;omega)))|(apply Bb;exact J;exact J;all_goals (intro hc;try simp only [hcS,reduceCtorEq] at hc;try (exfalso;omega))))
                all_goals first
                 | (exfalso;omega)
                 | (exfalso;simp at hc;done)
                 | (refine Bk QS QT (h4))
            · clear hru hcm
              have h4:=h4 hh (Le.refl _)
              by_cases m5 : p.2.kind = 5
              · have hae:=app_eq p.2 { fct0 with aCase:=fo.ru.case,aInst:=fo.ru.inst,aSusp:=true }
                have ham : ¬ (p.2.aCase = fo.ru.case ∧ p.2.aInst = fo.ru.inst ∧ p.2.aSusp = true):=fun q => hap m5 q.1 q.2.1 q.2.2
                rw [decide_eq_false ham] at hae
                clear hap
                repeat' (first|apply Ad|apply At|apply Ao|apply Ah|apply Aa|apply Ab|(apply Ar;exact J;exact J)|(apply Bg;(iterate 3 exact J);omega;exact J;exact J)|(apply Ac;(iterate 3 exact J))|(apply Aq;exact J;exact Ba rfl QM rfl;exact J;exact J)|(apply Bc;exact J;exact J;(first|(apply Bd (j:=k);(iterate 5 exact J);exact aL;(with_reducible exact J);omega)|(apply Au;exact J;exact Bl rfl cL rfl)|(apply Da;exact J;exact J;exact hae;kernel_rfl;kernel_rfl));exact QA)|(apply Aj;(iterate 3 exact J);(first|(apply Ag;(iterate 3 exact J);exact QR;(iterate 3 exact J);skip)|(apply Ai;exact J;intro b;skip)|(apply Ap;exact J;exact Gh;exact hch;skip)))|(apply Af;exact J;all_goals (intro hc;try simp only [hcS,reduceCtorEq] at hc;try (exfalso;omega)))|(apply Bb;exact J;exact J;all_goals (intro hc;try simp only [hcS,reduceCtorEq] at hc;try (exfalso;omega))))
                all_goals first
                 | (exfalso;omega)
                 | (exfalso;simp at hc;done)
                 | (refine Bk QS QT (h4))
              · clear hap
                repeat' (first|apply Ad|apply At|apply Ao|apply Ah|apply Aa|apply Ab|(apply Ar;exact J;exact J)|(apply Bg;(iterate 3 exact J);omega;exact J;exact J)|(apply Ac;(iterate 3 exact J))|(apply Aq;exact J;exact Ba rfl QM rfl;exact J;exact J)|(apply Bc;exact J;exact J;(first|(apply Bd (j:=k);(iterate 5 exact J);exact aL;(with_reducible exact J);omega)|(apply Au;exact J;exact Bl rfl cL rfl));exact QA)|(apply Aj;(iterate 3 exact J);(first|(apply Ag;(iterate 3 exact J);exact QR;(iterate 3 exact J);skip)|(apply Ai;exact J;intro b;skip)|(apply Ap;exact J;exact Gh;exact hch;skip)))|(apply Af;exact J;all_goals (intro hc;try simp only [hcS,reduceCtorEq] at hc;try (exfalso;omega)))|(apply Bb;exact J;exact J;all_goals (intro hc;try simp only [hcS,reduceCtorEq] at hc;try (exfalso;omega))))
                all_goals first
                 | (exfalso;omega)
                 | (exfalso;simp at hc;done)
                 | (refine Bk QS QT (h4))
          · rw [if_neg m3] at hch
            have h4:=h4 hh (Le.refl _)
            clear hru hap
            repeat' (first|apply Ad|apply At|apply Ah|apply Aa|apply Ab|(apply Bm;exact J)|(apply Bg;(iterate 3 exact J);omega;exact J;exact J)|(apply Ac;(iterate 3 exact J))|(apply Aq;exact J;exact Ba rfl QM rfl;exact J;exact J)|(apply Bc;exact J;exact J;(first|(apply Bd (j:=k);(iterate 5 exact J);exact aL;(with_reducible exact J);omega)|(apply Au;exact J;exact Bl rfl cL rfl));exact QA)|(apply Aj;(iterate 3 exact J);(first|(apply Ag;(iterate 3 exact J);exact QR;(iterate 3 exact J);skip)|(apply Ai;exact J;intro b;skip)|(apply Ap;exact J;exact Gh;exact hch;skip)))|(apply Af;exact J;all_goals (intro hc;try simp only [hcS,reduceCtorEq] at hc;try (exfalso;omega))))
            all_goals first
             | (exfalso;omega)
             | (exfalso;simp at hc;done)
             | (refine Bk QS QT (h4))
        · clear ihB hru hap
          repeat' (first|apply Ad|apply At|apply Ao|apply Aa|apply Ab|(apply Bm;exact J)|(apply Bg;(iterate 3 exact J);omega;exact J;exact J)|(apply Ac;(iterate 3 exact J))|(apply Aq;exact J;exact Ba rfl QM rfl;exact J;exact J)|(apply Bc;exact J;exact J;(first|(apply Ih;exact J;exact J;exact hre;kernel_rfl;kernel_rfl));exact QA)|(apply Aj;(iterate 3 exact J);(first|(apply Ag;(iterate 3 exact J);exact QR;(iterate 3 exact J);skip)|(apply Ai;exact J;intro b;skip)|(apply Bf;exact J;exact has32;exact hoo _ QL;rintro v8 h8 hle8 rfl;skip)))|(apply Af;exact J;all_goals (intro hc;try simp only [hcS,reduceCtorEq] at hc;try (exfalso;omega))))
          all_goals first
           | (exfalso;omega)
           | (exfalso;simp at hc;done)
           | (have h4:=hnx h8 QL
              refine Bk QS QT (h4))
   · clear ih
     repeat' (first|apply Ad|apply Ah|apply Aa|apply Ab|(apply Bm;exact J)|(apply Ac;(iterate 3 exact J))|(apply Af;exact J;all_goals (intro hc;try simp only [hcS,reduceCtorEq] at hc;try (exfalso;omega))))
     all_goals (try (exfalso;omega))
     refine Bi (X:=Nat × Ro) (fun x => x.1 ≤ n ∧ Le hi x.2) (fun x => n - x.1)
      (fun x => [(159,.int .i64 x.1),(158,.int .i64 n),(157,.slice A n c),(0,.slice A n c)])
      (fun x => []) (fun x => x.2) (0,hi) ⟨by dsimp only;omega,Le.refl _⟩ QS QT rfl ?_
     rintro ⟨k,hh⟩ ⟨hk,hlj⟩ ihC
     dsimp only at hk hlj ihC ⊢
     have hle0 : Le h hh:=QL
     by_cases hkn : k < n
     · have aL:=hrow.addrD hkn
       have cL : CellsAt hh ((addrD A).add (k * ty54.size)) (encF82 (l.getD k p0)):=(hrow.cellsD p0 hkn).le hle0
       have hme:=mem7 p0 (show k < l.length by omega)
       have hfp:=hfat _ hme
       have hpc:=fun q => (hmC (l.getD k p0).2).2 ⟨⟨(l.getD k p0).1,hme⟩,q⟩
       generalize l.getD k p0 = p at *
       have hch:=Fq hh p.1 p.2 (hfp.1.le hle0) hfp.2
       have h4:=fun h' (hl : Le hh h') => ihC (k + 1,h') ⟨by dsimp only;omega,hlj.trans hl⟩ (by dsimp only;omega)
       dsimp only at h4
       by_cases m1 : p.2.kind = 4
       · by_cases m3 : FctOk p.2
         · rw [if_pos m3] at hch
           have hoh:=of_held hok (hpc m3) m1
           have hoo:=ho1 p.2.ru.case
           have hsu:=hs1 p.2.ru.case
           rw [hoh] at hoo
           generalize decide (HeldI C p.2.ru.case) = hb at *
           clear ihC hoh ho1 hs1 hend hok hmC hgd
           cases hb
           all_goals (repeat' (first|apply Ad|apply At|apply Ao|apply Ah|apply Aa|apply Ab|(apply Bg;(iterate 3 exact J);omega;exact J;exact J)|(apply Ac;(iterate 3 exact J))|(apply Aq;exact J;exact Ba rfl QM rfl;exact J;exact J)|(apply Bc;exact J;exact J;(first|(apply Bd (j:=k);(iterate 5 exact J);exact aL;(with_reducible exact J);omega)|(apply Au;exact J;exact Bl rfl cL rfl));exact QA)|(apply Aj;(iterate 3 exact J);(first|(apply Ag;(iterate 3 exact J);exact QR;(iterate 3 exact J);skip)|(apply Ai;exact J;intro b;skip)|(apply Ap;exact J;exact Gh;exact hch;skip)|(apply Bf;exact J;exact has32;exact hoo _ QL;rintro v8 h8 hle8 rfl;skip)|(apply Bf;exact J;exact has31;exact hsu _ QL;rintro vs hs9 hle9 rfl;skip)))|(apply Af;exact J;all_goals (intro hc;try simp only [hcS,reduceCtorEq] at hc;try (exfalso;omega)))|(apply Bb;exact J;exact J;all_goals (intro hc;try simp only [hcS,reduceCtorEq] at hc;try (exfalso;omega)))))
           all_goals first
            | (exfalso;omega)
            | (exfalso;simp at hc;done)
            | (have h4:=h4 hs9 QL
               refine Bk QS QT (h4))
         · rw [if_neg m3] at hch
           have h4:=h4 hh (Le.refl _)
           clear ihC ho1 hs1 hend hok hmC hgd
           repeat' (first|apply Ad|apply At|apply Ao|apply Ah|apply Aa|apply Ab|(apply Bg;(iterate 3 exact J);omega;exact J;exact J)|(apply Ac;(iterate 3 exact J))|(apply Aq;exact J;exact Ba rfl QM rfl;exact J;exact J)|(apply Bc;exact J;exact J;(first|(apply Bd (j:=k);(iterate 5 exact J);exact aL;(with_reducible exact J);omega)|(apply Au;exact J;exact Bl rfl cL rfl));exact QA)|(apply Aj;(iterate 3 exact J);(first|(apply Ag;(iterate 3 exact J);exact QR;(iterate 3 exact J);skip)|(apply Ai;exact J;intro b;skip)|(apply Ap;exact J;exact Gh;exact hch;skip)))|(apply Af;exact J;all_goals (intro hc;try simp only [hcS,reduceCtorEq] at hc;try (exfalso;omega)))|(apply Bb;exact J;exact J;all_goals (intro hc;try simp only [hcS,reduceCtorEq] at hc;try (exfalso;omega))))
           all_goals first
            | (exfalso;omega)
            | (exfalso;simp at hc;done)
            | (refine Bk QS QT (h4))
       · have h4:=h4 hh (Le.refl _)
         clear ihC ho1 hs1 hend hok hmC hgd
         repeat' (first|apply Ad|apply At|apply Ao|apply Ah|apply Aa|apply Ab|(apply Ar;exact J;exact J)|(apply Bg;(iterate 3 exact J);omega;exact J;exact J)|(apply Ac;(iterate 3 exact J))|(apply Aq;exact J;exact Ba rfl QM rfl;exact J;exact J)|(apply Bc;exact J;exact J;(first|(apply Bd (j:=k);(iterate 5 exact J);exact aL;(with_reducible exact J);omega)|(apply Au;exact J;exact Bl rfl cL rfl));exact QA)|(apply Aj;(iterate 3 exact J);(first|(apply Ag;(iterate 3 exact J);exact QR;(iterate 3 exact J);skip)|(apply Ai;exact J;intro b;skip)))|(apply Af;exact J;all_goals (intro hc;try simp only [hcS,reduceCtorEq] at hc;try (exfalso;omega)))|(apply Bb;exact J;exact J;all_goals (intro hc;try simp only [hcS,reduceCtorEq] at hc;try (exfalso;omega))))
         all_goals first
          | (exfalso;omega)
          | (exfalso;simp at hc;done)
          | (refine Bk QS QT (h4))
     · clear ihC
       repeat' (first|apply Ad|apply Aa|apply Ab|(apply Bm;exact J)|(apply Ac;(iterate 3 exact J))|(apply Af;exact J;all_goals (intro hc;try simp only [hcS,reduceCtorEq] at hc;try (exfalso;omega))))
       all_goals first
        | (exfalso;omega)
        | (exact Bv rfl rfl rfl rfl)
 · rw [decide_eq_false hF] at hfew
   repeat' (first|apply Ad|apply At|apply Aa|apply Ab|(apply Ac;(iterate 3 exact J))|(apply Aj;(iterate 3 exact J);(first|(apply Ap;exact J;exact has15;exact hsane;skip)|(apply Ap;exact J;exact has16;exact hfew;skip)))|(apply Af;exact J;all_goals (intro hc;try simp only [hcS,reduceCtorEq] at hc;try (exfalso;omega))))
   all_goals first
    | (exact Bv rfl rfl rfl rfl)
    | (exfalso;simp at hc;done)
end Go.Hw

import Derived.Test.YtphlhpbmkejbaabGreatDoorXB
import Derived.Test.YtphlhpbmkejbaabGreatDoorQX5c
import Derived.Test.YtphlhpbmkejbaabGreatDoorFE
set_option linter.unusedVariables false
set_option linter.unusedSimpArgs false
set_option maxRecDepth 100000
set_option maxHeartbeats 8000000
namespace Go.Hw
open Go
attribute [local irreducible] GO GOl GDp Val Fn Res CellsAt ValE Blk OwnS MapA OwnPf Has Yl SepA forceL decC memS suspC suspN suspOne yelC cardsF nextC regF offS offL unfitL redC timesC agreedL
open Go.Proofs (Tryz.prog)
open Classical in
noncomputable def earlyB (L : List Fct) (t : FSusp) (gs : List FGame) : Bool:=gs.any fun g => decide (EarlyB L t g)
open Classical in
theorem earlyB_snoc (L : List Fct) (t : FSusp) (gs : List FGame) (g : FGame) : earlyB L t (gs ++ [g]) = (earlyB L t gs || decide (EarlyB L t g)):=by unfold earlyB;rw [List.any_append];simp
theorem agreedL_0 (L : List Fct) : agreedL L [] = []:=by unfold agreedL;rfl
theorem redC_0 (p : Int) : redC [] p = 0:=by unfold redC;rfl
theorem timesC_0 (p : Int) : timesC [] p = 0:=by unfold timesC;rfl
theorem timesC_bd (S : List FSusp) (p : Int) : 0 ≤ timesC S p ∧ timesC S p ≤ (S.length : Int):=by
  rw [timesC_eq]
  have:=List.length_filter_le (fun t : FSusp => decide (t.p = p)) S
  omega
open Classical in
theorem five11_law (h : Ro) (hG : PowG h) (A : Option Addr) (n c : Nat) (l : List (Fsh × Fct)) (hx : LedIn h A n c l) (se co : Int) : Res Tryz.prog 3 #[.slice A n c,.int .i64 se,.int .i64 co] h (fun u _ => u = .bool true):=by
  refine Res_intro (args:=[_,_,_]) ts_ok Go.Proofs.Tryz.func3 rfl rfl fun w0 X0 => ?_
  have hfew:=fewF_c h A n c l hx.row hx.small 12
  have hsane:=sane11_c h hG
  by_cases hF : (∀ p ∈ l,SmallS p.1 p.2) ∧ (n : Int) ≤ 12
  · rw [decide_eq_true hF] at hfew
    have hfa : FactsAt h A n l:=⟨hx.row,hx.fat,by have:=hF.2;omega⟩
    have hn6 : n ≤ 65536:=by have:=hF.2;omega
    have h32 : In32 (fcs l):=In32_factsX hfa
    have hsu:=fun h' (hl : Le h h') => Suspensions_c h' (hG.le hl) A n c l (hfa.le hl) hn6 se co
    have hsc:=fun g h' (hl : Le h h') => score2_c h' (hG.le hl) A n c l (hfa.le hl) g
    have hga:=fun h' (hl : Le h h') => games_c h' (hG.le hl) A n c l (hfa.le hl) se co
    have hgl:=gamesL_len2 hfa se co
    have hdec : ∃ ds,IsDec (fcs l) se co ds:=by
      have q1:=fun x => games_agreed (l:=l) h32 (s:=se) (c:=co) (x:=x)
      have q2:=agreedL_nodup h32 se co
      refine ⟨(agreedL (fcs l) (gamesL l se co)).mergeSort fun a b => decide (¬ LtS b a),sorted_dec h32 q1 q2 (List.mergeSort_perm _ _) ?_⟩
      refine (List.pairwise_mergeSort (le:=fun a b => decide (¬ LtS b a)) (fun a b c h1 h2 => ?_) (fun a b => ?_) _).imp fun {a b} q => by simpa using q
      · simp only [decide_eq_true_eq] at *
        unfold LtS at *;omega
      · simp only [Bool.or_eq_true,decide_eq_true_eq]
        unfold LtS;omega
    have hdec : IsDec (fcs l) se co (decC (fcs l) se co):=hdec.elim fun _ q => q.here
    have hwhy:=fun t (ht : t ∈ suspC (decC (fcs l) se co)) => susp_why h32 hdec ht
    have hfive:=fun p => five_law h32 hdec (fun x hx => isMem_of (hdec.ok h32 hx).sheet) (agreedL_nodup h32 se co) (fun x => games_agreed (l:=l) h32 (s:=se) (c:=co) (x:=x)) p
    have hmem : ∀ g : FGame,g.s = se → g.c = co → (scoreF (fcs l) g).kind = 2 → g ∈ gamesL l se co:=fun g q1 q2 q3 => by
      obtain ⟨f,m,ok,k,e,eg,d⟩:=score_agreed h32 q3
      exact gamesL_mem.2 ⟨q1,q2,f,m,k,ok,eg⟩
    have hsz : ∀ g,(scoreF (fcs l) g).kind = 2 → (scoreF (fcs l) g).sh.hc.length ≤ 1000 ∧ (scoreF (fcs l) g).sh.ac.length ≤ 1000:=fun g q => by
      obtain ⟨f,m,ok,k,e,eg,d⟩:=score_agreed h32 q
      have:=ok.2.2.1
      unfold ContOk at this
      rw [if_neg (by omega),if_neg (by omega),if_pos k,e] at this
      have h1:=this.2.2.2.2.2.2.2.1.1
      have h2:=this.2.2.2.2.2.2.2.2.1.1
      omega
    rw [show cont l = fcs l from rfl] at hsc
    generalize suspC (decC (fcs l) se co) = S at *
    generalize gamesL l se co = gs at *
    generalize fcs l = L at *
    clear hF hfa hx hdec h32
    repeat' (first|apply GO_seq|apply GO_skip|apply GO_block|apply GO_region|apply GOl_nil|(apply GOl_pv;(iterate 3 exact rfl))|(apply GOl_to;(iterate 3 exact rfl);(first|(apply OpTo_val;exact rfl;exact has4;exact hsane;skip)|(apply OpTo_val;exact rfl;exact has5;exact hfew;skip)|(apply OpTo_res;exact rfl;exact has6;exact hsu _ (by first|exact Le.refl _|assumption|(repeat (first|assumption|(apply Le.trans;assumption))));rintro w4 h4 hle4 ⟨A5,c5,rfl,hsS,hSn⟩;skip)))|(apply GO_cond;exact rfl;all_goals (intro hc;try simp only [hcS,reduceCtorEq] at hc;try (exfalso;omega))))
    all_goals (try (exfalso;simp at hc;done))
    all_goals (try (exfalso;omega))
    clear hsane hfew hsu
    refine GO_loopT (X:=Nat × Ro) (fun x => x.1 ≤ S.length ∧ Le h4 x.2) (fun x => S.length - x.1)
      (fun x => [(33,.int .i64 x.1),(32,.int .i64 S.length),(31,.slice A5 S.length c5),(7,.slice A5 S.length c5),(0,.slice A n c),(1,.int .i64 se),(2,.int .i64 co)])
      (fun x => []) (fun x => x.2) (0,h4) ⟨by dsimp only;omega,Le.refl _⟩ QS QT rfl ?_
    rintro ⟨i,h5⟩ ⟨hi,hle5⟩ ih
    dsimp only at hi hle5 ih ⊢
    have hle0 : Le h h5:=(by first|exact Le.refl _|assumption|(repeat (first|assumption|(apply Le.trans;assumption))))
    by_cases hin : i < S.length
    · have a1:=hsS.addrD hin
      have c1 : CellsAt h5 ((addrD A5).add (i * ty30.size)) (encSu (S.getD i su0)):=(hsS.cellsD su0 hin).le hle5
      have hsS5:=hsS.le hle5
      have hw:=hwhy _ (mem7 su0 hin)
      generalize S.getD i su0 = t at *
      obtain ⟨w1,w2,w3,w4,g1,w5,w6,w7,w8,w9,w10⟩:=hw
      have hg1:=hmem g1 w5 w6 w7
      have hearly : earlyB L t gs = true:=by
        unfold earlyB
        exact List.any_eq_true.2 ⟨g1,hg1,decide_eq_true ⟨w7,w8,w9,w10⟩⟩
      have hf:=hfive t.p
      have hnx:=fun h' (hl : Le h5 h') => ih (i + 1,h') ⟨by dsimp only;omega,hle5.trans hl⟩ (by dsimp only;omega)
      dsimp only at hnx
      have hst:=fun h' (hl : Le h5 h') => hsc t.g h' (hle0.trans hl)
      have hdy : ∀ g,EarlyB L t g ↔ ((scoreF L g).kind = 2 ∧ (0 < (cardsF (scoreF L g).sh t.p).1 ∨ (cardsF (scoreF L g).sh t.p).2 = true) ∧ g ≠ t.g ∧ (scoreF L g).day ≤ (scoreF L t.g).day):=fun g => Iff.rfl
      generalize scoreF L t.g = x at *
      clear ih hwhy hfive hg1 w5 w6 w7 w8 w9 w10 hmem
      by_cases w4' : t.club = t.g.h
      all_goals (repeat' (first|apply GO_seq|apply GO_skip|apply GO_block|apply GO_region|apply GOl_nil|(apply GOl_to;(iterate 3 exact rfl);apply OpTo_alloc (e:=30);exact rfl;intro b9)|(apply GOl_to;(iterate 3 exact rfl);apply OpTo_alloc (e:=36);exact rfl;intro b10)|(apply GOl_unwanted;exact rfl;exact rfl)|(apply GOl_pv;(iterate 3 exact rfl))|(apply GOl_load;exact rfl;exact Ld_blk rfl QM rfl;exact rfl;exact rfl)|(apply GOl_ov;exact rfl;exact rfl;(first|(apply OV_idxS (j:=i) (n:=S.length);(iterate 5 exact rfl);exact a1;(with_reducible exact rfl);omega)|(apply OV_load;exact rfl;exact Lv_ro rfl c1 rfl));exact QA)|(apply GOl_to;(iterate 3 exact rfl);(first|(apply OpTo_store;(iterate 3 exact rfl);exact QR;(iterate 3 exact rfl);skip)|(apply OpTo_res;exact rfl;exact has7;exact hst _ (by first|exact Le.refl _|assumption|(repeat (first|assumption|(apply Le.trans;assumption))));rintro v2 h6 hle6 ⟨s,rfl,hs1,hs2⟩;skip)|(apply OpTo_res;exact rfl;exact has8;exact hga _ (by first|exact Le.refl _|assumption|(repeat (first|assumption|(apply Le.trans;assumption))));rintro w1 h7 hle7 ⟨A3,c3,rfl,hsl⟩;skip)))|(apply GO_cond;exact rfl;all_goals (intro hc;try simp only [hcS,reduceCtorEq] at hc;try (exfalso;omega)))|(apply GOl_split;exact rfl;exact rfl;all_goals (intro hc;try simp only [hcS,reduceCtorEq] at hc;try (exfalso;omega)))))
      all_goals (try (exfalso;omega))
      all_goals
        have hle7' : Le h h7:=(by first|exact Le.refl _|assumption|(repeat (first|assumption|(apply Le.trans;assumption))))
        have hsS7:=hsS5.le (hle6.trans hle7)
        clear hst hga c1
        refine GO_loopT (X:=Nat × Ro) (fun y => y.1 ≤ gs.length ∧ Le h7 y.2) (fun y => gs.length - y.1)
          (fun y => [(79,.int .i64 y.1),(78,.int .i64 gs.length),(77,.slice A3 gs.length c3),(11,.int .i64 (yelC (agreedL L (gs.take y.1)) t.p)),(12,.int .i64 (redC (agreedL L (gs.take y.1)) t.p)),(14,.bool (earlyB L t (gs.take y.1))),(13,.int .i64 0),(9,ptrV b9),(10,ptrV b10),(33,.int .i64 i),(32,.int .i64 S.length),(31,.slice A5 S.length c5),(7,.slice A5 S.length c5),(0,.slice A n c),(1,.int .i64 se),(2,.int .i64 co)])
          (fun y => [Blk b9 30 (encSu t),Blk b10 36 (encSc (s,x))]) (fun y => y.2) (0,h7) ⟨by dsimp only;omega,Le.refl _⟩ (by rw [List.take_zero,agreedL_0,yelC_0,redC_0,show earlyB L t [] = false from by unfold earlyB;rfl];exact QS) QT rfl ?_
        rintro ⟨j,h8⟩ ⟨hj,hle8⟩ ih2
        dsimp only at hj hle8 ih2 ⊢
        have hle9 : Le h h8:=hle7'.trans hle8
        by_cases hjn : j < gs.length
        · have a2:=hsl.addrD hjn
          have c2 : CellsAt h8 ((addrD A3).add (j * ty28.size)) (gameC (gs.getD j g9)):=(hsl.cellsD g9 hjn).le hle8
          have et:=take7 g9 (xs:=gs) rfl hjn
          generalize gs.getD j g9 = g at *
          have hsg:=fun h' (hl : Le h8 h') => hsc g h' (hle9.trans hl)
          have hag:=agreedL_snoc L (gs.take j) g
          have hea:=earlyB_snoc L t (gs.take j) g
          rw [← et] at hag hea
          obtain ⟨eb,heb⟩ : ∃ eb : Bool,eb = decide (EarlyB L t g):=⟨_,rfl⟩
          rw [← heb] at hea
          have heb2 : eb = true ↔ ((scoreF L g).kind = 2 ∧ (0 < (cardsF (scoreF L g).sh t.p).1 ∨ (cardsF (scoreF L g).sh t.p).2 = true) ∧ g ≠ t.g ∧ (scoreF L g).day ≤ x.day):=by rw [heb,decide_eq_true_eq];exact hdy g
          clear heb
          have hszg:=hsz g
          have hge:=game_eq g t.g
          have h9:=fun h' (hl : Le h8 h') => ih2 (j + 1,h') ⟨by dsimp only;omega,hle8.trans hl⟩ (by dsimp only;omega)
          dsimp only at h9
          have by1:=yelC_bd (agreedL L (gs.take j)) t.p
          have br1:=redC_bd (agreedL L (gs.take j)) t.p
          have bl:=agreedL_len L (gs.take j)
          rw [List.length_take] at bl
          have hcd0:=fun s2 h' (ha : ShAt h' s2 (scoreF L g).sh) (hl : (scoreF L g).sh.hc.length ≤ 1000 ∧ (scoreF L g).sh.ac.length ≤ 1000) => CardsR_c h' s2 (scoreF L g).sh ha hl t.p
          have hb2:=cardsF_bd (scoreF L g).sh t.p
          rw [hea] at h9
          generalize scoreF L g = y at *
          generalize earlyB L t (gs.take j) = bb at *
          clear ih2 hea hsc hsz hdy hearly
          by_cases hk2 : y.kind = 2
          · rw [if_pos hk2] at hag
            rw [hag,yelC_snoc,redC_snoc] at h9
            have hcd:=fun s2 h' ha => hcd0 s2 h' ha (hszg hk2)
            generalize yelC (agreedL L (gs.take j)) t.p = ye at *
            generalize redC (agreedL L (gs.take j)) t.p = re at *
            generalize cardsF y.sh t.p = q at *
            obtain ⟨qy,qr⟩:=q
            dsimp only at hcd h9 hb2 heb2
            clear hcd0 hszg hag
            cases bb
            case' true =>
              simp only [Bool.true_or] at h9
              clear heb2
            case' false =>
              simp only [Bool.false_or] at h9
              by_cases q2 : g = t.g
              case' pos =>
                have e9 : eb = false:=by rw [← Bool.not_eq_true,heb2];exact fun w => w.2.2.1 q2
                subst e9
                rw [decide_eq_true q2] at hge
                clear heb2
              case' neg =>
                rw [decide_eq_false q2] at hge
                by_cases q3 : y.day ≤ x.day
                case' neg =>
                  have e9 : eb = false:=by rw [← Bool.not_eq_true,heb2];exact fun w => q3 w.2.2.2
                  subst e9
                  have e7 : leI y.day x.day = false:=(leI_f _ _).mpr (by omega)
                  clear heb2
                case' pos =>
                  have e7 : leI y.day x.day = true:=(leI_t _ _).mpr q3
                  by_cases q0 : 0 < qy ∨ qr = true
                  case' pos =>
                    have e9 : eb = true:=heb2.2 ⟨hk2,q0,q2,q3⟩
                    subst e9
                    clear heb2
                  case' neg =>
                    have e9 : eb = false:=by rw [← Bool.not_eq_true,heb2];exact fun w => q0 w.2.1
                    subst e9
                    have q4 : ¬ 0 < qy:=fun w => q0 (.inl w)
                    have q5 : qr = false:=by rw [← Bool.not_eq_true];exact fun w => q0 (.inr w)
                    subst q5
                    clear heb2
            all_goals (try (cases qr))
            all_goals (try simp only [if_true,if_false,reduceCtorEq,Bool.false_eq_true] at h9)
            all_goals
              (repeat' (first|apply GO_seq|apply GO_skip|apply GO_inBlock|apply GO_block|apply GO_region|apply GOl_nil|(apply GOl_to;(iterate 3 exact rfl);apply OpTo_alloc (e:=28);exact rfl;intro b16)|(apply GOl_to;(iterate 3 exact rfl);apply OpTo_alloc (e:=36);exact rfl;intro b17)|(apply GOl_unwanted;exact rfl;exact rfl)|(apply GOl_add;(iterate 3 exact rfl);omega;exact rfl;exact rfl)|(apply GOl_pv;(iterate 3 exact rfl))|(apply GOl_load;exact rfl;exact Ld_blk rfl QM rfl;exact rfl;exact rfl)|(apply GOl_ov;exact rfl;exact rfl;(first|(apply OV_idxS (j:=j) (n:=gs.length);(iterate 5 exact rfl);exact a2;(with_reducible exact rfl);omega)|(apply OV_load;exact rfl;exact Lv_ro rfl c2 rfl)|(apply OV_neqS;exact rfl;exact rfl;exact hge;kernel_rfl;kernel_rfl));exact QA)|(apply GOl_to;(iterate 3 exact rfl);(first|(apply OpTo_store;(iterate 3 exact rfl);exact QR;(iterate 3 exact rfl);skip)|(apply OpTo_res;exact rfl;exact has7;exact hsg _ (by first|exact Le.refl _|assumption|(repeat (first|assumption|(apply Le.trans;assumption))));rintro v8 h11 hle11 ⟨s2,rfl,hs3,hs4⟩;skip)|(apply OpTo_res;exact rfl;exact has9;exact hcd s2 _ (hs3.le (by first|exact Le.refl _|assumption|(repeat (first|assumption|(apply Le.trans;assumption)))));rintro v9 h12 hle12 rfl;skip)))|(apply GO_cond;exact rfl;all_goals (intro hc;try simp only [hcS,reduceCtorEq] at hc;try (exfalso;omega)))|(apply GOl_split;exact rfl;exact rfl;all_goals (intro hc;try simp only [hcS,reduceCtorEq] at hc;try (exfalso;omega)))))
              all_goals first
                | (exfalso;omega)
                | (exfalso;simp at hc;done)
                | (exfalso;rcases q0 with w|w;all_goals first|omega|(exact absurd w (by decide));done)
                | (have h9:=h9 h12 (hle11.trans hle12)
                   rw [e7]
                   refine GO_fit QS QT (h9))
                | (have h9:=h9 h12 (hle11.trans hle12)
                   refine GO_fit QS QT (h9))
          · rw [if_neg hk2] at hag
            have e : eb = false:=by rw [← Bool.not_eq_true,heb2];exact fun w => hk2 w.1
            subst e
            rw [hag,Bool.or_false] at h9
            clear hcd0 hszg hag
            (repeat' (first|apply GO_seq|apply GO_skip|apply GO_block|apply GO_region|apply GOl_nil|(apply GO_exit;exact rfl)|(apply GOl_to;(iterate 3 exact rfl);apply OpTo_alloc (e:=28);exact rfl;intro b16)|(apply GOl_to;(iterate 3 exact rfl);apply OpTo_alloc (e:=36);exact rfl;intro b17)|(apply GOl_add;(iterate 3 exact rfl);omega;exact rfl;exact rfl)|(apply GOl_pv;(iterate 3 exact rfl))|(apply GOl_load;exact rfl;exact Ld_blk rfl QM rfl;exact rfl;exact rfl)|(apply GOl_ov;exact rfl;exact rfl;(first|(apply OV_idxS (j:=j) (n:=gs.length);(iterate 5 exact rfl);exact a2;(with_reducible exact rfl);omega)|(apply OV_load;exact rfl;exact Lv_ro rfl c2 rfl));exact QA)|(apply GOl_to;(iterate 3 exact rfl);(first|(apply OpTo_store;(iterate 3 exact rfl);exact QR;(iterate 3 exact rfl);skip)|(apply OpTo_res;exact rfl;exact has7;exact hsg _ (by first|exact Le.refl _|assumption|(repeat (first|assumption|(apply Le.trans;assumption))));rintro v8 h11 hle11 ⟨s2,rfl,hs3,hs4⟩;skip)))|(apply GO_cond;exact rfl;all_goals (intro hc;try simp only [hcS,reduceCtorEq] at hc;try (exfalso;omega)))))
            all_goals first
              | (exfalso;omega)
              | (exfalso;simp at hc;done)
              | (have h9:=h9 h11 hle11
                 refine GO_fit QS QT (h9))
        · rw [List.take_of_length_le (by omega),hearly]
          clear ih2 hsc
          have by1:=yelC_bd (agreedL L gs) t.p
          have br1:=redC_bd (agreedL L gs) t.p
          have bl:=agreedL_len L gs
          have bt:=fun k => timesC_bd (S.take k) t.p
          generalize yelC (agreedL L gs) t.p = ye at *
          generalize redC (agreedL L gs) t.p = re at *
          repeat' (first|apply GO_seq|apply GO_block|apply GO_region|apply GOl_nil|(apply GO_exit;exact rfl)|(apply GOl_pv;(iterate 3 exact rfl))|(apply GO_cond;exact rfl;all_goals (intro hc;try simp only [hcS,reduceCtorEq] at hc;try (exfalso;omega))))
          all_goals (try (exfalso;omega))
          refine GO_loopT (X:=Nat) (fun k => k ≤ S.length) (fun k => S.length - k)
            (fun k => [(127,.int .i64 k),(126,.int .i64 S.length),(125,.slice A5 S.length c5),(13,.int .i64 (timesC (S.take k) t.p)),(11,.int .i64 ye),(12,.int .i64 re),(14,.bool true),(9,ptrV b9),(10,ptrV b10),(33,.int .i64 i),(32,.int .i64 S.length),(31,.slice A5 S.length c5),(7,.slice A5 S.length c5),(0,.slice A n c),(1,.int .i64 se),(2,.int .i64 co)])
            (fun k => [Blk b9 30 (encSu t),Blk b10 36 (encSc (s,x))]) (fun _ => h8) 0 (by omega) (by rw [List.take_zero,timesC_0];exact QS) QT rfl ?_
          rintro k hk ih3
          by_cases hkn : k < S.length
          · have a4:=hsS7.addrD hkn
            have c4 : CellsAt h8 ((addrD A5).add (k * ty30.size)) (encSu (S.getD k su0)):=(hsS7.cellsD su0 hkn).le hle8
            have et:=take7 su0 (xs:=S) rfl hkn
            generalize S.getD k su0 = z at *
            have h3:=ih3 (k + 1) (by omega) (by omega)
            rw [et,timesC_snoc] at h3
            have bt:=bt k
            rw [List.length_take] at bt
            generalize timesC (S.take k) t.p = tc at *
            clear ih3 et
            by_cases hz : z.p = t.p
            · rw [if_pos hz] at h3
              repeat' (first|apply GO_seq|apply GO_skip|apply GO_inBlock|apply GO_block|apply GO_region|apply GOl_nil|(apply GOl_to;(iterate 3 exact rfl);apply OpTo_alloc (e:=30);exact rfl;intro b21)|(apply GOl_add;(iterate 3 exact rfl);omega;exact rfl;exact rfl)|(apply GOl_pv;(iterate 3 exact rfl))|(apply GOl_load;exact rfl;exact Ld_blk rfl QM rfl;exact rfl;exact rfl)|(apply GOl_ov;exact rfl;exact rfl;(first|(apply OV_idxS (j:=k) (n:=S.length);(iterate 5 exact rfl);exact a4;(with_reducible exact rfl);omega)|(apply OV_load;exact rfl;exact Lv_ro rfl c4 rfl));exact QA)|(apply GOl_to;(iterate 3 exact rfl);(first|(apply OpTo_store;(iterate 3 exact rfl);exact QR;(iterate 3 exact rfl);skip)))|(apply GO_cond;exact rfl;all_goals (intro hc;try simp only [hcS,reduceCtorEq] at hc;try (exfalso;omega))))
              all_goals first
                | (exfalso;omega)
                | (refine GO_fit QS QT (h3))
            · rw [if_neg hz] at h3
              repeat' (first|apply GO_seq|apply GO_skip|apply GO_inBlock|apply GO_block|apply GO_region|apply GOl_nil|(apply GOl_to;(iterate 3 exact rfl);apply OpTo_alloc (e:=30);exact rfl;intro b21)|(apply GOl_add;(iterate 3 exact rfl);omega;exact rfl;exact rfl)|(apply GOl_pv;(iterate 3 exact rfl))|(apply GOl_load;exact rfl;exact Ld_blk rfl QM rfl;exact rfl;exact rfl)|(apply GOl_ov;exact rfl;exact rfl;(first|(apply OV_idxS (j:=k) (n:=S.length);(iterate 5 exact rfl);exact a4;(with_reducible exact rfl);omega)|(apply OV_load;exact rfl;exact Lv_ro rfl c4 rfl));exact QA)|(apply GOl_to;(iterate 3 exact rfl);(first|(apply OpTo_store;(iterate 3 exact rfl);exact QR;(iterate 3 exact rfl);skip)))|(apply GO_cond;exact rfl;all_goals (intro hc;try simp only [hcS,reduceCtorEq] at hc;try (exfalso;omega))))
              all_goals first
                | (exfalso;omega)
                | (refine GO_fit QS QT (h3))
          · rw [List.take_of_length_le (by omega)]
            clear ih3
            have hnx:=hnx h8 (by first|exact Le.refl _|assumption|(repeat (first|assumption|(apply Le.trans;assumption))))
            generalize timesC S t.p = tc at *
            repeat' (first|apply GO_seq|apply GO_skip|apply GO_inBlock|apply GO_region|apply GOl_nil|(apply GO_exit;exact rfl)|(apply GOl_ov;exact rfl;exact rfl;(first|(apply OV_quoI;(iterate 3 exact rfl);omega;omega));exact QA)|(apply GOl_add;(iterate 3 exact rfl);omega;exact rfl;exact rfl)|(apply GOl_pv;(iterate 3 exact rfl))|(apply GO_cond;exact rfl;all_goals (intro hc;try simp only [hcS,reduceCtorEq] at hc;try (exfalso;omega))))
            all_goals first
              | (exfalso;omega)
              | (refine GO_fit QS QT (hnx))
    · clear ih
      repeat' (first|apply GO_seq|apply GO_region|apply GOl_nil|(apply GO_exit;exact rfl)|(apply GOl_pv;(iterate 3 exact rfl))|(apply GO_cond;exact rfl;all_goals (intro hc;try simp only [hcS,reduceCtorEq] at hc;try (exfalso;omega))))
      all_goals first
        | (exfalso;omega)
        | (exact GO_retR1 rfl rfl rfl rfl)
  · rw [decide_eq_false hF] at hfew
    repeat' (first|apply GO_seq|apply GO_skip|apply GO_region|apply GOl_nil|(apply GOl_pv;(iterate 3 exact rfl))|(apply GOl_to;(iterate 3 exact rfl);(first|(apply OpTo_val;exact rfl;exact has4;exact hsane;skip)|(apply OpTo_val;exact rfl;exact has5;exact hfew;skip)))|(apply GO_cond;exact rfl;all_goals (intro hc;try simp only [hcS,reduceCtorEq] at hc;try (exfalso;omega))))
    all_goals first
      | (exact GO_retR1 rfl rfl rfl rfl)
      | (exfalso;simp at hc;done)
end Go.Hw

import Derived.Test.YtajmniiiahhfaaaGreatDoorUR19
set_option linter.unusedVariables false
set_option linter.unusedSimpArgs false
set_option maxRecDepth 100000
set_option maxHeartbeats 8000000
namespace Go.Hw
open Go
attribute [local irreducible] GO GOl GDp Val Fn Res CellsAt ValE Blk OwnS MapA OwnPf Has Yl idF
open Go.Proofs (Tryz.prog)
theorem known_e (h : Ro) (hG : PowG h) (A : Option Addr) (n c : Nat) (l : List (Fsh × Fct)) (hx : FactsAt h A n l) (day : Int) {P : List Fct} {e : Int} (he : knownE (fcs l) day = (P,e)) : Res Tryz.prog 43 #[ledV A n c,.int .i64 day] h (fun u h' => ∃ A k c l',u = .tuple #[ledV A k c,.int .i64 e] ∧ LedIs h' A k c l' P):=by
  refine (knownLed_c h hG A n c l hx day).mono ?_
  rintro u h2 _ ⟨v,rfl,ho⟩
  rw [he] at ho ⊢
  obtain ⟨A9,k,c9,l9,rfl,hL⟩:=ledOut_facts ho
  exact ⟨A9,k,c9,l9,rfl,hL⟩
theorem knownR_e (h : Ro) (A : Option Addr) (n c : Nat) (l : List (Fsh × Fct)) (hx : FactsAt h A n l) (hn : n ≤ 65536) (day : Int) {P : List Fct} {e : Int} (he : knownE (fcs l) day = (P,e)) : Res Tryz.prog 44 #[ledV A n c,.int .i64 day] h (fun u h' => ∃ A k c l',u = .tuple #[ledV A k c,.int .i64 e] ∧ LedIs h' A k c l' P):=by
  refine (knownR_c h A n c l hx hn day).mono ?_
  rintro u h2 _ ⟨v,rfl,ho⟩
  rw [he] at ho ⊢
  obtain ⟨A9,k,c9,l9,rfl,hL⟩:=ledOut_facts ho
  exact ⟨A9,k,c9,l9,rfl,hL⟩
theorem view_e (h : Ro) (hG : PowG h) (A : Option Addr) (n c : Nat) (l : List (Fsh × Fct)) (hx : FactsAt h A n l) (day known : Int) {P : List Fct} {e : Int} (he : viewE (fcs l) day known = (P,e)) : Res Tryz.prog 37 #[ledV A n c,.int .i64 day,.int .i64 known] h (fun u h' => ∃ A' k c' l',u = .tuple #[.slice A' k c',.int .i64 e] ∧ FactsAt h' A' k l' ∧ fcs l' = P):=by
  refine (view_c h hG A n c l hx day known).mono ?_
  rintro u h2 _ ⟨A9,k,c9,l9,rfl,_,h3,h4⟩
  rw [he] at h4 ⊢
  exact ⟨A9,k,c9,l9,rfl,h3,h4⟩
theorem viewR_e (h : Ro) (A : Option Addr) (n c : Nat) (l : List (Fsh × Fct)) (hx : FactsAt h A n l) (day known : Int) {P : List Fct} {e : Int} (he : viewE (fcs l) day known = (P,e)) : Res Tryz.prog 45 #[ledV A n c,.int .i64 day,.int .i64 known] h (fun u h' => ∃ A' k c' l',u = .tuple #[.slice A' k c',.int .i64 e] ∧ FactsAt h' A' k l' ∧ fcs l' = P):=by
  refine (viewR_c h A n c l hx day known).mono ?_
  rintro u h2 _ ⟨A9,k,c9,l9,rfl,_,h3,h4⟩
  rw [he] at h4 ⊢
  exact ⟨A9,k,c9,l9,rfl,h3,h4⟩
theorem sameF_t (h : Ro) {A B : Option Addr} {n c m d : Nat} {l r : List (Fsh × Fct)} (hx : FactsAt h A n l) (hy : FactsAt h B m r) (e : fcs l = fcs r) : Val Tryz.prog 46 #[.slice A n c,.slice B m d] h (.bool true):=by
  have:=sameL_c h A n c l hx B m d r hy
  rwa [decide_eq_true e] at this
theorem viewSpec_law (h : Ro) (hG : PowG h) (A : Option Addr) (n c : Nat) (l : List (Fsh × Fct)) (hx : LedIn h A n c l) (day known : Int) : Val Tryz.prog 9 #[ledV A n c,.int .i64 day,.int .i64 known] h (.bool true):=by
  refine Val_intro (args:=[_,_,_]) ts_ok Go.Proofs.Tryz.func9 rfl rfl fun w0 X0 => ?_
  have hsane:=sane8_c h hG
  have hrow:=hx.row
  have hsm:=hx.small
  have k1:=fun (hn : (n : Int) ≤ 14) h' (hl : Le h h') (v : Int) {P : List Fct} {e : Int} (he : knownE (fcs l) v = (P,e)) => known_e h' (hG.le hl) A n c l ((hx.facts hn).le hl) v he
  have k2:=fun (hn : (n : Int) ≤ 14) h' (hl : Le h h') (v : Int) {P : List Fct} {e : Int} (he : knownE (fcs l) v = (P,e)) => knownR_e h' A n c l ((hx.facts hn).le hl) (by omega) v he
  have k3:=fun (hn : (n : Int) ≤ 14) h' (hl : Le h h') (u v : Int) {P : List Fct} {e : Int} (he : viewE (fcs l) u v = (P,e)) => view_e h' (hG.le hl) A n c l ((hx.facts hn).le hl) u v he
  have k4:=fun (hn : (n : Int) ≤ 14) h' (hl : Le h h') (u v : Int) {P : List Fct} {e : Int} (he : viewE (fcs l) u v = (P,e)) => viewR_e h' A n c l ((hx.facts hn).le hl) u v he
  repeat' (first|apply GO_seq|apply GO_region|apply GOl_nil|(apply GOl_pv;(iterate 3 exact rfl))|(apply GOl_to;(iterate 3 exact rfl);(first|(apply OpTo_box;exact rfl;intro b;skip))))
  generalize b = b3
  by_cases hn : (n : Int) ≤ 14
  · have hxf:=hx.facts hn
    have hlen:=hxf.row.len
    repeat' (first|apply GO_seq|apply GO_skip|apply GO_block|apply GO_region|apply GOl_nil|(apply GOl_pv;(iterate 3 exact rfl))|(apply GOl_load;exact rfl;exact Ld_blk rfl QM rfl;exact rfl;exact rfl)|(apply GOl_to;(iterate 3 exact rfl);(first|(apply OpTo_val;exact rfl;exact has30;exact hsane;skip)|(apply OpTo_res;exact rfl;exact has31;exact few8_c _ A n c l (hrow.le (by first|exact Le.refl _|assumption|(repeat (first|assumption|(apply Le.trans;assumption))))) hsm 14;rintro w1 h1 hle1 ⟨b1,rfl,hb⟩;cases b1;all_goals skip)|(apply OpTo_buildSliceO (n:=2) (cs:=[day,known].flatMap encI);(iterate 3 exact rfl);exact List.cons_ne_nil _ _;(iterate 6 exact rfl);intro b7;skip)))|(apply GO_cond;exact rfl;all_goals (intro hc;try simp only [hcS,reduceCtorEq] at hc;try (exfalso;omega))))
    · exact GO_retV1 rfl rfl rfl rfl
    have hh1 : Le h h1:=(by first|exact Le.refl _|assumption|(repeat (first|assumption|(apply Le.trans;assumption))))
    refine GO_loopT (X:=Nat × Nat × List Int × Option Addr × Nat × Ro) (fun x => x.1 ≤ n ∧ x.2.2.1.length = x.2.1 ∧ x.2.1 ≤ 2 + 2 * x.1 ∧ Le h x.2.2.2.2.2) (fun x => n - x.1)
      (fun x => [(34,.int .i64 x.1),(33,.int .i64 n),(32,.slice A n c),(7,.slice x.2.2.2.1 x.2.1 x.2.2.2.2.1),(3,.pointer (some ⟨b3,0,none⟩)),(1,.int .i64 day),(2,.int .i64 known)])
      (fun x => [OwnS 3 1 (.slice x.2.2.2.1 x.2.1 x.2.2.2.2.1) x.2.1 (x.2.2.1.flatMap encI),Blk b3 47 [.slice A n c]]) (fun x => x.2.2.2.2.2) (0,2,[day,known],some ⟨b7,0,none⟩,2,h1) ⟨by dsimp only;omega,rfl,by dsimp only;omega,hh1⟩ QS QT rfl ?_
    rintro ⟨i,m,o,A4,c4,hh⟩ ⟨hi,hm,hmi,hle⟩ ih
    dsimp only at hi hm hmi hle ih ⊢
    by_cases hin : i < n
    · have a1:=hxf.row.addrD hin
      have cc : CellsAt hh ((addrD A).add (i * ty73.size)) (encF82 (l.getD i p0)):=(hxf.row.cellsD p0 hin).le hle
      generalize l.getD i p0 = y at *
      by_cases hi4 : i < 4
      · repeat' (first|apply GO_seq|apply GO_skip|apply GO_inBlock|apply GO_block|apply GO_region|apply GOl_nil|(apply GOl_add;(iterate 3 exact rfl);omega;exact rfl;exact rfl)|(apply GOl_pv;(iterate 3 exact rfl))|(apply GOl_load;exact rfl;exact Ld_blk rfl QM rfl;exact rfl;exact rfl)|(apply GOl_ov;exact rfl;exact rfl;(first|(apply OV_idxS (j:=i);(iterate 5 exact rfl);exact a1;(with_reducible exact rfl);omega)|(apply OV_load;exact rfl;apply Lv_ro;exact rfl;(with_reducible exact (cc.le (by first|exact Le.refl _|assumption|(repeat (first|assumption|(apply Le.trans;assumption))))));exact rfl));exact QA)|(apply GOl_to;(iterate 3 exact rfl);(first|(apply OpTo_store;(iterate 3 exact rfl);exact QR;(iterate 3 exact rfl);skip)|(apply OpTo_alloc;exact rfl;intro b;skip)|(apply OpTo_buildSliceS (enc:=encI) (n:=2) [y.2.day,y.2.known];(iterate 3 exact rfl);exact List.cons_ne_nil _ _;(iterate 4 exact rfl);exact (fun _ => rfl);exact rfl;exact rfl;intro bz2 hz2 hlez2 hs2;skip)|(apply OpTo_appendS (enc:=encI) (n:=m) (xs:=o) (ys:=[y.2.day,y.2.known]);(iterate 7 exact rfl);exact (hs2.le (by first|exact Le.refl _|assumption|(repeat (first|assumption|(apply Le.trans;assumption)))));exact (fun _ => rfl);exact (fun x => allOne_ok rfl);intro v1;exact QR;omega;exact rfl;intro A2 c2;skip)))|(apply GO_cond;exact rfl;all_goals (intro hc;try simp only [hcS,reduceCtorEq] at hc;try (exfalso;omega))))
        all_goals (try (exfalso;omega))
        all_goals
          have h3:=ih (i + 1,m + 2,o ++ [y.2.day,y.2.known],A2,c2,hz2) ⟨by dsimp only;omega,by simp [hm],by dsimp only;omega,by dsimp only;exact hle.trans (by first|exact Le.refl _|assumption|(repeat (first|assumption|(apply Le.trans;assumption))))⟩ (by dsimp only;omega)
          dsimp only at h3
          refine GO_fit QS QT (h3)
      · repeat' (first|apply GO_seq|apply GO_skip|apply GO_inBlock|apply GO_block|apply GO_region|apply GOl_nil|(apply GOl_add;(iterate 3 exact rfl);omega;exact rfl;exact rfl)|(apply GOl_pv;(iterate 3 exact rfl))|(apply GOl_ov;exact rfl;exact rfl;(first|(apply OV_idxS (j:=i);(iterate 5 exact rfl);exact a1;(with_reducible exact rfl);omega)|(apply OV_load;exact rfl;apply Lv_ro;exact rfl;(with_reducible exact (cc.le (by first|exact Le.refl _|assumption|(repeat (first|assumption|(apply Le.trans;assumption))))));exact rfl));exact QA)|(apply GOl_to;(iterate 3 exact rfl);(first|(apply OpTo_store;(iterate 3 exact rfl);exact QR;(iterate 3 exact rfl);skip)|(apply OpTo_alloc;exact rfl;intro b;skip)))|(apply GO_cond;exact rfl;all_goals (intro hc;try simp only [hcS,reduceCtorEq] at hc;try (exfalso;omega))))
        all_goals (try (exfalso;omega))
        all_goals
          have h3:=ih (i + 1,m,o,A4,c4,hh) ⟨by dsimp only;omega,hm,by dsimp only;omega,by dsimp only;exact hle⟩ (by dsimp only;omega)
          dsimp only at h3
          refine GO_fit QS QT (h3)
    · clear ih
      have hm100 : m ≤ 100:=by omega
      refine GO_relS (enc:=encI) (e:=3) (sz:=1) (n:=m) (xs:=o) (fun _ => rfl) hm QK ?_
      intro A8 c8 h8 hle8 e8 hs8
      injection e8 with e81 _ e83
      subst e81;subst e83
      have hh8 : Le h h8:=hle.trans hle8
      repeat' (first|apply GO_seq|apply GO_block|apply GO_region|apply GOl_nil|(apply GO_exit;exact rfl)|(apply GOl_pv;(iterate 3 exact rfl))|(apply GO_cond;exact rfl;all_goals (intro hc;try simp only [hcS,reduceCtorEq] at hc;try (exfalso;omega))))
      all_goals (try (exfalso;omega))
      refine GO_loopT (X:=Nat × Ro) (fun x => x.1 ≤ m ∧ Le h8 x.2) (fun x => m - x.1)
        (fun x => [(51,.int .i64 x.1),(50,.int .i64 m),(49,.slice A4 m c4),(3,.pointer (some ⟨b3,0,none⟩)),(1,.int .i64 day),(2,.int .i64 known)])
        (fun _ => [Blk b3 47 [.slice A n c]]) (fun x => x.2) (0,h8) ⟨by dsimp only;omega,Le.refl _⟩ QS QT rfl ?_
      rintro ⟨j,hj⟩ ⟨hjm,hlj⟩ ih
      dsimp only at hjm hlj ih ⊢
      by_cases hjn : j < m
      · have a1:=hs8.addrD hjn
        have c1:=(hs8.cellsD 0 hjn).le hlj
        generalize o.getD j 0 = v at *
        have hhj : Le h hj:=hh8.trans hlj
        obtain ⟨⟨P,e⟩,hP⟩ : ∃ p : List Fct × Int,knownE (fcs l) v = p:=⟨_,rfl⟩
        have q1:=fun h' (hl : Le h h') => k1 hn h' hl v hP
        have q2:=fun h' (hl : Le h h') => k2 hn h' hl v hP
        clear hP
        repeat' (first|apply GO_seq|apply GO_skip|apply GO_block|apply GO_region|apply GOl_nil|(apply GOl_pv;(iterate 3 exact rfl))|(apply GOl_load;exact rfl;exact Ld_blk rfl QM rfl;exact rfl;exact rfl)|(apply GOl_ov;exact rfl;exact rfl;(first|(apply OV_idxS (j:=j);(iterate 5 exact rfl);exact a1;(with_reducible exact rfl);omega)|(apply OV_load;exact rfl;exact Lv_ro rfl c1 rfl));exact QA)|(apply GOl_to;(iterate 3 exact rfl);(first|(apply OpTo_store;(iterate 3 exact rfl);exact QR;(iterate 3 exact rfl);skip)|(apply OpTo_alloc;exact rfl;intro b;skip)|(apply OpTo_res;exact rfl;exact has43;exact q1 _ (by first|exact Le.refl _|assumption|(repeat (first|assumption|(apply Le.trans;assumption))));rintro w2 h2 hle2 ⟨A2,m2,c2,l2,rfl,hL2⟩;skip)|(apply OpTo_res;exact rfl;exact has44;exact q2 _ (by first|exact Le.refl _|assumption|(repeat (first|assumption|(apply Le.trans;assumption))));rintro w3 h3 hle3 ⟨A3,m3,c3,l3,rfl,hL3⟩;skip)|(apply OpTo_val;exact rfl;exact has34;exact same8_t _ (hL2.le (by first|exact Le.refl _|assumption|(repeat (first|assumption|(apply Le.trans;assumption))))) (hL3.le (by first|exact Le.refl _|assumption|(repeat (first|assumption|(apply Le.trans;assumption)))));skip)|(apply OpTo_buildSliceS (enc:=encI) (n:=3) [day,v,known];(iterate 3 exact rfl);exact List.cons_ne_nil _ _;(iterate 4 exact rfl);exact (fun _ => rfl);exact rfl;exact rfl;intro bz2 hz2 hlez2 hs2;skip)))|(apply GO_cond;exact rfl;all_goals (intro hc;try simp only [hcS,reduceCtorEq] at hc;try (exfalso;omega))))
        all_goals (try (exfalso;first|omega|(simp [eqI_eq] at hc;done)))
        have hhz : Le hj hz2:=(by first|exact Le.refl _|assumption|(repeat (first|assumption|(apply Le.trans;assumption))))
        obtain ⟨V,hV⟩ : ∃ V,V = [day,v,known]:=⟨_,rfl⟩
        rw [← hV] at hs2
        clear hV
        refine GO_loopT (X:=Nat × Ro) (fun x => x.1 ≤ 3 ∧ Le hz2 x.2) (fun x => 3 - x.1)
          (fun x => [(81,.int .i64 x.1),(80,.int .i64 (3 : Nat)),(79,.slice (some ⟨bz2,0,none⟩) 3 3),(11,.int .i64 v),(51,.int .i64 j),(50,.int .i64 m),(49,.slice A4 m c4),(3,.pointer (some ⟨b3,0,none⟩)),(1,.int .i64 day),(2,.int .i64 known)])
          (fun _ => [Blk b3 47 [.slice A n c]]) (fun x => x.2) (0,hz2) ⟨by dsimp only;omega,Le.refl _⟩ QS QT rfl ?_
        rintro ⟨k,hk⟩ ⟨hk3,hlk⟩ ih2
        dsimp only at hk3 hlk ih2 ⊢
        by_cases hkn : k < 3
        · have a2:=hs2.addrD hkn
          have c9:=(hs2.cellsD 0 hkn).le hlk
          generalize V.getD k 0 = u at *
          have hhk : Le h hk:=hhj.trans (hhz.trans hlk)
          obtain ⟨⟨G,g⟩,hG9⟩ : ∃ p : List Fct × Int,viewE (fcs l) u v = p:=⟨_,rfl⟩
          have q3:=fun h' (hl : Le h h') => k3 hn h' hl u v hG9
          have q4:=fun h' (hl : Le h h') => k4 hn h' hl u v hG9
          clear hG9
          repeat' (first|apply GO_seq|apply GO_skip|apply GO_inBlock|apply GO_block|apply GO_region|apply GOl_nil|(apply GOl_add;(iterate 3 exact rfl);omega;exact rfl;exact rfl)|(apply GOl_pv;(iterate 3 exact rfl))|(apply GOl_load;exact rfl;exact Ld_blk rfl QM rfl;exact rfl;exact rfl)|(apply GOl_ov;exact rfl;exact rfl;(first|(apply OV_idxS (j:=k);(iterate 5 exact rfl);exact a2;(with_reducible exact rfl);omega)|(apply OV_load;exact rfl;exact Lv_ro rfl c9 rfl));exact QA)|(apply GOl_to;(iterate 3 exact rfl);(first|(apply OpTo_res;exact rfl;exact has37;exact q3 _ (by first|exact Le.refl _|assumption|(repeat (first|assumption|(apply Le.trans;assumption))));rintro w4 h4 hle4 ⟨A5,m5,c5,l5,rfl,hL5,hf5⟩;skip)|(apply OpTo_res;exact rfl;exact has45;exact q4 _ (by first|exact Le.refl _|assumption|(repeat (first|assumption|(apply Le.trans;assumption))));rintro w5 h5 hle5 ⟨A6,m6,c6,l6,rfl,hL6,hf6⟩;skip)|(apply OpTo_val;exact rfl;exact has46;exact sameF_t _ (hL5.le (by first|exact Le.refl _|assumption|(repeat (first|assumption|(apply Le.trans;assumption))))) (hL6.le (by first|exact Le.refl _|assumption|(repeat (first|assumption|(apply Le.trans;assumption))))) (hf5.trans hf6.symm);skip)))|(apply GO_cond;exact rfl;all_goals (intro hc;try simp only [hcS,reduceCtorEq] at hc;try (exfalso;omega))))
          all_goals (try (exfalso;first|omega|(simp [eqI_eq] at hc;done)))
          all_goals
            have h9:=ih2 (k + 1,h5) ⟨by dsimp only;omega,by dsimp only;exact hlk.trans (by first|exact Le.refl _|assumption|(repeat (first|assumption|(apply Le.trans;assumption))))⟩ (by dsimp only;omega)
            dsimp only at h9
            refine GO_fit QS QT (h9)
        · clear ih2
          repeat' (first|apply GO_seq|apply GO_inBlock|apply GO_region|apply GOl_nil|(apply GO_exit;exact rfl)|(apply GOl_add;(iterate 3 exact rfl);omega;exact rfl;exact rfl)|(apply GOl_pv;(iterate 3 exact rfl))|(apply GO_cond;exact rfl;all_goals (intro hc;try simp only [hcS,reduceCtorEq] at hc;try (exfalso;omega))))
          all_goals (try (exfalso;omega))
          all_goals
            have h9:=ih (j + 1,hk) ⟨by dsimp only;omega,by dsimp only;exact hlj.trans (hhz.trans hlk)⟩ (by dsimp only;omega)
            dsimp only at h9
            refine GO_fit QS QT (h9)
      · clear ih
        repeat' (first|apply GO_seq|apply GO_region|apply GOl_nil|(apply GO_exit;exact rfl)|(apply GOl_pv;(iterate 3 exact rfl))|(apply GO_cond;exact rfl;all_goals (intro hc;try simp only [hcS,reduceCtorEq] at hc;try (exfalso;omega))))
        all_goals first
          | (exfalso;omega)
          | (exact GO_retV1 rfl rfl rfl rfl)
  · repeat' (first|apply GO_seq|apply GO_skip|apply GO_region|apply GOl_nil|(apply GOl_pv;(iterate 3 exact rfl))|(apply GOl_load;exact rfl;exact Ld_blk rfl QM rfl;exact rfl;exact rfl)|(apply GOl_to;(iterate 3 exact rfl);(first|(apply OpTo_val;exact rfl;exact has30;exact hsane;skip)|(apply OpTo_res;exact rfl;exact has31;exact few8_c _ A n c l (hrow.le (by first|exact Le.refl _|assumption|(repeat (first|assumption|(apply Le.trans;assumption))))) hsm 14;rintro w1 h1 hle1 ⟨b1,rfl,hb⟩;cases b1;all_goals skip)))|(apply GO_cond;exact rfl;all_goals (intro hc;try simp only [hcS,reduceCtorEq] at hc;try (exfalso;omega)))|(apply GO_retV1;(iterate 3 exact rfl)))
    all_goals first
      | rfl
      | (exfalso;omega)
      | (exfalso;exact hn (hb rfl))
end Go.Hw

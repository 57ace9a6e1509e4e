import Derived.Test.YtajmniiiahhfaaaGreatDoorUR18
set_option linter.unusedVariables false
set_option linter.unusedSimpArgs false
set_option maxRecDepth 100000
set_option maxHeartbeats 8000000
namespace Go.Hw
open Go
attribute [local irreducible] GO GOl GDp Val Fn Res CellsAt ValE Blk OwnS MapA OwnPf Has Yl idF
open Go.Proofs (Tryz.prog)
theorem same3_c (h : Ro) (X : List (List UInt8)) (hX : ∀ v ∈ X,v.length = 32) (A : Option Addr) (n c : Nat) (hx : SlOf voidC 32 h A n X) (B : Option Addr) (m d : Nat) (hy : SlOf voidC 32 h B m X) (hn : n ≤ 1000000) : Val Tryz.prog 51 #[.slice A n c,.slice B m d] h (.bool true):=by
  refine Val_intro (args:=[_,_]) ts_ok Go.Proofs.Tryz.func51 rfl rfl fun w0 X0 => ?_
  have hlen:=hx.len
  have hmn : m = n:=hy.len.symm.trans hlen
  subst hmn
  repeat' (first|apply GO_seq|apply GO_skip|apply GO_block|apply GO_region|apply GOl_nil|(apply GOl_pv;(iterate 3 exact rfl))|(apply GO_cond;exact rfl;all_goals (intro hc;try simp only [hcS,reduceCtorEq] at hc;try (exfalso;omega))))
  all_goals (try (exfalso;omega))
  refine GO_loopT (X:=Nat) (fun i => i ≤ m) (fun i => m - i) (fun i => [(5,.int .i64 i),(0,.slice A m c),(1,.slice B m d)]) (fun _ => []) (fun _ => h) 0 (by omega) QS QT rfl ?_
  intro i hi ih
  by_cases hin : i < m
  · have a1:=hx.addrD hin
    have a2:=hy.addrD hin
    have c1:=hx.cellsD [] hin
    have c2:=hy.cellsD [] hin
    have hv:=hX _ (mem7 [] (show i < X.length by omega))
    generalize X.getD i [] = y at *
    have h3:=ih (i + 1) (by omega) (by omega)
    repeat' (first|apply GO_seq|apply GO_skip|apply GO_inBlock|apply GO_block|apply GO_region|apply GOl_nil|(apply GOl_add;(iterate 3 exact rfl);omega;exact rfl;exact rfl)|(apply GOl_pv;(iterate 3 exact rfl))|(apply GO_drawp (n:=6) [0,1,2,3,4,5,6,7,8] [(0,0),(1,0),(2,0),(3,0),(4,0),(5,0),(6,0),(7,0),(8,0)];kernel_rfl)|(apply GP_pv;exact rfl;kernel_rfl;(iterate 3 exact rfl))|(apply GP_ov;exact rfl;kernel_rfl;exact rfl;exact rfl;(first|(apply OV_idxS (j:=i);(iterate 5 exact rfl);exact a1;(with_reducible exact rfl);omega)|(apply OV_idxS (j:=i);(iterate 5 exact rfl);exact a2;(with_reducible exact rfl);omega)|(apply OV_load;exact rfl;exact Lv_ro rfl c1 rfl)|(apply OV_load;exact rfl;exact Lv_ro rfl c2 rfl)|(apply OV_neqR;exact rfl;exact rfl;(exact Option.isSome_iff_exists.2 ⟨_,void_eq y y hv hv⟩);kernel_rfl;kernel_rfl));exact QA)|(apply GP_done;kernel_rfl;exact rfl)|(apply GO_cond;exact rfl;all_goals (intro hc;try simp only [hcS,reduceCtorEq] at hc;try (exfalso;omega))))
    all_goals first
      | (exfalso;omega)
      | (refine GO_fit QS QT (h3))
  · clear ih
    repeat' (first|apply GO_seq|apply GO_region|apply GOl_nil|(apply GO_exit;exact rfl)|(apply GOl_pv;(iterate 3 exact rfl))|(apply GO_cond;exact rfl;all_goals (intro hc;try simp only [hcS,reduceCtorEq] at hc;try (exfalso;omega)))|(apply GO_retV1;(iterate 3 exact rfl)))
    all_goals first
      | (exfalso;omega)
      | rfl
theorem addLed_e (h : Ro) (hG : PowG h) (A : Option Addr) (n c : Nat) (l : List (Fsh × Fct)) (hx : FactsAt h A n l) (hnc : n ≤ c) (s : Fsh) (f : Fct) (hf : FAt h s f) (hs : FSm f) {P : List Fct} {b : Bool} {e : Int} (he : addL (fcs l) f = (P,b,e)) : Res Tryz.prog 41 #[ledV A n c,factV s f] h (fun u h' => ∃ A k c l',u = .tuple #[ledV A k c,.bool b,.int .i64 e] ∧ LedIs h' A k c l' P):=by
  refine (addLed_c h hG A n c l hx hnc s f hf hs).mono ?_
  rintro u h2 _ ⟨v,rfl,ho⟩
  rw [he] at ho ⊢
  obtain ⟨A9,k,c9,l9,rfl,hL⟩:=ledOut_facts ho
  exact ⟨A9,k,c9,l9,rfl,hL⟩
theorem addR_e (h : Ro) (A : Option Addr) (n c : Nat) (l : List (Fsh × Fct)) (hx : FactsAt h A n l) (hnc : n ≤ c) (hn : n ≤ 65535) (s : Fsh) (f : Fct) (hf : FAt h s f) (hs : FSm f) {P : List Fct} {b : Bool} {e : Int} (he : addL (fcs l) f = (P,b,e)) : Res Tryz.prog 47 #[ledV A n c,factV s f] h (fun u h' => ∃ A k c l',u = .tuple #[ledV A k c,.bool b,.int .i64 e] ∧ LedIs h' A k c l' P):=by
  refine (addR_c h A n c l hx hnc hn s f hf hs).mono ?_
  rintro u h2 _ ⟨v,rfl,ho⟩
  rw [he] at ho ⊢
  obtain ⟨A9,k,c9,l9,rfl,hL⟩:=ledOut_facts ho
  exact ⟨A9,k,c9,l9,rfl,hL⟩
theorem mergeLed_e (h : Ro) (hG : PowG h) (A : Option Addr) (n c : Nat) (l : List (Fsh × Fct)) (hx : FactsAt h A n l) (hnc : n ≤ c) (B : Option Addr) (m d : Nat) (r : List (Fsh × Fct)) (hy : FactsAt h B m r) (hmd : m ≤ d) {P : List Fct} {e : Int} (he : mergeL (fcs l) (fcs r) = (P,e)) : Res Tryz.prog 42 #[ledV A n c,ledV B m d] h (fun u h' => ∃ A k c l',u = .tuple #[ledV A k c,.int .i64 e] ∧ LedIs h' A k c l' P):=by
  refine (mergeLed_c h hG A n c l hx hnc B m d r hy hmd).mono ?_
  rintro u h2 _ ⟨v,rfl,ho⟩
  rw [he] at ho ⊢
  obtain ⟨A9,k,c9,l9,rfl,hL⟩:=ledOut_facts ho
  exact ⟨A9,k,c9,l9,rfl,hL⟩
theorem mergeR_e (h : Ro) (A : Option Addr) (n c : Nat) (l : List (Fsh × Fct)) (hx : FactsAt h A n l) (B : Option Addr) (m d : Nat) (r : List (Fsh × Fct)) (hy : FactsAt h B m r) (hnm : n + m ≤ 65536) {P : List Fct} {e : Int} (he : mergeL (fcs l) (fcs r) = (P,e)) : Res Tryz.prog 48 #[ledV A n c,ledV B m d] h (fun u h' => ∃ A k c l',u = .tuple #[ledV A k c,.int .i64 e] ∧ LedIs h' A k c l' P):=by
  refine (mergeR_c h A n c l hx B m d r hy hnm).mono ?_
  rintro u h2 _ ⟨v,rfl,ho⟩
  rw [he] at ho ⊢
  obtain ⟨A9,k,c9,l9,rfl,hL⟩:=ledOut_facts ho
  exact ⟨A9,k,c9,l9,rfl,hL⟩
theorem missing_e (h : Ro) (hG : PowG h) (A : Option Addr) (n c : Nat) (l : List (Fsh × Fct)) (hx : FactsAt h A n l) (B : Option Addr) (m d : Nat) (r : List (Fsh × Fct)) (hy : FactsAt h B m r) {X : List (List UInt8)} {e : Int} (he : missE (fcs l) (fcs r) = (X,e)) : Res Tryz.prog 49 #[ledV A n c,ledV B m d] h (fun u h' => ∃ A' k c',u = .tuple #[.slice A' k c',.int .i64 e] ∧ SlOf voidC 32 h' A' k X ∧ k ≤ 1000000):=by
  have:=missing_c h hG A n c l hx B m d r hy
  rw [he] at this
  exact this
theorem missingR_e (h : Ro) (A : Option Addr) (n c : Nat) (l : List (Fsh × Fct)) (hx : FactsAt h A n l) (B : Option Addr) (m d : Nat) (r : List (Fsh × Fct)) (hy : FactsAt h B m r) {X : List (List UInt8)} {e : Int} (he : missE (fcs l) (fcs r) = (X,e)) : Res Tryz.prog 50 #[ledV A n c,ledV B m d] h (fun u h' => ∃ A' k c',u = .tuple #[.slice A' k c',.int .i64 e] ∧ SlOf voidC 32 h' A' k X ∧ k ≤ 1000000):=by
  have:=missingR_c h A n c l hx B m d r hy
  rw [he] at this
  exact this
theorem missE_32 {a b : List Fct} {X : List (List UInt8)} {e : Int} (he : missE a b = (X,e)) : ∀ v ∈ X,v.length = 32:=by
  intro v hv
  unfold missE at he
  split at he
  · injection he with e1 e2;subst e1;cases hv
  · split at he
    · injection he with e1 e2;subst e1;cases hv
    · injection he with e1 e2
      subst e1
      obtain ⟨f,_,rfl⟩:=List.mem_map.1 hv
      exact idF_len f
theorem addSpec_law (h : Ro) (hG : PowG h) (A : Option Addr) (n c : Nat) (l : List (Fsh × Fct)) (hx : LedIn h A n c l) (B : Option Addr) (m d : Nat) (r : List (Fsh × Fct)) (hy : LedIn h B m d r) (s : Fsh) (f : Fct) (hf : FAt h s f) (hs : FSm f) : Val Tryz.prog 12 #[ledV A n c,ledV B m d,factV s f] h (.bool true):=by
  refine Val_intro (args:=[_,_,_]) ts_ok Go.Proofs.Tryz.func12 rfl rfl fun w0 X0 => ?_
  have hsane:=sane8_c h hG
  have hrow:=hx.row
  have hsm:=hx.small
  have hrow2:=hy.row
  have hsm2:=hy.small
  obtain ⟨⟨P,b,e⟩,hP⟩ : ∃ p : List Fct × Bool × Int,addL (fcs l) f = p:=⟨_,rfl⟩
  obtain ⟨⟨Q,e2⟩,hQ⟩ : ∃ p : List Fct × Int,mergeL (fcs l) (fcs r) = p:=⟨_,rfl⟩
  obtain ⟨⟨X,e3⟩,hM⟩ : ∃ p : List (List UInt8) × Int,missE (fcs l) (fcs r) = p:=⟨_,rfl⟩
  have hX:=missE_32 hM
  have k1:=fun (hn : (n : Int) ≤ 14) h' (hl : Le h h') => addLed_e h' (hG.le hl) A n c l ((hx.facts hn).le hl) hx.cap s f (hf.le hl) hs hP
  have k2:=fun (hn : (n : Int) ≤ 14) h' (hl : Le h h') => addR_e h' A n c l ((hx.facts hn).le hl) hx.cap (by omega) s f (hf.le hl) hs hP
  have k3:=fun (hn : (n : Int) ≤ 14) (hm : (m : Int) ≤ 14) h' (hl : Le h h') => mergeLed_e h' (hG.le hl) A n c l ((hx.facts hn).le hl) hx.cap B m d r ((hy.facts hm).le hl) hy.cap hQ
  have k4:=fun (hn : (n : Int) ≤ 14) (hm : (m : Int) ≤ 14) h' (hl : Le h h') => mergeR_e (c:=c) (d:=d) h' A n l ((hx.facts hn).le hl) B m r ((hy.facts hm).le hl) (by omega) hQ
  have k5:=fun (hn : (n : Int) ≤ 14) (hm : (m : Int) ≤ 14) h' (hl : Le h h') => missing_e (c:=c) (d:=d) h' (hG.le hl) A n l ((hx.facts hn).le hl) B m r ((hy.facts hm).le hl) hM
  have k6:=fun (hn : (n : Int) ≤ 14) (hm : (m : Int) ≤ 14) h' (hl : Le h h') => missingR_e (c:=c) (d:=d) h' A n l ((hx.facts hn).le hl) B m r ((hy.facts hm).le hl) hM
  clear hP hQ hM
  repeat' (first|apply GO_seq|apply GO_skip|apply GO_region|apply GOl_nil|(apply GOl_unwanted;exact rfl;exact rfl)|(apply GOl_pv;(iterate 3 exact rfl))|(apply GOl_load;exact rfl;exact Ld_blk rfl QM rfl;exact rfl;exact rfl)|(apply GOl_to;(iterate 3 exact rfl);(first|(apply OpTo_store;(iterate 3 exact rfl);exact QR;(iterate 3 exact rfl);skip)|(apply OpTo_box;exact rfl;intro b;skip)|(apply OpTo_alloc;exact rfl;intro b;skip)|(apply OpTo_val;exact rfl;exact has30;exact hsane;skip)|(apply OpTo_res;exact rfl;exact has31;exact few8_c _ A n c l (hrow.le (by first|exact Le.refl _|assumption|(repeat (first|assumption|(apply Le.trans;assumption))))) hsm 14;rintro w1 h1 hle1 ⟨b1,rfl,hb⟩;cases b1;all_goals skip)|(apply OpTo_res;exact rfl;exact has31;exact few8_c _ B m d r (hrow2.le (by first|exact Le.refl _|assumption|(repeat (first|assumption|(apply Le.trans;assumption))))) hsm2 14;rintro w1 h2 hle2 ⟨b1,rfl,hb2⟩;cases b1;all_goals skip)|(apply OpTo_buildSliceS (enc:=encF82) (n:=1) [(s,f)];(iterate 3 exact rfl);exact List.cons_ne_nil _ _;(iterate 4 exact rfl);exact encF82_len;exact rfl;exact rfl;intro bz hz1 hlez hsz;skip)|(apply OpTo_res;exact rfl;exact has31;exact few8_c _ _ 1 _ [(s,f)] hsz (by omega) 1;rintro w1 h3 hle3 ⟨b1,rfl,hb3⟩;cases b1;all_goals skip)|(apply OpTo_res;exact rfl;exact has41;exact k1 (hb rfl) _ (by first|exact Le.refl _|assumption|(repeat (first|assumption|(apply Le.trans;assumption))));rintro w2 h4 hle4 ⟨A2,m2,c2,l2,rfl,hL2⟩;skip)|(apply OpTo_res;exact rfl;exact has47;exact k2 (hb rfl) _ (by first|exact Le.refl _|assumption|(repeat (first|assumption|(apply Le.trans;assumption))));rintro w3 h5 hle5 ⟨A3,m3,c3,l3,rfl,hL3⟩;skip)|(apply OpTo_res;exact rfl;exact has42;exact k3 (hb rfl) (hb2 rfl) _ (by first|exact Le.refl _|assumption|(repeat (first|assumption|(apply Le.trans;assumption))));rintro w4 h6 hle6 ⟨A4,m4,c4,l4,rfl,hL4⟩;skip)|(apply OpTo_res;exact rfl;exact has48;exact k4 (hb rfl) (hb2 rfl) _ (by first|exact Le.refl _|assumption|(repeat (first|assumption|(apply Le.trans;assumption))));rintro w5 h7 hle7 ⟨A5,m5,c5,l5,rfl,hL5⟩;skip)|(apply OpTo_res;exact rfl;exact has49;exact k5 (hb rfl) (hb2 rfl) _ (by first|exact Le.refl _|assumption|(repeat (first|assumption|(apply Le.trans;assumption))));rintro w6 h8 hle8 ⟨A6,m6,c6,rfl,hL6,hm6⟩;skip)|(apply OpTo_res;exact rfl;exact has50;exact k6 (hb rfl) (hb2 rfl) _ (by first|exact Le.refl _|assumption|(repeat (first|assumption|(apply Le.trans;assumption))));rintro w7 h9 hle9 ⟨A7,m7,c7,rfl,hL7,hm7⟩;skip)|(apply OpTo_val;exact rfl;exact has34;(first|exact same8_t _ (hL2.le (by first|exact Le.refl _|assumption|(repeat (first|assumption|(apply Le.trans;assumption))))) (hL3.le (by first|exact Le.refl _|assumption|(repeat (first|assumption|(apply Le.trans;assumption)))))|exact same8_t _ (hL4.le (by first|exact Le.refl _|assumption|(repeat (first|assumption|(apply Le.trans;assumption))))) (hL5.le (by first|exact Le.refl _|assumption|(repeat (first|assumption|(apply Le.trans;assumption))))));skip)|(apply OpTo_val;exact rfl;exact has51;exact same3_c _ X hX A6 m6 c6 (hL6.le (by first|exact Le.refl _|assumption|(repeat (first|assumption|(apply Le.trans;assumption))))) A7 m7 c7 (hL7.le (by first|exact Le.refl _|assumption|(repeat (first|assumption|(apply Le.trans;assumption))))) hm6;skip)))|(apply GO_cond;exact rfl;all_goals (intro hc;try simp only [hcS,reduceCtorEq] at hc;try (exfalso;omega)))|(apply GOl_split;exact rfl;exact rfl;all_goals (intro hc;try simp only [hcS,reduceCtorEq] at hc;try (exfalso;omega)))|(apply GO_retV1;(iterate 3 exact rfl)))
  all_goals first
    | rfl
    | (exfalso;omega)
    | (rw [eqI_eq,decide_eq_true rfl])
    | (exfalso;simp [eqI_eq] at hc;done)
end Go.Hw
